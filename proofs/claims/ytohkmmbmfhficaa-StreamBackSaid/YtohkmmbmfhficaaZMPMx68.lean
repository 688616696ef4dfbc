/- Words and walks that this claim names, of those that the kit's print and programs of this workplace have printed. -/
import Derived.Test.YtohkmmbmfhficaaZMCz
import Derived.Test.YtohkmmbmfhficaaZMPMx5
import Derived.Test.YtohkmmbmfhficaaZMPMx62
namespace Go.Proofs.Ytohkmmbmfhficaa.PM
open Go.Proofs.Ytohkmmbmfhficaa Go.RowKit Go.Proofs.YtohkmmbmfhficaaW.PrintWords Go.Proofs.YtohkmmbmfhficaaW.PrintLast Go.Proofs.YtohkmmbmfhficaaW.PrintMore
attribute [local go_sem] max2_int min2_int max_two min_two max_three min_three max_four min_four
set_option linter.unusedVariables false
set_option linter.unusedSimpArgs false
def stream_Read.f (l0 : List Int) : Option (Int × Int × Int × (List (S36)) × Int) := (stream_Begin.f l0).bind fun bt229 => (if bt229.2.2.2.2 = 0 then (some (bt229.1, bt229.2.1, bt229.2.2.1, bt229.2.2.2.1, 0)) else (some (0, 0, 0, ([] : List (S36)), 170)))
set_option maxHeartbeats 8000000 in
set_option maxRecDepth 100000 in
theorem stream_Read.calls (A0 : Option Addr) (c0 : Nat) (l0 : List Int) (r1 : Int) (r2 : Int) (r3 : Int) (r4 : List (S36)) (r5 : Int) (w : World) (hr0 : Kd.C (Kd.int .u8) w A0 l0.length l0) (hc0 : l0.length ≤ c0) (h : stream_Read.f l0 = some (r1, r2, r3, r4, r5)) :
  Calls Try.prog 28 #[.slice A0 l0.length c0] w fun e w' => ∃ v3_ : Value, e = .returned (.tuple #[.agg #[.int .i64 r1, .int .i64 r2, .int .i64 r3, v3_], .int .i64 r5]) ∧ Kd.R k36 36 w' w.heap.size (fun _ => True) v3_ r4 ∧ Below w.heap.size w w' := by
 have hu24 := Try.underlying24
 have HR0 := Aside0.mk hr0
 have HC0 := Aside0.mk hc0
 clear hr0 hc0
 have HB := Aside0.mk (Below.refl w.heap.size w)
 have H : ((stream_Begin.f l0).bind fun bt229 => (if bt229.2.2.2.2 = 0 then (some (bt229.1, bt229.2.1, bt229.2.2.1, bt229.2.2.2.1, 0)) else (some (0, 0, 0, ([] : List (S36)), 170)))) = some (r1, r2, r3, r4, r5) := h
 clear h
 replace H := Option.bind_eq_some_iff.mp H
 obtain ⟨⟨t229, t230, t231, t232, t235⟩, A20, H⟩ := H
 (try dsimp only at H)
 have A2 := Aside0.mk A20
 clear A20
 by_cases c3 : t235 = 0
 ·rw [if_pos c3] at H
  have c3b0 : (t235 == 0) = true := beq_iff_eq.mpr c3
  have c3b1 : (t235 != 0) = false := bne_eq_false_iff_eq.mpr c3
  clear c3
  simp only [Option.some.injEq, Prod.mk.injEq] at H
  obtain ⟨rfl, rfl, rfl, rfl, rfl⟩ := H
  go_enter Try.func28, Try.ntmps28
  go_wp2_with (first | ((with_reducible refine gate_dst (N := 2) rfl ?_); refine Cz.bx (N := 2) #[.int .i64 0, .int .i64 0, .int .i64 0, .slice none 0 0] 24 ?_; intro gb228 hg w4 hbox hb; have BK228 := Aside0.mk (hbox); have GW228 := Aside0.mk ((Cz.gs hg : w.heap.size ≤ gb228)); have GE228 := GW228; replace HB := Cz.bs (w := w) hb; clear hb hbox hg) | ((with_reducible refine gate_callee (f := 17) rfl ?_); refine Cz.gL (N := (some 8)) Try.func17 #[.slice A0 l0.length c0] ?_; (with_reducible refine (stream_Begin.calls _ _ l0 t229 t230 t231 t232 t235 _ ?side1 ?side2 A2.out).mono ?_); (case side1 => exact Cz.cb HR0); (case side2 => exact HC0.out); rintro e w5 ⟨v233, rfl, ho0, hb⟩; refine ⟨_, rfl, ?_⟩; have HO234 := Aside0.mk (Kd.R_lower ho0 (below_size (Cz.bl (w := w)))); replace BK228 := Cz.bk BK228 hb; replace HB := Cz.bs (w := w) hb; (try clear hb); (try clear ho0)) | ((with_reducible refine gate_dst (N := 4) rfl ?_); refine Cz.bx (N := 4) #[.int .i64 0, .int .i64 0, .int .i64 0, .slice none 0 0] 24 ?_; intro gb236 hg w6 hbox hb; have BK236 := Aside0.mk (hbox); have GW236 := Aside0.mk ((Cz.gs hg : w.heap.size ≤ gb236)); have GE236 := GW236; have NB228_236 := Aside0.mk ((Cz.nl BK228 hg : gb228 ≠ gb236)); have NB236_228 := Aside0.mk ((Cz.nr BK228 hg : gb236 ≠ gb228)); replace HO234 := Cz.rb HO234 hb; replace BK228 := Cz.bk BK228 hb; replace HB := Cz.bs (w := w) hb; clear hb hbox hg; have hnb7 := NB236_228.out; have hnc7 := NB228_236.out; obtain ⟨z8_0, z8_1, z8_2, z8_3, y8_0, y8_1, y8_2, y8_3⟩ := Cz.d4 BK236; obtain ⟨Ao9, co9, eo9⟩ := Kd.R_slice HO234.out; subst eo9; obtain ⟨z10_0, z10_1, z10_2, z10_3, y10_0, y10_1, y10_2, y10_3⟩ := Cz.d4 BK228))
  refine bodyPost_ret (results_ct rfl _ _ gb228 24 #[.int .i64 t229, .int .i64 t230, .int .i64 t231, .slice Ao9 t232.length co9] (0, 0) _ rfl (by (with_reducible repeat (first | refine blk_drewN ?_ _ | refine blk_drew ?_ | refine blk_alloc ?_ _)); apply Cz.a4; refine blk_far ?_ NB228_236.out _; refine blk_far ?_ NB228_236.out _; refine blk_far ?_ NB228_236.out _; refine blk_far ?_ NB228_236.out _; (with_reducible repeat (first | refine blk_drewN ?_ _ | refine blk_drew ?_ | refine blk_alloc ?_ _)); exact BK228.out) Try.underlying24 rfl (by kernel_rfl)) rfl ?_
  exact ⟨_, Cz.er, by (with_reducible repeat (first | apply Kd.R_alloc | apply Kd.R_drewN | apply Kd.R_drew)); exact Kd.R_mono (Cz.rf (Cz.rf (Cz.rf (Cz.rf (Kd.R_far (p := ⟨gb236, 3, none⟩) (Kd.R_far (p := ⟨gb236, 2, none⟩) (Kd.R_far (p := ⟨gb236, 1, none⟩) (Kd.R_far (p := ⟨gb236, 0, none⟩) (Kd.R_types (Kd.R_types HO234.out BK236.out (by decide)) BK228.out (by decide)) (fun _ hk => hk.1.2) (.int .i64 t229)) (fun _ hk => hk.1.2) (.int .i64 t230)) (fun _ hk => hk.1.2) (.int .i64 t231)) (fun _ hk => hk.1.2) (.slice Ao9 t232.length co9)))))) (fun _ hk => trivial), Cz.bl (w := w)⟩
 ·rw [if_neg c3] at H
  have c3b0 : (t235 == 0) = false := beq_eq_false_iff_ne.mpr c3
  have c3b1 : (t235 != 0) = true := bne_iff_ne.mpr c3
  simp only [Option.some.injEq, Prod.mk.injEq] at H
  obtain ⟨rfl, rfl, rfl, rfl, rfl⟩ := H
  go_enter Try.func28, Try.ntmps28
  go_wp2_with (first | ((with_reducible refine gate_dst (N := 2) rfl ?_); refine Cz.bx (N := 2) #[.int .i64 0, .int .i64 0, .int .i64 0, .slice none 0 0] 24 ?_; intro gb228 hg w11 hbox hb; have BK228 := Aside0.mk (hbox); have GW228 := Aside0.mk ((Cz.gs hg : w.heap.size ≤ gb228)); have GE228 := GW228; replace HB := Cz.bs (w := w) hb; clear hb hbox hg) | ((with_reducible refine gate_callee (f := 17) rfl ?_); refine Cz.gL (N := (some 8)) Try.func17 #[.slice A0 l0.length c0] ?_; (with_reducible refine (stream_Begin.calls _ _ l0 t229 t230 t231 t232 t235 _ ?side1 ?side2 A2.out).mono ?_); (case side1 => exact Cz.cb HR0); (case side2 => exact HC0.out); rintro e w12 ⟨v233, rfl, ho0, hb⟩; refine ⟨_, rfl, ?_⟩; have HO234 := Aside0.mk (Kd.R_lower ho0 (below_size (Cz.bl (w := w)))); replace BK228 := Cz.bk BK228 hb; replace HB := Cz.bs (w := w) hb; (try clear hb); (try clear ho0)) | ((with_reducible refine gate_dst (N := 4) rfl ?_); refine Cz.bx (N := 4) #[.int .i64 0, .int .i64 0, .int .i64 0, .slice none 0 0] 24 ?_; intro gb236 hg w13 hbox hb; have BK236 := Aside0.mk (hbox); have GW236 := Aside0.mk ((Cz.gs hg : w.heap.size ≤ gb236)); have GE236 := GW236; have NB228_236 := Aside0.mk ((Cz.nl BK228 hg : gb228 ≠ gb236)); have NB236_228 := Aside0.mk ((Cz.nr BK228 hg : gb236 ≠ gb228)); replace HO234 := Cz.rb HO234 hb; replace BK228 := Cz.bk BK228 hb; replace HB := Cz.bs (w := w) hb; clear hb hbox hg; have hnb14 := NB236_228.out; have hnc14 := NB228_236.out; obtain ⟨z15_0, z15_1, z15_2, z15_3, y15_0, y15_1, y15_2, y15_3⟩ := Cz.d4 BK236; obtain ⟨Ao16, co16, eo16⟩ := Kd.R_slice HO234.out; subst eo16; obtain ⟨z17_0, z17_1, z17_2, z17_3, y17_0, y17_1, y17_2, y17_3⟩ := Cz.d4 BK228))
  refine bodyPost_ret (results_ct rfl _ _ gb228 24 #[.int .i64 0, .int .i64 0, .int .i64 0, .slice none 0 0] (0, 0) _ rfl (by (with_reducible repeat (first | refine blk_drewN ?_ _ | refine blk_drew ?_ | refine blk_alloc ?_ _)); apply Cz.a4; refine blk_far ?_ NB228_236.out _; refine blk_far ?_ NB228_236.out _; refine blk_far ?_ NB228_236.out _; refine blk_far ?_ NB228_236.out _; (with_reducible repeat (first | refine blk_drewN ?_ _ | refine blk_drew ?_ | refine blk_alloc ?_ _)); exact BK228.out) Try.underlying24 rfl (by kernel_rfl)) rfl ?_
  exact ⟨_, Cz.er, by first | exact Kd.R_nil _ _ _ _ _ | exact Kd.N_nil _ _ _ _ _ | exact Kd.V_nil _ _ _ _ _ | exact Kd.Q_nil _ _ _ _ _ | exact Kd.S_nil _ _ _ _ _, Cz.bl (w := w)⟩
def waggonerref07_Same_p.f (a0_0 : Int) (a0_1 : Int) (a0_2 : Int) (a0_3 : Int) (l0_4 : List Int) (a1_0 : Int) (a1_1 : Int) (a1_2 : Int) (a1_3 : Int) (l1_4 : List Int) : Option (Bool) := if a0_0 = a1_0 then (if a0_1 = a1_1 then (if a0_2 = a1_2 then (if a0_3 = a1_3 then (some ((strOfNums l0_4).toList == (strOfNums l1_4).toList)) else (some false)) else (some false)) else (some false)) else (some false)
set_option maxHeartbeats 8000000 in
set_option maxRecDepth 100000 in
theorem waggonerref07_Same_p.calls (a0_0 : Int) (a0_1 : Int) (a0_2 : Int) (a0_3 : Int) (A0_4 : Option Addr) (c0_4 : Nat) (l0_4 : List Int) (a1_0 : Int) (a1_1 : Int) (a1_2 : Int) (a1_3 : Int) (A1_4 : Option Addr) (c1_4 : Nat) (l1_4 : List Int) (r : Bool) (w : World) (hr0_4 : Kd.C (Kd.int .u8) w A0_4 l0_4.length l0_4) (hc0_4 : l0_4.length ≤ c0_4) (hr1_4 : Kd.C (Kd.int .u8) w A1_4 l1_4.length l1_4) (hc1_4 : l1_4.length ≤ c1_4) (h : waggonerref07_Same_p.f a0_0 a0_1 a0_2 a0_3 l0_4 a1_0 a1_1 a1_2 a1_3 l1_4 = some r) :
  Calls Try.prog 76 #[.agg #[.int .i64 a0_0, .int .i64 a0_1, .int .i64 a0_2, .int .i64 a0_3, .slice A0_4 l0_4.length c0_4], .agg #[.int .i64 a1_0, .int .i64 a1_1, .int .i64 a1_2, .int .i64 a1_3, .slice A1_4 l1_4.length c1_4]] w fun e w' => e = .returned (.bool r) ∧ Below w.heap.size w w' := by
 have hu36 := Try.underlying36
 have HR0_4 := Aside0.mk hr0_4
 have HC0_4 := Aside0.mk hc0_4
 clear hr0_4 hc0_4
 have HR1_4 := Aside0.mk hr1_4
 have HC1_4 := Aside0.mk hc1_4
 clear hr1_4 hc1_4
 have HB := Aside0.mk (Below.refl w.heap.size w)
 have H : (if a0_0 = a1_0 then (if a0_1 = a1_1 then (if a0_2 = a1_2 then (if a0_3 = a1_3 then (some ((strOfNums l0_4).toList == (strOfNums l1_4).toList)) else (some false)) else (some false)) else (some false)) else (some false)) = some r := h
 clear h
 by_cases c3 : a0_0 = a1_0
 ·rw [if_pos c3] at H
  have c3b0 : (a0_0 == a1_0) = true := beq_iff_eq.mpr c3
  have c3b1 : (a0_0 != a1_0) = false := bne_eq_false_iff_eq.mpr c3
  clear c3
  by_cases c4 : a0_1 = a1_1
  ·rw [if_pos c4] at H
   have c4b0 : (a0_1 == a1_1) = true := beq_iff_eq.mpr c4
   have c4b1 : (a0_1 != a1_1) = false := bne_eq_false_iff_eq.mpr c4
   clear c4
   by_cases c5 : a0_2 = a1_2
   ·rw [if_pos c5] at H
    have c5b0 : (a0_2 == a1_2) = true := beq_iff_eq.mpr c5
    have c5b1 : (a0_2 != a1_2) = false := bne_eq_false_iff_eq.mpr c5
    clear c5
    by_cases c6 : a0_3 = a1_3
    ·rw [if_pos c6] at H
     have c6b0 : (a0_3 == a1_3) = true := beq_iff_eq.mpr c6
     have c6b1 : (a0_3 != a1_3) = false := bne_eq_false_iff_eq.mpr c6
     clear c6
     obtain rfl := Option.some.inj H
     go_enter Try.func76, Try.ntmps76
     go_wp2_with (first | ((with_reducible refine gate_dst (N := 2) rfl ?_); refine Cz.bx (N := 2) #[.int .i64 a0_0, .int .i64 a0_1, .int .i64 a0_2, .int .i64 a0_3, .slice A0_4 l0_4.length c0_4] 36 ?_; intro gb237 hg w7 hbox hb; have BK237 := Aside0.mk (hbox); have GW237 := Aside0.mk ((Cz.gs hg : w.heap.size ≤ gb237)); have GE237 := GW237; replace HB := Cz.bs (w := w) hb; clear hb hbox hg) | ((with_reducible refine gate_dst (N := 3) rfl ?_); refine Cz.bx (N := 3) #[.int .i64 a1_0, .int .i64 a1_1, .int .i64 a1_2, .int .i64 a1_3, .slice A1_4 l1_4.length c1_4] 36 ?_; intro gb238 hg w8 hbox hb; have BK238 := Aside0.mk (hbox); have GW238 := Aside0.mk ((Cz.gs hg : w.heap.size ≤ gb238)); have GE238 := GW238; have NB237_238 := Aside0.mk ((Cz.nl BK237 hg : gb237 ≠ gb238)); have NB238_237 := Aside0.mk ((Cz.nr BK237 hg : gb238 ≠ gb237)); replace BK237 := Cz.bk BK237 hb; replace HB := Cz.bs (w := w) hb; clear hb hbox hg; have hnb9 := NB237_238.out; have hnc9 := NB238_237.out; obtain ⟨z10_0, z10_1, z10_2, z10_3, z10_4, y10_0, y10_1, y10_2, y10_3, y10_4⟩ := Cz.d5 BK237; obtain ⟨z11_0, z11_1, z11_2, z11_3, z11_4, y11_0, y11_1, y11_2, y11_3, y11_4⟩ := Cz.d5 BK238; have hcv12 := Kd.C_string (P := Try.prog) (A := A0_4) (c := c0_4) Try.underlying27 Try.underlying5 Try.underlying9 (Kd.C_below HR0_4.out HB.out); (try have hcvd13 := fun (n_ : Nat) => Kd.C_string (P := Try.prog) (A := A0_4) (c := c0_4) Try.underlying27 Try.underlying5 Try.underlying9 (Kd.C_drewN (Kd.C_below HR0_4.out HB.out) n_)); have hcv14 := Kd.C_string (P := Try.prog) (A := A1_4) (c := c1_4) Try.underlying27 Try.underlying5 Try.underlying9 (Kd.C_below HR1_4.out HB.out); (try have hcvd15 := fun (n_ : Nat) => Kd.C_string (P := Try.prog) (A := A1_4) (c := c1_4) Try.underlying27 Try.underlying5 Try.underlying9 (Kd.C_drewN (Kd.C_below HR1_4.out HB.out) n_))))
     go_ret
     exact ⟨Cz.er, Cz.bl (w := w)⟩
    ·rw [if_neg c6] at H
     have c6b0 : (a0_3 == a1_3) = false := beq_eq_false_iff_ne.mpr c6
     have c6b1 : (a0_3 != a1_3) = true := bne_iff_ne.mpr c6
     obtain rfl := Option.some.inj H
     go_enter Try.func76, Try.ntmps76
     go_wp2_with (first | ((with_reducible refine gate_dst (N := 2) rfl ?_); refine Cz.bx (N := 2) #[.int .i64 a0_0, .int .i64 a0_1, .int .i64 a0_2, .int .i64 a0_3, .slice A0_4 l0_4.length c0_4] 36 ?_; intro gb237 hg w16 hbox hb; have BK237 := Aside0.mk (hbox); have GW237 := Aside0.mk ((Cz.gs hg : w.heap.size ≤ gb237)); have GE237 := GW237; replace HB := Cz.bs (w := w) hb; clear hb hbox hg) | ((with_reducible refine gate_dst (N := 3) rfl ?_); refine Cz.bx (N := 3) #[.int .i64 a1_0, .int .i64 a1_1, .int .i64 a1_2, .int .i64 a1_3, .slice A1_4 l1_4.length c1_4] 36 ?_; intro gb238 hg w17 hbox hb; have BK238 := Aside0.mk (hbox); have GW238 := Aside0.mk ((Cz.gs hg : w.heap.size ≤ gb238)); have GE238 := GW238; have NB237_238 := Aside0.mk ((Cz.nl BK237 hg : gb237 ≠ gb238)); have NB238_237 := Aside0.mk ((Cz.nr BK237 hg : gb238 ≠ gb237)); replace BK237 := Cz.bk BK237 hb; replace HB := Cz.bs (w := w) hb; clear hb hbox hg; have hnb18 := NB237_238.out; have hnc18 := NB238_237.out; obtain ⟨z19_0, z19_1, z19_2, z19_3, z19_4, y19_0, y19_1, y19_2, y19_3, y19_4⟩ := Cz.d5 BK237; obtain ⟨z20_0, z20_1, z20_2, z20_3, z20_4, y20_0, y20_1, y20_2, y20_3, y20_4⟩ := Cz.d5 BK238))
     go_ret
     exact ⟨Cz.er, Cz.bl (w := w)⟩
   ·rw [if_neg c5] at H
    have c5b0 : (a0_2 == a1_2) = false := beq_eq_false_iff_ne.mpr c5
    have c5b1 : (a0_2 != a1_2) = true := bne_iff_ne.mpr c5
    obtain rfl := Option.some.inj H
    go_enter Try.func76, Try.ntmps76
    go_wp2_with (first | ((with_reducible refine gate_dst (N := 2) rfl ?_); refine Cz.bx (N := 2) #[.int .i64 a0_0, .int .i64 a0_1, .int .i64 a0_2, .int .i64 a0_3, .slice A0_4 l0_4.length c0_4] 36 ?_; intro gb237 hg w21 hbox hb; have BK237 := Aside0.mk (hbox); have GW237 := Aside0.mk ((Cz.gs hg : w.heap.size ≤ gb237)); have GE237 := GW237; replace HB := Cz.bs (w := w) hb; clear hb hbox hg) | ((with_reducible refine gate_dst (N := 3) rfl ?_); refine Cz.bx (N := 3) #[.int .i64 a1_0, .int .i64 a1_1, .int .i64 a1_2, .int .i64 a1_3, .slice A1_4 l1_4.length c1_4] 36 ?_; intro gb238 hg w22 hbox hb; have BK238 := Aside0.mk (hbox); have GW238 := Aside0.mk ((Cz.gs hg : w.heap.size ≤ gb238)); have GE238 := GW238; have NB237_238 := Aside0.mk ((Cz.nl BK237 hg : gb237 ≠ gb238)); have NB238_237 := Aside0.mk ((Cz.nr BK237 hg : gb238 ≠ gb237)); replace BK237 := Cz.bk BK237 hb; replace HB := Cz.bs (w := w) hb; clear hb hbox hg; have hnb23 := NB237_238.out; have hnc23 := NB238_237.out; obtain ⟨z24_0, z24_1, z24_2, z24_3, z24_4, y24_0, y24_1, y24_2, y24_3, y24_4⟩ := Cz.d5 BK237; obtain ⟨z25_0, z25_1, z25_2, z25_3, z25_4, y25_0, y25_1, y25_2, y25_3, y25_4⟩ := Cz.d5 BK238))
    go_ret
    exact ⟨Cz.er, Cz.bl (w := w)⟩
  ·rw [if_neg c4] at H
   have c4b0 : (a0_1 == a1_1) = false := beq_eq_false_iff_ne.mpr c4
   have c4b1 : (a0_1 != a1_1) = true := bne_iff_ne.mpr c4
   obtain rfl := Option.some.inj H
   go_enter Try.func76, Try.ntmps76
   go_wp2_with (first | ((with_reducible refine gate_dst (N := 2) rfl ?_); refine Cz.bx (N := 2) #[.int .i64 a0_0, .int .i64 a0_1, .int .i64 a0_2, .int .i64 a0_3, .slice A0_4 l0_4.length c0_4] 36 ?_; intro gb237 hg w26 hbox hb; have BK237 := Aside0.mk (hbox); have GW237 := Aside0.mk ((Cz.gs hg : w.heap.size ≤ gb237)); have GE237 := GW237; replace HB := Cz.bs (w := w) hb; clear hb hbox hg) | ((with_reducible refine gate_dst (N := 3) rfl ?_); refine Cz.bx (N := 3) #[.int .i64 a1_0, .int .i64 a1_1, .int .i64 a1_2, .int .i64 a1_3, .slice A1_4 l1_4.length c1_4] 36 ?_; intro gb238 hg w27 hbox hb; have BK238 := Aside0.mk (hbox); have GW238 := Aside0.mk ((Cz.gs hg : w.heap.size ≤ gb238)); have GE238 := GW238; have NB237_238 := Aside0.mk ((Cz.nl BK237 hg : gb237 ≠ gb238)); have NB238_237 := Aside0.mk ((Cz.nr BK237 hg : gb238 ≠ gb237)); replace BK237 := Cz.bk BK237 hb; replace HB := Cz.bs (w := w) hb; clear hb hbox hg; have hnb28 := NB237_238.out; have hnc28 := NB238_237.out; obtain ⟨z29_0, z29_1, z29_2, z29_3, z29_4, y29_0, y29_1, y29_2, y29_3, y29_4⟩ := Cz.d5 BK237; obtain ⟨z30_0, z30_1, z30_2, z30_3, z30_4, y30_0, y30_1, y30_2, y30_3, y30_4⟩ := Cz.d5 BK238))
   go_ret
   exact ⟨Cz.er, Cz.bl (w := w)⟩
 ·rw [if_neg c3] at H
  have c3b0 : (a0_0 == a1_0) = false := beq_eq_false_iff_ne.mpr c3
  have c3b1 : (a0_0 != a1_0) = true := bne_iff_ne.mpr c3
  obtain rfl := Option.some.inj H
  go_enter Try.func76, Try.ntmps76
  go_wp2_with (first | ((with_reducible refine gate_dst (N := 2) rfl ?_); refine Cz.bx (N := 2) #[.int .i64 a0_0, .int .i64 a0_1, .int .i64 a0_2, .int .i64 a0_3, .slice A0_4 l0_4.length c0_4] 36 ?_; intro gb237 hg w31 hbox hb; have BK237 := Aside0.mk (hbox); have GW237 := Aside0.mk ((Cz.gs hg : w.heap.size ≤ gb237)); have GE237 := GW237; replace HB := Cz.bs (w := w) hb; clear hb hbox hg) | ((with_reducible refine gate_dst (N := 3) rfl ?_); refine Cz.bx (N := 3) #[.int .i64 a1_0, .int .i64 a1_1, .int .i64 a1_2, .int .i64 a1_3, .slice A1_4 l1_4.length c1_4] 36 ?_; intro gb238 hg w32 hbox hb; have BK238 := Aside0.mk (hbox); have GW238 := Aside0.mk ((Cz.gs hg : w.heap.size ≤ gb238)); have GE238 := GW238; have NB237_238 := Aside0.mk ((Cz.nl BK237 hg : gb237 ≠ gb238)); have NB238_237 := Aside0.mk ((Cz.nr BK237 hg : gb238 ≠ gb237)); replace BK237 := Cz.bk BK237 hb; replace HB := Cz.bs (w := w) hb; clear hb hbox hg; have hnb33 := NB237_238.out; have hnc33 := NB238_237.out; obtain ⟨z34_0, z34_1, z34_2, z34_3, z34_4, y34_0, y34_1, y34_2, y34_3, y34_4⟩ := Cz.d5 BK237; obtain ⟨z35_0, z35_1, z35_2, z35_3, z35_4, y35_0, y35_1, y35_2, y35_3, y35_4⟩ := Cz.d5 BK238))
  go_ret
  exact ⟨Cz.er, Cz.bl (w := w)⟩
def waggonerref07_Same.f (a0_0 a0_1 a0_2 a0_3 : Int) (l0_4 : List Int) (a1_0 a1_1 a1_2 a1_3 : Int) (l1_4 : List Int) : Option Bool := if Pl.byteB l0_4 = true ∧ Pl.byteB l1_4 = true then some (decide (((a0_0, a0_1, a0_2, a0_3, l0_4) : Pl.Ext) = (a1_0, a1_1, a1_2, a1_3, l1_4))) else none
theorem waggonerref07_Same.tells {a0_0 a0_1 a0_2 a0_3 : Int} {l0_4 : List Int} {a1_0 a1_1 a1_2 a1_3 : Int} {l1_4 : List Int} (h0 : Pl.byteB l0_4 = true) (h1 : Pl.byteB l1_4 = true) : waggonerref07_Same.f a0_0 a0_1 a0_2 a0_3 l0_4 a1_0 a1_1 a1_2 a1_3 l1_4 = some (decide (((a0_0, a0_1, a0_2, a0_3, l0_4) : Pl.Ext) = (a1_0, a1_1, a1_2, a1_3, l1_4))) := if_pos ⟨h0, h1⟩
theorem waggonerref07_Same.closes {a0_0 a0_1 a0_2 a0_3 : Int} {l0_4 : List Int} {a1_0 a1_1 a1_2 a1_3 : Int} {l1_4 : List Int} {r : Bool} (h : waggonerref07_Same.f a0_0 a0_1 a0_2 a0_3 l0_4 a1_0 a1_1 a1_2 a1_3 l1_4 = some r) : waggonerref07_Same_p.f a0_0 a0_1 a0_2 a0_3 l0_4 a1_0 a1_1 a1_2 a1_3 l1_4 = some r := by
 unfold waggonerref07_Same.f at h
 split at h
 case isFalse => cases h
 rename_i hh
 rw [← h]
 unfold waggonerref07_Same_p.f
 rw [Pl.str_eq hh.1 hh.2]
 by_cases h0 : a0_0 = a1_0
 rotate_left
 ·rw [if_neg h0, decide_eq_false (fun e => h0 (congrArg (fun p : Pl.Ext => p.1) e))]
 by_cases h1 : a0_1 = a1_1
 rotate_left
 ·rw [if_pos h0, if_neg h1, decide_eq_false (fun e => h1 (congrArg (fun p : Pl.Ext => p.2.1) e))]
 by_cases h2 : a0_2 = a1_2
 rotate_left
 ·rw [if_pos h0, if_pos h1, if_neg h2, decide_eq_false (fun e => h2 (congrArg (fun p : Pl.Ext => p.2.2.1) e))]
 by_cases h3 : a0_3 = a1_3
 rotate_left
 ·rw [if_pos h0, if_pos h1, if_pos h2, if_neg h3, decide_eq_false (fun e => h3 (congrArg (fun p : Pl.Ext => p.2.2.2.1) e))]
 rw [if_pos h0, if_pos h1, if_pos h2, if_pos h3, Option.some.injEq, Bool.eq_iff_iff, beq_iff_eq, decide_eq_true_eq, h0, h1, h2, h3]
 constructor
 ·intro e; rw [e]
 ·intro e; exact congrArg (fun p : Pl.Ext => p.2.2.2.2) e
theorem waggonerref07_Same.calls (a0_0 : Int) (a0_1 : Int) (a0_2 : Int) (a0_3 : Int) (A0_4 : Option Addr) (c0_4 : Nat) (l0_4 : List Int) (a1_0 : Int) (a1_1 : Int) (a1_2 : Int) (a1_3 : Int) (A1_4 : Option Addr) (c1_4 : Nat) (l1_4 : List Int) (r : Bool) (w : World) (hr0_4 : Kd.C (Kd.int .u8) w A0_4 l0_4.length l0_4) (hc0_4 : l0_4.length ≤ c0_4) (hr1_4 : Kd.C (Kd.int .u8) w A1_4 l1_4.length l1_4) (hc1_4 : l1_4.length ≤ c1_4) (h : waggonerref07_Same.f a0_0 a0_1 a0_2 a0_3 l0_4 a1_0 a1_1 a1_2 a1_3 l1_4 = some r) :
  Calls Try.prog 76 #[.agg #[.int .i64 a0_0, .int .i64 a0_1, .int .i64 a0_2, .int .i64 a0_3, .slice A0_4 l0_4.length c0_4], .agg #[.int .i64 a1_0, .int .i64 a1_1, .int .i64 a1_2, .int .i64 a1_3, .slice A1_4 l1_4.length c1_4]] w fun e w' => e = .returned (.bool r) ∧ Below w.heap.size w w' :=
 waggonerref07_Same_p.calls a0_0 a0_1 a0_2 a0_3 A0_4 c0_4 l0_4 a1_0 a1_1 a1_2 a1_3 A1_4 c1_4 l1_4 r w hr0_4 hc0_4 hr1_4 hc1_4 (waggonerref07_Same.closes h)
def waggonerref07_All_p.l0 : Nat → List (S36) → List (S36) → Int → Option (Bool)
 | 0, _, _, _ => none
 | k + 1, x0, x1, x5 => if x5 < (x0.length : Int) then (if 0 ≤ x5 then (if x5 < (x1.length : Int) then ((waggonerref07_Same.f ((rd_T36 x0 x5).f0) ((rd_T36 x0 x5).f1) ((rd_T36 x0 x5).f2) ((rd_T36 x0 x5).f3) ((rd_T36 x0 x5).f4) ((rd_T36 x1 x5).f0) ((rd_T36 x1 x5).f1) ((rd_T36 x1 x5).f2) ((rd_T36 x1 x5).f3) ((rd_T36 x1 x5).f4)).bind fun t241 => (if t241 = true then (waggonerref07_All_p.l0 k x0 x1 (wrap64 (x5 + 1))) else (some false))) else (none)) else (none)) else (some true)
def waggonerref07_All_p.f (k : Nat) (l0 : List (S36)) (l1 : List (S36)) : Option (Bool) := if (l0.length : Int) = (l1.length : Int) then (waggonerref07_All_p.l0 k l0 l1 0) else (some false)
def waggonerref07_All_p.T6 : Bool × List (List Nat × List Nat) := (true, [([], []), ([], []), ([0, 1], [0, 1]), ([2], [2]), ([], []), ([], []), ([4, 5], [4, 5]), ([6], [6]), ([3, 7], [3, 7]), ([8, 8, 0, 1, 2, 3, 4, 5, 6, 7, 8], [8])])
def waggonerref07_All_p.B6 : List Nat := [0, 0, 3, 7, 0, 0, 48, 112, 255, 511]
theorem waggonerref07_All_p.tab6 : rtab .any (opsOf Try.f54 6) = waggonerref07_All_p.T6 := by kernel_rfl
theorem waggonerref07_All_p.bits6 : waitsOk waggonerref07_All_p.T6.2 waggonerref07_All_p.B6 = true := by kernel_rfl
set_option maxHeartbeats 8000000 in
set_option maxRecDepth 100000 in
theorem waggonerref07_All_p.calls (k : Nat) (A0 : Option Addr) (c0 : Nat) (l0 : List (S36)) (A1 : Option Addr) (c1 : Nat) (l1 : List (S36)) (r : Bool) (w : World) (hr0 : Kd.C k36 w A0 l0.length l0) (hc0 : l0.length ≤ c0) (hr1 : Kd.C k36 w A1 l1.length l1) (hc1 : l1.length ≤ c1) (h : waggonerref07_All_p.f k l0 l1 = some r) :
  Calls Try.prog 54 #[.slice A0 l0.length c0, .slice A1 l1.length c1] w fun e w' => e = .returned (.bool r) ∧ Below w.heap.size w w' := by
 have hu36 := Try.underlying36
 have HR0 := Aside0.mk hr0
 have HC0 := Aside0.mk hc0
 clear hr0 hc0
 have HR1 := Aside0.mk hr1
 have HC1 := Aside0.mk hc1
 clear hr1 hc1
 have HB := Aside0.mk (Below.refl w.heap.size w)
 have H : (if (l0.length : Int) = (l1.length : Int) then (waggonerref07_All_p.l0 k l0 l1 0) else (some false)) = some r := h
 clear h
 by_cases c3 : (l0.length : Int) = (l1.length : Int)
 ·rw [if_pos c3] at H
  have c3b0 : ((l0.length : Int) == (l1.length : Int)) = true := beq_iff_eq.mpr c3
  have c3b1 : ((l0.length : Int) != (l1.length : Int)) = false := bne_eq_false_iff_eq.mpr c3
  have c3b2 : (l0.length == l1.length) = true := by first | simpa using c3 | (simp at c3 ⊢; omega)
  clear c3
  have H' := Aside0.mk H
  clear H
  go_enter Try.func54, Try.ntmps54
  go_wp2
  go_loopg [5] k (fun kq v5 w' => ∃ (x5_1 : Int), v5 = .int .i64 x5_1 ∧ Aside0 (waggonerref07_All_p.l0 kq l0 l1 x5_1 = some r) ∧ Aside0 (kq ≤ k) ∧ Aside0 (Below w.heap.size w w'))
  case atStart => exact ⟨(0), Cz.si, H', ⟨Nat.le_refl _⟩, ⟨Cz.bl (w := w)⟩⟩
  case round =>
   clear H'
   try clear c1
   try clear p2
   try clear c3
   try clear c3b0
   try clear c3b1
   try clear c3b2
   obtain ⟨x5_1, rfl, HA, HK1, HB⟩ := hrel
   cases gk with
   | zero => exact absurd HA.out (by simp [waggonerref07_All_p.l0])
   | succ k1 =>
    have H := HA.out
    clear HA
    simp only [waggonerref07_All_p.l0] at H
    by_cases c4 : x5_1 < (l0.length : Int)
    ·rw [if_pos c4] at H
     have c4b0 : decide (x5_1 < (l0.length : Int)) = true := decide_eq_true c4
     clear c4
     by_cases c5 : 0 ≤ x5_1
     ·rw [if_pos c5] at H
      have c5b0 : decide (0 ≤ x5_1) = true := decide_eq_true c5
      clear c5
      by_cases c6 : x5_1 < (l1.length : Int)
      ·rw [if_pos c6] at H
       have c6b0 : decide (x5_1 < (l1.length : Int)) = true := decide_eq_true c6
       clear c6
       replace H := Option.bind_eq_some_iff.mp H
       obtain ⟨t241, A70, H⟩ := H
       (try dsimp only at H)
       have A7 := Aside0.mk A70
       clear A70
       by_cases c8 : t241 = true
       ·subst c8
        rw [if_pos rfl] at H
        have H' := Aside0.mk H
        clear H
        try go_wp2
        replace HB := Aside0.mk (below_drew1 HB.out)
        have p239 : 0 ≤ (x5_1 : Int) := of_decide_eq_true (by first | (with_reducible assumption) | assumption)
        have q239 : x5_1 < (l0.length : Int) := of_decide_eq_true (by first | (with_reducible assumption) | assumption)
        obtain ⟨ad239, A239_4, c239_4, e239, hx239_0, hx239_1, hx239_2, hx239_3, hx239_4, hl239_4, hi239_4⟩ := at_T36 HR0.out x5_1 p239 q239
        have hw239_4 := hx239_4
        have hw239_3 := hx239_3
        have hw239_2 := hx239_2
        have hw239_1 := hx239_1
        have hw239_0 := hx239_0
        cases e239
        replace hx239_0 := (HB.out.cell (World.block_lt_of_cell? w _ hx239_0)).trans hx239_0
        replace hx239_1 := (HB.out.cell (World.block_lt_of_cell? w _ hx239_1)).trans hx239_1
        replace hx239_2 := (HB.out.cell (World.block_lt_of_cell? w _ hx239_2)).trans hx239_2
        replace hx239_3 := (HB.out.cell (World.block_lt_of_cell? w _ hx239_3)).trans hx239_3
        replace hx239_4 := (HB.out.cell (World.block_lt_of_cell? w _ hx239_4)).trans hx239_4
        have HR239_4 := Aside0.mk hi239_4
        have HC239_4 := Aside0.mk hl239_4
        clear hi239_4 hl239_4
        replace p239 := eq_true p239
        replace q239 := eq_true q239
        have p240 : 0 ≤ (x5_1 : Int) := of_decide_eq_true (by first | (with_reducible assumption) | assumption)
        have q240 : x5_1 < (l1.length : Int) := of_decide_eq_true (by first | (with_reducible assumption) | assumption)
        obtain ⟨ad240, A240_4, c240_4, e240, hx240_0, hx240_1, hx240_2, hx240_3, hx240_4, hl240_4, hi240_4⟩ := at_T36 HR1.out x5_1 p240 q240
        have hw240_4 := hx240_4
        have hw240_3 := hx240_3
        have hw240_2 := hx240_2
        have hw240_1 := hx240_1
        have hw240_0 := hx240_0
        cases e240
        replace hx240_0 := (HB.out.cell (World.block_lt_of_cell? w _ hx240_0)).trans hx240_0
        replace hx240_1 := (HB.out.cell (World.block_lt_of_cell? w _ hx240_1)).trans hx240_1
        replace hx240_2 := (HB.out.cell (World.block_lt_of_cell? w _ hx240_2)).trans hx240_2
        replace hx240_3 := (HB.out.cell (World.block_lt_of_cell? w _ hx240_3)).trans hx240_3
        replace hx240_4 := (HB.out.cell (World.block_lt_of_cell? w _ hx240_4)).trans hx240_4
        have HR240_4 := Aside0.mk hi240_4
        have HC240_4 := Aside0.mk hl240_4
        clear hi240_4 hl240_4
        replace p240 := eq_true p240
        replace q240 := eq_true q240
        refine start_ (n := 10) (S := fun w' => w'.cell? (ad239.add ((x5_1).toNat * 5)) = some (.int .i64 ((rd_T36 l0 x5_1).f0)) ∧ w'.cell? ⟨(ad239.add ((x5_1).toNat * 5)).block, (ad239.add ((x5_1).toNat * 5)).off + 1, none⟩ = some (.int .i64 ((rd_T36 l0 x5_1).f1)) ∧ w'.cell? ⟨(ad239.add ((x5_1).toNat * 5)).block, (ad239.add ((x5_1).toNat * 5)).off + 2, none⟩ = some (.int .i64 ((rd_T36 l0 x5_1).f2)) ∧ w'.cell? ⟨(ad239.add ((x5_1).toNat * 5)).block, (ad239.add ((x5_1).toNat * 5)).off + 3, none⟩ = some (.int .i64 ((rd_T36 l0 x5_1).f3)) ∧ w'.cell? ⟨(ad239.add ((x5_1).toNat * 5)).block, (ad239.add ((x5_1).toNat * 5)).off + 4, none⟩ = some (.slice A239_4 ((rd_T36 l0 x5_1).f4).length c239_4) ∧ w'.cell? (ad240.add ((x5_1).toNat * 5)) = some (.int .i64 ((rd_T36 l1 x5_1).f0)) ∧ w'.cell? ⟨(ad240.add ((x5_1).toNat * 5)).block, (ad240.add ((x5_1).toNat * 5)).off + 1, none⟩ = some (.int .i64 ((rd_T36 l1 x5_1).f1)) ∧ w'.cell? ⟨(ad240.add ((x5_1).toNat * 5)).block, (ad240.add ((x5_1).toNat * 5)).off + 2, none⟩ = some (.int .i64 ((rd_T36 l1 x5_1).f2)) ∧ w'.cell? ⟨(ad240.add ((x5_1).toNat * 5)).block, (ad240.add ((x5_1).toNat * 5)).off + 3, none⟩ = some (.int .i64 ((rd_T36 l1 x5_1).f3)) ∧ w'.cell? ⟨(ad240.add ((x5_1).toNat * 5)).block, (ad240.add ((x5_1).toNat * 5)).off + 4, none⟩ = some (.slice A240_4 ((rd_T36 l1 x5_1).f4).length c240_4)) (ds := []) #[false, false, false, false, false, false, false, false, false, false] (by kernel_rfl) rfl rfl ⟨((HB.out.cell (World.block_lt_of_cell? w _ hw239_0)).trans hw239_0), ((HB.out.cell (World.block_lt_of_cell? w _ hw239_1)).trans hw239_1), ((HB.out.cell (World.block_lt_of_cell? w _ hw239_2)).trans hw239_2), ((HB.out.cell (World.block_lt_of_cell? w _ hw239_3)).trans hw239_3), ((HB.out.cell (World.block_lt_of_cell? w _ hw239_4)).trans hw239_4), ((HB.out.cell (World.block_lt_of_cell? w _ hw240_0)).trans hw240_0), ((HB.out.cell (World.block_lt_of_cell? w _ hw240_1)).trans hw240_1), ((HB.out.cell (World.block_lt_of_cell? w _ hw240_2)).trans hw240_2), ((HB.out.cell (World.block_lt_of_cell? w _ hw240_3)).trans hw240_3), ((HB.out.cell (World.block_lt_of_cell? w _ hw240_4)).trans hw240_4)⟩ (fun hHeld => ?_); refine with_tabW waggonerref07_All_p.tab6 waggonerref07_All_p.bits6 (fun HT_ HW_ => ?_)
        generalize wr.drew = w9 at HB HR239_4 HR240_4 hx239_0 hx239_1 hx239_2 hx239_3 hx239_4 hx240_0 hx240_1 hx240_2 hx240_3 hx240_4 hHeld ⊢
        refine Cz.qP 0 18 HT_ ?_
        refine Cz.qP 1 19 HT_ ?_
        refine Cz.qP 2 20 HT_ ?_
        refine Cz.qP 4 22 HT_ ?_
        refine Cz.qP 5 23 HT_ ?_
        refine Cz.qP 6 24 HT_ ?_
        refine Cz.qT 3 21 HT_ HW_ hHeld ?_
        refine Cz.qT 7 25 HT_ HW_ hHeld ?_
        refine Cz.qO (N := some 26) 8 HT_ (fun K hK => ?_)
        refine Cz.gO Try.func76 #[.agg #[.int .i64 ((rd_T36 l0 x5_1).f0), .int .i64 ((rd_T36 l0 x5_1).f1), .int .i64 ((rd_T36 l0 x5_1).f2), .int .i64 ((rd_T36 l0 x5_1).f3), .slice A239_4 ((rd_T36 l0 x5_1).f4).length c239_4], .agg #[.int .i64 ((rd_T36 l1 x5_1).f0), .int .i64 ((rd_T36 l1 x5_1).f1), .int .i64 ((rd_T36 l1 x5_1).f2), .int .i64 ((rd_T36 l1 x5_1).f3), .slice A240_4 ((rd_T36 l1 x5_1).f4).length c240_4]] ?_
        with_reducible refine (waggonerref07_Same.calls ((rd_T36 l0 x5_1).f0) ((rd_T36 l0 x5_1).f1) ((rd_T36 l0 x5_1).f2) ((rd_T36 l0 x5_1).f3) _ _ ((rd_T36 l0 x5_1).f4) ((rd_T36 l1 x5_1).f0) ((rd_T36 l1 x5_1).f1) ((rd_T36 l1 x5_1).f2) ((rd_T36 l1 x5_1).f3) _ _ ((rd_T36 l1 x5_1).f4) true _ ?side1 ?side2 ?side3 ?side4 A7.out).mono ?_
        (case side1 => exact Cz.cb HR239_4)
        (case side2 => exact HC239_4.out)
        (case side3 => exact Cz.cb HR240_4)
        (case side4 => exact HC240_4.out)
        rintro e w10 ⟨rfl, hb⟩
        refine ⟨_, rfl, ?_⟩
        replace HB := Cz.bs (w := w) hb
        (try clear hb)
        (try clear hb2)
        (try clear hk)
        (try clear hi)
        refine hK.out _ _ ⟨((HB.out.cell (World.block_lt_of_cell? w _ hw239_0)).trans hw239_0), ((HB.out.cell (World.block_lt_of_cell? w _ hw239_1)).trans hw239_1), ((HB.out.cell (World.block_lt_of_cell? w _ hw239_2)).trans hw239_2), ((HB.out.cell (World.block_lt_of_cell? w _ hw239_3)).trans hw239_3), ((HB.out.cell (World.block_lt_of_cell? w _ hw239_4)).trans hw239_4), ((HB.out.cell (World.block_lt_of_cell? w _ hw240_0)).trans hw240_0), ((HB.out.cell (World.block_lt_of_cell? w _ hw240_1)).trans hw240_1), ((HB.out.cell (World.block_lt_of_cell? w _ hw240_2)).trans hw240_2), ((HB.out.cell (World.block_lt_of_cell? w _ hw240_3)).trans hw240_3), ((HB.out.cell (World.block_lt_of_cell? w _ hw240_4)).trans hw240_4)⟩ (fun hHeld => ?_)
        clear hK K
        refine norm_ (a' := ?_) ?_ ?_
        rotate_left
        ·show Act.put _ (some 26) _ = _
         simp only [Act.put, Kx.sb, Kx.sz, Kx.ss, i64_w, i32_w]
         rfl
        refine Cz.qP 9 6 HT_ ?_
        refine done_ (done_of HT_.out (by kernel_rfl)) ?_
        try go_wp2
        go_roundg k1
        case measure => have := HK1.out; omega
        case rel => exact ⟨(wrap64 (x5_1 + 1)), Cz.si, H', ⟨by have := HK1.out; omega⟩, ⟨Cz.bl (w := w)⟩⟩
       ·replace c8 := Bool.eq_false_iff.mpr c8
        subst c8
        rw [if_neg (show ¬ (false = true) by decide)] at H
        obtain rfl := Option.some.inj H
        try go_wp2
        replace HB := Aside0.mk (below_drew1 HB.out)
        have p239 : 0 ≤ (x5_1 : Int) := of_decide_eq_true (by first | (with_reducible assumption) | assumption)
        have q239 : x5_1 < (l0.length : Int) := of_decide_eq_true (by first | (with_reducible assumption) | assumption)
        obtain ⟨ad239, A239_4, c239_4, e239, hx239_0, hx239_1, hx239_2, hx239_3, hx239_4, hl239_4, hi239_4⟩ := at_T36 HR0.out x5_1 p239 q239
        have hw239_4 := hx239_4
        have hw239_3 := hx239_3
        have hw239_2 := hx239_2
        have hw239_1 := hx239_1
        have hw239_0 := hx239_0
        cases e239
        replace hx239_0 := (HB.out.cell (World.block_lt_of_cell? w _ hx239_0)).trans hx239_0
        replace hx239_1 := (HB.out.cell (World.block_lt_of_cell? w _ hx239_1)).trans hx239_1
        replace hx239_2 := (HB.out.cell (World.block_lt_of_cell? w _ hx239_2)).trans hx239_2
        replace hx239_3 := (HB.out.cell (World.block_lt_of_cell? w _ hx239_3)).trans hx239_3
        replace hx239_4 := (HB.out.cell (World.block_lt_of_cell? w _ hx239_4)).trans hx239_4
        have HR239_4 := Aside0.mk hi239_4
        have HC239_4 := Aside0.mk hl239_4
        clear hi239_4 hl239_4
        replace p239 := eq_true p239
        replace q239 := eq_true q239
        have p240 : 0 ≤ (x5_1 : Int) := of_decide_eq_true (by first | (with_reducible assumption) | assumption)
        have q240 : x5_1 < (l1.length : Int) := of_decide_eq_true (by first | (with_reducible assumption) | assumption)
        obtain ⟨ad240, A240_4, c240_4, e240, hx240_0, hx240_1, hx240_2, hx240_3, hx240_4, hl240_4, hi240_4⟩ := at_T36 HR1.out x5_1 p240 q240
        have hw240_4 := hx240_4
        have hw240_3 := hx240_3
        have hw240_2 := hx240_2
        have hw240_1 := hx240_1
        have hw240_0 := hx240_0
        cases e240
        replace hx240_0 := (HB.out.cell (World.block_lt_of_cell? w _ hx240_0)).trans hx240_0
        replace hx240_1 := (HB.out.cell (World.block_lt_of_cell? w _ hx240_1)).trans hx240_1
        replace hx240_2 := (HB.out.cell (World.block_lt_of_cell? w _ hx240_2)).trans hx240_2
        replace hx240_3 := (HB.out.cell (World.block_lt_of_cell? w _ hx240_3)).trans hx240_3
        replace hx240_4 := (HB.out.cell (World.block_lt_of_cell? w _ hx240_4)).trans hx240_4
        have HR240_4 := Aside0.mk hi240_4
        have HC240_4 := Aside0.mk hl240_4
        clear hi240_4 hl240_4
        replace p240 := eq_true p240
        replace q240 := eq_true q240
        refine start_ (n := 10) (S := fun w' => w'.cell? (ad239.add ((x5_1).toNat * 5)) = some (.int .i64 ((rd_T36 l0 x5_1).f0)) ∧ w'.cell? ⟨(ad239.add ((x5_1).toNat * 5)).block, (ad239.add ((x5_1).toNat * 5)).off + 1, none⟩ = some (.int .i64 ((rd_T36 l0 x5_1).f1)) ∧ w'.cell? ⟨(ad239.add ((x5_1).toNat * 5)).block, (ad239.add ((x5_1).toNat * 5)).off + 2, none⟩ = some (.int .i64 ((rd_T36 l0 x5_1).f2)) ∧ w'.cell? ⟨(ad239.add ((x5_1).toNat * 5)).block, (ad239.add ((x5_1).toNat * 5)).off + 3, none⟩ = some (.int .i64 ((rd_T36 l0 x5_1).f3)) ∧ w'.cell? ⟨(ad239.add ((x5_1).toNat * 5)).block, (ad239.add ((x5_1).toNat * 5)).off + 4, none⟩ = some (.slice A239_4 ((rd_T36 l0 x5_1).f4).length c239_4) ∧ w'.cell? (ad240.add ((x5_1).toNat * 5)) = some (.int .i64 ((rd_T36 l1 x5_1).f0)) ∧ w'.cell? ⟨(ad240.add ((x5_1).toNat * 5)).block, (ad240.add ((x5_1).toNat * 5)).off + 1, none⟩ = some (.int .i64 ((rd_T36 l1 x5_1).f1)) ∧ w'.cell? ⟨(ad240.add ((x5_1).toNat * 5)).block, (ad240.add ((x5_1).toNat * 5)).off + 2, none⟩ = some (.int .i64 ((rd_T36 l1 x5_1).f2)) ∧ w'.cell? ⟨(ad240.add ((x5_1).toNat * 5)).block, (ad240.add ((x5_1).toNat * 5)).off + 3, none⟩ = some (.int .i64 ((rd_T36 l1 x5_1).f3)) ∧ w'.cell? ⟨(ad240.add ((x5_1).toNat * 5)).block, (ad240.add ((x5_1).toNat * 5)).off + 4, none⟩ = some (.slice A240_4 ((rd_T36 l1 x5_1).f4).length c240_4)) (ds := []) #[false, false, false, false, false, false, false, false, false, false] (by kernel_rfl) rfl rfl ⟨((HB.out.cell (World.block_lt_of_cell? w _ hw239_0)).trans hw239_0), ((HB.out.cell (World.block_lt_of_cell? w _ hw239_1)).trans hw239_1), ((HB.out.cell (World.block_lt_of_cell? w _ hw239_2)).trans hw239_2), ((HB.out.cell (World.block_lt_of_cell? w _ hw239_3)).trans hw239_3), ((HB.out.cell (World.block_lt_of_cell? w _ hw239_4)).trans hw239_4), ((HB.out.cell (World.block_lt_of_cell? w _ hw240_0)).trans hw240_0), ((HB.out.cell (World.block_lt_of_cell? w _ hw240_1)).trans hw240_1), ((HB.out.cell (World.block_lt_of_cell? w _ hw240_2)).trans hw240_2), ((HB.out.cell (World.block_lt_of_cell? w _ hw240_3)).trans hw240_3), ((HB.out.cell (World.block_lt_of_cell? w _ hw240_4)).trans hw240_4)⟩ (fun hHeld => ?_); refine with_tabW waggonerref07_All_p.tab6 waggonerref07_All_p.bits6 (fun HT_ HW_ => ?_)
        generalize wr.drew = w11 at HB HR239_4 HR240_4 hx239_0 hx239_1 hx239_2 hx239_3 hx239_4 hx240_0 hx240_1 hx240_2 hx240_3 hx240_4 hHeld ⊢
        refine Cz.qP 0 18 HT_ ?_
        refine Cz.qP 1 19 HT_ ?_
        refine Cz.qP 2 20 HT_ ?_
        refine Cz.qP 4 22 HT_ ?_
        refine Cz.qP 5 23 HT_ ?_
        refine Cz.qP 6 24 HT_ ?_
        refine Cz.qT 3 21 HT_ HW_ hHeld ?_
        refine Cz.qT 7 25 HT_ HW_ hHeld ?_
        refine Cz.qO (N := some 26) 8 HT_ (fun K hK => ?_)
        refine Cz.gO Try.func76 #[.agg #[.int .i64 ((rd_T36 l0 x5_1).f0), .int .i64 ((rd_T36 l0 x5_1).f1), .int .i64 ((rd_T36 l0 x5_1).f2), .int .i64 ((rd_T36 l0 x5_1).f3), .slice A239_4 ((rd_T36 l0 x5_1).f4).length c239_4], .agg #[.int .i64 ((rd_T36 l1 x5_1).f0), .int .i64 ((rd_T36 l1 x5_1).f1), .int .i64 ((rd_T36 l1 x5_1).f2), .int .i64 ((rd_T36 l1 x5_1).f3), .slice A240_4 ((rd_T36 l1 x5_1).f4).length c240_4]] ?_
        with_reducible refine (waggonerref07_Same.calls ((rd_T36 l0 x5_1).f0) ((rd_T36 l0 x5_1).f1) ((rd_T36 l0 x5_1).f2) ((rd_T36 l0 x5_1).f3) _ _ ((rd_T36 l0 x5_1).f4) ((rd_T36 l1 x5_1).f0) ((rd_T36 l1 x5_1).f1) ((rd_T36 l1 x5_1).f2) ((rd_T36 l1 x5_1).f3) _ _ ((rd_T36 l1 x5_1).f4) false _ ?side1 ?side2 ?side3 ?side4 A7.out).mono ?_
        (case side1 => exact Cz.cb HR239_4)
        (case side2 => exact HC239_4.out)
        (case side3 => exact Cz.cb HR240_4)
        (case side4 => exact HC240_4.out)
        rintro e w12 ⟨rfl, hb⟩
        refine ⟨_, rfl, ?_⟩
        replace HB := Cz.bs (w := w) hb
        (try clear hb)
        (try clear hb2)
        (try clear hk)
        (try clear hi)
        refine hK.out _ _ ⟨((HB.out.cell (World.block_lt_of_cell? w _ hw239_0)).trans hw239_0), ((HB.out.cell (World.block_lt_of_cell? w _ hw239_1)).trans hw239_1), ((HB.out.cell (World.block_lt_of_cell? w _ hw239_2)).trans hw239_2), ((HB.out.cell (World.block_lt_of_cell? w _ hw239_3)).trans hw239_3), ((HB.out.cell (World.block_lt_of_cell? w _ hw239_4)).trans hw239_4), ((HB.out.cell (World.block_lt_of_cell? w _ hw240_0)).trans hw240_0), ((HB.out.cell (World.block_lt_of_cell? w _ hw240_1)).trans hw240_1), ((HB.out.cell (World.block_lt_of_cell? w _ hw240_2)).trans hw240_2), ((HB.out.cell (World.block_lt_of_cell? w _ hw240_3)).trans hw240_3), ((HB.out.cell (World.block_lt_of_cell? w _ hw240_4)).trans hw240_4)⟩ (fun hHeld => ?_)
        clear hK K
        refine norm_ (a' := ?_) ?_ ?_
        rotate_left
        ·show Act.put _ (some 26) _ = _
         simp only [Act.put, Kx.sb, Kx.sz, Kx.ss, i64_w, i32_w]
         rfl
        refine Cz.qP 9 6 HT_ ?_
        refine done_ (done_of HT_.out (by kernel_rfl)) ?_
        try go_wp2
        go_ret
        exact ⟨Cz.er, Cz.bl (w := w)⟩
      ·rw [if_neg c6] at H
       exact absurd H (by simp)
     ·rw [if_neg c5] at H
      exact absurd H (by simp)
    ·rw [if_neg c4] at H
     have c4b0 : decide (x5_1 < (l0.length : Int)) = false := decide_eq_false c4
     clear c4
     obtain rfl := Option.some.inj H
     go_wp2
     go_ret
     exact ⟨Cz.er, Cz.bl (w := w)⟩
 ·rw [if_neg c3] at H
  have c3b0 : ((l0.length : Int) == (l1.length : Int)) = false := beq_eq_false_iff_ne.mpr c3
  have c3b1 : ((l0.length : Int) != (l1.length : Int)) = true := bne_iff_ne.mpr c3
  have c3b2 : (l0.length == l1.length) = false := by first | simpa using c3 | (simp at c3 ⊢; omega)
  obtain rfl := Option.some.inj H
  go_enter Try.func54, Try.ntmps54
  go_wp2
  go_ret
  exact ⟨Cz.er, Cz.bl (w := w)⟩
def waggonerref07_All.f (l0 l1 : List S36) : Option Bool := if (∀ s ∈ l0, Pl.byteB s.f4 = true) ∧ (∀ s ∈ l1, Pl.byteB s.f4 = true) ∧ l0.length < 1073741824 then some (decide (l0.map toE = l1.map toE)) else none
theorem waggonerref07_All.tells {l0 l1 : List S36} (h0 : ∀ s ∈ l0, Pl.byteB s.f4 = true) (h1 : ∀ s ∈ l1, Pl.byteB s.f4 = true) (h2 : l0.length < 1073741824) : waggonerref07_All.f l0 l1 = some (decide (l0.map toE = l1.map toE)) := if_pos ⟨h0, h1, h2⟩
theorem waggonerref07_All.loop {l0 l1 : List S36} (h0 : ∀ s ∈ l0, Pl.byteB s.f4 = true) (h1 : ∀ s ∈ l1, Pl.byteB s.f4 = true) (h2 : l0.length < 1073741824) (hl : l0.length = l1.length) : ∀ (d k i : Nat), l0.length - i = d → i ≤ l0.length → d < k → waggonerref07_All_p.l0 k l0 l1 (i : Int) = some (decide ((l0.drop i).map toE = (l1.drop i).map toE))
 | 0, k, i, hd, hi, hk => by
  obtain ⟨k, rfl⟩ : ∃ m, k = m + 1 := ⟨k - 1, by omega⟩
  rw [waggonerref07_All_p.l0, if_neg (by omega), List.drop_of_length_le (by omega), List.drop_of_length_le (by omega)]
  rfl
 | d + 1, k, i, hd, hi, hk => by
  obtain ⟨k, rfl⟩ : ∃ m, k = m + 1 := ⟨k - 1, by omega⟩
  have hi0 : i < l0.length := by omega
  have hi1 : i < l1.length := by omega
  have hs : waggonerref07_Same.f l0[i].f0 l0[i].f1 l0[i].f2 l0[i].f3 l0[i].f4 l1[i].f0 l1[i].f1 l1[i].f2 l1[i].f3 l1[i].f4 = some (decide (toE l0[i] = toE l1[i])) := waggonerref07_Same.tells (h0 _ (List.getElem_mem hi0)) (h1 _ (List.getElem_mem hi1))
  rw [waggonerref07_All_p.l0, if_pos (by omega), if_pos (by omega), if_pos (by omega), rd_getE l0 i hi0, rd_getE l1 i hi1, hs, Option.bind_some, List.drop_eq_getElem_cons hi0, List.drop_eq_getElem_cons hi1, List.map_cons, List.map_cons]
  by_cases he : toE l0[i] = toE l1[i]
  ·rw [if_pos (decide_eq_true he), show wrap64 ((i : Int) + 1) = ((i + 1 : Nat) : Int) by unfold wrap64; omega, waggonerref07_All.loop h0 h1 h2 hl d k (i + 1) (by omega) (by omega) (by omega), he]
   simp
  ·rw [if_neg (fun hh => he (of_decide_eq_true hh)), decide_eq_false (fun hh => he (List.cons.inj hh).1)]
theorem waggonerref07_All.closes {l0 l1 : List S36} {r : Bool} (h : waggonerref07_All.f l0 l1 = some r) : waggonerref07_All_p.f (l0.length + 1) l0 l1 = some r := by
 unfold waggonerref07_All.f at h
 split at h
 case isFalse => cases h
 rename_i hh
 obtain ⟨h0, h1, h2⟩ := hh
 rw [← h]
 unfold waggonerref07_All_p.f
 by_cases hl : l0.length = l1.length
 ·rw [if_pos (by omega)]
  exact waggonerref07_All.loop h0 h1 h2 hl l0.length _ 0 (by omega) (by omega) (by omega)
 ·rw [if_neg (by omega), decide_eq_false (fun e => hl (by have := congrArg List.length e; rwa [List.length_map, List.length_map] at this))]
theorem waggonerref07_All.calls (A0 : Option Addr) (c0 : Nat) (l0 : List (S36)) (A1 : Option Addr) (c1 : Nat) (l1 : List (S36)) (r : Bool) (w : World) (hr0 : Kd.C k36 w A0 l0.length l0) (hc0 : l0.length ≤ c0) (hr1 : Kd.C k36 w A1 l1.length l1) (hc1 : l1.length ≤ c1) (h : waggonerref07_All.f l0 l1 = some r) :
  Calls Try.prog 54 #[.slice A0 l0.length c0, .slice A1 l1.length c1] w fun e w' => e = .returned (.bool r) ∧ Below w.heap.size w w' :=
 waggonerref07_All_p.calls (l0.length + 1) A0 c0 l0 A1 c1 l1 r w hr0 hc0 hr1 hc1 (waggonerref07_All.closes h)
def waggonerref17_Same.f (a0_0 : Int) (a0_1 : Int) (a0_2 : Int) (l0_3 : List (S36)) (a1_0 : Int) (a1_1 : Int) (a1_2 : Int) (l1_3 : List (S36)) : Option (Bool) := (waggonerref07_All.f l0_3 l1_3).bind fun t244 => (if a0_0 = a1_0 then (if a0_1 = a1_1 then (if a0_2 = a1_2 then (some t244) else (some false)) else (some false)) else (some false))
set_option maxHeartbeats 8000000 in
set_option maxRecDepth 100000 in
theorem waggonerref17_Same.calls (a0_0 : Int) (a0_1 : Int) (a0_2 : Int) (A0_3 : Option Addr) (c0_3 : Nat) (l0_3 : List (S36)) (a1_0 : Int) (a1_1 : Int) (a1_2 : Int) (A1_3 : Option Addr) (c1_3 : Nat) (l1_3 : List (S36)) (r : Bool) (w : World) (hr0_3 : Kd.C k36 w A0_3 l0_3.length l0_3) (hc0_3 : l0_3.length ≤ c0_3) (hr1_3 : Kd.C k36 w A1_3 l1_3.length l1_3) (hc1_3 : l1_3.length ≤ c1_3) (h : waggonerref17_Same.f a0_0 a0_1 a0_2 l0_3 a1_0 a1_1 a1_2 l1_3 = some r) :
  Calls Try.prog 30 #[.agg #[.int .i64 a0_0, .int .i64 a0_1, .int .i64 a0_2, .slice A0_3 l0_3.length c0_3], .agg #[.int .i64 a1_0, .int .i64 a1_1, .int .i64 a1_2, .slice A1_3 l1_3.length c1_3]] w fun e w' => e = .returned (.bool r) ∧ Below w.heap.size w w' := by
 have hu24 := Try.underlying24
 have HR0_3 := Aside0.mk hr0_3
 have HC0_3 := Aside0.mk hc0_3
 clear hr0_3 hc0_3
 have HR1_3 := Aside0.mk hr1_3
 have HC1_3 := Aside0.mk hc1_3
 clear hr1_3 hc1_3
 have HB := Aside0.mk (Below.refl w.heap.size w)
 have H : ((waggonerref07_All.f l0_3 l1_3).bind fun t244 => (if a0_0 = a1_0 then (if a0_1 = a1_1 then (if a0_2 = a1_2 then (some t244) else (some false)) else (some false)) else (some false))) = some r := h
 clear h
 replace H := Option.bind_eq_some_iff.mp H
 obtain ⟨t244, A30, H⟩ := H
 (try dsimp only at H)
 have A3 := Aside0.mk A30
 clear A30
 by_cases c4 : a0_0 = a1_0
 ·rw [if_pos c4] at H
  have c4b0 : (a0_0 == a1_0) = true := beq_iff_eq.mpr c4
  have c4b1 : (a0_0 != a1_0) = false := bne_eq_false_iff_eq.mpr c4
  clear c4
  by_cases c5 : a0_1 = a1_1
  ·rw [if_pos c5] at H
   have c5b0 : (a0_1 == a1_1) = true := beq_iff_eq.mpr c5
   have c5b1 : (a0_1 != a1_1) = false := bne_eq_false_iff_eq.mpr c5
   clear c5
   by_cases c6 : a0_2 = a1_2
   ·rw [if_pos c6] at H
    have c6b0 : (a0_2 == a1_2) = true := beq_iff_eq.mpr c6
    have c6b1 : (a0_2 != a1_2) = false := bne_eq_false_iff_eq.mpr c6
    clear c6
    obtain rfl := Option.some.inj H
    go_enter Try.func30, Try.ntmps30
    go_wp2_with (first | ((with_reducible refine gate_dst (N := 2) rfl ?_); refine Cz.bx (N := 2) #[.int .i64 a0_0, .int .i64 a0_1, .int .i64 a0_2, .slice A0_3 l0_3.length c0_3] 24 ?_; intro gb242 hg w7 hbox hb; have BK242 := Aside0.mk (hbox); have GW242 := Aside0.mk ((Cz.gs hg : w.heap.size ≤ gb242)); have GE242 := GW242; replace HB := Cz.bs (w := w) hb; clear hb hbox hg) | ((with_reducible refine gate_dst (N := 3) rfl ?_); refine Cz.bx (N := 3) #[.int .i64 a1_0, .int .i64 a1_1, .int .i64 a1_2, .slice A1_3 l1_3.length c1_3] 24 ?_; intro gb243 hg w8 hbox hb; have BK243 := Aside0.mk (hbox); have GW243 := Aside0.mk ((Cz.gs hg : w.heap.size ≤ gb243)); have GE243 := GW243; have NB242_243 := Aside0.mk ((Cz.nl BK242 hg : gb242 ≠ gb243)); have NB243_242 := Aside0.mk ((Cz.nr BK242 hg : gb243 ≠ gb242)); replace BK242 := Cz.bk BK242 hb; replace HB := Cz.bs (w := w) hb; clear hb hbox hg; have hnb9 := NB242_243.out; have hnc9 := NB243_242.out; obtain ⟨z10_0, z10_1, z10_2, z10_3, y10_0, y10_1, y10_2, y10_3⟩ := Cz.d4 BK242; obtain ⟨z11_0, z11_1, z11_2, z11_3, y11_0, y11_1, y11_2, y11_3⟩ := Cz.d4 BK243) | ((with_reducible refine gate_callee (f := 54) rfl ?_); refine Cz.gL (N := (some 10)) Try.func54 #[.slice A0_3 l0_3.length c0_3, .slice A1_3 l1_3.length c1_3] ?_; (with_reducible refine (waggonerref07_All.calls _ _ l0_3 _ _ l1_3 t244 _ ?side1 ?side2 ?side3 ?side4 A3.out).mono ?_); (case side1 => exact Cz.cb HR0_3); (case side2 => exact HC0_3.out); (case side3 => exact Cz.cb HR1_3); (case side4 => exact HC1_3.out); rintro e w12 ⟨rfl, hb⟩; refine ⟨_, rfl, ?_⟩; replace BK242 := Cz.bk BK242 hb; replace BK243 := Cz.bk BK243 hb; replace HB := Cz.bs (w := w) hb; (try clear hb); obtain ⟨z13_0, z13_1, z13_2, z13_3, y13_0, y13_1, y13_2, y13_3⟩ := Cz.d4 BK242; obtain ⟨z14_0, z14_1, z14_2, z14_3, y14_0, y14_1, y14_2, y14_3⟩ := Cz.d4 BK243))
    go_ret
    exact ⟨Cz.er, Cz.bl (w := w)⟩
   ·rw [if_neg c6] at H
    have c6b0 : (a0_2 == a1_2) = false := beq_eq_false_iff_ne.mpr c6
    have c6b1 : (a0_2 != a1_2) = true := bne_iff_ne.mpr c6
    obtain rfl := Option.some.inj H
    go_enter Try.func30, Try.ntmps30
    go_wp2_with (first | ((with_reducible refine gate_dst (N := 2) rfl ?_); refine Cz.bx (N := 2) #[.int .i64 a0_0, .int .i64 a0_1, .int .i64 a0_2, .slice A0_3 l0_3.length c0_3] 24 ?_; intro gb242 hg w15 hbox hb; have BK242 := Aside0.mk (hbox); have GW242 := Aside0.mk ((Cz.gs hg : w.heap.size ≤ gb242)); have GE242 := GW242; replace HB := Cz.bs (w := w) hb; clear hb hbox hg) | ((with_reducible refine gate_dst (N := 3) rfl ?_); refine Cz.bx (N := 3) #[.int .i64 a1_0, .int .i64 a1_1, .int .i64 a1_2, .slice A1_3 l1_3.length c1_3] 24 ?_; intro gb243 hg w16 hbox hb; have BK243 := Aside0.mk (hbox); have GW243 := Aside0.mk ((Cz.gs hg : w.heap.size ≤ gb243)); have GE243 := GW243; have NB242_243 := Aside0.mk ((Cz.nl BK242 hg : gb242 ≠ gb243)); have NB243_242 := Aside0.mk ((Cz.nr BK242 hg : gb243 ≠ gb242)); replace BK242 := Cz.bk BK242 hb; replace HB := Cz.bs (w := w) hb; clear hb hbox hg; have hnb17 := NB242_243.out; have hnc17 := NB243_242.out; obtain ⟨z18_0, z18_1, z18_2, z18_3, y18_0, y18_1, y18_2, y18_3⟩ := Cz.d4 BK242; obtain ⟨z19_0, z19_1, z19_2, z19_3, y19_0, y19_1, y19_2, y19_3⟩ := Cz.d4 BK243) | ((with_reducible refine gate_callee (f := 54) rfl ?_); refine Cz.gL (N := (some 10)) Try.func54 #[.slice A0_3 l0_3.length c0_3, .slice A1_3 l1_3.length c1_3] ?_; (with_reducible refine (waggonerref07_All.calls _ _ l0_3 _ _ l1_3 t244 _ ?side1 ?side2 ?side3 ?side4 A3.out).mono ?_); (case side1 => exact Cz.cb HR0_3); (case side2 => exact HC0_3.out); (case side3 => exact Cz.cb HR1_3); (case side4 => exact HC1_3.out); rintro e w20 ⟨rfl, hb⟩; refine ⟨_, rfl, ?_⟩; replace BK242 := Cz.bk BK242 hb; replace BK243 := Cz.bk BK243 hb; replace HB := Cz.bs (w := w) hb; (try clear hb); obtain ⟨z21_0, z21_1, z21_2, z21_3, y21_0, y21_1, y21_2, y21_3⟩ := Cz.d4 BK242; obtain ⟨z22_0, z22_1, z22_2, z22_3, y22_0, y22_1, y22_2, y22_3⟩ := Cz.d4 BK243))
    go_ret
    exact ⟨Cz.er, Cz.bl (w := w)⟩
  ·rw [if_neg c5] at H
   have c5b0 : (a0_1 == a1_1) = false := beq_eq_false_iff_ne.mpr c5
   have c5b1 : (a0_1 != a1_1) = true := bne_iff_ne.mpr c5
   obtain rfl := Option.some.inj H
   go_enter Try.func30, Try.ntmps30
   go_wp2_with (first | ((with_reducible refine gate_dst (N := 2) rfl ?_); refine Cz.bx (N := 2) #[.int .i64 a0_0, .int .i64 a0_1, .int .i64 a0_2, .slice A0_3 l0_3.length c0_3] 24 ?_; intro gb242 hg w23 hbox hb; have BK242 := Aside0.mk (hbox); have GW242 := Aside0.mk ((Cz.gs hg : w.heap.size ≤ gb242)); have GE242 := GW242; replace HB := Cz.bs (w := w) hb; clear hb hbox hg) | ((with_reducible refine gate_dst (N := 3) rfl ?_); refine Cz.bx (N := 3) #[.int .i64 a1_0, .int .i64 a1_1, .int .i64 a1_2, .slice A1_3 l1_3.length c1_3] 24 ?_; intro gb243 hg w24 hbox hb; have BK243 := Aside0.mk (hbox); have GW243 := Aside0.mk ((Cz.gs hg : w.heap.size ≤ gb243)); have GE243 := GW243; have NB242_243 := Aside0.mk ((Cz.nl BK242 hg : gb242 ≠ gb243)); have NB243_242 := Aside0.mk ((Cz.nr BK242 hg : gb243 ≠ gb242)); replace BK242 := Cz.bk BK242 hb; replace HB := Cz.bs (w := w) hb; clear hb hbox hg; have hnb25 := NB242_243.out; have hnc25 := NB243_242.out; obtain ⟨z26_0, z26_1, z26_2, z26_3, y26_0, y26_1, y26_2, y26_3⟩ := Cz.d4 BK242; obtain ⟨z27_0, z27_1, z27_2, z27_3, y27_0, y27_1, y27_2, y27_3⟩ := Cz.d4 BK243) | ((with_reducible refine gate_callee (f := 54) rfl ?_); refine Cz.gL (N := (some 10)) Try.func54 #[.slice A0_3 l0_3.length c0_3, .slice A1_3 l1_3.length c1_3] ?_; (with_reducible refine (waggonerref07_All.calls _ _ l0_3 _ _ l1_3 t244 _ ?side1 ?side2 ?side3 ?side4 A3.out).mono ?_); (case side1 => exact Cz.cb HR0_3); (case side2 => exact HC0_3.out); (case side3 => exact Cz.cb HR1_3); (case side4 => exact HC1_3.out); rintro e w28 ⟨rfl, hb⟩; refine ⟨_, rfl, ?_⟩; replace BK242 := Cz.bk BK242 hb; replace BK243 := Cz.bk BK243 hb; replace HB := Cz.bs (w := w) hb; (try clear hb); obtain ⟨z29_0, z29_1, z29_2, z29_3, y29_0, y29_1, y29_2, y29_3⟩ := Cz.d4 BK242; obtain ⟨z30_0, z30_1, z30_2, z30_3, y30_0, y30_1, y30_2, y30_3⟩ := Cz.d4 BK243))
   go_ret
   exact ⟨Cz.er, Cz.bl (w := w)⟩
 ·rw [if_neg c4] at H
  have c4b0 : (a0_0 == a1_0) = false := beq_eq_false_iff_ne.mpr c4
  have c4b1 : (a0_0 != a1_0) = true := bne_iff_ne.mpr c4
  obtain rfl := Option.some.inj H
  go_enter Try.func30, Try.ntmps30
  go_wp2_with (first | ((with_reducible refine gate_dst (N := 2) rfl ?_); refine Cz.bx (N := 2) #[.int .i64 a0_0, .int .i64 a0_1, .int .i64 a0_2, .slice A0_3 l0_3.length c0_3] 24 ?_; intro gb242 hg w31 hbox hb; have BK242 := Aside0.mk (hbox); have GW242 := Aside0.mk ((Cz.gs hg : w.heap.size ≤ gb242)); have GE242 := GW242; replace HB := Cz.bs (w := w) hb; clear hb hbox hg) | ((with_reducible refine gate_dst (N := 3) rfl ?_); refine Cz.bx (N := 3) #[.int .i64 a1_0, .int .i64 a1_1, .int .i64 a1_2, .slice A1_3 l1_3.length c1_3] 24 ?_; intro gb243 hg w32 hbox hb; have BK243 := Aside0.mk (hbox); have GW243 := Aside0.mk ((Cz.gs hg : w.heap.size ≤ gb243)); have GE243 := GW243; have NB242_243 := Aside0.mk ((Cz.nl BK242 hg : gb242 ≠ gb243)); have NB243_242 := Aside0.mk ((Cz.nr BK242 hg : gb243 ≠ gb242)); replace BK242 := Cz.bk BK242 hb; replace HB := Cz.bs (w := w) hb; clear hb hbox hg; have hnb33 := NB242_243.out; have hnc33 := NB243_242.out; obtain ⟨z34_0, z34_1, z34_2, z34_3, y34_0, y34_1, y34_2, y34_3⟩ := Cz.d4 BK242; obtain ⟨z35_0, z35_1, z35_2, z35_3, y35_0, y35_1, y35_2, y35_3⟩ := Cz.d4 BK243) | ((with_reducible refine gate_callee (f := 54) rfl ?_); refine Cz.gL (N := (some 10)) Try.func54 #[.slice A0_3 l0_3.length c0_3, .slice A1_3 l1_3.length c1_3] ?_; (with_reducible refine (waggonerref07_All.calls _ _ l0_3 _ _ l1_3 t244 _ ?side1 ?side2 ?side3 ?side4 A3.out).mono ?_); (case side1 => exact Cz.cb HR0_3); (case side2 => exact HC0_3.out); (case side3 => exact Cz.cb HR1_3); (case side4 => exact HC1_3.out); rintro e w36 ⟨rfl, hb⟩; refine ⟨_, rfl, ?_⟩; replace BK242 := Cz.bk BK242 hb; replace BK243 := Cz.bk BK243 hb; replace HB := Cz.bs (w := w) hb; (try clear hb); obtain ⟨z37_0, z37_1, z37_2, z37_3, y37_0, y37_1, y37_2, y37_3⟩ := Cz.d4 BK242; obtain ⟨z38_0, z38_1, z38_2, z38_3, y38_0, y38_1, y38_2, y38_3⟩ := Cz.d4 BK243))
  go_ret
  exact ⟨Cz.er, Cz.bl (w := w)⟩
end Go.Proofs.Ytohkmmbmfhficaa.PM
