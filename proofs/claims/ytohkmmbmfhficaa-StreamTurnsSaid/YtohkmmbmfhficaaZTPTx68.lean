/- Words and walks that this claim names, of those that the kit's print and programs of this workplace have printed. -/
import Derived.Test.YtohkmmbmfhficaaZTCz
import Derived.Test.YtohkmmbmfhficaaZTPTx5
import Derived.Test.YtohkmmbmfhficaaZTPTx62
namespace Go.Proofs.Ytohkmmbmfhficaa.PT
open Go.Proofs.Ytohkmmbmfhficaa Go.RowKit Go.Proofs.YtohkmmbmfhficaaW.PrintWords Go.Proofs.YtohkmmbmfhficaaW.PrintLast Go.Proofs.YtohkmmbmfhficaaW.PrintMore
attribute [local go_sem] max2_int min2_int max_two min_two max_three min_three max_four min_four
set_option linter.unusedVariables false
set_option linter.unusedSimpArgs false
def stream_Read.f (l0 : List Int) : Option (Int × Int × Int × (List (S36)) × Int) := (stream_Begin.f l0).bind fun bt229 => (if bt229.2.2.2.2 = 0 then (some (bt229.1, bt229.2.1, bt229.2.2.1, bt229.2.2.2.1, 0)) else (some (0, 0, 0, ([] : List (S36)), 170)))
set_option maxHeartbeats 8000000 in
set_option maxRecDepth 100000 in
theorem stream_Read.calls (A0 : Option Addr) (c0 : Nat) (l0 : List Int) (r1 : Int) (r2 : Int) (r3 : Int) (r4 : List (S36)) (r5 : Int) (w : World) (hr0 : Kd.C (Kd.int .u8) w A0 l0.length l0) (hc0 : l0.length ≤ c0) (h : stream_Read.f l0 = some (r1, r2, r3, r4, r5)) :
  Calls Try.prog 28 #[.slice A0 l0.length c0] w fun e w' => ∃ v3_ : Value, e = .returned (.tuple #[.agg #[.int .i64 r1, .int .i64 r2, .int .i64 r3, v3_], .int .i64 r5]) ∧ Kd.R k36 36 w' w.heap.size (fun _ => True) v3_ r4 ∧ Below w.heap.size w w' := by
 have hu0 := Try.underlying24
 have HR0 := Aside0.mk hr0
 have HC0 := Aside0.mk hc0
 clear hr0 hc0
 have HB := Aside0.mk (Below.refl w.heap.size w)
 have H : ((stream_Begin.f l0).bind fun bt0 => (if bt0.2.2.2.2 = 0 then (some (bt0.1, bt0.2.1, bt0.2.2.1, bt0.2.2.2.1, 0)) else (some (0, 0, 0, ([] : List (S36)), 170)))) = some (r1, r2, r3, r4, r5) := h
 clear h
 replace H := Option.bind_eq_some_iff.mp H
 obtain ⟨⟨t229, t0, t1, t232, t2⟩, A1, H⟩ := H
 (try dsimp only at H)
 have A2 := Aside0.mk A1
 clear A1
 by_cases c3 : t2 = 0
 focus
  rw [if_pos c3] at H
  have c3b0 : (t2 == 0) = true := beq_iff_eq.mpr c3
  have c3b1 : (t2 != 0) = false := bne_eq_false_iff_eq.mpr c3
  clear c3
 rotate_left
 focus
  rw [if_neg c3] at H
  have c3b0 : (t2 == 0) = false := beq_eq_false_iff_ne.mpr c3
  have c3b1 : (t2 != 0) = true := bne_iff_ne.mpr c3
 rotate_left
 all_goals
  simp only [Option.some.injEq, Prod.mk.injEq] at H
  obtain ⟨rfl, rfl, rfl, rfl, rfl⟩ := H
  go_enter Try.func28, Try.ntmps28
 ·go_wp2_with (first | ((with_reducible refine gate_dst (N := 2) rfl ?_); refine Cz.bx (N := 2) #[.int .i64 0, .int .i64 0, .int .i64 0, .slice none 0 0] 24 ?_; intro gb0 hg w4 hbox hb; have BK0 := Aside0.mk (hbox); have GW0 := Aside0.mk ((Cz.gs hg : w.heap.size ≤ gb0)); have GE0 := GW0; replace HB := Cz.bs (w := w) hb; clear hb hbox hg) | ((with_reducible refine gate_callee (f := 17) rfl ?_); refine Cz.gL (N := (some 8)) Try.func17 #[.slice A0 l0.length c0] ?_; (with_reducible refine (stream_Begin.calls _ _ l0 t229 t0 t1 t232 t2 _ ?side0 ?side1 A2.out).mono ?_); (case side0 => exact Cz.cb HR0); (case side1 => exact HC0.out); rintro e w5 ⟨v233, rfl, ho0, hb⟩; refine ⟨_, rfl, ?_⟩; have HO0 := Aside0.mk (Kd.R_lower ho0 (below_size (Cz.bl (w := w)))); replace BK0 := Cz.bk BK0 hb; replace HB := Cz.bs (w := w) hb; (try clear hb); (try clear ho0)) | ((with_reducible refine gate_dst (N := 4) rfl ?_); refine Cz.bx (N := 4) #[.int .i64 0, .int .i64 0, .int .i64 0, .slice none 0 0] 24 ?_; intro gb1 hg w0 hbox hb; have BK1 := Aside0.mk (hbox); have GW1 := Aside0.mk ((Cz.gs hg : w.heap.size ≤ gb1)); have GE1 := GW1; have NB0_236 := Aside0.mk ((Cz.nl BK0 hg : gb0 ≠ gb1)); have NB1_228 := Aside0.mk ((Cz.nr BK0 hg : gb1 ≠ gb0)); replace HO0 := Cz.rb HO0 hb; replace BK0 := Cz.bk BK0 hb; replace HB := Cz.bs (w := w) hb; clear hb hbox hg; have hnb0 := NB1_228.out; have hnc0 := NB0_236.out; obtain ⟨z0_0, z0_1, z0_2, z0_3, y0_0, y0_1, y0_2, y0_3⟩ := Cz.d4 BK1; obtain ⟨Ao0, co0, eo0⟩ := Kd.R_slice HO0.out; subst eo0; obtain ⟨z1_0, z1_1, z1_2, z1_3, y1_0, y1_1, y1_2, y1_3⟩ := Cz.d4 BK0))
  refine bodyPost_ret (results_ct rfl _ _ gb0 24 #[.int .i64 t229, .int .i64 t0, .int .i64 t1, .slice Ao0 t232.length co0] (0, 0) _ rfl (by (with_reducible repeat (first | refine blk_drewN ?_ _ | refine blk_drew ?_ | refine blk_alloc ?_ _)); apply Cz.a4; refine blk_far ?_ NB0_236.out _; refine blk_far ?_ NB0_236.out _; refine blk_far ?_ NB0_236.out _; refine blk_far ?_ NB0_236.out _; (with_reducible repeat (first | refine blk_drewN ?_ _ | refine blk_drew ?_ | refine blk_alloc ?_ _)); exact BK0.out) Try.underlying24 rfl (by kernel_rfl)) rfl ?_
  exact ⟨_, Cz.er, by (with_reducible repeat (first | apply Kd.R_alloc | apply Kd.R_drewN | apply Kd.R_drew)); exact Kd.R_mono (Cz.rf (Cz.rf (Cz.rf (Cz.rf (Kd.R_far (p := ⟨gb1, 3, none⟩) (Kd.R_far (p := ⟨gb1, 2, none⟩) (Kd.R_far (p := ⟨gb1, 1, none⟩) (Kd.R_far (p := ⟨gb1, 0, none⟩) (Kd.R_types (Kd.R_types HO0.out BK1.out (by decide)) BK0.out (by decide)) (fun _ hk => hk.1.2) (.int .i64 t229)) (fun _ hk => hk.1.2) (.int .i64 t0)) (fun _ hk => hk.1.2) (.int .i64 t1)) (fun _ hk => hk.1.2) (.slice Ao0 t232.length co0)))))) (fun _ hk => trivial), Cz.bl (w := w)⟩
 ·go_wp2_with (first | ((with_reducible refine gate_dst (N := 2) rfl ?_); refine Cz.bx (N := 2) #[.int .i64 0, .int .i64 0, .int .i64 0, .slice none 0 0] 24 ?_; intro gb0 hg w0 hbox hb; have BK0 := Aside0.mk (hbox); have GW0 := Aside0.mk ((Cz.gs hg : w.heap.size ≤ gb0)); have GE0 := GW0; replace HB := Cz.bs (w := w) hb; clear hb hbox hg) | ((with_reducible refine gate_callee (f := 17) rfl ?_); refine Cz.gL (N := (some 8)) Try.func17 #[.slice A0 l0.length c0] ?_; (with_reducible refine (stream_Begin.calls _ _ l0 t229 t0 t1 t232 t2 _ ?side0 ?side1 A2.out).mono ?_); (case side0 => exact Cz.cb HR0); (case side1 => exact HC0.out); rintro e w1 ⟨v233, rfl, ho0, hb⟩; refine ⟨_, rfl, ?_⟩; have HO0 := Aside0.mk (Kd.R_lower ho0 (below_size (Cz.bl (w := w)))); replace BK0 := Cz.bk BK0 hb; replace HB := Cz.bs (w := w) hb; (try clear hb); (try clear ho0)) | ((with_reducible refine gate_dst (N := 4) rfl ?_); refine Cz.bx (N := 4) #[.int .i64 0, .int .i64 0, .int .i64 0, .slice none 0 0] 24 ?_; intro gb1 hg w2 hbox hb; have BK1 := Aside0.mk (hbox); have GW1 := Aside0.mk ((Cz.gs hg : w.heap.size ≤ gb1)); have GE1 := GW1; have NB0_236 := Aside0.mk ((Cz.nl BK0 hg : gb0 ≠ gb1)); have NB1_228 := Aside0.mk ((Cz.nr BK0 hg : gb1 ≠ gb0)); replace HO0 := Cz.rb HO0 hb; replace BK0 := Cz.bk BK0 hb; replace HB := Cz.bs (w := w) hb; clear hb hbox hg; have hnb0 := NB1_228.out; have hnc0 := NB0_236.out; obtain ⟨z0_0, z0_1, z0_2, z0_3, y0_0, y0_1, y0_2, y0_3⟩ := Cz.d4 BK1; obtain ⟨Ao0, co0, eo0⟩ := Kd.R_slice HO0.out; subst eo0; obtain ⟨z1_0, z1_1, z1_2, z1_3, y1_0, y1_1, y1_2, y1_3⟩ := Cz.d4 BK0))
  refine bodyPost_ret (results_ct rfl _ _ gb0 24 #[.int .i64 0, .int .i64 0, .int .i64 0, .slice none 0 0] (0, 0) _ rfl (by (with_reducible repeat (first | refine blk_drewN ?_ _ | refine blk_drew ?_ | refine blk_alloc ?_ _)); apply Cz.a4; refine blk_far ?_ NB0_236.out _; refine blk_far ?_ NB0_236.out _; refine blk_far ?_ NB0_236.out _; refine blk_far ?_ NB0_236.out _; (with_reducible repeat (first | refine blk_drewN ?_ _ | refine blk_drew ?_ | refine blk_alloc ?_ _)); exact BK0.out) Try.underlying24 rfl (by kernel_rfl)) rfl ?_
  exact ⟨_, Cz.er, by first | exact Kd.R_nil _ _ _ _ _ | exact Kd.N_nil _ _ _ _ _ | exact Kd.V_nil _ _ _ _ _ | exact Kd.Q_nil _ _ _ _ _ | exact Kd.S_nil _ _ _ _ _, Cz.bl (w := w)⟩
def waggonerref07_Same_p.f (a0_0 : Int) (a0_1 : Int) (a0_2 : Int) (a0_3 : Int) (l0_4 : List Int) (a1_0 : Int) (a1_1 : Int) (a1_2 : Int) (a1_3 : Int) (l1_4 : List Int) : Option (Bool) := if a0_0 = a1_0 then (if a0_1 = a1_1 then (if a0_2 = a1_2 then (if a0_3 = a1_3 then (some ((strOfNums l0_4).toList == (strOfNums l1_4).toList)) else (some false)) else (some false)) else (some false)) else (some false)
set_option maxHeartbeats 8000000 in
set_option maxRecDepth 100000 in
theorem waggonerref07_Same_p.calls (a0_0 : Int) (a0_1 : Int) (a0_2 : Int) (a0_3 : Int) (A0_4 : Option Addr) (c0_4 : Nat) (l0_4 : List Int) (a1_0 : Int) (a1_1 : Int) (a1_2 : Int) (a1_3 : Int) (A1_4 : Option Addr) (c1_4 : Nat) (l1_4 : List Int) (r : Bool) (w : World) (hr0_4 : Kd.C (Kd.int .u8) w A0_4 l0_4.length l0_4) (hc0_4 : l0_4.length ≤ c0_4) (hr1_4 : Kd.C (Kd.int .u8) w A1_4 l1_4.length l1_4) (hc1_4 : l1_4.length ≤ c1_4) (h : waggonerref07_Same_p.f a0_0 a0_1 a0_2 a0_3 l0_4 a1_0 a1_1 a1_2 a1_3 l1_4 = some r) :
  Calls Try.prog 76 #[.agg #[.int .i64 a0_0, .int .i64 a0_1, .int .i64 a0_2, .int .i64 a0_3, .slice A0_4 l0_4.length c0_4], .agg #[.int .i64 a1_0, .int .i64 a1_1, .int .i64 a1_2, .int .i64 a1_3, .slice A1_4 l1_4.length c1_4]] w fun e w' => e = .returned (.bool r) ∧ Below w.heap.size w w' := by
 have hu0 := Try.underlying36
 have HR0_4 := Aside0.mk hr0_4
 have HC0_4 := Aside0.mk hc0_4
 clear hr0_4 hc0_4
 have HR1_4 := Aside0.mk hr1_4
 have HC1_4 := Aside0.mk hc1_4
 clear hr1_4 hc1_4
 have HB := Aside0.mk (Below.refl w.heap.size w)
 have H : (if a0_0 = a1_0 then (if a0_1 = a1_1 then (if a0_2 = a1_2 then (if a0_3 = a1_3 then (some ((strOfNums l0_4).toList == (strOfNums l1_4).toList)) else (some false)) else (some false)) else (some false)) else (some false)) = some r := h
 clear h
 by_cases c3 : a0_0 = a1_0
 focus
  rw [if_pos c3] at H
  have c3b0 : (a0_0 == a1_0) = true := beq_iff_eq.mpr c3
  have c3b1 : (a0_0 != a1_0) = false := bne_eq_false_iff_eq.mpr c3
  clear c3
  by_cases c4 : a0_1 = a1_1
  focus
   rw [if_pos c4] at H
   have c4b0 : (a0_1 == a1_1) = true := beq_iff_eq.mpr c4
   have c4b1 : (a0_1 != a1_1) = false := bne_eq_false_iff_eq.mpr c4
   clear c4
   by_cases c5 : a0_2 = a1_2
   focus
    rw [if_pos c5] at H
    have c5b0 : (a0_2 == a1_2) = true := beq_iff_eq.mpr c5
    have c5b1 : (a0_2 != a1_2) = false := bne_eq_false_iff_eq.mpr c5
    clear c5
    by_cases c6 : a0_3 = a1_3
   rotate_left 3
  rotate_left 4
 rotate_left 5
 focus
  rw [if_pos c6] at H
  have c6b0 : (a0_3 == a1_3) = true := beq_iff_eq.mpr c6
  have c6b1 : (a0_3 != a1_3) = false := bne_eq_false_iff_eq.mpr c6
  clear c6
 rotate_left
 focus
  rw [if_neg c6] at H
  have c6b0 : (a0_3 == a1_3) = false := beq_eq_false_iff_ne.mpr c6
  have c6b1 : (a0_3 != a1_3) = true := bne_iff_ne.mpr c6
 rotate_left
 focus
  rw [if_neg c5] at H
  have c5b0 : (a0_2 == a1_2) = false := beq_eq_false_iff_ne.mpr c5
  have c5b1 : (a0_2 != a1_2) = true := bne_iff_ne.mpr c5
 rotate_left
 focus
  rw [if_neg c4] at H
  have c4b0 : (a0_1 == a1_1) = false := beq_eq_false_iff_ne.mpr c4
  have c4b1 : (a0_1 != a1_1) = true := bne_iff_ne.mpr c4
 rotate_left
 focus
  rw [if_neg c3] at H
  have c3b0 : (a0_0 == a1_0) = false := beq_eq_false_iff_ne.mpr c3
  have c3b1 : (a0_0 != a1_0) = true := bne_iff_ne.mpr c3
 rotate_left
 all_goals
  obtain rfl := Option.some.inj H
  go_enter Try.func76, Try.ntmps76
 focus go_wp2_with (first | ((with_reducible refine gate_dst (N := 2) rfl ?_); refine Cz.bx (N := 2) #[.int .i64 a0_0, .int .i64 a0_1, .int .i64 a0_2, .int .i64 a0_3, .slice A0_4 l0_4.length c0_4] 36 ?_; intro gb0 hg w7 hbox hb; have BK0 := Aside0.mk (hbox); have GW0 := Aside0.mk ((Cz.gs hg : w.heap.size ≤ gb0)); have GE0 := GW0; replace HB := Cz.bs (w := w) hb; clear hb hbox hg) | ((with_reducible refine gate_dst (N := 3) rfl ?_); refine Cz.bx (N := 3) #[.int .i64 a1_0, .int .i64 a1_1, .int .i64 a1_2, .int .i64 a1_3, .slice A1_4 l1_4.length c1_4] 36 ?_; intro gb1 hg w8 hbox hb; have BK1 := Aside0.mk (hbox); have GW1 := Aside0.mk ((Cz.gs hg : w.heap.size ≤ gb1)); have GE1 := GW1; have NB0_238 := Aside0.mk ((Cz.nl BK0 hg : gb0 ≠ gb1)); have NB1_237 := Aside0.mk ((Cz.nr BK0 hg : gb1 ≠ gb0)); replace BK0 := Cz.bk BK0 hb; replace HB := Cz.bs (w := w) hb; clear hb hbox hg; have hnb0 := NB0_238.out; have hnc0 := NB1_237.out; obtain ⟨z0_0, z0_1, z0_2, z0_3, z0_4, y0_0, y0_1, y0_2, y0_3, y0_4⟩ := Cz.d5 BK0; obtain ⟨z1_0, z1_1, z1_2, z1_3, z1_4, y1_0, y1_1, y1_2, y1_3, y1_4⟩ := Cz.d5 BK1; have hcv0 := Kd.C_string (P := Try.prog) (A := A0_4) (c := c0_4) Try.underlying27 Try.underlying5 Try.underlying9 (Kd.C_below HR0_4.out HB.out); (try have hcvd0 := fun (n_ : Nat) => Kd.C_string (P := Try.prog) (A := A0_4) (c := c0_4) Try.underlying27 Try.underlying5 Try.underlying9 (Kd.C_drewN (Kd.C_below HR0_4.out HB.out) n_)); have hcv1 := Kd.C_string (P := Try.prog) (A := A1_4) (c := c1_4) Try.underlying27 Try.underlying5 Try.underlying9 (Kd.C_below HR1_4.out HB.out); (try have hcvd1 := fun (n_ : Nat) => Kd.C_string (P := Try.prog) (A := A1_4) (c := c1_4) Try.underlying27 Try.underlying5 Try.underlying9 (Kd.C_drewN (Kd.C_below HR1_4.out HB.out) n_))))
 rotate_left
 focus go_wp2_with (first | ((with_reducible refine gate_dst (N := 2) rfl ?_); refine Cz.bx (N := 2) #[.int .i64 a0_0, .int .i64 a0_1, .int .i64 a0_2, .int .i64 a0_3, .slice A0_4 l0_4.length c0_4] 36 ?_; intro gb0 hg w16 hbox hb; have BK0 := Aside0.mk (hbox); have GW0 := Aside0.mk ((Cz.gs hg : w.heap.size ≤ gb0)); have GE0 := GW0; replace HB := Cz.bs (w := w) hb; clear hb hbox hg) | ((with_reducible refine gate_dst (N := 3) rfl ?_); refine Cz.bx (N := 3) #[.int .i64 a1_0, .int .i64 a1_1, .int .i64 a1_2, .int .i64 a1_3, .slice A1_4 l1_4.length c1_4] 36 ?_; intro gb1 hg w0 hbox hb; have BK1 := Aside0.mk (hbox); have GW1 := Aside0.mk ((Cz.gs hg : w.heap.size ≤ gb1)); have GE1 := GW1; have NB0_238 := Aside0.mk ((Cz.nl BK0 hg : gb0 ≠ gb1)); have NB1_237 := Aside0.mk ((Cz.nr BK0 hg : gb1 ≠ gb0)); replace BK0 := Cz.bk BK0 hb; replace HB := Cz.bs (w := w) hb; clear hb hbox hg; have hnb0 := NB0_238.out; have hnc0 := NB1_237.out; obtain ⟨z0_0, z0_1, z0_2, z0_3, z0_4, y0_0, y0_1, y0_2, y0_3, y0_4⟩ := Cz.d5 BK0; obtain ⟨z1_0, z1_1, z1_2, z1_3, z1_4, y1_0, y1_1, y1_2, y1_3, y1_4⟩ := Cz.d5 BK1))
 rotate_left
 iterate 2
  focus go_wp2_with (first | ((with_reducible refine gate_dst (N := 2) rfl ?_); refine Cz.bx (N := 2) #[.int .i64 a0_0, .int .i64 a0_1, .int .i64 a0_2, .int .i64 a0_3, .slice A0_4 l0_4.length c0_4] 36 ?_; intro gb0 hg w0 hbox hb; have BK0 := Aside0.mk (hbox); have GW0 := Aside0.mk ((Cz.gs hg : w.heap.size ≤ gb0)); have GE0 := GW0; replace HB := Cz.bs (w := w) hb; clear hb hbox hg) | ((with_reducible refine gate_dst (N := 3) rfl ?_); refine Cz.bx (N := 3) #[.int .i64 a1_0, .int .i64 a1_1, .int .i64 a1_2, .int .i64 a1_3, .slice A1_4 l1_4.length c1_4] 36 ?_; intro gb1 hg w1 hbox hb; have BK1 := Aside0.mk (hbox); have GW1 := Aside0.mk ((Cz.gs hg : w.heap.size ≤ gb1)); have GE1 := GW1; have NB0_238 := Aside0.mk ((Cz.nl BK0 hg : gb0 ≠ gb1)); have NB1_237 := Aside0.mk ((Cz.nr BK0 hg : gb1 ≠ gb0)); replace BK0 := Cz.bk BK0 hb; replace HB := Cz.bs (w := w) hb; clear hb hbox hg; have hnb0 := NB0_238.out; have hnc0 := NB1_237.out; obtain ⟨z0_0, z0_1, z0_2, z0_3, z0_4, y0_0, y0_1, y0_2, y0_3, y0_4⟩ := Cz.d5 BK0; obtain ⟨z1_0, z1_1, z1_2, z1_3, z1_4, y1_0, y1_1, y1_2, y1_3, y1_4⟩ := Cz.d5 BK1))
  rotate_left
 focus go_wp2_with (first | ((with_reducible refine gate_dst (N := 2) rfl ?_); refine Cz.bx (N := 2) #[.int .i64 a0_0, .int .i64 a0_1, .int .i64 a0_2, .int .i64 a0_3, .slice A0_4 l0_4.length c0_4] 36 ?_; intro gb0 hg w0 hbox hb; have BK0 := Aside0.mk (hbox); have GW0 := Aside0.mk ((Cz.gs hg : w.heap.size ≤ gb0)); have GE0 := GW0; replace HB := Cz.bs (w := w) hb; clear hb hbox hg) | ((with_reducible refine gate_dst (N := 3) rfl ?_); refine Cz.bx (N := 3) #[.int .i64 a1_0, .int .i64 a1_1, .int .i64 a1_2, .int .i64 a1_3, .slice A1_4 l1_4.length c1_4] 36 ?_; intro gb1 hg w32 hbox hb; have BK1 := Aside0.mk (hbox); have GW1 := Aside0.mk ((Cz.gs hg : w.heap.size ≤ gb1)); have GE1 := GW1; have NB0_238 := Aside0.mk ((Cz.nl BK0 hg : gb0 ≠ gb1)); have NB1_237 := Aside0.mk ((Cz.nr BK0 hg : gb1 ≠ gb0)); replace BK0 := Cz.bk BK0 hb; replace HB := Cz.bs (w := w) hb; clear hb hbox hg; have hnb0 := NB0_238.out; have hnc0 := NB1_237.out; obtain ⟨z0_0, z0_1, z0_2, z0_3, z0_4, y0_0, y0_1, y0_2, y0_3, y0_4⟩ := Cz.d5 BK0; obtain ⟨z1_0, z1_1, z1_2, z1_3, z1_4, y1_0, y1_1, y1_2, y1_3, y1_4⟩ := Cz.d5 BK1))
 rotate_left
 all_goals
  go_ret
  exact ⟨Cz.er, Cz.bl (w := w)⟩
def waggonerref07_Same.f (a0_0 a0_1 a0_2 a0_3 : Int) (l0_4 : List Int) (a1_0 a1_1 a1_2 a1_3 : Int) (l1_4 : List Int) : Option Bool := if Pl.byteB l0_4 = true ∧ Pl.byteB l1_4 = true then some (decide (((a0_0, a0_1, a0_2, a0_3, l0_4) : Pl.Ext) = (a1_0, a1_1, a1_2, a1_3, l1_4))) else none
theorem waggonerref07_Same.tells {a0_0 a0_1 a0_2 a0_3 : Int} {l0_4 : List Int} {a1_0 a1_1 a1_2 a1_3 : Int} {l1_4 : List Int} (h0 : Pl.byteB l0_4 = true) (h1 : Pl.byteB l1_4 = true) : waggonerref07_Same.f a0_0 a0_1 a0_2 a0_3 l0_4 a1_0 a1_1 a1_2 a1_3 l1_4 = some (decide (((a0_0, a0_1, a0_2, a0_3, l0_4) : Pl.Ext) = (a1_0, a1_1, a1_2, a1_3, l1_4))) := if_pos ⟨h0, h1⟩
theorem waggonerref07_Same.closes {a0_0 a0_1 a0_2 a0_3 : Int} {l0_4 : List Int} {a1_0 a1_1 a1_2 a1_3 : Int} {l1_4 : List Int} {r : Bool} (h : waggonerref07_Same.f a0_0 a0_1 a0_2 a0_3 l0_4 a1_0 a1_1 a1_2 a1_3 l1_4 = some r) : waggonerref07_Same_p.f a0_0 a0_1 a0_2 a0_3 l0_4 a1_0 a1_1 a1_2 a1_3 l1_4 = some r := by
 unfold waggonerref07_Same.f at h
 split at h
 case isFalse => cases h
 rename_i hh
 rw [← h]
 unfold waggonerref07_Same_p.f
 rw [Pl.str_eq hh.1 hh.2]
 by_cases h0 : a0_0 = a1_0
 ·by_cases h1 : a0_1 = a1_1
  ·by_cases h2 : a0_2 = a1_2
   ·by_cases h3 : a0_3 = a1_3
    ·rw [if_pos h0, if_pos h1, if_pos h2, if_pos h3, Option.some.injEq, Bool.eq_iff_iff, beq_iff_eq, decide_eq_true_eq, h0, h1, h2, h3]
     constructor
     ·intro e; rw [e]
     ·intro e; exact congrArg (fun p : Pl.Ext => p.2.2.2.2) e
    rw [if_pos h0, if_pos h1, if_pos h2, if_neg h3, decide_eq_false (fun e => h3 (congrArg (fun p : Pl.Ext => p.2.2.2.1) e))]
   rw [if_pos h0, if_pos h1, if_neg h2, decide_eq_false (fun e => h2 (congrArg (fun p : Pl.Ext => p.2.2.1) e))]
  rw [if_pos h0, if_neg h1, decide_eq_false (fun e => h1 (congrArg (fun p : Pl.Ext => p.2.1) e))]
 rw [if_neg h0, decide_eq_false (fun e => h0 (congrArg (fun p : Pl.Ext => p.1) e))]
theorem waggonerref07_Same.calls (a0_0 : Int) (a0_1 : Int) (a0_2 : Int) (a0_3 : Int) (A0_4 : Option Addr) (c0_4 : Nat) (l0_4 : List Int) (a1_0 : Int) (a1_1 : Int) (a1_2 : Int) (a1_3 : Int) (A1_4 : Option Addr) (c1_4 : Nat) (l1_4 : List Int) (r : Bool) (w : World) (hr0_4 : Kd.C (Kd.int .u8) w A0_4 l0_4.length l0_4) (hc0_4 : l0_4.length ≤ c0_4) (hr1_4 : Kd.C (Kd.int .u8) w A1_4 l1_4.length l1_4) (hc1_4 : l1_4.length ≤ c1_4) (h : waggonerref07_Same.f a0_0 a0_1 a0_2 a0_3 l0_4 a1_0 a1_1 a1_2 a1_3 l1_4 = some r) :
  Calls Try.prog 76 #[.agg #[.int .i64 a0_0, .int .i64 a0_1, .int .i64 a0_2, .int .i64 a0_3, .slice A0_4 l0_4.length c0_4], .agg #[.int .i64 a1_0, .int .i64 a1_1, .int .i64 a1_2, .int .i64 a1_3, .slice A1_4 l1_4.length c1_4]] w fun e w' => e = .returned (.bool r) ∧ Below w.heap.size w w' :=
 waggonerref07_Same_p.calls a0_0 a0_1 a0_2 a0_3 A0_4 c0_4 l0_4 a1_0 a1_1 a1_2 a1_3 A1_4 c1_4 l1_4 r w hr0_4 hc0_4 hr1_4 hc1_4 (waggonerref07_Same.closes h)
def waggonerref07_All_p.l0 : Nat → List (S36) → List (S36) → Int → Option (Bool)
 | 0, _, _, _ => none
 | k + 1, x0, x1, x5 => if x5 < (x0.length : Int) then (if 0 ≤ x5 then (if x5 < (x1.length : Int) then ((waggonerref07_Same.f ((rd_T36 x0 x5).f0) ((rd_T36 x0 x5).f1) ((rd_T36 x0 x5).f2) ((rd_T36 x0 x5).f3) ((rd_T36 x0 x5).f4) ((rd_T36 x1 x5).f0) ((rd_T36 x1 x5).f1) ((rd_T36 x1 x5).f2) ((rd_T36 x1 x5).f3) ((rd_T36 x1 x5).f4)).bind fun t241 => (if t241 = true then (waggonerref07_All_p.l0 k x0 x1 (wrap64 (x5 + 1))) else (some false))) else (none)) else (none)) else (some true)
def waggonerref07_All_p.f (k : Nat) (l0 : List (S36)) (l1 : List (S36)) : Option (Bool) := if (l0.length : Int) = (l1.length : Int) then (waggonerref07_All_p.l0 k l0 l1 0) else (some false)
def waggonerref07_All_p.T6 : Bool × List (List Nat × List Nat) := (true, [([], []), ([], []), ([0, 1], [0, 1]), ([2], [2]), ([], []), ([], []), ([4, 5], [4, 5]), ([6], [6]), ([3, 7], [3, 7]), ([8, 8, 0, 1, 2, 3, 4, 5, 6, 7, 8], [8])])
def waggonerref07_All_p.B6 : List Nat := [0, 0, 3, 7, 0, 0, 48, 112, 255, 511]
theorem waggonerref07_All_p.tab6 : rtab .any (opsOf Try.f54 6) = waggonerref07_All_p.T6 := by kernel_rfl
theorem waggonerref07_All_p.bits6 : waitsOk waggonerref07_All_p.T6.2 waggonerref07_All_p.B6 = true := by kernel_rfl
set_option maxHeartbeats 8000000 in
set_option maxRecDepth 100000 in
theorem waggonerref07_All_p.calls (k : Nat) (A0 : Option Addr) (c0 : Nat) (l0 : List (S36)) (A1 : Option Addr) (c1 : Nat) (l1 : List (S36)) (r : Bool) (w : World) (hr0 : Kd.C k36 w A0 l0.length l0) (hc0 : l0.length ≤ c0) (hr1 : Kd.C k36 w A1 l1.length l1) (hc1 : l1.length ≤ c1) (h : waggonerref07_All_p.f k l0 l1 = some r) :
  Calls Try.prog 54 #[.slice A0 l0.length c0, .slice A1 l1.length c1] w fun e w' => e = .returned (.bool r) ∧ Below w.heap.size w w' := by
 have hu0 := Try.underlying36
 have HR0 := Aside0.mk hr0
 have HC0 := Aside0.mk hc0
 clear hr0 hc0
 have HR1 := Aside0.mk hr1
 have HC1 := Aside0.mk hc1
 clear hr1 hc1
 have HB := Aside0.mk (Below.refl w.heap.size w)
 have H : (if (l0.length : Int) = (l1.length : Int) then (waggonerref07_All_p.l0 k l0 l1 0) else (some false)) = some r := h
 clear h
 by_cases c3 : (l0.length : Int) = (l1.length : Int)
 rotate_left
 ·rw [if_neg c3] at H
  have c3b0 : ((l0.length : Int) == (l1.length : Int)) = false := beq_eq_false_iff_ne.mpr c3
  have c3b1 : ((l0.length : Int) != (l1.length : Int)) = true := bne_iff_ne.mpr c3
  have c3b2 : (l0.length == l1.length) = false := by first | simpa using c3 | (simp at c3 ⊢; omega)
  obtain rfl := Option.some.inj H
  go_enter Try.func54, Try.ntmps54
  go_wp2
  go_ret
  exact ⟨Cz.er, Cz.bl (w := w)⟩
 rw [if_pos c3] at H
 have c3b0 : ((l0.length : Int) == (l1.length : Int)) = true := beq_iff_eq.mpr c3
 have c3b1 : ((l0.length : Int) != (l1.length : Int)) = false := bne_eq_false_iff_eq.mpr c3
 have c3b2 : (l0.length == l1.length) = true := by first | simpa using c3 | (simp at c3 ⊢; omega)
 clear c3
 have H' := Aside0.mk H
 clear H
 go_enter Try.func54, Try.ntmps54
 go_wp2
 go_loopg [5] k (fun kq v5 w' => ∃ (x0_1 : Int), v5 = .int .i64 x0_1 ∧ Aside0 (waggonerref07_All_p.l0 kq l0 l1 x0_1 = some r) ∧ Aside0 (kq ≤ k) ∧ Aside0 (Below w.heap.size w w'))
 case atStart => exact ⟨(0), Cz.si, H', ⟨Nat.le_refl _⟩, ⟨Cz.bl (w := w)⟩⟩
 case round =>
  clear H'
  try clear c1
  try clear p2
  try clear c3
  try clear c3b0
  try clear c3b1
  try clear c3b2
  obtain ⟨x0_1, rfl, HA, HK0, HB⟩ := hrel
  cases gk with
  | zero => exact absurd HA.out (by simp [waggonerref07_All_p.l0])
  | succ k1 =>
   have H := HA.out
   clear HA
   simp only [waggonerref07_All_p.l0] at H
   by_cases c4 : x0_1 < (l0.length : Int)
   rotate_left
   ·rw [if_neg c4] at H
    have c4b0 : decide (x0_1 < (l0.length : Int)) = false := decide_eq_false c4
    clear c4
    obtain rfl := Option.some.inj H
    go_wp2
    go_ret
    exact ⟨Cz.er, Cz.bl (w := w)⟩
   rw [if_pos c4] at H
   have c4b0 : decide (x0_1 < (l0.length : Int)) = true := decide_eq_true c4
   clear c4
   by_cases c5 : 0 ≤ x0_1
   rotate_left
   ·rw [if_neg c5] at H
    exact absurd H (by simp)
   rw [if_pos c5] at H
   have c5b0 : decide (0 ≤ x0_1) = true := decide_eq_true c5
   clear c5
   by_cases c6 : x0_1 < (l1.length : Int)
   rotate_left
   ·rw [if_neg c6] at H
    exact absurd H (by simp)
   rw [if_pos c6] at H
   have c6b0 : decide (x0_1 < (l1.length : Int)) = true := decide_eq_true c6
   clear c6
   replace H := Option.bind_eq_some_iff.mp H
   obtain ⟨t0, A2, H⟩ := H
   (try dsimp only at H)
   have A3 := Aside0.mk A2
   clear A2
   by_cases c8 : t0 = true
   focus
    subst c8
    rw [if_pos rfl] at H
    have H' := Aside0.mk H
    clear H
   rotate_left
   focus
    replace c8 := Bool.eq_false_iff.mpr c8
    subst c8
    rw [if_neg (show ¬ (false = true) by decide)] at H
    obtain rfl := Option.some.inj H
   rotate_left
   all_goals
    try go_wp2
    replace HB := Aside0.mk (below_drew1 HB.out)
    have p0 : 0 ≤ (x0_1 : Int) := of_decide_eq_true (by first | (with_reducible assumption) | assumption)
    have q0 : x0_1 < (l0.length : Int) := of_decide_eq_true (by first | (with_reducible assumption) | assumption)
    obtain ⟨ad0, A4_4, c2_4, e0, hx0_0, hx0_1, hx0_2, hx0_3, hx0_4, hl0_4, hi0_4⟩ := at_T36 HR0.out x0_1 p0 q0
    have hw0_4 := hx0_4
    have hw0_3 := hx0_3
    have hw0_2 := hx0_2
    have hw0_1 := hx0_1
    have hw0_0 := hx0_0
    cases e0
    replace hx0_0 := Cz.hx HB hx0_0
    replace hx0_1 := Cz.hx HB hx0_1
    replace hx0_2 := Cz.hx HB hx0_2
    replace hx0_3 := Cz.hx HB hx0_3
    replace hx0_4 := Cz.hx HB hx0_4
    have HR2_4 := Aside0.mk hi0_4
    have HC2_4 := Aside0.mk hl0_4
    clear hi0_4 hl0_4
    replace p0 := eq_true p0
    replace q0 := eq_true q0
    have p1 : 0 ≤ (x0_1 : Int) := of_decide_eq_true (by first | (with_reducible assumption) | assumption)
    have q1 : x0_1 < (l1.length : Int) := of_decide_eq_true (by first | (with_reducible assumption) | assumption)
    obtain ⟨ad1, A5_4, c7_4, e1, hx1_0, hx1_1, hx1_2, hx1_3, hx1_4, hl1_4, hi1_4⟩ := at_T36 HR1.out x0_1 p1 q1
    have hw1_4 := hx1_4
    have hw1_3 := hx1_3
    have hw1_2 := hx1_2
    have hw1_1 := hx1_1
    have hw1_0 := hx1_0
    cases e1
    replace hx1_0 := Cz.hx HB hx1_0
    replace hx1_1 := Cz.hx HB hx1_1
    replace hx1_2 := Cz.hx HB hx1_2
    replace hx1_3 := Cz.hx HB hx1_3
    replace hx1_4 := Cz.hx HB hx1_4
    have HR3_4 := Aside0.mk hi1_4
    have HC3_4 := Aside0.mk hl1_4
    clear hi1_4 hl1_4
    replace p1 := eq_true p1
    replace q1 := eq_true q1
    refine start_ (n := 10) (S := fun w' => w'.cell? (ad0.add ((x0_1).toNat * 5)) = some (.int .i64 ((rd_T36 l0 x0_1).f0)) ∧ w'.cell? ⟨(ad0.add ((x0_1).toNat * 5)).block, (ad0.add ((x0_1).toNat * 5)).off + 1, none⟩ = some (.int .i64 ((rd_T36 l0 x0_1).f1)) ∧ w'.cell? ⟨(ad0.add ((x0_1).toNat * 5)).block, (ad0.add ((x0_1).toNat * 5)).off + 2, none⟩ = some (.int .i64 ((rd_T36 l0 x0_1).f2)) ∧ w'.cell? ⟨(ad0.add ((x0_1).toNat * 5)).block, (ad0.add ((x0_1).toNat * 5)).off + 3, none⟩ = some (.int .i64 ((rd_T36 l0 x0_1).f3)) ∧ w'.cell? ⟨(ad0.add ((x0_1).toNat * 5)).block, (ad0.add ((x0_1).toNat * 5)).off + 4, none⟩ = some (.slice A4_4 ((rd_T36 l0 x0_1).f4).length c2_4) ∧ w'.cell? (ad1.add ((x0_1).toNat * 5)) = some (.int .i64 ((rd_T36 l1 x0_1).f0)) ∧ w'.cell? ⟨(ad1.add ((x0_1).toNat * 5)).block, (ad1.add ((x0_1).toNat * 5)).off + 1, none⟩ = some (.int .i64 ((rd_T36 l1 x0_1).f1)) ∧ w'.cell? ⟨(ad1.add ((x0_1).toNat * 5)).block, (ad1.add ((x0_1).toNat * 5)).off + 2, none⟩ = some (.int .i64 ((rd_T36 l1 x0_1).f2)) ∧ w'.cell? ⟨(ad1.add ((x0_1).toNat * 5)).block, (ad1.add ((x0_1).toNat * 5)).off + 3, none⟩ = some (.int .i64 ((rd_T36 l1 x0_1).f3)) ∧ w'.cell? ⟨(ad1.add ((x0_1).toNat * 5)).block, (ad1.add ((x0_1).toNat * 5)).off + 4, none⟩ = some (.slice A5_4 ((rd_T36 l1 x0_1).f4).length c7_4)) (ds := []) #[false, false, false, false, false, false, false, false, false, false] (by kernel_rfl) rfl rfl ⟨(Cz.hx HB hw0_0), (Cz.hx HB hw0_1), (Cz.hx HB hw0_2), (Cz.hx HB hw0_3), (Cz.hx HB hw0_4), (Cz.hx HB hw1_0), (Cz.hx HB hw1_1), (Cz.hx HB hw1_2), (Cz.hx HB hw1_3), (Cz.hx HB hw1_4)⟩ (fun hHeld => ?_); refine with_tabW waggonerref07_All_p.tab6 waggonerref07_All_p.bits6 (fun HT_ HW_ => ?_)
    generalize wr.drew = w0 at HB HR2_4 HR3_4 hx0_0 hx0_1 hx0_2 hx0_3 hx0_4 hx1_0 hx1_1 hx1_2 hx1_3 hx1_4 hHeld ⊢
    refine Cz.qP 0 18 HT_ ?_
    refine Cz.qP 1 19 HT_ ?_
    refine Cz.qP 2 20 HT_ ?_
    refine Cz.qP 4 22 HT_ ?_
    refine Cz.qP 5 23 HT_ ?_
    refine Cz.qP 6 24 HT_ ?_
    refine Cz.qT 3 21 HT_ HW_ hHeld ?_
    refine Cz.qT 7 25 HT_ HW_ hHeld ?_
    refine Cz.qO (N := some 26) 8 HT_ (fun K hK => ?_)
    refine Cz.gO Try.func76 #[.agg #[.int .i64 ((rd_T36 l0 x0_1).f0), .int .i64 ((rd_T36 l0 x0_1).f1), .int .i64 ((rd_T36 l0 x0_1).f2), .int .i64 ((rd_T36 l0 x0_1).f3), .slice A4_4 ((rd_T36 l0 x0_1).f4).length c2_4], .agg #[.int .i64 ((rd_T36 l1 x0_1).f0), .int .i64 ((rd_T36 l1 x0_1).f1), .int .i64 ((rd_T36 l1 x0_1).f2), .int .i64 ((rd_T36 l1 x0_1).f3), .slice A5_4 ((rd_T36 l1 x0_1).f4).length c7_4]] ?_
   focus
    with_reducible refine (waggonerref07_Same.calls ((rd_T36 l0 x0_1).f0) ((rd_T36 l0 x0_1).f1) ((rd_T36 l0 x0_1).f2) ((rd_T36 l0 x0_1).f3) _ _ ((rd_T36 l0 x0_1).f4) ((rd_T36 l1 x0_1).f0) ((rd_T36 l1 x0_1).f1) ((rd_T36 l1 x0_1).f2) ((rd_T36 l1 x0_1).f3) _ _ ((rd_T36 l1 x0_1).f4) true _ ?side0 ?side1 ?side2 ?side3 A3.out).mono ?_
    (case side0 => exact Cz.cb HR2_4)
    (case side1 => exact HC2_4.out)
    (case side2 => exact Cz.cb HR3_4)
    (case side3 => exact HC3_4.out)
    rintro e w1 ⟨rfl, hb⟩
   rotate_left
   focus
    with_reducible refine (waggonerref07_Same.calls ((rd_T36 l0 x0_1).f0) ((rd_T36 l0 x0_1).f1) ((rd_T36 l0 x0_1).f2) ((rd_T36 l0 x0_1).f3) _ _ ((rd_T36 l0 x0_1).f4) ((rd_T36 l1 x0_1).f0) ((rd_T36 l1 x0_1).f1) ((rd_T36 l1 x0_1).f2) ((rd_T36 l1 x0_1).f3) _ _ ((rd_T36 l1 x0_1).f4) false _ ?side0 ?side1 ?side2 ?side3 A3.out).mono ?_
    (case side0 => exact Cz.cb HR2_4)
    (case side1 => exact HC2_4.out)
    (case side2 => exact Cz.cb HR3_4)
    (case side3 => exact HC3_4.out)
    rintro e w1 ⟨rfl, hb⟩
   rotate_left
   all_goals
    refine ⟨_, rfl, ?_⟩
    replace HB := Cz.bs (w := w) hb
    (try clear hb)
    (try clear hb2)
    (try clear hk)
    (try clear hi)
    refine hK.out _ _ ⟨(Cz.hx HB hw0_0), (Cz.hx HB hw0_1), (Cz.hx HB hw0_2), (Cz.hx HB hw0_3), (Cz.hx HB hw0_4), (Cz.hx HB hw1_0), (Cz.hx HB hw1_1), (Cz.hx HB hw1_2), (Cz.hx HB hw1_3), (Cz.hx HB hw1_4)⟩ (fun hHeld => ?_)
    clear hK K
    refine Cz.nm (some 26) ?_
    refine Cz.qP 9 6 HT_ ?_
    refine done_ (done_of HT_.out (by kernel_rfl)) ?_
    try go_wp2
   ·go_roundg k1
    case measure => have := HK0.out; omega
    case rel => exact ⟨(wrap64 (x0_1 + 1)), Cz.si, H', ⟨by have := HK0.out; omega⟩, ⟨Cz.bl (w := w)⟩⟩
   ·go_ret
    exact ⟨Cz.er, Cz.bl (w := w)⟩
def waggonerref07_All.f (l0 l1 : List S36) : Option Bool := if (∀ s ∈ l0, Pl.byteB s.f4 = true) ∧ (∀ s ∈ l1, Pl.byteB s.f4 = true) ∧ l0.length < 1073741824 then some (decide (l0.map toE = l1.map toE)) else none
theorem waggonerref07_All.tells {l0 l1 : List S36} (h0 : ∀ s ∈ l0, Pl.byteB s.f4 = true) (h1 : ∀ s ∈ l1, Pl.byteB s.f4 = true) (h2 : l0.length < 1073741824) : waggonerref07_All.f l0 l1 = some (decide (l0.map toE = l1.map toE)) := if_pos ⟨h0, h1, h2⟩
theorem waggonerref07_All.loop {l0 l1 : List S36} (h0 : ∀ s ∈ l0, Pl.byteB s.f4 = true) (h1 : ∀ s ∈ l1, Pl.byteB s.f4 = true) (h2 : l0.length < 1073741824) (hl : l0.length = l1.length) : ∀ (d k i : Nat), l0.length - i = d → i ≤ l0.length → d < k → waggonerref07_All_p.l0 k l0 l1 (i : Int) = some (decide ((l0.drop i).map toE = (l1.drop i).map toE))
 | 0, k, i, hd, hi, hk => by
  obtain ⟨k, rfl⟩ : ∃ m, k = m + 1 := ⟨k - 1, by omega⟩
  rw [waggonerref07_All_p.l0, if_neg (by omega), List.drop_of_length_le (by omega), List.drop_of_length_le (by omega)]
  rfl
 | d + 1, k, i, hd, hi, hk => by
  obtain ⟨k, rfl⟩ : ∃ m, k = m + 1 := ⟨k - 1, by omega⟩
  have hi0 : i < l0.length := by omega
  have hi1 : i < l1.length := by omega
  have hs : waggonerref07_Same.f l0[i].f0 l0[i].f1 l0[i].f2 l0[i].f3 l0[i].f4 l1[i].f0 l1[i].f1 l1[i].f2 l1[i].f3 l1[i].f4 = some (decide (toE l0[i] = toE l1[i])) := waggonerref07_Same.tells (h0 _ (List.getElem_mem hi0)) (h1 _ (List.getElem_mem hi1))
  rw [waggonerref07_All_p.l0, if_pos (by omega), if_pos (by omega), if_pos (by omega), rd_getE l0 i hi0, rd_getE l1 i hi1, hs, Option.bind_some, List.drop_eq_getElem_cons hi0, List.drop_eq_getElem_cons hi1, List.map_cons, List.map_cons]
  by_cases he : toE l0[i] = toE l1[i]
  ·rw [if_pos (decide_eq_true he), show wrap64 ((i : Int) + 1) = ((i + 1 : Nat) : Int) by unfold wrap64; omega, waggonerref07_All.loop h0 h1 h2 hl d k (i + 1) (by omega) (by omega) (by omega), he]
   simp
  rw [if_neg (fun hh => he (of_decide_eq_true hh)), decide_eq_false (fun hh => he (List.cons.inj hh).1)]
theorem waggonerref07_All.closes {l0 l1 : List S36} {r : Bool} (h : waggonerref07_All.f l0 l1 = some r) : waggonerref07_All_p.f (l0.length + 1) l0 l1 = some r := by
 unfold waggonerref07_All.f at h
 split at h
 case isFalse => cases h
 rename_i hh
 obtain ⟨h0, h1, h2⟩ := hh
 rw [← h]
 unfold waggonerref07_All_p.f
 by_cases hl : l0.length = l1.length
 ·rw [if_pos (by omega)]
  exact waggonerref07_All.loop h0 h1 h2 hl l0.length _ 0 (by omega) (by omega) (by omega)
 rw [if_neg (by omega), decide_eq_false (fun e => hl (by have := congrArg List.length e; rwa [List.length_map, List.length_map] at this))]
theorem waggonerref07_All.calls (A0 : Option Addr) (c0 : Nat) (l0 : List (S36)) (A1 : Option Addr) (c1 : Nat) (l1 : List (S36)) (r : Bool) (w : World) (hr0 : Kd.C k36 w A0 l0.length l0) (hc0 : l0.length ≤ c0) (hr1 : Kd.C k36 w A1 l1.length l1) (hc1 : l1.length ≤ c1) (h : waggonerref07_All.f l0 l1 = some r) :
  Calls Try.prog 54 #[.slice A0 l0.length c0, .slice A1 l1.length c1] w fun e w' => e = .returned (.bool r) ∧ Below w.heap.size w w' :=
 waggonerref07_All_p.calls (l0.length + 1) A0 c0 l0 A1 c1 l1 r w hr0 hc0 hr1 hc1 (waggonerref07_All.closes h)
def waggonerref17_Same.f (a0_0 : Int) (a0_1 : Int) (a0_2 : Int) (l0_3 : List (S36)) (a1_0 : Int) (a1_1 : Int) (a1_2 : Int) (l1_3 : List (S36)) : Option (Bool) := (waggonerref07_All.f l0_3 l1_3).bind fun t244 => (if a0_0 = a1_0 then (if a0_1 = a1_1 then (if a0_2 = a1_2 then (some t244) else (some false)) else (some false)) else (some false))
set_option maxHeartbeats 8000000 in
set_option maxRecDepth 100000 in
theorem waggonerref17_Same.calls (a0_0 : Int) (a0_1 : Int) (a0_2 : Int) (A0_3 : Option Addr) (c0_3 : Nat) (l0_3 : List (S36)) (a1_0 : Int) (a1_1 : Int) (a1_2 : Int) (A1_3 : Option Addr) (c1_3 : Nat) (l1_3 : List (S36)) (r : Bool) (w : World) (hr0_3 : Kd.C k36 w A0_3 l0_3.length l0_3) (hc0_3 : l0_3.length ≤ c0_3) (hr1_3 : Kd.C k36 w A1_3 l1_3.length l1_3) (hc1_3 : l1_3.length ≤ c1_3) (h : waggonerref17_Same.f a0_0 a0_1 a0_2 l0_3 a1_0 a1_1 a1_2 l1_3 = some r) :
  Calls Try.prog 30 #[.agg #[.int .i64 a0_0, .int .i64 a0_1, .int .i64 a0_2, .slice A0_3 l0_3.length c0_3], .agg #[.int .i64 a1_0, .int .i64 a1_1, .int .i64 a1_2, .slice A1_3 l1_3.length c1_3]] w fun e w' => e = .returned (.bool r) ∧ Below w.heap.size w w' := by
 have hu0 := Try.underlying24
 have HR0_3 := Aside0.mk hr0_3
 have HC0_3 := Aside0.mk hc0_3
 clear hr0_3 hc0_3
 have HR1_3 := Aside0.mk hr1_3
 have HC1_3 := Aside0.mk hc1_3
 clear hr1_3 hc1_3
 have HB := Aside0.mk (Below.refl w.heap.size w)
 have H : ((waggonerref07_All.f l0_3 l1_3).bind fun t0 => (if a0_0 = a1_0 then (if a0_1 = a1_1 then (if a0_2 = a1_2 then (some t0) else (some false)) else (some false)) else (some false))) = some r := h
 clear h
 replace H := Option.bind_eq_some_iff.mp H
 obtain ⟨t0, A2, H⟩ := H
 (try dsimp only at H)
 have A3 := Aside0.mk A2
 clear A2
 by_cases c4 : a0_0 = a1_0
 focus
  rw [if_pos c4] at H
  have c4b0 : (a0_0 == a1_0) = true := beq_iff_eq.mpr c4
  have c4b1 : (a0_0 != a1_0) = false := bne_eq_false_iff_eq.mpr c4
  clear c4
  by_cases c5 : a0_1 = a1_1
  focus
   rw [if_pos c5] at H
   have c5b0 : (a0_1 == a1_1) = true := beq_iff_eq.mpr c5
   have c5b1 : (a0_1 != a1_1) = false := bne_eq_false_iff_eq.mpr c5
   clear c5
   by_cases c6 : a0_2 = a1_2
  rotate_left 3
 rotate_left 4
 focus
  rw [if_pos c6] at H
  have c6b0 : (a0_2 == a1_2) = true := beq_iff_eq.mpr c6
  have c6b1 : (a0_2 != a1_2) = false := bne_eq_false_iff_eq.mpr c6
  clear c6
 rotate_left
 focus
  rw [if_neg c6] at H
  have c6b0 : (a0_2 == a1_2) = false := beq_eq_false_iff_ne.mpr c6
  have c6b1 : (a0_2 != a1_2) = true := bne_iff_ne.mpr c6
 rotate_left
 focus
  rw [if_neg c5] at H
  have c5b0 : (a0_1 == a1_1) = false := beq_eq_false_iff_ne.mpr c5
  have c5b1 : (a0_1 != a1_1) = true := bne_iff_ne.mpr c5
 rotate_left
 focus
  rw [if_neg c4] at H
  have c4b0 : (a0_0 == a1_0) = false := beq_eq_false_iff_ne.mpr c4
  have c4b1 : (a0_0 != a1_0) = true := bne_iff_ne.mpr c4
 rotate_left
 all_goals
  obtain rfl := Option.some.inj H
  go_enter Try.func30, Try.ntmps30
 focus go_wp2_with (first | ((with_reducible refine gate_dst (N := 2) rfl ?_); refine Cz.bx (N := 2) #[.int .i64 a0_0, .int .i64 a0_1, .int .i64 a0_2, .slice A0_3 l0_3.length c0_3] 24 ?_; intro gb0 hg w7 hbox hb; have BK0 := Aside0.mk (hbox); have GW0 := Aside0.mk ((Cz.gs hg : w.heap.size ≤ gb0)); have GE0 := GW0; replace HB := Cz.bs (w := w) hb; clear hb hbox hg) | ((with_reducible refine gate_dst (N := 3) rfl ?_); refine Cz.bx (N := 3) #[.int .i64 a1_0, .int .i64 a1_1, .int .i64 a1_2, .slice A1_3 l1_3.length c1_3] 24 ?_; intro gb1 hg w8 hbox hb; have BK1 := Aside0.mk (hbox); have GW1 := Aside0.mk ((Cz.gs hg : w.heap.size ≤ gb1)); have GE1 := GW1; have NB0_243 := Aside0.mk ((Cz.nl BK0 hg : gb0 ≠ gb1)); have NB1_242 := Aside0.mk ((Cz.nr BK0 hg : gb1 ≠ gb0)); replace BK0 := Cz.bk BK0 hb; replace HB := Cz.bs (w := w) hb; clear hb hbox hg; have hnb0 := NB0_243.out; have hnc0 := NB1_242.out; obtain ⟨z0_0, z0_1, z0_2, z0_3, y0_0, y0_1, y0_2, y0_3⟩ := Cz.d4 BK0; obtain ⟨z1_0, z1_1, z1_2, z1_3, y1_0, y1_1, y1_2, y1_3⟩ := Cz.d4 BK1) | ((with_reducible refine gate_callee (f := 54) rfl ?_); refine Cz.gL (N := (some 10)) Try.func54 #[.slice A0_3 l0_3.length c0_3, .slice A1_3 l1_3.length c1_3] ?_; (with_reducible refine (waggonerref07_All.calls _ _ l0_3 _ _ l1_3 t0 _ ?side0 ?side1 ?side2 ?side3 A3.out).mono ?_); (case side0 => exact Cz.cb HR0_3); (case side1 => exact HC0_3.out); (case side2 => exact Cz.cb HR1_3); (case side3 => exact HC1_3.out); rintro e w0 ⟨rfl, hb⟩; refine ⟨_, rfl, ?_⟩; replace BK0 := Cz.bk BK0 hb; replace BK1 := Cz.bk BK1 hb; replace HB := Cz.bs (w := w) hb; (try clear hb); obtain ⟨z2_0, z2_1, z2_2, z2_3, y2_0, y2_1, y2_2, y2_3⟩ := Cz.d4 BK0; obtain ⟨z3_0, z3_1, z3_2, z3_3, y3_0, y3_1, y3_2, y3_3⟩ := Cz.d4 BK1))
 rotate_left
 focus go_wp2_with (first | ((with_reducible refine gate_dst (N := 2) rfl ?_); refine Cz.bx (N := 2) #[.int .i64 a0_0, .int .i64 a0_1, .int .i64 a0_2, .slice A0_3 l0_3.length c0_3] 24 ?_; intro gb0 hg w0 hbox hb; have BK0 := Aside0.mk (hbox); have GW0 := Aside0.mk ((Cz.gs hg : w.heap.size ≤ gb0)); have GE0 := GW0; replace HB := Cz.bs (w := w) hb; clear hb hbox hg) | ((with_reducible refine gate_dst (N := 3) rfl ?_); refine Cz.bx (N := 3) #[.int .i64 a1_0, .int .i64 a1_1, .int .i64 a1_2, .slice A1_3 l1_3.length c1_3] 24 ?_; intro gb1 hg w16 hbox hb; have BK1 := Aside0.mk (hbox); have GW1 := Aside0.mk ((Cz.gs hg : w.heap.size ≤ gb1)); have GE1 := GW1; have NB0_243 := Aside0.mk ((Cz.nl BK0 hg : gb0 ≠ gb1)); have NB1_242 := Aside0.mk ((Cz.nr BK0 hg : gb1 ≠ gb0)); replace BK0 := Cz.bk BK0 hb; replace HB := Cz.bs (w := w) hb; clear hb hbox hg; have hnb0 := NB0_243.out; have hnc0 := NB1_242.out; obtain ⟨z0_0, z0_1, z0_2, z0_3, y0_0, y0_1, y0_2, y0_3⟩ := Cz.d4 BK0; obtain ⟨z1_0, z1_1, z1_2, z1_3, y1_0, y1_1, y1_2, y1_3⟩ := Cz.d4 BK1) | ((with_reducible refine gate_callee (f := 54) rfl ?_); refine Cz.gL (N := (some 10)) Try.func54 #[.slice A0_3 l0_3.length c0_3, .slice A1_3 l1_3.length c1_3] ?_; (with_reducible refine (waggonerref07_All.calls _ _ l0_3 _ _ l1_3 t0 _ ?side0 ?side1 ?side2 ?side3 A3.out).mono ?_); (case side0 => exact Cz.cb HR0_3); (case side1 => exact HC0_3.out); (case side2 => exact Cz.cb HR1_3); (case side3 => exact HC1_3.out); rintro e w1 ⟨rfl, hb⟩; refine ⟨_, rfl, ?_⟩; replace BK0 := Cz.bk BK0 hb; replace BK1 := Cz.bk BK1 hb; replace HB := Cz.bs (w := w) hb; (try clear hb); obtain ⟨z2_0, z2_1, z2_2, z2_3, y2_0, y2_1, y2_2, y2_3⟩ := Cz.d4 BK0; obtain ⟨z3_0, z3_1, z3_2, z3_3, y3_0, y3_1, y3_2, y3_3⟩ := Cz.d4 BK1))
 rotate_left
 focus go_wp2_with (first | ((with_reducible refine gate_dst (N := 2) rfl ?_); refine Cz.bx (N := 2) #[.int .i64 a0_0, .int .i64 a0_1, .int .i64 a0_2, .slice A0_3 l0_3.length c0_3] 24 ?_; intro gb0 hg w0 hbox hb; have BK0 := Aside0.mk (hbox); have GW0 := Aside0.mk ((Cz.gs hg : w.heap.size ≤ gb0)); have GE0 := GW0; replace HB := Cz.bs (w := w) hb; clear hb hbox hg) | ((with_reducible refine gate_dst (N := 3) rfl ?_); refine Cz.bx (N := 3) #[.int .i64 a1_0, .int .i64 a1_1, .int .i64 a1_2, .slice A1_3 l1_3.length c1_3] 24 ?_; intro gb1 hg w1 hbox hb; have BK1 := Aside0.mk (hbox); have GW1 := Aside0.mk ((Cz.gs hg : w.heap.size ≤ gb1)); have GE1 := GW1; have NB0_243 := Aside0.mk ((Cz.nl BK0 hg : gb0 ≠ gb1)); have NB1_242 := Aside0.mk ((Cz.nr BK0 hg : gb1 ≠ gb0)); replace BK0 := Cz.bk BK0 hb; replace HB := Cz.bs (w := w) hb; clear hb hbox hg; have hnb0 := NB0_243.out; have hnc0 := NB1_242.out; obtain ⟨z0_0, z0_1, z0_2, z0_3, y0_0, y0_1, y0_2, y0_3⟩ := Cz.d4 BK0; obtain ⟨z1_0, z1_1, z1_2, z1_3, y1_0, y1_1, y1_2, y1_3⟩ := Cz.d4 BK1) | ((with_reducible refine gate_callee (f := 54) rfl ?_); refine Cz.gL (N := (some 10)) Try.func54 #[.slice A0_3 l0_3.length c0_3, .slice A1_3 l1_3.length c1_3] ?_; (with_reducible refine (waggonerref07_All.calls _ _ l0_3 _ _ l1_3 t0 _ ?side0 ?side1 ?side2 ?side3 A3.out).mono ?_); (case side0 => exact Cz.cb HR0_3); (case side1 => exact HC0_3.out); (case side2 => exact Cz.cb HR1_3); (case side3 => exact HC1_3.out); rintro e w2 ⟨rfl, hb⟩; refine ⟨_, rfl, ?_⟩; replace BK0 := Cz.bk BK0 hb; replace BK1 := Cz.bk BK1 hb; replace HB := Cz.bs (w := w) hb; (try clear hb); obtain ⟨z2_0, z2_1, z2_2, z2_3, y2_0, y2_1, y2_2, y2_3⟩ := Cz.d4 BK0; obtain ⟨z3_0, z3_1, z3_2, z3_3, y3_0, y3_1, y3_2, y3_3⟩ := Cz.d4 BK1))
 rotate_left
 focus go_wp2_with (first | ((with_reducible refine gate_dst (N := 2) rfl ?_); refine Cz.bx (N := 2) #[.int .i64 a0_0, .int .i64 a0_1, .int .i64 a0_2, .slice A0_3 l0_3.length c0_3] 24 ?_; intro gb0 hg w0 hbox hb; have BK0 := Aside0.mk (hbox); have GW0 := Aside0.mk ((Cz.gs hg : w.heap.size ≤ gb0)); have GE0 := GW0; replace HB := Cz.bs (w := w) hb; clear hb hbox hg) | ((with_reducible refine gate_dst (N := 3) rfl ?_); refine Cz.bx (N := 3) #[.int .i64 a1_0, .int .i64 a1_1, .int .i64 a1_2, .slice A1_3 l1_3.length c1_3] 24 ?_; intro gb1 hg w32 hbox hb; have BK1 := Aside0.mk (hbox); have GW1 := Aside0.mk ((Cz.gs hg : w.heap.size ≤ gb1)); have GE1 := GW1; have NB0_243 := Aside0.mk ((Cz.nl BK0 hg : gb0 ≠ gb1)); have NB1_242 := Aside0.mk ((Cz.nr BK0 hg : gb1 ≠ gb0)); replace BK0 := Cz.bk BK0 hb; replace HB := Cz.bs (w := w) hb; clear hb hbox hg; have hnb0 := NB0_243.out; have hnc0 := NB1_242.out; obtain ⟨z0_0, z0_1, z0_2, z0_3, y0_0, y0_1, y0_2, y0_3⟩ := Cz.d4 BK0; obtain ⟨z1_0, z1_1, z1_2, z1_3, y1_0, y1_1, y1_2, y1_3⟩ := Cz.d4 BK1) | ((with_reducible refine gate_callee (f := 54) rfl ?_); refine Cz.gL (N := (some 10)) Try.func54 #[.slice A0_3 l0_3.length c0_3, .slice A1_3 l1_3.length c1_3] ?_; (with_reducible refine (waggonerref07_All.calls _ _ l0_3 _ _ l1_3 t0 _ ?side0 ?side1 ?side2 ?side3 A3.out).mono ?_); (case side0 => exact Cz.cb HR0_3); (case side1 => exact HC0_3.out); (case side2 => exact Cz.cb HR1_3); (case side3 => exact HC1_3.out); rintro e w1 ⟨rfl, hb⟩; refine ⟨_, rfl, ?_⟩; replace BK0 := Cz.bk BK0 hb; replace BK1 := Cz.bk BK1 hb; replace HB := Cz.bs (w := w) hb; (try clear hb); obtain ⟨z2_0, z2_1, z2_2, z2_3, y2_0, y2_1, y2_2, y2_3⟩ := Cz.d4 BK0; obtain ⟨z3_0, z3_1, z3_2, z3_3, y3_0, y3_1, y3_2, y3_3⟩ := Cz.d4 BK1))
 rotate_left
 all_goals
  go_ret
  exact ⟨Cz.er, Cz.bl (w := w)⟩
end Go.Proofs.Ytohkmmbmfhficaa.PT
