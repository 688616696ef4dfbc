/- Words and walks that this claim names, of those that the kit's print and programs of this workplace have printed. -/
import Derived.Test.YtohkmmbmfhficaaZTCz
import Derived.Test.YtohkmmbmfhficaaZTPTx5
import Derived.Test.YtohkmmbmfhficaaZTPTx13
namespace Go.Proofs.Ytohkmmbmfhficaa.PT
open Go.Proofs.Ytohkmmbmfhficaa Go.RowKit Go.Proofs.YtohkmmbmfhficaaW.PrintWords Go.Proofs.YtohkmmbmfhficaaW.PrintLast Go.Proofs.YtohkmmbmfhficaaW.PrintMore
attribute [local go_sem] max2_int min2_int max_two min_two max_three min_three max_four min_four
set_option linter.unusedVariables false
set_option linter.unusedSimpArgs false
def frame_same_p.f (a0_0 : Int) (a0_1 : Int) (a0_2 : Int) (l0_3 : List Int) (a0_4 : Int) (a0_5 : Int) (a0_6 : Int) (a1_0 : Int) (a1_1 : Int) (a1_2 : Int) (l1_3 : List Int) (a1_4 : Int) (a1_5 : Int) (a1_6 : Int) : Option (Bool) := if a0_0 = a1_0 then (if a0_1 = a1_1 then (if a0_2 = a1_2 then ((bytes_Equal.f l0_3 l1_3).bind fun t119 => (if t119 = true then (if a0_4 = a1_4 then (if a0_5 = a1_5 then (some (a0_6 == a1_6)) else (some false)) else (some false)) else (some false))) else (some false)) else (some false)) else (some false)
set_option maxHeartbeats 8000000 in
set_option maxRecDepth 100000 in
theorem frame_same_p.calls (a0_0 : Int) (a0_1 : Int) (a0_2 : Int) (A0_3 : Option Addr) (c0_3 : Nat) (l0_3 : List Int) (a0_4 : Int) (a0_5 : Int) (a0_6 : Int) (a1_0 : Int) (a1_1 : Int) (a1_2 : Int) (A1_3 : Option Addr) (c1_3 : Nat) (l1_3 : List Int) (a1_4 : Int) (a1_5 : Int) (a1_6 : Int) (r : Bool) (w : World) (hr0_3 : Kd.C (Kd.int .u8) w A0_3 l0_3.length l0_3) (hc0_3 : l0_3.length ≤ c0_3) (hr1_3 : Kd.C (Kd.int .u8) w A1_3 l1_3.length l1_3) (hc1_3 : l1_3.length ≤ c1_3) (h : frame_same_p.f a0_0 a0_1 a0_2 l0_3 a0_4 a0_5 a0_6 a1_0 a1_1 a1_2 l1_3 a1_4 a1_5 a1_6 = some r) :
  Calls Try.prog 49 #[.agg #[.int .i64 a0_0, .int .i64 a0_1, .int .i64 a0_2, .slice A0_3 l0_3.length c0_3, .int .i64 a0_4, .int .i64 a0_5, .int .i64 a0_6], .agg #[.int .i64 a1_0, .int .i64 a1_1, .int .i64 a1_2, .slice A1_3 l1_3.length c1_3, .int .i64 a1_4, .int .i64 a1_5, .int .i64 a1_6]] w fun e w' => e = .returned (.bool r) ∧ Below w.heap.size w w' := by
 have hu0 := Try.underlying38
 have HR0_3 := Aside0.mk hr0_3
 have HC0_3 := Aside0.mk hc0_3
 clear hr0_3 hc0_3
 have HR1_3 := Aside0.mk hr1_3
 have HC1_3 := Aside0.mk hc1_3
 clear hr1_3 hc1_3
 have HB := Aside0.mk (Below.refl w.heap.size w)
 have H : (if a0_0 = a1_0 then (if a0_1 = a1_1 then (if a0_2 = a1_2 then ((bytes_Equal.f l0_3 l1_3).bind fun t119 => (if t119 = true then (if a0_4 = a1_4 then (if a0_5 = a1_5 then (some (a0_6 == a1_6)) else (some false)) else (some false)) else (some false))) else (some false)) else (some false)) else (some false)) = some r := h
 clear h
 by_cases c3 : a0_0 = a1_0
 focus
  rw [if_pos c3] at H
  have c3b0 : (a0_0 == a1_0) = true := beq_iff_eq.mpr c3
  have c3b1 : (a0_0 != a1_0) = false := bne_eq_false_iff_eq.mpr c3
  clear c3
  by_cases c4 : a0_1 = a1_1
  focus
   rw [if_pos c4] at H
   have c4b0 : (a0_1 == a1_1) = true := beq_iff_eq.mpr c4
   have c4b1 : (a0_1 != a1_1) = false := bne_eq_false_iff_eq.mpr c4
   clear c4
   by_cases c5 : a0_2 = a1_2
   focus
    rw [if_pos c5] at H
    have c5b0 : (a0_2 == a1_2) = true := beq_iff_eq.mpr c5
    have c5b1 : (a0_2 != a1_2) = false := bne_eq_false_iff_eq.mpr c5
    clear c5
    replace H := Option.bind_eq_some_iff.mp H
    obtain ⟨t119, A2, H⟩ := H
    (try dsimp only at H)
    have A6 := Aside0.mk A2
    clear A2
    by_cases c7 : t119 = true
    focus
     subst c7
     rw [if_pos rfl] at H
     by_cases c8 : a0_4 = a1_4
     focus
      rw [if_pos c8] at H
      have c8b0 : (a0_4 == a1_4) = true := beq_iff_eq.mpr c8
      have c8b1 : (a0_4 != a1_4) = false := bne_eq_false_iff_eq.mpr c8
      clear c8
      by_cases c9 : a0_5 = a1_5
     rotate_left 3
    rotate_left 4
   rotate_left 5
  rotate_left 6
 rotate_left 7
 focus
  rw [if_pos c9] at H
  have c9b0 : (a0_5 == a1_5) = true := beq_iff_eq.mpr c9
  have c9b1 : (a0_5 != a1_5) = false := bne_eq_false_iff_eq.mpr c9
  clear c9
 rotate_left
 focus
  rw [if_neg c9] at H
  have c9b0 : (a0_5 == a1_5) = false := beq_eq_false_iff_ne.mpr c9
  have c9b1 : (a0_5 != a1_5) = true := bne_iff_ne.mpr c9
 rotate_left
 focus
  rw [if_neg c8] at H
  have c8b0 : (a0_4 == a1_4) = false := beq_eq_false_iff_ne.mpr c8
  have c8b1 : (a0_4 != a1_4) = true := bne_iff_ne.mpr c8
 rotate_left
 focus
  replace c7 := Bool.eq_false_iff.mpr c7
  subst c7
  rw [if_neg (show ¬ (false = true) by decide)] at H
 rotate_left
 focus
  rw [if_neg c5] at H
  have c5b0 : (a0_2 == a1_2) = false := beq_eq_false_iff_ne.mpr c5
  have c5b1 : (a0_2 != a1_2) = true := bne_iff_ne.mpr c5
 rotate_left
 focus
  rw [if_neg c4] at H
  have c4b0 : (a0_1 == a1_1) = false := beq_eq_false_iff_ne.mpr c4
  have c4b1 : (a0_1 != a1_1) = true := bne_iff_ne.mpr c4
 rotate_left
 focus
  rw [if_neg c3] at H
  have c3b0 : (a0_0 == a1_0) = false := beq_eq_false_iff_ne.mpr c3
  have c3b1 : (a0_0 != a1_0) = true := bne_iff_ne.mpr c3
 rotate_left
 all_goals
  obtain rfl := Option.some.inj H
  go_enter Try.func49, Try.ntmps49
 focus go_wp2_with (first | ((with_reducible refine gate_dst (N := 2) rfl ?_); refine Cz.bx (N := 2) #[.int .i64 a0_0, .int .i64 a0_1, .int .i64 a0_2, .slice A0_3 l0_3.length c0_3, .int .i64 a0_4, .int .i64 a0_5, .int .i64 a0_6] 38 ?_; intro gb0 hg w0 hbox hb; have BK0 := Aside0.mk (hbox); have GW0 := Aside0.mk ((Cz.gs hg : w.heap.size ≤ gb0)); have GE0 := GW0; replace HB := Cz.bs (w := w) hb; clear hb hbox hg) | ((with_reducible refine gate_dst (N := 3) rfl ?_); refine Cz.bx (N := 3) #[.int .i64 a1_0, .int .i64 a1_1, .int .i64 a1_2, .slice A1_3 l1_3.length c1_3, .int .i64 a1_4, .int .i64 a1_5, .int .i64 a1_6] 38 ?_; intro gb1 hg w1 hbox hb; have BK1 := Aside0.mk (hbox); have GW1 := Aside0.mk ((Cz.gs hg : w.heap.size ≤ gb1)); have GE1 := GW1; have NB0_118 := Aside0.mk ((Cz.nl BK0 hg : gb0 ≠ gb1)); have NB1_117 := Aside0.mk ((Cz.nr BK0 hg : gb1 ≠ gb0)); replace BK0 := Cz.bk BK0 hb; replace HB := Cz.bs (w := w) hb; clear hb hbox hg; have hnb0 := NB0_118.out; have hnc0 := NB1_117.out; obtain ⟨z0_0, z0_1, z0_2, z0_3, z0_4, z0_5, z0_6, y0_0, y0_1, y0_2, y0_3, y0_4, y0_5, y0_6⟩ := Cz.d7 BK0; obtain ⟨z1_0, z1_1, z1_2, z1_3, z1_4, z1_5, z1_6, y1_0, y1_1, y1_2, y1_3, y1_4, y1_5, y1_6⟩ := Cz.d7 BK1) | (go_at_call 71; (with_reducible refine (bytes_Equal.calls _ _ l0_3 _ _ l1_3 true _ ?side0 ?side1 ?side2 ?side3 A6.out).mono ?_); (case side0 => exact Cz.cb HR0_3); (case side1 => exact HC0_3.out); (case side2 => exact Cz.cb HR1_3); (case side3 => exact HC1_3.out); rintro e w' ⟨rfl, ⟨nd, rfl⟩⟩))
 rotate_left
 focus go_wp2_with (first | ((with_reducible refine gate_dst (N := 2) rfl ?_); refine Cz.bx (N := 2) #[.int .i64 a0_0, .int .i64 a0_1, .int .i64 a0_2, .slice A0_3 l0_3.length c0_3, .int .i64 a0_4, .int .i64 a0_5, .int .i64 a0_6] 38 ?_; intro gb0 hg w0 hbox hb; have BK0 := Aside0.mk (hbox); have GW0 := Aside0.mk ((Cz.gs hg : w.heap.size ≤ gb0)); have GE0 := GW0; replace HB := Cz.bs (w := w) hb; clear hb hbox hg) | ((with_reducible refine gate_dst (N := 3) rfl ?_); refine Cz.bx (N := 3) #[.int .i64 a1_0, .int .i64 a1_1, .int .i64 a1_2, .slice A1_3 l1_3.length c1_3, .int .i64 a1_4, .int .i64 a1_5, .int .i64 a1_6] 38 ?_; intro gb1 hg w16 hbox hb; have BK1 := Aside0.mk (hbox); have GW1 := Aside0.mk ((Cz.gs hg : w.heap.size ≤ gb1)); have GE1 := GW1; have NB0_118 := Aside0.mk ((Cz.nl BK0 hg : gb0 ≠ gb1)); have NB1_117 := Aside0.mk ((Cz.nr BK0 hg : gb1 ≠ gb0)); replace BK0 := Cz.bk BK0 hb; replace HB := Cz.bs (w := w) hb; clear hb hbox hg; have hnb0 := NB0_118.out; have hnc0 := NB1_117.out; obtain ⟨z0_0, z0_1, z0_2, z0_3, z0_4, z0_5, z0_6, y0_0, y0_1, y0_2, y0_3, y0_4, y0_5, y0_6⟩ := Cz.d7 BK0; obtain ⟨z1_0, z1_1, z1_2, z1_3, z1_4, z1_5, z1_6, y1_0, y1_1, y1_2, y1_3, y1_4, y1_5, y1_6⟩ := Cz.d7 BK1) | (go_at_call 71; (with_reducible refine (bytes_Equal.calls _ _ l0_3 _ _ l1_3 true _ ?side0 ?side1 ?side2 ?side3 A6.out).mono ?_); (case side0 => exact Cz.cb HR0_3); (case side1 => exact HC0_3.out); (case side2 => exact Cz.cb HR1_3); (case side3 => exact HC1_3.out); rintro e w' ⟨rfl, ⟨nd, rfl⟩⟩))
 rotate_left
 focus go_wp2_with (first | ((with_reducible refine gate_dst (N := 2) rfl ?_); refine Cz.bx (N := 2) #[.int .i64 a0_0, .int .i64 a0_1, .int .i64 a0_2, .slice A0_3 l0_3.length c0_3, .int .i64 a0_4, .int .i64 a0_5, .int .i64 a0_6] 38 ?_; intro gb0 hg w0 hbox hb; have BK0 := Aside0.mk (hbox); have GW0 := Aside0.mk ((Cz.gs hg : w.heap.size ≤ gb0)); have GE0 := GW0; replace HB := Cz.bs (w := w) hb; clear hb hbox hg) | ((with_reducible refine gate_dst (N := 3) rfl ?_); refine Cz.bx (N := 3) #[.int .i64 a1_0, .int .i64 a1_1, .int .i64 a1_2, .slice A1_3 l1_3.length c1_3, .int .i64 a1_4, .int .i64 a1_5, .int .i64 a1_6] 38 ?_; intro gb1 hg w1 hbox hb; have BK1 := Aside0.mk (hbox); have GW1 := Aside0.mk ((Cz.gs hg : w.heap.size ≤ gb1)); have GE1 := GW1; have NB0_118 := Aside0.mk ((Cz.nl BK0 hg : gb0 ≠ gb1)); have NB1_117 := Aside0.mk ((Cz.nr BK0 hg : gb1 ≠ gb0)); replace BK0 := Cz.bk BK0 hb; replace HB := Cz.bs (w := w) hb; clear hb hbox hg; have hnb0 := NB0_118.out; have hnc0 := NB1_117.out; obtain ⟨z0_0, z0_1, z0_2, z0_3, z0_4, z0_5, z0_6, y0_0, y0_1, y0_2, y0_3, y0_4, y0_5, y0_6⟩ := Cz.d7 BK0; obtain ⟨z1_0, z1_1, z1_2, z1_3, z1_4, z1_5, z1_6, y1_0, y1_1, y1_2, y1_3, y1_4, y1_5, y1_6⟩ := Cz.d7 BK1) | (go_at_call 71; (with_reducible refine (bytes_Equal.calls _ _ l0_3 _ _ l1_3 true _ ?side0 ?side1 ?side2 ?side3 A6.out).mono ?_); (case side0 => exact Cz.cb HR0_3); (case side1 => exact HC0_3.out); (case side2 => exact Cz.cb HR1_3); (case side3 => exact HC1_3.out); rintro e w' ⟨rfl, ⟨nd, rfl⟩⟩))
 rotate_left
 focus go_wp2_with (first | ((with_reducible refine gate_dst (N := 2) rfl ?_); refine Cz.bx (N := 2) #[.int .i64 a0_0, .int .i64 a0_1, .int .i64 a0_2, .slice A0_3 l0_3.length c0_3, .int .i64 a0_4, .int .i64 a0_5, .int .i64 a0_6] 38 ?_; intro gb0 hg w0 hbox hb; have BK0 := Aside0.mk (hbox); have GW0 := Aside0.mk ((Cz.gs hg : w.heap.size ≤ gb0)); have GE0 := GW0; replace HB := Cz.bs (w := w) hb; clear hb hbox hg) | ((with_reducible refine gate_dst (N := 3) rfl ?_); refine Cz.bx (N := 3) #[.int .i64 a1_0, .int .i64 a1_1, .int .i64 a1_2, .slice A1_3 l1_3.length c1_3, .int .i64 a1_4, .int .i64 a1_5, .int .i64 a1_6] 38 ?_; intro gb1 hg w1 hbox hb; have BK1 := Aside0.mk (hbox); have GW1 := Aside0.mk ((Cz.gs hg : w.heap.size ≤ gb1)); have GE1 := GW1; have NB0_118 := Aside0.mk ((Cz.nl BK0 hg : gb0 ≠ gb1)); have NB1_117 := Aside0.mk ((Cz.nr BK0 hg : gb1 ≠ gb0)); replace BK0 := Cz.bk BK0 hb; replace HB := Cz.bs (w := w) hb; clear hb hbox hg; have hnb0 := NB0_118.out; have hnc0 := NB1_117.out; obtain ⟨z0_0, z0_1, z0_2, z0_3, z0_4, z0_5, z0_6, y0_0, y0_1, y0_2, y0_3, y0_4, y0_5, y0_6⟩ := Cz.d7 BK0; obtain ⟨z1_0, z1_1, z1_2, z1_3, z1_4, z1_5, z1_6, y1_0, y1_1, y1_2, y1_3, y1_4, y1_5, y1_6⟩ := Cz.d7 BK1) | (go_at_call 71; (with_reducible refine (bytes_Equal.calls _ _ l0_3 _ _ l1_3 false _ ?side0 ?side1 ?side2 ?side3 A6.out).mono ?_); (case side0 => exact Cz.cb HR0_3); (case side1 => exact HC0_3.out); (case side2 => exact Cz.cb HR1_3); (case side3 => exact HC1_3.out); rintro e w' ⟨rfl, ⟨nd, rfl⟩⟩))
 rotate_left
 iterate 3
  focus go_wp2_with (first | ((with_reducible refine gate_dst (N := 2) rfl ?_); refine Cz.bx (N := 2) #[.int .i64 a0_0, .int .i64 a0_1, .int .i64 a0_2, .slice A0_3 l0_3.length c0_3, .int .i64 a0_4, .int .i64 a0_5, .int .i64 a0_6] 38 ?_; intro gb0 hg w0 hbox hb; have BK0 := Aside0.mk (hbox); have GW0 := Aside0.mk ((Cz.gs hg : w.heap.size ≤ gb0)); have GE0 := GW0; replace HB := Cz.bs (w := w) hb; clear hb hbox hg) | ((with_reducible refine gate_dst (N := 3) rfl ?_); refine Cz.bx (N := 3) #[.int .i64 a1_0, .int .i64 a1_1, .int .i64 a1_2, .slice A1_3 l1_3.length c1_3, .int .i64 a1_4, .int .i64 a1_5, .int .i64 a1_6] 38 ?_; intro gb1 hg w1 hbox hb; have BK1 := Aside0.mk (hbox); have GW1 := Aside0.mk ((Cz.gs hg : w.heap.size ≤ gb1)); have GE1 := GW1; have NB0_118 := Aside0.mk ((Cz.nl BK0 hg : gb0 ≠ gb1)); have NB1_117 := Aside0.mk ((Cz.nr BK0 hg : gb1 ≠ gb0)); replace BK0 := Cz.bk BK0 hb; replace HB := Cz.bs (w := w) hb; clear hb hbox hg; have hnb0 := NB0_118.out; have hnc0 := NB1_117.out; obtain ⟨z0_0, z0_1, z0_2, z0_3, z0_4, z0_5, z0_6, y0_0, y0_1, y0_2, y0_3, y0_4, y0_5, y0_6⟩ := Cz.d7 BK0; obtain ⟨z1_0, z1_1, z1_2, z1_3, z1_4, z1_5, z1_6, y1_0, y1_1, y1_2, y1_3, y1_4, y1_5, y1_6⟩ := Cz.d7 BK1))
  rotate_left
 all_goals
  go_ret
  exact ⟨Cz.er, Cz.bl (w := w)⟩
def frame_same.f (a0_0 a0_1 a0_2 : Int) (l0_3 : List Int) (a0_4 a0_5 a0_6 a1_0 a1_1 a1_2 : Int) (l1_3 : List Int) (a1_4 a1_5 a1_6 : Int) : Option Bool := if Pl.byteB l0_3 = true ∧ Pl.byteB l1_3 = true then some (decide (a0_0 = a1_0 ∧ a0_1 = a1_1 ∧ a0_2 = a1_2 ∧ l0_3 = l1_3 ∧ a0_4 = a1_4 ∧ a0_5 = a1_5 ∧ a0_6 = a1_6)) else none
theorem frame_same.tells {a0_0 a0_1 a0_2 : Int} {l0_3 : List Int} {a0_4 a0_5 a0_6 a1_0 a1_1 a1_2 : Int} {l1_3 : List Int} {a1_4 a1_5 a1_6 : Int} (h0 : Pl.byteB l0_3 = true) (h1 : Pl.byteB l1_3 = true) : frame_same.f a0_0 a0_1 a0_2 l0_3 a0_4 a0_5 a0_6 a1_0 a1_1 a1_2 l1_3 a1_4 a1_5 a1_6 = some (decide (a0_0 = a1_0 ∧ a0_1 = a1_1 ∧ a0_2 = a1_2 ∧ l0_3 = l1_3 ∧ a0_4 = a1_4 ∧ a0_5 = a1_5 ∧ a0_6 = a1_6)) := if_pos ⟨h0, h1⟩
theorem frame_same.closes {a0_0 a0_1 a0_2 : Int} {l0_3 : List Int} {a0_4 a0_5 a0_6 a1_0 a1_1 a1_2 : Int} {l1_3 : List Int} {a1_4 a1_5 a1_6 : Int} {r : Bool} (h : frame_same.f a0_0 a0_1 a0_2 l0_3 a0_4 a0_5 a0_6 a1_0 a1_1 a1_2 l1_3 a1_4 a1_5 a1_6 = some r) : frame_same_p.f a0_0 a0_1 a0_2 l0_3 a0_4 a0_5 a0_6 a1_0 a1_1 a1_2 l1_3 a1_4 a1_5 a1_6 = some r := by
 unfold frame_same.f at h
 split at h
 case isFalse => cases h
 rename_i hh
 rw [← h]
 unfold frame_same_p.f bytes_Equal.f
 rw [if_pos hh, Option.bind_some]
 by_cases c0 : a0_0 = a1_0
 ·by_cases c1 : a0_1 = a1_1
  ·by_cases c2 : a0_2 = a1_2
   ·by_cases c3 : l0_3 = l1_3
    ·by_cases c4 : a0_4 = a1_4
     ·by_cases c5 : a0_5 = a1_5
      ·rw [if_pos c0, if_pos c1, if_pos c2, if_pos (by simp [c3]), if_pos c4, if_pos c5]
       by_cases c6 : a0_6 = a1_6 <;> simp [c0, c1, c2, c3, c4, c5, c6]
      rw [if_pos c0, if_pos c1, if_pos c2, if_pos (by simp [c3]), if_pos c4, if_neg c5, decide_eq_false (fun e => c5 e.2.2.2.2.2.1)]
     rw [if_pos c0, if_pos c1, if_pos c2, if_pos (by simp [c3]), if_neg c4, decide_eq_false (fun e => c4 e.2.2.2.2.1)]
    rw [if_pos c0, if_pos c1, if_pos c2, if_neg (by simp [c3]), decide_eq_false (fun e => c3 e.2.2.2.1)]
   rw [if_pos c0, if_pos c1, if_neg c2, decide_eq_false (fun e => c2 e.2.2.1)]
  rw [if_pos c0, if_neg c1, decide_eq_false (fun e => c1 e.2.1)]
 rw [if_neg c0, decide_eq_false (fun e => c0 e.1)]
theorem frame_same.calls (a0_0 : Int) (a0_1 : Int) (a0_2 : Int) (A0_3 : Option Addr) (c0_3 : Nat) (l0_3 : List Int) (a0_4 : Int) (a0_5 : Int) (a0_6 : Int) (a1_0 : Int) (a1_1 : Int) (a1_2 : Int) (A1_3 : Option Addr) (c1_3 : Nat) (l1_3 : List Int) (a1_4 : Int) (a1_5 : Int) (a1_6 : Int) (r : Bool) (w : World) (hr0_3 : Kd.C (Kd.int .u8) w A0_3 l0_3.length l0_3) (hc0_3 : l0_3.length ≤ c0_3) (hr1_3 : Kd.C (Kd.int .u8) w A1_3 l1_3.length l1_3) (hc1_3 : l1_3.length ≤ c1_3) (h : frame_same.f a0_0 a0_1 a0_2 l0_3 a0_4 a0_5 a0_6 a1_0 a1_1 a1_2 l1_3 a1_4 a1_5 a1_6 = some r) :
  Calls Try.prog 49 #[.agg #[.int .i64 a0_0, .int .i64 a0_1, .int .i64 a0_2, .slice A0_3 l0_3.length c0_3, .int .i64 a0_4, .int .i64 a0_5, .int .i64 a0_6], .agg #[.int .i64 a1_0, .int .i64 a1_1, .int .i64 a1_2, .slice A1_3 l1_3.length c1_3, .int .i64 a1_4, .int .i64 a1_5, .int .i64 a1_6]] w fun e w' => e = .returned (.bool r) ∧ Below w.heap.size w w' :=
 frame_same_p.calls a0_0 a0_1 a0_2 A0_3 c0_3 l0_3 a0_4 a0_5 a0_6 a1_0 a1_1 a1_2 A1_3 c1_3 l1_3 a1_4 a1_5 a1_6 r w hr0_3 hc0_3 hr1_3 hc1_3 (frame_same.closes h)
def le_may.f (a0 : Int) (a1 : Int) : Option (Bool) := if a1 = 1 then (if 0 ≤ (wrap64 (8 * a1)) then (some ((shr .u64 a0 (wrap64 (8 * a1))) == 0)) else (none)) else (if a1 = 2 then (if 0 ≤ (wrap64 (8 * a1)) then (some ((shr .u64 a0 (wrap64 (8 * a1))) == 0)) else (none)) else (if a1 = 4 then (if 0 ≤ (wrap64 (8 * a1)) then (some ((shr .u64 a0 (wrap64 (8 * a1))) == 0)) else (none)) else (some (a1 == 8))))
set_option maxHeartbeats 8000000 in
set_option maxRecDepth 100000 in
theorem le_may.calls (a0 : Int) (a1 : Int) (r : Bool) (w : World) (h : le_may.f a0 a1 = some r) :
  Calls Try.prog 82 #[.int .u64 a0, .int .i64 a1] w fun e w' => e = .returned (.bool r) ∧ Drawn0 w w' := by
 have H : (if a1 = 1 then (if 0 ≤ (wrap64 (8 * a1)) then (some ((shr .u64 a0 (wrap64 (8 * a1))) == 0)) else (none)) else (if a1 = 2 then (if 0 ≤ (wrap64 (8 * a1)) then (some ((shr .u64 a0 (wrap64 (8 * a1))) == 0)) else (none)) else (if a1 = 4 then (if 0 ≤ (wrap64 (8 * a1)) then (some ((shr .u64 a0 (wrap64 (8 * a1))) == 0)) else (none)) else (some (a1 == 8))))) = some r := h
 clear h
 by_cases c3 : a1 = 1
 rotate_left
 focus
  rw [if_neg c3] at H
  have c3b0 : (a1 == 1) = false := beq_eq_false_iff_ne.mpr c3
  have c3b1 : (a1 != 1) = true := bne_iff_ne.mpr c3
  by_cases c7 : a1 = 2
 rotate_left 2
 focus
  rw [if_pos c3] at H
  have c3b0 : (a1 == 1) = true := beq_iff_eq.mpr c3
  have c3b1 : (a1 != 1) = false := bne_eq_false_iff_eq.mpr c3
  clear c3
 rotate_left
 focus
  rw [if_pos c7] at H
  have c7b0 : (a1 == 2) = true := beq_iff_eq.mpr c7
  have c7b1 : (a1 != 2) = false := bne_eq_false_iff_eq.mpr c7
  clear c7
 rotate_left
 focus
  rw [if_neg c7] at H
  have c7b0 : (a1 == 2) = false := beq_eq_false_iff_ne.mpr c7
  have c7b1 : (a1 != 2) = true := bne_iff_ne.mpr c7
  by_cases c11 : a1 = 4
  rotate_left
  ·rw [if_neg c11] at H
   have c11b0 : (a1 == 4) = false := beq_eq_false_iff_ne.mpr c11
   have c11b1 : (a1 != 4) = true := bne_iff_ne.mpr c11
   obtain rfl := Option.some.inj H
   go_enter Try.func82, Try.ntmps82
   go_wp2
   go_ret
   exact ⟨by first | rfl | (simp; done) | (simp [*]; done), by repeat (first | exact Drawn0.refl _ | apply Drawn0.step)⟩
  rw [if_pos c11] at H
  have c11b0 : (a1 == 4) = true := beq_iff_eq.mpr c11
  have c11b1 : (a1 != 4) = false := bne_eq_false_iff_eq.mpr c11
  clear c11
 rotate_left
 all_goals
  obtain ⟨ji0, hji0⟩ : ∃ j_ : Int, (wrap64 (8 * a1)) = j_ := ⟨_, rfl⟩
  replace H : (if 0 ≤ (ji0) then (some ((shr .u64 a0 (ji0)) == 0)) else (none)) = some r := by first | (rw [hji0] at H; exact H) | (simp only [hji0] at H ⊢; exact H)
  have hji0w : (IntKind.i64.wrap (8 * a1)) = ji0 := (i64_w _).trans hji0
 ·by_cases c5 : 0 ≤ (ji0)
  rotate_left
  ·rw [if_neg c5] at H
   exact absurd H (by simp)
  rw [if_pos c5] at H
  have c5b0 := eq_true c5
  have c5b1 : decide (0 ≤ (ji0)) = true := decide_eq_true c5
  clear c5
  obtain ⟨ji1, hji1⟩ : ∃ j_ : Int, (shr .u64 a0 (ji0)) = j_ := ⟨_, rfl⟩
  replace H : (some ((ji1) == 0)) = some r := by first | (rw [hji1] at H; exact H) | (simp only [hji1] at H ⊢; exact H)
  have hji1_ : (a0 / 2 ^ min (ji0).toNat 64) = ji1 := hji1
  have hji1z : (ji0) ≤ 64 → (a0 / 2 ^ (ji0).toNat) = ji1 := shr_small hji1
  obtain rfl := Option.some.inj H
  go_enter Try.func82, Try.ntmps82
  go_wp2
  go_ret
  exact ⟨by first | rfl | (simp; done) | (simp only [← hji0, ← hji1] <;> (first | rfl | simp)) | (simp [*]; done), by repeat (first | exact Drawn0.refl _ | apply Drawn0.step)⟩
 ·by_cases c9 : 0 ≤ (ji0)
  ·rw [if_pos c9] at H
   have c9b0 := eq_true c9
   have c9b1 : decide (0 ≤ (ji0)) = true := decide_eq_true c9
   clear c9
   obtain ⟨ji1, hji1⟩ : ∃ j_ : Int, (shr .u64 a0 (ji0)) = j_ := ⟨_, rfl⟩
   replace H : (some ((ji1) == 0)) = some r := by first | (rw [hji1] at H; exact H) | (simp only [hji1] at H ⊢; exact H)
   have hji1_ : (a0 / 2 ^ min (ji0).toNat 64) = ji1 := hji1
   have hji1z : (ji0) ≤ 64 → (a0 / 2 ^ (ji0).toNat) = ji1 := shr_small hji1
   obtain rfl := Option.some.inj H
   go_enter Try.func82, Try.ntmps82
   go_wp2
   go_ret
   exact ⟨by first | rfl | (simp; done) | (simp only [← hji0, ← hji1] <;> (first | rfl | simp)) | (simp [*]; done), by repeat (first | exact Drawn0.refl _ | apply Drawn0.step)⟩
  rw [if_neg c9] at H
  exact absurd H (by simp)
 ·by_cases c13 : 0 ≤ (ji0)
  ·rw [if_pos c13] at H
   have c13b0 := eq_true c13
   have c13b1 : decide (0 ≤ (ji0)) = true := decide_eq_true c13
   clear c13
   obtain ⟨ji1, hji1⟩ : ∃ j_ : Int, (shr .u64 a0 (ji0)) = j_ := ⟨_, rfl⟩
   replace H : (some ((ji1) == 0)) = some r := by first | (rw [hji1] at H; exact H) | (simp only [hji1] at H ⊢; exact H)
   have hji1_ : (a0 / 2 ^ min (ji0).toNat 64) = ji1 := hji1
   have hji1z : (ji0) ≤ 64 → (a0 / 2 ^ (ji0).toNat) = ji1 := shr_small hji1
   obtain rfl := Option.some.inj H
   go_enter Try.func82, Try.ntmps82
   go_wp2
   go_ret
   exact ⟨by first | rfl | (simp; done) | (simp only [← hji0, ← hji1] <;> (first | rfl | simp)) | (simp [*]; done), by repeat (first | exact Drawn0.refl _ | apply Drawn0.step)⟩
  rw [if_neg c13] at H
  exact absurd H (by simp)
def le_Put_p.l0 : Nat → Int → List Int → Int → Int → Option (List Int × Int)
 | 0, _, _, _, _ => none
 | k + 1, x1, x8, x15, x16 => if x16 < x15 then (if x8.length < 140737488355328 then (le_Put_p.l0 k (x1 / 256) (x8 ++ [(x1) % 256]) x15 (wrap64 (x16 + 1))) else (none)) else (some (x8, 0))
def le_Put_p.f (k : Nat) (l0 : List Int) (a1 : Int) (a2 : Int) : Option (List Int × Int) := (le_may.f a1 a2).bind fun t120 => (if t120 = true then ((bytes_Clone.f l0).bind fun t121 => (le_Put_p.l0 k a1 t121 a2 0)) else (some (([] : List Int), 10)))
set_option maxHeartbeats 8000000 in
set_option maxRecDepth 100000 in
theorem le_Put_p.calls (k : Nat) (A0 : Option Addr) (c0 : Nat) (l0 : List Int) (a1 : Int) (a2 : Int) (r1 : List Int) (r2 : Int) (w : World) (hr0 : Kd.C (Kd.int .u8) w A0 l0.length l0) (hc0 : l0.length ≤ c0) (h : le_Put_p.f k l0 a1 a2 = some (r1, r2)) :
  Calls Try.prog 66 #[.slice A0 l0.length c0, .int .u64 a1, .int .i64 a2] w fun e w' => ∃ v0_ : Value, e = .returned (.tuple #[v0_, .int .i64 r2]) ∧ Kd.R (Kd.int .u8) 5 w' w.heap.size (fun _ => True) v0_ r1 ∧ Below w.heap.size w w' := by
 have HR0 := Aside0.mk hr0
 have HC0 := Aside0.mk hc0
 clear hr0 hc0
 have HB := Aside0.mk (Below.refl w.heap.size w)
 have H : ((le_may.f a1 a2).bind fun t0 => (if t0 = true then ((bytes_Clone.f l0).bind fun t1 => (le_Put_p.l0 k a1 t1 a2 0)) else (some (([] : List Int), 10)))) = some (r1, r2) := h
 clear h
 replace H := Option.bind_eq_some_iff.mp H
 obtain ⟨t0, A1, H⟩ := H
 (try dsimp only at H)
 have A4 := Aside0.mk A1
 clear A1
 by_cases c5 : t0 = true
 rotate_left
 ·replace c5 := Bool.eq_false_iff.mpr c5
  subst c5
  rw [if_neg (show ¬ (false = true) by decide)] at H
  simp only [Option.some.injEq, Prod.mk.injEq] at H
  obtain ⟨rfl, rfl⟩ := H
  go_enter Try.func66, Try.ntmps66
  go_wp2_with (first | ((with_reducible refine gate_callee (f := 82) rfl ?_); refine Cz.gL (N := (some 11)) Try.func82 #[.int .u64 a1, .int .i64 a2] ?_; (with_reducible refine (le_may.calls a1 a2 false _ A4.out).mono ?_); rintro e w' ⟨rfl, ⟨nd, rfl⟩⟩; refine ⟨_, rfl, ?_⟩))
  go_ret2
  exact ⟨_, Cz.er, by first | exact Kd.R_nil _ _ _ _ _ | exact Kd.N_nil _ _ _ _ _ | exact Kd.V_nil _ _ _ _ _ | exact Kd.Q_nil _ _ _ _ _ | exact Kd.S_nil _ _ _ _ _, Cz.bl (w := w)⟩
 subst c5
 rw [if_pos rfl] at H
 replace H := Option.bind_eq_some_iff.mp H
 obtain ⟨t1, A2, H⟩ := H
 (try dsimp only at H)
 have A6 := Aside0.mk A2
 clear A2
 have H' := Aside0.mk H
 clear H
 go_enter Try.func66, Try.ntmps66
 go_wp2_with (first | ((with_reducible refine gate_callee (f := 82) rfl ?_); refine Cz.gL (N := (some 11)) Try.func82 #[.int .u64 a1, .int .i64 a2] ?_; (with_reducible refine (le_may.calls a1 a2 true _ A4.out).mono ?_); rintro e w' ⟨rfl, ⟨nd, rfl⟩⟩; refine ⟨_, rfl, ?_⟩) | ((with_reducible refine gate_callee (f := 72) rfl ?_); refine Cz.gL (N := (some 14)) Try.func72 #[.slice A0 l0.length c0] ?_; (with_reducible refine (bytes_Clone.calls _ _ l0 t1 _ ?side0 ?side1 A6.out).mono ?_); (case side0 => repeat (first | exact HR0.out | (with_reducible refine Kd.C_alloc ?_ _) | (with_reducible refine Kd.C_drewN ?_ _) | (with_reducible refine Kd.C_drew ?_))); (case side1 => exact HC0.out); rintro e w7 ⟨v2, rfl, ho0, hb⟩; refine ⟨_, rfl, ?_⟩; have HO0 := Aside0.mk (Kd.R_lower ho0 (below_size (Cz.bl (w := w)))); replace HB := Cz.bs (w := w) hb; (try clear hb); (try clear ho0)))
 go_loopg [1, 8, 16] k (fun kq v1 v8 v16 w' => ∃ (x0_1 : Int) (x1_1 : List Int) (x2_1 : Int), v1 = .int .u64 x0_1 ∧ v16 = .int .i64 x2_1 ∧ Aside0 (le_Put_p.l0 kq x0_1 x1_1 a2 x2_1 = some (r1, r2)) ∧ Aside0 (kq ≤ k) ∧ Aside0 (Kd.R (Kd.int .u8) 5 w' w.heap.size (fun _ => True) v8 x1_1) ∧ Aside0 (Below w.heap.size w w'))
 case atStart => exact ⟨(a1), (t1), (0), Cz.si, Cz.si, H', ⟨Nat.le_refl _⟩, ⟨by (with_reducible repeat (first | apply Kd.R_alloc | apply Kd.R_drewN | apply Kd.R_drew)); exact HO0.out⟩, ⟨Cz.bl (w := w)⟩⟩
 case round =>
  clear H'
  try clear p2
  try clear c5
  try clear c6
  try clear c7
  obtain ⟨x0_1, x1_1, x2_1, rfl, rfl, HA, HK0, HO_0, HB⟩ := hrel
  cases gk with
  | zero => exact absurd HA.out (by simp [le_Put_p.l0])
  | succ k1 =>
   have H := HA.out
   clear HA
   simp only [le_Put_p.l0] at H
   by_cases c8 : x2_1 < a2
   ·rw [if_pos c8] at H
    have c8b0 : decide (x2_1 < a2) = true := decide_eq_true c8
    clear c8
    by_cases c9 : x1_1.length < 140737488355328
    ·rw [if_pos c9] at H
     have LMc0 := Aside0.mk c9
     clear c9
     obtain ⟨y0, hy0⟩ : ∃ y_ : List Int, y_ = (x1_1 ++ [(x0_1) % 256]) := ⟨_, rfl⟩
     replace H : (le_Put_p.l0 k1 (x0_1 / 256) y0 a2 (wrap64 (x2_1 + 1))) = some (r1, r2) := by first | (rw [hy0]; with_reducible exact H) | (have H0_ := (Option.bind_some _ _).symm.trans H; rw [hy0]; with_reducible exact H0_) | (have H0_ := (Option.bind_some _ _).symm.trans H; with_reducible exact H0_) | with_reducible exact H | (rw [hy0]; exact H) | exact H
     have Ny0 := Aside0.mk hy0
     clear hy0
     have H' := Aside0.mk H
     clear H
     go_wp2_with (first | ((with_reducible refine gate_builtin (b := .append) (xs := #[.tmp 18, .tmp 21]) rfl ?_); at_builtin; refine Kd.R_append (Kd.int .u8) (w0 := w) w.heap.size rfl (.tmp 18) (.tmp 21) 27 5 (.int .u8 0) 1 rfl Try.underlying27 info5 rfl (by decide) (by omega) u8 x1_1 ((x0_1) % 256) [.int .u8 ((x0_1) % 256)] (fun _ => True) (fun _ => False) rfl rfl ?aP (fun _ hk => hk.elim) ?aF ?aO ?aB ?aS ?aL ?_; (case aP => exact rfl); (case aB => exact (Cz.bl (w := w))); (case aF => exact (fun _ _ => trivial)); (case aO => exact (by (with_reducible repeat (first | apply Kd.R_alloc | apply Kd.R_drewN | apply Kd.R_drew)); exact HO_0.out)); (case aS => exact (below_size (Cz.bl (w := w)))); (case aL => have := LMc0.out; omega); intro v3 w1 ho hb hg hat; rw [← Ny0.out] at ho; have HO1 := Aside0.mk (ho); replace HB := Aside0.mk (hb); clear HO_0; clear ho hb hg hat))
     go_roundg k1
     case measure => have := HK0.out; omega
     case rel => exact ⟨(x0_1 / 256), (y0), (wrap64 (x2_1 + 1)), Cz.si, Cz.si, H', ⟨by have := HK0.out; omega⟩, ⟨by (with_reducible repeat (first | apply Kd.R_alloc | apply Kd.R_drewN | apply Kd.R_drew)); exact HO1.out⟩, ⟨Cz.bl (w := w)⟩⟩
    rw [if_neg c9] at H
    exact absurd H (by simp)
   rw [if_neg c8] at H
   have c8b0 : decide (x2_1 < a2) = false := decide_eq_false c8
   clear c8
   simp only [Option.some.injEq, Prod.mk.injEq] at H
   obtain ⟨rfl, rfl⟩ := H
   go_wp2
   go_ret2
   exact ⟨_, Cz.er, Cz.rh, Cz.bl (w := w)⟩
def le_Put.f (l0 : List Int) (a1 : Int) (a2 : Int) : Option (List Int × Int) := if 0 ≤ a1 ∧ a1 < 18446744073709551616 ∧ l0.length < 70368744177664 then some (Pl.putS l0 a1 a2) else none
theorem le_Put.loop : ∀ (d : Nat) (k : Nat) (n : Nat) (l : List Int) (s i : Int), d < k → 0 ≤ i → i + d = s → s ≤ 8 → l.length + d < 140737488355328 → le_Put_p.l0 k (n : Int) l s i = some (l ++ Pl.leB d n, 0)
 | 0, k, n, l, s, i, hk, h0, hd, hs, hl => by
  obtain ⟨k, rfl⟩ : ∃ m, k = m + 1 := ⟨k - 1, by omega⟩
  simp only [le_Put_p.l0]
  rw [if_neg (by omega), Pl.leB, List.append_nil]
 | d + 1, k, n, l, s, i, hk, h0, hd, hs, hl => by
  obtain ⟨k, rfl⟩ : ∃ m, k = m + 1 := ⟨k - 1, by omega⟩
  simp only [le_Put_p.l0]
  rw [if_pos (by omega), if_pos (by omega), show wrap64 (i + 1) = i + 1 from by unfold wrap64; omega, show (n : Int) / 256 = ((n / 256 : Nat) : Int) from by omega,
   le_Put.loop d k (n / 256) _ s (i + 1) (by omega) (by omega) (by omega) hs (by rw [List.length_append, List.length_singleton]; omega)]
  rw [Pl.leB, List.append_assoc, List.singleton_append, show (n : Int) % 256 = ((n % 256 : Nat) : Int) from by omega]
theorem le_may.tells (n : Nat) (hn : n < 18446744073709551616) (s : Int) : le_may.f n s = some (Pl.fits n s) := by
 unfold le_may.f
 by_cases h1 : s = 1
 ·subst h1
  have e : (wrap64 (8 * 1)) = 8 := by unfold wrap64; omega
  rw [if_pos rfl, e, if_pos (by decide), Pl.fits_1]
  simp only [shr, IntKind.bits, Option.some.injEq]
  rw [Bool.eq_iff_iff]
  simp
  omega
 by_cases h2 : s = 2
 ·subst h2
  have e : (wrap64 (8 * 2)) = 16 := by unfold wrap64; omega
  rw [if_neg (by decide), if_pos rfl, e, if_pos (by decide), Pl.fits_2]
  simp only [shr, IntKind.bits, Option.some.injEq]
  rw [Bool.eq_iff_iff]
  simp
  omega
 by_cases h4 : s = 4
 ·subst h4
  have e : (wrap64 (8 * 4)) = 32 := by unfold wrap64; omega
  rw [if_neg (by decide), if_neg (by decide), if_pos rfl, e, if_pos (by decide), Pl.fits_4]
  simp only [shr, IntKind.bits, Option.some.injEq]
  rw [Bool.eq_iff_iff]
  simp
  omega
 rw [if_neg h1, if_neg h2, if_neg h4]
 by_cases h8 : s = 8
 ·subst h8
  rw [Pl.fits_8 (by omega)]
  rfl
 rw [Pl.fits_no (by rw [← Bool.not_eq_true, Pl.okS_iff]; omega)]
 simpa using h8
theorem le_Put.tells {l0 : List Int} {a1 a2 : Int} {r : List Int × Int} (h : le_Put.f l0 a1 a2 = some r) : le_Put_p.f 10 l0 a1 a2 = some r := by
 unfold le_Put.f at h
 split at h
 case isFalse => cases h
 rename_i hh
 obtain ⟨h0, h1, h2⟩ := hh
 obtain rfl := Option.some.inj h
 obtain ⟨n, rfl⟩ := Int.eq_ofNat_of_zero_le h0
 unfold le_Put_p.f
 rw [le_may.tells n (by omega) a2, Option.bind_some]
 unfold Pl.putS
 by_cases hf : Pl.fits n a2 = true
 ·have hs : a2 = 1 ∨ a2 = 2 ∨ a2 = 4 ∨ a2 = 8 := by
   unfold Pl.fits at hf
   rw [Bool.and_eq_true, Pl.okS_iff] at hf
   exact hf.1
  rw [if_pos hf, if_pos hf]
  unfold bytes_Clone.f
  rw [if_pos (by omega), Option.bind_some, Int.toNat_natCast]
  exact le_Put.loop a2.toNat 10 n l0 a2 0 (by omega) (by omega) (by omega) (by omega) (by omega)
 rw [if_neg hf, if_neg hf]
theorem le_Put.calls (A0 : Option Addr) (c0 : Nat) (l0 : List Int) (a1 : Int) (a2 : Int) (r1 : List Int) (r2 : Int) (w : World) (hr0 : Kd.C (Kd.int .u8) w A0 l0.length l0) (hc0 : l0.length ≤ c0) (h : le_Put.f l0 a1 a2 = some (r1, r2)) :
  Calls Try.prog 66 #[.slice A0 l0.length c0, .int .u64 a1, .int .i64 a2] w fun e w' => ∃ v0_ : Value, e = .returned (.tuple #[v0_, .int .i64 r2]) ∧ Kd.R (Kd.int .u8) 5 w' w.heap.size (fun _ => True) v0_ r1 ∧ Below w.heap.size w w' :=
 le_Put_p.calls 10 A0 c0 l0 a1 a2 r1 r2 w hr0 hc0 (le_Put.tells h)
end Go.Proofs.Ytohkmmbmfhficaa.PT
namespace Go.Proofs.Ytohkmmbmfhficaa.PT
open Go.Proofs.Ytohkmmbmfhficaa Go.RowKit Go.Proofs.YtohkmmbmfhficaaW.PrintWords Go.Proofs.YtohkmmbmfhficaaW.PrintLast Go.Proofs.YtohkmmbmfhficaaW.PrintMore
attribute [local go_sem] max2_int min2_int max_two min_two max_three min_three max_four min_four
end Go.Proofs.Ytohkmmbmfhficaa.PT
namespace Go.Proofs.Ytohkmmbmfhficaa.PT
open Go.Proofs.Ytohkmmbmfhficaa Go.RowKit Go.Proofs.YtohkmmbmfhficaaW.PrintWords Go.Proofs.YtohkmmbmfhficaaW.PrintLast Go.Proofs.YtohkmmbmfhficaaW.PrintMore
attribute [local go_sem] max2_int min2_int max_two min_two max_three min_three max_four min_four
set_option linter.unusedVariables false
set_option linter.unusedSimpArgs false
theorem stringslite_IndexByte.goes (s : ByteArray) (c : Int) (w : World) :
  Calls Try.prog 91 #[.string s, .int .u8 c] w fun e w' => e = .returned (.int .i64 (firstIdx s c.toNat.toUInt8)) ∧ Drawn0 w w' := by
 have hx : ∀ w : World, (callFunc 92 #[.string s, .int .u8 c]).run Try.prog w = .ok (.value (.int .i64 (firstIdx s c.toNat.toUInt8))) w := fun w => by
  rw [run_callFunc_indexByte Try.func92 (by kernel_rfl) (by kernel_rfl) (by kernel_rfl) (by kernel_rfl), run_indexByte_string]
  rfl
 go_enter Try.func91, Try.ntmps91
 go_wp2
 go_ret
 exact ⟨rfl, Drawn0.refl _⟩
theorem strings_IndexByte.goes (s : ByteArray) (c : Int) (w : World) :
  Calls Try.prog 87 #[.string s, .int .u8 c] w fun e w' => e = .returned (.int .i64 (firstIdx s c.toNat.toUInt8)) ∧ Drawn0 w w' := by
 go_enter Try.func87, Try.ntmps87
 go_wp2_with (first | (go_at_call 91; refine (stringslite_IndexByte.goes s c _).mono ?_; rintro e w' ⟨rfl, ⟨nd, rfl⟩⟩))
 go_ret
 exact ⟨rfl, ⟨nd, rfl⟩⟩
def utf8_ValidRune.j0 : Nat → Int → Bool → Option (Bool)
 | 0, _, _ => none
 | k + 1, x0, x3 => if x3 = true then (some true) else (if 57343 < x0 then (if x0 ≤ 1114111 then (some true) else (some false)) else (some false))
def utf8_ValidRune.f (k : Nat) (a0 : Int) : Option (Bool) := if 0 ≤ a0 then (utf8_ValidRune.j0 k a0 (decide (a0 < 55296))) else (utf8_ValidRune.j0 k a0 false)
set_option maxHeartbeats 8000000 in
set_option maxRecDepth 100000 in
theorem utf8_ValidRune.calls (k : Nat) (a0 : Int) (r : Bool) (w : World) (h : utf8_ValidRune.f k a0 = some r) :
  Calls Try.prog 88 #[.int .i32 a0] w fun e w' => e = .returned (.bool r) ∧ Drawn0 w w' := by
 have H : (if 0 ≤ a0 then (utf8_ValidRune.j0 k a0 (decide (a0 < 55296))) else (utf8_ValidRune.j0 k a0 false)) = some r := h
 clear h
 have HC2 := Aside0.mk H
 clear H
 go_enter Try.func88, Try.ntmps88
 go_upto_region 1 with (fail)
 go_cut [3] (fun v3 wc => ∃ (kq : Nat) (x3_1 : Bool), v3 = .bool x3_1 ∧ Aside0 (utf8_ValidRune.j0 kq a0 x3_1 = some r) ∧ Aside0 (kq ≤ k) ∧ Drawn0 w wc)
 case first =>
  have H := HC2.out
  clear HC2
  by_cases c3 : 0 ≤ a0
  focus
   rw [if_pos c3] at H
   have c3b0 : decide (0 ≤ a0) = true := decide_eq_true c3
  rotate_left
  focus
   rw [if_neg c3] at H
   have c3b0 : decide (0 ≤ a0) = false := decide_eq_false c3
  rotate_left
  all_goals
   clear c3
   (first | rw [c3b0] | (simp only [i64_w, i32_w]; rw [c3b0]) | skip)
   have H' := Aside0.mk H
   clear H
   go_wp2
  ·go_meet
   case rel => exact ⟨_, (decide (a0 < 55296)), Cz.si, H', ⟨by first | omega | exact Nat.le_refl _⟩, by repeat (first | exact Drawn0.refl _ | apply Drawn0.step)⟩
  ·go_meet
   case rel => exact ⟨_, (false), Cz.si, H', ⟨by first | omega | exact Nat.le_refl _⟩, by repeat (first | exact Drawn0.refl _ | apply Drawn0.step)⟩
 case rest =>
  clear HC2
  try clear p2
  try clear c3
  try clear c3b0
  obtain ⟨kq, x3_1, rfl, HA, HJ1, ⟨mc1, rfl⟩⟩ := hcut
  cases kq with
  | zero => exact absurd HA.out (by simp [utf8_ValidRune.j0])
  | succ kj1 =>
   have H := HA.out
   clear HA
   simp only [utf8_ValidRune.j0] at H
   by_cases c4 : x3_1 = true
   rotate_left
   focus
    replace c4 := Bool.eq_false_iff.mpr c4
    subst c4
    rw [if_neg (show ¬ (false = true) by decide)] at H
    by_cases c5 : 57343 < a0
    focus
     rw [if_pos c5] at H
     have c5b0 : decide (57343 < a0) = true := decide_eq_true c5
     clear c5
     by_cases c6 : a0 ≤ 1114111
    rotate_left 3
   rotate_left 3
   focus
    subst c4
    rw [if_pos rfl] at H
   rotate_left
   focus
    rw [if_pos c6] at H
    have c6b0 : decide (a0 ≤ 1114111) = true := decide_eq_true c6
    clear c6
   rotate_left
   focus
    rw [if_neg c6] at H
    have c6b0 : decide (a0 ≤ 1114111) = false := decide_eq_false c6
    clear c6
   rotate_left
   focus
    rw [if_neg c5] at H
    have c5b0 : decide (57343 < a0) = false := decide_eq_false c5
    clear c5
   rotate_left
   all_goals
    obtain rfl := Option.some.inj H
    go_wp2
    go_ret
    exact ⟨by first | rfl | (simp; done) | (simp [*]; done), by repeat (first | exact Drawn0.refl _ | apply Drawn0.step)⟩
end Go.Proofs.Ytohkmmbmfhficaa.PT
namespace Go.Proofs.Ytohkmmbmfhficaa.PT
open Go.Proofs.Ytohkmmbmfhficaa Go.RowKit Go.Proofs.YtohkmmbmfhficaaW.PrintWords Go.Proofs.YtohkmmbmfhficaaW.PrintLast Go.Proofs.YtohkmmbmfhficaaW.PrintMore
attribute [local go_sem] max2_int min2_int max_two min_two max_three min_three max_four min_four
end Go.Proofs.Ytohkmmbmfhficaa.PT
namespace Go.Proofs.Ytohkmmbmfhficaa.PT
open Go.Proofs.Ytohkmmbmfhficaa Go.RowKit Go.Proofs.YtohkmmbmfhficaaW.PrintWords Go.Proofs.YtohkmmbmfhficaaW.PrintLast Go.Proofs.YtohkmmbmfhficaaW.PrintMore
attribute [local go_sem] max2_int min2_int max_two min_two max_three min_three max_four min_four
set_option linter.unusedVariables false
set_option linter.unusedSimpArgs false
set_option maxRecDepth 2000000 in
theorem strings_IndexRune.low (s : ByteArray) (r : Int) (w : World) (h0 : 0 ≤ r) (h1 : r < 128) :
  Calls Try.prog 83 #[.string s, .int .i32 r] w fun e w' => e = .returned (.int .i64 (firstIdx s r.toNat.toUInt8)) ∧ Below w.heap.size w w' := by
 have hr : r % 256 = r := by omega
 go_enter Try.func83, Try.ntmps83
 go_wp2_with (first | (go_at_call 87; refine (strings_IndexByte.goes s r _).mono ?_; rintro e w' ⟨rfl, ⟨nd, rfl⟩⟩))
 go_ret
 exact ⟨rfl, pw_below_drewN (Below.refl _ _) nd⟩
set_option maxHeartbeats 8000000 in
set_option maxRecDepth 2000000 in
theorem strings_IndexRune.none' (s : ByteArray) (w : World) (hs : ∀ i (h : i < s.size), (s[i]'h).toNat < 128) :
  Calls Try.prog 83 #[.string s, .int .i32 65533] w fun e w' => e = .returned (.int .i64 (-1)) ∧ Below w.heap.size w w' := by
 obtain ⟨B, hB⟩ : ∃ B, B = w.heap.size := ⟨_, rfl⟩
 have HBN := Aside0.mk hB
 clear hB
 have hk0 : Aside0 ((w.iter s 0).heap[B]? = some (.stringIter s 0)) := ⟨by rw [HBN.out]; exact World.iter_heap w s 0⟩
 have hb0 : Aside0 (Below w.heap.size w (w.iter s 0)) := ⟨(Below.refl _ w).alloc (Nat.le_refl _) _⟩
 go_enter Try.func83, Try.ntmps83
 go_wp2
 rw [← HBN.out]
 generalize w.iter s 0 = w0 at hk0 hb0 ⊢
 go_loopw [] (fun wr => ∃ pos : Nat, pos ≤ s.size ∧ Aside0 (wr.heap[B]? = some (.stringIter s pos)) ∧ Aside0 (Below w.heap.size w wr)) (fun wr => s.size - wr.iterPos B)
 case atStart => exact ⟨0, Nat.zero_le _, hk0, hb0⟩
 case round =>
  obtain ⟨pos, hps, hk, hnx⟩ := hrel
  clear hk0 hb0
  by_cases hp : pos < s.size
  ·have hnext : ∀ ty, (Instr.next (.pointer (some ⟨B, 0, none⟩)) true ty).run Try.prog wr = _ := fun ty => Lib.run_next_ascii_at wr B s pos ty hk.out hp (hs pos hp)
   have hk1 := Aside0.mk (Lib.iterAt_heap wr B s pos (pos + 1) hk.out)
   have hn1 := Aside0.mk (Lib.below_iterAt (k := B) hnx.out (by rw [HBN.out]; exact Nat.le_refl _) s (pos + 1))
   have hmu : Aside0 (wr.iterPos B = pos) := ⟨by simp [World.iterPos, hk.out]⟩
   have hmu2 : Aside0 ((wr.iterAt B s (pos + 1)).iterPos B = pos + 1) := ⟨by simp [World.iterPos, hk1.out]⟩
   have hb := hs pos hp
   obtain ⟨x, hx⟩ : ∃ x, x = (s[pos]'hp).toNat := ⟨_, rfl⟩
   rw [← hx] at hnext hb
   have hne : ((x : Int) == 65533) = false := by simp; omega
   clear hx
   generalize wr.iterAt B s (pos + 1) = W1 at hnext hk1 hn1 hmu2
   go_wp2
   go_roundw
   case rel => exact ⟨pos + 1, by omega, hk1, hn1⟩
   case measure => rw [hmu.out, hmu2.out]; omega
  have hnext : ∀ ty, (Instr.next (.pointer (some ⟨B, 0, none⟩)) true ty).run Try.prog wr = _ := fun ty => Lib.run_next_end_at wr B s pos ty hk.out hp
  go_wp2
  go_ret
  exact ⟨rfl, hnx.out⟩
set_option maxHeartbeats 8000000 in
set_option maxRecDepth 2000000 in
theorem strings_IndexRune.high (s : ByteArray) (r : Nat) (w : World) (hs : ∀ b ∈ s.data.toList, b.toNat < 128) (h4 : 4 ≤ s.size) (h5 : s.size < 2147483648) (h1 : 128 ≤ r) (h2 : r ≤ 2147483647) (h3 : r ≠ 65533) :
  Calls Try.prog 83 #[.string s, .int .i32 r] w fun e w' => e = .returned (.int .i64 (-1)) ∧ Below w.heap.size w w' := by
 have d1 : decide ((r : Int) < 128) = false := decide_eq_false (by omega)
 have d2 : ((r : Int) == 65533) = false := by simp; omega
 have HV : ∀ w, Calls Try.prog 88 #[.int .i32 (r : Int)] w fun e w' => e = .returned (.bool (Utf8.valid r)) ∧ Drawn0 w w' := fun w => utf8_ValidRune.calls 1 (r : Int) _ w (by
  rw [validRune_eq]
  unfold utf8_ValidRune.f validRune
  rw [if_pos (by omega)]
  have hj : ∀ b, utf8_ValidRune.j0 1 (r : Int) b = if b = true then some true else (if 57343 < (r : Int) then (if (r : Int) ≤ 1114111 then some true else some false) else some false) := fun b => rfl
  rw [hj]
  by_cases ha : (r : Int) < 55296
  ·rw [decide_eq_true ha, if_pos rfl, decide_eq_true (Or.inl ⟨by omega, ha⟩)]
  rw [decide_eq_false ha, if_neg (by simp)]
  by_cases hb : (57343 : Int) < (r : Int)
  ·rw [if_pos hb]
   by_cases hc : (r : Int) ≤ 1114111
   ·rw [if_pos hc, decide_eq_true (Or.inr ⟨hb, hc⟩)]
   rw [if_neg hc, decide_eq_false (by omega)]
  rw [if_neg hb, decide_eq_false (by omega)])
 have HV' := Aside0.mk HV
 clear HV
 have HB := Aside0.mk (Below.refl w.heap.size w)
 cases hv : Utf8.valid (r : Int) with
 | false =>
  rw [hv] at HV'
  go_enter Try.func83, Try.ntmps83
  go_wp2_with (first | (go_at_call 88; refine (HV'.out _).mono ?_; rintro e w' ⟨rfl, ⟨nd, rfl⟩⟩))
  go_ret
  exact ⟨rfl, pw_below_drewN (Below.refl _ _) nd⟩
 | true =>
  rw [hv] at HV'
  obtain ⟨e2, e4, elast⟩ := encode_facts (r : Int) hv (by omega)
  obtain ⟨t, ht⟩ : ∃ t, t = Utf8.encode (r : Int) := ⟨_, rfl⟩
  have hcv : ∀ w : World, (convert 21 9 (.int .i32 (r : Int))).run Try.prog w = .ok (.string t) w := fun w => by rw [ht]; exact run_convert_int_string w 21 9 .i32 (r : Int) rfl rfl
  rw [← ht] at e2 e4 elast
  clear ht
  obtain ⟨n, hn⟩ : ∃ n, n = t.size - 1 := ⟨_, rfl⟩
  have hnt : n < t.size := by omega
  have hl : Aside0 (128 ≤ (t[n]'hnt).toNat) := ⟨by have := elast (by omega); simp only [← hn] at this; exact this⟩
  have hn0 : (t.size : Int) - 1 = (n : Int) := by omega
  have hns : n < s.size := by omega
  have hne : Aside0 ((s[n]'hns).toNat < 128) := ⟨hs _ (by
   have : s[n]'hns = s.data.toList[n]'(by simpa using hns) := by cases s; rfl
   rw [this]; exact List.getElem_mem _)⟩
  obtain ⟨m, hm⟩ : ∃ m, m = n + 1 := ⟨_, rfl⟩
  have hw : wrap64 ((n : Int) + 1) = (m : Int) := by rw [hm]; unfold wrap64; omega
  have k1 := eq_true (show m ≤ s.size from by omega)
  have k2 := eq_true (show (m : Int) ≤ (s.size : Int) from by omega)
  have HC : ∀ w : World, Calls Try.prog 87 #[.string (s.extract m s.size), .int .u8 ((t[n]'hnt).toNat : Int)] w fun e w' => e = .returned (.int .i64 (-1)) ∧ Drawn0 w w' := fun w => by
   have h := strings_IndexByte.goes (s.extract m s.size) ((t[n]'hnt).toNat : Int) w
   rw [show ((t[n]'hnt).toNat : Int).toNat.toUInt8 = t[n]'hnt from by simp, firstIdx_ascii s m s.size _ hs hl.out] at h
   exact h
  have HC' := Aside0.mk HC
  clear hn elast hm HC
  go_enter Try.func83, Try.ntmps83
  go_wp2_with (first | (go_at_call 88; refine (HV'.out _).mono ?_; rintro e w' ⟨rfl, ⟨nd, rfl⟩⟩))
  have HB' := Aside0.mk (pw_below_drewN HB.out nd)
  clear HB
  generalize w.drewN nd = w1 at HB' ⊢
  refine Arr.wp_scope_once 1 (fun _ _ => False) (fun _ _ => 0) rfl (fun _ => ?_) (fun _ _ h => h.elim)
  go_wp2
  go_loopw [9] (fun i wr => i = .int .i64 (n : Int) ∧ Aside0 (Below w.heap.size w wr)) (fun _ _ => 0)
  case atStart => exact ⟨rfl, HB'⟩
  case round =>
   clear HB'
   obtain ⟨rfl, HB⟩ := hrel
   have d3 : decide ((n : Int) < (s.size : Int)) = true := decide_eq_true (by omega)
   have d4 : decide (n < s.size) = true := decide_eq_true (by omega)
   go_wp2
   refine Arr.wp_scope_once 0 (fun _ _ => False) (fun _ _ => 0) rfl (fun _ => ?_) (fun _ _ h => h.elim)
   go_wp2
   have HB' := Aside0.mk (below_drew HB.out); clear HB; have HB := HB'; clear HB'
   refine start_ (n := 7) (S := fun w' => True) (ds := []) #[false, false, false, false, false, false, false] (by kernel_rfl) rfl rfl trivial (fun hHeld => ?_)
   generalize wr.drew = wd0 at HB hHeld ⊢
   refine Cz.rP 0 27 ?_
   refine Cz.rP 1 28 ?_
   refine Cz.rP 3 30 ?_
   refine Cz.rP 4 31 ?_
   refine Cz.rT 2 29 hHeld ?_
   refine Cz.rT 5 32 hHeld ?_
   refine Cz.rP 6 33 ?_
   refine done_ (by kernel_rfl) ?_
   have d5 : (((s[n]'hns).toNat : Int) != ((t[n]'hnt).toNat : Int)) = true := by have := hne.out; have := hl.out; simp; omega
   go_wp2
   have HB' := Aside0.mk (below_drew HB.out); clear HB; have HB := HB'; clear HB'
   refine start_ (n := 9) (S := fun w' => True) (ds := []) #[false, false, false, false, false, false, false, false, false] (by kernel_rfl) rfl rfl trivial (fun hHeld => ?_)
   generalize wd0.drew = wd1 at HB hHeld ⊢
   refine Cz.rP 0 34 ?_
   refine Cz.rP 1 35 ?_
   refine Cz.rP 2 36 ?_
   refine Cz.rP 3 37 ?_
   refine Cz.rP 4 38 ?_
   refine Cz.rP 5 39 ?_
   refine Cz.rT 6 40 hHeld ?_
   refine Cz.rO (N := some 41) 7 (fun K hK => ?_)
   refine goes_ Try.func87 (by kernel_rfl) rfl #[.string (s.extract m s.size), .int .u8 ((t[n]'hnt).toNat : Int)] (by rfl) rfl rfl (by simp only [List.map_toArray, List.map_cons, List.map_nil]; rfl) ?_
   refine (HC'.out _).mono ?_
   rintro e w0 ⟨rfl, ⟨nd, rfl⟩⟩
   refine ⟨_, rfl, ?_⟩
   have HB' := Aside0.mk (pw_below_drewN HB.out nd); clear HB; have HB := HB'; clear HB'
   refine hK.out _ _ trivial (fun hHeld => ?_)
   clear hK K
   refine Cz.nm (some 41) ?_
   refine Cz.rP 8 11 ?_
   refine done_ (by kernel_rfl) ?_
   go_wp2
   simp only [Exit.jump]
   (try go_wp2)
   (try simp only [Exit.jump])
   go_ret
   exact ⟨rfl, HB.out⟩
def le_size.f (a0 : Int) : Option Int := if 0 ≤ a0 ∧ a0 ≤ 2147483647 then some (Pl.letS a0) else none
theorem le_size.place (a0 : Int) (h0 : 0 ≤ a0) (h1 : a0 ≤ 2147483647) : ∃ i : Int, ((i = 0 ∧ Pl.letS a0 = 1) ∨ (i = 1 ∧ Pl.letS a0 = 2) ∨ (i = 2 ∧ Pl.letS a0 = 4) ∨ (i = 3 ∧ Pl.letS a0 = 8) ∨ (i = -1 ∧ Pl.letS a0 = 0)) ∧
  ∀ w : World, Calls Try.prog 83 #[.string Pl.bhwq, .int .i32 a0] w fun e w' => e = .returned (.int .i64 i) ∧ Below w.heap.size w w' := by
 obtain ⟨r, rfl⟩ := Int.eq_ofNat_of_zero_le h0
 by_cases hl : r < 128
 ·refine ⟨firstIdx Pl.bhwq (r : Int).toNat.toUInt8, ?_, fun w => strings_IndexRune.low Pl.bhwq r w h0 (by omega)⟩
  have h := Pl.bhwq_at ⟨r, hl⟩
  rw [Int.toNat_natCast]
  simp only at h
  rw [h]
  unfold Pl.letS
  by_cases h2 : r = 98
  ·subst h2; exact Or.inl ⟨rfl, rfl⟩
  by_cases h3 : r = 104
  ·subst h3; exact Or.inr (Or.inl ⟨rfl, rfl⟩)
  by_cases h119 : r = 119
  ·subst h119; exact Or.inr (Or.inr (Or.inl ⟨rfl, rfl⟩))
  by_cases h4 : r = 113
  ·subst h4; exact Or.inr (Or.inr (Or.inr (Or.inl ⟨rfl, rfl⟩)))
  rw [if_neg h2, if_neg h3, if_neg h119, if_neg h4, if_neg (by omega), if_neg (by omega), if_neg (by omega), if_neg (by omega)]
  exact Or.inr (Or.inr (Or.inr (Or.inr ⟨rfl, rfl⟩)))
 refine ⟨-1, Or.inr (Or.inr (Or.inr (Or.inr ⟨rfl, ?_⟩))), fun w => ?_⟩
 ·unfold Pl.letS
  rw [if_neg (by omega), if_neg (by omega), if_neg (by omega), if_neg (by omega)]
 ·by_cases he : r = 65533
  ·subst he
   exact strings_IndexRune.none' Pl.bhwq w Pl.bhwq_get
  exact strings_IndexRune.high Pl.bhwq r w Pl.bhwq_ascii (by decide) (by decide) (by omega) (by omega) he
set_option maxHeartbeats 2000000 in
theorem le_size.calls (a0 : Int) (r : Int) (w : World) (h : le_size.f a0 = some r) :
  Calls Try.prog 67 #[.int .i32 a0] w fun e w' => e = .returned (.int .i64 r) ∧ Below w.heap.size w w' := by
 unfold le_size.f at h
 split at h
 case isFalse => cases h
 rename_i hh
 obtain ⟨h0, h1⟩ := hh
 obtain rfl := Option.some.inj h
 clear h
 obtain ⟨i, hi, HC⟩ := le_size.place a0 h0 h1
 obtain ⟨z, hz⟩ : ∃ z, z = Pl.letS a0 := ⟨_, rfl⟩
 rw [← hz] at hi ⊢
 clear hz
 unfold Pl.bhwq at HC
 have HC' := Aside0.mk HC
 clear HC h0 h1
 rcases hi with ⟨rfl, rfl⟩ | ⟨rfl, rfl⟩ | ⟨rfl, rfl⟩ | ⟨rfl, rfl⟩ | ⟨rfl, rfl⟩ <;>
 ·go_enter Try.func67, Try.ntmps67
  go_wp2_with (first | (go_at_call 83; refine (HC'.out _).mono ?_; rintro e w' ⟨rfl, hb⟩; have HB := Aside0.mk hb; clear hb))
  go_ret
  exact ⟨rfl, HB.out⟩
def le_Pack.f (a0 : ByteArray) (l1 : List Int) : Option (List Int × Int) := if Pl.u64B l1 = true ∧ a0.size < 2147483648 then some (Pl.packS (Pl.fb a0) l1) else none
theorem R_iter {α : Type} {d : Kd α} {e base : Nat} {ok : Nat → Prop} {v : Value} {xs : List α} {w : World} {B : Nat} (h : d.R e w base ok v xs) (hB : B < base) (s : ByteArray) (p : Nat) : d.R e (w.iterAt B s p) base ok v xs :=
 Kd.R_mono (Kd.R_move (Kd.R_bound h) (fun k hk => Lib.iterAt_other w B k s p (by have := hk.2.1; omega))) (fun _ hk => hk.1)
theorem rune_size (s : ByteArray) (i : Nat) (h : i < s.size) : Pl.letS ((Utf8.decode s i).1 : Int) = Pl.letS ((Pl.fb s)[i]'(by rw [Pl.fb_length]; exact h)) ∧ (Pl.letS ((Pl.fb s)[i]'(by rw [Pl.fb_length]; exact h)) ≠ 0 → (Utf8.decode s i).2 = 1) := by
 have e : (Pl.fb s)[i]'(by rw [Pl.fb_length]; exact h) = (((s[i]'h).toNat : Nat) : Int) := by
  simp only [Pl.fb, List.getElem_map]
  rfl
 rw [e]
 by_cases ha : (s[i]'h).toNat < 128
 ·rw [decode_ascii s i h ha]
  exact ⟨rfl, fun _ => rfl⟩
 have hd := decode_high s i h (by omega)
 have z : ∀ c : Nat, 128 ≤ c → Pl.letS (c : Int) = 0 := fun c hc => by
  unfold Pl.letS
  rw [if_neg (by omega), if_neg (by omega), if_neg (by omega), if_neg (by omega)]
 rw [z _ hd.1, z _ (by omega)]
 exact ⟨rfl, fun h => absurd rfl h⟩
set_option maxHeartbeats 8000000 in
set_option maxRecDepth 2000000 in
theorem le_Pack.calls (a0 : ByteArray) (A1 : Option Addr) (c1 : Nat) (l1 : List Int) (r1 : List Int) (r2 : Int) (w : World) (hr1 : Kd.C (Kd.int .u64) w A1 l1.length l1) (hc1 : l1.length ≤ c1) (h : le_Pack.f a0 l1 = some (r1, r2)) :
  Calls Try.prog 39 #[.string a0, .slice A1 l1.length c1] w fun e w' => ∃ v0_ : Value, e = .returned (.tuple #[v0_, .int .i64 r2]) ∧ Kd.R (Kd.int .u8) 5 w' w.heap.size (fun _ => True) v0_ r1 ∧ Below w.heap.size w w' := by
 unfold le_Pack.f at h
 split at h
 case isFalse => cases h
 rename_i hh
 obtain ⟨hu, hsz⟩ := hh
 have HP0 := Aside0.mk (Option.some.inj h)
 have HU := Aside0.mk hu
 have HR0 := Aside0.mk hr1
 have HC0 := Aside0.mk hc1
 clear h hu hr1 hc1
 obtain ⟨B, hB⟩ : ∃ B, B = w.heap.size := ⟨_, rfl⟩
 have HBN := Aside0.mk hB
 clear hB
 have hk0 : Aside0 ((w.iter a0 0).heap[B]? = some (.stringIter a0 0)) := ⟨by rw [HBN.out]; exact World.iter_heap w a0 0⟩
 have hb0 : Aside0 (Below w.heap.size w (w.iter a0 0)) := ⟨(Below.refl _ w).alloc (Nat.le_refl _) _⟩
 have hs0 : Aside0 (B + 1 ≤ (w.iter a0 0).heap.size) := ⟨by rw [HBN.out]; simp [World.iter]⟩
 go_enter Try.func39, Try.ntmps39
 go_wp2
 rw [← HBN.out]
 generalize w.iter a0 0 = w0 at hk0 hb0 hs0 ⊢
 go_loopw [4, 6] (fun v at_ wr => ∃ (i : Nat) (out : List Int), i ≤ a0.size ∧ i ≤ l1.length ∧ at_ = .int .i64 i ∧ Aside0 (out.length ≤ 8 * i) ∧ Aside0 (wr.heap[B]? = some (.stringIter a0 i)) ∧ Aside0 (Kd.R (Kd.int .u8) 5 wr (B + 1) (fun _ => True) v out) ∧ Aside0 (Pl.packGo out ((Pl.fb a0).drop i) (l1.drop i) = (r1, r2)) ∧ Aside0 (B + 1 ≤ wr.heap.size) ∧ Aside0 (Below w.heap.size w wr)) (fun _ at_ _ => a0.size - (intOf at_).toNat)
 case atStart => exact ⟨0, [], by omega, by omega, rfl, ⟨by simp⟩, hk0, ⟨Kd.R_nil _ _ _ _ _⟩, HP0, hs0, hb0⟩
 case round =>
  clear hk0 hb0 hs0 HP0
  obtain ⟨i, out, hi, hil, rfl, HOL, hk, HO, HP, HS, HB⟩ := hrel
  by_cases hp : i < a0.size
  rotate_left
  ·have hnext : ∀ ty, (Instr.next (.pointer (some ⟨B, 0, none⟩)) true ty).run Try.prog wr = _ := fun ty => Lib.run_next_end_at wr B a0 i ty hk.out hp
   by_cases hl : i < l1.length
   ·have d0 : decide ((i : Int) < (l1.length : Int)) = true := decide_eq_true (by omega)
    have d1 : decide (i < l1.length) = true := decide_eq_true hl
    go_wp2
    go_ret2
    have e := HP.out
    rw [Pl.packGo_ne _ _ _ (by rw [List.length_drop, List.length_drop, Pl.fb_length]; omega)] at e
    injection e with e1 e2
    subst e1 e2
    exact ⟨_, rfl, Kd.R_nil _ _ _ _ _, HB.out⟩
   have d0 : decide ((i : Int) < (l1.length : Int)) = false := decide_eq_false (by omega)
   have d1 : decide (i < l1.length) = false := decide_eq_false hl
   go_wp2
   go_ret2
   have e := HP.out
   rw [List.drop_eq_nil_of_le (by rw [Pl.fb_length]; omega), List.drop_eq_nil_of_le (by omega), Pl.packGo] at e
   injection e with e1 e2
   subst e1 e2
   exact ⟨_, rfl, Kd.R_lower HO.out (by rw [HBN.out]; omega), HB.out⟩
  obtain ⟨rs, rn⟩ := rune_size a0 i hp
  have hif : i < (Pl.fb a0).length := by rw [Pl.fb_length]; exact hp
  have hle := decode_le a0 i
  obtain ⟨z, hz⟩ : ∃ z, z = Pl.letS ((Pl.fb a0)[i]'hif) := ⟨_, rfl⟩
  rw [← hz] at rs rn
  have hnext : ∀ ty, (Instr.next (.pointer (some ⟨B, 0, none⟩)) true ty).run Try.prog wr = _ := fun ty => Lib.run_next_any_at wr B a0 i ty hk.out hp
  obtain ⟨q, hq⟩ : ∃ q, q = i + (Utf8.decode a0 i).2 := ⟨_, rfl⟩
  rw [← hq] at hnext
  have HRN : Aside0 (z ≠ 0 → q = i + 1) := ⟨fun h => by rw [hq, rn h]⟩
  obtain ⟨c, hc⟩ : ∃ c, c = (Utf8.decode a0 i).1 := ⟨_, rfl⟩
  rw [← hc] at hnext rs hle
  have HRS : Aside0 (le_size.f (c : Int) = some z) := ⟨by unfold le_size.f; rw [if_pos ⟨by omega, by omega⟩, rs]⟩
  clear hq hc rs rn hle
  have hk1 := Aside0.mk (Lib.iterAt_heap wr B a0 i q hk.out)
  have hn0 := Aside0.mk (Lib.below_iterAt (k := B) HB.out (by rw [HBN.out]; exact Nat.le_refl _) a0 q)
  have HO0 := Aside0.mk (R_iter HO.out (Nat.lt_succ_self B) a0 q)
  have hs1 : Aside0 (B + 1 ≤ (wr.iterAt B a0 q).heap.size) := ⟨by rw [Lib.iterAt_size]; exact HS.out⟩
  clear hk HO HS HB
  generalize wr.iterAt B a0 q = W1 at hnext hk1 hn0 HO0 hs1
  by_cases hl : i < l1.length
  rotate_left
  ·have d0 : ((i : Int) == (l1.length : Int)) = true := by simp; omega
   have d1 : (i == l1.length) = true := by simp; omega
   go_wp2
   go_ret2
   have e := HP.out
   rw [Pl.packGo_ne _ _ _ (by rw [List.length_drop, List.length_drop, Pl.fb_length]; omega)] at e
   injection e with e1 e2
   subst e1 e2
   exact ⟨_, rfl, Kd.R_nil _ _ _ _ _, hn0.out⟩
  have d0 : ((i : Int) == (l1.length : Int)) = false := by simp; omega
  have d1 : (i == l1.length) = false := by simp; omega
  have hrd : rd l1 (i : Int) = l1[i]'hl := by unfold rd; rw [Int.toNat_natCast, List.getD_eq_getElem?_getD, List.getElem?_eq_getElem hl, Option.getD_some]
  have hnb := Pl.u64B_iff.1 HU.out _ (List.getElem_mem hl)
  obtain ⟨x, hx⟩ : ∃ x, x = l1[i]'hl := ⟨_, rfl⟩
  rw [← hx] at hrd hnb
  have HX := Aside0.mk hx
  clear hx
  have HRX := Aside0.mk (Kd.C_below HR0.out hn0.out)
  obtain ⟨ad, rfl, -⟩ := Kd.at_int HRX.out (i : Int) (by omega) (by omega)
  have hcell : ∀ W : World, Kd.C (Kd.int .u64) W (some ad) l1.length l1 → W.cell? (ad.add i) = some (.int .u64 x) := fun W h => by
   obtain ⟨ad', e, hx'⟩ := Kd.at_int h (i : Int) (by omega) (by omega)
   cases e
   rw [hrd, Int.toNat_natCast] at hx'
   exact hx'
  obtain ⟨Ao, co, rfl, hco, hro⟩ := Kd.R_reads HO0.out
  have HCo := Aside0.mk hco
  have HRo := Aside0.mk hro
  have HRn := HRX
  have HB := Aside0.mk (Below.refl W1.heap.size W1)
  have HL := Aside0.mk hcell
  have k0 := eq_true hl
  have HPut : Aside0 (le_Put.f out x z = some (Pl.putS out x z)) := ⟨by unfold le_Put.f; rw [if_pos ⟨hnb.1, hnb.2, by have := HOL.out; omega⟩]⟩
  clear hro hco HRX hcell hrd
  obtain ⟨p, E, HPE⟩ : ∃ p E, Aside0 (Pl.putS out x z = (p, E)) := ⟨_, _, ⟨rfl⟩⟩
  rw [HPE.out] at HPut
  go_wp2
  have HB' := Aside0.mk (below_drew HB.out); clear HB; have HB := HB'; clear HB'
  have HRn' := Aside0.mk (Kd.C_drew HRn.out); clear HRn; have HRn := HRn'; clear HRn'
  have HRo' := Aside0.mk (Kd.C_drew HRo.out); clear HRo; have HRo := HRo'; clear HRo'
  refine start_ (n := 13) (S := fun w' => w'.cell? (ad.add i) = some (.int .u64 x)) (ds := []) #[false, false, false, false, false, false, false, false, false, false, false, false, false] (by kernel_rfl) rfl rfl ((HL.out _ HRn.out)) (fun hHeld => ?_)
  generalize W1.drew = wd0 at HB HRn HRo hHeld ⊢
  refine Cz.rP 0 19 ?_
  refine Cz.rP 1 20 ?_
  refine Cz.rP 2 21 ?_
  refine Cz.rP 3 22 ?_
  refine Cz.rP 5 24 ?_
  refine Cz.rT 4 23 hHeld ?_
  refine Cz.rO (N := some 25) 6 (fun K hK => ?_)
  refine goes_ Try.func67 (by kernel_rfl) rfl #[.int .i32 (c : Int)] (by rfl) rfl rfl (by simp only [List.map_toArray, List.map_cons, List.map_nil]; rfl) ?_
  refine (le_size.calls _ _ _ HRS.out).mono ?_
  rintro e w1 ⟨rfl, hb⟩
  refine ⟨_, rfl, ?_⟩
  have HB' := Aside0.mk (below_step HB.out hb); clear HB; have HB := HB'; clear HB'
  have HRn' := Aside0.mk (Kd.C_below HRn.out hb); clear HRn; have HRn := HRn'; clear HRn'
  have HRo' := Aside0.mk (Kd.C_below HRo.out hb); clear HRo; have HRo := HRo'; clear HRo'
  clear hb
  refine hK.out _ _ ((HL.out _ HRn.out)) (fun hHeld => ?_)
  clear hK K
  refine Cz.nm (some 25) ?_
  refine Cz.rO (N := some 26) 7 (fun K hK => ?_)
  refine goes_ Try.func66 (by kernel_rfl) rfl #[.slice Ao out.length co, .int .u64 x, .int .i64 z] (by rfl) rfl rfl (by simp only [List.map_toArray, List.map_cons, List.map_nil]; rfl) ?_
  refine (le_Put.calls Ao co out x z _ _ _ HRo.out HCo.out HPut.out).mono ?_
  rintro e w2 ⟨vp, rfl, hop, hb⟩
  refine ⟨_, rfl, ?_⟩
  have HZp := Aside0.mk HB.out.size
  have HB' := Aside0.mk (below_step HB.out hb); clear HB; have HB := HB'; clear HB'
  have HRn' := Aside0.mk (Kd.C_below HRn.out hb); clear HRn; have HRn := HRn'; clear HRn'
  have HRo' := Aside0.mk (Kd.C_below HRo.out hb); clear HRo; have HRo := HRo'; clear HRo'
  clear hb
  have HOp := Aside0.mk hop
  obtain ⟨Ap, cp, rfl, hcp, hrp⟩ := Kd.R_reads hop
  have HRp := Aside0.mk hrp
  have HCp := Aside0.mk hcp
  clear hrp hcp hop
  refine hK.out _ _ ((HL.out _ HRn.out)) (fun hHeld => ?_)
  clear hK K
  refine Cz.nm (some 26) ?_
  refine Cz.rP 8 18 ?_
  refine Cz.rP 9 27 ?_
  refine Cz.rP 10 28 ?_
  refine Cz.rP 11 4 ?_
  refine Cz.rP 12 5 ?_
  refine done_ (by kernel_rfl) ?_
  have HBz := Aside0.mk (below_then hn0.out hn0.out.size HB.out)
  by_cases hf : Pl.fits x z = true
  all_goals
   have e := HPE.out
   unfold Pl.putS at e
  ·rw [if_pos hf] at e
   injection e with e1 e2
   have HE0 := Aside0.mk e1
   subst e2
   clear e1
   go_wp2
   go_roundw
   case rel =>
    have h8 : z ≤ 8 ∧ 0 ≤ z ∧ z ≠ 0 := by
     unfold Pl.fits at hf
     rw [Bool.and_eq_true, Pl.okS_iff] at hf
     omega
    refine ⟨i + 1, p, by omega, by omega, by go_num, ⟨?_⟩, ⟨?_⟩, ⟨Kd.R_lower HOp.out (Nat.le_trans hs1.out ?_)⟩, ⟨?_⟩, ⟨?_⟩, HBz⟩
    ·rw [← HE0.out, List.length_append, Pl.leB_length]; have := HOL.out; omega
    ·rw [HB.out.block B (by have := hs1.out; omega), hk1.out, HRN.out h8.2.2]
    ·exact HZp.out
    ·have e := HP.out
     rw [List.drop_eq_getElem_cons hif, List.drop_eq_getElem_cons hl, Pl.packGo, ← hz, ← HX.out, if_pos hf, HE0.out] at e
     exact e
    ·exact Nat.le_trans hs1.out HB.out.size
   case measure => simp [intOf]; omega
  ·rw [if_neg hf] at e
   injection e with e1 e2
   subst e2
   clear e1
   go_wp2
   go_ret2
   have e := HP.out
   rw [List.drop_eq_getElem_cons hif, List.drop_eq_getElem_cons hl, Pl.packGo, ← hz, ← HX.out, if_neg hf] at e
   injection e with e1 e2
   subst e1 e2
   exact ⟨_, rfl, Kd.R_nil _ _ _ _ _, HBz.out⟩
def halvesA : Array Value := Arr.numA .u32 16 (fun i => (Pl.stpN 4 i : Nat))
set_option maxHeartbeats 1000000 in
theorem crc_halves.calls (w : World) : Calls Try.prog 80 #[] w fun e w' => e = .returned (.agg halvesA) ∧ w' = w.alloc (.cells halvesA 109) := by
 have e : halvesA = #[.int .u32 0, .int .u32 274646895, .int .u32 549293790, .int .u32 820201905, .int .u32 1098587580, .int .u32 1361435347, .int .u32 1640403810, .int .u32 1905808397, .int .u32 2197175160, .int .u32 2460548119, .int .u32 2722870694, .int .u32 2987750089, .int .u32 3280807620, .int .u32 3553878443, .int .u32 3811616794, .int .u32 4084100981] := by
  kernel_rfl
 rw [e]
 clear e
 go_enter Try.func80, Try.ntmps80
 go_wp2
 refine bodyPost_ret (results_single rfl (.cell _ 109 _ (0, 0) _ rfl (heap_alloc_new w _) Try.underlying109 rfl (by kernel_rfl) .nil)) rfl ?_
 exact ⟨rfl, rfl⟩
theorem halves_in (w : World) (g : Nat) (h : w.heap[g]? = some (.cells halvesA 109 (0, 0))) : Arr.IsA w g 109 .u32 16 (fun i => (Pl.stpN 4 i : Nat)) := h
def crc_More.f (a0 : Int) (l1 : List Int) : Option Int := if 0 ≤ a0 ∧ a0 < 4294967296 ∧ Pl.byteB l1 = true then some ((Pl.more a0.toNat (Pl.nats l1) : Nat) : Int) else none
set_option maxHeartbeats 2000000 in
theorem crc_More.calls (a0 : Int) (A1 : Option Addr) (c1 : Nat) (l1 : List Int) (r : Int) (w : World) (hr1 : Kd.C (Kd.int .u8) w A1 l1.length l1) (hc1 : l1.length ≤ c1) (h : crc_More.f a0 l1 = some r) :
  Calls Try.prog 64 #[.int .u32 a0, .slice A1 l1.length c1] w fun e w' => e = .returned (.int .u32 r) ∧ Below w.heap.size w w' := by
 unfold crc_More.f at h
 split at h
 case isFalse => cases h
 rename_i hh
 obtain ⟨h0, h1, hb⟩ := hh
 obtain ⟨a, rfl⟩ := Int.eq_ofNat_of_zero_le h0
 rw [Int.toNat_natCast] at h
 have ha : a < 4294967296 := by omega
 obtain rfl := Option.some.inj h
 have HR0 := Aside0.mk hr1
 have hlen : l1.length ≤ 9223372036854775807 := hr1.2.1
 have HBY := Aside0.mk hb
 clear h0 h1 hb h hr1 hc1
 have e0 : bits .xor .u32 (a : Int) 4294967295 = ((Pl.inv a : Nat) : Int) := Arr.x32 ha (by decide)
 obtain ⟨B, hB⟩ : ∃ B, B = w.heap.size + 1 := ⟨_, rfl⟩
 have HBN := Aside0.mk hB
 clear hB
 go_enter Try.func64, Try.ntmps64
 go_wp2_with (first | (go_at_call 80; refine (crc_halves.calls _).mono ?_; rintro e w' ⟨rfl, rfl⟩) | ((with_reducible refine Arr.wpList_store_row rfl 109 (.tmp 5) (.tmp 8) rfl rfl (w.heap.size + 1) rfl 109 _ halvesA rfl (heap_alloc2_new w _ _) (by kernel_rfl) rfl (by kernel_rfl) ?_)))
 rw [← HBN.out]
 go_loopw [0, 13] (fun s i wr => ∃ (n : Nat) (k : Nat), k ≤ l1.length ∧ i = .int .i64 k ∧ s = .int .u32 (n : Int) ∧ n < 4294967296 ∧ Aside0 (n = Pl.raw (Pl.inv a) ((Pl.nats l1).take k)) ∧ Aside0 (wr.heap[B]? = some (.cells halvesA 109 (0, 0))) ∧ Aside0 (Below w.heap.size w wr)) (fun _ i _ => l1.length - (intOf i).toNat)
 case atStart =>
  refine ⟨Pl.inv a, 0, Nat.zero_le _, rfl, rfl, Pl.inv_lt ha, ⟨by rw [List.take_zero, Pl.raw_nil]⟩, ⟨?_⟩, ⟨?_⟩⟩
  ·rw [HBN.out]; exact setRow_heap _ _ _ _ _ _ (heap_alloc2_new w _ _)
  ·rw [HBN.out]; exact below_setRow (((Below.refl _ _).alloc (Nat.le_refl _) _).alloc (by simp) _) (by omega) _
 case round =>
  obtain ⟨n, k, hk, rfl, rfl, hn, hst, hT, hBel⟩ := hrel
  by_cases hlt : k < l1.length
  rotate_left
  ·have hke : Aside0 (k = l1.length) := ⟨by omega⟩
   have e1 : bits .xor .u32 (n : Int) 4294967295 = ((Pl.inv n : Nat) : Int) := Arr.x32 hn (by decide)
   clear e0
   go_wp2
   go_ret
   refine ⟨?_, hBel.out⟩
   rw [hst.out, hke.out, List.take_of_length_le (by simp [Pl.nats])]
   rfl
  obtain ⟨x, hx, hxr, htk⟩ := Pl.byteB_at HBY.out k hlt
  have hxr : rd l1 (k : Int) = (x : Int) := by unfold rd; rw [Int.toNat_natCast]; exact hxr
  obtain ⟨ad, hA, hcell⟩ := Kd.at_int (Kd.C_below HR0.out hBel.out) (k : Int) (by omega) (by omega)
  subst hA
  rw [hxr] at hcell
  simp only [Int.toNat_natCast] at hcell
  obtain ⟨y, hy⟩ : ∃ y, y = n ^^^ x := ⟨_, rfl⟩
  have hy0 : y < 4294967296 := by rw [hy]; exact Pl.xor_lt hn (by omega)
  have q1 : bits .xor .u32 (n : Int) (x : Int) = (y : Int) := by rw [hy]; exact Arr.x32 hn (by omega)
  obtain ⟨i1, hi1⟩ : ∃ i, i = y % 16 := ⟨_, rfl⟩
  have q2 : bits .and .u32 (y : Int) 15 = (i1 : Int) := by rw [hi1]; exact (Arr.a32 hy0 (by decide)).trans (by rw [nat_mask4])
  have hi1' : i1 < 16 := by omega
  have t1 := (halves_in wr B hT.out).cell i1 hi1'
  obtain ⟨v1, hv1⟩ : ∃ v, v = Pl.stpN 4 i1 := ⟨_, rfl⟩
  have hv1' : v1 < 4294967296 := by rw [hv1]; exact Pl.stpN_lt 4 (by omega)
  rw [← hv1] at t1
  obtain ⟨z, hz⟩ : ∃ z, z = Pl.half y := ⟨_, rfl⟩
  have hz0 : z < 4294967296 := by rw [hz, Pl.half_eq]; exact Pl.stpN_lt 4 hy0
  have q3 : bits .xor .u32 ((y : Int) / 16) (v1 : Int) = (z : Int) := by
   rw [show (y : Int) / 16 = ((y / 16 : Nat) : Int) from by omega, Arr.x32 (by omega) hv1', hz, Pl.half, hv1, hi1]
  obtain ⟨i2, hi2⟩ : ∃ i, i = z % 16 := ⟨_, rfl⟩
  have q4 : bits .and .u32 (z : Int) 15 = (i2 : Int) := by rw [hi2]; exact (Arr.a32 hz0 (by decide)).trans (by rw [nat_mask4])
  have hi2' : i2 < 16 := by omega
  have t2 := (halves_in wr B hT.out).cell i2 hi2'
  obtain ⟨v2, hv2⟩ : ∃ v, v = Pl.stpN 4 i2 := ⟨_, rfl⟩
  have hv2' : v2 < 4294967296 := by rw [hv2]; exact Pl.stpN_lt 4 (by omega)
  rw [← hv2] at t2
  obtain ⟨u, hu⟩ : ∃ u, u = Pl.half z := ⟨_, rfl⟩
  have q5 : bits .xor .u32 ((z : Int) / 16) (v2 : Int) = (u : Int) := by
   rw [show (z : Int) / 16 = ((z / 16 : Nat) : Int) from by omega, Arr.x32 (by omega) hv2', hu, Pl.half, hv2, hi2]
  have hu0 : u < 4294967296 := by rw [hu, Pl.half_eq]; exact Pl.stpN_lt 4 hz0
  have hfin : Aside0 (u = Pl.raw (Pl.inv a) ((Pl.nats l1).take (k + 1))) := ⟨by rw [htk, Pl.raw_snoc, ← hst.out, hu, hz, hy, Pl.half_half]⟩
  clear hy hi1 hv1 hz hi2 hv2 hu htk hxr hst e0
  go_wp2
  go_roundw
  case rel => exact ⟨u, k + 1, by omega, by go_num, rfl, hu0, hfin, hT, hBel⟩
  case measure => simp [intOf]; omega
theorem crc_More.tells (s : Nat) (l : List Int) (hs : s < 4294967296) (h : Pl.byteB l = true) : crc_More.f (s : Int) l = some ((Pl.more s (Pl.nats l) : Nat) : Int) := by
 unfold crc_More.f
 rw [if_pos ⟨by omega, by omega, h⟩, Int.toNat_natCast]
def crc_Sum_p.f (l0 : List Int) : Option (Int) := (crc_More.f 0 l0).bind fun t127 => (some t127)
set_option maxHeartbeats 8000000 in
set_option maxRecDepth 100000 in
theorem crc_Sum_p.calls (A0 : Option Addr) (c0 : Nat) (l0 : List Int) (r : Int) (w : World) (hr0 : Kd.C (Kd.int .u8) w A0 l0.length l0) (hc0 : l0.length ≤ c0) (h : crc_Sum_p.f l0 = some r) :
  Calls Try.prog 35 #[.slice A0 l0.length c0] w fun e w' => e = .returned (.int .u32 r) ∧ Below w.heap.size w w' := by
 have HR0 := Aside0.mk hr0
 have HC0 := Aside0.mk hc0
 clear hr0 hc0
 have HB := Aside0.mk (Below.refl w.heap.size w)
 have H : ((crc_More.f 0 l0).bind fun t127 => (some t127)) = some r := h
 clear h
 replace H := Option.bind_eq_some_iff.mp H
 obtain ⟨t127, A1, H⟩ := H
 (try dsimp only at H)
 have A2 := Aside0.mk A1
 clear A1
 obtain rfl := Option.some.inj H
 go_enter Try.func35, Try.ntmps35
 go_wp2_with (first | ((with_reducible refine gate_callee (f := 64) rfl ?_); refine Cz.gL (N := (some 4)) Try.func64 #[.int .u32 0, .slice A0 l0.length c0] ?_; (with_reducible refine (crc_More.calls 0 _ _ l0 t127 _ ?side0 ?side1 A2.out).mono ?_); (case side0 => repeat (first | exact HR0.out | (with_reducible refine Kd.C_alloc ?_ _) | (with_reducible refine Kd.C_drewN ?_ _) | (with_reducible refine Kd.C_drew ?_))); (case side1 => exact HC0.out); rintro e w3 ⟨rfl, hb⟩; refine ⟨_, rfl, ?_⟩; replace HB := Cz.bs (w := w) hb; (try clear hb)))
 go_ret
 exact ⟨Cz.er, Cz.bl (w := w)⟩
def crc_Sum.f (l0 : List Int) : Option Int := crc_More.f 0 l0
theorem crc_Sum.calls (A0 : Option Addr) (c0 : Nat) (l0 : List Int) (r : Int) (w : World) (hr0 : Kd.C (Kd.int .u8) w A0 l0.length l0) (hc0 : l0.length ≤ c0) (h : crc_Sum.f l0 = some r) :
  Calls Try.prog 35 #[.slice A0 l0.length c0] w fun e w' => e = .returned (.int .u32 r) ∧ Below w.heap.size w w' := by
 refine crc_Sum_p.calls A0 c0 l0 r w hr0 hc0 ?_
 unfold crc_Sum.f at h
 unfold crc_Sum_p.f
 rw [h, Option.bind_some]
theorem crc_Sum.tells (l : List Int) (h : Pl.byteB l = true) : crc_Sum.f l = some ((Pl.sum (Pl.nats l) : Nat) : Int) := by
 unfold crc_Sum.f
 rw [show (0 : Int) = ((0 : Nat) : Int) from rfl, crc_More.tells 0 l (by decide) h]
 rfl
def crc_Seal_p.f (l0 : List Int) : Option (List Int) := (crc_Sum.f l0).bind fun t128 => ((le_Put.f l0 (IntKind.u64.wrap (t128)) 4).bind fun bt129 => (some bt129.1))
set_option maxHeartbeats 8000000 in
set_option maxRecDepth 100000 in
theorem crc_Seal_p.calls (A0 : Option Addr) (c0 : Nat) (l0 : List Int) (r : List Int) (w : World) (hr0 : Kd.C (Kd.int .u8) w A0 l0.length l0) (hc0 : l0.length ≤ c0) (h : crc_Seal_p.f l0 = some r) :
  Calls Try.prog 40 #[.slice A0 l0.length c0] w fun e w' => ∃ v0_ : Value, e = .returned (v0_) ∧ Kd.R (Kd.int .u8) 5 w' w.heap.size (fun _ => True) v0_ r ∧ Below w.heap.size w w' := by
 have HR0 := Aside0.mk hr0
 have HC0 := Aside0.mk hc0
 clear hr0 hc0
 have HB := Aside0.mk (Below.refl w.heap.size w)
 have H : ((crc_Sum.f l0).bind fun t0 => ((le_Put.f l0 (IntKind.u64.wrap (t0)) 4).bind fun bt0 => (some bt0.1))) = some r := h
 clear h
 replace H := Option.bind_eq_some_iff.mp H
 obtain ⟨t0, A1, H⟩ := H
 (try dsimp only at H)
 have A2 := Aside0.mk A1
 clear A1
 replace H := Option.bind_eq_some_iff.mp H
 obtain ⟨⟨t1, t130⟩, A4, H⟩ := H
 (try dsimp only at H)
 have A3 := Aside0.mk A4
 clear A4
 obtain rfl := Option.some.inj H
 go_enter Try.func40, Try.ntmps40
 go_wp2_with (first | ((with_reducible refine gate_callee (f := 35) rfl ?_); refine Cz.gL (N := (some 8)) Try.func35 #[.slice A0 l0.length c0] ?_; (with_reducible refine (crc_Sum.calls _ _ l0 t0 _ ?side0 ?side1 A2.out).mono ?_); (case side0 => repeat (first | exact HR0.out | (with_reducible refine Kd.C_alloc ?_ _) | (with_reducible refine Kd.C_drewN ?_ _) | (with_reducible refine Kd.C_drew ?_))); (case side1 => exact HC0.out); rintro e w4 ⟨rfl, hb⟩; refine ⟨_, rfl, ?_⟩; replace HB := Cz.bs (w := w) hb; (try clear hb)) | ((with_reducible refine gate_callee (f := 66) rfl ?_); refine Cz.gL (N := (some 10)) Try.func66 #[.slice A0 l0.length c0, .int .u64 (IntKind.u64.wrap (t0)), .int .i64 4] ?_; (with_reducible refine (le_Put.calls _ _ l0 (IntKind.u64.wrap (t0)) 4 t1 t130 _ ?side0 ?side1 A3.out).mono ?_); (case side0 => exact Cz.cb HR0); (case side1 => exact HC0.out); rintro e w5 ⟨v131, rfl, ho0, hb⟩; refine ⟨_, rfl, ?_⟩; have HO0 := Aside0.mk (Kd.R_lower ho0 (below_size (Cz.bl (w := w)))); replace HB := Cz.bs (w := w) hb; (try clear hb); (try clear ho0)))
 go_ret
 exact ⟨_, Cz.er, Cz.rh, Cz.bl (w := w)⟩
def crc_Seal.f (l0 : List Int) : Option (List Int) := if Pl.byteB l0 = true ∧ l0.length < 70368744177664 then some (Pl.seal4 l0) else none
theorem crc_Seal.calls (A0 : Option Addr) (c0 : Nat) (l0 : List Int) (r : List Int) (w : World) (hr0 : Kd.C (Kd.int .u8) w A0 l0.length l0) (hc0 : l0.length ≤ c0) (h : crc_Seal.f l0 = some r) :
  Calls Try.prog 40 #[.slice A0 l0.length c0] w fun e w' => ∃ v0_ : Value, e = .returned (v0_) ∧ Kd.R (Kd.int .u8) 5 w' w.heap.size (fun _ => True) v0_ r ∧ Below w.heap.size w w' := by
 refine crc_Seal_p.calls A0 c0 l0 r w hr0 hc0 ?_
 unfold crc_Seal.f at h
 split at h
 case isFalse => cases h
 rename_i hh
 obtain rfl := Option.some.inj h
 have hlt := Pl.sum_lt (Pl.byteB_bytes hh.1)
 unfold crc_Seal_p.f crc_Sum.f crc_More.f
 rw [if_pos ⟨by decide, by decide, hh.1⟩, Option.bind_some]
 have e1 : ((Pl.more (0 : Int).toNat (Pl.nats l0) : Nat) : Int) = ((Pl.sum (Pl.nats l0) : Nat) : Int) := rfl
 rw [e1, IntKind.wrap_u64, show ((Pl.sum (Pl.nats l0) : Nat) : Int) % 18446744073709551616 = ((Pl.sum (Pl.nats l0) : Nat) : Int) from by omega]
 unfold le_Put.f
 rw [if_pos ⟨by omega, by omega, hh.2⟩, Option.bind_some]
 unfold Pl.putS
 rw [if_pos (by rw [Pl.fits_4]; exact decide_eq_true (by omega)), Int.toNat_natCast]
 rfl
def frame_within.f (a0 : Int) (a1 : Int) (a2 : Int) : Option (Bool) := if a0 ≥ a1 then (some (decide (a0 ≤ a2))) else (some false)
set_option maxHeartbeats 8000000 in
set_option maxRecDepth 100000 in
theorem frame_within.calls (a0 : Int) (a1 : Int) (a2 : Int) (r : Bool) (w : World) (h : frame_within.f a0 a1 a2 = some r) :
  Calls Try.prog 111 #[.int .i64 a0, .int .i64 a1, .int .i64 a2] w fun e w' => e = .returned (.bool r) ∧ Drawn0 w w' := by
 have H : (if a0 ≥ a1 then (some (decide (a0 ≤ a2))) else (some false)) = some r := h
 clear h
 by_cases c4 : a0 ≥ a1
 focus
  rw [if_pos c4] at H
  have c4b0 : decide (a1 ≤ a0) = true := decide_eq_true c4
 rotate_left
 focus
  rw [if_neg c4] at H
  have c4b0 : decide (a1 ≤ a0) = false := decide_eq_false c4
 rotate_left
 all_goals
  clear c4
  obtain rfl := Option.some.inj H
  go_enter Try.func111, Try.ntmps111
  go_wp2
  go_ret
  exact ⟨by first | rfl | (simp; done) | (simp [*]; done), by repeat (first | exact Drawn0.refl _ | apply Drawn0.step)⟩
def frame_head_may.f (a0_0 : Int) (a0_1 : Int) (a0_2 : Int) : Option (Bool) := (frame_within.f a0_0 1 64).bind fun t153 => (if t153 = true then ((frame_within.f a0_1 0 2147483647).bind fun t154 => (if t154 = true then ((frame_within.f a0_2 (wrap64 (a0_1 + 1)) 2147483647).bind fun t155 => (some t155)) else (some false))) else (some false))
set_option maxHeartbeats 8000000 in
set_option maxRecDepth 100000 in
theorem frame_head_may.calls (a0_0 : Int) (a0_1 : Int) (a0_2 : Int) (r : Bool) (w : World) (h : frame_head_may.f a0_0 a0_1 a0_2 = some r) :
  Calls Try.prog 109 #[.agg #[.int .i64 a0_0, .int .i64 a0_1, .int .i64 a0_2]] w fun e w' => e = .returned (.bool r) ∧ Below w.heap.size w w' := by
 have hu0 := Try.underlying93
 have HB := Aside0.mk (Below.refl w.heap.size w)
 have H : ((frame_within.f a0_0 1 64).bind fun t0 => (if t0 = true then ((frame_within.f a0_1 0 2147483647).bind fun t154 => (if t154 = true then ((frame_within.f a0_2 (wrap64 (a0_1 + 1)) 2147483647).bind fun t1 => (some t1)) else (some false))) else (some false))) = some r := h
 clear h
 replace H := Option.bind_eq_some_iff.mp H
 obtain ⟨t0, A0, H⟩ := H
 (try dsimp only at H)
 have A2 := Aside0.mk A0
 clear A0
 by_cases c3 : t0 = true
 focus
  subst c3
  rw [if_pos rfl] at H
  replace H := Option.bind_eq_some_iff.mp H
  obtain ⟨t154, A1, H⟩ := H
  (try dsimp only at H)
  have A4 := Aside0.mk A1
  clear A1
  by_cases c5 : t154 = true
 rotate_left 3
 focus
  subst c5
  rw [if_pos rfl] at H
  replace H := Option.bind_eq_some_iff.mp H
  obtain ⟨t1, A3, H⟩ := H
  (try dsimp only at H)
  have A6 := Aside0.mk A3
  clear A3
 rotate_left
 focus
  replace c5 := Bool.eq_false_iff.mpr c5
  subst c5
  rw [if_neg (show ¬ (false = true) by decide)] at H
 rotate_left
 focus
  replace c3 := Bool.eq_false_iff.mpr c3
  subst c3
  rw [if_neg (show ¬ (false = true) by decide)] at H
 rotate_left
 all_goals
  obtain rfl := Option.some.inj H
  go_enter Try.func109, Try.ntmps109
 focus go_wp2_with (first | ((with_reducible refine gate_dst (N := 1) rfl ?_); refine Cz.bx (N := 1) #[.int .i64 a0_0, .int .i64 a0_1, .int .i64 a0_2] 93 ?_; intro gb0 hg w7 hbox hb; have BK0 := Aside0.mk (hbox); have GW0 := Aside0.mk ((Cz.gs hg : w.heap.size ≤ gb0)); have GE0 := GW0; replace HB := Cz.bs (w := w) hb; clear hb hbox hg; obtain ⟨z0_0, z0_1, z0_2, y0_0, y0_1, y0_2⟩ := Cz.d3 BK0) | ((with_reducible refine gate_callee (f := 111) rfl ?_); refine Cz.gL (N := (some 5)) Try.func111 #[.int .i64 a0_0, .int .i64 1, .int .i64 64] ?_; (with_reducible refine (frame_within.calls a0_0 1 64 true _ A2.out).mono ?_); rintro e w' ⟨rfl, ⟨nd, rfl⟩⟩; refine ⟨_, rfl, ?_⟩) | (go_at_call 111; (with_reducible refine (frame_within.calls a0_1 0 2147483647 true _ A4.out).mono ?_); rintro e w' ⟨rfl, ⟨nd, rfl⟩⟩) | (go_at_call 111; (with_reducible refine (frame_within.calls a0_2 (wrap64 (a0_1 + 1)) 2147483647 t1 _ A6.out).mono ?_); rintro e w' ⟨rfl, ⟨nd, rfl⟩⟩))
 rotate_left
 focus go_wp2_with (first | ((with_reducible refine gate_dst (N := 1) rfl ?_); refine Cz.bx (N := 1) #[.int .i64 a0_0, .int .i64 a0_1, .int .i64 a0_2] 93 ?_; intro gb0 hg w0 hbox hb; have BK0 := Aside0.mk (hbox); have GW0 := Aside0.mk ((Cz.gs hg : w.heap.size ≤ gb0)); have GE0 := GW0; replace HB := Cz.bs (w := w) hb; clear hb hbox hg; obtain ⟨z0_0, z0_1, z0_2, y0_0, y0_1, y0_2⟩ := Cz.d3 BK0) | ((with_reducible refine gate_callee (f := 111) rfl ?_); refine Cz.gL (N := (some 5)) Try.func111 #[.int .i64 a0_0, .int .i64 1, .int .i64 64] ?_; (with_reducible refine (frame_within.calls a0_0 1 64 true _ A2.out).mono ?_); rintro e w' ⟨rfl, ⟨nd, rfl⟩⟩; refine ⟨_, rfl, ?_⟩) | (go_at_call 111; (with_reducible refine (frame_within.calls a0_1 0 2147483647 false _ A4.out).mono ?_); rintro e w' ⟨rfl, ⟨nd, rfl⟩⟩))
 rotate_left
 focus go_wp2_with (first | ((with_reducible refine gate_dst (N := 1) rfl ?_); refine Cz.bx (N := 1) #[.int .i64 a0_0, .int .i64 a0_1, .int .i64 a0_2] 93 ?_; intro gb0 hg w0 hbox hb; have BK0 := Aside0.mk (hbox); have GW0 := Aside0.mk ((Cz.gs hg : w.heap.size ≤ gb0)); have GE0 := GW0; replace HB := Cz.bs (w := w) hb; clear hb hbox hg; obtain ⟨z0_0, z0_1, z0_2, y0_0, y0_1, y0_2⟩ := Cz.d3 BK0) | ((with_reducible refine gate_callee (f := 111) rfl ?_); refine Cz.gL (N := (some 5)) Try.func111 #[.int .i64 a0_0, .int .i64 1, .int .i64 64] ?_; (with_reducible refine (frame_within.calls a0_0 1 64 false _ A2.out).mono ?_); rintro e w' ⟨rfl, ⟨nd, rfl⟩⟩; refine ⟨_, rfl, ?_⟩))
 rotate_left
 all_goals
  go_ret
  exact ⟨Cz.er, Cz.bl (w := w)⟩
end Go.Proofs.Ytohkmmbmfhficaa.PT
