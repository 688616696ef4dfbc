/- Words and walks that this claim names, of those that the kit's print and programs of this workplace have printed. -/
import Derived.Test.YtohkmmbmfhficaaZTCz
import Derived.Test.YtohkmmbmfhficaaZTPTx5
namespace Go.Proofs.Ytohkmmbmfhficaa.PT
open Go.Proofs.Ytohkmmbmfhficaa Go.RowKit Go.Proofs.YtohkmmbmfhficaaW.PrintWords Go.Proofs.YtohkmmbmfhficaaW.PrintLast Go.Proofs.YtohkmmbmfhficaaW.PrintMore
attribute [local go_sem] max2_int min2_int max_two min_two max_three min_three max_four min_four
set_option linter.unusedVariables false
set_option linter.unusedSimpArgs false
def extent_Joins_p.f (a0_0 : Int) (a0_1 : Int) (a0_2 : Int) (a0_3 : Int) (l0_4 : List Int) (a1_0 : Int) (a1_1 : Int) (a1_2 : Int) (a1_3 : Int) (l1_4 : List Int) : Option (Bool) := (extent_Check.f a0_0 a0_1 a0_2 a0_3 l0_4).bind fun t203 => (if t203 = true then ((extent_Check.f a1_0 a1_1 a1_2 a1_3 l1_4).bind fun t204 => (if t204 = true then (if (wrap64 (a0_0 + a0_1)) = a1_0 then (if a0_2 = a1_2 then (some (a0_3 == a1_3)) else (some false)) else (some false)) else (some false))) else (some false))
set_option maxHeartbeats 8000000 in
set_option maxRecDepth 100000 in
theorem extent_Joins_p.calls (a0_0 : Int) (a0_1 : Int) (a0_2 : Int) (a0_3 : Int) (A0_4 : Option Addr) (c0_4 : Nat) (l0_4 : List Int) (a1_0 : Int) (a1_1 : Int) (a1_2 : Int) (a1_3 : Int) (A1_4 : Option Addr) (c1_4 : Nat) (l1_4 : List Int) (r : Bool) (w : World) (hr0_4 : Kd.C (Kd.int .u8) w A0_4 l0_4.length l0_4) (hc0_4 : l0_4.length ≤ c0_4) (hr1_4 : Kd.C (Kd.int .u8) w A1_4 l1_4.length l1_4) (hc1_4 : l1_4.length ≤ c1_4) (h : extent_Joins_p.f a0_0 a0_1 a0_2 a0_3 l0_4 a1_0 a1_1 a1_2 a1_3 l1_4 = some r) :
  Calls Try.prog 56 #[.agg #[.int .i64 a0_0, .int .i64 a0_1, .int .i64 a0_2, .int .i64 a0_3, .slice A0_4 l0_4.length c0_4], .agg #[.int .i64 a1_0, .int .i64 a1_1, .int .i64 a1_2, .int .i64 a1_3, .slice A1_4 l1_4.length c1_4]] w fun e w' => e = .returned (.bool r) ∧ Below w.heap.size w w' := by
 have hu0 := Try.underlying36
 have HR0_4 := Aside0.mk hr0_4
 have HC0_4 := Aside0.mk hc0_4
 clear hr0_4 hc0_4
 have HR1_4 := Aside0.mk hr1_4
 have HC1_4 := Aside0.mk hc1_4
 clear hr1_4 hc1_4
 have HB := Aside0.mk (Below.refl w.heap.size w)
 have H : ((extent_Check.f a0_0 a0_1 a0_2 a0_3 l0_4).bind fun t203 => (if t203 = true then ((extent_Check.f a1_0 a1_1 a1_2 a1_3 l1_4).bind fun t0 => (if t0 = true then (if (wrap64 (a0_0 + a0_1)) = a1_0 then (if a0_2 = a1_2 then (some (a0_3 == a1_3)) else (some false)) else (some false)) else (some false))) else (some false))) = some r := h
 clear h
 replace H := Option.bind_eq_some_iff.mp H
 obtain ⟨t203, A2, H⟩ := H
 (try dsimp only at H)
 have A3 := Aside0.mk A2
 clear A2
 by_cases c4 : t203 = true
 focus
  subst c4
  rw [if_pos rfl] at H
  replace H := Option.bind_eq_some_iff.mp H
  obtain ⟨t0, A4, H⟩ := H
  (try dsimp only at H)
  have A5 := Aside0.mk A4
  clear A4
  by_cases c6 : t0 = true
  focus
   subst c6
   rw [if_pos rfl] at H
   by_cases c7 : (wrap64 (a0_0 + a0_1)) = a1_0
   focus
    rw [if_pos c7] at H
    have c7b0 : ((wrap64 (a0_0 + a0_1)) == a1_0) = true := beq_iff_eq.mpr c7
    have c7b1 : ((wrap64 (a0_0 + a0_1)) != a1_0) = false := bne_eq_false_iff_eq.mpr c7
    clear c7
    by_cases c8 : a0_2 = a1_2
   rotate_left 3
  rotate_left 4
 rotate_left 5
 focus
  rw [if_pos c8] at H
  have c8b0 : (a0_2 == a1_2) = true := beq_iff_eq.mpr c8
  have c8b1 : (a0_2 != a1_2) = false := bne_eq_false_iff_eq.mpr c8
  clear c8
 rotate_left
 focus
  rw [if_neg c8] at H
  have c8b0 : (a0_2 == a1_2) = false := beq_eq_false_iff_ne.mpr c8
  have c8b1 : (a0_2 != a1_2) = true := bne_iff_ne.mpr c8
 rotate_left
 focus
  rw [if_neg c7] at H
  have c7b0 : ((wrap64 (a0_0 + a0_1)) == a1_0) = false := beq_eq_false_iff_ne.mpr c7
  have c7b1 : ((wrap64 (a0_0 + a0_1)) != a1_0) = true := bne_iff_ne.mpr c7
 rotate_left
 focus
  replace c6 := Bool.eq_false_iff.mpr c6
  subst c6
  rw [if_neg (show ¬ (false = true) by decide)] at H
 rotate_left
 focus
  replace c4 := Bool.eq_false_iff.mpr c4
  subst c4
  rw [if_neg (show ¬ (false = true) by decide)] at H
 rotate_left
 all_goals
  obtain rfl := Option.some.inj H
  go_enter Try.func56, Try.ntmps56
 iterate 3
  focus go_wp2_with (first | ((with_reducible refine gate_dst (N := 2) rfl ?_); refine Cz.bx (N := 2) #[.int .i64 a0_0, .int .i64 a0_1, .int .i64 a0_2, .int .i64 a0_3, .slice A0_4 l0_4.length c0_4] 36 ?_; intro gb0 hg w0 hbox hb; have BK0 := Aside0.mk (hbox); have GW0 := Aside0.mk ((Cz.gs hg : w.heap.size ≤ gb0)); have GE0 := GW0; replace HB := Cz.bs (w := w) hb; clear hb hbox hg) | ((with_reducible refine gate_dst (N := 3) rfl ?_); refine Cz.bx (N := 3) #[.int .i64 a1_0, .int .i64 a1_1, .int .i64 a1_2, .int .i64 a1_3, .slice A1_4 l1_4.length c1_4] 36 ?_; intro gb1 hg w1 hbox hb; have BK1 := Aside0.mk (hbox); have GW1 := Aside0.mk ((Cz.gs hg : w.heap.size ≤ gb1)); have GE1 := GW1; have NB0_202 := Aside0.mk ((Cz.nl BK0 hg : gb0 ≠ gb1)); have NB1_201 := Aside0.mk ((Cz.nr BK0 hg : gb1 ≠ gb0)); replace BK0 := Cz.bk BK0 hb; replace HB := Cz.bs (w := w) hb; clear hb hbox hg; have hnb0 := NB0_202.out; have hnc0 := NB1_201.out; obtain ⟨z0_0, z0_1, z0_2, z0_3, z0_4, y0_0, y0_1, y0_2, y0_3, y0_4⟩ := Cz.d5 BK0) | ((with_reducible refine gate_callee (f := 55) rfl ?_); refine Cz.gL (N := (some 6)) Try.func55 #[.agg #[.int .i64 a0_0, .int .i64 a0_1, .int .i64 a0_2, .int .i64 a0_3, .slice A0_4 l0_4.length c0_4]] ?_; (with_reducible refine (extent_Check.calls a0_0 a0_1 a0_2 a0_3 _ _ l0_4 true _ ?side0 ?side1 A3.out).mono ?_); (case side0 => exact Cz.cb HR0_4); (case side1 => exact HC0_4.out); rintro e w2 ⟨rfl, hb⟩; refine ⟨_, rfl, ?_⟩; replace BK0 := Cz.bk BK0 hb; replace BK1 := Cz.bk BK1 hb; replace HB := Cz.bs (w := w) hb; (try clear hb); obtain ⟨z1_0, z1_1, z1_2, z1_3, z1_4, y1_0, y1_1, y1_2, y1_3, y1_4⟩ := Cz.d5 BK1) | (go_at_call 55; (with_reducible refine (extent_Check.calls a1_0 a1_1 a1_2 a1_3 _ _ l1_4 true _ ?side0 ?side1 A5.out).mono ?_); (case side0 => exact Cz.cb HR1_4); (case side1 => exact HC1_4.out); rintro e w3 ⟨rfl, hb⟩; replace BK0 := Cz.bk BK0 hb; replace BK1 := Cz.bk BK1 hb; replace HB := Cz.bs (w := w) hb; (try clear hb); obtain ⟨z2_0, z2_1, z2_2, z2_3, z2_4, y2_0, y2_1, y2_2, y2_3, y2_4⟩ := Cz.d5 BK0; obtain ⟨z3_0, z3_1, z3_2, z3_3, z3_4, y3_0, y3_1, y3_2, y3_3, y3_4⟩ := Cz.d5 BK1))
  rotate_left
 focus go_wp2_with (first | ((with_reducible refine gate_dst (N := 2) rfl ?_); refine Cz.bx (N := 2) #[.int .i64 a0_0, .int .i64 a0_1, .int .i64 a0_2, .int .i64 a0_3, .slice A0_4 l0_4.length c0_4] 36 ?_; intro gb0 hg w0 hbox hb; have BK0 := Aside0.mk (hbox); have GW0 := Aside0.mk ((Cz.gs hg : w.heap.size ≤ gb0)); have GE0 := GW0; replace HB := Cz.bs (w := w) hb; clear hb hbox hg) | ((with_reducible refine gate_dst (N := 3) rfl ?_); refine Cz.bx (N := 3) #[.int .i64 a1_0, .int .i64 a1_1, .int .i64 a1_2, .int .i64 a1_3, .slice A1_4 l1_4.length c1_4] 36 ?_; intro gb1 hg w1 hbox hb; have BK1 := Aside0.mk (hbox); have GW1 := Aside0.mk ((Cz.gs hg : w.heap.size ≤ gb1)); have GE1 := GW1; have NB0_202 := Aside0.mk ((Cz.nl BK0 hg : gb0 ≠ gb1)); have NB1_201 := Aside0.mk ((Cz.nr BK0 hg : gb1 ≠ gb0)); replace BK0 := Cz.bk BK0 hb; replace HB := Cz.bs (w := w) hb; clear hb hbox hg; have hnb0 := NB0_202.out; have hnc0 := NB1_201.out; obtain ⟨z0_0, z0_1, z0_2, z0_3, z0_4, y0_0, y0_1, y0_2, y0_3, y0_4⟩ := Cz.d5 BK0) | ((with_reducible refine gate_callee (f := 55) rfl ?_); refine Cz.gL (N := (some 6)) Try.func55 #[.agg #[.int .i64 a0_0, .int .i64 a0_1, .int .i64 a0_2, .int .i64 a0_3, .slice A0_4 l0_4.length c0_4]] ?_; (with_reducible refine (extent_Check.calls a0_0 a0_1 a0_2 a0_3 _ _ l0_4 true _ ?side0 ?side1 A3.out).mono ?_); (case side0 => exact Cz.cb HR0_4); (case side1 => exact HC0_4.out); rintro e w2 ⟨rfl, hb⟩; refine ⟨_, rfl, ?_⟩; replace BK0 := Cz.bk BK0 hb; replace BK1 := Cz.bk BK1 hb; replace HB := Cz.bs (w := w) hb; (try clear hb); obtain ⟨z1_0, z1_1, z1_2, z1_3, z1_4, y1_0, y1_1, y1_2, y1_3, y1_4⟩ := Cz.d5 BK1) | (go_at_call 55; (with_reducible refine (extent_Check.calls a1_0 a1_1 a1_2 a1_3 _ _ l1_4 false _ ?side0 ?side1 A5.out).mono ?_); (case side0 => exact Cz.cb HR1_4); (case side1 => exact HC1_4.out); rintro e w3 ⟨rfl, hb⟩; replace BK0 := Cz.bk BK0 hb; replace BK1 := Cz.bk BK1 hb; replace HB := Cz.bs (w := w) hb; (try clear hb)))
 rotate_left
 focus go_wp2_with (first | ((with_reducible refine gate_dst (N := 2) rfl ?_); refine Cz.bx (N := 2) #[.int .i64 a0_0, .int .i64 a0_1, .int .i64 a0_2, .int .i64 a0_3, .slice A0_4 l0_4.length c0_4] 36 ?_; intro gb0 hg w0 hbox hb; have BK0 := Aside0.mk (hbox); have GW0 := Aside0.mk ((Cz.gs hg : w.heap.size ≤ gb0)); have GE0 := GW0; replace HB := Cz.bs (w := w) hb; clear hb hbox hg) | ((with_reducible refine gate_dst (N := 3) rfl ?_); refine Cz.bx (N := 3) #[.int .i64 a1_0, .int .i64 a1_1, .int .i64 a1_2, .int .i64 a1_3, .slice A1_4 l1_4.length c1_4] 36 ?_; intro gb1 hg w1 hbox hb; have BK1 := Aside0.mk (hbox); have GW1 := Aside0.mk ((Cz.gs hg : w.heap.size ≤ gb1)); have GE1 := GW1; have NB0_202 := Aside0.mk ((Cz.nl BK0 hg : gb0 ≠ gb1)); have NB1_201 := Aside0.mk ((Cz.nr BK0 hg : gb1 ≠ gb0)); replace BK0 := Cz.bk BK0 hb; replace HB := Cz.bs (w := w) hb; clear hb hbox hg; have hnb0 := NB0_202.out; have hnc0 := NB1_201.out; obtain ⟨z0_0, z0_1, z0_2, z0_3, z0_4, y0_0, y0_1, y0_2, y0_3, y0_4⟩ := Cz.d5 BK0) | ((with_reducible refine gate_callee (f := 55) rfl ?_); refine Cz.gL (N := (some 6)) Try.func55 #[.agg #[.int .i64 a0_0, .int .i64 a0_1, .int .i64 a0_2, .int .i64 a0_3, .slice A0_4 l0_4.length c0_4]] ?_; (with_reducible refine (extent_Check.calls a0_0 a0_1 a0_2 a0_3 _ _ l0_4 false _ ?side0 ?side1 A3.out).mono ?_); (case side0 => exact Cz.cb HR0_4); (case side1 => exact HC0_4.out); rintro e w2 ⟨rfl, hb⟩; refine ⟨_, rfl, ?_⟩; replace BK0 := Cz.bk BK0 hb; replace BK1 := Cz.bk BK1 hb; replace HB := Cz.bs (w := w) hb; (try clear hb)))
 rotate_left
 all_goals
  go_ret
  exact ⟨Cz.er, Cz.bl (w := w)⟩
def extent_Joins.f (a0_0 a0_1 a0_2 a0_3 : Int) (l0_4 : List Int) (a1_0 a1_1 a1_2 a1_3 : Int) (l1_4 : List Int) : Option Bool := some (Pl.joinsB a0_0 a0_1 a0_2 a0_3 l0_4 a1_0 a1_1 a1_2 a1_3 l1_4)
theorem extent_Joins.closes {a0_0 a0_1 a0_2 a0_3 : Int} {l0_4 : List Int} {a1_0 a1_1 a1_2 a1_3 : Int} {l1_4 : List Int} {r : Bool} (h : extent_Joins.f a0_0 a0_1 a0_2 a0_3 l0_4 a1_0 a1_1 a1_2 a1_3 l1_4 = some r) : extent_Joins_p.f a0_0 a0_1 a0_2 a0_3 l0_4 a1_0 a1_1 a1_2 a1_3 l1_4 = some r := by
 rw [← h]
 unfold extent_Joins_p.f extent_Joins.f extent_Check.f
 rw [Option.bind_some]
 by_cases h0 : Pl.extOk a0_0 a0_1 a0_2 a0_3 l0_4 = true
 ·have hw : wrap64 (a0_0 + a0_1) = a0_0 + a0_1 := by have := Pl.extOk_iff.1 h0; unfold wrap64; omega
  rw [if_pos h0, Option.bind_some, hw, Pl.joinsB, h0]
  by_cases h1 : Pl.extOk a1_0 a1_1 a1_2 a1_3 l1_4 = true
  ·rw [if_pos h1, h1]
   by_cases h2 : a0_0 + a0_1 = a1_0 <;> by_cases h3 : a0_2 = a1_2 <;> by_cases h4 : a0_3 = a1_3 <;> simp [h2, h3, h4]
  rw [if_neg h1, Bool.eq_false_iff.2 h1]; rfl
 rw [if_neg h0, Pl.joinsB, Bool.eq_false_iff.2 h0]; rfl
theorem extent_Joins.calls (a0_0 : Int) (a0_1 : Int) (a0_2 : Int) (a0_3 : Int) (A0_4 : Option Addr) (c0_4 : Nat) (l0_4 : List Int) (a1_0 : Int) (a1_1 : Int) (a1_2 : Int) (a1_3 : Int) (A1_4 : Option Addr) (c1_4 : Nat) (l1_4 : List Int) (r : Bool) (w : World) (hr0_4 : Kd.C (Kd.int .u8) w A0_4 l0_4.length l0_4) (hc0_4 : l0_4.length ≤ c0_4) (hr1_4 : Kd.C (Kd.int .u8) w A1_4 l1_4.length l1_4) (hc1_4 : l1_4.length ≤ c1_4) (h : extent_Joins.f a0_0 a0_1 a0_2 a0_3 l0_4 a1_0 a1_1 a1_2 a1_3 l1_4 = some r) :
  Calls Try.prog 56 #[.agg #[.int .i64 a0_0, .int .i64 a0_1, .int .i64 a0_2, .int .i64 a0_3, .slice A0_4 l0_4.length c0_4], .agg #[.int .i64 a1_0, .int .i64 a1_1, .int .i64 a1_2, .int .i64 a1_3, .slice A1_4 l1_4.length c1_4]] w fun e w' => e = .returned (.bool r) ∧ Below w.heap.size w w' :=
 extent_Joins_p.calls a0_0 a0_1 a0_2 a0_3 A0_4 c0_4 l0_4 a1_0 a1_1 a1_2 a1_3 A1_4 c1_4 l1_4 r w hr0_4 hc0_4 hr1_4 hc1_4 (extent_Joins.closes h)
end Go.Proofs.Ytohkmmbmfhficaa.PT
