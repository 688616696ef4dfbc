/- Words and walks that this claim names, of those that the kit's print and programs of this workplace have printed. -/
import Derived.Test.YtohkmmbmfhficaaZMCz
import Derived.Test.YtohkmmbmfhficaaZMPMx5
namespace Go.Proofs.Ytohkmmbmfhficaa.PM
open Go.Proofs.Ytohkmmbmfhficaa Go.RowKit Go.Proofs.YtohkmmbmfhficaaW.PrintWords Go.Proofs.YtohkmmbmfhficaaW.PrintLast Go.Proofs.YtohkmmbmfhficaaW.PrintMore
attribute [local go_sem] max2_int min2_int max_two min_two max_three min_three max_four min_four
set_option linter.unusedVariables false
set_option linter.unusedSimpArgs false
def extent_Cut_p.j0 : Nat → Int → Int → Bool → Int → Int → Int → Int → List Int → Option (Int × Int × Int × Int × List Int × Bool)
 | 0, _, _, _, _, _, _, _, _ => none
 | k + 1, x1, x2, x23, x109000, x109001, x109002, x109003, x109004 => if x23 = true then (some (0, 0, 0, 0, ([] : List Int), false)) else (if (mx x109000 x1) ≥ (mn (wrap64 (x109000 + x109001)) (wrap64 (x1 + x2))) then (some (0, 0, 0, 0, ([] : List Int), false)) else (if x109002 = 2 then (if 0 ≤ (wrap64 ((wrap64 ((mx x109000 x1) - x109000)) * 32)) then (if (wrap64 ((wrap64 ((mx x109000 x1) - x109000)) * 32)) ≤ (wrap64 ((wrap64 ((mn (wrap64 (x109000 + x109001)) (wrap64 (x1 + x2))) - x109000)) * 32)) then (if (wrap64 ((wrap64 ((mn (wrap64 (x109000 + x109001)) (wrap64 (x1 + x2))) - x109000)) * 32)) ≤ (x109004.length : Int) then ((bytes_Clone.f ((x109004.take ((wrap64 ((wrap64 ((mn (wrap64 (x109000 + x109001)) (wrap64 (x1 + x2))) - x109000)) * 32)) : Int).toNat).drop ((wrap64 ((wrap64 ((mx x109000 x1) - x109000)) * 32)) : Int).toNat)).bind fun t114 => (some (mx x109000 x1, wrap64 ((mn (wrap64 (x109000 + x109001)) (wrap64 (x1 + x2))) - (mx x109000 x1)), x109002, x109003, t114, true))) else (none)) else (none)) else (none)) else (some (mx x109000 x1, wrap64 ((mn (wrap64 (x109000 + x109001)) (wrap64 (x1 + x2))) - (mx x109000 x1)), x109002, x109003, ([] : List Int), true))))
def extent_Cut_p.f (k : Nat) (a0_0 : Int) (a0_1 : Int) (a0_2 : Int) (a0_3 : Int) (l0_4 : List Int) (a1 : Int) (a2 : Int) : Option (Int × Int × Int × Int × List Int × Bool) := (extent_Check.f a0_0 a0_1 a0_2 a0_3 l0_4).bind fun t110 => (if t110 = true then ((extent_within.f a1 0 64).bind fun t111 => (if t111 = true then ((extent_within.f a2 0 64).bind fun t112 => (extent_Cut_p.j0 k a1 a2 (!t112) a0_0 a0_1 a0_2 a0_3 l0_4)) else (extent_Cut_p.j0 k a1 a2 true a0_0 a0_1 a0_2 a0_3 l0_4))) else (extent_Cut_p.j0 k a1 a2 true a0_0 a0_1 a0_2 a0_3 l0_4))
set_option maxHeartbeats 8000000 in
set_option maxRecDepth 100000 in
theorem extent_Cut_p.calls (k : Nat) (a0_0 : Int) (a0_1 : Int) (a0_2 : Int) (a0_3 : Int) (A0_4 : Option Addr) (c0_4 : Nat) (l0_4 : List Int) (a1 : Int) (a2 : Int) (r1 : Int) (r2 : Int) (r3 : Int) (r4 : Int) (r5 : List Int) (r6 : Bool) (w : World) (hr0_4 : Kd.C (Kd.int .u8) w A0_4 l0_4.length l0_4) (hc0_4 : l0_4.length ≤ c0_4) (h : extent_Cut_p.f k a0_0 a0_1 a0_2 a0_3 l0_4 a1 a2 = some (r1, r2, r3, r4, r5, r6)) :
  Calls Try.prog 62 #[.agg #[.int .i64 a0_0, .int .i64 a0_1, .int .i64 a0_2, .int .i64 a0_3, .slice A0_4 l0_4.length c0_4], .int .i64 a1, .int .i64 a2] w fun e w' => ∃ v4_ : Value, e = .returned (.tuple #[.agg #[.int .i64 r1, .int .i64 r2, .int .i64 r3, .int .i64 r4, v4_], .bool r6]) ∧ Kd.R (Kd.int .u8) 5 w' w.heap.size (fun _ => True) v4_ r5 ∧ Below w.heap.size w w' := by
 have hu36 := Try.underlying36
 have HR0_4 := Aside0.mk hr0_4
 have HC0_4 := Aside0.mk hc0_4
 clear hr0_4 hc0_4
 have HB := Aside0.mk (Below.refl w.heap.size w)
 have H : ((extent_Check.f a0_0 a0_1 a0_2 a0_3 l0_4).bind fun t110 => (if t110 = true then ((extent_within.f a1 0 64).bind fun t111 => (if t111 = true then ((extent_within.f a2 0 64).bind fun t112 => (extent_Cut_p.j0 k a1 a2 (!t112) a0_0 a0_1 a0_2 a0_3 l0_4)) else (extent_Cut_p.j0 k a1 a2 true a0_0 a0_1 a0_2 a0_3 l0_4))) else (extent_Cut_p.j0 k a1 a2 true a0_0 a0_1 a0_2 a0_3 l0_4))) = some (r1, r2, r3, r4, r5, r6) := h
 clear h
 have HC4 := Aside0.mk H
 clear H
 go_enter Try.func62, Try.ntmps62
 go_upto_region 1 with (first | ((with_reducible refine gate_dst (N := 3) rfl ?_); refine Cz.bx (N := 3) #[.int .i64 a0_0, .int .i64 a0_1, .int .i64 a0_2, .int .i64 a0_3, .slice A0_4 l0_4.length c0_4] 36 ?_; intro gb108 hg w5 hbox hb; have BK108 := Aside0.mk (hbox); have GW108 := Aside0.mk ((Cz.gs hg : w.heap.size ≤ gb108)); have GE108 := GW108; replace HB := Cz.bs (w := w) hb; clear hb hbox hg) | ((with_reducible refine gate_dst (N := 6) rfl ?_); refine Cz.bx (N := 6) #[.int .i64 0, .int .i64 0, .int .i64 0, .int .i64 0, .slice none 0 0] 36 ?_; intro gb109 hg w6 hbox hb; have BK109 := Aside0.mk (hbox); have GW109 := Aside0.mk ((Cz.gs hg : w.heap.size ≤ gb109)); have GE109 := GW109; have NB108_109 := Aside0.mk ((Cz.nl BK108 hg : gb108 ≠ gb109)); have NB109_108 := Aside0.mk ((Cz.nr BK108 hg : gb109 ≠ gb108)); replace BK108 := Cz.bk BK108 hb; replace HB := Cz.bs (w := w) hb; clear hb hbox hg))
 repeat (go_quiet (first | ((with_reducible refine gate_dst (N := 3) rfl ?_); refine Cz.bx (N := 3) #[.int .i64 a0_0, .int .i64 a0_1, .int .i64 a0_2, .int .i64 a0_3, .slice A0_4 l0_4.length c0_4] 36 ?_; intro gb108 hg w5 hbox hb; have BK108 := Aside0.mk (hbox); have GW108 := Aside0.mk ((Cz.gs hg : w.heap.size ≤ gb108)); have GE108 := GW108; replace HB := Cz.bs (w := w) hb; clear hb hbox hg) | ((with_reducible refine gate_dst (N := 6) rfl ?_); refine Cz.bx (N := 6) #[.int .i64 0, .int .i64 0, .int .i64 0, .int .i64 0, .slice none 0 0] 36 ?_; intro gb109 hg w6 hbox hb; have BK109 := Aside0.mk (hbox); have GW109 := Aside0.mk ((Cz.gs hg : w.heap.size ≤ gb109)); have GE109 := GW109; have NB108_109 := Aside0.mk ((Cz.nl BK108 hg : gb108 ≠ gb109)); have NB109_108 := Aside0.mk ((Cz.nr BK108 hg : gb109 ≠ gb108)); replace BK108 := Cz.bk BK108 hb; replace HB := Cz.bs (w := w) hb; clear hb hbox hg)); go_upto_region 1 with (first | ((with_reducible refine gate_dst (N := 3) rfl ?_); refine Cz.bx (N := 3) #[.int .i64 a0_0, .int .i64 a0_1, .int .i64 a0_2, .int .i64 a0_3, .slice A0_4 l0_4.length c0_4] 36 ?_; intro gb108 hg w5 hbox hb; have BK108 := Aside0.mk (hbox); have GW108 := Aside0.mk ((Cz.gs hg : w.heap.size ≤ gb108)); have GE108 := GW108; replace HB := Cz.bs (w := w) hb; clear hb hbox hg) | ((with_reducible refine gate_dst (N := 6) rfl ?_); refine Cz.bx (N := 6) #[.int .i64 0, .int .i64 0, .int .i64 0, .int .i64 0, .slice none 0 0] 36 ?_; intro gb109 hg w6 hbox hb; have BK109 := Aside0.mk (hbox); have GW109 := Aside0.mk ((Cz.gs hg : w.heap.size ≤ gb109)); have GE109 := GW109; have NB108_109 := Aside0.mk ((Cz.nl BK108 hg : gb108 ≠ gb109)); have NB109_108 := Aside0.mk ((Cz.nr BK108 hg : gb109 ≠ gb108)); replace BK108 := Cz.bk BK108 hb; replace HB := Cz.bs (w := w) hb; clear hb hbox hg)))
 (try simp only [Act.put, Kx.sb, Kx.sz, Kx.ss])
 go_cut [23] (fun v23 wc => ∃ (kq : Nat) (x23_3 : Bool), v23 = .bool x23_3 ∧ Aside0 (extent_Cut_p.j0 kq a1 a2 x23_3 a0_0 a0_1 a0_2 a0_3 l0_4 = some (r1, r2, r3, r4, r5, r6)) ∧ Aside0 (kq ≤ k) ∧ Aside0 (wc.heap[gb108]? = some (.cells #[.int .i64 a0_0, .int .i64 a0_1, .int .i64 a0_2, .int .i64 a0_3, (.slice A0_4 l0_4.length c0_4)] 36 (0, 0))) ∧ Aside0 (wc.heap[gb109]? = some (.cells #[.int .i64 0, .int .i64 0, .int .i64 0, .int .i64 0, (.slice none 0 0)] 36 (0, 0))) ∧ Aside0 (Below w.heap.size w wc))
 case first =>
  have H := HC4.out
  clear HC4
  replace H := Option.bind_eq_some_iff.mp H
  obtain ⟨t110, A70, H⟩ := H
  (try dsimp only at H)
  have A7 := Aside0.mk A70
  clear A70
  by_cases c8 : t110 = true
  ·subst c8
   rw [if_pos rfl] at H
   replace H := Option.bind_eq_some_iff.mp H
   obtain ⟨t111, A90, H⟩ := H
   (try dsimp only at H)
   have A9 := Aside0.mk A90
   clear A90
   by_cases c10 : t111 = true
   ·subst c10
    rw [if_pos rfl] at H
    replace H := Option.bind_eq_some_iff.mp H
    obtain ⟨t112, A110, H⟩ := H
    (try dsimp only at H)
    have A11 := Aside0.mk A110
    clear A110
    have H' := Aside0.mk H
    clear H
    have hnb12 := NB108_109.out
    have hnc12 := NB109_108.out
    obtain ⟨z13_0, z13_1, z13_2, z13_3, z13_4, y13_0, y13_1, y13_2, y13_3, y13_4⟩ := Cz.d5 BK108
    go_wp2_with (first | (go_at_call 55; (with_reducible refine (extent_Check.calls a0_0 a0_1 a0_2 a0_3 _ _ l0_4 true _ ?side1 ?side2 A7.out).mono ?_); (case side1 => exact Cz.cb HR0_4); (case side2 => exact HC0_4.out); rintro e w14 ⟨rfl, hb⟩; replace BK108 := Cz.bk BK108 hb; replace BK109 := Cz.bk BK109 hb; replace HB := Cz.bs (w := w) hb; (try clear hb)) | (go_at_call 77; (with_reducible refine (extent_within.calls a1 0 64 true _ A9.out).mono ?_); rintro e w' ⟨rfl, ⟨nd, rfl⟩⟩; (try first | exact ⟨rfl, _, World.drewN_drewN _ _ _⟩ | exact ⟨rfl, _, Eq.trans (World.drewN_drewN _ _ _) (congrArg (World.drewN _) (Nat.add_assoc _ _ _))⟩)) | (go_at_call 77; (with_reducible refine (extent_within.calls a2 0 64 t112 _ A11.out).mono ?_); rintro e w' ⟨rfl, ⟨nd, rfl⟩⟩; (try first | exact ⟨rfl, _, World.drewN_drewN _ _ _⟩ | exact ⟨rfl, _, Eq.trans (World.drewN_drewN _ _ _) (congrArg (World.drewN _) (Nat.add_assoc _ _ _))⟩)))
    repeat (go_quiet (first | (go_at_call 55; (with_reducible refine (extent_Check.calls a0_0 a0_1 a0_2 a0_3 _ _ l0_4 true _ ?side1 ?side2 A7.out).mono ?_); (case side1 => exact Cz.cb HR0_4); (case side2 => exact HC0_4.out); rintro e w14 ⟨rfl, hb⟩; replace BK108 := Cz.bk BK108 hb; replace BK109 := Cz.bk BK109 hb; replace HB := Cz.bs (w := w) hb; (try clear hb)) | (go_at_call 77; (with_reducible refine (extent_within.calls a1 0 64 true _ A9.out).mono ?_); rintro e w' ⟨rfl, ⟨nd, rfl⟩⟩; (try first | exact ⟨rfl, _, World.drewN_drewN _ _ _⟩ | exact ⟨rfl, _, Eq.trans (World.drewN_drewN _ _ _) (congrArg (World.drewN _) (Nat.add_assoc _ _ _))⟩)) | (go_at_call 77; (with_reducible refine (extent_within.calls a2 0 64 t112 _ A11.out).mono ?_); rintro e w' ⟨rfl, ⟨nd, rfl⟩⟩; (try first | exact ⟨rfl, _, World.drewN_drewN _ _ _⟩ | exact ⟨rfl, _, Eq.trans (World.drewN_drewN _ _ _) (congrArg (World.drewN _) (Nat.add_assoc _ _ _))⟩))); try go_wp2_with (first | (go_at_call 55; (with_reducible refine (extent_Check.calls a0_0 a0_1 a0_2 a0_3 _ _ l0_4 true _ ?side1 ?side2 A7.out).mono ?_); (case side1 => exact Cz.cb HR0_4); (case side2 => exact HC0_4.out); rintro e w14 ⟨rfl, hb⟩; replace BK108 := Cz.bk BK108 hb; replace BK109 := Cz.bk BK109 hb; replace HB := Cz.bs (w := w) hb; (try clear hb)) | (go_at_call 77; (with_reducible refine (extent_within.calls a1 0 64 true _ A9.out).mono ?_); rintro e w' ⟨rfl, ⟨nd, rfl⟩⟩; (try first | exact ⟨rfl, _, World.drewN_drewN _ _ _⟩ | exact ⟨rfl, _, Eq.trans (World.drewN_drewN _ _ _) (congrArg (World.drewN _) (Nat.add_assoc _ _ _))⟩)) | (go_at_call 77; (with_reducible refine (extent_within.calls a2 0 64 t112 _ A11.out).mono ?_); rintro e w' ⟨rfl, ⟨nd, rfl⟩⟩; (try first | exact ⟨rfl, _, World.drewN_drewN _ _ _⟩ | exact ⟨rfl, _, Eq.trans (World.drewN_drewN _ _ _) (congrArg (World.drewN _) (Nat.add_assoc _ _ _))⟩))))
    go_meet
    case rel => exact ⟨_, (!t112), Cz.si, H', ⟨by first | omega | exact Nat.le_refl _⟩, ⟨by (with_reducible repeat (first | refine blk_drewN ?_ _ | refine blk_drew ?_ | refine blk_alloc ?_ _)); exact BK108.out⟩, ⟨by (with_reducible repeat (first | refine blk_drewN ?_ _ | refine blk_drew ?_ | refine blk_alloc ?_ _)); exact BK109.out⟩, ⟨Cz.bl (w := w)⟩⟩
   ·replace c10 := Bool.eq_false_iff.mpr c10
    subst c10
    rw [if_neg (show ¬ (false = true) by decide)] at H
    have H' := Aside0.mk H
    clear H
    have hnb15 := NB108_109.out
    have hnc15 := NB109_108.out
    obtain ⟨z16_0, z16_1, z16_2, z16_3, z16_4, y16_0, y16_1, y16_2, y16_3, y16_4⟩ := Cz.d5 BK108
    go_wp2_with (first | (go_at_call 55; (with_reducible refine (extent_Check.calls a0_0 a0_1 a0_2 a0_3 _ _ l0_4 true _ ?side1 ?side2 A7.out).mono ?_); (case side1 => exact Cz.cb HR0_4); (case side2 => exact HC0_4.out); rintro e w17 ⟨rfl, hb⟩; replace BK108 := Cz.bk BK108 hb; replace BK109 := Cz.bk BK109 hb; replace HB := Cz.bs (w := w) hb; (try clear hb)) | (go_at_call 77; (with_reducible refine (extent_within.calls a1 0 64 false _ A9.out).mono ?_); rintro e w' ⟨rfl, ⟨nd, rfl⟩⟩; (try first | exact ⟨rfl, _, World.drewN_drewN _ _ _⟩ | exact ⟨rfl, _, Eq.trans (World.drewN_drewN _ _ _) (congrArg (World.drewN _) (Nat.add_assoc _ _ _))⟩)))
    repeat (go_quiet (first | (go_at_call 55; (with_reducible refine (extent_Check.calls a0_0 a0_1 a0_2 a0_3 _ _ l0_4 true _ ?side1 ?side2 A7.out).mono ?_); (case side1 => exact Cz.cb HR0_4); (case side2 => exact HC0_4.out); rintro e w17 ⟨rfl, hb⟩; replace BK108 := Cz.bk BK108 hb; replace BK109 := Cz.bk BK109 hb; replace HB := Cz.bs (w := w) hb; (try clear hb)) | (go_at_call 77; (with_reducible refine (extent_within.calls a1 0 64 false _ A9.out).mono ?_); rintro e w' ⟨rfl, ⟨nd, rfl⟩⟩; (try first | exact ⟨rfl, _, World.drewN_drewN _ _ _⟩ | exact ⟨rfl, _, Eq.trans (World.drewN_drewN _ _ _) (congrArg (World.drewN _) (Nat.add_assoc _ _ _))⟩))); try go_wp2_with (first | (go_at_call 55; (with_reducible refine (extent_Check.calls a0_0 a0_1 a0_2 a0_3 _ _ l0_4 true _ ?side1 ?side2 A7.out).mono ?_); (case side1 => exact Cz.cb HR0_4); (case side2 => exact HC0_4.out); rintro e w17 ⟨rfl, hb⟩; replace BK108 := Cz.bk BK108 hb; replace BK109 := Cz.bk BK109 hb; replace HB := Cz.bs (w := w) hb; (try clear hb)) | (go_at_call 77; (with_reducible refine (extent_within.calls a1 0 64 false _ A9.out).mono ?_); rintro e w' ⟨rfl, ⟨nd, rfl⟩⟩; (try first | exact ⟨rfl, _, World.drewN_drewN _ _ _⟩ | exact ⟨rfl, _, Eq.trans (World.drewN_drewN _ _ _) (congrArg (World.drewN _) (Nat.add_assoc _ _ _))⟩))))
    go_meet
    case rel => exact ⟨_, (true), Cz.si, H', ⟨by first | omega | exact Nat.le_refl _⟩, ⟨by (with_reducible repeat (first | refine blk_drewN ?_ _ | refine blk_drew ?_ | refine blk_alloc ?_ _)); exact BK108.out⟩, ⟨by (with_reducible repeat (first | refine blk_drewN ?_ _ | refine blk_drew ?_ | refine blk_alloc ?_ _)); exact BK109.out⟩, ⟨Cz.bl (w := w)⟩⟩
  ·replace c8 := Bool.eq_false_iff.mpr c8
   subst c8
   rw [if_neg (show ¬ (false = true) by decide)] at H
   have H' := Aside0.mk H
   clear H
   have hnb18 := NB108_109.out
   have hnc18 := NB109_108.out
   obtain ⟨z19_0, z19_1, z19_2, z19_3, z19_4, y19_0, y19_1, y19_2, y19_3, y19_4⟩ := Cz.d5 BK108
   go_wp2_with (first | (go_at_call 55; (with_reducible refine (extent_Check.calls a0_0 a0_1 a0_2 a0_3 _ _ l0_4 false _ ?side1 ?side2 A7.out).mono ?_); (case side1 => exact Cz.cb HR0_4); (case side2 => exact HC0_4.out); rintro e w20 ⟨rfl, hb⟩; replace BK108 := Cz.bk BK108 hb; replace BK109 := Cz.bk BK109 hb; replace HB := Cz.bs (w := w) hb; (try clear hb)))
   repeat (go_quiet (first | (go_at_call 55; (with_reducible refine (extent_Check.calls a0_0 a0_1 a0_2 a0_3 _ _ l0_4 false _ ?side1 ?side2 A7.out).mono ?_); (case side1 => exact Cz.cb HR0_4); (case side2 => exact HC0_4.out); rintro e w20 ⟨rfl, hb⟩; replace BK108 := Cz.bk BK108 hb; replace BK109 := Cz.bk BK109 hb; replace HB := Cz.bs (w := w) hb; (try clear hb))); try go_wp2_with (first | (go_at_call 55; (with_reducible refine (extent_Check.calls a0_0 a0_1 a0_2 a0_3 _ _ l0_4 false _ ?side1 ?side2 A7.out).mono ?_); (case side1 => exact Cz.cb HR0_4); (case side2 => exact HC0_4.out); rintro e w20 ⟨rfl, hb⟩; replace BK108 := Cz.bk BK108 hb; replace BK109 := Cz.bk BK109 hb; replace HB := Cz.bs (w := w) hb; (try clear hb))))
   go_meet
   case rel => exact ⟨_, (true), Cz.si, H', ⟨by first | omega | exact Nat.le_refl _⟩, ⟨by (with_reducible repeat (first | refine blk_drewN ?_ _ | refine blk_drew ?_ | refine blk_alloc ?_ _)); exact BK108.out⟩, ⟨by (with_reducible repeat (first | refine blk_drewN ?_ _ | refine blk_drew ?_ | refine blk_alloc ?_ _)); exact BK109.out⟩, ⟨Cz.bl (w := w)⟩⟩
 case rest =>
  clear HC4
  try clear c1
  try clear p2
  try clear c6
  try clear c8
  try clear c10
  try clear c12
  try clear c15
  try clear c18
  try clear z13_0 z13_1 z13_2 z13_3 z13_4 y13_0 y13_1 y13_2 y13_3 y13_4
  try clear z16_0 z16_1 z16_2 z16_3 z16_4 y16_0 y16_1 y16_2 y16_3 y16_4
  try clear z19_0 z19_1 z19_2 z19_3 z19_4 y19_0 y19_1 y19_2 y19_3 y19_4
  obtain ⟨kq, x23_3, rfl, HA, HJ3, BK108, BK109, HB⟩ := hcut
  cases kq with
  | zero => exact absurd HA.out (by simp [extent_Cut_p.j0])
  | succ kj3 =>
   have H := HA.out
   clear HA
   simp only [extent_Cut_p.j0] at H
   by_cases c21 : x23_3 = true
   ·subst c21
    rw [if_pos rfl] at H
    simp only [Option.some.injEq, Prod.mk.injEq] at H
    obtain ⟨rfl, rfl, rfl, rfl, rfl, rfl⟩ := H
    have hnb22 := NB109_108.out
    have hnc22 := NB108_109.out
    obtain ⟨z23_0, z23_1, z23_2, z23_3, z23_4, y23_0, y23_1, y23_2, y23_3, y23_4⟩ := Cz.d5 BK109
    go_wp2
    repeat (go_quiet (fail); try go_wp2)
    refine bodyPost_ret (results_ct rfl _ _ gb109 36 #[.int .i64 0, .int .i64 0, .int .i64 0, .int .i64 0, .slice none 0 0] (0, 0) _ rfl (by (with_reducible repeat (first | refine blk_drewN ?_ _ | refine blk_drew ?_ | refine blk_alloc ?_ _)); apply Cz.a5; (with_reducible repeat (first | refine blk_drewN ?_ _ | refine blk_drew ?_ | refine blk_alloc ?_ _)); exact BK109.out) Try.underlying36 rfl (by kernel_rfl)) rfl ?_
    exact ⟨_, Cz.er, by first | exact Kd.R_nil _ _ _ _ _ | exact Kd.N_nil _ _ _ _ _ | exact Kd.V_nil _ _ _ _ _ | exact Kd.Q_nil _ _ _ _ _ | exact Kd.S_nil _ _ _ _ _, Cz.bl (w := w)⟩
   ·replace c21 := Bool.eq_false_iff.mpr c21
    subst c21
    rw [if_neg (show ¬ (false = true) by decide)] at H
    obtain ⟨ji24, hji24⟩ : ∃ j_ : Int, (mx a0_0 a1) = j_ := ⟨_, rfl⟩
    replace H : (if (ji24) ≥ (mn (wrap64 (a0_0 + a0_1)) (wrap64 (a1 + a2))) then (some (0, 0, 0, 0, ([] : List Int), false)) else (if a0_2 = 2 then (if 0 ≤ (wrap64 ((wrap64 ((ji24) - a0_0)) * 32)) then (if (wrap64 ((wrap64 ((ji24) - a0_0)) * 32)) ≤ (wrap64 ((wrap64 ((mn (wrap64 (a0_0 + a0_1)) (wrap64 (a1 + a2))) - a0_0)) * 32)) then (if (wrap64 ((wrap64 ((mn (wrap64 (a0_0 + a0_1)) (wrap64 (a1 + a2))) - a0_0)) * 32)) ≤ (l0_4.length : Int) then ((bytes_Clone.f ((l0_4.take ((wrap64 ((wrap64 ((mn (wrap64 (a0_0 + a0_1)) (wrap64 (a1 + a2))) - a0_0)) * 32)) : Int).toNat).drop ((wrap64 ((wrap64 ((ji24) - a0_0)) * 32)) : Int).toNat)).bind fun t114 => (some (ji24, wrap64 ((mn (wrap64 (a0_0 + a0_1)) (wrap64 (a1 + a2))) - (ji24)), a0_2, a0_3, t114, true))) else (none)) else (none)) else (none)) else (some (ji24, wrap64 ((mn (wrap64 (a0_0 + a0_1)) (wrap64 (a1 + a2))) - (ji24)), a0_2, a0_3, ([] : List Int), true)))) = some (r1, r2, r3, r4, r5, r6) := by first | (rw [hji24] at H; exact H) | (simp only [hji24] at H ⊢; exact H)
    have hji24_ : (if a0_0 < a1 then a1 else a0_0) = ji24 := hji24
    obtain ⟨ji25, hji25⟩ : ∃ j_ : Int, (mn (wrap64 (a0_0 + a0_1)) (wrap64 (a1 + a2))) = j_ := ⟨_, rfl⟩
    replace H : (if (ji24) ≥ (ji25) then (some (0, 0, 0, 0, ([] : List Int), false)) else (if a0_2 = 2 then (if 0 ≤ (wrap64 ((wrap64 ((ji24) - a0_0)) * 32)) then (if (wrap64 ((wrap64 ((ji24) - a0_0)) * 32)) ≤ (wrap64 ((wrap64 ((ji25) - a0_0)) * 32)) then (if (wrap64 ((wrap64 ((ji25) - a0_0)) * 32)) ≤ (l0_4.length : Int) then ((bytes_Clone.f ((l0_4.take ((wrap64 ((wrap64 ((ji25) - a0_0)) * 32)) : Int).toNat).drop ((wrap64 ((wrap64 ((ji24) - a0_0)) * 32)) : Int).toNat)).bind fun t114 => (some (ji24, wrap64 ((ji25) - (ji24)), a0_2, a0_3, t114, true))) else (none)) else (none)) else (none)) else (some (ji24, wrap64 ((ji25) - (ji24)), a0_2, a0_3, ([] : List Int), true)))) = some (r1, r2, r3, r4, r5, r6) := by first | (rw [hji25] at H; exact H) | (simp only [hji25] at H ⊢; exact H)
    have hji25_ : (if (wrap64 (a1 + a2)) < (wrap64 (a0_0 + a0_1)) then (wrap64 (a1 + a2)) else (wrap64 (a0_0 + a0_1))) = ji25 := hji25
    by_cases c26 : (ji24) ≥ (ji25)
    ·rw [if_pos c26] at H
     have c26b0 : decide ((ji25) ≤ (ji24)) = true := decide_eq_true c26
     clear c26
     simp only [Option.some.injEq, Prod.mk.injEq] at H
     obtain ⟨rfl, rfl, rfl, rfl, rfl, rfl⟩ := H
     have hnb27 := NB108_109.out
     have hnc27 := NB109_108.out
     obtain ⟨z28_0, z28_1, z28_2, z28_3, z28_4, y28_0, y28_1, y28_2, y28_3, y28_4⟩ := Cz.d5 BK108
     obtain ⟨z29_0, z29_1, z29_2, z29_3, z29_4, y29_0, y29_1, y29_2, y29_3, y29_4⟩ := Cz.d5 BK109
     go_wp2
     repeat (go_quiet (fail); try go_wp2)
     refine bodyPost_ret (results_ct rfl _ _ gb109 36 #[.int .i64 0, .int .i64 0, .int .i64 0, .int .i64 0, .slice none 0 0] (0, 0) _ rfl (by (with_reducible repeat (first | refine blk_drewN ?_ _ | refine blk_drew ?_ | refine blk_alloc ?_ _)); apply Cz.a5; (with_reducible repeat (first | refine blk_drewN ?_ _ | refine blk_drew ?_ | refine blk_alloc ?_ _)); exact BK109.out) Try.underlying36 rfl (by kernel_rfl)) rfl ?_
     exact ⟨_, by first | rfl | (simp [errW_none, errW_some] <;> rfl) | (simp only [← hji24, ← hji25]; first | rfl | (simp [errW_none, errW_some] <;> rfl)) | (simp [*, errW_none, errW_some] <;> rfl), by first | exact Kd.R_nil _ _ _ _ _ | exact Kd.N_nil _ _ _ _ _ | exact Kd.V_nil _ _ _ _ _ | exact Kd.Q_nil _ _ _ _ _ | exact Kd.S_nil _ _ _ _ _, Cz.bl (w := w)⟩
    ·rw [if_neg c26] at H
     have c26b0 : decide ((ji25) ≤ (ji24)) = false := decide_eq_false c26
     clear c26
     by_cases c30 : a0_2 = 2
     ·rw [if_pos c30] at H
      have c30b0 : (a0_2 == 2) = true := beq_iff_eq.mpr c30
      have c30b1 : (a0_2 != 2) = false := bne_eq_false_iff_eq.mpr c30
      clear c30
      obtain ⟨ji31, hji31⟩ : ∃ j_ : Int, (wrap64 ((wrap64 ((ji24) - a0_0)) * 32)) = j_ := ⟨_, rfl⟩
      replace H : (if 0 ≤ (ji31) then (if (ji31) ≤ (wrap64 ((wrap64 ((ji25) - a0_0)) * 32)) then (if (wrap64 ((wrap64 ((ji25) - a0_0)) * 32)) ≤ (l0_4.length : Int) then ((bytes_Clone.f ((l0_4.take ((wrap64 ((wrap64 ((ji25) - a0_0)) * 32)) : Int).toNat).drop ((ji31) : Int).toNat)).bind fun t114 => (some (ji24, wrap64 ((ji25) - (ji24)), a0_2, a0_3, t114, true))) else (none)) else (none)) else (none)) = some (r1, r2, r3, r4, r5, r6) := by first | (rw [hji31] at H; exact H) | (simp only [hji31] at H ⊢; exact H)
      have hji31w : (IntKind.i64.wrap ((wrap64 ((ji24) - a0_0)) * 32)) = ji31 := (i64_w _).trans hji31
      by_cases c32 : 0 ≤ (ji31)
      ·rw [if_pos c32] at H
       have c32b0 := eq_true c32
       have c32b1 : decide (0 ≤ (ji31)) = true := decide_eq_true c32
       clear c32
       by_cases c33 : (ji31) ≤ (wrap64 ((wrap64 ((ji25) - a0_0)) * 32))
       ·rw [if_pos c33] at H
        have c33b0 := eq_true c33
        have c33b1 : decide ((ji31) ≤ (wrap64 ((wrap64 ((ji25) - a0_0)) * 32))) = true := decide_eq_true c33
        clear c33
        by_cases c34 : (wrap64 ((wrap64 ((ji25) - a0_0)) * 32)) ≤ (l0_4.length : Int)
        ·rw [if_pos c34] at H
         have c34b0 := eq_true c34
         have c34b1 : decide ((wrap64 ((wrap64 ((ji25) - a0_0)) * 32)) ≤ (l0_4.length : Int)) = true := decide_eq_true c34
         clear c34
         replace H := Option.bind_eq_some_iff.mp H
         obtain ⟨t114, A350, H⟩ := H
         (try dsimp only at H)
         have A35 := Aside0.mk A350
         clear A350
         simp only [Option.some.injEq, Prod.mk.injEq] at H
         obtain ⟨rfl, rfl, rfl, rfl, rfl, rfl⟩ := H
         have hnb36 := NB108_109.out
         have hnc36 := NB109_108.out
         obtain ⟨z37_0, z37_1, z37_2, z37_3, z37_4, y37_0, y37_1, y37_2, y37_3, y37_4⟩ := Cz.d5 BK108
         obtain ⟨i038, hi038, _, hsz38, _⟩ := info_parts info5
         obtain ⟨A38, hcut38, hA38, hC38⟩ := print_mid_of (P := Try.prog) (Value.int .u8) 0 27 5 .i64 .i64 Try.underlying27 hi038 hsz38 A0_4 c0_4 l0_4 (ji31) (wrap64 ((wrap64 ((ji25) - a0_0)) * 32)) (of_decide_eq_true (by first | (with_reducible assumption) | assumption)) (by first | omega | exact of_decide_eq_true (by first | (with_reducible assumption) | assumption)) (of_decide_eq_true (by first | (with_reducible assumption) | assumption)) HC0_4.out
         have HR113 := Aside0.mk (Kd.C_of_reads (h1 := fun _ => rfl) (hA38 _ (Kd.reads_of_C HR0_4.out)))
         have HC113 := Aside0.mk hC38
         clear hA38 hC38 hi038 hsz38
         obtain ⟨m38, hm38⟩ : ∃ m_, m_ = ((l0_4.take ((wrap64 ((wrap64 ((ji25) - a0_0)) * 32)) : Int).toNat).drop ((ji31) : Int).toNat) := ⟨_, rfl⟩
         have n_ := A35.out
         rw [← hm38] at n_
         clear A35
         have A35 := Aside0.mk n_
         clear n_
         have n_ := HR113.out
         rw [← hm38] at n_
         clear HR113
         have HR113 := Aside0.mk n_
         clear n_
         have n_ := HC113.out
         rw [← hm38] at n_
         clear HC113
         have HC113 := Aside0.mk n_
         clear n_
         rw [← hm38] at hcut38
         clear hm38
         go_wp2_with (first | (go_at_call 72; (with_reducible refine (bytes_Clone.calls _ _ m38 t114 _ ?side1 ?side2 A35.out).mono ?_); (case side1 => exact Kd.C_below HR113.out (Cz.bl (w := w))); (case side2 => exact HC113.out); rintro e w39 ⟨v115, rfl, ho0, hb⟩; have HO116 := Aside0.mk (Kd.R_lower ho0 (below_size (Cz.bl (w := w)))); replace BK108 := Aside0.mk (blk_below (g := gb108) (o := .cells #[.int .i64 a0_0, .int .i64 a0_1, .int .i64 a0_2, .int .i64 a0_3, .slice none 0 0] 36 (0, 0)) (by (with_reducible repeat (first | refine blk_drewN ?_ _ | refine blk_drew ?_ | refine blk_alloc ?_ _)); refine blk_put (cs := #[.int .i64 a0_0, .int .i64 a0_1, .int .i64 a0_2, .int .i64 a0_3, .slice A0_4 l0_4.length c0_4]) ?_ 4 _ rfl; (with_reducible repeat (first | refine blk_drewN ?_ _ | refine blk_drew ?_ | refine blk_alloc ?_ _)); exact BK108.out) hb); replace BK109 := Aside0.mk (blk_below (g := gb109) (o := .cells #[.int .i64 0, .int .i64 0, .int .i64 0, .int .i64 0, .slice none 0 0] 36 (0, 0)) (by (with_reducible repeat (first | refine blk_drewN ?_ _ | refine blk_drew ?_ | refine blk_alloc ?_ _)); refine blk_far ?_ NB109_108.out _; (with_reducible repeat (first | refine blk_drewN ?_ _ | refine blk_drew ?_ | refine blk_alloc ?_ _)); exact BK109.out) hb); replace HB := Cz.bs (w := w) hb; (try clear hb); (try clear ho0); obtain ⟨Ao40, co40, eo40⟩ := Kd.R_slice HO116.out; subst eo40; obtain ⟨z41_0, z41_1, z41_2, z41_3, z41_4, y41_0, y41_1, y41_2, y41_3, y41_4⟩ := Cz.d5 BK108; obtain ⟨z42_0, z42_1, z42_2, z42_3, z42_4, y42_0, y42_1, y42_2, y42_3, y42_4⟩ := Cz.d5 BK109))
         repeat (go_quiet (first | (go_at_call 72; (with_reducible refine (bytes_Clone.calls _ _ m38 t114 _ ?side1 ?side2 A35.out).mono ?_); (case side1 => exact Kd.C_below HR113.out (Cz.bl (w := w))); (case side2 => exact HC113.out); rintro e w39 ⟨v115, rfl, ho0, hb⟩; have HO116 := Aside0.mk (Kd.R_lower ho0 (below_size (Cz.bl (w := w)))); replace BK108 := Aside0.mk (blk_below (g := gb108) (o := .cells #[.int .i64 a0_0, .int .i64 a0_1, .int .i64 a0_2, .int .i64 a0_3, .slice none 0 0] 36 (0, 0)) (by (with_reducible repeat (first | refine blk_drewN ?_ _ | refine blk_drew ?_ | refine blk_alloc ?_ _)); refine blk_put (cs := #[.int .i64 a0_0, .int .i64 a0_1, .int .i64 a0_2, .int .i64 a0_3, .slice A0_4 l0_4.length c0_4]) ?_ 4 _ rfl; (with_reducible repeat (first | refine blk_drewN ?_ _ | refine blk_drew ?_ | refine blk_alloc ?_ _)); exact BK108.out) hb); replace BK109 := Aside0.mk (blk_below (g := gb109) (o := .cells #[.int .i64 0, .int .i64 0, .int .i64 0, .int .i64 0, .slice none 0 0] 36 (0, 0)) (by (with_reducible repeat (first | refine blk_drewN ?_ _ | refine blk_drew ?_ | refine blk_alloc ?_ _)); refine blk_far ?_ NB109_108.out _; (with_reducible repeat (first | refine blk_drewN ?_ _ | refine blk_drew ?_ | refine blk_alloc ?_ _)); exact BK109.out) hb); replace HB := Cz.bs (w := w) hb; (try clear hb); (try clear ho0); obtain ⟨Ao40, co40, eo40⟩ := Kd.R_slice HO116.out; subst eo40; obtain ⟨z41_0, z41_1, z41_2, z41_3, z41_4, y41_0, y41_1, y41_2, y41_3, y41_4⟩ := Cz.d5 BK108; obtain ⟨z42_0, z42_1, z42_2, z42_3, z42_4, y42_0, y42_1, y42_2, y42_3, y42_4⟩ := Cz.d5 BK109)); try go_wp2_with (first | (go_at_call 72; (with_reducible refine (bytes_Clone.calls _ _ m38 t114 _ ?side1 ?side2 A35.out).mono ?_); (case side1 => exact Kd.C_below HR113.out (Cz.bl (w := w))); (case side2 => exact HC113.out); rintro e w39 ⟨v115, rfl, ho0, hb⟩; have HO116 := Aside0.mk (Kd.R_lower ho0 (below_size (Cz.bl (w := w)))); replace BK108 := Aside0.mk (blk_below (g := gb108) (o := .cells #[.int .i64 a0_0, .int .i64 a0_1, .int .i64 a0_2, .int .i64 a0_3, .slice none 0 0] 36 (0, 0)) (by (with_reducible repeat (first | refine blk_drewN ?_ _ | refine blk_drew ?_ | refine blk_alloc ?_ _)); refine blk_put (cs := #[.int .i64 a0_0, .int .i64 a0_1, .int .i64 a0_2, .int .i64 a0_3, .slice A0_4 l0_4.length c0_4]) ?_ 4 _ rfl; (with_reducible repeat (first | refine blk_drewN ?_ _ | refine blk_drew ?_ | refine blk_alloc ?_ _)); exact BK108.out) hb); replace BK109 := Aside0.mk (blk_below (g := gb109) (o := .cells #[.int .i64 0, .int .i64 0, .int .i64 0, .int .i64 0, .slice none 0 0] 36 (0, 0)) (by (with_reducible repeat (first | refine blk_drewN ?_ _ | refine blk_drew ?_ | refine blk_alloc ?_ _)); refine blk_far ?_ NB109_108.out _; (with_reducible repeat (first | refine blk_drewN ?_ _ | refine blk_drew ?_ | refine blk_alloc ?_ _)); exact BK109.out) hb); replace HB := Cz.bs (w := w) hb; (try clear hb); (try clear ho0); obtain ⟨Ao40, co40, eo40⟩ := Kd.R_slice HO116.out; subst eo40; obtain ⟨z41_0, z41_1, z41_2, z41_3, z41_4, y41_0, y41_1, y41_2, y41_3, y41_4⟩ := Cz.d5 BK108; obtain ⟨z42_0, z42_1, z42_2, z42_3, z42_4, y42_0, y42_1, y42_2, y42_3, y42_4⟩ := Cz.d5 BK109)))
         refine bodyPost_ret (results_ct rfl _ _ gb109 36 #[.int .i64 ji24, .int .i64 (wrap64 ((ji25) - (ji24))), .int .i64 a0_2, .int .i64 a0_3, .slice Ao40 t114.length co40] (0, 0) _ rfl (by (with_reducible repeat (first | refine blk_drewN ?_ _ | refine blk_drew ?_ | refine blk_alloc ?_ _)); apply Cz.a5; refine blk_far ?_ NB109_108.out _; refine blk_far ?_ NB109_108.out _; refine blk_far ?_ NB109_108.out _; (with_reducible repeat (first | refine blk_drewN ?_ _ | refine blk_drew ?_ | refine blk_alloc ?_ _)); exact BK109.out) Try.underlying36 rfl (by kernel_rfl)) rfl ?_
         exact ⟨_, by first | rfl | (simp [errW_none, errW_some] <;> rfl) | (simp only [← hji24, ← hji25, ← hji31]; first | rfl | (simp [errW_none, errW_some] <;> rfl)) | (simp [*, errW_none, errW_some] <;> rfl), by (with_reducible repeat (first | apply Kd.R_alloc | apply Kd.R_drewN | apply Kd.R_drew)); exact Kd.R_mono (Cz.rf (Cz.rf (Cz.rf (Cz.rf (Cz.rf (Kd.R_far (p := ⟨gb108, 1, none⟩) (Kd.R_far (p := ⟨gb108, 0, none⟩) (Kd.R_far (p := ⟨gb108, 4, none⟩) (Kd.R_types (Kd.R_types HO116.out BK108.out (by decide)) BK109.out (by decide)) (fun _ hk => hk.1.2) (.slice Ao40 t114.length co40)) (fun _ hk => hk.1.2) (.int .i64 ji24)) (fun _ hk => hk.1.2) (.int .i64 (wrap64 ((ji25) - (ji24)))))))))) (fun _ hk => trivial), Cz.bl (w := w)⟩
        ·rw [if_neg c34] at H
         exact absurd H (by simp)
       ·rw [if_neg c33] at H
        exact absurd H (by simp)
      ·rw [if_neg c32] at H
       exact absurd H (by simp)
     ·rw [if_neg c30] at H
      have c30b0 : (a0_2 == 2) = false := beq_eq_false_iff_ne.mpr c30
      have c30b1 : (a0_2 != 2) = true := bne_iff_ne.mpr c30
      simp only [Option.some.injEq, Prod.mk.injEq] at H
      obtain ⟨rfl, rfl, rfl, rfl, rfl, rfl⟩ := H
      have hnb43 := NB108_109.out
      have hnc43 := NB109_108.out
      obtain ⟨z44_0, z44_1, z44_2, z44_3, z44_4, y44_0, y44_1, y44_2, y44_3, y44_4⟩ := Cz.d5 BK108
      obtain ⟨z45_0, z45_1, z45_2, z45_3, z45_4, y45_0, y45_1, y45_2, y45_3, y45_4⟩ := Cz.d5 BK109
      go_wp2
      repeat (go_quiet (fail); try go_wp2)
      refine bodyPost_ret (results_ct rfl _ _ gb109 36 #[.int .i64 ji24, .int .i64 (wrap64 ((ji25) - (ji24))), .int .i64 a0_2, .int .i64 a0_3, .slice none 0 0] (0, 0) _ rfl (by (with_reducible repeat (first | refine blk_drewN ?_ _ | refine blk_drew ?_ | refine blk_alloc ?_ _)); apply Cz.a5; refine blk_far ?_ NB109_108.out _; refine blk_far ?_ NB109_108.out _; refine blk_far ?_ NB109_108.out _; (with_reducible repeat (first | refine blk_drewN ?_ _ | refine blk_drew ?_ | refine blk_alloc ?_ _)); exact BK109.out) Try.underlying36 rfl (by kernel_rfl)) rfl ?_
      exact ⟨_, by first | rfl | (simp [errW_none, errW_some] <;> rfl) | (simp only [← hji24, ← hji25]; first | rfl | (simp [errW_none, errW_some] <;> rfl)) | (simp [*, errW_none, errW_some] <;> rfl), by first | exact Kd.R_nil _ _ _ _ _ | exact Kd.N_nil _ _ _ _ _ | exact Kd.V_nil _ _ _ _ _ | exact Kd.Q_nil _ _ _ _ _ | exact Kd.S_nil _ _ _ _ _, Cz.bl (w := w)⟩
def extent_Cut.f (a0_0 a0_1 a0_2 a0_3 : Int) (l0_4 : List Int) (a1 a2 : Int) : Option (Int × Int × Int × Int × List Int × Bool) := some (Pl.cutS a0_0 a0_1 a0_2 a0_3 l0_4 a1 a2)
theorem extent_Cut.closes {a0_0 a0_1 a0_2 a0_3 : Int} {l0_4 : List Int} {a1 a2 : Int} {r : Int × Int × Int × Int × List Int × Bool} (h : extent_Cut.f a0_0 a0_1 a0_2 a0_3 l0_4 a1 a2 = some r) : extent_Cut_p.f 1 a0_0 a0_1 a0_2 a0_3 l0_4 a1 a2 = some r := by
 rw [← h]
 have out : extent_Cut_p.j0 1 a1 a2 true a0_0 a0_1 a0_2 a0_3 l0_4 = some (0, 0, 0, 0, [], false) := by
  simp only [extent_Cut_p.j0]
  rw [if_pos trivial]
 unfold extent_Cut_p.f extent_Cut.f extent_Check.f extent_within.f
 rw [Option.bind_some, Pl.cutS]
 by_cases h0 : Pl.extOk a0_0 a0_1 a0_2 a0_3 l0_4 = true
 rotate_left
 ·rw [if_neg h0, if_neg (fun hh => h0 hh.1)]; exact out
 rw [if_pos h0]
 by_cases h1 : a1 ≥ 0
 rotate_left
 ·rw [if_neg h1, Option.bind_some, if_neg (by decide), if_neg (fun hh => h1 hh.2.1)]; exact out
 rw [if_pos h1, Option.bind_some]
 by_cases h2 : a1 ≤ 64
 rotate_left
 ·rw [decide_eq_false h2, if_neg (by decide), if_neg (fun hh => h2 hh.2.2.1)]; exact out
 rw [decide_eq_true h2, if_pos rfl]
 by_cases h3 : a2 ≥ 0
 rotate_left
 ·rw [if_neg h3, Option.bind_some, if_neg (fun hh => h3 hh.2.2.2.1)]; exact out
 rw [if_pos h3, Option.bind_some]
 by_cases h4 : a2 ≤ 64
 rotate_left
 ·rw [decide_eq_false h4, if_neg (fun hh => h4 hh.2.2.2.2.1)]; exact out
 rw [decide_eq_true h4]
 have q := Pl.extOk_iff.1 h0
 have e1 : mx a0_0 a1 = max a0_0 a1 := by unfold mx; omega
 have e2 : mn (wrap64 (a0_0 + a0_1)) (wrap64 (a1 + a2)) = min (a0_0 + a0_1) (a1 + a2) := by unfold mn wrap64; omega
 have e3 : wrap64 (wrap64 (max a0_0 a1 - a0_0) * 32) = (max a0_0 a1 - a0_0) * 32 := by unfold wrap64; omega
 have e4 : wrap64 (wrap64 (min (a0_0 + a0_1) (a1 + a2) - a0_0) * 32) = (min (a0_0 + a0_1) (a1 + a2) - a0_0) * 32 := by unfold wrap64; omega
 have e5 : wrap64 (min (a0_0 + a0_1) (a1 + a2) - max a0_0 a1) = min (a0_0 + a0_1) (a1 + a2) - max a0_0 a1 := by unfold wrap64; omega
 simp only [extent_Cut_p.j0]
 rw [if_neg (by decide), e1, e2, e3, e4, e5]
 by_cases h5 : max a0_0 a1 ≥ min (a0_0 + a0_1) (a1 + a2)
 ·rw [if_pos h5, if_neg (fun hh => absurd hh.2.2.2.2.2 (by omega))]
 have hc : Pl.extOk a0_0 a0_1 a0_2 a0_3 l0_4 = true ∧ 0 ≤ a1 ∧ a1 ≤ 64 ∧ 0 ≤ a2 ∧ a2 ≤ 64 ∧ max a0_0 a1 < min (a0_0 + a0_1) (a1 + a2) := ⟨h0, h1, h2, h3, h4, by omega⟩
 rw [if_neg h5, if_pos hc]
 by_cases h6 : a0_2 = 2
 ·have q9 := q.2.2.2.2.2.2.2.2
  rw [if_pos h6] at q9
  rw [if_pos h6, if_pos (by omega), if_pos (by omega), if_pos (by omega), if_pos h6]
  unfold bytes_Clone.f
  rw [if_pos (by rw [List.length_drop, List.length_take]; omega), Option.bind_some]
 ·rw [if_neg h6, if_neg h6]
theorem extent_Cut.calls (a0_0 : Int) (a0_1 : Int) (a0_2 : Int) (a0_3 : Int) (A0_4 : Option Addr) (c0_4 : Nat) (l0_4 : List Int) (a1 : Int) (a2 : Int) (r1 : Int) (r2 : Int) (r3 : Int) (r4 : Int) (r5 : List Int) (r6 : Bool) (w : World) (hr0_4 : Kd.C (Kd.int .u8) w A0_4 l0_4.length l0_4) (hc0_4 : l0_4.length ≤ c0_4) (h : extent_Cut.f a0_0 a0_1 a0_2 a0_3 l0_4 a1 a2 = some (r1, r2, r3, r4, r5, r6)) :
  Calls Try.prog 62 #[.agg #[.int .i64 a0_0, .int .i64 a0_1, .int .i64 a0_2, .int .i64 a0_3, .slice A0_4 l0_4.length c0_4], .int .i64 a1, .int .i64 a2] w fun e w' => ∃ v4_ : Value, e = .returned (.tuple #[.agg #[.int .i64 r1, .int .i64 r2, .int .i64 r3, .int .i64 r4, v4_], .bool r6]) ∧ Kd.R (Kd.int .u8) 5 w' w.heap.size (fun _ => True) v4_ r5 ∧ Below w.heap.size w w' :=
 extent_Cut_p.calls 1 a0_0 a0_1 a0_2 a0_3 A0_4 c0_4 l0_4 a1 a2 r1 r2 r3 r4 r5 r6 w hr0_4 hc0_4 (extent_Cut.closes h)
set_option maxHeartbeats 400000 in
set_option maxRecDepth 2000000 in
theorem stream_kinds.calls (w : World) : Calls Try.prog 63 #[] w fun e w' => e = .returned (.agg #[.int .i64 4, .int .i64 3, .int .i64 2]) ∧ Below w.heap.size w w' := by
 have b1 : ∀ w : World, (Instr.build 89 #[(0, .int .i64 4), (1, .int .i64 3), (2, .int .i64 2)]).run Try.prog w = .ok (.agg #[.int .i64 4, .int .i64 3, .int .i64 2]) w := fun _ => by kernel_rfl
 go_enter Try.func63, Try.ntmps63
 go_upto_region 1 with (fail)
 have HG := Aside0.mk (heap_alloc_new w (.cells #[.int .i64 0, .int .i64 0, .int .i64 0] 89))
 have HB := Aside0.mk ((Below.refl w.heap.size w).alloc (Nat.le_refl _) (.cells #[.int .i64 0, .int .i64 0, .int .i64 0] 89))
 generalize w.alloc (.cells #[.int .i64 0, .int .i64 0, .int .i64 0] 89) = w1 at HG HB ⊢
 obtain ⟨g, hg⟩ : ∃ g, g = w.heap.size := ⟨_, rfl⟩
 rw [← hg] at HG ⊢
 have HE := Aside0.mk (Nat.le_of_eq hg.symm)
 clear hg
 go_wp2_with (refine wpList_store_row rfl 89 (.tmp 0) (.tmp 1) rfl g #[.int .i64 4, .int .i64 3, .int .i64 2] rfl rfl 89 #[.int .i64 0, .int .i64 0, .int .i64 0] HG.out ?_ ?_ ?_ ?_; (case refine_1 => kernel_rfl); (case refine_2 => rfl); (case refine_3 => kernel_rfl))
 refine bodyPost_ret (results_cell_row rfl _ _ g 89 #[.int .i64 4, .int .i64 3, .int .i64 2] (0, 0) _ rfl (setRow_heap w1 g _ _ _ _ HG.out) Try.underlying89 rfl (by kernel_rfl)) rfl ?_
 exact ⟨rfl, below_setRow HB.out HE.out _⟩
end Go.Proofs.Ytohkmmbmfhficaa.PM
