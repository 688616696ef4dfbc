/- Words and walks that this claim names, of those that the kit's print and programs of this workplace have printed. -/
import Derived.Test.YtohkmmbmfhficaaZTCz
import Derived.Test.YtohkmmbmfhficaaZTPTx5
namespace Go.Proofs.Ytohkmmbmfhficaa.PT
open Go.Proofs.Ytohkmmbmfhficaa Go.RowKit Go.Proofs.YtohkmmbmfhficaaW.PrintWords Go.Proofs.YtohkmmbmfhficaaW.PrintLast Go.Proofs.YtohkmmbmfhficaaW.PrintMore
attribute [local go_sem] max2_int min2_int max_two min_two max_three min_three max_four min_four
set_option linter.unusedVariables false
set_option linter.unusedSimpArgs false
def extent_Cut_p.j0 : Nat → Int → Int → Bool → Int → Int → Int → Int → List Int → Option (Int × Int × Int × Int × List Int × Bool)
 | 0, _, _, _, _, _, _, _, _ => none
 | k + 1, x1, x2, x23, x109000, x109001, x109002, x109003, x109004 => if x23 = true then (some (0, 0, 0, 0, ([] : List Int), false)) else (if (mx x109000 x1) ≥ (mn (wrap64 (x109000 + x109001)) (wrap64 (x1 + x2))) then (some (0, 0, 0, 0, ([] : List Int), false)) else (if x109002 = 2 then (if 0 ≤ (wrap64 ((wrap64 ((mx x109000 x1) - x109000)) * 32)) then (if (wrap64 ((wrap64 ((mx x109000 x1) - x109000)) * 32)) ≤ (wrap64 ((wrap64 ((mn (wrap64 (x109000 + x109001)) (wrap64 (x1 + x2))) - x109000)) * 32)) then (if (wrap64 ((wrap64 ((mn (wrap64 (x109000 + x109001)) (wrap64 (x1 + x2))) - x109000)) * 32)) ≤ (x109004.length : Int) then ((bytes_Clone.f ((x109004.take ((wrap64 ((wrap64 ((mn (wrap64 (x109000 + x109001)) (wrap64 (x1 + x2))) - x109000)) * 32)) : Int).toNat).drop ((wrap64 ((wrap64 ((mx x109000 x1) - x109000)) * 32)) : Int).toNat)).bind fun t114 => (some (mx x109000 x1, wrap64 ((mn (wrap64 (x109000 + x109001)) (wrap64 (x1 + x2))) - (mx x109000 x1)), x109002, x109003, t114, true))) else (none)) else (none)) else (none)) else (some (mx x109000 x1, wrap64 ((mn (wrap64 (x109000 + x109001)) (wrap64 (x1 + x2))) - (mx x109000 x1)), x109002, x109003, ([] : List Int), true))))
def extent_Cut_p.f (k : Nat) (a0_0 : Int) (a0_1 : Int) (a0_2 : Int) (a0_3 : Int) (l0_4 : List Int) (a1 : Int) (a2 : Int) : Option (Int × Int × Int × Int × List Int × Bool) := (extent_Check.f a0_0 a0_1 a0_2 a0_3 l0_4).bind fun t110 => (if t110 = true then ((extent_within.f a1 0 64).bind fun t111 => (if t111 = true then ((extent_within.f a2 0 64).bind fun t112 => (extent_Cut_p.j0 k a1 a2 (!t112) a0_0 a0_1 a0_2 a0_3 l0_4)) else (extent_Cut_p.j0 k a1 a2 true a0_0 a0_1 a0_2 a0_3 l0_4))) else (extent_Cut_p.j0 k a1 a2 true a0_0 a0_1 a0_2 a0_3 l0_4))
set_option maxHeartbeats 8000000 in
set_option maxRecDepth 100000 in
theorem extent_Cut_p.calls (k : Nat) (a0_0 : Int) (a0_1 : Int) (a0_2 : Int) (a0_3 : Int) (A0_4 : Option Addr) (c0_4 : Nat) (l0_4 : List Int) (a1 : Int) (a2 : Int) (r1 : Int) (r2 : Int) (r3 : Int) (r4 : Int) (r5 : List Int) (r6 : Bool) (w : World) (hr0_4 : Kd.C (Kd.int .u8) w A0_4 l0_4.length l0_4) (hc0_4 : l0_4.length ≤ c0_4) (h : extent_Cut_p.f k a0_0 a0_1 a0_2 a0_3 l0_4 a1 a2 = some (r1, r2, r3, r4, r5, r6)) :
  Calls Try.prog 62 #[.agg #[.int .i64 a0_0, .int .i64 a0_1, .int .i64 a0_2, .int .i64 a0_3, .slice A0_4 l0_4.length c0_4], .int .i64 a1, .int .i64 a2] w fun e w' => ∃ v4_ : Value, e = .returned (.tuple #[.agg #[.int .i64 r1, .int .i64 r2, .int .i64 r3, .int .i64 r4, v4_], .bool r6]) ∧ Kd.R (Kd.int .u8) 5 w' w.heap.size (fun _ => True) v4_ r5 ∧ Below w.heap.size w w' := by
 have hu0 := Try.underlying36
 have HR0_4 := Aside0.mk hr0_4
 have HC0_4 := Aside0.mk hc0_4
 clear hr0_4 hc0_4
 have HB := Aside0.mk (Below.refl w.heap.size w)
 have H : ((extent_Check.f a0_0 a0_1 a0_2 a0_3 l0_4).bind fun t0 => (if t0 = true then ((extent_within.f a1 0 64).bind fun t1 => (if t1 = true then ((extent_within.f a2 0 64).bind fun t2 => (extent_Cut_p.j0 k a1 a2 (!t2) a0_0 a0_1 a0_2 a0_3 l0_4)) else (extent_Cut_p.j0 k a1 a2 true a0_0 a0_1 a0_2 a0_3 l0_4))) else (extent_Cut_p.j0 k a1 a2 true a0_0 a0_1 a0_2 a0_3 l0_4))) = some (r1, r2, r3, r4, r5, r6) := h
 clear h
 have HC1 := Aside0.mk H
 clear H
 go_enter Try.func62, Try.ntmps62
 go_upto_region 1 with (first | ((with_reducible refine gate_dst (N := 3) rfl ?_); refine Cz.bx (N := 3) #[.int .i64 a0_0, .int .i64 a0_1, .int .i64 a0_2, .int .i64 a0_3, .slice A0_4 l0_4.length c0_4] 36 ?_; intro gb0 hg w5 hbox hb; have BK0 := Aside0.mk (hbox); have GW0 := Aside0.mk ((Cz.gs hg : w.heap.size ≤ gb0)); have GE0 := GW0; replace HB := Cz.bs (w := w) hb; clear hb hbox hg) | ((with_reducible refine gate_dst (N := 6) rfl ?_); refine Cz.bx (N := 6) #[.int .i64 0, .int .i64 0, .int .i64 0, .int .i64 0, .slice none 0 0] 36 ?_; intro gb1 hg w0 hbox hb; have BK1 := Aside0.mk (hbox); have GW1 := Aside0.mk ((Cz.gs hg : w.heap.size ≤ gb1)); have GE1 := GW1; have NB0_109 := Aside0.mk ((Cz.nl BK0 hg : gb0 ≠ gb1)); have NB1_108 := Aside0.mk ((Cz.nr BK0 hg : gb1 ≠ gb0)); replace BK0 := Cz.bk BK0 hb; replace HB := Cz.bs (w := w) hb; clear hb hbox hg))
 repeat (go_quiet (first | ((with_reducible refine gate_dst (N := 3) rfl ?_); refine Cz.bx (N := 3) #[.int .i64 a0_0, .int .i64 a0_1, .int .i64 a0_2, .int .i64 a0_3, .slice A0_4 l0_4.length c0_4] 36 ?_; intro gb0 hg w5 hbox hb; have BK0 := Aside0.mk (hbox); have GW0 := Aside0.mk ((Cz.gs hg : w.heap.size ≤ gb0)); have GE0 := GW0; replace HB := Cz.bs (w := w) hb; clear hb hbox hg) | ((with_reducible refine gate_dst (N := 6) rfl ?_); refine Cz.bx (N := 6) #[.int .i64 0, .int .i64 0, .int .i64 0, .int .i64 0, .slice none 0 0] 36 ?_; intro gb1 hg w0 hbox hb; have BK1 := Aside0.mk (hbox); have GW1 := Aside0.mk ((Cz.gs hg : w.heap.size ≤ gb1)); have GE1 := GW1; have NB0_109 := Aside0.mk ((Cz.nl BK0 hg : gb0 ≠ gb1)); have NB1_108 := Aside0.mk ((Cz.nr BK0 hg : gb1 ≠ gb0)); replace BK0 := Cz.bk BK0 hb; replace HB := Cz.bs (w := w) hb; clear hb hbox hg)); go_upto_region 1 with (first | ((with_reducible refine gate_dst (N := 3) rfl ?_); refine Cz.bx (N := 3) #[.int .i64 a0_0, .int .i64 a0_1, .int .i64 a0_2, .int .i64 a0_3, .slice A0_4 l0_4.length c0_4] 36 ?_; intro gb0 hg w5 hbox hb; have BK0 := Aside0.mk (hbox); have GW0 := Aside0.mk ((Cz.gs hg : w.heap.size ≤ gb0)); have GE0 := GW0; replace HB := Cz.bs (w := w) hb; clear hb hbox hg) | ((with_reducible refine gate_dst (N := 6) rfl ?_); refine Cz.bx (N := 6) #[.int .i64 0, .int .i64 0, .int .i64 0, .int .i64 0, .slice none 0 0] 36 ?_; intro gb1 hg w0 hbox hb; have BK1 := Aside0.mk (hbox); have GW1 := Aside0.mk ((Cz.gs hg : w.heap.size ≤ gb1)); have GE1 := GW1; have NB0_109 := Aside0.mk ((Cz.nl BK0 hg : gb0 ≠ gb1)); have NB1_108 := Aside0.mk ((Cz.nr BK0 hg : gb1 ≠ gb0)); replace BK0 := Cz.bk BK0 hb; replace HB := Cz.bs (w := w) hb; clear hb hbox hg)))
 (try simp only [Act.put, Kx.sb, Kx.sz, Kx.ss])
 go_cut [23] (fun v23 wc => ∃ (kq : Nat) (x0_3 : Bool), v23 = .bool x0_3 ∧ Aside0 (extent_Cut_p.j0 kq a1 a2 x0_3 a0_0 a0_1 a0_2 a0_3 l0_4 = some (r1, r2, r3, r4, r5, r6)) ∧ Aside0 (kq ≤ k) ∧ Aside0 (wc.heap[gb0]? = some (.cells #[.int .i64 a0_0, .int .i64 a0_1, .int .i64 a0_2, .int .i64 a0_3, (.slice A0_4 l0_4.length c0_4)] 36 (0, 0))) ∧ Aside0 (wc.heap[gb1]? = some (.cells #[.int .i64 0, .int .i64 0, .int .i64 0, .int .i64 0, (.slice none 0 0)] 36 (0, 0))) ∧ Aside0 (Below w.heap.size w wc))
 case first =>
  have H := HC1.out
  clear HC1
  replace H := Option.bind_eq_some_iff.mp H
  obtain ⟨t0, A1, H⟩ := H
  (try dsimp only at H)
  have A2 := Aside0.mk A1
  clear A1
  by_cases c8 : t0 = true
  focus
   subst c8
   rw [if_pos rfl] at H
   replace H := Option.bind_eq_some_iff.mp H
   obtain ⟨t1, A3, H⟩ := H
   (try dsimp only at H)
   have A4 := Aside0.mk A3
   clear A3
   by_cases c10 : t1 = true
   ·subst c10
    rw [if_pos rfl] at H
    replace H := Option.bind_eq_some_iff.mp H
    obtain ⟨t2, A5, H⟩ := H
    (try dsimp only at H)
    have A6 := Aside0.mk A5
    clear A5
    have H' := Aside0.mk H
    clear H
    have hnb0 := NB0_109.out
    have hnc0 := NB1_108.out
    obtain ⟨z0_0, z0_1, z0_2, z0_3, z0_4, y0_0, y0_1, y0_2, y0_3, y0_4⟩ := Cz.d5 BK0
    go_wp2_with (first | (go_at_call 55; (with_reducible refine (extent_Check.calls a0_0 a0_1 a0_2 a0_3 _ _ l0_4 true _ ?side0 ?side1 A2.out).mono ?_); (case side0 => exact Cz.cb HR0_4); (case side1 => exact HC0_4.out); rintro e w1 ⟨rfl, hb⟩; replace BK0 := Cz.bk BK0 hb; replace BK1 := Cz.bk BK1 hb; replace HB := Cz.bs (w := w) hb; (try clear hb)) | (go_at_call 77; (with_reducible refine (extent_within.calls a1 0 64 true _ A4.out).mono ?_); rintro e w' ⟨rfl, ⟨nd, rfl⟩⟩; (try first | exact ⟨rfl, _, World.drewN_drewN _ _ _⟩ | exact ⟨rfl, _, Eq.trans (World.drewN_drewN _ _ _) (congrArg (World.drewN _) (Nat.add_assoc _ _ _))⟩)) | (go_at_call 77; (with_reducible refine (extent_within.calls a2 0 64 t2 _ A6.out).mono ?_); rintro e w' ⟨rfl, ⟨nd, rfl⟩⟩; (try first | exact ⟨rfl, _, World.drewN_drewN _ _ _⟩ | exact ⟨rfl, _, Eq.trans (World.drewN_drewN _ _ _) (congrArg (World.drewN _) (Nat.add_assoc _ _ _))⟩)))
    repeat (go_quiet (first | (go_at_call 55; (with_reducible refine (extent_Check.calls a0_0 a0_1 a0_2 a0_3 _ _ l0_4 true _ ?side0 ?side1 A2.out).mono ?_); (case side0 => exact Cz.cb HR0_4); (case side1 => exact HC0_4.out); rintro e w1 ⟨rfl, hb⟩; replace BK0 := Cz.bk BK0 hb; replace BK1 := Cz.bk BK1 hb; replace HB := Cz.bs (w := w) hb; (try clear hb)) | (go_at_call 77; (with_reducible refine (extent_within.calls a1 0 64 true _ A4.out).mono ?_); rintro e w' ⟨rfl, ⟨nd, rfl⟩⟩; (try first | exact ⟨rfl, _, World.drewN_drewN _ _ _⟩ | exact ⟨rfl, _, Eq.trans (World.drewN_drewN _ _ _) (congrArg (World.drewN _) (Nat.add_assoc _ _ _))⟩)) | (go_at_call 77; (with_reducible refine (extent_within.calls a2 0 64 t2 _ A6.out).mono ?_); rintro e w' ⟨rfl, ⟨nd, rfl⟩⟩; (try first | exact ⟨rfl, _, World.drewN_drewN _ _ _⟩ | exact ⟨rfl, _, Eq.trans (World.drewN_drewN _ _ _) (congrArg (World.drewN _) (Nat.add_assoc _ _ _))⟩))); try go_wp2_with (first | (go_at_call 55; (with_reducible refine (extent_Check.calls a0_0 a0_1 a0_2 a0_3 _ _ l0_4 true _ ?side0 ?side1 A2.out).mono ?_); (case side0 => exact Cz.cb HR0_4); (case side1 => exact HC0_4.out); rintro e w1 ⟨rfl, hb⟩; replace BK0 := Cz.bk BK0 hb; replace BK1 := Cz.bk BK1 hb; replace HB := Cz.bs (w := w) hb; (try clear hb)) | (go_at_call 77; (with_reducible refine (extent_within.calls a1 0 64 true _ A4.out).mono ?_); rintro e w' ⟨rfl, ⟨nd, rfl⟩⟩; (try first | exact ⟨rfl, _, World.drewN_drewN _ _ _⟩ | exact ⟨rfl, _, Eq.trans (World.drewN_drewN _ _ _) (congrArg (World.drewN _) (Nat.add_assoc _ _ _))⟩)) | (go_at_call 77; (with_reducible refine (extent_within.calls a2 0 64 t2 _ A6.out).mono ?_); rintro e w' ⟨rfl, ⟨nd, rfl⟩⟩; (try first | exact ⟨rfl, _, World.drewN_drewN _ _ _⟩ | exact ⟨rfl, _, Eq.trans (World.drewN_drewN _ _ _) (congrArg (World.drewN _) (Nat.add_assoc _ _ _))⟩))))
    go_meet
    case rel => exact ⟨_, (!t2), Cz.si, H', ⟨by first | omega | exact Nat.le_refl _⟩, ⟨by (with_reducible repeat (first | refine blk_drewN ?_ _ | refine blk_drew ?_ | refine blk_alloc ?_ _)); exact BK0.out⟩, ⟨by (with_reducible repeat (first | refine blk_drewN ?_ _ | refine blk_drew ?_ | refine blk_alloc ?_ _)); exact BK1.out⟩, ⟨Cz.bl (w := w)⟩⟩
   replace c10 := Bool.eq_false_iff.mpr c10
   subst c10
  rotate_left
  focus
   replace c8 := Bool.eq_false_iff.mpr c8
   subst c8
  rotate_left
  all_goals
   rw [if_neg (show ¬ (false = true) by decide)] at H
   have H' := Aside0.mk H
   clear H
   have hnb0 := NB0_109.out
   have hnc0 := NB1_108.out
   obtain ⟨z0_0, z0_1, z0_2, z0_3, z0_4, y0_0, y0_1, y0_2, y0_3, y0_4⟩ := Cz.d5 BK0
  focus
   go_wp2_with (first | (go_at_call 55; (with_reducible refine (extent_Check.calls a0_0 a0_1 a0_2 a0_3 _ _ l0_4 true _ ?side0 ?side1 A2.out).mono ?_); (case side0 => exact Cz.cb HR0_4); (case side1 => exact HC0_4.out); rintro e w1 ⟨rfl, hb⟩; replace BK0 := Cz.bk BK0 hb; replace BK1 := Cz.bk BK1 hb; replace HB := Cz.bs (w := w) hb; (try clear hb)) | (go_at_call 77; (with_reducible refine (extent_within.calls a1 0 64 false _ A4.out).mono ?_); rintro e w' ⟨rfl, ⟨nd, rfl⟩⟩; (try first | exact ⟨rfl, _, World.drewN_drewN _ _ _⟩ | exact ⟨rfl, _, Eq.trans (World.drewN_drewN _ _ _) (congrArg (World.drewN _) (Nat.add_assoc _ _ _))⟩)))
   repeat (go_quiet (first | (go_at_call 55; (with_reducible refine (extent_Check.calls a0_0 a0_1 a0_2 a0_3 _ _ l0_4 true _ ?side0 ?side1 A2.out).mono ?_); (case side0 => exact Cz.cb HR0_4); (case side1 => exact HC0_4.out); rintro e w1 ⟨rfl, hb⟩; replace BK0 := Cz.bk BK0 hb; replace BK1 := Cz.bk BK1 hb; replace HB := Cz.bs (w := w) hb; (try clear hb)) | (go_at_call 77; (with_reducible refine (extent_within.calls a1 0 64 false _ A4.out).mono ?_); rintro e w' ⟨rfl, ⟨nd, rfl⟩⟩; (try first | exact ⟨rfl, _, World.drewN_drewN _ _ _⟩ | exact ⟨rfl, _, Eq.trans (World.drewN_drewN _ _ _) (congrArg (World.drewN _) (Nat.add_assoc _ _ _))⟩))); try go_wp2_with (first | (go_at_call 55; (with_reducible refine (extent_Check.calls a0_0 a0_1 a0_2 a0_3 _ _ l0_4 true _ ?side0 ?side1 A2.out).mono ?_); (case side0 => exact Cz.cb HR0_4); (case side1 => exact HC0_4.out); rintro e w1 ⟨rfl, hb⟩; replace BK0 := Cz.bk BK0 hb; replace BK1 := Cz.bk BK1 hb; replace HB := Cz.bs (w := w) hb; (try clear hb)) | (go_at_call 77; (with_reducible refine (extent_within.calls a1 0 64 false _ A4.out).mono ?_); rintro e w' ⟨rfl, ⟨nd, rfl⟩⟩; (try first | exact ⟨rfl, _, World.drewN_drewN _ _ _⟩ | exact ⟨rfl, _, Eq.trans (World.drewN_drewN _ _ _) (congrArg (World.drewN _) (Nat.add_assoc _ _ _))⟩))))
  rotate_left
  focus
   go_wp2_with (first | (go_at_call 55; (with_reducible refine (extent_Check.calls a0_0 a0_1 a0_2 a0_3 _ _ l0_4 false _ ?side0 ?side1 A2.out).mono ?_); (case side0 => exact Cz.cb HR0_4); (case side1 => exact HC0_4.out); rintro e w1 ⟨rfl, hb⟩; replace BK0 := Cz.bk BK0 hb; replace BK1 := Cz.bk BK1 hb; replace HB := Cz.bs (w := w) hb; (try clear hb)))
   repeat (go_quiet (first | (go_at_call 55; (with_reducible refine (extent_Check.calls a0_0 a0_1 a0_2 a0_3 _ _ l0_4 false _ ?side0 ?side1 A2.out).mono ?_); (case side0 => exact Cz.cb HR0_4); (case side1 => exact HC0_4.out); rintro e w1 ⟨rfl, hb⟩; replace BK0 := Cz.bk BK0 hb; replace BK1 := Cz.bk BK1 hb; replace HB := Cz.bs (w := w) hb; (try clear hb))); try go_wp2_with (first | (go_at_call 55; (with_reducible refine (extent_Check.calls a0_0 a0_1 a0_2 a0_3 _ _ l0_4 false _ ?side0 ?side1 A2.out).mono ?_); (case side0 => exact Cz.cb HR0_4); (case side1 => exact HC0_4.out); rintro e w1 ⟨rfl, hb⟩; replace BK0 := Cz.bk BK0 hb; replace BK1 := Cz.bk BK1 hb; replace HB := Cz.bs (w := w) hb; (try clear hb))))
  rotate_left
  all_goals
   go_meet
   case rel => exact ⟨_, (true), Cz.si, H', ⟨by first | omega | exact Nat.le_refl _⟩, ⟨by (with_reducible repeat (first | refine blk_drewN ?_ _ | refine blk_drew ?_ | refine blk_alloc ?_ _)); exact BK0.out⟩, ⟨by (with_reducible repeat (first | refine blk_drewN ?_ _ | refine blk_drew ?_ | refine blk_alloc ?_ _)); exact BK1.out⟩, ⟨Cz.bl (w := w)⟩⟩
 case rest =>
  clear HC1
  try clear c1
  try clear p2
  try clear c6
  try clear c8
  try clear c10
  try clear c12
  try clear c15
  try clear c18
  try clear z0_0 z0_1 z0_2 z0_3 z0_4 y0_0 y0_1 y0_2 y0_3 y0_4
  try clear z1_0 z1_1 z1_2 z1_3 z1_4 y1_0 y1_1 y1_2 y1_3 y1_4
  try clear z2_0 z2_1 z2_2 z2_3 z2_4 y2_0 y2_1 y2_2 y2_3 y2_4
  obtain ⟨kq, x0_3, rfl, HA, HJ0, BK0, BK1, HB⟩ := hcut
  cases kq with
  | zero => exact absurd HA.out (by simp [extent_Cut_p.j0])
  | succ kj0 =>
   have H := HA.out
   clear HA
   simp only [extent_Cut_p.j0] at H
   by_cases c21 : x0_3 = true
   focus
    subst c21
    rw [if_pos rfl] at H
   rotate_left
   focus
    replace c21 := Bool.eq_false_iff.mpr c21
    subst c21
    rw [if_neg (show ¬ (false = true) by decide)] at H
    obtain ⟨ji0, hji0⟩ : ∃ j_ : Int, (mx a0_0 a1) = j_ := ⟨_, rfl⟩
    replace H : (if (ji0) ≥ (mn (wrap64 (a0_0 + a0_1)) (wrap64 (a1 + a2))) then (some (0, 0, 0, 0, ([] : List Int), false)) else (if a0_2 = 2 then (if 0 ≤ (wrap64 ((wrap64 ((ji0) - a0_0)) * 32)) then (if (wrap64 ((wrap64 ((ji0) - a0_0)) * 32)) ≤ (wrap64 ((wrap64 ((mn (wrap64 (a0_0 + a0_1)) (wrap64 (a1 + a2))) - a0_0)) * 32)) then (if (wrap64 ((wrap64 ((mn (wrap64 (a0_0 + a0_1)) (wrap64 (a1 + a2))) - a0_0)) * 32)) ≤ (l0_4.length : Int) then ((bytes_Clone.f ((l0_4.take ((wrap64 ((wrap64 ((mn (wrap64 (a0_0 + a0_1)) (wrap64 (a1 + a2))) - a0_0)) * 32)) : Int).toNat).drop ((wrap64 ((wrap64 ((ji0) - a0_0)) * 32)) : Int).toNat)).bind fun t3 => (some (ji0, wrap64 ((mn (wrap64 (a0_0 + a0_1)) (wrap64 (a1 + a2))) - (ji0)), a0_2, a0_3, t3, true))) else (none)) else (none)) else (none)) else (some (ji0, wrap64 ((mn (wrap64 (a0_0 + a0_1)) (wrap64 (a1 + a2))) - (ji0)), a0_2, a0_3, ([] : List Int), true)))) = some (r1, r2, r3, r4, r5, r6) := by first | (rw [hji0] at H; exact H) | (simp only [hji0] at H ⊢; exact H)
    have hji0_ : (if a0_0 < a1 then a1 else a0_0) = ji0 := hji0
    obtain ⟨ji1, hji1⟩ : ∃ j_ : Int, (mn (wrap64 (a0_0 + a0_1)) (wrap64 (a1 + a2))) = j_ := ⟨_, rfl⟩
    replace H : (if (ji0) ≥ (ji1) then (some (0, 0, 0, 0, ([] : List Int), false)) else (if a0_2 = 2 then (if 0 ≤ (wrap64 ((wrap64 ((ji0) - a0_0)) * 32)) then (if (wrap64 ((wrap64 ((ji0) - a0_0)) * 32)) ≤ (wrap64 ((wrap64 ((ji1) - a0_0)) * 32)) then (if (wrap64 ((wrap64 ((ji1) - a0_0)) * 32)) ≤ (l0_4.length : Int) then ((bytes_Clone.f ((l0_4.take ((wrap64 ((wrap64 ((ji1) - a0_0)) * 32)) : Int).toNat).drop ((wrap64 ((wrap64 ((ji0) - a0_0)) * 32)) : Int).toNat)).bind fun t3 => (some (ji0, wrap64 ((ji1) - (ji0)), a0_2, a0_3, t3, true))) else (none)) else (none)) else (none)) else (some (ji0, wrap64 ((ji1) - (ji0)), a0_2, a0_3, ([] : List Int), true)))) = some (r1, r2, r3, r4, r5, r6) := by first | (rw [hji1] at H; exact H) | (simp only [hji1] at H ⊢; exact H)
    have hji1_ : (if (wrap64 (a1 + a2)) < (wrap64 (a0_0 + a0_1)) then (wrap64 (a1 + a2)) else (wrap64 (a0_0 + a0_1))) = ji1 := hji1
    by_cases c2 : (ji0) ≥ (ji1)
    rotate_left
    ·rw [if_neg c2] at H
     have c2b0 : decide ((ji1) ≤ (ji0)) = false := decide_eq_false c2
     clear c2
     by_cases c3 : a0_2 = 2
     focus
      rw [if_pos c3] at H
      have c3b0 : (a0_2 == 2) = true := beq_iff_eq.mpr c3
      have c3b1 : (a0_2 != 2) = false := bne_eq_false_iff_eq.mpr c3
      clear c3
      obtain ⟨ji2, hji2⟩ : ∃ j_ : Int, (wrap64 ((wrap64 ((ji0) - a0_0)) * 32)) = j_ := ⟨_, rfl⟩
      replace H : (if 0 ≤ (ji2) then (if (ji2) ≤ (wrap64 ((wrap64 ((ji1) - a0_0)) * 32)) then (if (wrap64 ((wrap64 ((ji1) - a0_0)) * 32)) ≤ (l0_4.length : Int) then ((bytes_Clone.f ((l0_4.take ((wrap64 ((wrap64 ((ji1) - a0_0)) * 32)) : Int).toNat).drop ((ji2) : Int).toNat)).bind fun t3 => (some (ji0, wrap64 ((ji1) - (ji0)), a0_2, a0_3, t3, true))) else (none)) else (none)) else (none)) = some (r1, r2, r3, r4, r5, r6) := by first | (rw [hji2] at H; exact H) | (simp only [hji2] at H ⊢; exact H)
      have hji2w : (IntKind.i64.wrap ((wrap64 ((ji0) - a0_0)) * 32)) = ji2 := (i64_w _).trans hji2
      by_cases c32 : 0 ≤ (ji2)
      rotate_left
      ·rw [if_neg c32] at H
       exact absurd H (by simp)
      rw [if_pos c32] at H
      have c32b0 := eq_true c32
      have c32b1 : decide (0 ≤ (ji2)) = true := decide_eq_true c32
      clear c32
      by_cases c4 : (ji2) ≤ (wrap64 ((wrap64 ((ji1) - a0_0)) * 32))
      rotate_left
      ·rw [if_neg c4] at H
       exact absurd H (by simp)
      rw [if_pos c4] at H
      have c4b0 := eq_true c4
      have c4b1 : decide ((ji2) ≤ (wrap64 ((wrap64 ((ji1) - a0_0)) * 32))) = true := decide_eq_true c4
      clear c4
      by_cases c5 : (wrap64 ((wrap64 ((ji1) - a0_0)) * 32)) ≤ (l0_4.length : Int)
      rotate_left
      ·rw [if_neg c5] at H
       exact absurd H (by simp)
      rw [if_pos c5] at H
      have c5b0 := eq_true c5
      have c5b1 : decide ((wrap64 ((wrap64 ((ji1) - a0_0)) * 32)) ≤ (l0_4.length : Int)) = true := decide_eq_true c5
      clear c5
      replace H := Option.bind_eq_some_iff.mp H
      obtain ⟨t3, A3, H⟩ := H
      (try dsimp only at H)
      have A4 := Aside0.mk A3
      clear A3
     rotate_left
     focus
      rw [if_neg c3] at H
      have c3b0 : (a0_2 == 2) = false := beq_eq_false_iff_ne.mpr c3
      have c3b1 : (a0_2 != 2) = true := bne_iff_ne.mpr c3
     rotate_left
     all_goals
      simp only [Option.some.injEq, Prod.mk.injEq] at H
      obtain ⟨rfl, rfl, rfl, rfl, rfl, rfl⟩ := H
      have hnb0 := NB0_109.out
      have hnc0 := NB1_108.out
      obtain ⟨z3_0, z3_1, z3_2, z3_3, z3_4, y3_0, y3_1, y3_2, y3_3, y3_4⟩ := Cz.d5 BK0
     ·obtain ⟨i0, hi0, _, hsz0, _⟩ := info_parts info5
      obtain ⟨A5, hcut0, hA0, hC0⟩ := print_mid_of (P := Try.prog) (Value.int .u8) 0 27 5 .i64 .i64 Try.underlying27 hi0 hsz0 A0_4 c0_4 l0_4 (ji2) (wrap64 ((wrap64 ((ji1) - a0_0)) * 32)) (of_decide_eq_true (by first | (with_reducible assumption) | assumption)) (by first | omega | exact of_decide_eq_true (by first | (with_reducible assumption) | assumption)) (of_decide_eq_true (by first | (with_reducible assumption) | assumption)) HC0_4.out
      have HR1 := Aside0.mk (Kd.C_of_reads (h1 := fun _ => rfl) (hA0 _ (Kd.reads_of_C HR0_4.out)))
      have HC2 := Aside0.mk hC0
      clear hA0 hC0 hi0 hsz0
      obtain ⟨m0, hm0⟩ : ∃ m_, m_ = ((l0_4.take ((wrap64 ((wrap64 ((ji1) - a0_0)) * 32)) : Int).toNat).drop ((ji2) : Int).toNat) := ⟨_, rfl⟩
      have n_ := A4.out
      rw [← hm0] at n_
      clear A4
      have A4 := Aside0.mk n_
      clear n_
      have n_ := HR1.out
      rw [← hm0] at n_
      clear HR1
      have HR1 := Aside0.mk n_
      clear n_
      have n_ := HC2.out
      rw [← hm0] at n_
      clear HC2
      have HC2 := Aside0.mk n_
      clear n_
      rw [← hm0] at hcut0
      clear hm0
      go_wp2_with (first | (go_at_call 72; (with_reducible refine (bytes_Clone.calls _ _ m0 t3 _ ?side0 ?side1 A4.out).mono ?_); (case side0 => exact Kd.C_below HR1.out (Cz.bl (w := w))); (case side1 => exact HC2.out); rintro e w1 ⟨v0, rfl, ho0, hb⟩; have HO0 := Aside0.mk (Kd.R_lower ho0 (below_size (Cz.bl (w := w)))); replace BK0 := Aside0.mk (blk_below (g := gb0) (o := .cells #[.int .i64 a0_0, .int .i64 a0_1, .int .i64 a0_2, .int .i64 a0_3, .slice none 0 0] 36 (0, 0)) (by (with_reducible repeat (first | refine blk_drewN ?_ _ | refine blk_drew ?_ | refine blk_alloc ?_ _)); refine blk_put (cs := #[.int .i64 a0_0, .int .i64 a0_1, .int .i64 a0_2, .int .i64 a0_3, .slice A0_4 l0_4.length c0_4]) ?_ 4 _ rfl; (with_reducible repeat (first | refine blk_drewN ?_ _ | refine blk_drew ?_ | refine blk_alloc ?_ _)); exact BK0.out) hb); replace BK1 := Aside0.mk (blk_below (g := gb1) (o := .cells #[.int .i64 0, .int .i64 0, .int .i64 0, .int .i64 0, .slice none 0 0] 36 (0, 0)) (by (with_reducible repeat (first | refine blk_drewN ?_ _ | refine blk_drew ?_ | refine blk_alloc ?_ _)); refine blk_far ?_ NB1_108.out _; (with_reducible repeat (first | refine blk_drewN ?_ _ | refine blk_drew ?_ | refine blk_alloc ?_ _)); exact BK1.out) hb); replace HB := Cz.bs (w := w) hb; (try clear hb); (try clear ho0); obtain ⟨Ao0, co0, eo0⟩ := Kd.R_slice HO0.out; subst eo0; obtain ⟨z4_0, z4_1, z4_2, z4_3, z4_4, y4_0, y4_1, y4_2, y4_3, y4_4⟩ := Cz.d5 BK0; obtain ⟨z5_0, z5_1, z5_2, z5_3, z5_4, y5_0, y5_1, y5_2, y5_3, y5_4⟩ := Cz.d5 BK1))
      repeat (go_quiet (first | (go_at_call 72; (with_reducible refine (bytes_Clone.calls _ _ m0 t3 _ ?side0 ?side1 A4.out).mono ?_); (case side0 => exact Kd.C_below HR1.out (Cz.bl (w := w))); (case side1 => exact HC2.out); rintro e w1 ⟨v0, rfl, ho0, hb⟩; have HO0 := Aside0.mk (Kd.R_lower ho0 (below_size (Cz.bl (w := w)))); replace BK0 := Aside0.mk (blk_below (g := gb0) (o := .cells #[.int .i64 a0_0, .int .i64 a0_1, .int .i64 a0_2, .int .i64 a0_3, .slice none 0 0] 36 (0, 0)) (by (with_reducible repeat (first | refine blk_drewN ?_ _ | refine blk_drew ?_ | refine blk_alloc ?_ _)); refine blk_put (cs := #[.int .i64 a0_0, .int .i64 a0_1, .int .i64 a0_2, .int .i64 a0_3, .slice A0_4 l0_4.length c0_4]) ?_ 4 _ rfl; (with_reducible repeat (first | refine blk_drewN ?_ _ | refine blk_drew ?_ | refine blk_alloc ?_ _)); exact BK0.out) hb); replace BK1 := Aside0.mk (blk_below (g := gb1) (o := .cells #[.int .i64 0, .int .i64 0, .int .i64 0, .int .i64 0, .slice none 0 0] 36 (0, 0)) (by (with_reducible repeat (first | refine blk_drewN ?_ _ | refine blk_drew ?_ | refine blk_alloc ?_ _)); refine blk_far ?_ NB1_108.out _; (with_reducible repeat (first | refine blk_drewN ?_ _ | refine blk_drew ?_ | refine blk_alloc ?_ _)); exact BK1.out) hb); replace HB := Cz.bs (w := w) hb; (try clear hb); (try clear ho0); obtain ⟨Ao0, co0, eo0⟩ := Kd.R_slice HO0.out; subst eo0; obtain ⟨z4_0, z4_1, z4_2, z4_3, z4_4, y4_0, y4_1, y4_2, y4_3, y4_4⟩ := Cz.d5 BK0; obtain ⟨z5_0, z5_1, z5_2, z5_3, z5_4, y5_0, y5_1, y5_2, y5_3, y5_4⟩ := Cz.d5 BK1)); try go_wp2_with (first | (go_at_call 72; (with_reducible refine (bytes_Clone.calls _ _ m0 t3 _ ?side0 ?side1 A4.out).mono ?_); (case side0 => exact Kd.C_below HR1.out (Cz.bl (w := w))); (case side1 => exact HC2.out); rintro e w1 ⟨v0, rfl, ho0, hb⟩; have HO0 := Aside0.mk (Kd.R_lower ho0 (below_size (Cz.bl (w := w)))); replace BK0 := Aside0.mk (blk_below (g := gb0) (o := .cells #[.int .i64 a0_0, .int .i64 a0_1, .int .i64 a0_2, .int .i64 a0_3, .slice none 0 0] 36 (0, 0)) (by (with_reducible repeat (first | refine blk_drewN ?_ _ | refine blk_drew ?_ | refine blk_alloc ?_ _)); refine blk_put (cs := #[.int .i64 a0_0, .int .i64 a0_1, .int .i64 a0_2, .int .i64 a0_3, .slice A0_4 l0_4.length c0_4]) ?_ 4 _ rfl; (with_reducible repeat (first | refine blk_drewN ?_ _ | refine blk_drew ?_ | refine blk_alloc ?_ _)); exact BK0.out) hb); replace BK1 := Aside0.mk (blk_below (g := gb1) (o := .cells #[.int .i64 0, .int .i64 0, .int .i64 0, .int .i64 0, .slice none 0 0] 36 (0, 0)) (by (with_reducible repeat (first | refine blk_drewN ?_ _ | refine blk_drew ?_ | refine blk_alloc ?_ _)); refine blk_far ?_ NB1_108.out _; (with_reducible repeat (first | refine blk_drewN ?_ _ | refine blk_drew ?_ | refine blk_alloc ?_ _)); exact BK1.out) hb); replace HB := Cz.bs (w := w) hb; (try clear hb); (try clear ho0); obtain ⟨Ao0, co0, eo0⟩ := Kd.R_slice HO0.out; subst eo0; obtain ⟨z4_0, z4_1, z4_2, z4_3, z4_4, y4_0, y4_1, y4_2, y4_3, y4_4⟩ := Cz.d5 BK0; obtain ⟨z5_0, z5_1, z5_2, z5_3, z5_4, y5_0, y5_1, y5_2, y5_3, y5_4⟩ := Cz.d5 BK1)))
      refine bodyPost_ret (results_ct rfl _ _ gb1 36 #[.int .i64 ji0, .int .i64 (wrap64 ((ji1) - (ji0))), .int .i64 a0_2, .int .i64 a0_3, .slice Ao0 t3.length co0] (0, 0) _ rfl (by (with_reducible repeat (first | refine blk_drewN ?_ _ | refine blk_drew ?_ | refine blk_alloc ?_ _)); apply Cz.a5; refine blk_far ?_ NB1_108.out _; refine blk_far ?_ NB1_108.out _; refine blk_far ?_ NB1_108.out _; (with_reducible repeat (first | refine blk_drewN ?_ _ | refine blk_drew ?_ | refine blk_alloc ?_ _)); exact BK1.out) Try.underlying36 rfl (by kernel_rfl)) rfl ?_
      exact ⟨_, by first | rfl | (simp [errW_none, errW_some] <;> rfl) | (simp only [← hji0, ← hji1, ← hji2]; first | rfl | (simp [errW_none, errW_some] <;> rfl)) | (simp [*, errW_none, errW_some] <;> rfl), by (with_reducible repeat (first | apply Kd.R_alloc | apply Kd.R_drewN | apply Kd.R_drew)); exact Kd.R_mono (Cz.rf (Cz.rf (Cz.rf (Cz.rf (Cz.rf (Kd.R_far (p := ⟨gb0, 1, none⟩) (Kd.R_far (p := ⟨gb0, 0, none⟩) (Kd.R_far (p := ⟨gb0, 4, none⟩) (Kd.R_types (Kd.R_types HO0.out BK0.out (by decide)) BK1.out (by decide)) (fun _ hk => hk.1.2) (.slice Ao0 t3.length co0)) (fun _ hk => hk.1.2) (.int .i64 ji0)) (fun _ hk => hk.1.2) (.int .i64 (wrap64 ((ji1) - (ji0)))))))))) (fun _ hk => trivial), Cz.bl (w := w)⟩
     ·obtain ⟨z4_0, z4_1, z4_2, z4_3, z4_4, y4_0, y4_1, y4_2, y4_3, y4_4⟩ := Cz.d5 BK1
      go_wp2
      repeat (go_quiet (fail); try go_wp2)
      refine bodyPost_ret (results_ct rfl _ _ gb1 36 #[.int .i64 ji0, .int .i64 (wrap64 ((ji1) - (ji0))), .int .i64 a0_2, .int .i64 a0_3, .slice none 0 0] (0, 0) _ rfl (by (with_reducible repeat (first | refine blk_drewN ?_ _ | refine blk_drew ?_ | refine blk_alloc ?_ _)); apply Cz.a5; refine blk_far ?_ NB1_108.out _; refine blk_far ?_ NB1_108.out _; refine blk_far ?_ NB1_108.out _; (with_reducible repeat (first | refine blk_drewN ?_ _ | refine blk_drew ?_ | refine blk_alloc ?_ _)); exact BK1.out) Try.underlying36 rfl (by kernel_rfl)) rfl ?_
      exact ⟨_, by first | rfl | (simp [errW_none, errW_some] <;> rfl) | (simp only [← hji0, ← hji1]; first | rfl | (simp [errW_none, errW_some] <;> rfl)) | (simp [*, errW_none, errW_some] <;> rfl), by first | exact Kd.R_nil _ _ _ _ _ | exact Kd.N_nil _ _ _ _ _ | exact Kd.V_nil _ _ _ _ _ | exact Kd.Q_nil _ _ _ _ _ | exact Kd.S_nil _ _ _ _ _, Cz.bl (w := w)⟩
    rw [if_pos c2] at H
    have c2b0 : decide ((ji1) ≤ (ji0)) = true := decide_eq_true c2
    clear c2
   rotate_left
   all_goals
    simp only [Option.some.injEq, Prod.mk.injEq] at H
    obtain ⟨rfl, rfl, rfl, rfl, rfl, rfl⟩ := H
   focus
    have hnb0 := NB1_108.out
    have hnc0 := NB0_109.out
    obtain ⟨z3_0, z3_1, z3_2, z3_3, z3_4, y3_0, y3_1, y3_2, y3_3, y3_4⟩ := Cz.d5 BK1
   rotate_left
   focus
    have hnb0 := NB0_109.out
    have hnc0 := NB1_108.out
    obtain ⟨z3_0, z3_1, z3_2, z3_3, z3_4, y3_0, y3_1, y3_2, y3_3, y3_4⟩ := Cz.d5 BK0
    obtain ⟨z4_0, z4_1, z4_2, z4_3, z4_4, y4_0, y4_1, y4_2, y4_3, y4_4⟩ := Cz.d5 BK1
   rotate_left
   all_goals
    go_wp2
    repeat (go_quiet (fail); try go_wp2)
    refine bodyPost_ret (results_ct rfl _ _ gb1 36 #[.int .i64 0, .int .i64 0, .int .i64 0, .int .i64 0, .slice none 0 0] (0, 0) _ rfl (by (with_reducible repeat (first | refine blk_drewN ?_ _ | refine blk_drew ?_ | refine blk_alloc ?_ _)); apply Cz.a5; (with_reducible repeat (first | refine blk_drewN ?_ _ | refine blk_drew ?_ | refine blk_alloc ?_ _)); exact BK1.out) Try.underlying36 rfl (by kernel_rfl)) rfl ?_
   ·exact ⟨_, Cz.er, by first | exact Kd.R_nil _ _ _ _ _ | exact Kd.N_nil _ _ _ _ _ | exact Kd.V_nil _ _ _ _ _ | exact Kd.Q_nil _ _ _ _ _ | exact Kd.S_nil _ _ _ _ _, Cz.bl (w := w)⟩
   ·exact ⟨_, by first | rfl | (simp [errW_none, errW_some] <;> rfl) | (simp only [← hji0, ← hji1]; first | rfl | (simp [errW_none, errW_some] <;> rfl)) | (simp [*, errW_none, errW_some] <;> rfl), by first | exact Kd.R_nil _ _ _ _ _ | exact Kd.N_nil _ _ _ _ _ | exact Kd.V_nil _ _ _ _ _ | exact Kd.Q_nil _ _ _ _ _ | exact Kd.S_nil _ _ _ _ _, Cz.bl (w := w)⟩
def extent_Cut.f (a0_0 a0_1 a0_2 a0_3 : Int) (l0_4 : List Int) (a1 a2 : Int) : Option (Int × Int × Int × Int × List Int × Bool) := some (Pl.cutS a0_0 a0_1 a0_2 a0_3 l0_4 a1 a2)
theorem extent_Cut.closes {a0_0 a0_1 a0_2 a0_3 : Int} {l0_4 : List Int} {a1 a2 : Int} {r : Int × Int × Int × Int × List Int × Bool} (h : extent_Cut.f a0_0 a0_1 a0_2 a0_3 l0_4 a1 a2 = some r) : extent_Cut_p.f 1 a0_0 a0_1 a0_2 a0_3 l0_4 a1 a2 = some r := by
 rw [← h]
 have out : extent_Cut_p.j0 1 a1 a2 true a0_0 a0_1 a0_2 a0_3 l0_4 = some (0, 0, 0, 0, [], false) := by
  simp only [extent_Cut_p.j0]
  rw [if_pos trivial]
 unfold extent_Cut_p.f extent_Cut.f extent_Check.f extent_within.f
 rw [Option.bind_some, Pl.cutS]
 by_cases h0 : Pl.extOk a0_0 a0_1 a0_2 a0_3 l0_4 = true
 rotate_left
 ·rw [if_neg h0, if_neg (fun hh => h0 hh.1)]; exact out
 rw [if_pos h0]
 by_cases h1 : a1 ≥ 0
 rotate_left
 ·rw [if_neg h1, Option.bind_some, if_neg (by decide), if_neg (fun hh => h1 hh.2.1)]; exact out
 rw [if_pos h1, Option.bind_some]
 by_cases h2 : a1 ≤ 64
 rotate_left
 ·rw [decide_eq_false h2, if_neg (by decide), if_neg (fun hh => h2 hh.2.2.1)]; exact out
 rw [decide_eq_true h2, if_pos rfl]
 by_cases h3 : a2 ≥ 0
 rotate_left
 ·rw [if_neg h3, Option.bind_some, if_neg (fun hh => h3 hh.2.2.2.1)]; exact out
 rw [if_pos h3, Option.bind_some]
 by_cases h4 : a2 ≤ 64
 rotate_left
 ·rw [decide_eq_false h4, if_neg (fun hh => h4 hh.2.2.2.2.1)]; exact out
 rw [decide_eq_true h4]
 have q := Pl.extOk_iff.1 h0
 have e1 : mx a0_0 a1 = max a0_0 a1 := by unfold mx; omega
 have e2 : mn (wrap64 (a0_0 + a0_1)) (wrap64 (a1 + a2)) = min (a0_0 + a0_1) (a1 + a2) := by unfold mn wrap64; omega
 have e3 : wrap64 (wrap64 (max a0_0 a1 - a0_0) * 32) = (max a0_0 a1 - a0_0) * 32 := by unfold wrap64; omega
 have e4 : wrap64 (wrap64 (min (a0_0 + a0_1) (a1 + a2) - a0_0) * 32) = (min (a0_0 + a0_1) (a1 + a2) - a0_0) * 32 := by unfold wrap64; omega
 have e5 : wrap64 (min (a0_0 + a0_1) (a1 + a2) - max a0_0 a1) = min (a0_0 + a0_1) (a1 + a2) - max a0_0 a1 := by unfold wrap64; omega
 simp only [extent_Cut_p.j0]
 rw [if_neg (by decide), e1, e2, e3, e4, e5]
 by_cases h5 : max a0_0 a1 ≥ min (a0_0 + a0_1) (a1 + a2)
 ·rw [if_pos h5, if_neg (fun hh => absurd hh.2.2.2.2.2 (by omega))]
 have hc : Pl.extOk a0_0 a0_1 a0_2 a0_3 l0_4 = true ∧ 0 ≤ a1 ∧ a1 ≤ 64 ∧ 0 ≤ a2 ∧ a2 ≤ 64 ∧ max a0_0 a1 < min (a0_0 + a0_1) (a1 + a2) := ⟨h0, h1, h2, h3, h4, by omega⟩
 rw [if_neg h5, if_pos hc]
 by_cases h6 : a0_2 = 2
 ·have q9 := q.2.2.2.2.2.2.2.2
  rw [if_pos h6] at q9
  rw [if_pos h6, if_pos (by omega), if_pos (by omega), if_pos (by omega), if_pos h6]
  unfold bytes_Clone.f
  rw [if_pos (by rw [List.length_drop, List.length_take]; omega), Option.bind_some]
 rw [if_neg h6, if_neg h6]
theorem extent_Cut.calls (a0_0 : Int) (a0_1 : Int) (a0_2 : Int) (a0_3 : Int) (A0_4 : Option Addr) (c0_4 : Nat) (l0_4 : List Int) (a1 : Int) (a2 : Int) (r1 : Int) (r2 : Int) (r3 : Int) (r4 : Int) (r5 : List Int) (r6 : Bool) (w : World) (hr0_4 : Kd.C (Kd.int .u8) w A0_4 l0_4.length l0_4) (hc0_4 : l0_4.length ≤ c0_4) (h : extent_Cut.f a0_0 a0_1 a0_2 a0_3 l0_4 a1 a2 = some (r1, r2, r3, r4, r5, r6)) :
  Calls Try.prog 62 #[.agg #[.int .i64 a0_0, .int .i64 a0_1, .int .i64 a0_2, .int .i64 a0_3, .slice A0_4 l0_4.length c0_4], .int .i64 a1, .int .i64 a2] w fun e w' => ∃ v4_ : Value, e = .returned (.tuple #[.agg #[.int .i64 r1, .int .i64 r2, .int .i64 r3, .int .i64 r4, v4_], .bool r6]) ∧ Kd.R (Kd.int .u8) 5 w' w.heap.size (fun _ => True) v4_ r5 ∧ Below w.heap.size w w' :=
 extent_Cut_p.calls 1 a0_0 a0_1 a0_2 a0_3 A0_4 c0_4 l0_4 a1 a2 r1 r2 r3 r4 r5 r6 w hr0_4 hc0_4 (extent_Cut.closes h)
set_option maxHeartbeats 400000 in
set_option maxRecDepth 2000000 in
theorem stream_kinds.calls (w : World) : Calls Try.prog 63 #[] w fun e w' => e = .returned (.agg #[.int .i64 4, .int .i64 3, .int .i64 2]) ∧ Below w.heap.size w w' := by
 have b1 : ∀ w : World, (Instr.build 89 #[(0, .int .i64 4), (1, .int .i64 3), (2, .int .i64 2)]).run Try.prog w = .ok (.agg #[.int .i64 4, .int .i64 3, .int .i64 2]) w := fun _ => by kernel_rfl
 go_enter Try.func63, Try.ntmps63
 go_upto_region 1 with (fail)
 have HG := Aside0.mk (heap_alloc_new w (.cells #[.int .i64 0, .int .i64 0, .int .i64 0] 89))
 have HB := Aside0.mk ((Below.refl w.heap.size w).alloc (Nat.le_refl _) (.cells #[.int .i64 0, .int .i64 0, .int .i64 0] 89))
 generalize w.alloc (.cells #[.int .i64 0, .int .i64 0, .int .i64 0] 89) = w1 at HG HB ⊢
 obtain ⟨g, hg⟩ : ∃ g, g = w.heap.size := ⟨_, rfl⟩
 rw [← hg] at HG ⊢
 have HE := Aside0.mk (Nat.le_of_eq hg.symm)
 clear hg
 go_wp2_with (refine wpList_store_row rfl 89 (.tmp 0) (.tmp 1) rfl g #[.int .i64 4, .int .i64 3, .int .i64 2] rfl rfl 89 #[.int .i64 0, .int .i64 0, .int .i64 0] HG.out ?_ ?_ ?_ ?_; (case refine_1 => kernel_rfl); (case refine_2 => rfl); (case refine_3 => kernel_rfl))
 refine bodyPost_ret (results_cell_row rfl _ _ g 89 #[.int .i64 4, .int .i64 3, .int .i64 2] (0, 0) _ rfl (setRow_heap w1 g _ _ _ _ HG.out) Try.underlying89 rfl (by kernel_rfl)) rfl ?_
 exact ⟨rfl, below_setRow HB.out HE.out _⟩
end Go.Proofs.Ytohkmmbmfhficaa.PT
