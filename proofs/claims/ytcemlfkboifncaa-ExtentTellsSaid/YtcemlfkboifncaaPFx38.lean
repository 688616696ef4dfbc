/- Functions of the program as Lean functions, and that the Go code comes to just their answers: no condition but that the function says so. (Written by a program of this workplace over the kit's print, with contracts by hand.) -/
import Derived.Test.YtcemlfkboifncaaCz
import Derived.Test.YtcemlfkboifncaaPFx14
import Derived.Test.YtcemlfkboifncaaPFx34
namespace Go.Proofs.Ytcemlfkboifncaa.PF
open Go.Proofs.Ytcemlfkboifncaa Go.RowKit Go.Proofs.YtcemlfkboifncaaW.PrintWords Go.Proofs.YtcemlfkboifncaaW.PrintLast Go.Proofs.YtcemlfkboifncaaW.PrintMore
attribute [local go_sem] max2_int min2_int max_two min_two max_three min_three max_four min_four   -- for this text's walks alone
set_option linter.unusedVariables false
set_option linter.unusedSimpArgs false

/-! ### waggonerlaw07_awake: function 32 -/
def waggonerlaw07_awake.f : Option Bool := some true
theorem waggonerlaw07_awake.tells : waggonerlaw07_awake_p.f = some true := by kernel_rfl
theorem waggonerlaw07_awake.calls (r : Bool) (w : World) (h : waggonerlaw07_awake.f = some r) :
  Calls Try.prog 32 #[] w fun e w' => e = .returned (.bool r) ∧ Below w.heap.size w w' := by
 unfold waggonerlaw07_awake.f at h
 obtain rfl := Option.some.inj h
 exact waggonerlaw07_awake_p.calls true rfl w waggonerlaw07_awake.tells
/-! ### waggonerref07_Check_p: function 39 -/
def waggonerref07_Check_p.j0 : Nat → Bool → Int → Int → Int → Int → List Int → Option (Bool)
 | 0, _, _, _, _, _, _ => none
 | k + 1, x43, x235000, x235001, x235002, x235003, x235004 => if x43 = true then (some false) else (if x235002 = 2 then (some ((x235004.length : Int) == (wrap64 (32 * x235001)))) else (some ((x235004.length : Int) == 0)))
def waggonerref07_Check_p.f (k : Nat) (a0_0 : Int) (a0_1 : Int) (a0_2 : Int) (a0_3 : Int) (l0_4 : List Int) : Option (Bool) := if a0_0 < 0 then (waggonerref07_Check_p.j0 k true a0_0 a0_1 a0_2 a0_3 l0_4) else (if a0_0 > 64 then (waggonerref07_Check_p.j0 k true a0_0 a0_1 a0_2 a0_3 l0_4) else (if a0_1 < 1 then (waggonerref07_Check_p.j0 k true a0_0 a0_1 a0_2 a0_3 l0_4) else (if a0_1 > (wrap64 (64 - a0_0)) then (waggonerref07_Check_p.j0 k true a0_0 a0_1 a0_2 a0_3 l0_4) else (if a0_2 < 0 then (waggonerref07_Check_p.j0 k true a0_0 a0_1 a0_2 a0_3 l0_4) else (if a0_2 > 2 then (waggonerref07_Check_p.j0 k true a0_0 a0_1 a0_2 a0_3 l0_4) else (if a0_3 < 0 then (waggonerref07_Check_p.j0 k true a0_0 a0_1 a0_2 a0_3 l0_4) else (waggonerref07_Check_p.j0 k (decide (a0_3 ≥ 2147483648)) a0_0 a0_1 a0_2 a0_3 l0_4)))))))
theorem waggonerref07_Check_p.mono_l : ∀ k, (∀ y0 y1 y2 y3 y4 y5, LeO (waggonerref07_Check_p.j0 k y0 y1 y2 y3 y4 y5) (waggonerref07_Check_p.j0 (k + 1) y0 y1 y2 y3 y4 y5))
 | 0 => fun _ _ _ _ _ _ r h => by simp [waggonerref07_Check_p.j0] at h
 | k + 1 => by
  have ih0 := waggonerref07_Check_p.mono_l k
  ·intro y0 y1 y2 y3 y4 y5
   unfold waggonerref07_Check_p.j0
   repeat' first
   | (with_reducible exact ih0 _ _ _ _ _ _)
   | (with_reducible exact LeO.refl _)
   | (with_reducible exact LeO.none _)
   | (with_reducible refine LeO.ite ?_ ?_)
   | (with_reducible refine LeO.bind ?_ (fun _ => ?_))
   | exact ih0 _ _ _ _ _ _
   | exact LeO.none _
   | refine LeO.ite ?_ ?_
   | refine LeO.bind ?_ (fun _ => ?_)
theorem waggonerref07_Check_p.mono : ∀ a0 a1 a2 a3 a4 k, LeO (waggonerref07_Check_p.f k a0 a1 a2 a3 a4) (waggonerref07_Check_p.f (k + 1) a0 a1 a2 a3 a4) := by
 intro a0 a1 a2 a3 a4 k
 have ih0 := waggonerref07_Check_p.mono_l k
 unfold waggonerref07_Check_p.f
 repeat' first
   | (with_reducible exact ih0 _ _ _ _ _ _)
   | (with_reducible exact LeO.refl _)
   | (with_reducible exact LeO.none _)
   | (with_reducible refine LeO.ite ?_ ?_)
   | (with_reducible refine LeO.bind ?_ (fun _ => ?_))
   | exact ih0 _ _ _ _ _ _
   | exact LeO.none _
   | refine LeO.ite ?_ ?_
   | refine LeO.bind ?_ (fun _ => ?_)
set_option maxHeartbeats 8000000 in
set_option maxRecDepth 100000 in
theorem waggonerref07_Check_p.calls (k : Nat) (a0_0 : Int) (a0_1 : Int) (a0_2 : Int) (a0_3 : Int) (A0_4 : Option Addr) (c0_4 : Nat) (l0_4 : List Int) (r : Bool) (w : World) (hr0_4 : Kd.C (Kd.int .u8) w A0_4 l0_4.length l0_4) (hc0_4 : l0_4.length ≤ c0_4) (h : waggonerref07_Check_p.f k a0_0 a0_1 a0_2 a0_3 l0_4 = some r) :
  Calls Try.prog 39 #[.agg #[.int .i64 a0_0, .int .i64 a0_1, .int .i64 a0_2, .int .i64 a0_3, .slice A0_4 l0_4.length c0_4]] w fun e w' => e = .returned (.bool r) ∧ Below w.heap.size w w' := by
 have hu46 := Try.underlying46
 have HR0_4 := Aside0.mk hr0_4
 have HC0_4 := Aside0.mk hc0_4
 clear hr0_4 hc0_4
 have HB := Aside0.mk (Below.refl w.heap.size w)
 have H : (if a0_0 < 0 then (waggonerref07_Check_p.j0 k true a0_0 a0_1 a0_2 a0_3 l0_4) else (if a0_0 > 64 then (waggonerref07_Check_p.j0 k true a0_0 a0_1 a0_2 a0_3 l0_4) else (if a0_1 < 1 then (waggonerref07_Check_p.j0 k true a0_0 a0_1 a0_2 a0_3 l0_4) else (if a0_1 > (wrap64 (64 - a0_0)) then (waggonerref07_Check_p.j0 k true a0_0 a0_1 a0_2 a0_3 l0_4) else (if a0_2 < 0 then (waggonerref07_Check_p.j0 k true a0_0 a0_1 a0_2 a0_3 l0_4) else (if a0_2 > 2 then (waggonerref07_Check_p.j0 k true a0_0 a0_1 a0_2 a0_3 l0_4) else (if a0_3 < 0 then (waggonerref07_Check_p.j0 k true a0_0 a0_1 a0_2 a0_3 l0_4) else (waggonerref07_Check_p.j0 k (decide (a0_3 ≥ 2147483648)) a0_0 a0_1 a0_2 a0_3 l0_4)))))))) = some r := h
 clear h
 have HC2 := Aside0.mk H
 clear H
 go_enter Try.func39, Try.ntmps39
 go_upto_region 1 with (first | ((with_reducible refine gate_dst (N := 1) rfl ?_); refine box_event ?hg (N := 1) ?hd (cs := #[.int .i64 a0_0, .int .i64 a0_1, .int .i64 a0_2, .int .i64 a0_3, .slice A0_4 l0_4.length c0_4]) (t := 46) ?hr ?_; (case hd => rfl); (case hg => rfl); (case hr => first | (go_simp; done) | (go_simp; rfl)); intro gb234 hg w3 hbox hb; have n0_ := Cz.bs (w := w) hb; have n1_ := Aside0.mk (hbox); have n2_ := Aside0.mk ((Cz.gs hg : w.heap.size ≤ gb234)); have n3_ := Aside0.mk ((Cz.gs hg : w.heap.size ≤ gb234)); clear HB; have HB := n0_; have BK234 := n1_; have GW234 := n2_; have GE234 := n3_; clear n0_ n1_ n2_ n3_; clear hb hbox hg))
 (try simp only [Act.put, Kx.sb, Kx.sz, Kx.ss])
 go_cut [43] (fun v43 wc => ∃ (kq : Nat) (x43_1 : Bool), v43 = .bool x43_1 ∧ Aside0 (waggonerref07_Check_p.j0 kq x43_1 a0_0 a0_1 a0_2 a0_3 l0_4 = some r) ∧ Aside0 (kq ≤ k) ∧ Aside0 (wc.heap[gb234]? = some (.cells #[.int .i64 a0_0, .int .i64 a0_1, .int .i64 a0_2, .int .i64 a0_3, (.slice A0_4 l0_4.length c0_4)] 46 (0, 0))) ∧ Aside0 (Below w.heap.size w wc))
 case first =>
  have H := HC2.out
  clear HC2
  by_cases c4 : a0_0 < 0
  ·rw [if_pos c4] at H
   have c4b0 : decide (a0_0 < 0) = true := decide_eq_true c4
   clear c4
   (first | rw [c4b0] | (simp only [i64_w, i32_w]; rw [c4b0]) | skip)
   have H' := Aside0.mk H
   clear H
   obtain ⟨hcz5_0, hcz5_1, hcz5_2, hcz5_3, hcz5_4, hfz5_0, hfz5_1, hfz5_2, hfz5_3, hfz5_4⟩ := Cz.d5 BK234
   go_wp2
   go_meet
   case rel => exact ⟨_, (true), (by first | rfl | (simp; done) | (simp [*]; done)), H', ⟨by first | omega | exact Nat.le_refl _⟩, ⟨by (with_reducible repeat (first | refine blk_drewN ?_ _ | refine blk_drew ?_ | refine blk_alloc ?_ _)); exact BK234.out⟩, ⟨by repeat (first | (with_reducible first | exact HB.out | apply below_alloc | apply pw_below_drewN | apply below_drew1 | refine below_set ?_ GE234.out) | exact HB.out)⟩⟩
  ·rw [if_neg c4] at H
   have c4b0 : decide (a0_0 < 0) = false := decide_eq_false c4
   clear c4
   (first | rw [c4b0] | (simp only [i64_w, i32_w]; rw [c4b0]) | skip)
   by_cases c6 : a0_0 > 64
   ·rw [if_pos c6] at H
    have c6b0 : decide (64 < a0_0) = true := decide_eq_true c6
    clear c6
    have H' := Aside0.mk H
    clear H
    obtain ⟨hcz7_0, hcz7_1, hcz7_2, hcz7_3, hcz7_4, hfz7_0, hfz7_1, hfz7_2, hfz7_3, hfz7_4⟩ := Cz.d5 BK234
    go_wp2
    go_meet
    case rel => exact ⟨_, (true), (by first | rfl | (simp; done) | (simp [*]; done)), H', ⟨by first | omega | exact Nat.le_refl _⟩, ⟨by (with_reducible repeat (first | refine blk_drewN ?_ _ | refine blk_drew ?_ | refine blk_alloc ?_ _)); exact BK234.out⟩, ⟨by repeat (first | (with_reducible first | exact HB.out | apply below_alloc | apply pw_below_drewN | apply below_drew1 | refine below_set ?_ GE234.out) | exact HB.out)⟩⟩
   ·rw [if_neg c6] at H
    have c6b0 : decide (64 < a0_0) = false := decide_eq_false c6
    clear c6
    by_cases c8 : a0_1 < 1
    ·rw [if_pos c8] at H
     have c8b0 : decide (a0_1 < 1) = true := decide_eq_true c8
     clear c8
     have H' := Aside0.mk H
     clear H
     obtain ⟨hcz9_0, hcz9_1, hcz9_2, hcz9_3, hcz9_4, hfz9_0, hfz9_1, hfz9_2, hfz9_3, hfz9_4⟩ := Cz.d5 BK234
     go_wp2
     go_meet
     case rel => exact ⟨_, (true), (by first | rfl | (simp; done) | (simp [*]; done)), H', ⟨by first | omega | exact Nat.le_refl _⟩, ⟨by (with_reducible repeat (first | refine blk_drewN ?_ _ | refine blk_drew ?_ | refine blk_alloc ?_ _)); exact BK234.out⟩, ⟨by repeat (first | (with_reducible first | exact HB.out | apply below_alloc | apply pw_below_drewN | apply below_drew1 | refine below_set ?_ GE234.out) | exact HB.out)⟩⟩
    ·rw [if_neg c8] at H
     have c8b0 : decide (a0_1 < 1) = false := decide_eq_false c8
     clear c8
     by_cases c10 : a0_1 > (wrap64 (64 - a0_0))
     ·rw [if_pos c10] at H
      have c10b0 : decide ((wrap64 (64 - a0_0)) < a0_1) = true := decide_eq_true c10
      clear c10
      have H' := Aside0.mk H
      clear H
      obtain ⟨hcz11_0, hcz11_1, hcz11_2, hcz11_3, hcz11_4, hfz11_0, hfz11_1, hfz11_2, hfz11_3, hfz11_4⟩ := Cz.d5 BK234
      go_wp2
      go_meet
      case rel => exact ⟨_, (true), (by first | rfl | (simp; done) | (simp [*]; done)), H', ⟨by first | omega | exact Nat.le_refl _⟩, ⟨by (with_reducible repeat (first | refine blk_drewN ?_ _ | refine blk_drew ?_ | refine blk_alloc ?_ _)); exact BK234.out⟩, ⟨by repeat (first | (with_reducible first | exact HB.out | apply below_alloc | apply pw_below_drewN | apply below_drew1 | refine below_set ?_ GE234.out) | exact HB.out)⟩⟩
     ·rw [if_neg c10] at H
      have c10b0 : decide ((wrap64 (64 - a0_0)) < a0_1) = false := decide_eq_false c10
      clear c10
      by_cases c12 : a0_2 < 0
      ·rw [if_pos c12] at H
       have c12b0 : decide (a0_2 < 0) = true := decide_eq_true c12
       clear c12
       have H' := Aside0.mk H
       clear H
       obtain ⟨hcz13_0, hcz13_1, hcz13_2, hcz13_3, hcz13_4, hfz13_0, hfz13_1, hfz13_2, hfz13_3, hfz13_4⟩ := Cz.d5 BK234
       go_wp2
       go_meet
       case rel => exact ⟨_, (true), (by first | rfl | (simp; done) | (simp [*]; done)), H', ⟨by first | omega | exact Nat.le_refl _⟩, ⟨by (with_reducible repeat (first | refine blk_drewN ?_ _ | refine blk_drew ?_ | refine blk_alloc ?_ _)); exact BK234.out⟩, ⟨by repeat (first | (with_reducible first | exact HB.out | apply below_alloc | apply pw_below_drewN | apply below_drew1 | refine below_set ?_ GE234.out) | exact HB.out)⟩⟩
      ·rw [if_neg c12] at H
       have c12b0 : decide (a0_2 < 0) = false := decide_eq_false c12
       clear c12
       by_cases c14 : a0_2 > 2
       ·rw [if_pos c14] at H
        have c14b0 : decide (2 < a0_2) = true := decide_eq_true c14
        clear c14
        have H' := Aside0.mk H
        clear H
        obtain ⟨hcz15_0, hcz15_1, hcz15_2, hcz15_3, hcz15_4, hfz15_0, hfz15_1, hfz15_2, hfz15_3, hfz15_4⟩ := Cz.d5 BK234
        go_wp2
        go_meet
        case rel => exact ⟨_, (true), (by first | rfl | (simp; done) | (simp [*]; done)), H', ⟨by first | omega | exact Nat.le_refl _⟩, ⟨by (with_reducible repeat (first | refine blk_drewN ?_ _ | refine blk_drew ?_ | refine blk_alloc ?_ _)); exact BK234.out⟩, ⟨by repeat (first | (with_reducible first | exact HB.out | apply below_alloc | apply pw_below_drewN | apply below_drew1 | refine below_set ?_ GE234.out) | exact HB.out)⟩⟩
       ·rw [if_neg c14] at H
        have c14b0 : decide (2 < a0_2) = false := decide_eq_false c14
        clear c14
        by_cases c16 : a0_3 < 0
        ·rw [if_pos c16] at H
         have c16b0 : decide (a0_3 < 0) = true := decide_eq_true c16
         clear c16
         have H' := Aside0.mk H
         clear H
         obtain ⟨hcz17_0, hcz17_1, hcz17_2, hcz17_3, hcz17_4, hfz17_0, hfz17_1, hfz17_2, hfz17_3, hfz17_4⟩ := Cz.d5 BK234
         go_wp2
         go_meet
         case rel => exact ⟨_, (true), (by first | rfl | (simp; done) | (simp [*]; done)), H', ⟨by first | omega | exact Nat.le_refl _⟩, ⟨by (with_reducible repeat (first | refine blk_drewN ?_ _ | refine blk_drew ?_ | refine blk_alloc ?_ _)); exact BK234.out⟩, ⟨by repeat (first | (with_reducible first | exact HB.out | apply below_alloc | apply pw_below_drewN | apply below_drew1 | refine below_set ?_ GE234.out) | exact HB.out)⟩⟩
        ·rw [if_neg c16] at H
         have c16b0 : decide (a0_3 < 0) = false := decide_eq_false c16
         clear c16
         have H' := Aside0.mk H
         clear H
         obtain ⟨hcz18_0, hcz18_1, hcz18_2, hcz18_3, hcz18_4, hfz18_0, hfz18_1, hfz18_2, hfz18_3, hfz18_4⟩ := Cz.d5 BK234
         go_wp2
         go_meet
         case rel => exact ⟨_, (decide (a0_3 ≥ 2147483648)), (by first | rfl | (simp; done) | (simp [*]; done)), H', ⟨by first | omega | exact Nat.le_refl _⟩, ⟨by (with_reducible repeat (first | refine blk_drewN ?_ _ | refine blk_drew ?_ | refine blk_alloc ?_ _)); exact BK234.out⟩, ⟨by repeat (first | (with_reducible first | exact HB.out | apply below_alloc | apply pw_below_drewN | apply below_drew1 | refine below_set ?_ GE234.out) | exact HB.out)⟩⟩
 case rest =>
  clear HC2
  try clear c1
  try clear p2
  try clear c3
  try clear c4
  try clear c4b0
  try clear c6
  try clear c6b0
  try clear p6
  try clear c8
  try clear c8b0
  try clear c10
  try clear c10b0
  try clear c12
  try clear c12b0
  try clear c14
  try clear c14b0
  try clear c16
  try clear c16b0
  try clear hcz11_0
  try clear hcz11_1
  try clear hcz11_2
  try clear hcz11_3
  try clear hcz11_4
  try clear hcz13_0
  try clear hcz13_1
  try clear hcz13_2
  try clear hcz13_3
  try clear hcz13_4
  try clear hcz15_0
  try clear hcz15_1
  try clear hcz15_2
  try clear hcz15_3
  try clear hcz15_4
  try clear hcz17_0
  try clear hcz17_1
  try clear hcz17_2
  try clear hcz17_3
  try clear hcz17_4
  try clear hcz18_0
  try clear hcz18_1
  try clear hcz18_2
  try clear hcz18_3
  try clear hcz18_4
  try clear hcz5_0
  try clear hcz5_1
  try clear hcz5_2
  try clear hcz5_3
  try clear hcz5_4
  try clear hcz7_0
  try clear hcz7_1
  try clear hcz7_2
  try clear hcz7_3
  try clear hcz7_4
  try clear hcz9_0
  try clear hcz9_1
  try clear hcz9_2
  try clear hcz9_3
  try clear hcz9_4
  try clear hfz11_0
  try clear hfz11_1
  try clear hfz11_2
  try clear hfz11_3
  try clear hfz11_4
  try clear hfz13_0
  try clear hfz13_1
  try clear hfz13_2
  try clear hfz13_3
  try clear hfz13_4
  try clear hfz15_0
  try clear hfz15_1
  try clear hfz15_2
  try clear hfz15_3
  try clear hfz15_4
  try clear hfz17_0
  try clear hfz17_1
  try clear hfz17_2
  try clear hfz17_3
  try clear hfz17_4
  try clear hfz18_0
  try clear hfz18_1
  try clear hfz18_2
  try clear hfz18_3
  try clear hfz18_4
  try clear hfz5_0
  try clear hfz5_1
  try clear hfz5_2
  try clear hfz5_3
  try clear hfz5_4
  try clear hfz7_0
  try clear hfz7_1
  try clear hfz7_2
  try clear hfz7_3
  try clear hfz7_4
  try clear hfz9_0
  try clear hfz9_1
  try clear hfz9_2
  try clear hfz9_3
  try clear hfz9_4
  obtain ⟨kq, x43_1, rfl, HA, HJ1, BK234, HB⟩ := hcut
  cases kq with
  | zero => exact absurd HA.out (by simp [waggonerref07_Check_p.j0])
  | succ kj1 =>
   have H := HA.out
   clear HA
   simp only [waggonerref07_Check_p.j0] at H
   by_cases c19 : x43_1 = true
   ·subst c19
    rw [if_pos rfl] at H
    obtain rfl := Option.some.inj H
    go_wp2
    go_ret
    exact ⟨by first | rfl | (simp [errW_none, errW_some] <;> rfl) | (simp [*, errW_none, errW_some] <;> rfl), by repeat (first | (with_reducible first | exact HB.out | apply below_alloc | apply pw_below_drewN | apply below_drew1 | refine below_set ?_ GE234.out) | exact HB.out)⟩
   ·replace c19 := Bool.eq_false_iff.mpr c19
    subst c19
    rw [if_neg (show ¬ (false = true) by decide)] at H
    by_cases c20 : a0_2 = 2
    ·rw [if_pos c20] at H
     have c20b0 : (a0_2 == 2) = true := beq_iff_eq.mpr c20
     have c20b1 : (a0_2 != 2) = false := bne_eq_false_iff_eq.mpr c20
     clear c20
     obtain rfl := Option.some.inj H
     obtain ⟨hcz21_0, hcz21_1, hcz21_2, hcz21_3, hcz21_4, hfz21_0, hfz21_1, hfz21_2, hfz21_3, hfz21_4⟩ := Cz.d5 BK234
     go_wp2
     go_ret
     exact ⟨by first | rfl | (simp [errW_none, errW_some] <;> rfl) | (simp [*, errW_none, errW_some] <;> rfl), by repeat (first | (with_reducible first | exact HB.out | apply below_alloc | apply pw_below_drewN | apply below_drew1 | refine below_set ?_ GE234.out) | exact HB.out)⟩
    ·rw [if_neg c20] at H
     have c20b0 : (a0_2 == 2) = false := beq_eq_false_iff_ne.mpr c20
     have c20b1 : (a0_2 != 2) = true := bne_iff_ne.mpr c20
     obtain rfl := Option.some.inj H
     obtain ⟨hcz22_0, hcz22_1, hcz22_2, hcz22_3, hcz22_4, hfz22_0, hfz22_1, hfz22_2, hfz22_3, hfz22_4⟩ := Cz.d5 BK234
     go_wp2
     go_ret
     exact ⟨by first | rfl | (simp [errW_none, errW_some] <;> rfl) | (simp [*, errW_none, errW_some] <;> rfl), by repeat (first | (with_reducible first | exact HB.out | apply below_alloc | apply pw_below_drewN | apply below_drew1 | refine below_set ?_ GE234.out) | exact HB.out)⟩
/-! ### waggonerref07_Check: function 39 -/
def waggonerref07_Check.f (a0_0 a0_1 a0_2 a0_3 : Int) (l0_4 : List Int) : Option Bool := some (Pl.extOk a0_0 a0_1 a0_2 a0_3 l0_4)
theorem waggonerref07_Check.closes {a0_0 a0_1 a0_2 a0_3 : Int} {l0_4 : List Int} {r : Bool} (h : waggonerref07_Check.f a0_0 a0_1 a0_2 a0_3 l0_4 = some r) : waggonerref07_Check_p.f 1 a0_0 a0_1 a0_2 a0_3 l0_4 = some r := by
 rw [← h]
 have out : waggonerref07_Check_p.j0 1 true a0_0 a0_1 a0_2 a0_3 l0_4 = some false := by
  simp only [waggonerref07_Check_p.j0]
  rw [if_pos trivial]
 unfold waggonerref07_Check_p.f waggonerref07_Check.f Pl.extOk
 by_cases h0 : a0_0 < 0
 ·rw [if_pos h0, decide_eq_false (by omega)]; exact out
 rw [if_neg h0]
 by_cases h1 : a0_0 > 64
 ·rw [if_pos h1, decide_eq_false (by omega)]; exact out
 rw [if_neg h1]
 by_cases h2 : a0_1 < 1
 ·rw [if_pos h2, decide_eq_false (by omega)]; exact out
 rw [if_neg h2, show wrap64 (64 - a0_0) = 64 - a0_0 by unfold wrap64; omega]
 by_cases h3 : a0_1 > 64 - a0_0
 ·rw [if_pos h3, decide_eq_false (by omega)]; exact out
 rw [if_neg h3]
 by_cases h4 : a0_2 < 0
 ·rw [if_pos h4, decide_eq_false (by omega)]; exact out
 rw [if_neg h4]
 by_cases h5 : a0_2 > 2
 ·rw [if_pos h5, decide_eq_false (by omega)]; exact out
 rw [if_neg h5]
 by_cases h6 : a0_3 < 0
 ·rw [if_pos h6, decide_eq_false (by omega)]; exact out
 rw [if_neg h6]
 by_cases h7 : a0_3 ≥ 2147483648
 ·rw [decide_eq_true h7, decide_eq_false (by omega)]; exact out
 rw [decide_eq_false h7]
 simp only [waggonerref07_Check_p.j0]
 rw [if_neg (by decide), show wrap64 (32 * a0_1) = a0_1 * 32 by unfold wrap64; omega]
 by_cases h8 : a0_2 = 2
 ·rw [if_pos h8, if_pos h8, Option.some.injEq, Bool.eq_iff_iff, beq_iff_eq, decide_eq_true_eq]
  constructor
  ·intro h; exact ⟨by omega, by omega, by omega, by omega, by omega, by omega, by omega, by omega, h⟩
  ·intro h; exact h.2.2.2.2.2.2.2.2
 ·rw [if_neg h8, if_neg h8, Option.some.injEq, Bool.eq_iff_iff, beq_iff_eq, decide_eq_true_eq]
  constructor
  ·intro h; exact ⟨by omega, by omega, by omega, by omega, by omega, by omega, by omega, by omega, h⟩
  ·intro h; exact h.2.2.2.2.2.2.2.2
theorem waggonerref07_Check.calls (a0_0 : Int) (a0_1 : Int) (a0_2 : Int) (a0_3 : Int) (A0_4 : Option Addr) (c0_4 : Nat) (l0_4 : List Int) (r : Bool) (w : World) (hr0_4 : Kd.C (Kd.int .u8) w A0_4 l0_4.length l0_4) (hc0_4 : l0_4.length ≤ c0_4) (h : waggonerref07_Check.f a0_0 a0_1 a0_2 a0_3 l0_4 = some r) :
  Calls Try.prog 39 #[.agg #[.int .i64 a0_0, .int .i64 a0_1, .int .i64 a0_2, .int .i64 a0_3, .slice A0_4 l0_4.length c0_4]] w fun e w' => e = .returned (.bool r) ∧ Below w.heap.size w w' :=
 waggonerref07_Check_p.calls 1 a0_0 a0_1 a0_2 a0_3 A0_4 c0_4 l0_4 r w hr0_4 hc0_4 (waggonerref07_Check.closes h)
/-! ### waggonerref07_Cut_p: function 34 -/
def waggonerref07_Cut_p.j0 : Nat → Int → Int → Bool → Int → Int → Int → Int → List Int → Option (Int × Int × Int × Int × List Int × Bool)
 | 0, _, _, _, _, _, _, _, _ => none
 | k + 1, x1, x2, x31, x236000, x236001, x236002, x236003, x236004 => if x31 = true then (some (0, 0, 0, 0, ([] : List Int), false)) else (if (mx x236000 x1) ≥ (mn (wrap64 (x236000 + x236001)) (wrap64 (x1 + x2))) then (some (0, 0, 0, 0, ([] : List Int), false)) else (if x236002 = 2 then ((some (([] : List Int) : List Int)).bind fun y239 => (if 0 ≤ (wrap64 (32 * (wrap64 ((mx x236000 x1) - x236000)))) then (if (wrap64 (32 * (wrap64 ((mx x236000 x1) - x236000)))) ≤ (wrap64 (32 * (wrap64 ((mn (wrap64 (x236000 + x236001)) (wrap64 (x1 + x2))) - x236000)))) then (if (wrap64 (32 * (wrap64 ((mn (wrap64 (x236000 + x236001)) (wrap64 (x1 + x2))) - x236000)))) ≤ (x236004.length : Int) then (if y239.length + ((x236004.take ((wrap64 (32 * (wrap64 ((mn (wrap64 (x236000 + x236001)) (wrap64 (x1 + x2))) - x236000)))) : Int).toNat).drop ((wrap64 (32 * (wrap64 ((mx x236000 x1) - x236000)))) : Int).toNat).length < 140737488355328 then (some (mx x236000 x1, wrap64 ((mn (wrap64 (x236000 + x236001)) (wrap64 (x1 + x2))) - (mx x236000 x1)), x236002, x236003, (y239 ++ ((x236004.take ((wrap64 (32 * (wrap64 ((mn (wrap64 (x236000 + x236001)) (wrap64 (x1 + x2))) - x236000)))) : Int).toNat).drop ((wrap64 (32 * (wrap64 ((mx x236000 x1) - x236000)))) : Int).toNat)), true)) else (none)) else (none)) else (none)) else (none))) else (some (mx x236000 x1, wrap64 ((mn (wrap64 (x236000 + x236001)) (wrap64 (x1 + x2))) - (mx x236000 x1)), x236002, x236003, ([] : List Int), true))))
def waggonerref07_Cut_p.f (k : Nat) (a0_0 : Int) (a0_1 : Int) (a0_2 : Int) (a0_3 : Int) (l0_4 : List Int) (a1 : Int) (a2 : Int) : Option (Int × Int × Int × Int × List Int × Bool) := (waggonerref07_Check.f a0_0 a0_1 a0_2 a0_3 l0_4).bind fun t237 => (if t237 = true then (if a1 < 0 then (waggonerref07_Cut_p.j0 k a1 a2 true a0_0 a0_1 a0_2 a0_3 l0_4) else (if a1 > 64 then (waggonerref07_Cut_p.j0 k a1 a2 true a0_0 a0_1 a0_2 a0_3 l0_4) else (if a2 < 0 then (waggonerref07_Cut_p.j0 k a1 a2 true a0_0 a0_1 a0_2 a0_3 l0_4) else (waggonerref07_Cut_p.j0 k a1 a2 (decide (a2 > 64)) a0_0 a0_1 a0_2 a0_3 l0_4)))) else (waggonerref07_Cut_p.j0 k a1 a2 true a0_0 a0_1 a0_2 a0_3 l0_4))
theorem waggonerref07_Cut_p.mono_l : ∀ k, (∀ y0 y1 y2 y3 y4 y5 y6 y7, LeO (waggonerref07_Cut_p.j0 k y0 y1 y2 y3 y4 y5 y6 y7) (waggonerref07_Cut_p.j0 (k + 1) y0 y1 y2 y3 y4 y5 y6 y7))
 | 0 => fun _ _ _ _ _ _ _ _ r h => by simp [waggonerref07_Cut_p.j0] at h
 | k + 1 => by
  have ih0 := waggonerref07_Cut_p.mono_l k
  ·intro y0 y1 y2 y3 y4 y5 y6 y7
   unfold waggonerref07_Cut_p.j0
   repeat' first
   | (with_reducible exact ih0 _ _ _ _ _ _ _ _)
   | (with_reducible exact LeO.refl _)
   | (with_reducible exact LeO.none _)
   | (with_reducible refine LeO.ite ?_ ?_)
   | (with_reducible refine LeO.bind ?_ (fun _ => ?_))
   | exact ih0 _ _ _ _ _ _ _ _
   | exact LeO.none _
   | refine LeO.ite ?_ ?_
   | refine LeO.bind ?_ (fun _ => ?_)
theorem waggonerref07_Cut_p.mono : ∀ a0 a1 a2 a3 a4 a5 a6 k, LeO (waggonerref07_Cut_p.f k a0 a1 a2 a3 a4 a5 a6) (waggonerref07_Cut_p.f (k + 1) a0 a1 a2 a3 a4 a5 a6) := by
 intro a0 a1 a2 a3 a4 a5 a6 k
 have ih0 := waggonerref07_Cut_p.mono_l k
 unfold waggonerref07_Cut_p.f
 repeat' first
   | (with_reducible exact ih0 _ _ _ _ _ _ _ _)
   | (with_reducible exact LeO.refl _)
   | (with_reducible exact LeO.none _)
   | (with_reducible refine LeO.ite ?_ ?_)
   | (with_reducible refine LeO.bind ?_ (fun _ => ?_))
   | exact ih0 _ _ _ _ _ _ _ _
   | exact LeO.none _
   | refine LeO.ite ?_ ?_
   | refine LeO.bind ?_ (fun _ => ?_)
set_option maxHeartbeats 8000000 in
set_option maxRecDepth 100000 in
theorem waggonerref07_Cut_p.calls (k : Nat) (a0_0 : Int) (a0_1 : Int) (a0_2 : Int) (a0_3 : Int) (A0_4 : Option Addr) (c0_4 : Nat) (l0_4 : List Int) (a1 : Int) (a2 : Int) (r1 : Int) (r2 : Int) (r3 : Int) (r4 : Int) (r5 : List Int) (r6 : Bool) (w : World) (hr0_4 : Kd.C (Kd.int .u8) w A0_4 l0_4.length l0_4) (hc0_4 : l0_4.length ≤ c0_4) (h : waggonerref07_Cut_p.f k a0_0 a0_1 a0_2 a0_3 l0_4 a1 a2 = some (r1, r2, r3, r4, r5, r6)) :
  Calls Try.prog 34 #[.agg #[.int .i64 a0_0, .int .i64 a0_1, .int .i64 a0_2, .int .i64 a0_3, .slice A0_4 l0_4.length c0_4], .int .i64 a1, .int .i64 a2] w fun e w' => ∃ v4_ : Value, e = .returned (.tuple #[.agg #[.int .i64 r1, .int .i64 r2, .int .i64 r3, .int .i64 r4, v4_], .bool r6]) ∧ Kd.R (Kd.int .u8) 5 w' w.heap.size (fun _ => True) v4_ r5 ∧ Below w.heap.size w w' := by
 have hu46 := Try.underlying46
 have HR0_4 := Aside0.mk hr0_4
 have HC0_4 := Aside0.mk hc0_4
 clear hr0_4 hc0_4
 have HB := Aside0.mk (Below.refl w.heap.size w)
 have H : ((waggonerref07_Check.f a0_0 a0_1 a0_2 a0_3 l0_4).bind fun t237 => (if t237 = true then (if a1 < 0 then (waggonerref07_Cut_p.j0 k a1 a2 true a0_0 a0_1 a0_2 a0_3 l0_4) else (if a1 > 64 then (waggonerref07_Cut_p.j0 k a1 a2 true a0_0 a0_1 a0_2 a0_3 l0_4) else (if a2 < 0 then (waggonerref07_Cut_p.j0 k a1 a2 true a0_0 a0_1 a0_2 a0_3 l0_4) else (waggonerref07_Cut_p.j0 k a1 a2 (decide (a2 > 64)) a0_0 a0_1 a0_2 a0_3 l0_4)))) else (waggonerref07_Cut_p.j0 k a1 a2 true a0_0 a0_1 a0_2 a0_3 l0_4))) = some (r1, r2, r3, r4, r5, r6) := h
 clear h
 replace H := Option.bind_eq_some_iff.mp H
 obtain ⟨t237, A40, H⟩ := H
 (try dsimp only at H)
 have A4 := Aside0.mk A40
 clear A40
 have HC5 := Aside0.mk H
 clear H
 go_enter Try.func34, Try.ntmps34
 go_upto_region 2 with (first | ((with_reducible refine gate_dst (N := 3) rfl ?_); refine box_event ?hg (N := 3) ?hd (cs := #[.int .i64 a0_0, .int .i64 a0_1, .int .i64 a0_2, .int .i64 a0_3, .slice A0_4 l0_4.length c0_4]) (t := 46) ?hr ?_; (case hd => rfl); (case hg => rfl); (case hr => first | (go_simp; done) | (go_simp; rfl)); intro gb235 hg w6 hbox hb; have n0_ := Cz.bs (w := w) hb; have n1_ := Aside0.mk (hbox); have n2_ := Aside0.mk ((Cz.gs hg : w.heap.size ≤ gb235)); have n3_ := Aside0.mk ((Cz.gs hg : w.heap.size ≤ gb235)); clear HB; have HB := n0_; have BK235 := n1_; have GW235 := n2_; have GE235 := n3_; clear n0_ n1_ n2_ n3_; clear hb hbox hg) | ((with_reducible refine gate_dst (N := 6) rfl ?_); refine box_event ?hg (N := 6) ?hd (cs := #[.int .i64 0, .int .i64 0, .int .i64 0, .int .i64 0, .slice none 0 0]) (t := 46) ?hr ?_; (case hd => rfl); (case hg => rfl); (case hr => first | (go_simp; done) | (go_simp; rfl)); intro gb236 hg w7 hbox hb; have n0_ := Cz.bk BK235 hb; have n1_ := Cz.bs (w := w) hb; have n2_ := Aside0.mk (hbox); have n3_ := Aside0.mk ((Cz.gs hg : w.heap.size ≤ gb236)); have n4_ := Aside0.mk ((Cz.gs hg : w.heap.size ≤ gb236)); have n5_ := Aside0.mk ((Cz.nl BK235 hg : gb235 ≠ gb236)); have n6_ := Aside0.mk ((Cz.nr BK235 hg : gb236 ≠ gb235)); clear BK235; clear HB; have BK235 := n0_; have HB := n1_; have BK236 := n2_; have GW236 := n3_; have GE236 := n4_; have NB235_236 := n5_; have NB236_235 := n6_; clear n0_ n1_ n2_ n3_ n4_ n5_ n6_; clear hb hbox hg; have hnb8 := NB235_236.out; have hnc8 := NB236_235.out; obtain ⟨hcz9_0, hcz9_1, hcz9_2, hcz9_3, hcz9_4, hfz9_0, hfz9_1, hfz9_2, hfz9_3, hfz9_4⟩ := Cz.d5 BK235) | ((with_reducible refine gate_callee (f := 39) rfl ?_); refine Cz.gL (N := (some 13)) Try.func39 #[.agg #[.int .i64 a0_0, .int .i64 a0_1, .int .i64 a0_2, .int .i64 a0_3, .slice A0_4 l0_4.length c0_4]] ?_; (with_reducible refine (waggonerref07_Check.calls a0_0 a0_1 a0_2 a0_3 _ _ l0_4 t237 _ ?side1 ?side2 A4.out).mono ?_); (case side1 => exact Cz.cb HR0_4); (case side2 => exact HC0_4.out); rintro e w10 ⟨rfl, hb⟩; refine ⟨_, rfl, ?_⟩; have n0_ := Cz.bk BK235 hb; have n1_ := Cz.bk BK236 hb; have n2_ := Cz.bs (w := w) hb; clear BK235; clear BK236; clear HB; have BK235 := n0_; have BK236 := n1_; have HB := n2_; clear n0_ n1_ n2_; (try clear hb); (try clear hb2); (try clear hk); (try clear hi)))
 (try simp only [Act.put, Kx.sb, Kx.sz, Kx.ss])
 go_cut [31] (fun v31 wc => ∃ (kq : Nat) (x31_4 : Bool), v31 = .bool x31_4 ∧ Aside0 (waggonerref07_Cut_p.j0 kq a1 a2 x31_4 a0_0 a0_1 a0_2 a0_3 l0_4 = some (r1, r2, r3, r4, r5, r6)) ∧ Aside0 (kq ≤ k) ∧ Aside0 (wc.heap[gb235]? = some (.cells #[.int .i64 a0_0, .int .i64 a0_1, .int .i64 a0_2, .int .i64 a0_3, (.slice A0_4 l0_4.length c0_4)] 46 (0, 0))) ∧ Aside0 (wc.heap[gb236]? = some (.cells #[.int .i64 0, .int .i64 0, .int .i64 0, .int .i64 0, (.slice none 0 0)] 46 (0, 0))) ∧ Aside0 (Below w.heap.size w wc))
 case first =>
  have H := HC5.out
  clear HC5
  by_cases c11 : t237 = true
  ·subst c11
   rw [if_pos rfl] at H
   by_cases c12 : a1 < 0
   ·rw [if_pos c12] at H
    have c12b0 : decide (a1 < 0) = true := decide_eq_true c12
    clear c12
    (first | rw [c12b0] | (simp only [i64_w, i32_w]; rw [c12b0]) | skip)
    have H' := Aside0.mk H
    clear H
    go_wp2
    go_meet
    case rel => exact ⟨_, (true), (by first | rfl | (simp; done) | (simp [*]; done)), H', ⟨by first | omega | exact Nat.le_refl _⟩, ⟨by (with_reducible repeat (first | refine blk_drewN ?_ _ | refine blk_drew ?_ | refine blk_alloc ?_ _)); exact BK235.out⟩, ⟨by (with_reducible repeat (first | refine blk_drewN ?_ _ | refine blk_drew ?_ | refine blk_alloc ?_ _)); exact BK236.out⟩, ⟨by repeat (first | (with_reducible first | exact HB.out | apply below_alloc | apply pw_below_drewN | apply below_drew1 | refine below_set ?_ GE235.out | refine below_set ?_ GE236.out) | exact HB.out)⟩⟩
   ·rw [if_neg c12] at H
    have c12b0 : decide (a1 < 0) = false := decide_eq_false c12
    clear c12
    (first | rw [c12b0] | (simp only [i64_w, i32_w]; rw [c12b0]) | skip)
    by_cases c13 : a1 > 64
    ·rw [if_pos c13] at H
     have c13b0 : decide (64 < a1) = true := decide_eq_true c13
     clear c13
     have H' := Aside0.mk H
     clear H
     go_wp2
     go_meet
     case rel => exact ⟨_, (true), (by first | rfl | (simp; done) | (simp [*]; done)), H', ⟨by first | omega | exact Nat.le_refl _⟩, ⟨by (with_reducible repeat (first | refine blk_drewN ?_ _ | refine blk_drew ?_ | refine blk_alloc ?_ _)); exact BK235.out⟩, ⟨by (with_reducible repeat (first | refine blk_drewN ?_ _ | refine blk_drew ?_ | refine blk_alloc ?_ _)); exact BK236.out⟩, ⟨by repeat (first | (with_reducible first | exact HB.out | apply below_alloc | apply pw_below_drewN | apply below_drew1 | refine below_set ?_ GE235.out | refine below_set ?_ GE236.out) | exact HB.out)⟩⟩
    ·rw [if_neg c13] at H
     have c13b0 : decide (64 < a1) = false := decide_eq_false c13
     clear c13
     by_cases c14 : a2 < 0
     ·rw [if_pos c14] at H
      have c14b0 : decide (a2 < 0) = true := decide_eq_true c14
      clear c14
      have H' := Aside0.mk H
      clear H
      go_wp2
      go_meet
      case rel => exact ⟨_, (true), (by first | rfl | (simp; done) | (simp [*]; done)), H', ⟨by first | omega | exact Nat.le_refl _⟩, ⟨by (with_reducible repeat (first | refine blk_drewN ?_ _ | refine blk_drew ?_ | refine blk_alloc ?_ _)); exact BK235.out⟩, ⟨by (with_reducible repeat (first | refine blk_drewN ?_ _ | refine blk_drew ?_ | refine blk_alloc ?_ _)); exact BK236.out⟩, ⟨by repeat (first | (with_reducible first | exact HB.out | apply below_alloc | apply pw_below_drewN | apply below_drew1 | refine below_set ?_ GE235.out | refine below_set ?_ GE236.out) | exact HB.out)⟩⟩
     ·rw [if_neg c14] at H
      have c14b0 : decide (a2 < 0) = false := decide_eq_false c14
      clear c14
      have H' := Aside0.mk H
      clear H
      go_wp2
      go_meet
      case rel => exact ⟨_, (decide (a2 > 64)), (by first | rfl | (simp; done) | (simp [*]; done)), H', ⟨by first | omega | exact Nat.le_refl _⟩, ⟨by (with_reducible repeat (first | refine blk_drewN ?_ _ | refine blk_drew ?_ | refine blk_alloc ?_ _)); exact BK235.out⟩, ⟨by (with_reducible repeat (first | refine blk_drewN ?_ _ | refine blk_drew ?_ | refine blk_alloc ?_ _)); exact BK236.out⟩, ⟨by repeat (first | (with_reducible first | exact HB.out | apply below_alloc | apply pw_below_drewN | apply below_drew1 | refine below_set ?_ GE235.out | refine below_set ?_ GE236.out) | exact HB.out)⟩⟩
  ·replace c11 := Bool.eq_false_iff.mpr c11
   subst c11
   rw [if_neg (show ¬ (false = true) by decide)] at H
   have H' := Aside0.mk H
   clear H
   go_wp2
   go_meet
   case rel => exact ⟨_, (true), (by first | rfl | (simp; done) | (simp [*]; done)), H', ⟨by first | omega | exact Nat.le_refl _⟩, ⟨by (with_reducible repeat (first | refine blk_drewN ?_ _ | refine blk_drew ?_ | refine blk_alloc ?_ _)); exact BK235.out⟩, ⟨by (with_reducible repeat (first | refine blk_drewN ?_ _ | refine blk_drew ?_ | refine blk_alloc ?_ _)); exact BK236.out⟩, ⟨by repeat (first | (with_reducible first | exact HB.out | apply below_alloc | apply pw_below_drewN | apply below_drew1 | refine below_set ?_ GE235.out | refine below_set ?_ GE236.out) | exact HB.out)⟩⟩
 case rest =>
  clear HC5
  try clear c1
  try clear p2
  try clear c3
  try clear c8
  try clear c11
  try clear c12
  try clear c12b0
  try clear c13
  try clear c13b0
  try clear c14
  try clear c14b0
  try clear hcz9_0
  try clear hcz9_1
  try clear hcz9_2
  try clear hcz9_3
  try clear hcz9_4
  try clear hfz9_0
  try clear hfz9_1
  try clear hfz9_2
  try clear hfz9_3
  try clear hfz9_4
  obtain ⟨kq, x31_4, rfl, HA, HJ4, BK235, BK236, HB⟩ := hcut
  cases kq with
  | zero => exact absurd HA.out (by simp [waggonerref07_Cut_p.j0])
  | succ kj4 =>
   have H := HA.out
   clear HA
   simp only [waggonerref07_Cut_p.j0] at H
   by_cases c15 : x31_4 = true
   ·subst c15
    rw [if_pos rfl] at H
    simp only [Option.some.injEq, Prod.mk.injEq] at H
    obtain ⟨rfl, rfl, rfl, rfl, rfl, rfl⟩ := H
    have hnb16 := NB236_235.out
    have hnc16 := NB235_236.out
    obtain ⟨hcz17_0, hcz17_1, hcz17_2, hcz17_3, hcz17_4, hfz17_0, hfz17_1, hfz17_2, hfz17_3, hfz17_4⟩ := Cz.d5 BK236
    go_wp2
    refine bodyPost_ret (results_ct rfl _ _ gb236 46 #[.int .i64 0, .int .i64 0, .int .i64 0, .int .i64 0, .slice none 0 0] (0, 0) _ rfl (by (with_reducible repeat (first | refine blk_drewN ?_ _ | refine blk_drew ?_ | refine blk_alloc ?_ _)); refine blk_put (cs := #[.int .i64 0, .int .i64 0, .int .i64 0, .int .i64 0, .slice none 0 0]) ?_ 4 _ rfl; refine blk_put (cs := #[.int .i64 0, .int .i64 0, .int .i64 0, .int .i64 0, .slice none 0 0]) ?_ 3 _ rfl; refine blk_put (cs := #[.int .i64 0, .int .i64 0, .int .i64 0, .int .i64 0, .slice none 0 0]) ?_ 2 _ rfl; refine blk_put (cs := #[.int .i64 0, .int .i64 0, .int .i64 0, .int .i64 0, .slice none 0 0]) ?_ 1 _ rfl; refine blk_put (cs := #[.int .i64 0, .int .i64 0, .int .i64 0, .int .i64 0, .slice none 0 0]) ?_ 0 _ rfl; (with_reducible repeat (first | refine blk_drewN ?_ _ | refine blk_drew ?_ | refine blk_alloc ?_ _)); exact BK236.out) Try.underlying46 rfl (by kernel_rfl)) rfl ?_
    exact ⟨_, by first | rfl | (simp [errW_none, errW_some] <;> rfl) | (simp [*, errW_none, errW_some] <;> rfl), by first | exact Kd.R_nil _ _ _ _ _ | exact Kd.N_nil _ _ _ _ _ | exact Kd.V_nil _ _ _ _ _ | exact Kd.Q_nil _ _ _ _ _ | exact Kd.S_nil _ _ _ _ _, by repeat (first | (with_reducible first | exact HB.out | apply below_alloc | apply pw_below_drewN | apply below_drew1 | refine below_set ?_ GE235.out | refine below_set ?_ GE236.out) | exact HB.out)⟩
   ·replace c15 := Bool.eq_false_iff.mpr c15
    subst c15
    rw [if_neg (show ¬ (false = true) by decide)] at H
    obtain ⟨ji18, hji18⟩ : ∃ j_ : Int, (mx a0_0 a1) = j_ := ⟨_, rfl⟩
    replace H : (if (ji18) ≥ (mn (wrap64 (a0_0 + a0_1)) (wrap64 (a1 + a2))) then (some (0, 0, 0, 0, ([] : List Int), false)) else (if a0_2 = 2 then ((some (([] : List Int) : List Int)).bind fun y239 => (if 0 ≤ (wrap64 (32 * (wrap64 ((ji18) - a0_0)))) then (if (wrap64 (32 * (wrap64 ((ji18) - a0_0)))) ≤ (wrap64 (32 * (wrap64 ((mn (wrap64 (a0_0 + a0_1)) (wrap64 (a1 + a2))) - a0_0)))) then (if (wrap64 (32 * (wrap64 ((mn (wrap64 (a0_0 + a0_1)) (wrap64 (a1 + a2))) - a0_0)))) ≤ (l0_4.length : Int) then (if y239.length + ((l0_4.take ((wrap64 (32 * (wrap64 ((mn (wrap64 (a0_0 + a0_1)) (wrap64 (a1 + a2))) - a0_0)))) : Int).toNat).drop ((wrap64 (32 * (wrap64 ((ji18) - a0_0)))) : Int).toNat).length < 140737488355328 then (some (ji18, wrap64 ((mn (wrap64 (a0_0 + a0_1)) (wrap64 (a1 + a2))) - (ji18)), a0_2, a0_3, (y239 ++ ((l0_4.take ((wrap64 (32 * (wrap64 ((mn (wrap64 (a0_0 + a0_1)) (wrap64 (a1 + a2))) - a0_0)))) : Int).toNat).drop ((wrap64 (32 * (wrap64 ((ji18) - a0_0)))) : Int).toNat)), true)) else (none)) else (none)) else (none)) else (none))) else (some (ji18, wrap64 ((mn (wrap64 (a0_0 + a0_1)) (wrap64 (a1 + a2))) - (ji18)), a0_2, a0_3, ([] : List Int), true)))) = some (r1, r2, r3, r4, r5, r6) := by first | (rw [hji18] at H; exact H) | (simp only [hji18] at H ⊢; exact H)
    have hji18_ : (if a0_0 < a1 then a1 else a0_0) = ji18 := hji18
    obtain ⟨ji19, hji19⟩ : ∃ j_ : Int, (mn (wrap64 (a0_0 + a0_1)) (wrap64 (a1 + a2))) = j_ := ⟨_, rfl⟩
    replace H : (if (ji18) ≥ (ji19) then (some (0, 0, 0, 0, ([] : List Int), false)) else (if a0_2 = 2 then ((some (([] : List Int) : List Int)).bind fun y239 => (if 0 ≤ (wrap64 (32 * (wrap64 ((ji18) - a0_0)))) then (if (wrap64 (32 * (wrap64 ((ji18) - a0_0)))) ≤ (wrap64 (32 * (wrap64 ((ji19) - a0_0)))) then (if (wrap64 (32 * (wrap64 ((ji19) - a0_0)))) ≤ (l0_4.length : Int) then (if y239.length + ((l0_4.take ((wrap64 (32 * (wrap64 ((ji19) - a0_0)))) : Int).toNat).drop ((wrap64 (32 * (wrap64 ((ji18) - a0_0)))) : Int).toNat).length < 140737488355328 then (some (ji18, wrap64 ((ji19) - (ji18)), a0_2, a0_3, (y239 ++ ((l0_4.take ((wrap64 (32 * (wrap64 ((ji19) - a0_0)))) : Int).toNat).drop ((wrap64 (32 * (wrap64 ((ji18) - a0_0)))) : Int).toNat)), true)) else (none)) else (none)) else (none)) else (none))) else (some (ji18, wrap64 ((ji19) - (ji18)), a0_2, a0_3, ([] : List Int), true)))) = some (r1, r2, r3, r4, r5, r6) := by first | (rw [hji19] at H; exact H) | (simp only [hji19] at H ⊢; exact H)
    have hji19_ : (if (wrap64 (a1 + a2)) < (wrap64 (a0_0 + a0_1)) then (wrap64 (a1 + a2)) else (wrap64 (a0_0 + a0_1))) = ji19 := hji19
    by_cases c20 : (ji18) ≥ (ji19)
    ·rw [if_pos c20] at H
     have c20b0 : decide ((ji19) ≤ (ji18)) = true := decide_eq_true c20
     clear c20
     simp only [Option.some.injEq, Prod.mk.injEq] at H
     obtain ⟨rfl, rfl, rfl, rfl, rfl, rfl⟩ := H
     have hnb21 := NB235_236.out
     have hnc21 := NB236_235.out
     obtain ⟨hcz22_0, hcz22_1, hcz22_2, hcz22_3, hcz22_4, hfz22_0, hfz22_1, hfz22_2, hfz22_3, hfz22_4⟩ := Cz.d5 BK235
     obtain ⟨hcz23_0, hcz23_1, hcz23_2, hcz23_3, hcz23_4, hfz23_0, hfz23_1, hfz23_2, hfz23_3, hfz23_4⟩ := Cz.d5 BK236
     go_wp2
     refine bodyPost_ret (results_ct rfl _ _ gb236 46 #[.int .i64 0, .int .i64 0, .int .i64 0, .int .i64 0, .slice none 0 0] (0, 0) _ rfl (by (with_reducible repeat (first | refine blk_drewN ?_ _ | refine blk_drew ?_ | refine blk_alloc ?_ _)); refine blk_put (cs := #[.int .i64 0, .int .i64 0, .int .i64 0, .int .i64 0, .slice none 0 0]) ?_ 4 _ rfl; refine blk_put (cs := #[.int .i64 0, .int .i64 0, .int .i64 0, .int .i64 0, .slice none 0 0]) ?_ 3 _ rfl; refine blk_put (cs := #[.int .i64 0, .int .i64 0, .int .i64 0, .int .i64 0, .slice none 0 0]) ?_ 2 _ rfl; refine blk_put (cs := #[.int .i64 0, .int .i64 0, .int .i64 0, .int .i64 0, .slice none 0 0]) ?_ 1 _ rfl; refine blk_put (cs := #[.int .i64 0, .int .i64 0, .int .i64 0, .int .i64 0, .slice none 0 0]) ?_ 0 _ rfl; (with_reducible repeat (first | refine blk_drewN ?_ _ | refine blk_drew ?_ | refine blk_alloc ?_ _)); exact BK236.out) Try.underlying46 rfl (by kernel_rfl)) rfl ?_
     exact ⟨_, by first | rfl | (simp [errW_none, errW_some] <;> rfl) | (simp only [← hji18, ← hji19]; first | rfl | (simp [errW_none, errW_some] <;> rfl)) | (simp [*, errW_none, errW_some] <;> rfl), by first | exact Kd.R_nil _ _ _ _ _ | exact Kd.N_nil _ _ _ _ _ | exact Kd.V_nil _ _ _ _ _ | exact Kd.Q_nil _ _ _ _ _ | exact Kd.S_nil _ _ _ _ _, by repeat (first | (with_reducible first | exact HB.out | apply below_alloc | apply pw_below_drewN | apply below_drew1 | refine below_set ?_ GE235.out | refine below_set ?_ GE236.out) | exact HB.out)⟩
    ·rw [if_neg c20] at H
     have c20b0 : decide ((ji19) ≤ (ji18)) = false := decide_eq_false c20
     clear c20
     by_cases c24 : a0_2 = 2
     ·rw [if_pos c24] at H
      have c24b0 : (a0_2 == 2) = true := beq_iff_eq.mpr c24
      have c24b1 : (a0_2 != 2) = false := bne_eq_false_iff_eq.mpr c24
      clear c24
      obtain ⟨y239, hy239⟩ : ∃ y_ : List Int, y_ = (([] : List Int)) := ⟨_, rfl⟩
      replace H : (if 0 ≤ (wrap64 (32 * (wrap64 ((ji18) - a0_0)))) then (if (wrap64 (32 * (wrap64 ((ji18) - a0_0)))) ≤ (wrap64 (32 * (wrap64 ((ji19) - a0_0)))) then (if (wrap64 (32 * (wrap64 ((ji19) - a0_0)))) ≤ (l0_4.length : Int) then (if y239.length + ((l0_4.take ((wrap64 (32 * (wrap64 ((ji19) - a0_0)))) : Int).toNat).drop ((wrap64 (32 * (wrap64 ((ji18) - a0_0)))) : Int).toNat).length < 140737488355328 then (some (ji18, wrap64 ((ji19) - (ji18)), a0_2, a0_3, (y239 ++ ((l0_4.take ((wrap64 (32 * (wrap64 ((ji19) - a0_0)))) : Int).toNat).drop ((wrap64 (32 * (wrap64 ((ji18) - a0_0)))) : Int).toNat)), true)) else (none)) else (none)) else (none)) else (none)) = some (r1, r2, r3, r4, r5, r6) := by first | (rw [hy239]; with_reducible exact H) | (have H2_ := (Option.bind_some _ _).symm.trans H; rw [hy239]; with_reducible exact H2_) | (have H2_ := (Option.bind_some _ _).symm.trans H; with_reducible exact H2_) | with_reducible exact H | (rw [hy239]; exact H) | exact H
      have Ny239 := Aside0.mk hy239
      clear hy239
      obtain ⟨ji25, hji25⟩ : ∃ j_ : Int, (wrap64 (32 * (wrap64 ((ji18) - a0_0)))) = j_ := ⟨_, rfl⟩
      replace H : (if 0 ≤ (ji25) then (if (ji25) ≤ (wrap64 (32 * (wrap64 ((ji19) - a0_0)))) then (if (wrap64 (32 * (wrap64 ((ji19) - a0_0)))) ≤ (l0_4.length : Int) then (if y239.length + ((l0_4.take ((wrap64 (32 * (wrap64 ((ji19) - a0_0)))) : Int).toNat).drop ((ji25) : Int).toNat).length < 140737488355328 then (some (ji18, wrap64 ((ji19) - (ji18)), a0_2, a0_3, (y239 ++ ((l0_4.take ((wrap64 (32 * (wrap64 ((ji19) - a0_0)))) : Int).toNat).drop ((ji25) : Int).toNat)), true)) else (none)) else (none)) else (none)) else (none)) = some (r1, r2, r3, r4, r5, r6) := by first | (rw [hji25] at H; exact H) | (simp only [hji25] at H ⊢; exact H)
      have hji25w : (IntKind.i64.wrap (32 * (wrap64 ((ji18) - a0_0)))) = ji25 := (i64_w _).trans hji25
      by_cases c26 : 0 ≤ (ji25)
      ·rw [if_pos c26] at H
       have c26b0 := eq_true c26
       have c26b1 : decide (0 ≤ (ji25)) = true := decide_eq_true c26
       clear c26
       by_cases c27 : (ji25) ≤ (wrap64 (32 * (wrap64 ((ji19) - a0_0))))
       ·rw [if_pos c27] at H
        have c27b0 := eq_true c27
        have c27b1 : decide ((ji25) ≤ (wrap64 (32 * (wrap64 ((ji19) - a0_0))))) = true := decide_eq_true c27
        clear c27
        by_cases c28 : (wrap64 (32 * (wrap64 ((ji19) - a0_0)))) ≤ (l0_4.length : Int)
        ·rw [if_pos c28] at H
         have c28b0 := eq_true c28
         have c28b1 : decide ((wrap64 (32 * (wrap64 ((ji19) - a0_0)))) ≤ (l0_4.length : Int)) = true := decide_eq_true c28
         clear c28
         by_cases c29 : y239.length + ((l0_4.take ((wrap64 (32 * (wrap64 ((ji19) - a0_0)))) : Int).toNat).drop ((ji25) : Int).toNat).length < 140737488355328
         ·rw [if_pos c29] at H
          have LMc29 := Aside0.mk c29
          clear c29
          obtain ⟨y243, hy243⟩ : ∃ y_ : List Int, y_ = (y239 ++ ((l0_4.take ((wrap64 (32 * (wrap64 ((ji19) - a0_0)))) : Int).toNat).drop ((ji25) : Int).toNat)) := ⟨_, rfl⟩
          replace H : (some (ji18, wrap64 ((ji19) - (ji18)), a0_2, a0_3, y243, true)) = some (r1, r2, r3, r4, r5, r6) := by first | (rw [hy243]; with_reducible exact H) | (have H2_ := (Option.bind_some _ _).symm.trans H; rw [hy243]; with_reducible exact H2_) | (have H2_ := (Option.bind_some _ _).symm.trans H; with_reducible exact H2_) | with_reducible exact H | (rw [hy243]; exact H) | exact H
          have Ny243 := Aside0.mk hy243
          clear hy243
          simp only [Option.some.injEq, Prod.mk.injEq] at H
          obtain ⟨rfl, rfl, rfl, rfl, rfl, rfl⟩ := H
          have hnb30 := NB235_236.out
          have hnc30 := NB236_235.out
          obtain ⟨hcz31_0, hcz31_1, hcz31_2, hcz31_3, hcz31_4, hfz31_0, hfz31_1, hfz31_2, hfz31_3, hfz31_4⟩ := Cz.d5 BK235
          go_wp2_with (first | ((with_reducible refine gate_dst (N := 11) rfl ?_); refine box_event ?hg (N := 11) ?hd (cs := #[.int .i64 0, .int .i64 0, .int .i64 0, .int .i64 0, .slice none 0 0]) (t := 46) ?hr ?_; (case hd => rfl); (case hg => rfl); (case hr => first | (go_simp; done) | (go_simp; rfl)); intro gb238 hg w32 hbox hb; have n0_ := Cz.bk BK235 hb; have n1_ := Cz.bk BK236 hb; have n2_ := Cz.bs (w := w) hb; have n3_ := Aside0.mk (hbox); have n4_ := Aside0.mk ((Cz.gs hg : w.heap.size ≤ gb238)); have n5_ := Aside0.mk ((Cz.gs hg : w.heap.size ≤ gb238)); have n6_ := Aside0.mk ((Cz.nl BK235 hg : gb235 ≠ gb238)); have n7_ := Aside0.mk ((Cz.nr BK235 hg : gb238 ≠ gb235)); have n8_ := Aside0.mk ((Cz.nl BK236 hg : gb236 ≠ gb238)); have n9_ := Aside0.mk ((Cz.nr BK236 hg : gb238 ≠ gb236)); clear BK235; clear BK236; clear HB; have BK235 := n0_; have BK236 := n1_; have HB := n2_; have BK238 := n3_; have GW238 := n4_; have GE238 := n5_; have NB235_238 := n6_; have NB238_235 := n7_; have NB236_238 := n8_; have NB238_236 := n9_; clear n0_ n1_ n2_ n3_ n4_ n5_ n6_ n7_ n8_ n9_; clear hb hbox hg; have hnb33 := NB238_235.out; have hnc33 := NB235_238.out; have hnb34 := NB238_236.out; have hnc34 := NB236_238.out; obtain ⟨hcz35_0, hcz35_1, hcz35_2, hcz35_3, hcz35_4, hfz35_0, hfz35_1, hfz35_2, hfz35_3, hfz35_4⟩ := Cz.d5 BK238; obtain ⟨hcz36_0, hcz36_1, hcz36_2, hcz36_3, hcz36_4, hfz36_0, hfz36_1, hfz36_2, hfz36_3, hfz36_4⟩ := Cz.d5 BK235) | ((with_reducible refine gate_dst (N := 62) rfl ?_); refine Kd.R_lit (Kd.int .u8) _ 5 ?hg (N := 62) ?hd (xs := ([] : List Int)) (inner := []) (ok := fun _ => True) (okp := fun _ => True) ?hr ?hp (fun _ hk => hk) trivial (Below.refl _ _) (Nat.le_refl _) (by simp) ?_; (case hd => rfl); (case hg => rfl); (case hr => first | (go_simp; done) | (go_simp; rfl)); (case hp => exact (Reps.none _ _)); intro v240 w37 ho38 hb hg_ hnew_; clear hg_ hnew_; (first | rw [← Ny239.out] at ho38 | (simp only [Int.reduceToNat] at ho38; rw [← Ny239.out] at ho38)); have n0_ := Aside0.mk (Kd.R_lower ho38 (below_size (by repeat (first | (with_reducible first | exact HB.out | apply below_alloc | apply pw_below_drewN | apply below_drew1 | refine below_set ?_ GE235.out | refine below_set ?_ GE236.out | refine below_set ?_ GE238.out) | exact HB.out)))); have n1_ := Aside0.mk (blk_below (g := gb235) (o := .cells #[.int .i64 a0_0, .int .i64 a0_1, .int .i64 a0_2, .int .i64 a0_3, .slice A0_4 l0_4.length c0_4] 46 (0, 0)) (by (with_reducible repeat (first | refine blk_drewN ?_ _ | refine blk_drew ?_ | refine blk_alloc ?_ _)); refine blk_far ?_ NB235_238.out _; refine blk_far ?_ NB235_238.out _; refine blk_far ?_ NB235_238.out _; refine blk_far ?_ NB235_238.out _; refine blk_far ?_ NB235_238.out _; (with_reducible repeat (first | refine blk_drewN ?_ _ | refine blk_drew ?_ | refine blk_alloc ?_ _)); exact BK235.out) hb); have n2_ := Aside0.mk (blk_below (g := gb236) (o := .cells #[.int .i64 0, .int .i64 0, .int .i64 0, .int .i64 0, .slice none 0 0] 46 (0, 0)) (by (with_reducible repeat (first | refine blk_drewN ?_ _ | refine blk_drew ?_ | refine blk_alloc ?_ _)); refine blk_far ?_ NB236_238.out _; refine blk_far ?_ NB236_238.out _; refine blk_far ?_ NB236_238.out _; refine blk_far ?_ NB236_238.out _; refine blk_far ?_ NB236_238.out _; (with_reducible repeat (first | refine blk_drewN ?_ _ | refine blk_drew ?_ | refine blk_alloc ?_ _)); exact BK236.out) hb); have n3_ := Aside0.mk (blk_below (g := gb238) (o := .cells #[.int .i64 ji18, .int .i64 (wrap64 ((ji19) - (ji18))), .int .i64 a0_2, .int .i64 a0_3, .slice none 0 0] 46 (0, 0)) (by (with_reducible repeat (first | refine blk_drewN ?_ _ | refine blk_drew ?_ | refine blk_alloc ?_ _)); refine blk_put (cs := #[.int .i64 ji18, .int .i64 (wrap64 ((ji19) - (ji18))), .int .i64 a0_2, .int .i64 a0_3, .slice none 0 0]) ?_ 4 _ rfl; refine blk_put (cs := #[.int .i64 ji18, .int .i64 (wrap64 ((ji19) - (ji18))), .int .i64 a0_2, .int .i64 0, .slice none 0 0]) ?_ 3 _ rfl; refine blk_put (cs := #[.int .i64 ji18, .int .i64 (wrap64 ((ji19) - (ji18))), .int .i64 0, .int .i64 0, .slice none 0 0]) ?_ 2 _ rfl; refine blk_put (cs := #[.int .i64 ji18, .int .i64 0, .int .i64 0, .int .i64 0, .slice none 0 0]) ?_ 1 _ rfl; refine blk_put (cs := #[.int .i64 0, .int .i64 0, .int .i64 0, .int .i64 0, .slice none 0 0]) ?_ 0 _ rfl; (with_reducible repeat (first | refine blk_drewN ?_ _ | refine blk_drew ?_ | refine blk_alloc ?_ _)); exact BK238.out) hb); have n4_ := Cz.bs (w := w) hb; clear BK235; clear BK236; clear BK238; clear HB; have HO241 := n0_; have BK235 := n1_; have BK236 := n2_; have BK238 := n3_; have HB := n4_; clear n0_ n1_ n2_ n3_ n4_; clear hb ho38; obtain ⟨hcz39_0, hcz39_1, hcz39_2, hcz39_3, hcz39_4, hfz39_0, hfz39_1, hfz39_2, hfz39_3, hfz39_4⟩ := Cz.d5 BK235; obtain ⟨i040, hi040, _, hsz40, _⟩ := info_parts info5; obtain ⟨A40, hcut40, hA40, hC40⟩ := print_mid_of (P := Try.prog) (Value.int .u8) 0 23 5 .i64 .i64 Try.underlying23 hi040 hsz40 A0_4 c0_4 l0_4 (ji25) (wrap64 (32 * (wrap64 ((ji19) - a0_0)))) (of_decide_eq_true (by first | (with_reducible assumption) | assumption)) (by first | omega | exact of_decide_eq_true (by first | (with_reducible assumption) | assumption)) (of_decide_eq_true (by first | (with_reducible assumption) | assumption)) HC0_4.out; have HR242 := Aside0.mk (Kd.C_of_reads (h1 := fun _ => rfl) (hA40 _ (Kd.reads_of_C HR0_4.out))); have HC242 := Aside0.mk hC40; clear hA40 hC40 hi040 hsz40) | ((with_reducible refine gate_builtin (b := .append) (xs := #[.tmp 62, .tmp 75]) rfl ?_); at_builtin; refine Kd.R_append_rows (Kd.int .u8) (w0 := w) w.heap.size rfl (.tmp 62) (.tmp 75) 23 5 (.int .u8 0) 1 rfl Try.underlying23 info5 rfl (by decide) (by omega) v240 y239 ((l0_4.take ((wrap64 (32 * (wrap64 ((ji19) - a0_0)))) : Int).toNat).drop ((ji25) : Int).toNat) _ _ _ (fun _ => True) (fun _ => False) rfl rfl ?aO ?aR (fun _ _ h => h) (fun _ h => h.elim) ?aF ?aB ?aS ?aL ?_; (case aR => first | (rw [← show ((l0_4.take ((wrap64 (32 * (wrap64 ((ji19) - a0_0)))) : Int).toNat).drop ((ji25) : Int).toNat).length = ((wrap64 (32 * (wrap64 ((ji19) - a0_0)))).toNat - (ji25).toNat) from (by rw [List.length_drop, List.length_take]; have h_ : ((wrap64 (32 * (wrap64 ((ji19) - a0_0)))) : Int) ≤ (l0_4.length : Int) := of_decide_eq_true (by first | (with_reducible assumption) | assumption); omega)]; exact Cz.cb HR242) | (exact Cz.cb HR242)); (case aB => exact (by repeat (first | (with_reducible first | exact HB.out | apply below_alloc | apply pw_below_drewN | apply below_drew1 | refine below_set ?_ GE235.out | refine below_set ?_ GE236.out | refine below_set ?_ GE238.out) | exact HB.out))); (case aF => exact (fun _ _ => trivial)); (case aO => exact (by (with_reducible repeat (first | apply Kd.R_alloc | apply Kd.R_drewN | apply Kd.R_drew)); exact HO241.out)); (case aS => exact (below_size (by repeat (first | (with_reducible first | exact HB.out | apply below_alloc | apply pw_below_drewN | apply below_drew1 | refine below_set ?_ GE235.out | refine below_set ?_ GE236.out | refine below_set ?_ GE238.out) | exact HB.out)))); (case aL => have := LMc29.out; have hlx_ := (show ((l0_4.take ((wrap64 (32 * (wrap64 ((ji19) - a0_0)))) : Int).toNat).drop ((ji25) : Int).toNat).length = ((wrap64 (32 * (wrap64 ((ji19) - a0_0)))).toNat - (ji25).toNat) from (by rw [List.length_drop, List.length_take]; have h_ : ((wrap64 (32 * (wrap64 ((ji19) - a0_0)))) : Int) ≤ (l0_4.length : Int) := of_decide_eq_true (by first | (with_reducible assumption) | assumption); omega)); omega); intro v244 w41 ho hb hg hat; rw [← Ny243.out] at ho; have n0_ := Aside0.mk (blk_grown (g := gb235) (o := .cells #[.int .i64 a0_0, .int .i64 a0_1, .int .i64 a0_2, .int .i64 a0_3, .slice A0_4 l0_4.length c0_4] 46 (0, 0)) (by (with_reducible repeat (first | refine blk_drewN ?_ _ | refine blk_drew ?_ | refine blk_alloc ?_ _)); exact BK235.out) hg (Kd.R_ne HO241.out BK235.out (by decide))); have n1_ := Aside0.mk (blk_grown (g := gb236) (o := .cells #[.int .i64 0, .int .i64 0, .int .i64 0, .int .i64 0, .slice none 0 0] 46 (0, 0)) (by (with_reducible repeat (first | refine blk_drewN ?_ _ | refine blk_drew ?_ | refine blk_alloc ?_ _)); exact BK236.out) hg (Kd.R_ne HO241.out BK236.out (by decide))); have n2_ := Aside0.mk (blk_grown (g := gb238) (o := .cells #[.int .i64 ji18, .int .i64 (wrap64 ((ji19) - (ji18))), .int .i64 a0_2, .int .i64 a0_3, .slice none 0 0] 46 (0, 0)) (by (with_reducible repeat (first | refine blk_drewN ?_ _ | refine blk_drew ?_ | refine blk_alloc ?_ _)); exact BK238.out) hg (Kd.R_ne HO241.out BK238.out (by decide))); have n3_ := Aside0.mk (hb); have n4_ := Aside0.mk (ho); clear BK235; clear BK236; clear BK238; clear HB; clear HO241; have BK235 := n0_; have BK236 := n1_; have BK238 := n2_; have HB := n3_; have HO245 := n4_; clear n0_ n1_ n2_ n3_ n4_; clear ho hb hg hat; obtain ⟨Ao42, co42, eo42⟩ := Kd.R_slice HO245.out; subst eo42; have hcz43_0 : w41.cell? ⟨gb238, 0, none⟩ = some (.int .i64 ji18) := (blk_cell BK238.out 0).trans rfl; have hcz43_1 : w41.cell? ⟨gb238, 1, none⟩ = some (.int .i64 (wrap64 ((ji19) - (ji18)))) := (blk_cell BK238.out 1).trans rfl; have hcz43_2 : w41.cell? ⟨gb238, 2, none⟩ = some (.int .i64 a0_2) := (blk_cell BK238.out 2).trans rfl; have hcz43_3 : w41.cell? ⟨gb238, 3, none⟩ = some (.int .i64 a0_3) := (blk_cell BK238.out 3).trans rfl; have hcz43_4 : w41.cell? ⟨gb238, 4, none⟩ = some (.slice none 0 0) := (blk_cell BK238.out 4).trans rfl; have hfz43_0 := blk_frozen BK238.out 0; have hfz43_1 := blk_frozen BK238.out 1; have hfz43_2 := blk_frozen BK238.out 2; have hfz43_3 := blk_frozen BK238.out 3; have hfz43_4 := blk_frozen BK238.out 4; obtain ⟨hcz44_0, hcz44_1, hcz44_2, hcz44_3, hcz44_4, hfz44_0, hfz44_1, hfz44_2, hfz44_3, hfz44_4⟩ := Cz.d5 BK236))
          refine bodyPost_ret (results_ct rfl _ _ gb236 46 #[.int .i64 ji18, .int .i64 (wrap64 ((ji19) - (ji18))), .int .i64 a0_2, .int .i64 a0_3, .slice Ao42 y243.length co42] (0, 0) _ rfl (by (with_reducible repeat (first | refine blk_drewN ?_ _ | refine blk_drew ?_ | refine blk_alloc ?_ _)); refine blk_put (cs := #[.int .i64 ji18, .int .i64 (wrap64 ((ji19) - (ji18))), .int .i64 a0_2, .int .i64 a0_3, .slice none 0 0]) ?_ 4 _ rfl; refine blk_put (cs := #[.int .i64 ji18, .int .i64 (wrap64 ((ji19) - (ji18))), .int .i64 a0_2, .int .i64 0, .slice none 0 0]) ?_ 3 _ rfl; refine blk_put (cs := #[.int .i64 ji18, .int .i64 (wrap64 ((ji19) - (ji18))), .int .i64 0, .int .i64 0, .slice none 0 0]) ?_ 2 _ rfl; refine blk_put (cs := #[.int .i64 ji18, .int .i64 0, .int .i64 0, .int .i64 0, .slice none 0 0]) ?_ 1 _ rfl; refine blk_put (cs := #[.int .i64 0, .int .i64 0, .int .i64 0, .int .i64 0, .slice none 0 0]) ?_ 0 _ rfl; refine blk_far ?_ NB236_238.out _; (with_reducible repeat (first | refine blk_drewN ?_ _ | refine blk_drew ?_ | refine blk_alloc ?_ _)); exact BK236.out) Try.underlying46 rfl (by kernel_rfl)) rfl ?_
          exact ⟨_, by first | rfl | (simp [errW_none, errW_some] <;> rfl) | (simp only [← hji18, ← hji19, ← hji25]; first | rfl | (simp [errW_none, errW_some] <;> rfl)) | (simp [*, errW_none, errW_some] <;> rfl), by (with_reducible repeat (first | apply Kd.R_alloc | apply Kd.R_drewN | apply Kd.R_drew)); exact Kd.R_mono (Kd.R_far (p := ⟨gb236, 4, none⟩) (Kd.R_far (p := ⟨gb236, 3, none⟩) (Kd.R_far (p := ⟨gb236, 2, none⟩) (Kd.R_far (p := ⟨gb236, 1, none⟩) (Kd.R_far (p := ⟨gb236, 0, none⟩) (Kd.R_far (p := ⟨gb238, 4, none⟩) (Kd.R_types (Kd.R_types HO245.out BK238.out (by decide)) BK236.out (by decide)) (fun _ hk => hk.1.2) (.slice Ao42 y243.length co42)) (fun _ hk => hk.2) (.int .i64 ji18)) (fun _ hk => hk.2) (.int .i64 (wrap64 ((ji19) - (ji18))))) (fun _ hk => hk.2) (.int .i64 a0_2)) (fun _ hk => hk.2) (.int .i64 a0_3)) (fun _ hk => hk.2) (.slice Ao42 y243.length co42)) (fun _ hk => trivial), by repeat (first | (with_reducible first | exact HB.out | apply below_alloc | apply pw_below_drewN | apply below_drew1 | refine below_set ?_ GE235.out | refine below_set ?_ GE236.out | refine below_set ?_ GE238.out) | exact HB.out)⟩
         ·rw [if_neg c29] at H
          exact absurd H (by simp)
        ·rw [if_neg c28] at H
         exact absurd H (by simp)
       ·rw [if_neg c27] at H
        exact absurd H (by simp)
      ·rw [if_neg c26] at H
       exact absurd H (by simp)
     ·rw [if_neg c24] at H
      have c24b0 : (a0_2 == 2) = false := beq_eq_false_iff_ne.mpr c24
      have c24b1 : (a0_2 != 2) = true := bne_iff_ne.mpr c24
      simp only [Option.some.injEq, Prod.mk.injEq] at H
      obtain ⟨rfl, rfl, rfl, rfl, rfl, rfl⟩ := H
      have hnb45 := NB235_236.out
      have hnc45 := NB236_235.out
      obtain ⟨hcz46_0, hcz46_1, hcz46_2, hcz46_3, hcz46_4, hfz46_0, hfz46_1, hfz46_2, hfz46_3, hfz46_4⟩ := Cz.d5 BK235
      go_wp2_with (first | ((with_reducible refine gate_dst (N := 11) rfl ?_); refine box_event ?hg (N := 11) ?hd (cs := #[.int .i64 0, .int .i64 0, .int .i64 0, .int .i64 0, .slice none 0 0]) (t := 46) ?hr ?_; (case hd => rfl); (case hg => rfl); (case hr => first | (go_simp; done) | (go_simp; rfl)); intro gb238 hg w47 hbox hb; have n0_ := Cz.bk BK235 hb; have n1_ := Cz.bk BK236 hb; have n2_ := Cz.bs (w := w) hb; have n3_ := Aside0.mk (hbox); have n4_ := Aside0.mk ((Cz.gs hg : w.heap.size ≤ gb238)); have n5_ := Aside0.mk ((Cz.gs hg : w.heap.size ≤ gb238)); have n6_ := Aside0.mk ((Cz.nl BK235 hg : gb235 ≠ gb238)); have n7_ := Aside0.mk ((Cz.nr BK235 hg : gb238 ≠ gb235)); have n8_ := Aside0.mk ((Cz.nl BK236 hg : gb236 ≠ gb238)); have n9_ := Aside0.mk ((Cz.nr BK236 hg : gb238 ≠ gb236)); clear BK235; clear BK236; clear HB; have BK235 := n0_; have BK236 := n1_; have HB := n2_; have BK238 := n3_; have GW238 := n4_; have GE238 := n5_; have NB235_238 := n6_; have NB238_235 := n7_; have NB236_238 := n8_; have NB238_236 := n9_; clear n0_ n1_ n2_ n3_ n4_ n5_ n6_ n7_ n8_ n9_; clear hb hbox hg; have hnb48 := NB238_235.out; have hnc48 := NB235_238.out; have hnb49 := NB238_236.out; have hnc49 := NB236_238.out; obtain ⟨hcz50_0, hcz50_1, hcz50_2, hcz50_3, hcz50_4, hfz50_0, hfz50_1, hfz50_2, hfz50_3, hfz50_4⟩ := Cz.d5 BK238; obtain ⟨hcz51_0, hcz51_1, hcz51_2, hcz51_3, hcz51_4, hfz51_0, hfz51_1, hfz51_2, hfz51_3, hfz51_4⟩ := Cz.d5 BK235; obtain ⟨hcz52_0, hcz52_1, hcz52_2, hcz52_3, hcz52_4, hfz52_0, hfz52_1, hfz52_2, hfz52_3, hfz52_4⟩ := Cz.d5 BK236))
      refine bodyPost_ret (results_ct rfl _ _ gb236 46 #[.int .i64 ji18, .int .i64 (wrap64 ((ji19) - (ji18))), .int .i64 a0_2, .int .i64 a0_3, .slice none 0 0] (0, 0) _ rfl (by (with_reducible repeat (first | refine blk_drewN ?_ _ | refine blk_drew ?_ | refine blk_alloc ?_ _)); refine blk_put (cs := #[.int .i64 ji18, .int .i64 (wrap64 ((ji19) - (ji18))), .int .i64 a0_2, .int .i64 a0_3, .slice none 0 0]) ?_ 4 _ rfl; refine blk_put (cs := #[.int .i64 ji18, .int .i64 (wrap64 ((ji19) - (ji18))), .int .i64 a0_2, .int .i64 0, .slice none 0 0]) ?_ 3 _ rfl; refine blk_put (cs := #[.int .i64 ji18, .int .i64 (wrap64 ((ji19) - (ji18))), .int .i64 0, .int .i64 0, .slice none 0 0]) ?_ 2 _ rfl; refine blk_put (cs := #[.int .i64 ji18, .int .i64 0, .int .i64 0, .int .i64 0, .slice none 0 0]) ?_ 1 _ rfl; refine blk_put (cs := #[.int .i64 0, .int .i64 0, .int .i64 0, .int .i64 0, .slice none 0 0]) ?_ 0 _ rfl; refine blk_far ?_ NB236_238.out _; refine blk_far ?_ NB236_238.out _; refine blk_far ?_ NB236_238.out _; refine blk_far ?_ NB236_238.out _; refine blk_far ?_ NB236_238.out _; (with_reducible repeat (first | refine blk_drewN ?_ _ | refine blk_drew ?_ | refine blk_alloc ?_ _)); exact BK236.out) Try.underlying46 rfl (by kernel_rfl)) rfl ?_
      exact ⟨_, by first | rfl | (simp [errW_none, errW_some] <;> rfl) | (simp only [← hji18, ← hji19]; first | rfl | (simp [errW_none, errW_some] <;> rfl)) | (simp [*, errW_none, errW_some] <;> rfl), by first | exact Kd.R_nil _ _ _ _ _ | exact Kd.N_nil _ _ _ _ _ | exact Kd.V_nil _ _ _ _ _ | exact Kd.Q_nil _ _ _ _ _ | exact Kd.S_nil _ _ _ _ _, by repeat (first | (with_reducible first | exact HB.out | apply below_alloc | apply pw_below_drewN | apply below_drew1 | refine below_set ?_ GE235.out | refine below_set ?_ GE236.out | refine below_set ?_ GE238.out) | exact HB.out)⟩
end Go.Proofs.Ytcemlfkboifncaa.PF
