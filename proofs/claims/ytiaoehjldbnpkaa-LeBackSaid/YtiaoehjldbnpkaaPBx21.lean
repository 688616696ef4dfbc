/- Functions of the program as Lean functions, and that the Go code comes to just their answers: no condition but that the function says so. (Written by a program of this workplace over the kit's print, with contracts by hand.) -/
import Derived.Test.YtiaoehjldbnpkaaPBx0
import Derived.Test.YtiaoehjldbnpkaaPBx4
import Derived.Test.YtiaoehjldbnpkaaPBx6
import Derived.Test.YtiaoehjldbnpkaaPBx15
import Derived.Test.YtiaoehjldbnpkaaPBx16
import Derived.Test.YtiaoehjldbnpkaaPBx18
import Derived.Test.YtiaoehjldbnpkaaPBx19
namespace Go.Proofs.Ytiaoehjldbnpkaa.PB
open Go.RowKit Go.Proofs.YtiaoehjldbnpkaaW.PrintWords Go.Proofs.YtiaoehjldbnpkaaW.PrintLast Go.Proofs.YtiaoehjldbnpkaaW.PrintMore
attribute [local go_sem] max2_int min2_int max_two min_two max_three min_three max_four min_four   -- for this text's walks alone
set_option linter.unusedVariables false
set_option linter.unusedSimpArgs false

/-! ### waggonerlaw01_LeBack: function 11 -/
mutual
def waggonerlaw01_LeBack.j0 : Nat → ByteArray → List Int → List Int → Int → List Int → Bool → Bool → Option (Bool)
  | 0, _, _, _, _, _, _, _ => none
  | k + 1, x0, x1, x2, x3, x4, x11, x40 => if x40 = true then (some x11) else ((le_Pack.f x0 x1).bind fun bt136 => ((le_Unpack.f x0 bt136.1).bind fun bt140 => (if bt136.2 = 0 then (if bt140.2 = 0 then ((waggonerref01_Same.f bt140.1 x1).bind fun t144 => (if t144 = true then (waggonerlaw01_LeBack.j1 k x2 x3 x4 x11 (strOfNums x2) false) else (waggonerlaw01_LeBack.j1 k x2 x3 x4 x11 (strOfNums x2) true))) else (waggonerlaw01_LeBack.j1 k x2 x3 x4 x11 (strOfNums x2) true)) else (waggonerlaw01_LeBack.j1 k x2 x3 x4 x11 (strOfNums x2) (decide ((bt136.1.length : Int) > 0))))))
def waggonerlaw01_LeBack.j1 : Nat → List Int → Int → List Int → Bool → ByteArray → Bool → Option (Bool)
  | 0, _, _, _, _, _, _ => none
  | k + 1, x2, x3, x4, x11, x12, x76 => if x76 = true then (some false) else ((le_Put.f x2 x3 8).bind fun bt145 => (if (bt145.1.length : Int) = (wrap64 ((x2.length : Int) + 8)) then ((some (([] : List Int) : List Int)).bind fun y149 => (if 0 ≤ (x2.length : Int) then (if (x2.length : Int) ≤ (bt145.1.length : Int) then ((some (bt145.1.drop ((x2.length : Int) : Int).toNat : List Int)).bind fun y152 => (if y149.length + y152.length < 140737488355328 then ((some (y149 ++ y152 : List Int)).bind fun y156 => (if y156.length + x4.length < 140737488355328 then ((le_Take.f (y156 ++ x4) 8).bind fun bt162 => (if x11 = true then (if bt145.2 = 0 then (if (strOfNums (bt145.1.take ((x2.length : Int) : Int).toNat)).toList = x12.toList then (if (strOfNums x2).toList = x12.toList then (if bt162.1 = x3 then (if (strOfNums bt162.2.1).toList = (strOfNums x4).toList then (some (bt162.2.2 == 0)) else (some false)) else (some false)) else (some false)) else (some false)) else (some false)) else (some false))) else (none))) else (none))) else (none)) else (none))) else (some false)))
end
def waggonerlaw01_LeBack.f (k : Nat) (a0 : ByteArray) (l1 : List Int) (l2 : List Int) (a3 : Int) (l4 : List Int) : Option (Bool) := (waggonerlaw01_awake.f).bind fun t135 => (if (a0.size : Int) > 60 then (waggonerlaw01_LeBack.j0 k a0 l1 l2 a3 l4 t135 true) else (if (l1.length : Int) > 60 then (waggonerlaw01_LeBack.j0 k a0 l1 l2 a3 l4 t135 true) else (if (l2.length : Int) > 300 then (waggonerlaw01_LeBack.j0 k a0 l1 l2 a3 l4 t135 true) else (waggonerlaw01_LeBack.j0 k a0 l1 l2 a3 l4 t135 (decide ((l4.length : Int) > 300))))))
theorem waggonerlaw01_LeBack.mono_l : ∀ k, (∀ y0 y1 y2 y3 y4 y5 y6, LeO (waggonerlaw01_LeBack.j0 k y0 y1 y2 y3 y4 y5 y6) (waggonerlaw01_LeBack.j0 (k + 1) y0 y1 y2 y3 y4 y5 y6)) ∧ (∀ y0 y1 y2 y3 y4 y5, LeO (waggonerlaw01_LeBack.j1 k y0 y1 y2 y3 y4 y5) (waggonerlaw01_LeBack.j1 (k + 1) y0 y1 y2 y3 y4 y5))
  | 0 => ⟨fun _ _ _ _ _ _ _ r h => by simp [waggonerlaw01_LeBack.j0] at h, fun _ _ _ _ _ _ r h => by simp [waggonerlaw01_LeBack.j1] at h⟩
  | k + 1 => by
    obtain ⟨ih0, ih1⟩ := waggonerlaw01_LeBack.mono_l k
    refine ⟨?_, ?_⟩
    · intro y0 y1 y2 y3 y4 y5 y6
      unfold waggonerlaw01_LeBack.j0
      repeat' first
      | (with_reducible exact ih0 _ _ _ _ _ _ _)
      | (with_reducible exact ih1 _ _ _ _ _ _)
      | (with_reducible exact LeO.refl _)
      | (with_reducible exact LeO.none _)
      | (with_reducible refine LeO.ite ?_ ?_)
      | (with_reducible refine LeO.bind ?_ (fun _ => ?_))
      | exact ih0 _ _ _ _ _ _ _
      | exact ih1 _ _ _ _ _ _
      | exact LeO.none _
      | refine LeO.ite ?_ ?_
      | refine LeO.bind ?_ (fun _ => ?_)
    · intro y0 y1 y2 y3 y4 y5
      unfold waggonerlaw01_LeBack.j1
      repeat' first
      | (with_reducible exact ih0 _ _ _ _ _ _ _)
      | (with_reducible exact ih1 _ _ _ _ _ _)
      | (with_reducible exact LeO.refl _)
      | (with_reducible exact LeO.none _)
      | (with_reducible refine LeO.ite ?_ ?_)
      | (with_reducible refine LeO.bind ?_ (fun _ => ?_))
      | exact ih0 _ _ _ _ _ _ _
      | exact ih1 _ _ _ _ _ _
      | exact LeO.none _
      | refine LeO.ite ?_ ?_
      | refine LeO.bind ?_ (fun _ => ?_)
theorem waggonerlaw01_LeBack.mono : ∀ a0 a1 a2 a3 a4 k, LeO (waggonerlaw01_LeBack.f k a0 a1 a2 a3 a4) (waggonerlaw01_LeBack.f (k + 1) a0 a1 a2 a3 a4) := by
  intro a0 a1 a2 a3 a4 k
  obtain ⟨ih0, ih1⟩ := waggonerlaw01_LeBack.mono_l k
  unfold waggonerlaw01_LeBack.f
  repeat' first
      | (with_reducible exact ih0 _ _ _ _ _ _ _)
      | (with_reducible exact ih1 _ _ _ _ _ _)
      | (with_reducible exact LeO.refl _)
      | (with_reducible exact LeO.none _)
      | (with_reducible refine LeO.ite ?_ ?_)
      | (with_reducible refine LeO.bind ?_ (fun _ => ?_))
      | exact ih0 _ _ _ _ _ _ _
      | exact ih1 _ _ _ _ _ _
      | exact LeO.none _
      | refine LeO.ite ?_ ?_
      | refine LeO.bind ?_ (fun _ => ?_)
set_option maxHeartbeats 8000000 in
set_option maxRecDepth 100000 in
theorem waggonerlaw01_LeBack.calls (k : Nat) (a0 : ByteArray) (A1 : Option Addr) (c1 : Nat) (l1 : List Int) (A2 : Option Addr) (c2 : Nat) (l2 : List Int) (a3 : Int) (A4 : Option Addr) (c4 : Nat) (l4 : List Int) (r : Bool) (hT : r = true) (w : World) (hr1 : Kd.C (Kd.int .u64) w A1 l1.length l1) (hc1 : l1.length ≤ c1) (hr2 : Kd.C (Kd.int .u8) w A2 l2.length l2) (hc2 : l2.length ≤ c2) (hr4 : Kd.C (Kd.int .u8) w A4 l4.length l4) (hc4 : l4.length ≤ c4) (h : waggonerlaw01_LeBack.f k a0 l1 l2 a3 l4 = some r) :
    Calls Try.prog 11 #[.string a0, .slice A1 l1.length c1, .slice A2 l2.length c2, .int .u64 a3, .slice A4 l4.length c4] w fun e w' => e = .returned (.bool r) ∧ Below w.heap.size w w' := by
  subst hT
  have HR1 := Aside0.mk hr1
  have HC1 := Aside0.mk hc1
  clear hr1 hc1
  have HR2 := Aside0.mk hr2
  have HC2 := Aside0.mk hc2
  clear hr2 hc2
  have HR4 := Aside0.mk hr4
  have HC4 := Aside0.mk hc4
  clear hr4 hc4
  have HB := Aside0.mk (Below.refl w.heap.size w)
  have H : ((waggonerlaw01_awake.f).bind fun t135 => (if (a0.size : Int) > 60 then (waggonerlaw01_LeBack.j0 k a0 l1 l2 a3 l4 t135 true) else (if (l1.length : Int) > 60 then (waggonerlaw01_LeBack.j0 k a0 l1 l2 a3 l4 t135 true) else (if (l2.length : Int) > 300 then (waggonerlaw01_LeBack.j0 k a0 l1 l2 a3 l4 t135 true) else (waggonerlaw01_LeBack.j0 k a0 l1 l2 a3 l4 t135 (decide ((l4.length : Int) > 300))))))) = some true := h
  clear h
  replace H := Option.bind_eq_some_iff.mp H
  obtain ⟨t135, A60, H⟩ := H
  replace H : (if (a0.size : Int) > 60 then (waggonerlaw01_LeBack.j0 k a0 l1 l2 a3 l4 t135 true) else (if (l1.length : Int) > 60 then (waggonerlaw01_LeBack.j0 k a0 l1 l2 a3 l4 t135 true) else (if (l2.length : Int) > 300 then (waggonerlaw01_LeBack.j0 k a0 l1 l2 a3 l4 t135 true) else (waggonerlaw01_LeBack.j0 k a0 l1 l2 a3 l4 t135 (decide ((l4.length : Int) > 300)))))) = some true := H
  have A6 := Aside0.mk A60
  clear A60
  have HC7 := Aside0.mk H
  clear H
  go_enter Try.func11, Try.ntmps11
  go_upto_region 2 with (first | ((with_reducible refine gate_callee (f := 26) rfl ?_); refine goesL_ (some 22) rfl rfl Try.func26 (by kernel_rfl) rfl #[] rfl (by (try simp only [List.map_toArray, List.map_cons, List.map_nil]); first | done | rfl | (simp only [List.length_drop, List.length_take]; rfl)) ?_; (with_reducible refine (waggonerlaw01_awake.calls  t135 _ A6.out).mono ?_); rintro e w8 ⟨rfl, hb⟩; refine ⟨_, rfl, ?_⟩; have n0_ := Aside0.mk (below_step (by repeat (first | (with_reducible first | exact HB.out | apply below_alloc | apply pw_below_drewN | apply below_drew1) | exact HB.out)) hb); clear HB; have HB := n0_; clear n0_; (try clear hb); (try clear hb2); (try clear hk); (try clear hi)))
  (try simp only [Act.put, List.setIfInBounds_toArray, List.set_cons_zero, List.set_cons_succ])
  go_cut [40] (fun v40 wc => ∃ (kq : Nat) (x40_6 : Bool), v40 = .bool x40_6 ∧ Aside0 (waggonerlaw01_LeBack.j0 kq a0 l1 l2 a3 l4 t135 x40_6 = some true) ∧ Aside0 (kq ≤ k) ∧ Aside0 (Below w.heap.size w wc))
  case first =>
    have H := HC7.out
    clear HC7
    by_cases c9 : (a0.size : Int) > 60
    · rw [if_pos c9] at H
      have c9b0 : decide (60 < (a0.size : Int)) = true := decide_eq_true c9
      have c9b1 : decide (60 < a0.size) = true := decide_eq_true (by omega)
      clear c9
      (first | rw [c9b0] | (simp only [i64_w, i32_w]; rw [c9b0]) | skip)
      have H' := Aside0.mk H
      clear H
      go_wp2
      go_meet
      case rel => exact ⟨_, (true), (by first | rfl | (simp; done) | (simp [*]; done)), H', ⟨by first | omega | exact Nat.le_refl _⟩, ⟨by repeat (first | (with_reducible first | exact HB.out | apply below_alloc | apply pw_below_drewN | apply below_drew1) | exact HB.out)⟩⟩
    · rw [if_neg c9] at H
      have c9b0 : decide (60 < (a0.size : Int)) = false := decide_eq_false c9
      have c9b1 : decide (60 < a0.size) = false := decide_eq_false (by omega)
      clear c9
      (first | rw [c9b0] | (simp only [i64_w, i32_w]; rw [c9b0]) | skip)
      by_cases c10 : (l1.length : Int) > 60
      · rw [if_pos c10] at H
        have c10b0 : decide (60 < (l1.length : Int)) = true := decide_eq_true c10
        have c10b1 : decide (60 < l1.length) = true := decide_eq_true (by omega)
        clear c10
        have H' := Aside0.mk H
        clear H
        go_wp2
        go_meet
        case rel => exact ⟨_, (true), (by first | rfl | (simp; done) | (simp [*]; done)), H', ⟨by first | omega | exact Nat.le_refl _⟩, ⟨by repeat (first | (with_reducible first | exact HB.out | apply below_alloc | apply pw_below_drewN | apply below_drew1) | exact HB.out)⟩⟩
      · rw [if_neg c10] at H
        have c10b0 : decide (60 < (l1.length : Int)) = false := decide_eq_false c10
        have c10b1 : decide (60 < l1.length) = false := decide_eq_false (by omega)
        clear c10
        by_cases c11 : (l2.length : Int) > 300
        · rw [if_pos c11] at H
          have c11b0 : decide (300 < (l2.length : Int)) = true := decide_eq_true c11
          have c11b1 : decide (300 < l2.length) = true := decide_eq_true (by omega)
          clear c11
          have H' := Aside0.mk H
          clear H
          go_wp2
          go_meet
          case rel => exact ⟨_, (true), (by first | rfl | (simp; done) | (simp [*]; done)), H', ⟨by first | omega | exact Nat.le_refl _⟩, ⟨by repeat (first | (with_reducible first | exact HB.out | apply below_alloc | apply pw_below_drewN | apply below_drew1) | exact HB.out)⟩⟩
        · rw [if_neg c11] at H
          have c11b0 : decide (300 < (l2.length : Int)) = false := decide_eq_false c11
          have c11b1 : decide (300 < l2.length) = false := decide_eq_false (by omega)
          clear c11
          have H' := Aside0.mk H
          clear H
          go_wp2
          go_meet
          case rel => exact ⟨_, (decide ((l4.length : Int) > 300)), (by first | rfl | (simp; done) | (simp [*]; done)), H', ⟨by first | omega | exact Nat.le_refl _⟩, ⟨by repeat (first | (with_reducible first | exact HB.out | apply below_alloc | apply pw_below_drewN | apply below_drew1) | exact HB.out)⟩⟩
  case rest =>
    clear HC7
    try clear c1
    try clear c2
    try clear p2
    try clear c4
    try clear c9
    try clear c9b0
    try clear c9b1
    try clear c10
    try clear c10b0
    try clear c10b1
    try clear c11
    try clear c11b0
    try clear c11b1
    obtain ⟨kq, x40_6, rfl, HA, HJ6, HB⟩ := hcut
    cases kq with
    | zero => exact absurd HA.out (by simp [waggonerlaw01_LeBack.j0])
    | succ kj6 =>
      have H := HA.out
      clear HA
      rw [waggonerlaw01_LeBack.j0] at H
      by_cases c12 : x40_6 = true
      · subst c12
        have H1 : (some t135) = some true := by rw [if_pos rfl] at H; exact H
        clear H
        have H := H1
        clear H1
        (have HRT := Aside0.mk (Option.some.inj H); clear H)
        go_wp2
        go_ret
        exact ⟨by first | rfl | (exact congrArg (fun z_ => Ending.returned (Value.bool z_)) HRT.out) | (rw [HRT.out]; done) | (simp [errW_none, errW_some] <;> rfl) | (simp [*, errW_none, errW_some] <;> rfl), by repeat (first | (with_reducible first | exact HB.out | apply below_alloc | apply pw_below_drewN | apply below_drew1) | exact HB.out)⟩
      · replace c12 := Bool.eq_false_iff.mpr c12
        subst c12
        have H1 : ((le_Pack.f a0 l1).bind fun bt136 => ((le_Unpack.f a0 bt136.1).bind fun bt140 => (if bt136.2 = 0 then (if bt140.2 = 0 then ((waggonerref01_Same.f bt140.1 l1).bind fun t144 => (if t144 = true then (waggonerlaw01_LeBack.j1 kj6 l2 a3 l4 t135 (strOfNums l2) false) else (waggonerlaw01_LeBack.j1 kj6 l2 a3 l4 t135 (strOfNums l2) true))) else (waggonerlaw01_LeBack.j1 kj6 l2 a3 l4 t135 (strOfNums l2) true)) else (waggonerlaw01_LeBack.j1 kj6 l2 a3 l4 t135 (strOfNums l2) (decide ((bt136.1.length : Int) > 0)))))) = some true := by rw [if_neg (show ¬ (false = true) by decide)] at H; exact H
        clear H
        have H := H1
        clear H1
        replace H := Option.bind_eq_some_iff.mp H
        obtain ⟨⟨t136, t137⟩, A130, H⟩ := H
        replace H : ((le_Unpack.f a0 t136).bind fun bt140 => (if t137 = 0 then (if bt140.2 = 0 then ((waggonerref01_Same.f bt140.1 l1).bind fun t144 => (if t144 = true then (waggonerlaw01_LeBack.j1 kj6 l2 a3 l4 t135 (strOfNums l2) false) else (waggonerlaw01_LeBack.j1 kj6 l2 a3 l4 t135 (strOfNums l2) true))) else (waggonerlaw01_LeBack.j1 kj6 l2 a3 l4 t135 (strOfNums l2) true)) else (waggonerlaw01_LeBack.j1 kj6 l2 a3 l4 t135 (strOfNums l2) (decide ((t136.length : Int) > 0))))) = some true := H
        have A13 := Aside0.mk A130
        clear A130
        replace H := Option.bind_eq_some_iff.mp H
        obtain ⟨⟨t140, t141⟩, A140, H⟩ := H
        replace H : (if t137 = 0 then (if t141 = 0 then ((waggonerref01_Same.f t140 l1).bind fun t144 => (if t144 = true then (waggonerlaw01_LeBack.j1 kj6 l2 a3 l4 t135 (strOfNums l2) false) else (waggonerlaw01_LeBack.j1 kj6 l2 a3 l4 t135 (strOfNums l2) true))) else (waggonerlaw01_LeBack.j1 kj6 l2 a3 l4 t135 (strOfNums l2) true)) else (waggonerlaw01_LeBack.j1 kj6 l2 a3 l4 t135 (strOfNums l2) (decide ((t136.length : Int) > 0)))) = some true := H
        have A14 := Aside0.mk A140
        clear A140
        have HC15 := Aside0.mk H
        clear H
        have hcv16 := Kd.C_string (P := Try.prog) (A := A2) (c := c2) Try.underlying23 Try.underlying5 Try.underlying9 (Kd.C_below HR2.out HB.out)
        go_upto_region 7 with (first | ((with_reducible refine gate_callee (f := 31) rfl ?_); refine goesL_ (some 47) rfl rfl Try.func31 (by kernel_rfl) rfl #[.string a0, .slice A1 l1.length c1] rfl (by (try simp only [List.map_toArray, List.map_cons, List.map_nil]); first | done | rfl | (simp only [List.length_drop, List.length_take]; rfl)) ?_; (with_reducible refine (le_Pack.calls a0 _ _ l1 t136 t137 _ ?side1 ?side2 A13.out).mono ?_); (case side1 => repeat (first | exact (Kd.C_below HR1.out HB.out) | (with_reducible refine Kd.C_alloc ?_ _) | (with_reducible refine Kd.C_drewN ?_ _) | (with_reducible refine Kd.C_drew ?_))); (case side2 => exact HC1.out); rintro e w17 ⟨v138, rfl, ho0, hb⟩; refine ⟨_, rfl, ?_⟩; have n0_ := Aside0.mk (Kd.R_lower ho0 (below_size (by repeat (first | (with_reducible first | exact HB.out | apply below_alloc | apply pw_below_drewN | apply below_drew1) | exact HB.out)))); have n1_ := Aside0.mk (below_step (by repeat (first | (with_reducible first | exact HB.out | apply below_alloc | apply pw_below_drewN | apply below_drew1) | exact HB.out)) hb); clear HB; have HO139 := n0_; have HB := n1_; clear n0_ n1_; (try clear hb); (try clear hb2); (try clear hk); (try clear hi); (try clear ho0); obtain ⟨Ao18, co18, eo18⟩ := Kd.R_slice HO139.out; subst eo18) | ((with_reducible refine gate_callee (f := 33) rfl ?_); refine goesL_ (some 53) rfl rfl Try.func33 (by kernel_rfl) rfl #[.string a0, .slice Ao18 t136.length co18] rfl (by (try simp only [List.map_toArray, List.map_cons, List.map_nil]); first | done | rfl | (simp only [List.length_drop, List.length_take]; rfl)) ?_; (with_reducible refine (le_Unpack.calls a0 _ _ t136 t140 t141 _ ?side1 ?side2 A14.out).mono ?_); (case side1 => repeat (first | exact (Kd.R_reads' HO139.out).2.2 | (with_reducible refine Kd.C_alloc ?_ _) | (with_reducible refine Kd.C_drewN ?_ _) | (with_reducible refine Kd.C_drew ?_))); (case side2 => exact (Kd.R_reads' HO139.out).2.1); rintro e w19 ⟨v142, rfl, ho0, hb⟩; refine ⟨_, rfl, ?_⟩; have n0_ := Aside0.mk (Kd.R_below (by (with_reducible repeat (first | apply Kd.R_alloc | apply Kd.R_drewN | apply Kd.R_drew)); exact HO139.out) hb); have n1_ := Aside0.mk (Kd.R_lower ho0 (below_size (by repeat (first | (with_reducible first | exact HB.out | apply below_alloc | apply pw_below_drewN | apply below_drew1) | exact HB.out)))); have n2_ := Aside0.mk (below_step (by repeat (first | (with_reducible first | exact HB.out | apply below_alloc | apply pw_below_drewN | apply below_drew1) | exact HB.out)) hb); clear HO139; clear HB; have HO139 := n0_; have HO143 := n1_; have HB := n2_; clear n0_ n1_ n2_; (try clear hb); (try clear hb2); (try clear hk); (try clear hi); (try clear ho0)))
        (try simp only [Act.put, List.setIfInBounds_toArray, List.set_cons_zero, List.set_cons_succ])
        go_cut [76] (fun v76 wc => ∃ (kq : Nat) (x76_14 : Bool), v76 = .bool x76_14 ∧ Aside0 (waggonerlaw01_LeBack.j1 kq l2 a3 l4 t135 (strOfNums l2) x76_14 = some true) ∧ Aside0 (kq ≤ kj6) ∧ Aside0 (Below w.heap.size w wc))
        case first =>
          have H := HC15.out
          clear HC15
          by_cases c20 : t137 = 0
          · rw [if_pos c20] at H
            have c20b0 : (t137 == 0) = true := beq_iff_eq.mpr c20
            have c20b1 : (t137 != 0) = false := bne_eq_false_iff_eq.mpr c20
            clear c20
            (first | rw [c20b0] | (simp only [i64_w, i32_w]; rw [c20b0]) | skip)
            by_cases c21 : t141 = 0
            · rw [if_pos c21] at H
              have c21b0 : (t141 == 0) = true := beq_iff_eq.mpr c21
              have c21b1 : (t141 != 0) = false := bne_eq_false_iff_eq.mpr c21
              clear c21
              replace H := Option.bind_eq_some_iff.mp H
              obtain ⟨t144, A220, H⟩ := H
              replace H : (if t144 = true then (waggonerlaw01_LeBack.j1 kj6 l2 a3 l4 t135 (strOfNums l2) false) else (waggonerlaw01_LeBack.j1 kj6 l2 a3 l4 t135 (strOfNums l2) true)) = some true := H
              have A22 := Aside0.mk A220
              clear A220
              by_cases c23 : t144 = true
              · subst c23
                have H1 : (waggonerlaw01_LeBack.j1 kj6 l2 a3 l4 t135 (strOfNums l2) false) = some true := by rw [if_pos rfl] at H; exact H
                clear H
                have H := H1
                clear H1
                have H' := Aside0.mk H
                clear H
                obtain ⟨Ao24, co24, eo24⟩ := Kd.R_slice HO143.out
                subst eo24
                go_wp2_with (first | (go_at_call 35; (with_reducible refine (waggonerref01_Same.calls _ _ t140 _ _ l1 true _ ?side1 ?side2 ?side3 ?side4 A22.out).mono ?_); (case side1 => repeat (first | exact (Kd.R_reads' HO143.out).2.2 | (with_reducible refine Kd.C_alloc ?_ _) | (with_reducible refine Kd.C_drewN ?_ _) | (with_reducible refine Kd.C_drew ?_))); (case side2 => exact (Kd.R_reads' HO143.out).2.1); (case side3 => repeat (first | exact (Kd.C_below HR1.out HB.out) | (with_reducible refine Kd.C_alloc ?_ _) | (with_reducible refine Kd.C_drewN ?_ _) | (with_reducible refine Kd.C_drew ?_))); (case side4 => exact HC1.out); rintro e w' ⟨rfl, ⟨nd, rfl⟩⟩))
                go_meet
                case rel => exact ⟨_, (false), (by first | rfl | (simp; done) | (simp [*]; done)), H', ⟨by have := HJ6.out; first | omega | exact Nat.le_refl _⟩, ⟨by repeat (first | (with_reducible first | exact HB.out | apply below_alloc | apply pw_below_drewN | apply below_drew1) | exact HB.out)⟩⟩
              · replace c23 := Bool.eq_false_iff.mpr c23
                subst c23
                have H1 : (waggonerlaw01_LeBack.j1 kj6 l2 a3 l4 t135 (strOfNums l2) true) = some true := by rw [if_neg (show ¬ (false = true) by decide)] at H; exact H
                clear H
                have H := H1
                clear H1
                have H' := Aside0.mk H
                clear H
                obtain ⟨Ao25, co25, eo25⟩ := Kd.R_slice HO143.out
                subst eo25
                go_wp2_with (first | (go_at_call 35; (with_reducible refine (waggonerref01_Same.calls _ _ t140 _ _ l1 false _ ?side1 ?side2 ?side3 ?side4 A22.out).mono ?_); (case side1 => repeat (first | exact (Kd.R_reads' HO143.out).2.2 | (with_reducible refine Kd.C_alloc ?_ _) | (with_reducible refine Kd.C_drewN ?_ _) | (with_reducible refine Kd.C_drew ?_))); (case side2 => exact (Kd.R_reads' HO143.out).2.1); (case side3 => repeat (first | exact (Kd.C_below HR1.out HB.out) | (with_reducible refine Kd.C_alloc ?_ _) | (with_reducible refine Kd.C_drewN ?_ _) | (with_reducible refine Kd.C_drew ?_))); (case side4 => exact HC1.out); rintro e w' ⟨rfl, ⟨nd, rfl⟩⟩))
                go_meet
                case rel => exact ⟨_, (true), (by first | rfl | (simp; done) | (simp [*]; done)), H', ⟨by have := HJ6.out; first | omega | exact Nat.le_refl _⟩, ⟨by repeat (first | (with_reducible first | exact HB.out | apply below_alloc | apply pw_below_drewN | apply below_drew1) | exact HB.out)⟩⟩
            · rw [if_neg c21] at H
              have c21b0 : (t141 == 0) = false := beq_eq_false_iff_ne.mpr c21
              have c21b1 : (t141 != 0) = true := bne_iff_ne.mpr c21
              have H' := Aside0.mk H
              clear H
              go_wp2
              go_meet
              case rel => exact ⟨_, (true), (by first | rfl | (simp; done) | (simp [*]; done)), H', ⟨by have := HJ6.out; first | omega | exact Nat.le_refl _⟩, ⟨by repeat (first | (with_reducible first | exact HB.out | apply below_alloc | apply pw_below_drewN | apply below_drew1) | exact HB.out)⟩⟩
          · rw [if_neg c20] at H
            have c20b0 : (t137 == 0) = false := beq_eq_false_iff_ne.mpr c20
            have c20b1 : (t137 != 0) = true := bne_iff_ne.mpr c20
            (first | rw [c20b0] | (simp only [i64_w, i32_w]; rw [c20b0]) | skip)
            have H' := Aside0.mk H
            clear H
            go_wp2
            go_meet
            case rel => exact ⟨_, (decide ((t136.length : Int) > 0)), (by first | rfl | (simp; done) | (simp [*]; done)), H', ⟨by have := HJ6.out; first | omega | exact Nat.le_refl _⟩, ⟨by repeat (first | (with_reducible first | exact HB.out | apply below_alloc | apply pw_below_drewN | apply below_drew1) | exact HB.out)⟩⟩
        case rest =>
          clear HC15
          try clear c1
          try clear hcv1
          try clear c2
          try clear p2
          try clear c3
          try clear c4
          try clear c9
          try clear c9b0
          try clear c9b1
          try clear c10
          try clear c10b0
          try clear c10b1
          try clear c11
          try clear c11b0
          try clear c11b1
          try clear c12
          try clear hcv16
          try clear c20
          try clear c20b0
          try clear c20b1
          try clear c21
          try clear c21b0
          try clear c21b1
          try clear c23
          try clear p2
          obtain ⟨kq, x76_14, rfl, HA, HJ14, HB⟩ := hcut
          cases kq with
          | zero => exact absurd HA.out (by simp [waggonerlaw01_LeBack.j1])
          | succ kj14 =>
            have H := HA.out
            clear HA
            rw [waggonerlaw01_LeBack.j1] at H
            by_cases c26 : x76_14 = true
            · subst c26
              have H1 : (some false) = some true := by rw [if_pos rfl] at H; exact H
              clear H
              have H := H1
              clear H1
              (have HRT := Aside0.mk (Option.some.inj H); clear H)
              go_wp2
              go_ret
              exact ⟨by first | rfl | (exact congrArg (fun z_ => Ending.returned (Value.bool z_)) HRT.out) | (rw [HRT.out]; done) | (simp [errW_none, errW_some] <;> rfl) | (simp [*, errW_none, errW_some] <;> rfl), by repeat (first | (with_reducible first | exact HB.out | apply below_alloc | apply pw_below_drewN | apply below_drew1) | exact HB.out)⟩
            · replace c26 := Bool.eq_false_iff.mpr c26
              subst c26
              have H1 : ((le_Put.f l2 a3 8).bind fun bt145 => (if (bt145.1.length : Int) = (wrap64 ((l2.length : Int) + 8)) then ((some (([] : List Int) : List Int)).bind fun y149 => (if 0 ≤ (l2.length : Int) then (if (l2.length : Int) ≤ (bt145.1.length : Int) then ((some (bt145.1.drop ((l2.length : Int) : Int).toNat : List Int)).bind fun y152 => (if y149.length + y152.length < 140737488355328 then ((some (y149 ++ y152 : List Int)).bind fun y156 => (if y156.length + l4.length < 140737488355328 then ((le_Take.f (y156 ++ l4) 8).bind fun bt162 => (if t135 = true then (if bt145.2 = 0 then (if (strOfNums (bt145.1.take ((l2.length : Int) : Int).toNat)).toList = (strOfNums l2).toList then (if (strOfNums l2).toList = (strOfNums l2).toList then (if bt162.1 = a3 then (if (strOfNums bt162.2.1).toList = (strOfNums l4).toList then (some (bt162.2.2 == 0)) else (some false)) else (some false)) else (some false)) else (some false)) else (some false)) else (some false))) else (none))) else (none))) else (none)) else (none))) else (some false))) = some true := by rw [if_neg (show ¬ (false = true) by decide)] at H; exact H
              clear H
              have H := H1
              clear H1
              replace H := Option.bind_eq_some_iff.mp H
              obtain ⟨⟨t145, t146⟩, A270, H⟩ := H
              replace H : (if (t145.length : Int) = (wrap64 ((l2.length : Int) + 8)) then ((some (([] : List Int) : List Int)).bind fun y149 => (if 0 ≤ (l2.length : Int) then (if (l2.length : Int) ≤ (t145.length : Int) then ((some (t145.drop ((l2.length : Int) : Int).toNat : List Int)).bind fun y152 => (if y149.length + y152.length < 140737488355328 then ((some (y149 ++ y152 : List Int)).bind fun y156 => (if y156.length + l4.length < 140737488355328 then ((le_Take.f (y156 ++ l4) 8).bind fun bt162 => (if t135 = true then (if t146 = 0 then (if (strOfNums (t145.take ((l2.length : Int) : Int).toNat)).toList = (strOfNums l2).toList then (if (strOfNums l2).toList = (strOfNums l2).toList then (if bt162.1 = a3 then (if (strOfNums bt162.2.1).toList = (strOfNums l4).toList then (some (bt162.2.2 == 0)) else (some false)) else (some false)) else (some false)) else (some false)) else (some false)) else (some false))) else (none))) else (none))) else (none)) else (none))) else (some false)) = some true := H
              have A27 := Aside0.mk A270
              clear A270
              by_cases c28 : (t145.length : Int) = (wrap64 ((l2.length : Int) + 8))
              · rw [if_pos c28] at H
                have c28b0 : ((t145.length : Int) == (wrap64 ((l2.length : Int) + 8))) = true := beq_iff_eq.mpr c28
                have c28b1 : ((t145.length : Int) != (wrap64 ((l2.length : Int) + 8))) = false := bne_eq_false_iff_eq.mpr c28
                clear c28
                obtain ⟨y149, hy149⟩ : ∃ y_ : List Int, y_ = (([] : List Int)) := ⟨_, rfl⟩
                replace H : (if 0 ≤ (l2.length : Int) then (if (l2.length : Int) ≤ (t145.length : Int) then ((some (t145.drop ((l2.length : Int) : Int).toNat : List Int)).bind fun y152 => (if y149.length + y152.length < 140737488355328 then ((some (y149 ++ y152 : List Int)).bind fun y156 => (if y156.length + l4.length < 140737488355328 then ((le_Take.f (y156 ++ l4) 8).bind fun bt162 => (if t135 = true then (if t146 = 0 then (if (strOfNums (t145.take ((l2.length : Int) : Int).toNat)).toList = (strOfNums l2).toList then (if (strOfNums l2).toList = (strOfNums l2).toList then (if bt162.1 = a3 then (if (strOfNums bt162.2.1).toList = (strOfNums l4).toList then (some (bt162.2.2 == 0)) else (some false)) else (some false)) else (some false)) else (some false)) else (some false)) else (some false))) else (none))) else (none))) else (none)) else (none)) = some true := by first | (rw [hy149]; with_reducible exact H) | (have H2_ := (Option.bind_some _ _).symm.trans H; rw [hy149]; with_reducible exact H2_) | (have H2_ := (Option.bind_some _ _).symm.trans H; with_reducible exact H2_) | with_reducible exact H | (rw [hy149]; exact H) | exact H
                have Ny149 := Aside0.mk hy149
                clear hy149
                by_cases c29 : 0 ≤ (l2.length : Int)
                · rw [if_pos c29] at H
                  have c29b0 := eq_true c29
                  have c29b1 : decide (0 ≤ (l2.length : Int)) = true := decide_eq_true c29
                  clear c29
                  by_cases c30 : (l2.length : Int) ≤ (t145.length : Int)
                  · rw [if_pos c30] at H
                    have c30b0 := eq_true c30
                    have c30b1 : decide ((l2.length : Int) ≤ (t145.length : Int)) = true := decide_eq_true c30
                    clear c30
                    obtain ⟨y152, hy152⟩ : ∃ y_ : List Int, y_ = (t145.drop ((l2.length : Int) : Int).toNat) := ⟨_, rfl⟩
                    replace H : (if y149.length + y152.length < 140737488355328 then ((some (y149 ++ y152 : List Int)).bind fun y156 => (if y156.length + l4.length < 140737488355328 then ((le_Take.f (y156 ++ l4) 8).bind fun bt162 => (if t135 = true then (if t146 = 0 then (if (strOfNums (t145.take ((l2.length : Int) : Int).toNat)).toList = (strOfNums l2).toList then (if (strOfNums l2).toList = (strOfNums l2).toList then (if bt162.1 = a3 then (if (strOfNums bt162.2.1).toList = (strOfNums l4).toList then (some (bt162.2.2 == 0)) else (some false)) else (some false)) else (some false)) else (some false)) else (some false)) else (some false))) else (none))) else (none)) = some true := by first | (rw [hy152]; with_reducible exact H) | (have H2_ := (Option.bind_some _ _).symm.trans H; rw [hy152]; with_reducible exact H2_) | (have H2_ := (Option.bind_some _ _).symm.trans H; with_reducible exact H2_) | with_reducible exact H | (rw [hy152]; exact H) | exact H
                    have Ny152 := Aside0.mk hy152
                    clear hy152
                    by_cases c31 : y149.length + y152.length < 140737488355328
                    · rw [if_pos c31] at H
                      have LMc31 := Aside0.mk c31
                      clear c31
                      obtain ⟨y156, hy156⟩ : ∃ y_ : List Int, y_ = (y149 ++ y152) := ⟨_, rfl⟩
                      replace H : (if y156.length + l4.length < 140737488355328 then ((le_Take.f (y156 ++ l4) 8).bind fun bt162 => (if t135 = true then (if t146 = 0 then (if (strOfNums (t145.take ((l2.length : Int) : Int).toNat)).toList = (strOfNums l2).toList then (if (strOfNums l2).toList = (strOfNums l2).toList then (if bt162.1 = a3 then (if (strOfNums bt162.2.1).toList = (strOfNums l4).toList then (some (bt162.2.2 == 0)) else (some false)) else (some false)) else (some false)) else (some false)) else (some false)) else (some false))) else (none)) = some true := by first | (rw [hy156]; with_reducible exact H) | (have H2_ := (Option.bind_some _ _).symm.trans H; rw [hy156]; with_reducible exact H2_) | (have H2_ := (Option.bind_some _ _).symm.trans H; with_reducible exact H2_) | with_reducible exact H | (rw [hy156]; exact H) | exact H
                      have Ny156 := Aside0.mk hy156
                      clear hy156
                      by_cases c32 : y156.length + l4.length < 140737488355328
                      · rw [if_pos c32] at H
                        have LMc32 := Aside0.mk c32
                        clear c32
                        obtain ⟨y159, hy159⟩ : ∃ y_ : List Int, y_ = (y156 ++ l4) := ⟨_, rfl⟩
                        replace H : ((le_Take.f y159 8).bind fun bt162 => (if t135 = true then (if t146 = 0 then (if (strOfNums (t145.take ((l2.length : Int) : Int).toNat)).toList = (strOfNums l2).toList then (if (strOfNums l2).toList = (strOfNums l2).toList then (if bt162.1 = a3 then (if (strOfNums bt162.2.1).toList = (strOfNums l4).toList then (some (bt162.2.2 == 0)) else (some false)) else (some false)) else (some false)) else (some false)) else (some false)) else (some false))) = some true := by first | (rw [hy159]; with_reducible exact H) | (have H2_ := (Option.bind_some _ _).symm.trans H; rw [hy159]; with_reducible exact H2_) | (have H2_ := (Option.bind_some _ _).symm.trans H; with_reducible exact H2_) | with_reducible exact H | (rw [hy159]; exact H) | exact H
                        have Ny159 := Aside0.mk hy159
                        clear hy159
                        replace H := Option.bind_eq_some_iff.mp H
                        obtain ⟨⟨t162, t163, t164⟩, A330, H⟩ := H
                        replace H : (if t135 = true then (if t146 = 0 then (if (strOfNums (t145.take ((l2.length : Int) : Int).toNat)).toList = (strOfNums l2).toList then (if (strOfNums l2).toList = (strOfNums l2).toList then (if t162 = a3 then (if (strOfNums t163).toList = (strOfNums l4).toList then (some (t164 == 0)) else (some false)) else (some false)) else (some false)) else (some false)) else (some false)) else (some false)) = some true := H
                        have A33 := Aside0.mk A330
                        clear A330
                        by_cases c34 : t135 = true
                        · subst c34
                          have H1 : (if t146 = 0 then (if (strOfNums (t145.take ((l2.length : Int) : Int).toNat)).toList = (strOfNums l2).toList then (if (strOfNums l2).toList = (strOfNums l2).toList then (if t162 = a3 then (if (strOfNums t163).toList = (strOfNums l4).toList then (some (t164 == 0)) else (some false)) else (some false)) else (some false)) else (some false)) else (some false)) = some true := by rw [if_pos rfl] at H; exact H
                          clear H
                          have H := H1
                          clear H1
                          by_cases c35 : t146 = 0
                          · rw [if_pos c35] at H
                            have c35b0 : (t146 == 0) = true := beq_iff_eq.mpr c35
                            have c35b1 : (t146 != 0) = false := bne_eq_false_iff_eq.mpr c35
                            clear c35
                            have c36b0 := eq_true (of_decide_eq_true (by first | (with_reducible assumption) | assumption) : 0 ≤ (l2.length : Int))
                            have c37b0 := eq_true (of_decide_eq_true (by first | (with_reducible assumption) | assumption) : (l2.length : Int) ≤ (t145.length : Int))
                            obtain ⟨y167, hy167⟩ : ∃ y_ : List Int, y_ = (t145.take ((l2.length : Int) : Int).toNat) := ⟨_, rfl⟩
                            replace H : (if (strOfNums y167).toList = (strOfNums l2).toList then (if (strOfNums l2).toList = (strOfNums l2).toList then (if t162 = a3 then (if (strOfNums t163).toList = (strOfNums l4).toList then (some (t164 == 0)) else (some false)) else (some false)) else (some false)) else (some false)) = some true := by first | (rw [hy167]; with_reducible exact H) | (have H2_ := (Option.bind_some _ _).symm.trans H; rw [hy167]; with_reducible exact H2_) | (have H2_ := (Option.bind_some _ _).symm.trans H; with_reducible exact H2_) | with_reducible exact H | (rw [hy167]; exact H) | exact H
                            have Ny167 := Aside0.mk hy167
                            clear hy167
                            by_cases c38 : (strOfNums y167).toList = (strOfNums l2).toList
                            · rw [if_pos c38] at H
                              have c38b0 : ((strOfNums y167).toList == (strOfNums l2).toList) = true := beq_iff_eq.mpr c38
                              have c38b1 : ((strOfNums y167).toList != (strOfNums l2).toList) = false := bne_eq_false_iff_eq.mpr c38
                              clear c38
                              by_cases c39 : (strOfNums l2).toList = (strOfNums l2).toList
                              · rw [if_pos c39] at H
                                have c39b0 : ((strOfNums l2).toList == (strOfNums l2).toList) = true := beq_iff_eq.mpr c39
                                have c39b1 : ((strOfNums l2).toList != (strOfNums l2).toList) = false := bne_eq_false_iff_eq.mpr c39
                                clear c39
                                by_cases c40 : t162 = a3
                                · rw [if_pos c40] at H
                                  have c40b0 : (t162 == a3) = true := beq_iff_eq.mpr c40
                                  have c40b1 : (t162 != a3) = false := bne_eq_false_iff_eq.mpr c40
                                  clear c40
                                  by_cases c41 : (strOfNums t163).toList = (strOfNums l4).toList
                                  · rw [if_pos c41] at H
                                    have c41b0 : ((strOfNums t163).toList == (strOfNums l4).toList) = true := beq_iff_eq.mpr c41
                                    have c41b1 : ((strOfNums t163).toList != (strOfNums l4).toList) = false := bne_eq_false_iff_eq.mpr c41
                                    clear c41
                                    (have HRT := Aside0.mk (Option.some.inj H); clear H)
                                    go_wp2_with (first | ((with_reducible refine gate_callee (f := 27) rfl ?_); refine goesL_ (some 80) rfl rfl Try.func27 (by kernel_rfl) rfl #[.slice A2 l2.length c2, .int .u64 a3, .int .i64 8] rfl (by (try simp only [List.map_toArray, List.map_cons, List.map_nil]); first | done | rfl | (simp only [List.length_drop, List.length_take]; rfl)) ?_; (with_reducible refine (le_Put.calls _ _ l2 a3 8 t145 t146 _ ?side1 ?side2 A27.out).mono ?_); (case side1 => repeat (first | exact (Kd.C_below HR2.out HB.out) | (with_reducible refine Kd.C_alloc ?_ _) | (with_reducible refine Kd.C_drewN ?_ _) | (with_reducible refine Kd.C_drew ?_))); (case side2 => exact HC2.out); rintro e w42 ⟨v147, rfl, ho0, hb⟩; refine ⟨_, rfl, ?_⟩; have n0_ := Aside0.mk (Kd.R_lower ho0 (below_size (by repeat (first | (with_reducible first | exact HB.out | apply below_alloc | apply pw_below_drewN | apply below_drew1) | exact HB.out)))); have n1_ := Aside0.mk (below_step (by repeat (first | (with_reducible first | exact HB.out | apply below_alloc | apply pw_below_drewN | apply below_drew1) | exact HB.out)) hb); clear HB; have HO148 := n0_; have HB := n1_; clear n0_ n1_; (try clear hb); (try clear hb2); (try clear hk); (try clear hi); (try clear ho0); obtain ⟨Ao43, co43, eo43⟩ := Kd.R_slice HO148.out; subst eo43) | ((with_reducible refine gate_dst (N := 90) rfl ?_); (try (refine gate_guard (by rfl) ?_; dsimp only)); refine Kd.R_lit (Kd.int .u8) _ 5 ?hg (N := 90) ?hd (xs := ([] : List Int)) (inner := []) (ok := fun _ => True) (okp := fun _ => True) ?hr ?hp (fun _ hk => hk) trivial (Below.refl _ _) (Nat.le_refl _) (by simp) ?_; (case hd => rfl); (case hg => rfl); (case hr => first | (go_simp; done) | (go_simp; rfl)); (case hp => exact (Reps.none _ _)); intro v150 w44 ho45 hb hg_ hnew_; clear hg_ hnew_; (first | rw [← Ny149.out] at ho45 | (simp only [Int.reduceToNat] at ho45; rw [← Ny149.out] at ho45)); have n0_ := Aside0.mk (Kd.R_elder' (by (with_reducible repeat (first | apply Kd.R_alloc | apply Kd.R_drewN | apply Kd.R_drew)); exact HO148.out) (Kd.R_base ho45) hb); have n1_ := Aside0.mk (Kd.R_lower (Kd.R_new' ho45 (Kd.R_lt (by (with_reducible repeat (first | apply Kd.R_alloc | apply Kd.R_drewN | apply Kd.R_drew)); exact HO148.out))) (below_size (by repeat (first | (with_reducible first | exact HB.out | apply below_alloc | apply pw_below_drewN | apply below_drew1) | exact HB.out)))); have n2_ := Aside0.mk (below_step (by repeat (first | (with_reducible first | exact HB.out | apply below_alloc | apply pw_below_drewN | apply below_drew1) | exact HB.out)) hb); clear HO148; clear HB; have HO148 := n0_; have HO151 := n1_; have HB := n2_; clear n0_ n1_ n2_; clear hb ho45; have q46 : ((l2.length : Int) : Int) ≤ ((t145.length : Int) : Int) := of_decide_eq_true (by first | (with_reducible assumption) | assumption); obtain ⟨i046, hi046, _, hsz46, _⟩ := info_parts info5; have hroom46 : t145.length ≤ co43 := (Kd.R_reads' HO148.out).2.1; have hC46 : Kd.C (Kd.int .u8) _ Ao43 t145.length t145 := (Kd.R_reads' HO148.out).2.2; have q046 : (0 : Int) ≤ ((l2.length : Int) : Int) := of_decide_eq_true (by first | (with_reducible assumption) | assumption); have hcut46 := cut_from (P := Try.prog) 23 5 .i64 Try.underlying23 hi046 1 hsz46 Ao43 t145.length co43 (l2.length : Int) q046 q46; have hr46 := Kd.C_drop (m := ((l2.length : Int) : Int).toNat) (c := co43) hC46 (by omega) hroom46; obtain ⟨A46, hA46⟩ : ∃ A1, A1 = (if co43 = ((l2.length : Int) : Int).toNat then Ao43 else (Ao43 : Option Addr).map (·.add (((l2.length : Int) : Int).toNat * 1))) := ⟨_, rfl⟩; obtain ⟨c46, hc46⟩ : ∃ c1, c1 = co43 - ((l2.length : Int) : Int).toNat := ⟨_, rfl⟩; have hy46 : y152.length = t145.length - ((l2.length : Int) : Int).toNat := (by rw [Ny152.out, List.length_drop] <;> omega); rw [show (t145).drop ((l2.length : Int) : Int).toNat = y152 from Ny152.out.symm] at hr46; replace hr46 : Kd.C (Kd.int .u8) _ A46 y152.length y152 := (by rw [hA46]; exact hr46); rw [← hy46, ← hA46, ← hc46] at hcut46; have HR155 := Aside0.mk hr46; have HC155 := Aside0.mk (show y152.length ≤ c46 from by rw [hy46, hc46]; exact Nat.sub_le_sub_right hroom46 _); clear hr46 hC46 hroom46 hi046 hsz46 hc46; have KY46 := Aside0.mk hy46; have KA46 := Aside0.mk hA46; clear hy46 hA46; have KL46 := Aside0.mk (show ((l2.length : Int) : Int).toNat ≤ t145.length from by omega); replace q46 := eq_true q46) | ((with_reducible refine gate_builtin (b := .append) (xs := #[.tmp 90, .tmp 94]) rfl ?_); (try (refine gate_guard (by rfl) ?_; dsimp only)); at_builtin; refine Kd.R_append_rows (Kd.int .u8) (w0 := w) w.heap.size rfl (.tmp 90) (.tmp 94) 23 5 (.int .u8 0) 1 rfl Try.underlying23 info5 rfl (by decide) (by omega) v150 y149 y152 _ _ _ (fun k_ => some k_ ≠ (.slice Ao43 t145.length co43 : Value).ownBlock) (fun _ => False) rfl rfl ?aO ?aR (fun _ _ h => h) (fun _ h => h.elim) ?aF ?aB ?aS ?aL ?_; (case aR => repeat (first | exact (by repeat (first | (with_reducible exact HR155.out) | (with_reducible refine Kd.C_alloc ?_ _) | (with_reducible refine Kd.C_drewN ?_ _) | (with_reducible refine Kd.C_drew ?_) | exact HR155.out)) | (with_reducible refine Kd.C_alloc ?_ _) | (with_reducible refine Kd.C_drewN ?_ _) | (with_reducible refine Kd.C_drew ?_))); (case aB => exact (by repeat (first | (with_reducible first | exact HB.out | apply below_alloc | apply pw_below_drewN | apply below_drew1) | exact HB.out))); (case aF => exact (fun k_ hk => Kd.fresh' (Kd.R_lt (by (with_reducible repeat (first | apply Kd.R_alloc | apply Kd.R_drewN | apply Kd.R_drew)); exact HO148.out)) k_ hk)); (case aO => exact (by (with_reducible repeat (first | apply Kd.R_alloc | apply Kd.R_drewN | apply Kd.R_drew)); exact Kd.R_mono HO151.out (fun _ hk => hk.2))); (case aS => exact (below_size (by repeat (first | (with_reducible first | exact HB.out | apply below_alloc | apply pw_below_drewN | apply below_drew1) | exact HB.out)))); (case aL => have := LMc31.out; omega); intro v157 w47 ho hb hg hat; rw [← Ny156.out] at ho; have n0_ := Aside0.mk (Kd.R_after (ok := (fun _ => True)) (by (with_reducible repeat (first | apply Kd.R_alloc | apply Kd.R_drewN | apply Kd.R_drew)); exact HO148.out) hg hat); have n1_ := Aside0.mk (hb); have n2_ := Aside0.mk ((show Kd.C (Kd.int .u8) w47 A46 y152.length y152 from by rw [Ny152.out, KA46.out]; exact Kd.C_drop (m := ((l2.length : Int) : Int).toNat) (c := co43) ((Kd.R_reads' (Kd.R_after (ok := (fun _ => True)) (by (with_reducible repeat (first | apply Kd.R_alloc | apply Kd.R_drewN | apply Kd.R_drew)); exact HO148.out) hg hat)).2.2) KL46.out ((Kd.R_reads' (Kd.R_after (ok := (fun _ => True)) (by (with_reducible repeat (first | apply Kd.R_alloc | apply Kd.R_drewN | apply Kd.R_drew)); exact HO148.out) hg hat)).2.1))); have n3_ := Aside0.mk (ho); clear HO148; clear HB; clear HR155; clear HO151; have HO148 := n0_; have HB := n1_; have HR155 := n2_; have HO158 := n3_; clear n0_ n1_ n2_ n3_; clear ho hb hg hat) | ((with_reducible refine gate_builtin (b := .append) (xs := #[.tmp 95, .tmp 96]) rfl ?_); (try (refine gate_guard (by rfl) ?_; dsimp only)); at_builtin; refine Kd.R_append_rows (Kd.int .u8) (w0 := w) w.heap.size rfl (.tmp 95) (.tmp 96) 23 5 (.int .u8 0) 1 rfl Try.underlying23 info5 rfl (by decide) (by omega) v157 y156 l4 _ _ _ (fun k_ => some k_ ≠ (.slice Ao43 t145.length co43 : Value).ownBlock) (fun _ => False) rfl rfl ?aO ?aR (fun _ _ h => h) (fun _ h => h.elim) ?aF ?aB ?aS ?aL ?_; (case aR => repeat (first | exact (Kd.C_below HR4.out HB.out) | (with_reducible refine Kd.C_alloc ?_ _) | (with_reducible refine Kd.C_drewN ?_ _) | (with_reducible refine Kd.C_drew ?_))); (case aB => exact (by repeat (first | (with_reducible first | exact HB.out | apply below_alloc | apply pw_below_drewN | apply below_drew1) | exact HB.out))); (case aF => exact (fun k_ hk => Kd.fresh' (Kd.R_lt (by (with_reducible repeat (first | apply Kd.R_alloc | apply Kd.R_drewN | apply Kd.R_drew)); exact HO148.out)) k_ hk)); (case aO => exact (by (with_reducible repeat (first | apply Kd.R_alloc | apply Kd.R_drewN | apply Kd.R_drew)); exact HO158.out)); (case aS => exact (below_size (by repeat (first | (with_reducible first | exact HB.out | apply below_alloc | apply pw_below_drewN | apply below_drew1) | exact HB.out)))); (case aL => have := LMc32.out; omega); intro v160 w48 ho hb hg hat; rw [← Ny159.out] at ho; have n0_ := Aside0.mk (Kd.R_after (ok := (fun _ => True)) (by (with_reducible repeat (first | apply Kd.R_alloc | apply Kd.R_drewN | apply Kd.R_drew)); exact HO148.out) hg hat); have n1_ := Aside0.mk (hb); have n2_ := Aside0.mk ((show Kd.C (Kd.int .u8) w48 A46 y152.length y152 from by rw [Ny152.out, KA46.out]; exact Kd.C_drop (m := ((l2.length : Int) : Int).toNat) (c := co43) ((Kd.R_reads' (Kd.R_after (ok := (fun _ => True)) (by (with_reducible repeat (first | apply Kd.R_alloc | apply Kd.R_drewN | apply Kd.R_drew)); exact HO148.out) hg hat)).2.2) KL46.out ((Kd.R_reads' (Kd.R_after (ok := (fun _ => True)) (by (with_reducible repeat (first | apply Kd.R_alloc | apply Kd.R_drewN | apply Kd.R_drew)); exact HO148.out) hg hat)).2.1))); have n3_ := Aside0.mk (ho); clear HO148; clear HB; clear HR155; clear HO158; have HO148 := n0_; have HB := n1_; have HR155 := n2_; have HO161 := n3_; clear n0_ n1_ n2_ n3_; clear ho hb hg hat; obtain ⟨Ao49, co49, eo49⟩ := Kd.R_slice HO161.out; subst eo49) | ((with_reducible refine gate_callee (f := 29) rfl ?_); refine goesL_ (some 98) rfl rfl Try.func29 (by kernel_rfl) rfl #[.slice Ao49 y159.length co49, .int .i64 8] rfl (by (try simp only [List.map_toArray, List.map_cons, List.map_nil]); first | done | rfl | (simp only [List.length_drop, List.length_take]; rfl)) ?_; (with_reducible refine (le_Take.calls _ _ y159 8 t162 t163 t164 _ ?side1 ?side2 A33.out).mono ?_); (case side1 => repeat (first | exact (Kd.R_reads' HO161.out).2.2 | (with_reducible refine Kd.C_alloc ?_ _) | (with_reducible refine Kd.C_drewN ?_ _) | (with_reducible refine Kd.C_drew ?_))); (case side2 => exact (Kd.R_reads' HO161.out).2.1); rintro e w50 ⟨v165, rfl, ho0, hb⟩; refine ⟨_, rfl, ?_⟩; have n0_ := Aside0.mk (Kd.R_elder' (by (with_reducible repeat (first | apply Kd.R_alloc | apply Kd.R_drewN | apply Kd.R_drew)); exact HO148.out) (Kd.R_base ho0) hb); have n1_ := Aside0.mk (Kd.R_elder' (by (with_reducible repeat (first | apply Kd.R_alloc | apply Kd.R_drewN | apply Kd.R_drew)); exact HO161.out) (Kd.R_base ho0) hb); have n2_ := Aside0.mk (Kd.R_lower (Kd.R_new' (Kd.R_new' ho0 (Kd.R_lt (by (with_reducible repeat (first | apply Kd.R_alloc | apply Kd.R_drewN | apply Kd.R_drew)); exact HO148.out))) (Kd.R_lt (by (with_reducible repeat (first | apply Kd.R_alloc | apply Kd.R_drewN | apply Kd.R_drew)); exact HO161.out))) (below_size (by repeat (first | (with_reducible first | exact HB.out | apply below_alloc | apply pw_below_drewN | apply below_drew1) | exact HB.out)))); have n3_ := Aside0.mk (Kd.C_below (by repeat (first | (with_reducible exact HR155.out) | (with_reducible refine Kd.C_alloc ?_ _) | (with_reducible refine Kd.C_drewN ?_ _) | (with_reducible refine Kd.C_drew ?_) | exact HR155.out)) hb); have n4_ := Aside0.mk (below_step (by repeat (first | (with_reducible first | exact HB.out | apply below_alloc | apply pw_below_drewN | apply below_drew1) | exact HB.out)) hb); clear HO148; clear HO161; clear HR155; clear HB; have HO148 := n0_; have HO161 := n1_; have HO166 := n2_; have HR155 := n3_; have HB := n4_; clear n0_ n1_ n2_ n3_ n4_; (try clear hb); (try clear hb2); (try clear hk); (try clear hi); (try clear ho0); have q51 : ((l2.length : Int) : Int) ≤ ((t145.length : Int) : Int) := of_decide_eq_true (by first | (with_reducible assumption) | assumption); obtain ⟨i051, hi051, _, hsz51, _⟩ := info_parts info5; have hroom51 : t145.length ≤ co43 := (Kd.R_reads' HO148.out).2.1; have hC51 : Kd.C (Kd.int .u8) _ Ao43 t145.length t145 := (Kd.R_reads' HO148.out).2.2; have hcut51 := cut_to (P := Try.prog) 23 5 .i64 Try.underlying23 hi051 Ao43 t145.length co43 (l2.length : Int) (of_decide_eq_true (by first | (with_reducible assumption) | assumption)) q51 hroom51; have hr51 := Kd.C_take (m := ((l2.length : Int) : Int).toNat) hC51 (by omega); have hy51 : y167.length = ((l2.length : Int) : Int).toNat := (by rw [Ny167.out, List.length_take]; omega); rw [← Ny167.out] at hr51; rw [← hy51] at hcut51; have HR170 := Aside0.mk hr51; have HC170 := Aside0.mk (show y167.length ≤ co43 from by omega); clear hr51 hC51 hroom51 hi051 hsz51; have KY51 := Aside0.mk hy51; clear hy51; have KL51 := Aside0.mk (show ((l2.length : Int) : Int).toNat ≤ t145.length from by omega); replace q51 := eq_true q51; have hcv52 := Kd.C_string (P := Try.prog) (A := Ao43) (c := co43) Try.underlying23 Try.underlying5 Try.underlying9 (by repeat (first | (with_reducible exact HR170.out) | (with_reducible refine Kd.C_alloc ?_ _) | (with_reducible refine Kd.C_drewN ?_ _) | (with_reducible refine Kd.C_drew ?_) | exact HR170.out)); have hcv53 := Kd.C_string (P := Try.prog) (A := A2) (c := c2) Try.underlying23 Try.underlying5 Try.underlying9 (Kd.C_below HR2.out HB.out); have hcv54 := own_string (P := Try.prog) Try.underlying23 Try.underlying5 Try.underlying9 (Kd.own_of_R HO166.out); have hcv55 := Kd.C_string (P := Try.prog) (A := A4) (c := c4) Try.underlying23 Try.underlying5 Try.underlying9 (Kd.C_below HR4.out HB.out)))
                                    go_ret
                                    exact ⟨by first | rfl | (exact congrArg (fun z_ => Ending.returned (Value.bool z_)) HRT.out) | (rw [HRT.out]; done) | (simp [errW_none, errW_some] <;> rfl) | (simp [*, errW_none, errW_some] <;> rfl), by repeat (first | (with_reducible first | exact HB.out | apply below_alloc | apply pw_below_drewN | apply below_drew1) | exact HB.out)⟩
                                  · rw [if_neg c41] at H
                                    first | exact absurd H (by simp; done) | skip
                                · rw [if_neg c40] at H
                                  first | exact absurd H (by simp; done) | skip
                              · rw [if_neg c39] at H
                                first | exact absurd H (by simp; done) | skip
                            · rw [if_neg c38] at H
                              first | exact absurd H (by simp; done) | skip
                          · rw [if_neg c35] at H
                            first | exact absurd H (by simp; done) | skip
                        · replace c34 := Bool.eq_false_iff.mpr c34
                          subst c34
                          have H1 : (some false) = some true := by rw [if_neg (show ¬ (false = true) by decide)] at H; exact H
                          exact absurd H1 (by simp)
                      · rw [if_neg c32] at H
                        exact absurd H (by simp)
                    · rw [if_neg c31] at H
                      exact absurd H (by simp)
                  · rw [if_neg c30] at H
                    exact absurd H (by simp)
                · rw [if_neg c29] at H
                  exact absurd H (by simp)
              · rw [if_neg c28] at H
                first | exact absurd H (by simp; done) | skip

/-- THE ONE PURE STATEMENT of waggonerlaw01_LeBack: yours. -/
def waggonerlaw01_LeBack.Pure : Prop := ∀ (a0 : ByteArray) (l1 : List Int) (l2 : List Int) (a3 : Int) (l4 : List Int), a0.size ≤ 140737488351232 → l1.length ≤ maxLen → l1.length * 8 ≤ 140737488351232 → (∀ x ∈ l1, (Lit.int .u64 x).wf = true) → l2.length ≤ maxLen → l2.length * 1 ≤ 140737488351232 → (∀ x ∈ l2, (Lit.int .u8 x).wf = true) → (Lit.int .u64 a3).wf = true → l4.length ≤ maxLen → l4.length * 1 ≤ 140737488351232 → (∀ x ∈ l4, (Lit.int .u8 x).wf = true) → ∃ k, waggonerlaw01_LeBack.f k a0 l1 l2 a3 l4 = some true
theorem waggonerlaw01_LeBack.walk (P : waggonerlaw01_LeBack.Pure) (a0 : ByteArray) (a1 : Option Addr) (len1 cap1 : Nat) (z1 : List Int) (a2 : Option Addr) (len2 cap2 : Nat) (z2 : List Int) (a3 : Int) (a4 : Option Addr) (len4 cap4 : Nat) (z4 : List Int) (w : World) (w0 : a0.size ≤ 140737488351232) (w1 : (a1 = none ∧ len1 = 0 ∧ cap1 = 0 ∧ z1 = []) ∨ ∃ x, a1 = some x ∧ len1 ≤ cap1 ∧ cap1 ≤ maxLen ∧ z1.length = cap1 ∧ (∀ i, i < z1.length → w.cell? (x.add i) = some (.int .u64 (z1.getD i 0))) ∧ ∀ n ∈ z1, (Lit.int .u64 n).wf = true) (y1 : len1 * 8 ≤ 140737488351232) (w2 : (a2 = none ∧ len2 = 0 ∧ cap2 = 0 ∧ z2 = []) ∨ ∃ x, a2 = some x ∧ len2 ≤ cap2 ∧ cap2 ≤ maxLen ∧ z2.length = cap2 ∧ (∀ i, i < z2.length → w.cell? (x.add i) = some (.int .u8 (z2.getD i 0))) ∧ ∀ n ∈ z2, (Lit.int .u8 n).wf = true) (y2 : len2 * 1 ≤ 140737488351232) (w3 : (Lit.int .u64 a3).wf = true) (w4 : (a4 = none ∧ len4 = 0 ∧ cap4 = 0 ∧ z4 = []) ∨ ∃ x, a4 = some x ∧ len4 ≤ cap4 ∧ cap4 ≤ maxLen ∧ z4.length = cap4 ∧ (∀ i, i < z4.length → w.cell? (x.add i) = some (.int .u8 (z4.getD i 0))) ∧ ∀ n ∈ z4, (Lit.int .u8 n).wf = true) (y4 : len4 * 1 ≤ 140737488351232) :
    Calls Try.prog 11 #[.string a0, .slice a1 len1 cap1, .slice a2 len2 cap2, .int .u64 a3, .slice a4 len4 cap4] w fun e w' => e = .returned (.bool true) ∧ Below w.heap.size w w' := by
  obtain ⟨l1, rfl, hr1, hm1, hw1, hc1⟩ := ReadsInt.ofRowC w1
  obtain ⟨l2, rfl, hr2, hm2, hw2, hc2⟩ := ReadsInt.ofRowC w2
  obtain ⟨l4, rfl, hr4, hm4, hw4, hc4⟩ := ReadsInt.ofRowC w4
  obtain ⟨k, h⟩ := P a0 l1 l2 a3 l4 w0 hm1 y1 hw1 hm2 y2 hw2 w3 hm4 y4 hw4
  refine (waggonerlaw01_LeBack.calls k a0 _ _ l1 _ _ l2 a3 _ _ l4 true rfl w (Kd.C_of_reads (d := (0 : Int)) (h1 := fun _ => rfl) hr1) hc1 (Kd.C_of_reads (d := (0 : Int)) (h1 := fun _ => rfl) hr2) hc2 (Kd.C_of_reads (d := (0 : Int)) (h1 := fun _ => rfl) hr4) hc4 h).mono ?_
  rintro e w' ⟨rfl, hd⟩
  exact ⟨rfl, hd⟩

end Go.Proofs.Ytiaoehjldbnpkaa.PB
