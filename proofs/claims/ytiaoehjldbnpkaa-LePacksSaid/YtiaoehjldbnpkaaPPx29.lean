/- Functions of the program as Lean functions, and that the Go code comes to just their answers: no condition but that the function says so. (Written by a program of this workplace over the kit's print, with contracts by hand.) -/
import Derived.Test.YtiaoehjldbnpkaaPPx13
import Derived.Test.YtiaoehjldbnpkaaPPx22
import Derived.Test.YtiaoehjldbnpkaaPPx28
namespace Go.Proofs.Ytiaoehjldbnpkaa.PP
open Go.RowKit Go.Proofs.YtiaoehjldbnpkaaW.PrintWords Go.Proofs.YtiaoehjldbnpkaaW.PrintLast Go.Proofs.YtiaoehjldbnpkaaW.PrintMore
attribute [local go_sem] max2_int min2_int max_two min_two max_three min_three max_four min_four   -- for this text's walks alone
set_option linter.unusedVariables false
set_option linter.unusedSimpArgs false

/-! ### waggonerlaw01_LePacks: function 10 -/
def waggonerlaw01_LePacks.j0 : Nat → ByteArray → List Int → List Int → Bool → Bool → Option (Bool)
  | 0, _, _, _, _, _ => none
  | k + 1, x0, x1, x2, x7, x29 => if x29 = true then (some x7) else ((le_Pack.f x0 x1).bind fun bt151 => ((waggonerref01_Pack.f x0 x1).bind fun bt155 => ((le_Unpack.f x0 x2).bind fun bt159 => ((waggonerref01_Unpack.f x0 x2).bind fun bt163 => (if x7 = true then (if (strOfNums bt151.1).toList = (strOfNums bt155.1).toList then (if bt151.2 = bt155.2 then ((waggonerref01_Same.f bt159.1 bt163.1).bind fun t167 => (if t167 = true then (some (bt159.2 == bt163.2)) else (some false))) else (some false)) else (some false)) else (some false))))))
def waggonerlaw01_LePacks.f (k : Nat) (a0 : ByteArray) (l1 : List Int) (l2 : List Int) : Option (Bool) := (waggonerlaw01_awake.f).bind fun t150 => (if (a0.size : Int) > 60 then (waggonerlaw01_LePacks.j0 k a0 l1 l2 t150 true) else (if (l1.length : Int) > 60 then (waggonerlaw01_LePacks.j0 k a0 l1 l2 t150 true) else (waggonerlaw01_LePacks.j0 k a0 l1 l2 t150 (decide ((l2.length : Int) > 300)))))
theorem waggonerlaw01_LePacks.mono_l : ∀ k, (∀ y0 y1 y2 y3 y4, LeO (waggonerlaw01_LePacks.j0 k y0 y1 y2 y3 y4) (waggonerlaw01_LePacks.j0 (k + 1) y0 y1 y2 y3 y4))
  | 0 => fun _ _ _ _ _ r h => by simp [waggonerlaw01_LePacks.j0] at h
  | k + 1 => by
    have ih0 := waggonerlaw01_LePacks.mono_l k
    · intro y0 y1 y2 y3 y4
      unfold waggonerlaw01_LePacks.j0
      repeat' first
      | (with_reducible exact ih0 _ _ _ _ _)
      | (with_reducible exact LeO.refl _)
      | (with_reducible exact LeO.none _)
      | (with_reducible refine LeO.ite ?_ ?_)
      | (with_reducible refine LeO.bind ?_ (fun _ => ?_))
      | exact ih0 _ _ _ _ _
      | exact LeO.none _
      | refine LeO.ite ?_ ?_
      | refine LeO.bind ?_ (fun _ => ?_)
theorem waggonerlaw01_LePacks.mono : ∀ a0 a1 a2 k, LeO (waggonerlaw01_LePacks.f k a0 a1 a2) (waggonerlaw01_LePacks.f (k + 1) a0 a1 a2) := by
  intro a0 a1 a2 k
  have ih0 := waggonerlaw01_LePacks.mono_l k
  unfold waggonerlaw01_LePacks.f
  repeat' first
      | (with_reducible exact ih0 _ _ _ _ _)
      | (with_reducible exact LeO.refl _)
      | (with_reducible exact LeO.none _)
      | (with_reducible refine LeO.ite ?_ ?_)
      | (with_reducible refine LeO.bind ?_ (fun _ => ?_))
      | exact ih0 _ _ _ _ _
      | exact LeO.none _
      | refine LeO.ite ?_ ?_
      | refine LeO.bind ?_ (fun _ => ?_)
set_option maxHeartbeats 8000000 in
set_option maxRecDepth 100000 in
theorem waggonerlaw01_LePacks.calls (k : Nat) (a0 : ByteArray) (A1 : Option Addr) (c1 : Nat) (l1 : List Int) (A2 : Option Addr) (c2 : Nat) (l2 : List Int) (r : Bool) (hT : r = true) (w : World) (hr1 : Kd.C (Kd.int .u64) w A1 l1.length l1) (hc1 : l1.length ≤ c1) (hr2 : Kd.C (Kd.int .u8) w A2 l2.length l2) (hc2 : l2.length ≤ c2) (h : waggonerlaw01_LePacks.f k a0 l1 l2 = some r) :
    Calls Try.prog 10 #[.string a0, .slice A1 l1.length c1, .slice A2 l2.length c2] w fun e w' => e = .returned (.bool r) ∧ Below w.heap.size w w' := by
  subst hT
  have HR1 := Aside0.mk hr1
  have HC1 := Aside0.mk hc1
  clear hr1 hc1
  have HR2 := Aside0.mk hr2
  have HC2 := Aside0.mk hc2
  clear hr2 hc2
  have HB := Aside0.mk (Below.refl w.heap.size w)
  have H : ((waggonerlaw01_awake.f).bind fun t150 => (if (a0.size : Int) > 60 then (waggonerlaw01_LePacks.j0 k a0 l1 l2 t150 true) else (if (l1.length : Int) > 60 then (waggonerlaw01_LePacks.j0 k a0 l1 l2 t150 true) else (waggonerlaw01_LePacks.j0 k a0 l1 l2 t150 (decide ((l2.length : Int) > 300)))))) = some true := h
  clear h
  replace H := Option.bind_eq_some_iff.mp H
  obtain ⟨t150, A40, H⟩ := H
  replace H : (if (a0.size : Int) > 60 then (waggonerlaw01_LePacks.j0 k a0 l1 l2 t150 true) else (if (l1.length : Int) > 60 then (waggonerlaw01_LePacks.j0 k a0 l1 l2 t150 true) else (waggonerlaw01_LePacks.j0 k a0 l1 l2 t150 (decide ((l2.length : Int) > 300))))) = some true := H
  have A4 := Aside0.mk A40
  clear A40
  have HC5 := Aside0.mk H
  clear H
  go_enter Try.func10, Try.ntmps10
  go_upto_region 2 with (first | ((with_reducible refine gate_callee (f := 26) rfl ?_); refine goesL_ (some 16) rfl rfl Try.func26 (by kernel_rfl) rfl #[] rfl (by (try simp only [List.map_toArray, List.map_cons, List.map_nil]); first | done | rfl | (simp only [List.length_drop, List.length_take]; rfl)) ?_; (with_reducible refine (waggonerlaw01_awake.calls  t150 _ A4.out).mono ?_); rintro e w6 ⟨rfl, hb⟩; refine ⟨_, rfl, ?_⟩; have n0_ := Aside0.mk (below_step (by repeat (first | (with_reducible first | exact HB.out | apply below_alloc | apply pw_below_drewN | apply below_drew1) | exact HB.out)) hb); clear HB; have HB := n0_; clear n0_; (try clear hb); (try clear hb2); (try clear hk); (try clear hi)))
  (try simp only [Act.put, List.setIfInBounds_toArray, List.set_cons_zero, List.set_cons_succ])
  go_cut [29] (fun v29 wc => ∃ (kq : Nat) (x29_4 : Bool), v29 = .bool x29_4 ∧ Aside0 (waggonerlaw01_LePacks.j0 kq a0 l1 l2 t150 x29_4 = some true) ∧ Aside0 (kq ≤ k) ∧ Aside0 (Below w.heap.size w wc))
  case first =>
    have H := HC5.out
    clear HC5
    by_cases c7 : (a0.size : Int) > 60
    · rw [if_pos c7] at H
      have c7b0 : decide (60 < (a0.size : Int)) = true := decide_eq_true c7
      have c7b1 : decide (60 < a0.size) = true := decide_eq_true (by omega)
      clear c7
      (first | rw [c7b0] | (simp only [i64_w, i32_w]; rw [c7b0]) | skip)
      have H' := Aside0.mk H
      clear H
      go_wp2
      go_meet
      case rel => exact ⟨_, (true), (by first | rfl | (simp; done) | (simp [*]; done)), H', ⟨by first | omega | exact Nat.le_refl _⟩, ⟨by repeat (first | (with_reducible first | exact HB.out | apply below_alloc | apply pw_below_drewN | apply below_drew1) | exact HB.out)⟩⟩
    · rw [if_neg c7] at H
      have c7b0 : decide (60 < (a0.size : Int)) = false := decide_eq_false c7
      have c7b1 : decide (60 < a0.size) = false := decide_eq_false (by omega)
      clear c7
      (first | rw [c7b0] | (simp only [i64_w, i32_w]; rw [c7b0]) | skip)
      by_cases c8 : (l1.length : Int) > 60
      · rw [if_pos c8] at H
        have c8b0 : decide (60 < (l1.length : Int)) = true := decide_eq_true c8
        have c8b1 : decide (60 < l1.length) = true := decide_eq_true (by omega)
        clear c8
        have H' := Aside0.mk H
        clear H
        go_wp2
        go_meet
        case rel => exact ⟨_, (true), (by first | rfl | (simp; done) | (simp [*]; done)), H', ⟨by first | omega | exact Nat.le_refl _⟩, ⟨by repeat (first | (with_reducible first | exact HB.out | apply below_alloc | apply pw_below_drewN | apply below_drew1) | exact HB.out)⟩⟩
      · rw [if_neg c8] at H
        have c8b0 : decide (60 < (l1.length : Int)) = false := decide_eq_false c8
        have c8b1 : decide (60 < l1.length) = false := decide_eq_false (by omega)
        clear c8
        have H' := Aside0.mk H
        clear H
        go_wp2
        go_meet
        case rel => exact ⟨_, (decide ((l2.length : Int) > 300)), (by first | rfl | (simp; done) | (simp [*]; done)), H', ⟨by first | omega | exact Nat.le_refl _⟩, ⟨by repeat (first | (with_reducible first | exact HB.out | apply below_alloc | apply pw_below_drewN | apply below_drew1) | exact HB.out)⟩⟩
  case rest =>
    clear HC5
    try clear c1
    try clear c2
    try clear p2
    try clear c7
    try clear c7b0
    try clear c7b1
    try clear c8
    try clear c8b0
    try clear c8b1
    obtain ⟨kq, x29_4, rfl, HA, HJ4, HB⟩ := hcut
    cases kq with
    | zero => exact absurd HA.out (by simp [waggonerlaw01_LePacks.j0])
    | succ kj4 =>
      have H := HA.out
      clear HA
      simp only [waggonerlaw01_LePacks.j0] at H
      by_cases c9 : x29_4 = true
      · subst c9
        have H1 : (some t150) = some true := by rw [if_pos rfl] at H; exact H
        clear H
        have H := H1
        clear H1
        (have HRT := Aside0.mk (Option.some.inj H); clear H)
        go_wp2
        go_ret
        exact ⟨by first | rfl | (exact congrArg (fun z_ => Ending.returned (Value.bool z_)) HRT.out) | (rw [HRT.out]; done) | (simp [errW_none, errW_some] <;> rfl) | (simp [*, errW_none, errW_some] <;> rfl), by repeat (first | (with_reducible first | exact HB.out | apply below_alloc | apply pw_below_drewN | apply below_drew1) | exact HB.out)⟩
      · replace c9 := Bool.eq_false_iff.mpr c9
        subst c9
        have H1 : ((le_Pack.f a0 l1).bind fun bt151 => ((waggonerref01_Pack.f a0 l1).bind fun bt155 => ((le_Unpack.f a0 l2).bind fun bt159 => ((waggonerref01_Unpack.f a0 l2).bind fun bt163 => (if t150 = true then (if (strOfNums bt151.1).toList = (strOfNums bt155.1).toList then (if bt151.2 = bt155.2 then ((waggonerref01_Same.f bt159.1 bt163.1).bind fun t167 => (if t167 = true then (some (bt159.2 == bt163.2)) else (some false))) else (some false)) else (some false)) else (some false)))))) = some true := by rw [if_neg (show ¬ (false = true) by decide)] at H; exact H
        clear H
        have H := H1
        clear H1
        replace H := Option.bind_eq_some_iff.mp H
        obtain ⟨⟨t151, t152⟩, A100, H⟩ := H
        replace H : ((waggonerref01_Pack.f a0 l1).bind fun bt155 => ((le_Unpack.f a0 l2).bind fun bt159 => ((waggonerref01_Unpack.f a0 l2).bind fun bt163 => (if t150 = true then (if (strOfNums t151).toList = (strOfNums bt155.1).toList then (if t152 = bt155.2 then ((waggonerref01_Same.f bt159.1 bt163.1).bind fun t167 => (if t167 = true then (some (bt159.2 == bt163.2)) else (some false))) else (some false)) else (some false)) else (some false))))) = some true := H
        have A10 := Aside0.mk A100
        clear A100
        replace H := Option.bind_eq_some_iff.mp H
        obtain ⟨⟨t155, t156⟩, A110, H⟩ := H
        replace H : ((le_Unpack.f a0 l2).bind fun bt159 => ((waggonerref01_Unpack.f a0 l2).bind fun bt163 => (if t150 = true then (if (strOfNums t151).toList = (strOfNums t155).toList then (if t152 = t156 then ((waggonerref01_Same.f bt159.1 bt163.1).bind fun t167 => (if t167 = true then (some (bt159.2 == bt163.2)) else (some false))) else (some false)) else (some false)) else (some false)))) = some true := H
        have A11 := Aside0.mk A110
        clear A110
        replace H := Option.bind_eq_some_iff.mp H
        obtain ⟨⟨t159, t160⟩, A120, H⟩ := H
        replace H : ((waggonerref01_Unpack.f a0 l2).bind fun bt163 => (if t150 = true then (if (strOfNums t151).toList = (strOfNums t155).toList then (if t152 = t156 then ((waggonerref01_Same.f t159 bt163.1).bind fun t167 => (if t167 = true then (some (t160 == bt163.2)) else (some false))) else (some false)) else (some false)) else (some false))) = some true := H
        have A12 := Aside0.mk A120
        clear A120
        replace H := Option.bind_eq_some_iff.mp H
        obtain ⟨⟨t163, t166⟩, A130, H⟩ := H
        replace H : (if t150 = true then (if (strOfNums t151).toList = (strOfNums t155).toList then (if t152 = t156 then ((waggonerref01_Same.f t159 t163).bind fun t167 => (if t167 = true then (some (t160 == t166)) else (some false))) else (some false)) else (some false)) else (some false)) = some true := H
        have A13 := Aside0.mk A130
        clear A130
        by_cases c14 : t150 = true
        · subst c14
          have H1 : (if (strOfNums t151).toList = (strOfNums t155).toList then (if t152 = t156 then ((waggonerref01_Same.f t159 t163).bind fun t167 => (if t167 = true then (some (t160 == t166)) else (some false))) else (some false)) else (some false)) = some true := by rw [if_pos rfl] at H; exact H
          clear H
          have H := H1
          clear H1
          by_cases c15 : (strOfNums t151).toList = (strOfNums t155).toList
          · rw [if_pos c15] at H
            have c15b0 : ((strOfNums t151).toList == (strOfNums t155).toList) = true := beq_iff_eq.mpr c15
            have c15b1 : ((strOfNums t151).toList != (strOfNums t155).toList) = false := bne_eq_false_iff_eq.mpr c15
            clear c15
            by_cases c16 : t152 = t156
            · rw [if_pos c16] at H
              have c16b0 : (t152 == t156) = true := beq_iff_eq.mpr c16
              have c16b1 : (t152 != t156) = false := bne_eq_false_iff_eq.mpr c16
              clear c16
              replace H := Option.bind_eq_some_iff.mp H
              obtain ⟨t167, A170, H⟩ := H
              replace H : (if t167 = true then (some (t160 == t166)) else (some false)) = some true := H
              have A17 := Aside0.mk A170
              clear A170
              by_cases c18 : t167 = true
              · subst c18
                have H1 : (some (t160 == t166)) = some true := by rw [if_pos rfl] at H; exact H
                clear H
                have H := H1
                clear H1
                (have HRT := Aside0.mk (Option.some.inj H); clear H)
                go_wp2_with (first | ((with_reducible refine gate_callee (f := 31) rfl ?_); refine goesL_ (some 34) rfl rfl Try.func31 (by kernel_rfl) rfl #[.string a0, .slice A1 l1.length c1] rfl (by (try simp only [List.map_toArray, List.map_cons, List.map_nil]); first | done | rfl | (simp only [List.length_drop, List.length_take]; rfl)) ?_; (with_reducible refine (le_Pack.calls a0 _ _ l1 t151 t152 _ ?side1 ?side2 A10.out).mono ?_); (case side1 => repeat (first | exact (Kd.C_below HR1.out HB.out) | (with_reducible refine Kd.C_alloc ?_ _) | (with_reducible refine Kd.C_drewN ?_ _) | (with_reducible refine Kd.C_drew ?_))); (case side2 => exact HC1.out); rintro e w19 ⟨v153, rfl, ho0, hb⟩; refine ⟨_, rfl, ?_⟩; have n0_ := Aside0.mk (Kd.R_lower ho0 (below_size (by repeat (first | (with_reducible first | exact HB.out | apply below_alloc | apply pw_below_drewN | apply below_drew1) | exact HB.out)))); have n1_ := Aside0.mk (below_step (by repeat (first | (with_reducible first | exact HB.out | apply below_alloc | apply pw_below_drewN | apply below_drew1) | exact HB.out)) hb); clear HB; have HO154 := n0_; have HB := n1_; clear n0_ n1_; (try clear hb); (try clear hb2); (try clear hk); (try clear hi); (try clear ho0)) | ((with_reducible refine gate_callee (f := 32) rfl ?_); refine goesL_ (some 40) rfl rfl Try.func32 (by kernel_rfl) rfl #[.string a0, .slice A1 l1.length c1] rfl (by (try simp only [List.map_toArray, List.map_cons, List.map_nil]); first | done | rfl | (simp only [List.length_drop, List.length_take]; rfl)) ?_; (with_reducible refine (waggonerref01_Pack.calls a0 _ _ l1 t155 t156 _ ?side1 ?side2 A11.out).mono ?_); (case side1 => repeat (first | exact (Kd.C_below HR1.out HB.out) | (with_reducible refine Kd.C_alloc ?_ _) | (with_reducible refine Kd.C_drewN ?_ _) | (with_reducible refine Kd.C_drew ?_))); (case side2 => exact HC1.out); rintro e w20 ⟨v157, rfl, ho0, hb⟩; refine ⟨_, rfl, ?_⟩; have n0_ := Aside0.mk (Kd.R_elder' (by (with_reducible repeat (first | apply Kd.R_alloc | apply Kd.R_drewN | apply Kd.R_drew)); exact HO154.out) (Kd.R_base ho0) hb); have n1_ := Aside0.mk (Kd.R_lower (Kd.R_new' ho0 (Kd.R_lt (by (with_reducible repeat (first | apply Kd.R_alloc | apply Kd.R_drewN | apply Kd.R_drew)); exact HO154.out))) (below_size (by repeat (first | (with_reducible first | exact HB.out | apply below_alloc | apply pw_below_drewN | apply below_drew1) | exact HB.out)))); have n2_ := Aside0.mk (below_step (by repeat (first | (with_reducible first | exact HB.out | apply below_alloc | apply pw_below_drewN | apply below_drew1) | exact HB.out)) hb); clear HO154; clear HB; have HO154 := n0_; have HO158 := n1_; have HB := n2_; clear n0_ n1_ n2_; (try clear hb); (try clear hb2); (try clear hk); (try clear hi); (try clear ho0)) | ((with_reducible refine gate_callee (f := 33) rfl ?_); refine goesL_ (some 46) rfl rfl Try.func33 (by kernel_rfl) rfl #[.string a0, .slice A2 l2.length c2] rfl (by (try simp only [List.map_toArray, List.map_cons, List.map_nil]); first | done | rfl | (simp only [List.length_drop, List.length_take]; rfl)) ?_; (with_reducible refine (le_Unpack.calls a0 _ _ l2 t159 t160 _ ?side1 ?side2 A12.out).mono ?_); (case side1 => repeat (first | exact (Kd.C_below HR2.out HB.out) | (with_reducible refine Kd.C_alloc ?_ _) | (with_reducible refine Kd.C_drewN ?_ _) | (with_reducible refine Kd.C_drew ?_))); (case side2 => exact HC2.out); rintro e w21 ⟨v161, rfl, ho0, hb⟩; refine ⟨_, rfl, ?_⟩; have n0_ := Aside0.mk (Kd.R_below (by (with_reducible repeat (first | apply Kd.R_alloc | apply Kd.R_drewN | apply Kd.R_drew)); exact HO154.out) hb); have n1_ := Aside0.mk (Kd.R_below (by (with_reducible repeat (first | apply Kd.R_alloc | apply Kd.R_drewN | apply Kd.R_drew)); exact HO158.out) hb); have n2_ := Aside0.mk (Kd.R_lower ho0 (below_size (by repeat (first | (with_reducible first | exact HB.out | apply below_alloc | apply pw_below_drewN | apply below_drew1) | exact HB.out)))); have n3_ := Aside0.mk (below_step (by repeat (first | (with_reducible first | exact HB.out | apply below_alloc | apply pw_below_drewN | apply below_drew1) | exact HB.out)) hb); clear HO154; clear HO158; clear HB; have HO154 := n0_; have HO158 := n1_; have HO162 := n2_; have HB := n3_; clear n0_ n1_ n2_ n3_; (try clear hb); (try clear hb2); (try clear hk); (try clear hi); (try clear ho0)) | ((with_reducible refine gate_callee (f := 34) rfl ?_); refine goesL_ (some 52) rfl rfl Try.func34 (by kernel_rfl) rfl #[.string a0, .slice A2 l2.length c2] rfl (by (try simp only [List.map_toArray, List.map_cons, List.map_nil]); first | done | rfl | (simp only [List.length_drop, List.length_take]; rfl)) ?_; (with_reducible refine (waggonerref01_Unpack.calls a0 (fun k_ => k_ < w.heap.size) _ _ l2 t163 t166 _ ?side1 A13.out).mono ?_); (case side1 => exact Kd.V_mk HC2.out (Kd.F_below (Kd.C_F (Kd.heap_int .u8) HR2.out) (by repeat (first | (with_reducible first | exact HB.out | apply below_alloc | apply pw_below_drewN | apply below_drew1) | exact HB.out)))); rintro e w22 ⟨v164, rfl, ho0, hb⟩; refine ⟨_, rfl, ?_⟩; have n0_ := Aside0.mk (Kd.R_below (by (with_reducible repeat (first | apply Kd.R_alloc | apply Kd.R_drewN | apply Kd.R_drew)); exact HO154.out) hb); have n1_ := Aside0.mk (Kd.R_below (by (with_reducible repeat (first | apply Kd.R_alloc | apply Kd.R_drewN | apply Kd.R_drew)); exact HO158.out) hb); have n2_ := Aside0.mk (Kd.R_elder' (by (with_reducible repeat (first | apply Kd.R_alloc | apply Kd.R_drewN | apply Kd.R_drew)); exact HO162.out) (Kd.R_base ho0) hb); have n3_ := Aside0.mk (Kd.R_lower (Kd.R_new' (Kd.R_mono (ok' := fun k_ => True) ho0 (fun _ hk_ => trivial)) (Kd.R_lt (by (with_reducible repeat (first | apply Kd.R_alloc | apply Kd.R_drewN | apply Kd.R_drew)); exact HO162.out))) (below_size (by repeat (first | (with_reducible first | exact HB.out | apply below_alloc | apply pw_below_drewN | apply below_drew1) | exact HB.out)))); have n4_ := Aside0.mk (below_step (by repeat (first | (with_reducible first | exact HB.out | apply below_alloc | apply pw_below_drewN | apply below_drew1) | exact HB.out)) hb); clear HO154; clear HO158; clear HO162; clear HB; have HO154 := n0_; have HO158 := n1_; have HO162 := n2_; have HO165 := n3_; have HB := n4_; clear n0_ n1_ n2_ n3_ n4_; (try clear hb); (try clear hb2); (try clear hk); (try clear hi); (try clear ho0); have hcv23 := own_string (P := Try.prog) Try.underlying23 Try.underlying5 Try.underlying9 (Kd.own_of_R HO154.out); have hcv24 := own_string (P := Try.prog) Try.underlying23 Try.underlying5 Try.underlying9 (Kd.own_of_R HO158.out); obtain ⟨Ao25, co25, eo25⟩ := Kd.R_slice HO162.out; subst eo25; obtain ⟨Ao26, co26, eo26⟩ := Kd.R_slice HO165.out; subst eo26) | (go_at_call 35; (with_reducible refine (waggonerref01_Same.calls _ _ t159 _ _ t163 true _ ?side1 ?side2 ?side3 ?side4 A17.out).mono ?_); (case side1 => repeat (first | exact (Kd.R_reads' HO162.out).2.2 | (with_reducible refine Kd.C_alloc ?_ _) | (with_reducible refine Kd.C_drewN ?_ _) | (with_reducible refine Kd.C_drew ?_))); (case side2 => exact (Kd.R_reads' HO162.out).2.1); (case side3 => repeat (first | exact (Kd.R_reads' HO165.out).2.2 | (with_reducible refine Kd.C_alloc ?_ _) | (with_reducible refine Kd.C_drewN ?_ _) | (with_reducible refine Kd.C_drew ?_))); (case side4 => exact (Kd.R_reads' HO165.out).2.1); rintro e w' ⟨rfl, ⟨nd, rfl⟩⟩))
                go_ret
                exact ⟨by first | rfl | (exact congrArg (fun z_ => Ending.returned (Value.bool z_)) HRT.out) | (rw [HRT.out]; done) | (simp [errW_none, errW_some] <;> rfl) | (simp [*, errW_none, errW_some] <;> rfl), by repeat (first | (with_reducible first | exact HB.out | apply below_alloc | apply pw_below_drewN | apply below_drew1) | exact HB.out)⟩
              · replace c18 := Bool.eq_false_iff.mpr c18
                subst c18
                have H1 : (some false) = some true := by rw [if_neg (show ¬ (false = true) by decide)] at H; exact H
                exact absurd H1 (by simp)
            · rw [if_neg c16] at H
              first | exact absurd H (by simp; done) | skip
          · rw [if_neg c15] at H
            first | exact absurd H (by simp; done) | skip
        · replace c14 := Bool.eq_false_iff.mpr c14
          subst c14
          have H1 : (some false) = some true := by rw [if_neg (show ¬ (false = true) by decide)] at H; exact H
          exact absurd H1 (by simp)

/-- THE ONE PURE STATEMENT of waggonerlaw01_LePacks: yours. -/
def waggonerlaw01_LePacks.Pure : Prop := ∀ (a0 : ByteArray) (l1 : List Int) (l2 : List Int), a0.size ≤ 140737488351232 → l1.length ≤ maxLen → l1.length * 8 ≤ 140737488351232 → (∀ x ∈ l1, (Lit.int .u64 x).wf = true) → l2.length ≤ maxLen → l2.length * 1 ≤ 140737488351232 → (∀ x ∈ l2, (Lit.int .u8 x).wf = true) → ∃ k, waggonerlaw01_LePacks.f k a0 l1 l2 = some true
theorem waggonerlaw01_LePacks.walk (P : waggonerlaw01_LePacks.Pure) (a0 : ByteArray) (a1 : Option Addr) (len1 cap1 : Nat) (z1 : List Int) (a2 : Option Addr) (len2 cap2 : Nat) (z2 : List Int) (w : World) (w0 : a0.size ≤ 140737488351232) (w1 : (a1 = none ∧ len1 = 0 ∧ cap1 = 0 ∧ z1 = []) ∨ ∃ x, a1 = some x ∧ len1 ≤ cap1 ∧ cap1 ≤ maxLen ∧ z1.length = cap1 ∧ (∀ i, i < z1.length → w.cell? (x.add i) = some (.int .u64 (z1.getD i 0))) ∧ ∀ n ∈ z1, (Lit.int .u64 n).wf = true) (y1 : len1 * 8 ≤ 140737488351232) (w2 : (a2 = none ∧ len2 = 0 ∧ cap2 = 0 ∧ z2 = []) ∨ ∃ x, a2 = some x ∧ len2 ≤ cap2 ∧ cap2 ≤ maxLen ∧ z2.length = cap2 ∧ (∀ i, i < z2.length → w.cell? (x.add i) = some (.int .u8 (z2.getD i 0))) ∧ ∀ n ∈ z2, (Lit.int .u8 n).wf = true) (y2 : len2 * 1 ≤ 140737488351232) :
    Calls Try.prog 10 #[.string a0, .slice a1 len1 cap1, .slice a2 len2 cap2] w fun e w' => e = .returned (.bool true) ∧ Below w.heap.size w w' := by
  obtain ⟨l1, rfl, hr1, hm1, hw1, hc1⟩ := ReadsInt.ofRowC w1
  obtain ⟨l2, rfl, hr2, hm2, hw2, hc2⟩ := ReadsInt.ofRowC w2
  obtain ⟨k, h⟩ := P a0 l1 l2 w0 hm1 y1 hw1 hm2 y2 hw2
  refine (waggonerlaw01_LePacks.calls k a0 _ _ l1 _ _ l2 true rfl w (Kd.C_of_reads (d := (0 : Int)) (h1 := fun _ => rfl) hr1) hc1 (Kd.C_of_reads (d := (0 : Int)) (h1 := fun _ => rfl) hr2) hc2 h).mono ?_
  rintro e w' ⟨rfl, hd⟩
  exact ⟨rfl, hd⟩

end Go.Proofs.Ytiaoehjldbnpkaa.PP
