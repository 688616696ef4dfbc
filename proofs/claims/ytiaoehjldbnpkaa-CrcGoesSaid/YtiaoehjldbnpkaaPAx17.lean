/- Functions of the program as Lean functions, and that the Go code comes to just their answers: no condition but that the function says so. (Written by a program of this workplace over the kit's print, with contracts by hand.) -/
import Derived.Test.YtiaoehjldbnpkaaPAx0
import Derived.Test.YtiaoehjldbnpkaaPAx2
import Derived.Test.YtiaoehjldbnpkaaPAx4
import Derived.Test.YtiaoehjldbnpkaaPAx15
import Derived.Test.YtiaoehjldbnpkaaPAx16
namespace Go.Proofs.Ytiaoehjldbnpkaa.PA
open Go.RowKit Go.Proofs.YtiaoehjldbnpkaaW.PrintWords Go.Proofs.YtiaoehjldbnpkaaW.PrintLast Go.Proofs.YtiaoehjldbnpkaaW.PrintMore
attribute [local go_sem] max2_int min2_int max_two min_two max_three min_three max_four min_four   -- for this text's walks alone
set_option linter.unusedVariables false
set_option linter.unusedSimpArgs false

/-! ### waggonerlaw02_CrcGoes: function 4 -/
def waggonerlaw02_CrcGoes.j0 : Nat → Int → List Int → List Int → Bool → Bool → Option (Bool)
  | 0, _, _, _, _, _ => none
  | k + 1, x0, x1, x2, x7, x17 => if x17 = true then (some x7) else ((some (([] : List Int) : List Int)).bind fun y115 => (if y115.length + x1.length < 140737488355328 then ((some (y115 ++ x1 : List Int)).bind fun y118 => (if y118.length + x2.length < 140737488355328 then ((some (y118 ++ x2 : List Int)).bind fun y121 => (if x7 = true then ((crc_More.f x0 x1).bind fun t124 => ((crc_More.f t124 x2).bind fun t125 => ((crc_More.f x0 y121).bind fun t126 => (if t125 = t126 then ((crc_Sum.f x1).bind fun t127 => ((crc_Sum.f x2).bind fun t128 => ((crc_Join.f t127 t128 (x2.length : Int)).bind fun t129 => ((crc_Sum.f y121).bind fun t130 => (if t129 = t130 then ((crc_More.f x0 ([] : List Int)).bind fun t131 => (some (t131 == x0))) else (some false)))))) else (some false))))) else (some false))) else (none))) else (none)))
def waggonerlaw02_CrcGoes.f (k : Nat) (a0 : Int) (l1 : List Int) (l2 : List Int) : Option (Bool) := (waggonerlaw02_awake.f).bind fun t114 => (if (l1.length : Int) > 300 then (waggonerlaw02_CrcGoes.j0 k a0 l1 l2 t114 true) else (waggonerlaw02_CrcGoes.j0 k a0 l1 l2 t114 (decide ((l2.length : Int) > 300))))
theorem waggonerlaw02_CrcGoes.mono_l : ∀ k, (∀ y0 y1 y2 y3 y4, LeO (waggonerlaw02_CrcGoes.j0 k y0 y1 y2 y3 y4) (waggonerlaw02_CrcGoes.j0 (k + 1) y0 y1 y2 y3 y4))
  | 0 => fun _ _ _ _ _ r h => by simp [waggonerlaw02_CrcGoes.j0] at h
  | k + 1 => by
    have ih0 := waggonerlaw02_CrcGoes.mono_l k
    · intro y0 y1 y2 y3 y4
      unfold waggonerlaw02_CrcGoes.j0
      repeat' first
      | (with_reducible exact ih0 _ _ _ _ _)
      | (with_reducible exact LeO.refl _)
      | (with_reducible exact LeO.none _)
      | (with_reducible refine LeO.ite ?_ ?_)
      | (with_reducible refine LeO.bind ?_ (fun _ => ?_))
      | exact ih0 _ _ _ _ _
      | exact LeO.none _
      | refine LeO.ite ?_ ?_
      | refine LeO.bind ?_ (fun _ => ?_)
theorem waggonerlaw02_CrcGoes.mono : ∀ a0 a1 a2 k, LeO (waggonerlaw02_CrcGoes.f k a0 a1 a2) (waggonerlaw02_CrcGoes.f (k + 1) a0 a1 a2) := by
  intro a0 a1 a2 k
  have ih0 := waggonerlaw02_CrcGoes.mono_l k
  unfold waggonerlaw02_CrcGoes.f
  repeat' first
      | (with_reducible exact ih0 _ _ _ _ _)
      | (with_reducible exact LeO.refl _)
      | (with_reducible exact LeO.none _)
      | (with_reducible refine LeO.ite ?_ ?_)
      | (with_reducible refine LeO.bind ?_ (fun _ => ?_))
      | exact ih0 _ _ _ _ _
      | exact LeO.none _
      | refine LeO.ite ?_ ?_
      | refine LeO.bind ?_ (fun _ => ?_)
set_option maxHeartbeats 8000000 in
set_option maxRecDepth 100000 in
theorem waggonerlaw02_CrcGoes.calls (k : Nat) (a0 : Int) (A1 : Option Addr) (c1 : Nat) (l1 : List Int) (A2 : Option Addr) (c2 : Nat) (l2 : List Int) (r : Bool) (hT : r = true) (w : World) (hr1 : Kd.C (Kd.int .u8) w A1 l1.length l1) (hc1 : l1.length ≤ c1) (hr2 : Kd.C (Kd.int .u8) w A2 l2.length l2) (hc2 : l2.length ≤ c2) (h : waggonerlaw02_CrcGoes.f k a0 l1 l2 = some r) :
    Calls Try.prog 4 #[.int .u32 a0, .slice A1 l1.length c1, .slice A2 l2.length c2] w fun e w' => e = .returned (.bool r) ∧ Below w.heap.size w w' := by
  subst hT
  have HR1 := Aside0.mk hr1
  have HC1 := Aside0.mk hc1
  clear hr1 hc1
  have HR2 := Aside0.mk hr2
  have HC2 := Aside0.mk hc2
  clear hr2 hc2
  have HB := Aside0.mk (Below.refl w.heap.size w)
  have H : ((waggonerlaw02_awake.f).bind fun t114 => (if (l1.length : Int) > 300 then (waggonerlaw02_CrcGoes.j0 k a0 l1 l2 t114 true) else (waggonerlaw02_CrcGoes.j0 k a0 l1 l2 t114 (decide ((l2.length : Int) > 300))))) = some true := h
  clear h
  replace H := Option.bind_eq_some_iff.mp H
  obtain ⟨t114, A40, H⟩ := H
  replace H : (if (l1.length : Int) > 300 then (waggonerlaw02_CrcGoes.j0 k a0 l1 l2 t114 true) else (waggonerlaw02_CrcGoes.j0 k a0 l1 l2 t114 (decide ((l2.length : Int) > 300)))) = some true := H
  have A4 := Aside0.mk A40
  clear A40
  have HC5 := Aside0.mk H
  clear H
  go_enter Try.func4, Try.ntmps4
  go_upto_region 2 with (first | ((with_reducible refine gate_callee (f := 16) rfl ?_); refine goesL_ (some 9) rfl rfl Try.func16 (by kernel_rfl) rfl #[] rfl (by (try simp only [List.map_toArray, List.map_cons, List.map_nil]); first | done | rfl | (simp only [List.length_drop, List.length_take]; rfl)) ?_; (with_reducible refine (waggonerlaw02_awake.calls  t114 _ A4.out).mono ?_); rintro e w6 ⟨rfl, hb⟩; refine ⟨_, rfl, ?_⟩; have n0_ := Aside0.mk (below_step (by repeat (first | (with_reducible first | exact HB.out | apply below_alloc | apply pw_below_drewN | apply below_drew1) | exact HB.out)) hb); clear HB; have HB := n0_; clear n0_; (try clear hb); (try clear hb2); (try clear hk); (try clear hi)))
  (try simp only [Act.put, List.setIfInBounds_toArray, List.set_cons_zero, List.set_cons_succ])
  go_cut [17] (fun v17 wc => ∃ (kq : Nat) (x17_4 : Bool), v17 = .bool x17_4 ∧ Aside0 (waggonerlaw02_CrcGoes.j0 kq a0 l1 l2 t114 x17_4 = some true) ∧ Aside0 (kq ≤ k) ∧ Aside0 (Below w.heap.size w wc))
  case first =>
    have H := HC5.out
    clear HC5
    by_cases c7 : (l1.length : Int) > 300
    · rw [if_pos c7] at H
      have c7b0 : decide (300 < (l1.length : Int)) = true := decide_eq_true c7
      have c7b1 : decide (300 < l1.length) = true := decide_eq_true (by omega)
      clear c7
      (first | rw [c7b0] | (simp only [i64_w, i32_w]; rw [c7b0]) | skip)
      have H' := Aside0.mk H
      clear H
      go_wp2
      go_meet
      case rel => exact ⟨_, (true), (by first | rfl | (simp; done) | (simp [*]; done)), H', ⟨by first | omega | exact Nat.le_refl _⟩, ⟨by repeat (first | (with_reducible first | exact HB.out | apply below_alloc | apply pw_below_drewN | apply below_drew1) | exact HB.out)⟩⟩
    · rw [if_neg c7] at H
      have c7b0 : decide (300 < (l1.length : Int)) = false := decide_eq_false c7
      have c7b1 : decide (300 < l1.length) = false := decide_eq_false (by omega)
      clear c7
      (first | rw [c7b0] | (simp only [i64_w, i32_w]; rw [c7b0]) | skip)
      have H' := Aside0.mk H
      clear H
      go_wp2
      go_meet
      case rel => exact ⟨_, (decide ((l2.length : Int) > 300)), (by first | rfl | (simp; done) | (simp [*]; done)), H', ⟨by first | omega | exact Nat.le_refl _⟩, ⟨by repeat (first | (with_reducible first | exact HB.out | apply below_alloc | apply pw_below_drewN | apply below_drew1) | exact HB.out)⟩⟩
  case rest =>
    clear HC5
    try clear c1
    try clear c2
    try clear p2
    try clear c4
    try clear c7
    try clear c7b0
    try clear c7b1
    obtain ⟨kq, x17_4, rfl, HA, HJ4, HB⟩ := hcut
    cases kq with
    | zero => exact absurd HA.out (by simp [waggonerlaw02_CrcGoes.j0])
    | succ kj4 =>
      have H := HA.out
      clear HA
      simp only [waggonerlaw02_CrcGoes.j0] at H
      by_cases c8 : x17_4 = true
      · subst c8
        have H1 : (some t114) = some true := by rw [if_pos rfl] at H; exact H
        clear H
        have H := H1
        clear H1
        (have HRT := Aside0.mk (Option.some.inj H); clear H)
        go_wp2
        go_ret
        exact ⟨by first | rfl | (exact congrArg (fun z_ => Ending.returned (Value.bool z_)) HRT.out) | (rw [HRT.out]; done) | (simp [errW_none, errW_some] <;> rfl) | (simp [*, errW_none, errW_some] <;> rfl), by repeat (first | (with_reducible first | exact HB.out | apply below_alloc | apply pw_below_drewN | apply below_drew1) | exact HB.out)⟩
      · replace c8 := Bool.eq_false_iff.mpr c8
        subst c8
        have H1 : ((some (([] : List Int) : List Int)).bind fun y115 => (if y115.length + l1.length < 140737488355328 then ((some (y115 ++ l1 : List Int)).bind fun y118 => (if y118.length + l2.length < 140737488355328 then ((some (y118 ++ l2 : List Int)).bind fun y121 => (if t114 = true then ((crc_More.f a0 l1).bind fun t124 => ((crc_More.f t124 l2).bind fun t125 => ((crc_More.f a0 y121).bind fun t126 => (if t125 = t126 then ((crc_Sum.f l1).bind fun t127 => ((crc_Sum.f l2).bind fun t128 => ((crc_Join.f t127 t128 (l2.length : Int)).bind fun t129 => ((crc_Sum.f y121).bind fun t130 => (if t129 = t130 then ((crc_More.f a0 ([] : List Int)).bind fun t131 => (some (t131 == a0))) else (some false)))))) else (some false))))) else (some false))) else (none))) else (none))) = some true := by rw [if_neg (show ¬ (false = true) by decide)] at H; exact H
        clear H
        have H := H1
        clear H1
        obtain ⟨y115, hy115⟩ : ∃ y_ : List Int, y_ = (([] : List Int)) := ⟨_, rfl⟩
        replace H : (if y115.length + l1.length < 140737488355328 then ((some (y115 ++ l1 : List Int)).bind fun y118 => (if y118.length + l2.length < 140737488355328 then ((some (y118 ++ l2 : List Int)).bind fun y121 => (if t114 = true then ((crc_More.f a0 l1).bind fun t124 => ((crc_More.f t124 l2).bind fun t125 => ((crc_More.f a0 y121).bind fun t126 => (if t125 = t126 then ((crc_Sum.f l1).bind fun t127 => ((crc_Sum.f l2).bind fun t128 => ((crc_Join.f t127 t128 (l2.length : Int)).bind fun t129 => ((crc_Sum.f y121).bind fun t130 => (if t129 = t130 then ((crc_More.f a0 ([] : List Int)).bind fun t131 => (some (t131 == a0))) else (some false)))))) else (some false))))) else (some false))) else (none))) else (none)) = some true := by first | (rw [hy115]; with_reducible exact H) | (have H2_ := (Option.bind_some _ _).symm.trans H; rw [hy115]; with_reducible exact H2_) | (have H2_ := (Option.bind_some _ _).symm.trans H; with_reducible exact H2_) | with_reducible exact H | (rw [hy115]; exact H) | exact H
        have Ny115 := Aside0.mk hy115
        clear hy115
        by_cases c9 : y115.length + l1.length < 140737488355328
        · rw [if_pos c9] at H
          have LMc9 := Aside0.mk c9
          clear c9
          obtain ⟨y118, hy118⟩ : ∃ y_ : List Int, y_ = (y115 ++ l1) := ⟨_, rfl⟩
          replace H : (if y118.length + l2.length < 140737488355328 then ((some (y118 ++ l2 : List Int)).bind fun y121 => (if t114 = true then ((crc_More.f a0 l1).bind fun t124 => ((crc_More.f t124 l2).bind fun t125 => ((crc_More.f a0 y121).bind fun t126 => (if t125 = t126 then ((crc_Sum.f l1).bind fun t127 => ((crc_Sum.f l2).bind fun t128 => ((crc_Join.f t127 t128 (l2.length : Int)).bind fun t129 => ((crc_Sum.f y121).bind fun t130 => (if t129 = t130 then ((crc_More.f a0 ([] : List Int)).bind fun t131 => (some (t131 == a0))) else (some false)))))) else (some false))))) else (some false))) else (none)) = some true := by first | (rw [hy118]; with_reducible exact H) | (have H2_ := (Option.bind_some _ _).symm.trans H; rw [hy118]; with_reducible exact H2_) | (have H2_ := (Option.bind_some _ _).symm.trans H; with_reducible exact H2_) | with_reducible exact H | (rw [hy118]; exact H) | exact H
          have Ny118 := Aside0.mk hy118
          clear hy118
          by_cases c10 : y118.length + l2.length < 140737488355328
          · rw [if_pos c10] at H
            have LMc10 := Aside0.mk c10
            clear c10
            obtain ⟨y121, hy121⟩ : ∃ y_ : List Int, y_ = (y118 ++ l2) := ⟨_, rfl⟩
            replace H : (if t114 = true then ((crc_More.f a0 l1).bind fun t124 => ((crc_More.f t124 l2).bind fun t125 => ((crc_More.f a0 y121).bind fun t126 => (if t125 = t126 then ((crc_Sum.f l1).bind fun t127 => ((crc_Sum.f l2).bind fun t128 => ((crc_Join.f t127 t128 (l2.length : Int)).bind fun t129 => ((crc_Sum.f y121).bind fun t130 => (if t129 = t130 then ((crc_More.f a0 ([] : List Int)).bind fun t131 => (some (t131 == a0))) else (some false)))))) else (some false))))) else (some false)) = some true := by first | (rw [hy121]; with_reducible exact H) | (have H2_ := (Option.bind_some _ _).symm.trans H; rw [hy121]; with_reducible exact H2_) | (have H2_ := (Option.bind_some _ _).symm.trans H; with_reducible exact H2_) | with_reducible exact H | (rw [hy121]; exact H) | exact H
            have Ny121 := Aside0.mk hy121
            clear hy121
            by_cases c11 : t114 = true
            · subst c11
              have H1 : ((crc_More.f a0 l1).bind fun t124 => ((crc_More.f t124 l2).bind fun t125 => ((crc_More.f a0 y121).bind fun t126 => (if t125 = t126 then ((crc_Sum.f l1).bind fun t127 => ((crc_Sum.f l2).bind fun t128 => ((crc_Join.f t127 t128 (l2.length : Int)).bind fun t129 => ((crc_Sum.f y121).bind fun t130 => (if t129 = t130 then ((crc_More.f a0 ([] : List Int)).bind fun t131 => (some (t131 == a0))) else (some false)))))) else (some false))))) = some true := by rw [if_pos rfl] at H; exact H
              clear H
              have H := H1
              clear H1
              replace H := Option.bind_eq_some_iff.mp H
              obtain ⟨t124, A120, H⟩ := H
              replace H : ((crc_More.f t124 l2).bind fun t125 => ((crc_More.f a0 y121).bind fun t126 => (if t125 = t126 then ((crc_Sum.f l1).bind fun t127 => ((crc_Sum.f l2).bind fun t128 => ((crc_Join.f t127 t128 (l2.length : Int)).bind fun t129 => ((crc_Sum.f y121).bind fun t130 => (if t129 = t130 then ((crc_More.f a0 ([] : List Int)).bind fun t131 => (some (t131 == a0))) else (some false)))))) else (some false)))) = some true := H
              have A12 := Aside0.mk A120
              clear A120
              replace H := Option.bind_eq_some_iff.mp H
              obtain ⟨t125, A130, H⟩ := H
              replace H : ((crc_More.f a0 y121).bind fun t126 => (if t125 = t126 then ((crc_Sum.f l1).bind fun t127 => ((crc_Sum.f l2).bind fun t128 => ((crc_Join.f t127 t128 (l2.length : Int)).bind fun t129 => ((crc_Sum.f y121).bind fun t130 => (if t129 = t130 then ((crc_More.f a0 ([] : List Int)).bind fun t131 => (some (t131 == a0))) else (some false)))))) else (some false))) = some true := H
              have A13 := Aside0.mk A130
              clear A130
              replace H := Option.bind_eq_some_iff.mp H
              obtain ⟨t126, A140, H⟩ := H
              replace H : (if t125 = t126 then ((crc_Sum.f l1).bind fun t127 => ((crc_Sum.f l2).bind fun t128 => ((crc_Join.f t127 t128 (l2.length : Int)).bind fun t129 => ((crc_Sum.f y121).bind fun t130 => (if t129 = t130 then ((crc_More.f a0 ([] : List Int)).bind fun t131 => (some (t131 == a0))) else (some false)))))) else (some false)) = some true := H
              have A14 := Aside0.mk A140
              clear A140
              by_cases c15 : t125 = t126
              · rw [if_pos c15] at H
                have c15b0 : (t125 == t126) = true := beq_iff_eq.mpr c15
                have c15b1 : (t125 != t126) = false := bne_eq_false_iff_eq.mpr c15
                clear c15
                replace H := Option.bind_eq_some_iff.mp H
                obtain ⟨t127, A160, H⟩ := H
                replace H : ((crc_Sum.f l2).bind fun t128 => ((crc_Join.f t127 t128 (l2.length : Int)).bind fun t129 => ((crc_Sum.f y121).bind fun t130 => (if t129 = t130 then ((crc_More.f a0 ([] : List Int)).bind fun t131 => (some (t131 == a0))) else (some false))))) = some true := H
                have A16 := Aside0.mk A160
                clear A160
                replace H := Option.bind_eq_some_iff.mp H
                obtain ⟨t128, A170, H⟩ := H
                replace H : ((crc_Join.f t127 t128 (l2.length : Int)).bind fun t129 => ((crc_Sum.f y121).bind fun t130 => (if t129 = t130 then ((crc_More.f a0 ([] : List Int)).bind fun t131 => (some (t131 == a0))) else (some false)))) = some true := H
                have A17 := Aside0.mk A170
                clear A170
                replace H := Option.bind_eq_some_iff.mp H
                obtain ⟨t129, A180, H⟩ := H
                replace H : ((crc_Sum.f y121).bind fun t130 => (if t129 = t130 then ((crc_More.f a0 ([] : List Int)).bind fun t131 => (some (t131 == a0))) else (some false))) = some true := H
                have A18 := Aside0.mk A180
                clear A180
                replace H := Option.bind_eq_some_iff.mp H
                obtain ⟨t130, A190, H⟩ := H
                replace H : (if t129 = t130 then ((crc_More.f a0 ([] : List Int)).bind fun t131 => (some (t131 == a0))) else (some false)) = some true := H
                have A19 := Aside0.mk A190
                clear A190
                by_cases c20 : t129 = t130
                · rw [if_pos c20] at H
                  have c20b0 : (t129 == t130) = true := beq_iff_eq.mpr c20
                  have c20b1 : (t129 != t130) = false := bne_eq_false_iff_eq.mpr c20
                  clear c20
                  replace H := Option.bind_eq_some_iff.mp H
                  obtain ⟨t131, A210, H⟩ := H
                  replace H : (some (t131 == a0)) = some true := H
                  have A21 := Aside0.mk A210
                  clear A210
                  (have HRT := Aside0.mk (Option.some.inj H); clear H)
                  go_wp2_with (first | ((with_reducible refine gate_dst (N := 19) rfl ?_); (try (refine gate_guard (by rfl) ?_; dsimp only)); refine Kd.R_lit (Kd.int .u8) _ 5 ?hg (N := 19) ?hd (xs := ([] : List Int)) (inner := []) (ok := fun _ => True) (okp := fun _ => True) ?hr ?hp (fun _ hk => hk) trivial (Below.refl _ _) (Nat.le_refl _) (by simp) ?_; (case hd => rfl); (case hg => rfl); (case hr => first | (go_simp; done) | (go_simp; rfl)); (case hp => exact (Reps.none _ _)); intro v116 w22 ho23 hb hg_ hnew_; clear hg_ hnew_; (first | rw [← Ny115.out] at ho23 | (simp only [Int.reduceToNat] at ho23; rw [← Ny115.out] at ho23)); have n0_ := Aside0.mk (Kd.R_lower ho23 (below_size (by repeat (first | (with_reducible first | exact HB.out | apply below_alloc | apply pw_below_drewN | apply below_drew1) | exact HB.out)))); have n1_ := Aside0.mk (below_step (by repeat (first | (with_reducible first | exact HB.out | apply below_alloc | apply pw_below_drewN | apply below_drew1) | exact HB.out)) hb); clear HB; have HO117 := n0_; have HB := n1_; clear n0_ n1_; clear hb ho23) | ((with_reducible refine gate_builtin (b := .append) (xs := #[.tmp 19, .tmp 20]) rfl ?_); (try (refine gate_guard (by rfl) ?_; dsimp only)); at_builtin; refine Kd.R_append_rows (Kd.int .u8) (w0 := w) w.heap.size rfl (.tmp 19) (.tmp 20) 23 5 (.int .u8 0) 1 rfl Try.underlying23 info5 rfl (by decide) (by omega) v116 y115 l1 _ _ _ (fun _ => True) (fun _ => False) rfl rfl ?aO ?aR (fun _ _ h => h) (fun _ h => h.elim) ?aF ?aB ?aS ?aL ?_; (case aR => repeat (first | exact (Kd.C_below HR1.out HB.out) | (with_reducible refine Kd.C_alloc ?_ _) | (with_reducible refine Kd.C_drewN ?_ _) | (with_reducible refine Kd.C_drew ?_))); (case aB => exact (by repeat (first | (with_reducible first | exact HB.out | apply below_alloc | apply pw_below_drewN | apply below_drew1) | exact HB.out))); (case aF => exact (fun _ _ => trivial)); (case aO => exact (by (with_reducible repeat (first | apply Kd.R_alloc | apply Kd.R_drewN | apply Kd.R_drew)); exact HO117.out)); (case aS => exact (below_size (by repeat (first | (with_reducible first | exact HB.out | apply below_alloc | apply pw_below_drewN | apply below_drew1) | exact HB.out)))); (case aL => have := LMc9.out; omega); intro v119 w24 ho hb hg hat; rw [← Ny118.out] at ho; have n0_ := Aside0.mk (hb); have n1_ := Aside0.mk (ho); clear HB; clear HO117; have HB := n0_; have HO120 := n1_; clear n0_ n1_; clear ho hb hg hat) | ((with_reducible refine gate_builtin (b := .append) (xs := #[.tmp 21, .tmp 22]) rfl ?_); (try (refine gate_guard (by rfl) ?_; dsimp only)); at_builtin; refine Kd.R_append_rows (Kd.int .u8) (w0 := w) w.heap.size rfl (.tmp 21) (.tmp 22) 23 5 (.int .u8 0) 1 rfl Try.underlying23 info5 rfl (by decide) (by omega) v119 y118 l2 _ _ _ (fun _ => True) (fun _ => False) rfl rfl ?aO ?aR (fun _ _ h => h) (fun _ h => h.elim) ?aF ?aB ?aS ?aL ?_; (case aR => repeat (first | exact (Kd.C_below HR2.out HB.out) | (with_reducible refine Kd.C_alloc ?_ _) | (with_reducible refine Kd.C_drewN ?_ _) | (with_reducible refine Kd.C_drew ?_))); (case aB => exact (by repeat (first | (with_reducible first | exact HB.out | apply below_alloc | apply pw_below_drewN | apply below_drew1) | exact HB.out))); (case aF => exact (fun _ _ => trivial)); (case aO => exact (by (with_reducible repeat (first | apply Kd.R_alloc | apply Kd.R_drewN | apply Kd.R_drew)); exact HO120.out)); (case aS => exact (below_size (by repeat (first | (with_reducible first | exact HB.out | apply below_alloc | apply pw_below_drewN | apply below_drew1) | exact HB.out)))); (case aL => have := LMc10.out; omega); intro v122 w25 ho hb hg hat; rw [← Ny121.out] at ho; have n0_ := Aside0.mk (hb); have n1_ := Aside0.mk (ho); clear HB; clear HO120; have HB := n0_; have HO123 := n1_; clear n0_ n1_; clear ho hb hg hat) | (go_at_call 19; (with_reducible refine (crc_More.calls a0 _ _ l1 t124 _ ?side1 ?side2 A12.out).mono ?_); (case side1 => repeat (first | exact (Kd.C_below HR1.out HB.out) | (with_reducible refine Kd.C_alloc ?_ _) | (with_reducible refine Kd.C_drewN ?_ _) | (with_reducible refine Kd.C_drew ?_))); (case side2 => exact HC1.out); rintro e w26 ⟨rfl, hb⟩; have n0_ := Aside0.mk (Kd.R_below (by (with_reducible repeat (first | apply Kd.R_alloc | apply Kd.R_drewN | apply Kd.R_drew)); exact HO123.out) hb); have n1_ := Aside0.mk (below_step (by repeat (first | (with_reducible first | exact HB.out | apply below_alloc | apply pw_below_drewN | apply below_drew1) | exact HB.out)) hb); clear HO123; clear HB; have HO123 := n0_; have HB := n1_; clear n0_ n1_; (try clear hb); (try clear hb2); (try clear hk); (try clear hi)) | (go_at_call 19; (with_reducible refine (crc_More.calls t124 _ _ l2 t125 _ ?side1 ?side2 A13.out).mono ?_); (case side1 => repeat (first | exact (Kd.C_below HR2.out HB.out) | (with_reducible refine Kd.C_alloc ?_ _) | (with_reducible refine Kd.C_drewN ?_ _) | (with_reducible refine Kd.C_drew ?_))); (case side2 => exact HC2.out); rintro e w27 ⟨rfl, hb⟩; have n0_ := Aside0.mk (Kd.R_below (by (with_reducible repeat (first | apply Kd.R_alloc | apply Kd.R_drewN | apply Kd.R_drew)); exact HO123.out) hb); have n1_ := Aside0.mk (below_step (by repeat (first | (with_reducible first | exact HB.out | apply below_alloc | apply pw_below_drewN | apply below_drew1) | exact HB.out)) hb); clear HO123; clear HB; have HO123 := n0_; have HB := n1_; clear n0_ n1_; (try clear hb); (try clear hb2); (try clear hk); (try clear hi); obtain ⟨Ao28, co28, eo28⟩ := Kd.R_slice HO123.out; subst eo28) | (go_at_call 19; (with_reducible refine (crc_More.calls a0 _ _ y121 t126 _ ?side1 ?side2 A14.out).mono ?_); (case side1 => repeat (first | exact (Kd.R_reads' HO123.out).2.2 | (with_reducible refine Kd.C_alloc ?_ _) | (with_reducible refine Kd.C_drewN ?_ _) | (with_reducible refine Kd.C_drew ?_))); (case side2 => exact (Kd.R_reads' HO123.out).2.1); rintro e w29 ⟨rfl, hb⟩; have n0_ := Aside0.mk (Kd.R_below (by (with_reducible repeat (first | apply Kd.R_alloc | apply Kd.R_drewN | apply Kd.R_drew)); exact HO123.out) hb); have n1_ := Aside0.mk (below_step (by repeat (first | (with_reducible first | exact HB.out | apply below_alloc | apply pw_below_drewN | apply below_drew1) | exact HB.out)) hb); clear HO123; clear HB; have HO123 := n0_; have HB := n1_; clear n0_ n1_; (try clear hb); (try clear hb2); (try clear hk); (try clear hi)) | (go_at_call 21; (with_reducible refine (crc_Sum.calls _ _ l1 t127 _ ?side1 ?side2 A16.out).mono ?_); (case side1 => repeat (first | exact (Kd.C_below HR1.out HB.out) | (with_reducible refine Kd.C_alloc ?_ _) | (with_reducible refine Kd.C_drewN ?_ _) | (with_reducible refine Kd.C_drew ?_))); (case side2 => exact HC1.out); rintro e w30 ⟨rfl, hb⟩; have n0_ := Aside0.mk (Kd.R_below (by (with_reducible repeat (first | apply Kd.R_alloc | apply Kd.R_drewN | apply Kd.R_drew)); exact HO123.out) hb); have n1_ := Aside0.mk (below_step (by repeat (first | (with_reducible first | exact HB.out | apply below_alloc | apply pw_below_drewN | apply below_drew1) | exact HB.out)) hb); clear HO123; clear HB; have HO123 := n0_; have HB := n1_; clear n0_ n1_; (try clear hb); (try clear hb2); (try clear hk); (try clear hi)) | (go_at_call 21; (with_reducible refine (crc_Sum.calls _ _ l2 t128 _ ?side1 ?side2 A17.out).mono ?_); (case side1 => repeat (first | exact (Kd.C_below HR2.out HB.out) | (with_reducible refine Kd.C_alloc ?_ _) | (with_reducible refine Kd.C_drewN ?_ _) | (with_reducible refine Kd.C_drew ?_))); (case side2 => exact HC2.out); rintro e w31 ⟨rfl, hb⟩; have n0_ := Aside0.mk (Kd.R_below (by (with_reducible repeat (first | apply Kd.R_alloc | apply Kd.R_drewN | apply Kd.R_drew)); exact HO123.out) hb); have n1_ := Aside0.mk (below_step (by repeat (first | (with_reducible first | exact HB.out | apply below_alloc | apply pw_below_drewN | apply below_drew1) | exact HB.out)) hb); clear HO123; clear HB; have HO123 := n0_; have HB := n1_; clear n0_ n1_; (try clear hb); (try clear hb2); (try clear hk); (try clear hi)) | (go_at_call 22; (with_reducible refine (crc_Join.calls t127 t128 (l2.length : Int) t129 _ A18.out).mono ?_); rintro e w32 ⟨rfl, hb⟩; have n0_ := Aside0.mk (Kd.R_below (by (with_reducible repeat (first | apply Kd.R_alloc | apply Kd.R_drewN | apply Kd.R_drew)); exact HO123.out) hb); have n1_ := Aside0.mk (below_step (by repeat (first | (with_reducible first | exact HB.out | apply below_alloc | apply pw_below_drewN | apply below_drew1) | exact HB.out)) hb); clear HO123; clear HB; have HO123 := n0_; have HB := n1_; clear n0_ n1_; (try clear hb); (try clear hb2); (try clear hk); (try clear hi)) | (go_at_call 21; (with_reducible refine (crc_Sum.calls _ _ y121 t130 _ ?side1 ?side2 A19.out).mono ?_); (case side1 => repeat (first | exact (Kd.R_reads' HO123.out).2.2 | (with_reducible refine Kd.C_alloc ?_ _) | (with_reducible refine Kd.C_drewN ?_ _) | (with_reducible refine Kd.C_drew ?_))); (case side2 => exact (Kd.R_reads' HO123.out).2.1); rintro e w33 ⟨rfl, hb⟩; have n0_ := Aside0.mk (Kd.R_below (by (with_reducible repeat (first | apply Kd.R_alloc | apply Kd.R_drewN | apply Kd.R_drew)); exact HO123.out) hb); have n1_ := Aside0.mk (below_step (by repeat (first | (with_reducible first | exact HB.out | apply below_alloc | apply pw_below_drewN | apply below_drew1) | exact HB.out)) hb); clear HO123; clear HB; have HO123 := n0_; have HB := n1_; clear n0_ n1_; (try clear hb); (try clear hb2); (try clear hk); (try clear hi)) | (go_at_call 19; (refine (crc_More.calls a0 _ _ ([] : List Int) t131 _ ?side1 ?side2 A21.out).mono ?_); (case side1 => exact Kd.C_nil _ _); (case side2 => exact Nat.le_refl _); rintro e w34 ⟨rfl, hb⟩; have n0_ := Aside0.mk (Kd.R_below (by (with_reducible repeat (first | apply Kd.R_alloc | apply Kd.R_drewN | apply Kd.R_drew)); exact HO123.out) hb); have n1_ := Aside0.mk (below_step (by repeat (first | (with_reducible first | exact HB.out | apply below_alloc | apply pw_below_drewN | apply below_drew1) | exact HB.out)) hb); clear HO123; clear HB; have HO123 := n0_; have HB := n1_; clear n0_ n1_; (try clear hb); (try clear hb2); (try clear hk); (try clear hi)))
                  go_ret
                  exact ⟨by first | rfl | (exact congrArg (fun z_ => Ending.returned (Value.bool z_)) HRT.out) | (rw [HRT.out]; done) | (simp [errW_none, errW_some] <;> rfl) | (simp [*, errW_none, errW_some] <;> rfl), by repeat (first | (with_reducible first | exact HB.out | apply below_alloc | apply pw_below_drewN | apply below_drew1) | exact HB.out)⟩
                · rw [if_neg c20] at H
                  first | exact absurd H (by simp; done) | skip
              · rw [if_neg c15] at H
                first | exact absurd H (by simp; done) | skip
            · replace c11 := Bool.eq_false_iff.mpr c11
              subst c11
              have H1 : (some false) = some true := by rw [if_neg (show ¬ (false = true) by decide)] at H; exact H
              exact absurd H1 (by simp)
          · rw [if_neg c10] at H
            exact absurd H (by simp)
        · rw [if_neg c9] at H
          exact absurd H (by simp)

/-- THE ONE PURE STATEMENT of waggonerlaw02_CrcGoes: yours. -/
def waggonerlaw02_CrcGoes.Pure : Prop := ∀ (a0 : Int) (l1 : List Int) (l2 : List Int), (Lit.int .u32 a0).wf = true → l1.length ≤ maxLen → l1.length * 1 ≤ 140737488351232 → (∀ x ∈ l1, (Lit.int .u8 x).wf = true) → l2.length ≤ maxLen → l2.length * 1 ≤ 140737488351232 → (∀ x ∈ l2, (Lit.int .u8 x).wf = true) → ∃ k, waggonerlaw02_CrcGoes.f k a0 l1 l2 = some true
theorem waggonerlaw02_CrcGoes.walk (P : waggonerlaw02_CrcGoes.Pure) (a0 : Int) (a1 : Option Addr) (len1 cap1 : Nat) (z1 : List Int) (a2 : Option Addr) (len2 cap2 : Nat) (z2 : List Int) (w : World) (w0 : (Lit.int .u32 a0).wf = true) (w1 : (a1 = none ∧ len1 = 0 ∧ cap1 = 0 ∧ z1 = []) ∨ ∃ x, a1 = some x ∧ len1 ≤ cap1 ∧ cap1 ≤ maxLen ∧ z1.length = cap1 ∧ (∀ i, i < z1.length → w.cell? (x.add i) = some (.int .u8 (z1.getD i 0))) ∧ ∀ n ∈ z1, (Lit.int .u8 n).wf = true) (y1 : len1 * 1 ≤ 140737488351232) (w2 : (a2 = none ∧ len2 = 0 ∧ cap2 = 0 ∧ z2 = []) ∨ ∃ x, a2 = some x ∧ len2 ≤ cap2 ∧ cap2 ≤ maxLen ∧ z2.length = cap2 ∧ (∀ i, i < z2.length → w.cell? (x.add i) = some (.int .u8 (z2.getD i 0))) ∧ ∀ n ∈ z2, (Lit.int .u8 n).wf = true) (y2 : len2 * 1 ≤ 140737488351232) :
    Calls Try.prog 4 #[.int .u32 a0, .slice a1 len1 cap1, .slice a2 len2 cap2] w fun e w' => e = .returned (.bool true) ∧ Below w.heap.size w w' := by
  obtain ⟨l1, rfl, hr1, hm1, hw1, hc1⟩ := ReadsInt.ofRowC w1
  obtain ⟨l2, rfl, hr2, hm2, hw2, hc2⟩ := ReadsInt.ofRowC w2
  obtain ⟨k, h⟩ := P a0 l1 l2 w0 hm1 y1 hw1 hm2 y2 hw2
  refine (waggonerlaw02_CrcGoes.calls k a0 _ _ l1 _ _ l2 true rfl w (Kd.C_of_reads (d := (0 : Int)) (h1 := fun _ => rfl) hr1) hc1 (Kd.C_of_reads (d := (0 : Int)) (h1 := fun _ => rfl) hr2) hc2 h).mono ?_
  rintro e w' ⟨rfl, hd⟩
  exact ⟨rfl, hd⟩

end Go.Proofs.Ytiaoehjldbnpkaa.PA
