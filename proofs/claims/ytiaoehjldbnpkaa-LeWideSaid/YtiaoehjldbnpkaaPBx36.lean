/- Functions of the program as Lean functions, and that the Go code comes to just their answers: no condition but that the function says so. (Written by a program of this workplace over the kit's print, with contracts by hand.) -/
import Derived.Test.YtiaoehjldbnpkaaPBx0
import Derived.Test.YtiaoehjldbnpkaaPBx4
import Derived.Test.YtiaoehjldbnpkaaPBx19
namespace Go.Proofs.Ytiaoehjldbnpkaa.PB
open Go.RowKit Go.Proofs.YtiaoehjldbnpkaaW.PrintWords Go.Proofs.YtiaoehjldbnpkaaW.PrintLast Go.Proofs.YtiaoehjldbnpkaaW.PrintMore
attribute [local go_sem] max2_int min2_int max_two min_two max_three min_three max_four min_four   -- for this text's walks alone
set_option linter.unusedVariables false
set_option linter.unusedSimpArgs false

/-! ### waggonerlaw01_LeWide: function 14 -/
mutual
def waggonerlaw01_LeWide.j0 : Nat → Int → Bool → List Int → List Int → Int → Bool → Option (Bool)
  | 0, _, _, _, _, _, _ => none
  | k + 1, x1, x5, x6, x8, x9, x30 => if x30 = true then (some false) else (if x1 = 1 then (waggonerlaw01_LeWide.j1 k x1 x5 x6 x8 x9 false) else (if x1 = 2 then (waggonerlaw01_LeWide.j1 k x1 x5 x6 x8 x9 false) else (if x1 = 4 then (waggonerlaw01_LeWide.j1 k x1 x5 x6 x8 x9 false) else (waggonerlaw01_LeWide.j1 k x1 x5 x6 x8 x9 (x1 != 8)))))
def waggonerlaw01_LeWide.j1 : Nat → Int → Bool → List Int → List Int → Int → Bool → Option (Bool)
  | 0, _, _, _, _, _, _ => none
  | k + 1, x1, x5, x6, x8, x9, x44 => if x44 = true then (if x5 = true then (if x9 = 10 then (some ((x8.length : Int) == 0)) else (some false)) else (some false)) else (waggonerlaw01_LeWide.l0 k x1 x5 x6 x8 x9 true x1)
def waggonerlaw01_LeWide.l0 : Nat → Int → Bool → List Int → List Int → Int → Bool → Int → Option (Bool)
  | 0, _, _, _, _, _, _, _ => none
  | k + 1, x1, x5, x6, x8, x9, x10, x11 => if x11 < 8 then (if x10 = true then (if 0 ≤ x11 then (if x11 < (x6.length : Int) then (waggonerlaw01_LeWide.l0 k x1 x5 x6 x8 x9 ((rd x6 x11) == 0) (wrap64 (x11 + 1))) else (none)) else (none)) else (waggonerlaw01_LeWide.l0 k x1 x5 x6 x8 x9 false (wrap64 (x11 + 1)))) else (if x5 = true then (if ((x9 == 0) == x10) = true then (if x10 = true then (if 0 ≤ x1 then (if x1 ≤ (x6.length : Int) then (some ((strOfNums x8).toList == (strOfNums (x6.take (x1 : Int).toNat)).toList)) else (none)) else (none)) else (some true)) else (some false)) else (some false))
end
def waggonerlaw01_LeWide.f (k : Nat) (a0 : Int) (a1 : Int) : Option (Bool) := (waggonerlaw01_awake.f).bind fun t297 => ((le_Put.f ([] : List Int) a0 8).bind fun bt298 => ((le_Put.f ([] : List Int) a0 a1).bind fun bt302 => (if bt298.2 = 0 then (waggonerlaw01_LeWide.j0 k a1 t297 bt298.1 bt302.1 bt302.2 ((bt298.1.length : Int) != 8)) else (waggonerlaw01_LeWide.j0 k a1 t297 bt298.1 bt302.1 bt302.2 true))))
theorem waggonerlaw01_LeWide.mono_l : ∀ k, (∀ y0 y1 y2 y3 y4 y5, LeO (waggonerlaw01_LeWide.j0 k y0 y1 y2 y3 y4 y5) (waggonerlaw01_LeWide.j0 (k + 1) y0 y1 y2 y3 y4 y5)) ∧ (∀ y0 y1 y2 y3 y4 y5, LeO (waggonerlaw01_LeWide.j1 k y0 y1 y2 y3 y4 y5) (waggonerlaw01_LeWide.j1 (k + 1) y0 y1 y2 y3 y4 y5)) ∧ (∀ y0 y1 y2 y3 y4 y5 y6, LeO (waggonerlaw01_LeWide.l0 k y0 y1 y2 y3 y4 y5 y6) (waggonerlaw01_LeWide.l0 (k + 1) y0 y1 y2 y3 y4 y5 y6))
  | 0 => ⟨fun _ _ _ _ _ _ r h => by simp [waggonerlaw01_LeWide.j0] at h, fun _ _ _ _ _ _ r h => by simp [waggonerlaw01_LeWide.j1] at h, fun _ _ _ _ _ _ _ r h => by simp [waggonerlaw01_LeWide.l0] at h⟩
  | k + 1 => by
    obtain ⟨ih0, ih1, ih2⟩ := waggonerlaw01_LeWide.mono_l k
    refine ⟨?_, ?_, ?_⟩
    · intro y0 y1 y2 y3 y4 y5
      unfold waggonerlaw01_LeWide.j0
      repeat' first
      | (with_reducible exact ih0 _ _ _ _ _ _)
      | (with_reducible exact ih1 _ _ _ _ _ _)
      | (with_reducible exact ih2 _ _ _ _ _ _ _)
      | (with_reducible exact LeO.refl _)
      | (with_reducible exact LeO.none _)
      | (with_reducible refine LeO.ite ?_ ?_)
      | (with_reducible refine LeO.bind ?_ (fun _ => ?_))
      | exact ih0 _ _ _ _ _ _
      | exact ih1 _ _ _ _ _ _
      | exact ih2 _ _ _ _ _ _ _
      | exact LeO.none _
      | refine LeO.ite ?_ ?_
      | refine LeO.bind ?_ (fun _ => ?_)
    · intro y0 y1 y2 y3 y4 y5
      unfold waggonerlaw01_LeWide.j1
      repeat' first
      | (with_reducible exact ih0 _ _ _ _ _ _)
      | (with_reducible exact ih1 _ _ _ _ _ _)
      | (with_reducible exact ih2 _ _ _ _ _ _ _)
      | (with_reducible exact LeO.refl _)
      | (with_reducible exact LeO.none _)
      | (with_reducible refine LeO.ite ?_ ?_)
      | (with_reducible refine LeO.bind ?_ (fun _ => ?_))
      | exact ih0 _ _ _ _ _ _
      | exact ih1 _ _ _ _ _ _
      | exact ih2 _ _ _ _ _ _ _
      | exact LeO.none _
      | refine LeO.ite ?_ ?_
      | refine LeO.bind ?_ (fun _ => ?_)
    · intro y0 y1 y2 y3 y4 y5 y6
      unfold waggonerlaw01_LeWide.l0
      repeat' first
      | (with_reducible exact ih0 _ _ _ _ _ _)
      | (with_reducible exact ih1 _ _ _ _ _ _)
      | (with_reducible exact ih2 _ _ _ _ _ _ _)
      | (with_reducible exact LeO.refl _)
      | (with_reducible exact LeO.none _)
      | (with_reducible refine LeO.ite ?_ ?_)
      | (with_reducible refine LeO.bind ?_ (fun _ => ?_))
      | exact ih0 _ _ _ _ _ _
      | exact ih1 _ _ _ _ _ _
      | exact ih2 _ _ _ _ _ _ _
      | exact LeO.none _
      | refine LeO.ite ?_ ?_
      | refine LeO.bind ?_ (fun _ => ?_)
theorem waggonerlaw01_LeWide.mono : ∀ a0 a1 k, LeO (waggonerlaw01_LeWide.f k a0 a1) (waggonerlaw01_LeWide.f (k + 1) a0 a1) := by
  intro a0 a1 k
  obtain ⟨ih0, ih1, ih2⟩ := waggonerlaw01_LeWide.mono_l k
  unfold waggonerlaw01_LeWide.f
  repeat' first
      | (with_reducible exact ih0 _ _ _ _ _ _)
      | (with_reducible exact ih1 _ _ _ _ _ _)
      | (with_reducible exact ih2 _ _ _ _ _ _ _)
      | (with_reducible exact LeO.refl _)
      | (with_reducible exact LeO.none _)
      | (with_reducible refine LeO.ite ?_ ?_)
      | (with_reducible refine LeO.bind ?_ (fun _ => ?_))
      | exact ih0 _ _ _ _ _ _
      | exact ih1 _ _ _ _ _ _
      | exact ih2 _ _ _ _ _ _ _
      | exact LeO.none _
      | refine LeO.ite ?_ ?_
      | refine LeO.bind ?_ (fun _ => ?_)
set_option maxHeartbeats 8000000 in
set_option maxRecDepth 100000 in
theorem waggonerlaw01_LeWide.calls (k : Nat) (a0 : Int) (a1 : Int) (r : Bool) (hT : r = true) (w : World) (h : waggonerlaw01_LeWide.f k a0 a1 = some r) :
    Calls Try.prog 14 #[.int .u64 a0, .int .i64 a1] w fun e w' => e = .returned (.bool r) ∧ Below w.heap.size w w' := by
  subst hT
  have HB := Aside0.mk (Below.refl w.heap.size w)
  have H : ((waggonerlaw01_awake.f).bind fun t297 => ((le_Put.f ([] : List Int) a0 8).bind fun bt298 => ((le_Put.f ([] : List Int) a0 a1).bind fun bt302 => (if bt298.2 = 0 then (waggonerlaw01_LeWide.j0 k a1 t297 bt298.1 bt302.1 bt302.2 ((bt298.1.length : Int) != 8)) else (waggonerlaw01_LeWide.j0 k a1 t297 bt298.1 bt302.1 bt302.2 true))))) = some true := h
  clear h
  replace H := Option.bind_eq_some_iff.mp H
  obtain ⟨t297, A30, H⟩ := H
  replace H : ((le_Put.f ([] : List Int) a0 8).bind fun bt298 => ((le_Put.f ([] : List Int) a0 a1).bind fun bt302 => (if bt298.2 = 0 then (waggonerlaw01_LeWide.j0 k a1 t297 bt298.1 bt302.1 bt302.2 ((bt298.1.length : Int) != 8)) else (waggonerlaw01_LeWide.j0 k a1 t297 bt298.1 bt302.1 bt302.2 true)))) = some true := H
  have A3 := Aside0.mk A30
  clear A30
  replace H := Option.bind_eq_some_iff.mp H
  obtain ⟨⟨t298, t299⟩, A40, H⟩ := H
  replace H : ((le_Put.f ([] : List Int) a0 a1).bind fun bt302 => (if t299 = 0 then (waggonerlaw01_LeWide.j0 k a1 t297 t298 bt302.1 bt302.2 ((t298.length : Int) != 8)) else (waggonerlaw01_LeWide.j0 k a1 t297 t298 bt302.1 bt302.2 true))) = some true := H
  have A4 := Aside0.mk A40
  clear A40
  replace H := Option.bind_eq_some_iff.mp H
  obtain ⟨⟨t302, t303⟩, A50, H⟩ := H
  replace H : (if t299 = 0 then (waggonerlaw01_LeWide.j0 k a1 t297 t298 t302 t303 ((t298.length : Int) != 8)) else (waggonerlaw01_LeWide.j0 k a1 t297 t298 t302 t303 true)) = some true := H
  have A5 := Aside0.mk A50
  clear A50
  have HC6 := Aside0.mk H
  clear H
  go_enter Try.func14, Try.ntmps14
  go_upto_region 4 with (first | (go_at_call 26; (with_reducible refine (waggonerlaw01_awake.calls  t297 _ A3.out).mono ?_); rintro e w7 ⟨rfl, hb⟩; have n0_ := Aside0.mk (below_step (by repeat (first | (with_reducible first | exact HB.out | apply below_alloc | apply pw_below_drewN | apply below_drew1) | exact HB.out)) hb); clear HB; have HB := n0_; clear n0_; (try clear hb); (try clear hb2); (try clear hk); (try clear hi)) | (go_at_call 27; (with_reducible show Calls _ _ #[.slice none 0 0, .int .u64 a0, .int .i64 8] _ _); (refine (le_Put.calls _ _ ([] : List Int) a0 8 t298 t299 _ ?side1 ?side2 A4.out).mono ?_); (case side1 => exact Kd.C_nil _ _); (case side2 => exact Nat.le_refl _); rintro e w8 ⟨v300, rfl, ho0, hb⟩; have n0_ := Aside0.mk (Kd.R_lower ho0 (below_size (by repeat (first | (with_reducible first | exact HB.out | apply below_alloc | apply pw_below_drewN | apply below_drew1) | exact HB.out)))); have n1_ := Aside0.mk (below_step (by repeat (first | (with_reducible first | exact HB.out | apply below_alloc | apply pw_below_drewN | apply below_drew1) | exact HB.out)) hb); clear HB; have HO301 := n0_; have HB := n1_; clear n0_ n1_; (try clear hb); (try clear hb2); (try clear hk); (try clear hi); (try clear ho0)) | (go_at_call 27; (with_reducible show Calls _ _ #[.slice none 0 0, .int .u64 a0, .int .i64 a1] _ _); (refine (le_Put.calls _ _ ([] : List Int) a0 a1 t302 t303 _ ?side1 ?side2 A5.out).mono ?_); (case side1 => exact Kd.C_nil _ _); (case side2 => exact Nat.le_refl _); rintro e w9 ⟨v304, rfl, ho0, hb⟩; have n0_ := Aside0.mk (Kd.R_elder' (by (with_reducible repeat (first | apply Kd.R_alloc | apply Kd.R_drewN | apply Kd.R_drew)); exact HO301.out) (Kd.R_base ho0) hb); have n1_ := Aside0.mk (Kd.R_lower (Kd.R_new' ho0 (Kd.R_lt (by (with_reducible repeat (first | apply Kd.R_alloc | apply Kd.R_drewN | apply Kd.R_drew)); exact HO301.out))) (below_size (by repeat (first | (with_reducible first | exact HB.out | apply below_alloc | apply pw_below_drewN | apply below_drew1) | exact HB.out)))); have n2_ := Aside0.mk (below_step (by repeat (first | (with_reducible first | exact HB.out | apply below_alloc | apply pw_below_drewN | apply below_drew1) | exact HB.out)) hb); clear HO301; clear HB; have HO301 := n0_; have HO305 := n1_; have HB := n2_; clear n0_ n1_ n2_; (try clear hb); (try clear hb2); (try clear hk); (try clear hi); (try clear ho0)))
  repeat (go_quiet (first | (go_at_call 26; (with_reducible refine (waggonerlaw01_awake.calls  t297 _ A3.out).mono ?_); rintro e w7 ⟨rfl, hb⟩; have n0_ := Aside0.mk (below_step (by repeat (first | (with_reducible first | exact HB.out | apply below_alloc | apply pw_below_drewN | apply below_drew1) | exact HB.out)) hb); clear HB; have HB := n0_; clear n0_; (try clear hb); (try clear hb2); (try clear hk); (try clear hi)) | (go_at_call 27; (with_reducible show Calls _ _ #[.slice none 0 0, .int .u64 a0, .int .i64 8] _ _); (refine (le_Put.calls _ _ ([] : List Int) a0 8 t298 t299 _ ?side1 ?side2 A4.out).mono ?_); (case side1 => exact Kd.C_nil _ _); (case side2 => exact Nat.le_refl _); rintro e w8 ⟨v300, rfl, ho0, hb⟩; have n0_ := Aside0.mk (Kd.R_lower ho0 (below_size (by repeat (first | (with_reducible first | exact HB.out | apply below_alloc | apply pw_below_drewN | apply below_drew1) | exact HB.out)))); have n1_ := Aside0.mk (below_step (by repeat (first | (with_reducible first | exact HB.out | apply below_alloc | apply pw_below_drewN | apply below_drew1) | exact HB.out)) hb); clear HB; have HO301 := n0_; have HB := n1_; clear n0_ n1_; (try clear hb); (try clear hb2); (try clear hk); (try clear hi); (try clear ho0)) | (go_at_call 27; (with_reducible show Calls _ _ #[.slice none 0 0, .int .u64 a0, .int .i64 a1] _ _); (refine (le_Put.calls _ _ ([] : List Int) a0 a1 t302 t303 _ ?side1 ?side2 A5.out).mono ?_); (case side1 => exact Kd.C_nil _ _); (case side2 => exact Nat.le_refl _); rintro e w9 ⟨v304, rfl, ho0, hb⟩; have n0_ := Aside0.mk (Kd.R_elder' (by (with_reducible repeat (first | apply Kd.R_alloc | apply Kd.R_drewN | apply Kd.R_drew)); exact HO301.out) (Kd.R_base ho0) hb); have n1_ := Aside0.mk (Kd.R_lower (Kd.R_new' ho0 (Kd.R_lt (by (with_reducible repeat (first | apply Kd.R_alloc | apply Kd.R_drewN | apply Kd.R_drew)); exact HO301.out))) (below_size (by repeat (first | (with_reducible first | exact HB.out | apply below_alloc | apply pw_below_drewN | apply below_drew1) | exact HB.out)))); have n2_ := Aside0.mk (below_step (by repeat (first | (with_reducible first | exact HB.out | apply below_alloc | apply pw_below_drewN | apply below_drew1) | exact HB.out)) hb); clear HO301; clear HB; have HO301 := n0_; have HO305 := n1_; have HB := n2_; clear n0_ n1_ n2_; (try clear hb); (try clear hb2); (try clear hk); (try clear hi); (try clear ho0))); go_upto_region 4 with (first | (go_at_call 26; (with_reducible refine (waggonerlaw01_awake.calls  t297 _ A3.out).mono ?_); rintro e w7 ⟨rfl, hb⟩; have n0_ := Aside0.mk (below_step (by repeat (first | (with_reducible first | exact HB.out | apply below_alloc | apply pw_below_drewN | apply below_drew1) | exact HB.out)) hb); clear HB; have HB := n0_; clear n0_; (try clear hb); (try clear hb2); (try clear hk); (try clear hi)) | (go_at_call 27; (with_reducible show Calls _ _ #[.slice none 0 0, .int .u64 a0, .int .i64 8] _ _); (refine (le_Put.calls _ _ ([] : List Int) a0 8 t298 t299 _ ?side1 ?side2 A4.out).mono ?_); (case side1 => exact Kd.C_nil _ _); (case side2 => exact Nat.le_refl _); rintro e w8 ⟨v300, rfl, ho0, hb⟩; have n0_ := Aside0.mk (Kd.R_lower ho0 (below_size (by repeat (first | (with_reducible first | exact HB.out | apply below_alloc | apply pw_below_drewN | apply below_drew1) | exact HB.out)))); have n1_ := Aside0.mk (below_step (by repeat (first | (with_reducible first | exact HB.out | apply below_alloc | apply pw_below_drewN | apply below_drew1) | exact HB.out)) hb); clear HB; have HO301 := n0_; have HB := n1_; clear n0_ n1_; (try clear hb); (try clear hb2); (try clear hk); (try clear hi); (try clear ho0)) | (go_at_call 27; (with_reducible show Calls _ _ #[.slice none 0 0, .int .u64 a0, .int .i64 a1] _ _); (refine (le_Put.calls _ _ ([] : List Int) a0 a1 t302 t303 _ ?side1 ?side2 A5.out).mono ?_); (case side1 => exact Kd.C_nil _ _); (case side2 => exact Nat.le_refl _); rintro e w9 ⟨v304, rfl, ho0, hb⟩; have n0_ := Aside0.mk (Kd.R_elder' (by (with_reducible repeat (first | apply Kd.R_alloc | apply Kd.R_drewN | apply Kd.R_drew)); exact HO301.out) (Kd.R_base ho0) hb); have n1_ := Aside0.mk (Kd.R_lower (Kd.R_new' ho0 (Kd.R_lt (by (with_reducible repeat (first | apply Kd.R_alloc | apply Kd.R_drewN | apply Kd.R_drew)); exact HO301.out))) (below_size (by repeat (first | (with_reducible first | exact HB.out | apply below_alloc | apply pw_below_drewN | apply below_drew1) | exact HB.out)))); have n2_ := Aside0.mk (below_step (by repeat (first | (with_reducible first | exact HB.out | apply below_alloc | apply pw_below_drewN | apply below_drew1) | exact HB.out)) hb); clear HO301; clear HB; have HO301 := n0_; have HO305 := n1_; have HB := n2_; clear n0_ n1_ n2_; (try clear hb); (try clear hb2); (try clear hk); (try clear hi); (try clear ho0))))
  (try simp only [Act.put, List.setIfInBounds_toArray, List.set_cons_zero, List.set_cons_succ])
  go_cut [30] (fun v30 wc => ∃ (kq : Nat) (x30_5 : Bool), v30 = .bool x30_5 ∧ Aside0 (waggonerlaw01_LeWide.j0 kq a1 t297 t298 t302 t303 x30_5 = some true) ∧ Aside0 (kq ≤ k) ∧ Aside0 (Kd.R (Kd.int .u8) 5 wc w.heap.size (fun k_ => some k_ ≠ (v304 : Value).ownBlock) v300 t298) ∧ Aside0 (Kd.R (Kd.int .u8) 5 wc w.heap.size (fun k_ => some k_ ≠ (v300 : Value).ownBlock) v304 t302) ∧ Aside0 (Below w.heap.size w wc))
  case first =>
    have H := HC6.out
    clear HC6
    by_cases c10 : t299 = 0
    · rw [if_pos c10] at H
      have c10b0 : (t299 == 0) = true := beq_iff_eq.mpr c10
      have c10b1 : (t299 != 0) = false := bne_eq_false_iff_eq.mpr c10
      clear c10
      (first | rw [c10b0] | (simp only [i64_w, i32_w]; rw [c10b0]) | skip)
      have H' := Aside0.mk H
      clear H
      obtain ⟨Ao11, co11, eo11⟩ := Kd.R_slice HO301.out
      subst eo11
      go_wp2
      repeat (go_quiet (fail); try go_wp2)
      go_meet
      case rel => exact ⟨_, (((t298.length : Int) != 8)), (by first | rfl | (simp; done) | (simp [*]; done)), H', ⟨by first | omega | exact Nat.le_refl _⟩, ⟨by (with_reducible repeat (first | apply Kd.R_alloc | apply Kd.R_drewN | apply Kd.R_drew)); exact Kd.R_mono HO301.out (fun _ hk => hk.2)⟩, ⟨by (with_reducible repeat (first | apply Kd.R_alloc | apply Kd.R_drewN | apply Kd.R_drew)); exact Kd.R_mono HO305.out (fun _ hk => hk.2)⟩, ⟨by repeat (first | (with_reducible first | exact HB.out | apply below_alloc | apply pw_below_drewN | apply below_drew1) | exact HB.out)⟩⟩
    · rw [if_neg c10] at H
      have c10b0 : (t299 == 0) = false := beq_eq_false_iff_ne.mpr c10
      have c10b1 : (t299 != 0) = true := bne_iff_ne.mpr c10
      (first | rw [c10b0] | (simp only [i64_w, i32_w]; rw [c10b0]) | skip)
      have H' := Aside0.mk H
      clear H
      go_wp2
      repeat (go_quiet (fail); try go_wp2)
      go_meet
      case rel => exact ⟨_, (true), (by first | rfl | (simp; done) | (simp [*]; done)), H', ⟨by first | omega | exact Nat.le_refl _⟩, ⟨by (with_reducible repeat (first | apply Kd.R_alloc | apply Kd.R_drewN | apply Kd.R_drew)); exact Kd.R_mono HO301.out (fun _ hk => hk.2)⟩, ⟨by (with_reducible repeat (first | apply Kd.R_alloc | apply Kd.R_drewN | apply Kd.R_drew)); exact Kd.R_mono HO305.out (fun _ hk => hk.2)⟩, ⟨by repeat (first | (with_reducible first | exact HB.out | apply below_alloc | apply pw_below_drewN | apply below_drew1) | exact HB.out)⟩⟩
  case rest =>
    clear HC6
    try clear c1
    try clear p2
    try clear c10
    try clear c10b0
    try clear c10b1
    obtain ⟨kq, x30_5, rfl, HA, HJ5, HO_6, HO_8, HB⟩ := hcut
    cases kq with
    | zero => exact absurd HA.out (by simp [waggonerlaw01_LeWide.j0])
    | succ kj5 =>
      have H := HA.out
      clear HA
      simp only [waggonerlaw01_LeWide.j0] at H
      by_cases c12 : x30_5 = true
      · subst c12
        have H1 : (some false) = some true := by rw [if_pos rfl] at H <;> exact H
        clear H
        have H := H1
        clear H1
        (have HRT := Aside0.mk (Option.some.inj H); clear H)
        go_wp2
        repeat (go_quiet (fail); try go_wp2)
        go_ret
        exact ⟨by first | rfl | (exact congrArg (fun z_ => Ending.returned (Value.bool z_)) HRT.out) | (rw [HRT.out]; done) | (simp [errW_none, errW_some] <;> rfl) | (simp [*, errW_none, errW_some] <;> rfl), by repeat (first | (with_reducible first | exact HB.out | apply below_alloc | apply pw_below_drewN | apply below_drew1) | exact HB.out)⟩
      · replace c12 := Bool.eq_false_iff.mpr c12
        subst c12
        have H1 : (if a1 = 1 then (waggonerlaw01_LeWide.j1 kj5 a1 t297 t298 t302 t303 false) else (if a1 = 2 then (waggonerlaw01_LeWide.j1 kj5 a1 t297 t298 t302 t303 false) else (if a1 = 4 then (waggonerlaw01_LeWide.j1 kj5 a1 t297 t298 t302 t303 false) else (waggonerlaw01_LeWide.j1 kj5 a1 t297 t298 t302 t303 (a1 != 8))))) = some true := by rw [if_neg (show ¬ (false = true) by decide)] at H <;> exact H
        clear H
        have H := H1
        clear H1
        have HC13 := Aside0.mk H
        clear H
        go_upto_region 6 with (fail)
        repeat (go_quiet (fail); go_upto_region 6 with (fail))
        go_cut [44] (fun v44 wc => ∃ (kq : Nat) (x44_12 : Bool), v44 = .bool x44_12 ∧ Aside0 (waggonerlaw01_LeWide.j1 kq a1 t297 t298 t302 t303 x44_12 = some true) ∧ Aside0 (kq ≤ kj5) ∧ Aside0 (Kd.R (Kd.int .u8) 5 wc w.heap.size (fun k_ => some k_ ≠ (v304 : Value).ownBlock) v300 t298) ∧ Aside0 (Kd.R (Kd.int .u8) 5 wc w.heap.size (fun k_ => some k_ ≠ (v300 : Value).ownBlock) v304 t302) ∧ Aside0 (Below w.heap.size w wc))
        case first =>
          have H := HC13.out
          clear HC13
          by_cases c14 : a1 = 1
          · rw [if_pos c14] at H
            have c14b0 : (a1 == 1) = true := beq_iff_eq.mpr c14
            have c14b1 : (a1 != 1) = false := bne_eq_false_iff_eq.mpr c14
            clear c14
            (first | rw [c14b0] | (simp only [i64_w, i32_w]; rw [c14b0]) | skip)
            have H' := Aside0.mk H
            clear H
            go_wp2
            repeat (go_quiet (fail); try go_wp2)
            go_meet
            case rel => exact ⟨_, (false), (by first | rfl | (simp; done) | (simp [*]; done)), H', ⟨by have := HJ5.out; first | omega | exact Nat.le_refl _⟩, ⟨by (with_reducible repeat (first | apply Kd.R_alloc | apply Kd.R_drewN | apply Kd.R_drew)); exact HO_6.out⟩, ⟨by (with_reducible repeat (first | apply Kd.R_alloc | apply Kd.R_drewN | apply Kd.R_drew)); exact HO_8.out⟩, ⟨by repeat (first | (with_reducible first | exact HB.out | apply below_alloc | apply pw_below_drewN | apply below_drew1) | exact HB.out)⟩⟩
          · rw [if_neg c14] at H
            have c14b0 : (a1 == 1) = false := beq_eq_false_iff_ne.mpr c14
            have c14b1 : (a1 != 1) = true := bne_iff_ne.mpr c14
            (first | rw [c14b0] | (simp only [i64_w, i32_w]; rw [c14b0]) | skip)
            by_cases c15 : a1 = 2
            · rw [if_pos c15] at H
              have c15b0 : (a1 == 2) = true := beq_iff_eq.mpr c15
              have c15b1 : (a1 != 2) = false := bne_eq_false_iff_eq.mpr c15
              clear c15
              have H' := Aside0.mk H
              clear H
              go_wp2
              repeat (go_quiet (fail); try go_wp2)
              go_meet
              case rel => exact ⟨_, (false), (by first | rfl | (simp; done) | (simp [*]; done)), H', ⟨by have := HJ5.out; first | omega | exact Nat.le_refl _⟩, ⟨by (with_reducible repeat (first | apply Kd.R_alloc | apply Kd.R_drewN | apply Kd.R_drew)); exact HO_6.out⟩, ⟨by (with_reducible repeat (first | apply Kd.R_alloc | apply Kd.R_drewN | apply Kd.R_drew)); exact HO_8.out⟩, ⟨by repeat (first | (with_reducible first | exact HB.out | apply below_alloc | apply pw_below_drewN | apply below_drew1) | exact HB.out)⟩⟩
            · rw [if_neg c15] at H
              have c15b0 : (a1 == 2) = false := beq_eq_false_iff_ne.mpr c15
              have c15b1 : (a1 != 2) = true := bne_iff_ne.mpr c15
              by_cases c16 : a1 = 4
              · rw [if_pos c16] at H
                have c16b0 : (a1 == 4) = true := beq_iff_eq.mpr c16
                have c16b1 : (a1 != 4) = false := bne_eq_false_iff_eq.mpr c16
                clear c16
                have H' := Aside0.mk H
                clear H
                go_wp2
                repeat (go_quiet (fail); try go_wp2)
                go_meet
                case rel => exact ⟨_, (false), (by first | rfl | (simp; done) | (simp [*]; done)), H', ⟨by have := HJ5.out; first | omega | exact Nat.le_refl _⟩, ⟨by (with_reducible repeat (first | apply Kd.R_alloc | apply Kd.R_drewN | apply Kd.R_drew)); exact HO_6.out⟩, ⟨by (with_reducible repeat (first | apply Kd.R_alloc | apply Kd.R_drewN | apply Kd.R_drew)); exact HO_8.out⟩, ⟨by repeat (first | (with_reducible first | exact HB.out | apply below_alloc | apply pw_below_drewN | apply below_drew1) | exact HB.out)⟩⟩
              · rw [if_neg c16] at H
                have c16b0 : (a1 == 4) = false := beq_eq_false_iff_ne.mpr c16
                have c16b1 : (a1 != 4) = true := bne_iff_ne.mpr c16
                have H' := Aside0.mk H
                clear H
                go_wp2
                repeat (go_quiet (fail); try go_wp2)
                go_meet
                case rel => exact ⟨_, ((a1 != 8)), (by first | rfl | (simp; done) | (simp [*]; done)), H', ⟨by have := HJ5.out; first | omega | exact Nat.le_refl _⟩, ⟨by (with_reducible repeat (first | apply Kd.R_alloc | apply Kd.R_drewN | apply Kd.R_drew)); exact HO_6.out⟩, ⟨by (with_reducible repeat (first | apply Kd.R_alloc | apply Kd.R_drewN | apply Kd.R_drew)); exact HO_8.out⟩, ⟨by repeat (first | (with_reducible first | exact HB.out | apply below_alloc | apply pw_below_drewN | apply below_drew1) | exact HB.out)⟩⟩
        case rest =>
          clear HC13
          try clear c1
          try clear p2
          try clear c10
          try clear c10b0
          try clear c10b1
          try clear c12
          try clear c14
          try clear c14b0
          try clear c14b1
          try clear c15
          try clear c15b0
          try clear c15b1
          try clear c16
          try clear c16b0
          try clear c16b1
          try clear p2
          obtain ⟨kq, x44_12, rfl, HA, HJ12, HO_6, HO_8, HB⟩ := hcut
          cases kq with
          | zero => exact absurd HA.out (by simp [waggonerlaw01_LeWide.j1])
          | succ kj12 =>
            have H := HA.out
            clear HA
            simp only [waggonerlaw01_LeWide.j1] at H
            by_cases c17 : x44_12 = true
            · subst c17
              have H1 : (if t297 = true then (if t303 = 10 then (some ((t302.length : Int) == 0)) else (some false)) else (some false)) = some true := by rw [if_pos rfl] at H <;> exact H
              clear H
              have H := H1
              clear H1
              by_cases c18 : t297 = true
              · subst c18
                have H1 : (if t303 = 10 then (some ((t302.length : Int) == 0)) else (some false)) = some true := by rw [if_pos rfl] at H <;> exact H
                clear H
                have H := H1
                clear H1
                by_cases c19 : t303 = 10
                · rw [if_pos c19] at H
                  have c19b0 : (t303 == 10) = true := beq_iff_eq.mpr c19
                  have c19b1 : (t303 != 10) = false := bne_eq_false_iff_eq.mpr c19
                  clear c19
                  (have HRT := Aside0.mk (Option.some.inj H); clear H)
                  obtain ⟨Ao20, co20, eo20⟩ := Kd.R_slice HO_8.out
                  subst eo20
                  go_wp2
                  repeat (go_quiet (fail); try go_wp2)
                  go_ret
                  exact ⟨by first | rfl | (exact congrArg (fun z_ => Ending.returned (Value.bool z_)) HRT.out) | (rw [HRT.out]; done) | (simp [errW_none, errW_some] <;> rfl) | (simp [*, errW_none, errW_some] <;> rfl), by repeat (first | (with_reducible first | exact HB.out | apply below_alloc | apply pw_below_drewN | apply below_drew1) | exact HB.out)⟩
                · rw [if_neg c19] at H
                  first | exact absurd H (by simp; done) | skip
              · replace c18 := Bool.eq_false_iff.mpr c18
                subst c18
                have H1 : (some false) = some true := by rw [if_neg (show ¬ (false = true) by decide)] at H <;> exact H
                exact absurd H1 (by simp)
            · replace c17 := Bool.eq_false_iff.mpr c17
              subst c17
              have H1 : (waggonerlaw01_LeWide.l0 kj12 a1 t297 t298 t302 t303 true a1) = some true := by rw [if_neg (show ¬ (false = true) by decide)] at H <;> exact H
              clear H
              have H := H1
              clear H1
              have H' := Aside0.mk H
              clear H
              go_wp2
              repeat (go_quiet (fail); try go_wp2)
              go_loopg [10, 11] kj12 (fun kq v10 v11 w' => ∃ (x10_3 : Bool) (x11_3 : Int), v10 = .bool x10_3 ∧ v11 = .int .i64 x11_3 ∧ Aside0 (waggonerlaw01_LeWide.l0 kq a1 t297 t298 t302 t303 x10_3 x11_3 = some true) ∧ Aside0 (kq ≤ kj12) ∧ Aside0 (Kd.R (Kd.int .u8) 5 w' w.heap.size (fun k_ => some k_ ≠ (v304 : Value).ownBlock) v300 t298) ∧ Aside0 (Kd.R (Kd.int .u8) 5 w' w.heap.size (fun k_ => some k_ ≠ (v300 : Value).ownBlock) v304 t302) ∧ Aside0 (Below w.heap.size w w'))
              case atStart => exact ⟨(true), (a1), (by first | rfl | (simp; done) | (simp [*]; done)), (by first | rfl | (simp; done) | (simp [*]; done)), H', ⟨Nat.le_refl _⟩, ⟨by (with_reducible repeat (first | apply Kd.R_alloc | apply Kd.R_drewN | apply Kd.R_drew)); exact HO_6.out⟩, ⟨by (with_reducible repeat (first | apply Kd.R_alloc | apply Kd.R_drewN | apply Kd.R_drew)); exact HO_8.out⟩, ⟨by repeat (first | (with_reducible first | exact HB.out | apply below_alloc | apply pw_below_drewN | apply below_drew1) | exact HB.out)⟩⟩
              case round =>
                clear H'
                try clear c1
                try clear p2
                try clear c10
                try clear c10b0
                try clear c10b1
                try clear c12
                try clear c14
                try clear c14b0
                try clear c14b1
                try clear c15
                try clear c15b0
                try clear c15b1
                try clear c16
                try clear c16b0
                try clear c16b1
                try clear c17
                try clear c18
                try clear c19
                try clear c19b0
                try clear c19b1
                try clear p2
                obtain ⟨x10_3, x11_3, rfl, rfl, HA, HK3, HO_6, HO_8, HB⟩ := hrel
                cases gk with
                | zero => exact absurd HA.out (by simp [waggonerlaw01_LeWide.l0])
                | succ k3 =>
                  have H := HA.out
                  clear HA
                  simp only [waggonerlaw01_LeWide.l0] at H
                  by_cases c21 : x11_3 < 8
                  · rw [if_pos c21] at H
                    have c21b0 : decide (x11_3 < 8) = true := decide_eq_true c21
                    clear c21
                    by_cases c22 : x10_3 = true
                    · subst c22
                      have H1 : (if 0 ≤ x11_3 then (if x11_3 < (t298.length : Int) then (waggonerlaw01_LeWide.l0 k3 a1 t297 t298 t302 t303 ((rd t298 x11_3) == 0) (wrap64 (x11_3 + 1))) else (none)) else (none)) = some true := by rw [if_pos rfl] at H <;> exact H
                      clear H
                      have H := H1
                      clear H1
                      by_cases c23 : 0 ≤ x11_3
                      · rw [if_pos c23] at H
                        have c23b0 : decide (0 ≤ x11_3) = true := decide_eq_true c23
                        clear c23
                        by_cases c24 : x11_3 < (t298.length : Int)
                        · rw [if_pos c24] at H
                          have c24b0 : decide (x11_3 < (t298.length : Int)) = true := decide_eq_true c24
                          clear c24
                          have H' := Aside0.mk H
                          clear H
                          obtain ⟨Ao25, co25, eo25⟩ := Kd.R_slice HO_6.out
                          subst eo25
                          have p306 : 0 ≤ (x11_3 : Int) := of_decide_eq_true (by first | (with_reducible assumption) | assumption)
                          have q306 : x11_3 < (t298.length : Int) := of_decide_eq_true (by first | (with_reducible assumption) | assumption)
                          obtain ⟨ad306, e306, hx306_0⟩ := Kd.at_int (Kd.R_reads' HO_6.out).2.2 x11_3 p306 q306
                          cases e306
                          replace p306 := eq_true p306
                          replace q306 := eq_true q306
                          go_wp2
                          repeat (go_quiet (fail); try go_wp2)
                          go_roundg k3
                          case measure => have := HJ5.out; have := HJ12.out; have := HK3.out; omega
                          case rel => exact ⟨(((rd t298 x11_3) == 0)), (wrap64 (x11_3 + 1)), (by first | rfl | (simp; done) | (simp [*]; done)), (by first | rfl | (simp; done) | (simp [*]; done)), H', ⟨by have := HJ5.out; have := HJ12.out; have := HK3.out; omega⟩, ⟨by (with_reducible repeat (first | apply Kd.R_alloc | apply Kd.R_drewN | apply Kd.R_drew)); exact HO_6.out⟩, ⟨by (with_reducible repeat (first | apply Kd.R_alloc | apply Kd.R_drewN | apply Kd.R_drew)); exact HO_8.out⟩, ⟨by repeat (first | (with_reducible first | exact HB.out | apply below_alloc | apply pw_below_drewN | apply below_drew1) | exact HB.out)⟩⟩
                        · rw [if_neg c24] at H
                          exact absurd H (by simp)
                      · rw [if_neg c23] at H
                        exact absurd H (by simp)
                    · replace c22 := Bool.eq_false_iff.mpr c22
                      subst c22
                      have H1 : (waggonerlaw01_LeWide.l0 k3 a1 t297 t298 t302 t303 false (wrap64 (x11_3 + 1))) = some true := by rw [if_neg (show ¬ (false = true) by decide)] at H <;> exact H
                      clear H
                      have H := H1
                      clear H1
                      have H' := Aside0.mk H
                      clear H
                      go_wp2
                      repeat (go_quiet (fail); try go_wp2)
                      go_roundg k3
                      case measure => have := HJ5.out; have := HJ12.out; have := HK3.out; omega
                      case rel => exact ⟨(false), (wrap64 (x11_3 + 1)), (by first | rfl | (simp; done) | (simp [*]; done)), (by first | rfl | (simp; done) | (simp [*]; done)), H', ⟨by have := HJ5.out; have := HJ12.out; have := HK3.out; omega⟩, ⟨by (with_reducible repeat (first | apply Kd.R_alloc | apply Kd.R_drewN | apply Kd.R_drew)); exact HO_6.out⟩, ⟨by (with_reducible repeat (first | apply Kd.R_alloc | apply Kd.R_drewN | apply Kd.R_drew)); exact HO_8.out⟩, ⟨by repeat (first | (with_reducible first | exact HB.out | apply below_alloc | apply pw_below_drewN | apply below_drew1) | exact HB.out)⟩⟩
                  · rw [if_neg c21] at H
                    have c21b0 : decide (x11_3 < 8) = false := decide_eq_false c21
                    clear c21
                    by_cases c26 : t297 = true
                    · subst c26
                      have H1 : (if ((t303 == 0) == x10_3) = true then (if x10_3 = true then (if 0 ≤ a1 then (if a1 ≤ (t298.length : Int) then (some ((strOfNums t302).toList == (strOfNums (t298.take (a1 : Int).toNat)).toList)) else (none)) else (none)) else (some true)) else (some false)) = some true := by rw [if_pos rfl] at H <;> exact H
                      clear H
                      have H := H1
                      clear H1
                      by_cases c27 : ((t303 == 0) == x10_3) = true
                      · rw [if_pos c27] at H
                        have c27b0 : ((t303 == 0) == x10_3) = true := c27
                        (try (have c27b1 : decide ((t303 == 0) = x10_3) = true := by simpa using c27))
                        (try (have c27b2 : ((t303 == 0) == x10_3) = true := by simpa using c27))
                        clear c27
                        by_cases c28 : x10_3 = true
                        · subst c28
                          have H1 : (if 0 ≤ a1 then (if a1 ≤ (t298.length : Int) then (some ((strOfNums t302).toList == (strOfNums (t298.take (a1 : Int).toNat)).toList)) else (none)) else (none)) = some true := by rw [if_pos rfl] at H <;> exact H
                          clear H
                          have H := H1
                          clear H1
                          by_cases c29 : 0 ≤ a1
                          · rw [if_pos c29] at H
                            have c29b0 := eq_true c29
                            have c29b1 : decide (0 ≤ a1) = true := decide_eq_true c29
                            clear c29
                            by_cases c30 : a1 ≤ (t298.length : Int)
                            · rw [if_pos c30] at H
                              have c30b0 := eq_true c30
                              have c30b1 : decide (a1 ≤ (t298.length : Int)) = true := decide_eq_true c30
                              clear c30
                              obtain ⟨y307, hy307⟩ : ∃ y_ : List Int, y_ = (t298.take (a1 : Int).toNat) := ⟨_, rfl⟩
                              replace H : (some ((strOfNums t302).toList == (strOfNums y307).toList)) = some true := by first | (rw [hy307]; with_reducible exact H) | (have H2_ := (Option.bind_some _ _).symm.trans H; rw [hy307]; with_reducible exact H2_) | (have H2_ := (Option.bind_some _ _).symm.trans H; with_reducible exact H2_) | with_reducible exact H | (rw [hy307]; exact H) | exact H
                              have Ny307 := Aside0.mk hy307
                              clear hy307
                              (have HRT := Aside0.mk (Option.some.inj H); clear H)
                              have hcv31 := own_string (P := Try.prog) Try.underlying23 Try.underlying5 Try.underlying9 (Kd.own_of_R HO_8.out)
                              (try have hcvd32 := fun (n_ : Nat) => own_string (P := Try.prog) Try.underlying23 Try.underlying5 Try.underlying9 (Kd.own_of_R (Kd.R_drewN HO_8.out n_)))
                              obtain ⟨Ao34, co34, eo34⟩ := Kd.R_slice HO_6.out
                              subst eo34
                              have q33 : (a1 : Int) ≤ ((t298.length : Int) : Int) := of_decide_eq_true (by first | (with_reducible assumption) | assumption)
                              obtain ⟨i033, hi033, _, hsz33, _⟩ := info_parts info5
                              have hroom33 : t298.length ≤ co34 := (Kd.R_reads' HO_6.out).2.1
                              have hC33 : Kd.C (Kd.int .u8) _ Ao34 t298.length t298 := (Kd.R_reads' HO_6.out).2.2
                              have hcut33 := cut_to (P := Try.prog) 23 5 .i64 Try.underlying23 hi033 Ao34 t298.length co34 a1 (of_decide_eq_true (by first | (with_reducible assumption) | assumption)) q33 hroom33
                              have hr33 := Kd.C_take (m := (a1 : Int).toNat) hC33 (by omega)
                              have hy33 : y307.length = (a1 : Int).toNat := (by rw [Ny307.out, List.length_take]; omega)
                              rw [← Ny307.out] at hr33
                              rw [← hy33] at hcut33
                              have HR310 := Aside0.mk hr33
                              have HC310 := Aside0.mk (show y307.length ≤ co34 from by omega)
                              clear hr33 hC33 hroom33 hi033 hsz33
                              have KY33 := Aside0.mk hy33
                              clear hy33
                              have KL33 := Aside0.mk (show (a1 : Int).toNat ≤ t298.length from by omega)
                              replace q33 := eq_true q33
                              have hcv35 := Kd.C_string (P := Try.prog) (A := Ao34) (c := co34) Try.underlying23 Try.underlying5 Try.underlying9 (by repeat (first | (with_reducible exact HR310.out) | (with_reducible refine Kd.C_alloc ?_ _) | (with_reducible refine Kd.C_drewN ?_ _) | (with_reducible refine Kd.C_drew ?_) | exact HR310.out))
                              (try have hcvd36 := fun (n_ : Nat) => Kd.C_string (P := Try.prog) (A := Ao34) (c := co34) Try.underlying23 Try.underlying5 Try.underlying9 (Kd.C_drewN HR310.out n_))
                              go_wp2
                              repeat (go_quiet (fail); try go_wp2)
                              go_ret
                              exact ⟨by first | rfl | (exact congrArg (fun z_ => Ending.returned (Value.bool z_)) HRT.out) | (rw [HRT.out]; done) | (simp [errW_none, errW_some] <;> rfl) | (simp [*, errW_none, errW_some] <;> rfl), by repeat (first | (with_reducible first | exact HB.out | apply below_alloc | apply pw_below_drewN | apply below_drew1) | exact HB.out)⟩
                            · rw [if_neg c30] at H
                              exact absurd H (by simp)
                          · rw [if_neg c29] at H
                            exact absurd H (by simp)
                        · replace c28 := Bool.eq_false_iff.mpr c28
                          subst c28
                          have H1 : (some true) = some true := by rw [if_neg (show ¬ (false = true) by decide)] at H <;> exact H
                          clear H
                          have H := H1
                          clear H1
                          (have HRT := Aside0.mk (Option.some.inj H); clear H)
                          go_wp2
                          repeat (go_quiet (fail); try go_wp2)
                          go_ret
                          exact ⟨by first | rfl | (exact congrArg (fun z_ => Ending.returned (Value.bool z_)) HRT.out) | (rw [HRT.out]; done) | (simp [errW_none, errW_some] <;> rfl) | (simp [*, errW_none, errW_some] <;> rfl), by repeat (first | (with_reducible first | exact HB.out | apply below_alloc | apply pw_below_drewN | apply below_drew1) | exact HB.out)⟩
                      · rw [if_neg c27] at H
                        first | exact absurd H (by simp; done) | skip
                    · replace c26 := Bool.eq_false_iff.mpr c26
                      subst c26
                      have H1 : (some false) = some true := by rw [if_neg (show ¬ (false = true) by decide)] at H <;> exact H
                      exact absurd H1 (by simp)

/-- THE ONE PURE STATEMENT of waggonerlaw01_LeWide: yours. -/
def waggonerlaw01_LeWide.Pure : Prop := ∀ (a0 : Int) (a1 : Int), (Lit.int .u64 a0).wf = true → (Lit.int .i64 a1).wf = true → ∃ k, waggonerlaw01_LeWide.f k a0 a1 = some true
theorem waggonerlaw01_LeWide.walk (P : waggonerlaw01_LeWide.Pure) (a0 : Int) (a1 : Int) (w : World) (w0 : (Lit.int .u64 a0).wf = true) (w1 : (Lit.int .i64 a1).wf = true) :
    Calls Try.prog 14 #[.int .u64 a0, .int .i64 a1] w fun e w' => e = .returned (.bool true) ∧ Below w.heap.size w w' := by
  obtain ⟨k, h⟩ := P a0 a1 w0 w1
  refine (waggonerlaw01_LeWide.calls k a0 a1 true rfl w h).mono ?_
  rintro e w' ⟨rfl, hd⟩
  exact ⟨rfl, hd⟩

end Go.Proofs.Ytiaoehjldbnpkaa.PB
