/- Functions of the program as Lean functions, and that the Go code comes to just their answers: no condition but that the function says so. (Written by a program of this workplace over the kit's print, with contracts by hand.) -/
import Derived.Test.YtohkmmbmfhficaaCz
import Derived.Test.YtohkmmbmfhficaaPUx11
import Derived.Test.YtohkmmbmfhficaaPUx45
import Derived.Test.YtohkmmbmfhficaaPUx38
import Derived.Test.YtohkmmbmfhficaaPUx42
namespace Go.Proofs.Ytohkmmbmfhficaa.PU
open Go.Proofs.Ytohkmmbmfhficaa Go.RowKit Go.Proofs.YtohkmmbmfhficaaW.PrintWords Go.Proofs.YtohkmmbmfhficaaW.PrintLast Go.Proofs.YtohkmmbmfhficaaW.PrintMore
attribute [local go_sem] max2_int min2_int max_two min_two max_three min_three max_four min_four   -- for this text's walks alone
set_option linter.unusedVariables false
set_option linter.unusedSimpArgs false

/-! ### waggonerlaw16_awake: function 18 -/
def waggonerlaw16_awake.f : Option Bool := some true
theorem waggonerlaw16_awake.tells : waggonerlaw16_awake_p.f = some true := by kernel_rfl
theorem waggonerlaw16_awake.calls (r : Bool) (w : World) (h : waggonerlaw16_awake.f = some r) :
  Calls Try.prog 18 #[] w fun e w' => e = .returned (.bool r) ∧ Below w.heap.size w w' := by
 unfold waggonerlaw16_awake.f at h
 obtain rfl := Option.some.inj h
 exact waggonerlaw16_awake_p.calls true rfl w waggonerlaw16_awake.tells
/-! ### waggonerlaw16_FrameBurst: function 8 -/
mutual
def waggonerlaw16_FrameBurst.j0 : Nat → Int → Int → Bool → List Int → Int → Bool → Option (Bool)
 | 0, _, _, _, _, _, _ => none
 | k + 1, x1, x2, x7, x8, x9, x30 => if x30 = true then (if x7 = true then (some (x9 != 0)) else (some false)) else ((some (([] : List Int) : List Int)).bind fun y272 => (if y272.length + x8.length < 140737488355328 then (if (wrap64 ((wrap64 (8 * (x8.length : Int))) - 31)) = 0 then (none) else (waggonerlaw16_FrameBurst.l0 k x2 x7 (y272 ++ x8) (Int.tmod (wrap64 (x1)) (wrap64 ((wrap64 (8 * (x8.length : Int))) - 31))) false 0)) else (none)))
def waggonerlaw16_FrameBurst.l0 : Nat → Int → Bool → List Int → Int → Bool → Int → Option (Bool)
 | 0, _, _, _, _, _, _ => none
 | k + 1, x2, x7, x10, x11, x12, x13 => if x13 < 32 then (if 0 ≤ (IntKind.u64.wrap (x13)) then (if (Int.tmod (shr .u32 x2 (IntKind.u64.wrap (x13))) 2) = 1 then (if (wrap64 (Int.tdiv (wrap64 (x11 + x13)) 8)) = 1 then (waggonerlaw16_FrameBurst.l0 k x2 x7 x10 x11 x12 (wrap64 (x13 + 1))) else (if (wrap64 (Int.tdiv (wrap64 (x11 + x13)) 8)) = 2 then (waggonerlaw16_FrameBurst.l0 k x2 x7 x10 x11 x12 (wrap64 (x13 + 1))) else (if 0 ≤ (wrap64 (Int.tdiv (wrap64 (x11 + x13)) 8)) then (if (wrap64 (Int.tdiv (wrap64 (x11 + x13)) 8)) < (x10.length : Int) then (if 0 ≤ (IntKind.u64.wrap (Int.tmod (wrap64 (x11 + x13)) 8)) then (waggonerlaw16_FrameBurst.l0 k x2 x7 (x10.set ((wrap64 (Int.tdiv (wrap64 (x11 + x13)) 8)) : Int).toNat (Go.bits .xor .u8 (rd x10 (wrap64 (Int.tdiv (wrap64 (x11 + x13)) 8))) (shl .u8 1 (IntKind.u64.wrap (Int.tmod (wrap64 (x11 + x13)) 8))))) x11 true (wrap64 (x13 + 1))) else (none)) else (none)) else (none)))) else (waggonerlaw16_FrameBurst.l0 k x2 x7 x10 x11 x12 (wrap64 (x13 + 1)))) else (none)) else ((frame_Read.f x10).bind fun bt280 => (if x7 = true then (if ((bt280.2.2.2.2.2.2.2.2 == 0) == (!x12)) = true then (if x12 = true then (some (bt280.2.2.2.2.2.2.2.2 == 160)) else (some true)) else (some false)) else (some false)))
end
def waggonerlaw16_FrameBurst.f (k : Nat) (a0_0 : Int) (a0_1 : Int) (a0_2 : Int) (l0_3 : List Int) (a0_4 : Int) (a0_5 : Int) (a0_6 : Int) (a1 : Int) (a2 : Int) : Option (Bool) := (waggonerlaw16_awake.f).bind fun t267 => ((frame_Write.f a0_0 a0_1 a0_2 l0_3 a0_4 a0_5 a0_6).bind fun bt268 => (if bt268.2 = 0 then (waggonerlaw16_FrameBurst.j0 k a1 a2 t267 bt268.1 bt268.2 (decide ((bt268.1.length : Int) < 9))) else (waggonerlaw16_FrameBurst.j0 k a1 a2 t267 bt268.1 bt268.2 true)))
theorem waggonerlaw16_FrameBurst.mono_l : ∀ k, (∀ y0 y1 y2 y3 y4 y5, LeO (waggonerlaw16_FrameBurst.j0 k y0 y1 y2 y3 y4 y5) (waggonerlaw16_FrameBurst.j0 (k + 1) y0 y1 y2 y3 y4 y5)) ∧ (∀ y0 y1 y2 y3 y4 y5, LeO (waggonerlaw16_FrameBurst.l0 k y0 y1 y2 y3 y4 y5) (waggonerlaw16_FrameBurst.l0 (k + 1) y0 y1 y2 y3 y4 y5))
 | 0 => ⟨fun _ _ _ _ _ _ r h => by simp [waggonerlaw16_FrameBurst.j0] at h, fun _ _ _ _ _ _ r h => by simp [waggonerlaw16_FrameBurst.l0] at h⟩
 | k + 1 => by
  obtain ⟨ih0, ih1⟩ := waggonerlaw16_FrameBurst.mono_l k
  refine ⟨?_, ?_⟩
  ·intro y0 y1 y2 y3 y4 y5
   unfold waggonerlaw16_FrameBurst.j0
   repeat' first
   | (with_reducible exact ih0 _ _ _ _ _ _)
   | (with_reducible exact ih1 _ _ _ _ _ _)
   | (with_reducible exact LeO.refl _)
   | (with_reducible exact LeO.none _)
   | (with_reducible refine LeO.ite ?_ ?_)
   | (with_reducible refine LeO.bind ?_ (fun _ => ?_))
   | exact ih0 _ _ _ _ _ _
   | exact ih1 _ _ _ _ _ _
   | exact LeO.none _
   | refine LeO.ite ?_ ?_
   | refine LeO.bind ?_ (fun _ => ?_)
  ·intro y0 y1 y2 y3 y4 y5
   unfold waggonerlaw16_FrameBurst.l0
   repeat' first
   | (with_reducible exact ih0 _ _ _ _ _ _)
   | (with_reducible exact ih1 _ _ _ _ _ _)
   | (with_reducible exact LeO.refl _)
   | (with_reducible exact LeO.none _)
   | (with_reducible refine LeO.ite ?_ ?_)
   | (with_reducible refine LeO.bind ?_ (fun _ => ?_))
   | exact ih0 _ _ _ _ _ _
   | exact ih1 _ _ _ _ _ _
   | exact LeO.none _
   | refine LeO.ite ?_ ?_
   | refine LeO.bind ?_ (fun _ => ?_)
theorem waggonerlaw16_FrameBurst.mono : ∀ a0 a1 a2 a3 a4 a5 a6 a7 a8 k, LeO (waggonerlaw16_FrameBurst.f k a0 a1 a2 a3 a4 a5 a6 a7 a8) (waggonerlaw16_FrameBurst.f (k + 1) a0 a1 a2 a3 a4 a5 a6 a7 a8) := by
 intro a0 a1 a2 a3 a4 a5 a6 a7 a8 k
 obtain ⟨ih0, ih1⟩ := waggonerlaw16_FrameBurst.mono_l k
 unfold waggonerlaw16_FrameBurst.f
 repeat' first
   | (with_reducible exact ih0 _ _ _ _ _ _)
   | (with_reducible exact ih1 _ _ _ _ _ _)
   | (with_reducible exact LeO.refl _)
   | (with_reducible exact LeO.none _)
   | (with_reducible refine LeO.ite ?_ ?_)
   | (with_reducible refine LeO.bind ?_ (fun _ => ?_))
   | exact ih0 _ _ _ _ _ _
   | exact ih1 _ _ _ _ _ _
   | exact LeO.none _
   | refine LeO.ite ?_ ?_
   | refine LeO.bind ?_ (fun _ => ?_)
set_option maxHeartbeats 8000000 in
set_option maxRecDepth 100000 in
theorem waggonerlaw16_FrameBurst.calls (k : Nat) (a0_0 : Int) (a0_1 : Int) (a0_2 : Int) (A0_3 : Option Addr) (c0_3 : Nat) (l0_3 : List Int) (a0_4 : Int) (a0_5 : Int) (a0_6 : Int) (a1 : Int) (a2 : Int) (r : Bool) (hT : r = true) (w : World) (hr0_3 : Kd.C (Kd.int .u8) w A0_3 l0_3.length l0_3) (hc0_3 : l0_3.length ≤ c0_3) (h : waggonerlaw16_FrameBurst.f k a0_0 a0_1 a0_2 l0_3 a0_4 a0_5 a0_6 a1 a2 = some r) :
  Calls Try.prog 8 #[.agg #[.int .i64 a0_0, .int .i64 a0_1, .int .i64 a0_2, .slice A0_3 l0_3.length c0_3, .int .i64 a0_4, .int .i64 a0_5, .int .i64 a0_6], .int .u16 a1, .int .u32 a2] w fun e w' => e = .returned (.bool r) ∧ Below w.heap.size w w' := by
 subst hT
 have hu38 := Try.underlying38
 have HR0_3 := Aside0.mk hr0_3
 have HC0_3 := Aside0.mk hc0_3
 clear hr0_3 hc0_3
 have HB := Aside0.mk (Below.refl w.heap.size w)
 have H : ((waggonerlaw16_awake.f).bind fun t267 => ((frame_Write.f a0_0 a0_1 a0_2 l0_3 a0_4 a0_5 a0_6).bind fun bt268 => (if bt268.2 = 0 then (waggonerlaw16_FrameBurst.j0 k a1 a2 t267 bt268.1 bt268.2 (decide ((bt268.1.length : Int) < 9))) else (waggonerlaw16_FrameBurst.j0 k a1 a2 t267 bt268.1 bt268.2 true)))) = some true := h
 clear h
 replace H := Option.bind_eq_some_iff.mp H
 obtain ⟨t267, A40, H⟩ := H
 (try dsimp only at H)
 have A4 := Aside0.mk A40
 clear A40
 replace H := Option.bind_eq_some_iff.mp H
 obtain ⟨⟨t268, t271⟩, A50, H⟩ := H
 (try dsimp only at H)
 have A5 := Aside0.mk A50
 clear A50
 have HC6 := Aside0.mk H
 clear H
 go_enter Try.func8, Try.ntmps8
 go_upto_region 3 with (first | ((with_reducible refine gate_dst (N := 3) rfl ?_); (try (refine gate_guard (by rfl) ?_; dsimp only)); refine box_event ?hg (N := 3) ?hd (cs := #[.int .i64 a0_0, .int .i64 a0_1, .int .i64 a0_2, .slice A0_3 l0_3.length c0_3, .int .i64 a0_4, .int .i64 a0_5, .int .i64 a0_6]) (t := 38) ?hr ?_; (case hd => rfl); (case hg => rfl); (case hr => first | (go_simp; done) | (go_simp; rfl)); intro gb266 hg w7 hbox hb; have n0_ := Cz.bs (w := w) hb; have n1_ := Aside0.mk (hbox); have n2_ := Aside0.mk ((Cz.gs hg : w.heap.size ≤ gb266)); have n3_ := Aside0.mk ((Cz.gs hg : w.heap.size ≤ gb266)); clear HB; have HB := n0_; have BK266 := n1_; have GW266 := n2_; have GE266 := n3_; clear n0_ n1_ n2_ n3_; clear hb hbox hg) | ((with_reducible refine gate_callee (f := 18) rfl ?_); refine Cz.gL (N := (some 18)) Try.func18 #[] ?_; (with_reducible refine (waggonerlaw16_awake.calls  t267 _ A4.out).mono ?_); rintro e w8 ⟨rfl, hb⟩; refine ⟨_, rfl, ?_⟩; have n0_ := Cz.bk BK266 hb; have n1_ := Cz.bs (w := w) hb; clear BK266; clear HB; have BK266 := n0_; have HB := n1_; clear n0_ n1_; (try clear hb); (try clear hb2); (try clear hk); (try clear hi); obtain ⟨hcz9_0, hcz9_1, hcz9_2, hcz9_3, hcz9_4, hcz9_5, hcz9_6, hfz9_0, hfz9_1, hfz9_2, hfz9_3, hfz9_4, hfz9_5, hfz9_6⟩ := Cz.d7 BK266) | ((with_reducible refine gate_callee (f := 19) rfl ?_); refine Cz.gL (N := (some 21)) Try.func19 #[.agg #[.int .i64 a0_0, .int .i64 a0_1, .int .i64 a0_2, .slice A0_3 l0_3.length c0_3, .int .i64 a0_4, .int .i64 a0_5, .int .i64 a0_6]] ?_; (with_reducible refine (frame_Write.calls a0_0 a0_1 a0_2 _ _ l0_3 a0_4 a0_5 a0_6 t268 t271 _ ?side1 ?side2 A5.out).mono ?_); (case side1 => exact Cz.cb HR0_3); (case side2 => exact HC0_3.out); rintro e w10 ⟨v269, rfl, ho0, hb⟩; refine ⟨_, rfl, ?_⟩; have n0_ := Aside0.mk (Kd.R_lower ho0 (below_size (by repeat (first | (with_reducible first | exact HB.out | apply below_alloc | apply pw_below_drewN | apply below_drew1 | refine below_set ?_ GE266.out) | exact HB.out)))); have n1_ := Cz.bk BK266 hb; have n2_ := Cz.bs (w := w) hb; clear BK266; clear HB; have HO270 := n0_; have BK266 := n1_; have HB := n2_; clear n0_ n1_ n2_; (try clear hb); (try clear hb2); (try clear hk); (try clear hi); (try clear ho0)))
 (try simp only [Act.put, Kx.sb, Kx.sz, Kx.ss])
 go_cut [30] (fun v30 wc => ∃ (kq : Nat) (x30_5 : Bool), v30 = .bool x30_5 ∧ Aside0 (waggonerlaw16_FrameBurst.j0 kq a1 a2 t267 t268 t271 x30_5 = some true) ∧ Aside0 (kq ≤ k) ∧ Aside0 (Kd.R (Kd.int .u8) 5 wc w.heap.size (fun _ => True) v269 t268) ∧ Aside0 (wc.heap[gb266]? = some (.cells #[.int .i64 a0_0, .int .i64 a0_1, .int .i64 a0_2, (.slice A0_3 l0_3.length c0_3), .int .i64 a0_4, .int .i64 a0_5, .int .i64 a0_6] 38 (0, 0))) ∧ Aside0 (Below w.heap.size w wc))
 case first =>
  have H := HC6.out
  clear HC6
  by_cases c11 : t271 = 0
  ·rw [if_pos c11] at H
   have c11b0 : (t271 == 0) = true := beq_iff_eq.mpr c11
   have c11b1 : (t271 != 0) = false := bne_eq_false_iff_eq.mpr c11
   clear c11
   (first | rw [c11b0] | (simp only [i64_w, i32_w]; rw [c11b0]) | skip)
   have H' := Aside0.mk H
   clear H
   obtain ⟨Ao12, co12, eo12⟩ := Kd.R_slice HO270.out
   subst eo12
   go_wp2
   go_meet
   case rel => exact ⟨_, (decide ((t268.length : Int) < 9)), (by first | rfl | (simp; done) | (simp [*]; done)), H', ⟨by first | omega | exact Nat.le_refl _⟩, ⟨by (with_reducible repeat (first | apply Kd.R_alloc | apply Kd.R_drewN | apply Kd.R_drew)); exact HO270.out⟩, ⟨by (with_reducible repeat (first | refine blk_drewN ?_ _ | refine blk_drew ?_ | refine blk_alloc ?_ _)); exact BK266.out⟩, ⟨by repeat (first | (with_reducible first | exact HB.out | apply below_alloc | apply pw_below_drewN | apply below_drew1 | refine below_set ?_ GE266.out) | exact HB.out)⟩⟩
  ·rw [if_neg c11] at H
   have c11b0 : (t271 == 0) = false := beq_eq_false_iff_ne.mpr c11
   have c11b1 : (t271 != 0) = true := bne_iff_ne.mpr c11
   (first | rw [c11b0] | (simp only [i64_w, i32_w]; rw [c11b0]) | skip)
   have H' := Aside0.mk H
   clear H
   go_wp2
   go_meet
   case rel => exact ⟨_, (true), (by first | rfl | (simp; done) | (simp [*]; done)), H', ⟨by first | omega | exact Nat.le_refl _⟩, ⟨by (with_reducible repeat (first | apply Kd.R_alloc | apply Kd.R_drewN | apply Kd.R_drew)); exact HO270.out⟩, ⟨by (with_reducible repeat (first | refine blk_drewN ?_ _ | refine blk_drew ?_ | refine blk_alloc ?_ _)); exact BK266.out⟩, ⟨by repeat (first | (with_reducible first | exact HB.out | apply below_alloc | apply pw_below_drewN | apply below_drew1 | refine below_set ?_ GE266.out) | exact HB.out)⟩⟩
 case rest =>
  clear HC6
  try clear c1
  try clear p2
  try clear c8
  try clear c11
  try clear c11b0
  try clear c11b1
  try clear hcz9_0
  try clear hcz9_1
  try clear hcz9_2
  try clear hcz9_3
  try clear hcz9_4
  try clear hcz9_5
  try clear hcz9_6
  try clear hfz9_0
  try clear hfz9_1
  try clear hfz9_2
  try clear hfz9_3
  try clear hfz9_4
  try clear hfz9_5
  try clear hfz9_6
  obtain ⟨kq, x30_5, rfl, HA, HJ5, HO_8, BK266, HB⟩ := hcut
  cases kq with
  | zero => exact absurd HA.out (by simp [waggonerlaw16_FrameBurst.j0])
  | succ kj5 =>
   have H := HA.out
   clear HA
   simp only [waggonerlaw16_FrameBurst.j0] at H
   by_cases c13 : x30_5 = true
   ·subst c13
    rw [if_pos rfl] at H
    by_cases c14 : t267 = true
    ·subst c14
     rw [if_pos rfl] at H
     (have HRT := Aside0.mk (Option.some.inj H); clear H)
     go_wp2
     go_ret
     exact ⟨by first | rfl | (exact congrArg (fun z_ => Ending.returned (Value.bool z_)) HRT.out) | (rw [HRT.out]; done) | (simp [errW_none, errW_some] <;> rfl) | (simp [*, errW_none, errW_some] <;> rfl), by repeat (first | (with_reducible first | exact HB.out | apply below_alloc | apply pw_below_drewN | apply below_drew1 | refine below_set ?_ GE266.out) | exact HB.out)⟩
    ·replace c14 := Bool.eq_false_iff.mpr c14
     subst c14
     have H1 : (some false) = some true := by rw [if_neg (show ¬ (false = true) by decide)] at H <;> exact H
     exact absurd H1 (by simp)
   ·replace c13 := Bool.eq_false_iff.mpr c13
    subst c13
    rw [if_neg (show ¬ (false = true) by decide)] at H
    obtain ⟨y272, hy272⟩ : ∃ y_ : List Int, y_ = (([] : List Int)) := ⟨_, rfl⟩
    replace H : (if y272.length + t268.length < 140737488355328 then (if (wrap64 ((wrap64 (8 * (t268.length : Int))) - 31)) = 0 then (none) else (waggonerlaw16_FrameBurst.l0 kj5 a2 t267 (y272 ++ t268) (Int.tmod (wrap64 (a1)) (wrap64 ((wrap64 (8 * (t268.length : Int))) - 31))) false 0)) else (none)) = some true := by first | (rw [hy272]; with_reducible exact H) | (have H2_ := (Option.bind_some _ _).symm.trans H; rw [hy272]; with_reducible exact H2_) | (have H2_ := (Option.bind_some _ _).symm.trans H; with_reducible exact H2_) | with_reducible exact H | (rw [hy272]; exact H) | exact H
    have Ny272 := Aside0.mk hy272
    clear hy272
    by_cases c15 : y272.length + t268.length < 140737488355328
    ·rw [if_pos c15] at H
     have LMc15 := Aside0.mk c15
     clear c15
     obtain ⟨y275, hy275⟩ : ∃ y_ : List Int, y_ = (y272 ++ t268) := ⟨_, rfl⟩
     replace H : (if (wrap64 ((wrap64 (8 * (t268.length : Int))) - 31)) = 0 then (none) else (waggonerlaw16_FrameBurst.l0 kj5 a2 t267 y275 (Int.tmod (wrap64 (a1)) (wrap64 ((wrap64 (8 * (t268.length : Int))) - 31))) false 0)) = some true := by first | (rw [hy275]; with_reducible exact H) | (have H2_ := (Option.bind_some _ _).symm.trans H; rw [hy275]; with_reducible exact H2_) | (have H2_ := (Option.bind_some _ _).symm.trans H; with_reducible exact H2_) | with_reducible exact H | (rw [hy275]; exact H) | exact H
     have Ny275 := Aside0.mk hy275
     clear hy275
     by_cases c16 : (wrap64 ((wrap64 (8 * (t268.length : Int))) - 31)) = 0
     ·rw [if_pos c16] at H
      exact absurd H (by simp)
     ·rw [if_neg c16] at H
      have c16b0 : ((wrap64 ((wrap64 (8 * (t268.length : Int))) - 31)) == 0) = false := beq_eq_false_iff_ne.mpr c16
      have c16b1 : ((wrap64 ((wrap64 (8 * (t268.length : Int))) - 31)) != 0) = true := bne_iff_ne.mpr c16
      have H' := Aside0.mk H
      clear H
      go_wp2_with (first | ((with_reducible refine gate_dst (N := 36) rfl ?_); (try (refine gate_guard (by rfl) ?_; dsimp only)); refine Kd.R_lit (Kd.int .u8) _ 5 ?hg (N := 36) ?hd (xs := ([] : List Int)) (inner := []) (ok := fun _ => True) (okp := fun _ => True) ?hr ?hp (fun _ hk => hk) trivial (Below.refl _ _) (Nat.le_refl _) (by simp) ?_; (case hd => rfl); (case hg => rfl); (case hr => first | (go_simp; done) | (go_simp; rfl)); (case hp => exact (Reps.none _ _)); intro v273 w17 ho18 hb hg_ hnew_; clear hg_ hnew_; (first | rw [← Ny272.out] at ho18 | (simp only [Int.reduceToNat] at ho18; rw [← Ny272.out] at ho18)); have n0_ := Aside0.mk (Kd.R_elder' (by (with_reducible repeat (first | apply Kd.R_alloc | apply Kd.R_drewN | apply Kd.R_drew)); exact HO_8.out) (Kd.R_base ho18) hb); have n1_ := Aside0.mk (Kd.R_lower (Kd.R_new' ho18 (Kd.R_lt (by (with_reducible repeat (first | apply Kd.R_alloc | apply Kd.R_drewN | apply Kd.R_drew)); exact HO_8.out))) (below_size (by repeat (first | (with_reducible first | exact HB.out | apply below_alloc | apply pw_below_drewN | apply below_drew1 | refine below_set ?_ GE266.out) | exact HB.out)))); have n2_ := Cz.bk BK266 hb; have n3_ := Cz.bs (w := w) hb; clear HO_8; clear BK266; clear HB; have HO_8 := n0_; have HO274 := n1_; have BK266 := n2_; have HB := n3_; clear n0_ n1_ n2_ n3_; clear hb ho18; obtain ⟨Ao20, co20, eo20⟩ := Kd.R_slice HO_8.out; subst eo20) | ((with_reducible refine gate_builtin (b := .append) (xs := #[.tmp 36, .tmp 37]) rfl ?_); (try (refine gate_guard (by rfl) ?_; dsimp only)); at_builtin; refine Kd.R_append_rows (Kd.int .u8) (w0 := w) w.heap.size rfl (.tmp 36) (.tmp 37) 27 5 (.int .u8 0) 1 rfl Try.underlying27 info5 rfl (by decide) (by omega) v273 y272 t268 _ _ _ (fun k_ => some k_ ≠ (.slice Ao20 t268.length co20 : Value).ownBlock) (fun _ => False) rfl rfl ?aO ?aR (fun _ _ h => h) (fun _ h => h.elim) ?aF ?aB ?aS ?aL ?_; (case aR => repeat (first | exact (Kd.R_reads' HO_8.out).2.2 | (with_reducible refine Kd.C_alloc ?_ _) | (with_reducible refine Kd.C_drewN ?_ _) | (with_reducible refine Kd.C_drew ?_))); (case aB => exact (by repeat (first | (with_reducible first | exact HB.out | apply below_alloc | apply pw_below_drewN | apply below_drew1 | refine below_set ?_ GE266.out) | exact HB.out))); (case aF => exact (fun k_ hk => Kd.fresh' (Kd.R_lt (by (with_reducible repeat (first | apply Kd.R_alloc | apply Kd.R_drewN | apply Kd.R_drew)); exact HO_8.out)) k_ hk)); (case aO => exact (by (with_reducible repeat (first | apply Kd.R_alloc | apply Kd.R_drewN | apply Kd.R_drew)); exact Kd.R_mono HO274.out (fun _ hk => hk.2))); (case aS => exact (below_size (by repeat (first | (with_reducible first | exact HB.out | apply below_alloc | apply pw_below_drewN | apply below_drew1 | refine below_set ?_ GE266.out) | exact HB.out)))); (case aL => have := LMc15.out; omega); intro v276 w19 ho hb hg hat; rw [← Ny275.out] at ho; have n0_ := Aside0.mk (Kd.R_after (ok := (fun _ => True)) (by (with_reducible repeat (first | apply Kd.R_alloc | apply Kd.R_drewN | apply Kd.R_drew)); exact HO_8.out) hg hat); have n1_ := Aside0.mk (blk_grown (g := gb266) (o := .cells #[.int .i64 a0_0, .int .i64 a0_1, .int .i64 a0_2, .slice A0_3 l0_3.length c0_3, .int .i64 a0_4, .int .i64 a0_5, .int .i64 a0_6] 38 (0, 0)) (by (with_reducible repeat (first | refine blk_drewN ?_ _ | refine blk_drew ?_ | refine blk_alloc ?_ _)); exact BK266.out) hg (Kd.R_ne HO274.out BK266.out (by decide))); have n2_ := Aside0.mk (hb); have n3_ := Aside0.mk (ho); clear HO_8; clear BK266; clear HB; clear HO274; have HO_8 := n0_; have BK266 := n1_; have HB := n2_; have HO277 := n3_; clear n0_ n1_ n2_ n3_; clear ho hb hg hat))
      go_loopg [12, 13] kj5 (fun kq v12 v13 w' => ∃ (x10_2 : List Int) (x12_2 : Bool) (x13_2 : Int), v12 = .bool x12_2 ∧ v13 = .int .i64 x13_2 ∧ Aside0 (waggonerlaw16_FrameBurst.l0 kq a2 t267 x10_2 (Int.tmod (wrap64 (a1)) (wrap64 ((wrap64 (8 * (t268.length : Int))) - 31))) x12_2 x13_2 = some true) ∧ Aside0 (kq ≤ kj5) ∧ Aside0 (Kd.R (Kd.int .u8) 5 w' w.heap.size (fun _ => True) v276 x10_2) ∧ Aside0 (w'.heap[gb266]? = some (.cells #[.int .i64 a0_0, .int .i64 a0_1, .int .i64 a0_2, (.slice A0_3 l0_3.length c0_3), .int .i64 a0_4, .int .i64 a0_5, .int .i64 a0_6] 38 (0, 0))) ∧ Aside0 (Below w.heap.size w w'))
      case atStart => exact ⟨(y275), (false), (0), (by first | rfl | (simp; done) | (simp [*]; done)), (by first | rfl | (simp; done) | (simp [*]; done)), H', ⟨Nat.le_refl _⟩, ⟨by (with_reducible repeat (first | apply Kd.R_alloc | apply Kd.R_drewN | apply Kd.R_drew)); exact Kd.R_mono HO277.out (fun _ hk => trivial)⟩, ⟨by (with_reducible repeat (first | refine blk_drewN ?_ _ | refine blk_drew ?_ | refine blk_alloc ?_ _)); exact BK266.out⟩, ⟨by repeat (first | (with_reducible first | exact HB.out | apply below_alloc | apply pw_below_drewN | apply below_drew1 | refine below_set ?_ GE266.out) | exact HB.out)⟩⟩
      case round =>
       clear H'
       try clear c1
       try clear p2
       try clear p6
       try clear c8
       try clear c11
       try clear c11b0
       try clear c11b1
       try clear c13
       try clear c14
       try clear c15
       try clear c16
       try clear c16b0
       try clear c16b1
       try clear c18
       try clear c19
       try clear hcz9_0
       try clear hcz9_1
       try clear hcz9_2
       try clear hcz9_3
       try clear hcz9_4
       try clear hcz9_5
       try clear hcz9_6
       try clear hfz9_0
       try clear hfz9_1
       try clear hfz9_2
       try clear hfz9_3
       try clear hfz9_4
       try clear hfz9_5
       try clear hfz9_6
       try clear p2
       obtain ⟨x10_2, x12_2, x13_2, rfl, rfl, HA, HK2, HO_10, BK266, HB⟩ := hrel
       cases gk with
       | zero => exact absurd HA.out (by simp [waggonerlaw16_FrameBurst.l0])
       | succ k2 =>
        have H := HA.out
        clear HA
        simp only [waggonerlaw16_FrameBurst.l0] at H
        by_cases c21 : x13_2 < 32
        ·rw [if_pos c21] at H
         have c21b0 : decide (x13_2 < 32) = true := decide_eq_true c21
         clear c21
         obtain ⟨ji22, hji22⟩ : ∃ j_ : Int, (IntKind.u64.wrap (x13_2)) = j_ := ⟨_, rfl⟩
         replace H : (if 0 ≤ (ji22) then (if (Int.tmod (shr .u32 a2 (ji22)) 2) = 1 then (if (wrap64 (Int.tdiv (wrap64 ((Int.tmod (wrap64 (a1)) (wrap64 ((wrap64 (8 * (t268.length : Int))) - 31))) + x13_2)) 8)) = 1 then (waggonerlaw16_FrameBurst.l0 k2 a2 t267 x10_2 (Int.tmod (wrap64 (a1)) (wrap64 ((wrap64 (8 * (t268.length : Int))) - 31))) x12_2 (wrap64 (x13_2 + 1))) else (if (wrap64 (Int.tdiv (wrap64 ((Int.tmod (wrap64 (a1)) (wrap64 ((wrap64 (8 * (t268.length : Int))) - 31))) + x13_2)) 8)) = 2 then (waggonerlaw16_FrameBurst.l0 k2 a2 t267 x10_2 (Int.tmod (wrap64 (a1)) (wrap64 ((wrap64 (8 * (t268.length : Int))) - 31))) x12_2 (wrap64 (x13_2 + 1))) else (if 0 ≤ (wrap64 (Int.tdiv (wrap64 ((Int.tmod (wrap64 (a1)) (wrap64 ((wrap64 (8 * (t268.length : Int))) - 31))) + x13_2)) 8)) then (if (wrap64 (Int.tdiv (wrap64 ((Int.tmod (wrap64 (a1)) (wrap64 ((wrap64 (8 * (t268.length : Int))) - 31))) + x13_2)) 8)) < (x10_2.length : Int) then (if 0 ≤ (IntKind.u64.wrap (Int.tmod (wrap64 ((Int.tmod (wrap64 (a1)) (wrap64 ((wrap64 (8 * (t268.length : Int))) - 31))) + x13_2)) 8)) then (waggonerlaw16_FrameBurst.l0 k2 a2 t267 (x10_2.set ((wrap64 (Int.tdiv (wrap64 ((Int.tmod (wrap64 (a1)) (wrap64 ((wrap64 (8 * (t268.length : Int))) - 31))) + x13_2)) 8)) : Int).toNat (Go.bits .xor .u8 (rd x10_2 (wrap64 (Int.tdiv (wrap64 ((Int.tmod (wrap64 (a1)) (wrap64 ((wrap64 (8 * (t268.length : Int))) - 31))) + x13_2)) 8))) (shl .u8 1 (IntKind.u64.wrap (Int.tmod (wrap64 ((Int.tmod (wrap64 (a1)) (wrap64 ((wrap64 (8 * (t268.length : Int))) - 31))) + x13_2)) 8))))) (Int.tmod (wrap64 (a1)) (wrap64 ((wrap64 (8 * (t268.length : Int))) - 31))) true (wrap64 (x13_2 + 1))) else (none)) else (none)) else (none)))) else (waggonerlaw16_FrameBurst.l0 k2 a2 t267 x10_2 (Int.tmod (wrap64 (a1)) (wrap64 ((wrap64 (8 * (t268.length : Int))) - 31))) x12_2 (wrap64 (x13_2 + 1)))) else (none)) = some true := by first | (rw [hji22] at H; exact H) | (simp only [hji22] at H ⊢; exact H)
         by_cases c23 : 0 ≤ (ji22)
         ·rw [if_pos c23] at H
          have c23b0 := eq_true c23
          have c23b1 : decide (0 ≤ (ji22)) = true := decide_eq_true c23
          clear c23
          obtain ⟨ji24, hji24⟩ : ∃ j_ : Int, (shr .u32 a2 (ji22)) = j_ := ⟨_, rfl⟩
          replace H : (if (Int.tmod (ji24) 2) = 1 then (if (wrap64 (Int.tdiv (wrap64 ((Int.tmod (wrap64 (a1)) (wrap64 ((wrap64 (8 * (t268.length : Int))) - 31))) + x13_2)) 8)) = 1 then (waggonerlaw16_FrameBurst.l0 k2 a2 t267 x10_2 (Int.tmod (wrap64 (a1)) (wrap64 ((wrap64 (8 * (t268.length : Int))) - 31))) x12_2 (wrap64 (x13_2 + 1))) else (if (wrap64 (Int.tdiv (wrap64 ((Int.tmod (wrap64 (a1)) (wrap64 ((wrap64 (8 * (t268.length : Int))) - 31))) + x13_2)) 8)) = 2 then (waggonerlaw16_FrameBurst.l0 k2 a2 t267 x10_2 (Int.tmod (wrap64 (a1)) (wrap64 ((wrap64 (8 * (t268.length : Int))) - 31))) x12_2 (wrap64 (x13_2 + 1))) else (if 0 ≤ (wrap64 (Int.tdiv (wrap64 ((Int.tmod (wrap64 (a1)) (wrap64 ((wrap64 (8 * (t268.length : Int))) - 31))) + x13_2)) 8)) then (if (wrap64 (Int.tdiv (wrap64 ((Int.tmod (wrap64 (a1)) (wrap64 ((wrap64 (8 * (t268.length : Int))) - 31))) + x13_2)) 8)) < (x10_2.length : Int) then (if 0 ≤ (IntKind.u64.wrap (Int.tmod (wrap64 ((Int.tmod (wrap64 (a1)) (wrap64 ((wrap64 (8 * (t268.length : Int))) - 31))) + x13_2)) 8)) then (waggonerlaw16_FrameBurst.l0 k2 a2 t267 (x10_2.set ((wrap64 (Int.tdiv (wrap64 ((Int.tmod (wrap64 (a1)) (wrap64 ((wrap64 (8 * (t268.length : Int))) - 31))) + x13_2)) 8)) : Int).toNat (Go.bits .xor .u8 (rd x10_2 (wrap64 (Int.tdiv (wrap64 ((Int.tmod (wrap64 (a1)) (wrap64 ((wrap64 (8 * (t268.length : Int))) - 31))) + x13_2)) 8))) (shl .u8 1 (IntKind.u64.wrap (Int.tmod (wrap64 ((Int.tmod (wrap64 (a1)) (wrap64 ((wrap64 (8 * (t268.length : Int))) - 31))) + x13_2)) 8))))) (Int.tmod (wrap64 (a1)) (wrap64 ((wrap64 (8 * (t268.length : Int))) - 31))) true (wrap64 (x13_2 + 1))) else (none)) else (none)) else (none)))) else (waggonerlaw16_FrameBurst.l0 k2 a2 t267 x10_2 (Int.tmod (wrap64 (a1)) (wrap64 ((wrap64 (8 * (t268.length : Int))) - 31))) x12_2 (wrap64 (x13_2 + 1)))) = some true := by first | (rw [hji24] at H; exact H) | (simp only [hji24] at H ⊢; exact H)
          have hji24_ : (a2 / 2 ^ min (ji22).toNat 32) = ji24 := hji24
          have hji24z : (ji22) ≤ 32 → (a2 / 2 ^ (ji22).toNat) = ji24 := shr_small hji24
          by_cases c25 : (Int.tmod (ji24) 2) = 1
          ·rw [if_pos c25] at H
           have c25b0 : ((Int.tmod (ji24) 2) == 1) = true := beq_iff_eq.mpr c25
           have c25b1 : ((Int.tmod (ji24) 2) != 1) = false := bne_eq_false_iff_eq.mpr c25
           clear c25
           by_cases c26 : (wrap64 (Int.tdiv (wrap64 ((Int.tmod (wrap64 (a1)) (wrap64 ((wrap64 (8 * (t268.length : Int))) - 31))) + x13_2)) 8)) = 1
           ·rw [if_pos c26] at H
            have c26b0 : ((wrap64 (Int.tdiv (wrap64 ((Int.tmod (wrap64 (a1)) (wrap64 ((wrap64 (8 * (t268.length : Int))) - 31))) + x13_2)) 8)) == 1) = true := beq_iff_eq.mpr c26
            have c26b1 : ((wrap64 (Int.tdiv (wrap64 ((Int.tmod (wrap64 (a1)) (wrap64 ((wrap64 (8 * (t268.length : Int))) - 31))) + x13_2)) 8)) != 1) = false := bne_eq_false_iff_eq.mpr c26
            clear c26
            have H' := Aside0.mk H
            clear H
            go_wp2
            go_roundg k2
            case measure => have := HJ5.out; have := HK2.out; omega
            case rel => exact ⟨(x10_2), (x12_2), (wrap64 (x13_2 + 1)), (by first | rfl | (simp; done) | (simp [*]; done)), (by first | rfl | (simp; done) | (simp [*]; done)), H', ⟨by have := HJ5.out; have := HK2.out; omega⟩, ⟨by (with_reducible repeat (first | apply Kd.R_alloc | apply Kd.R_drewN | apply Kd.R_drew)); exact HO_10.out⟩, ⟨by (with_reducible repeat (first | refine blk_drewN ?_ _ | refine blk_drew ?_ | refine blk_alloc ?_ _)); exact BK266.out⟩, ⟨by repeat (first | (with_reducible first | exact HB.out | apply below_alloc | apply pw_below_drewN | apply below_drew1 | refine below_set ?_ GE266.out) | exact HB.out)⟩⟩
           ·rw [if_neg c26] at H
            have c26b0 : ((wrap64 (Int.tdiv (wrap64 ((Int.tmod (wrap64 (a1)) (wrap64 ((wrap64 (8 * (t268.length : Int))) - 31))) + x13_2)) 8)) == 1) = false := beq_eq_false_iff_ne.mpr c26
            have c26b1 : ((wrap64 (Int.tdiv (wrap64 ((Int.tmod (wrap64 (a1)) (wrap64 ((wrap64 (8 * (t268.length : Int))) - 31))) + x13_2)) 8)) != 1) = true := bne_iff_ne.mpr c26
            by_cases c27 : (wrap64 (Int.tdiv (wrap64 ((Int.tmod (wrap64 (a1)) (wrap64 ((wrap64 (8 * (t268.length : Int))) - 31))) + x13_2)) 8)) = 2
            ·rw [if_pos c27] at H
             have c27b0 : ((wrap64 (Int.tdiv (wrap64 ((Int.tmod (wrap64 (a1)) (wrap64 ((wrap64 (8 * (t268.length : Int))) - 31))) + x13_2)) 8)) == 2) = true := beq_iff_eq.mpr c27
             have c27b1 : ((wrap64 (Int.tdiv (wrap64 ((Int.tmod (wrap64 (a1)) (wrap64 ((wrap64 (8 * (t268.length : Int))) - 31))) + x13_2)) 8)) != 2) = false := bne_eq_false_iff_eq.mpr c27
             clear c27
             have H' := Aside0.mk H
             clear H
             go_wp2
             go_roundg k2
             case measure => have := HJ5.out; have := HK2.out; omega
             case rel => exact ⟨(x10_2), (x12_2), (wrap64 (x13_2 + 1)), (by first | rfl | (simp; done) | (simp [*]; done)), (by first | rfl | (simp; done) | (simp [*]; done)), H', ⟨by have := HJ5.out; have := HK2.out; omega⟩, ⟨by (with_reducible repeat (first | apply Kd.R_alloc | apply Kd.R_drewN | apply Kd.R_drew)); exact HO_10.out⟩, ⟨by (with_reducible repeat (first | refine blk_drewN ?_ _ | refine blk_drew ?_ | refine blk_alloc ?_ _)); exact BK266.out⟩, ⟨by repeat (first | (with_reducible first | exact HB.out | apply below_alloc | apply pw_below_drewN | apply below_drew1 | refine below_set ?_ GE266.out) | exact HB.out)⟩⟩
            ·rw [if_neg c27] at H
             have c27b0 : ((wrap64 (Int.tdiv (wrap64 ((Int.tmod (wrap64 (a1)) (wrap64 ((wrap64 (8 * (t268.length : Int))) - 31))) + x13_2)) 8)) == 2) = false := beq_eq_false_iff_ne.mpr c27
             have c27b1 : ((wrap64 (Int.tdiv (wrap64 ((Int.tmod (wrap64 (a1)) (wrap64 ((wrap64 (8 * (t268.length : Int))) - 31))) + x13_2)) 8)) != 2) = true := bne_iff_ne.mpr c27
             obtain ⟨ji28, hji28⟩ : ∃ j_ : Int, (wrap64 (Int.tdiv (wrap64 ((Int.tmod (wrap64 (a1)) (wrap64 ((wrap64 (8 * (t268.length : Int))) - 31))) + x13_2)) 8)) = j_ := ⟨_, rfl⟩
             replace H : (if 0 ≤ (ji28) then (if (ji28) < (x10_2.length : Int) then (if 0 ≤ (IntKind.u64.wrap (Int.tmod (wrap64 ((Int.tmod (wrap64 (a1)) (wrap64 ((wrap64 (8 * (t268.length : Int))) - 31))) + x13_2)) 8)) then (waggonerlaw16_FrameBurst.l0 k2 a2 t267 (x10_2.set ((ji28) : Int).toNat (Go.bits .xor .u8 (rd x10_2 (ji28)) (shl .u8 1 (IntKind.u64.wrap (Int.tmod (wrap64 ((Int.tmod (wrap64 (a1)) (wrap64 ((wrap64 (8 * (t268.length : Int))) - 31))) + x13_2)) 8))))) (Int.tmod (wrap64 (a1)) (wrap64 ((wrap64 (8 * (t268.length : Int))) - 31))) true (wrap64 (x13_2 + 1))) else (none)) else (none)) else (none)) = some true := by first | (rw [hji28] at H; exact H) | (simp only [hji28] at H ⊢; exact H)
             (try rw [hji28] at c26b0)
             (try rw [hji28] at c26b1)
             (try rw [hji28] at c27b0)
             (try rw [hji28] at c27b1)
             have hji28w : (IntKind.i64.wrap (Int.tdiv (wrap64 ((Int.tmod (wrap64 (a1)) (wrap64 ((wrap64 (8 * (t268.length : Int))) - 31))) + x13_2)) 8)) = ji28 := (i64_w _).trans hji28
             by_cases c29 : 0 ≤ (ji28)
             ·rw [if_pos c29] at H
              have c29b0 : decide (0 ≤ (ji28)) = true := decide_eq_true c29
              clear c29
              by_cases c30 : (ji28) < (x10_2.length : Int)
              ·rw [if_pos c30] at H
               have c30b0 : decide ((ji28) < (x10_2.length : Int)) = true := decide_eq_true c30
               clear c30
               obtain ⟨ji31, hji31⟩ : ∃ j_ : Int, (IntKind.u64.wrap (Int.tmod (wrap64 ((Int.tmod (wrap64 (a1)) (wrap64 ((wrap64 (8 * (t268.length : Int))) - 31))) + x13_2)) 8)) = j_ := ⟨_, rfl⟩
               replace H : (if 0 ≤ (ji31) then (waggonerlaw16_FrameBurst.l0 k2 a2 t267 (x10_2.set ((ji28) : Int).toNat (Go.bits .xor .u8 (rd x10_2 (ji28)) (shl .u8 1 (ji31)))) (Int.tmod (wrap64 (a1)) (wrap64 ((wrap64 (8 * (t268.length : Int))) - 31))) true (wrap64 (x13_2 + 1))) else (none)) = some true := by first | (rw [hji31] at H; exact H) | (simp only [hji31] at H ⊢; exact H)
               by_cases c32 : 0 ≤ (ji31)
               ·rw [if_pos c32] at H
                have c32b0 := eq_true c32
                have c32b1 : decide (0 ≤ (ji31)) = true := decide_eq_true c32
                clear c32
                obtain ⟨ji33, hji33⟩ : ∃ j_ : Int, (shl .u8 1 (ji31)) = j_ := ⟨_, rfl⟩
                replace H : (waggonerlaw16_FrameBurst.l0 k2 a2 t267 (x10_2.set ((ji28) : Int).toNat (Go.bits .xor .u8 (rd x10_2 (ji28)) (ji33))) (Int.tmod (wrap64 (a1)) (wrap64 ((wrap64 (8 * (t268.length : Int))) - 31))) true (wrap64 (x13_2 + 1))) = some true := by first | (rw [hji33] at H; exact H) | (simp only [hji33] at H ⊢; exact H)
                have hji33_ : (IntKind.u8.wrap (1 * 2 ^ min (ji31).toNat 8)) = ji33 := hji33
                have hji33z : (ji31) ≤ 8 → (IntKind.u8.wrap (1 * 2 ^ (ji31).toNat)) = ji33 := shl_small hji33
                have hji33u : (IntKind.u8.wrap (2 ^ min (ji31).toNat 8)) = ji33 := by have h_ := hji33_; rw [Int.one_mul] at h_; exact h_
                have hji33v : (ji31) ≤ 8 → (IntKind.u8.wrap (2 ^ (ji31).toNat)) = ji33 := fun hle_ => by have h_ := hji33z hle_; rw [Int.one_mul] at h_; exact h_
                obtain ⟨y279, hy279⟩ : ∃ y_ : List Int, y_ = (x10_2.set ((ji28) : Int).toNat (Go.bits .xor .u8 (rd x10_2 (ji28)) (ji33))) := ⟨_, rfl⟩
                replace H : (waggonerlaw16_FrameBurst.l0 k2 a2 t267 y279 (Int.tmod (wrap64 (a1)) (wrap64 ((wrap64 (8 * (t268.length : Int))) - 31))) true (wrap64 (x13_2 + 1))) = some true := by first | (rw [hy279]; with_reducible exact H) | (have H2_ := (Option.bind_some _ _).symm.trans H; rw [hy279]; with_reducible exact H2_) | (have H2_ := (Option.bind_some _ _).symm.trans H; with_reducible exact H2_) | with_reducible exact H | (rw [hy279]; exact H) | exact H
                have Ny279 := Aside0.mk hy279
                clear hy279
                have H' := Aside0.mk H
                clear H
                obtain ⟨Ao35, co35, eo35⟩ := Kd.R_slice HO_10.out
                subst eo35
                have p278 : 0 ≤ ((ji28) : Int) := of_decide_eq_true (by first | (with_reducible assumption) | assumption)
                have q278 : (ji28) < (x10_2.length : Int) := of_decide_eq_true (by first | (with_reducible assumption) | assumption)
                obtain ⟨ad278, e278, hx278_0⟩ := Kd.at_int (Kd.R_reads' HO_10.out).2.2 (ji28) p278 q278
                cases e278
                replace p278 := eq_true p278
                replace q278 := eq_true q278
                have p34 : 0 ≤ ((ji28) : Int) := of_decide_eq_true (by first | (with_reducible assumption) | assumption)
                have q34 : ((ji28) : Int) < ((x10_2.length : Int) : Int) := of_decide_eq_true (by first | (with_reducible assumption) | assumption)
                obtain ⟨go34, co34, eo34, gb34, gl34, cl34, HG34⟩ := Kd.R_form HO_10.out (by omega)
                (first | cases eo34 | (injection eo34 with ea_ en_ ec_; (first | subst ea_ | (injection ea_ with ea_; subst ea_)); subst ec_; clear en_))
                have GB34 := Aside0.mk gb34
                have GG34 := Aside0.mk HG34
                clear gb34 gl34 HG34
                (first | simp only [add_plain] at hx278_0 | skip)
                obtain ⟨hx34_0, hf34_0⟩ := Kd.R_celln 0 HO_10.out ((ji28) : Int) p34 q34
                replace p34 := eq_true p34
                replace q34 := eq_true q34
                have HP36 := Kd.R_putg HO_10.out ((ji28) : Int) (Go.bits .xor .u8 (rd x10_2 (ji28)) (ji33))
                go_wp2_with (first | ((with_reducible refine gate_store (t := 5) (p := 82) rfl ?_); refine store_event (t := 5) (p := 82) (v := ?vo_w37) (w1 := (wr.setCell ⟨go34, ((ji28) : Int).toNat, none⟩ (.int .u8 (Go.bits .xor .u8 (rd x10_2 (ji28)) (ji33))))) ?hg ?ho ?hn ?hr ?_; (case ho => rfl); (case hg => rfl); (case hn => rfl); (case hr => first | (go_simp; done) | (go_simp; rfl)); intro w37 hw; have hg : wr.grownBy w37 (some go34) := (by rw [hw]; exact HP36.2); have hp_ : Kd.R (Kd.int .u8) 5 w37 w.heap.size (fun _ => True) (.slice (some ⟨go34, 0, none⟩) x10_2.length co35) y279 := (by rw [hw, Ny279.out]; exact HP36.1); clear HP36; have n0_ := Aside0.mk (hp_); have n1_ := Aside0.mk (blk_grown (g := gb266) (o := .cells #[.int .i64 a0_0, .int .i64 a0_1, .int .i64 a0_2, .slice A0_3 l0_3.length c0_3, .int .i64 a0_4, .int .i64 a0_5, .int .i64 a0_6] 38 (0, 0)) (by (with_reducible repeat (first | refine blk_drewN ?_ _ | refine blk_drew ?_ | refine blk_alloc ?_ _)); exact BK266.out) hg (Kd.R_ne HO_10.out BK266.out (by decide))); have n2_ := Aside0.mk ((by rw [hw]; exact below_set (HB.out) GB34.out : Below w.heap.size w w37)); clear HO_10; clear BK266; clear HB; have HO_10 := n0_; have BK266 := n1_; have HB := n2_; clear n0_ n1_ n2_; clear hg hw hp_))
                go_roundg k2
                case measure => have := HJ5.out; have := HK2.out; omega
                case rel => exact ⟨(y279), (true), (wrap64 (x13_2 + 1)), (by first | rfl | (simp; done) | (simp [*]; done)), (by first | rfl | (simp; done) | (simp [*]; done)), H', ⟨by have := HJ5.out; have := HK2.out; omega⟩, ⟨by (with_reducible repeat (first | apply Kd.R_alloc | apply Kd.R_drewN | apply Kd.R_drew)); exact HO_10.out⟩, ⟨by (with_reducible repeat (first | refine blk_drewN ?_ _ | refine blk_drew ?_ | refine blk_alloc ?_ _)); exact BK266.out⟩, ⟨by repeat (first | (with_reducible first | exact HB.out | apply below_alloc | apply pw_below_drewN | apply below_drew1 | refine below_set ?_ GE266.out) | exact HB.out)⟩⟩
               ·rw [if_neg c32] at H
                exact absurd H (by simp)
              ·rw [if_neg c30] at H
               exact absurd H (by simp)
             ·rw [if_neg c29] at H
              exact absurd H (by simp)
          ·rw [if_neg c25] at H
           have c25b0 : ((Int.tmod (ji24) 2) == 1) = false := beq_eq_false_iff_ne.mpr c25
           have c25b1 : ((Int.tmod (ji24) 2) != 1) = true := bne_iff_ne.mpr c25
           have H' := Aside0.mk H
           clear H
           go_wp2
           go_roundg k2
           case measure => have := HJ5.out; have := HK2.out; omega
           case rel => exact ⟨(x10_2), (x12_2), (wrap64 (x13_2 + 1)), (by first | rfl | (simp; done) | (simp [*]; done)), (by first | rfl | (simp; done) | (simp [*]; done)), H', ⟨by have := HJ5.out; have := HK2.out; omega⟩, ⟨by (with_reducible repeat (first | apply Kd.R_alloc | apply Kd.R_drewN | apply Kd.R_drew)); exact HO_10.out⟩, ⟨by (with_reducible repeat (first | refine blk_drewN ?_ _ | refine blk_drew ?_ | refine blk_alloc ?_ _)); exact BK266.out⟩, ⟨by repeat (first | (with_reducible first | exact HB.out | apply below_alloc | apply pw_below_drewN | apply below_drew1 | refine below_set ?_ GE266.out) | exact HB.out)⟩⟩
         ·rw [if_neg c23] at H
          exact absurd H (by simp)
        ·rw [if_neg c21] at H
         have c21b0 : decide (x13_2 < 32) = false := decide_eq_false c21
         clear c21
         replace H := Option.bind_eq_some_iff.mp H
         obtain ⟨⟨t280, t281, t282, t283, t286, t287, t288, t289, t290⟩, A380, H⟩ := H
         (try dsimp only at H)
         have A38 := Aside0.mk A380
         clear A380
         by_cases c39 : t267 = true
         ·subst c39
          rw [if_pos rfl] at H
          by_cases c40 : ((t290 == 0) == (!x12_2)) = true
          ·rw [if_pos c40] at H
           have c40b0 : ((t290 == 0) == (!x12_2)) = true := c40
           (try (have c40b1 : decide ((t290 == 0) = (!x12_2)) = true := by simpa using c40))
           (try (have c40b2 : ((t290 == 0) == (!x12_2)) = true := by simpa using c40))
           clear c40
           by_cases c41 : x12_2 = true
           ·subst c41
            rw [if_pos rfl] at H
            (have HRT := Aside0.mk (Option.some.inj H); clear H)
            (try have z_ : (t290 == 0) = false := by simpa using c40b0)
            (try have z_ : (t290 == 0) = true := by simpa using c40b0)
            obtain ⟨Ao42, co42, eo42⟩ := Kd.R_slice HO_10.out
            subst eo42
            go_wp2_with (first | ((with_reducible refine gate_callee (f := 21) rfl ?_); refine Cz.gL (N := (some 85)) Try.func21 #[.slice Ao42 x10_2.length co42] ?_; (with_reducible refine (frame_Read.calls _ _ x10_2 t280 t281 t282 t283 t286 t287 t288 t289 t290 _ ?side1 ?side2 A38.out).mono ?_); (case side1 => repeat (first | exact (Kd.R_reads' HO_10.out).2.2 | (with_reducible refine Kd.C_alloc ?_ _) | (with_reducible refine Kd.C_drewN ?_ _) | (with_reducible refine Kd.C_drew ?_))); (case side2 => exact (Kd.R_reads' HO_10.out).2.1); rintro e w43 ⟨v284, rfl, ho0, hb⟩; refine ⟨_, rfl, ?_⟩; have n0_ := Aside0.mk (Kd.R_elder' (by (with_reducible repeat (first | apply Kd.R_alloc | apply Kd.R_drewN | apply Kd.R_drew)); exact HO_10.out) (Kd.R_base ho0) hb); have n1_ := Aside0.mk (Kd.R_lower (Kd.R_new' ho0 (Kd.R_lt (by (with_reducible repeat (first | apply Kd.R_alloc | apply Kd.R_drewN | apply Kd.R_drew)); exact HO_10.out))) (below_size (by repeat (first | (with_reducible first | exact HB.out | apply below_alloc | apply pw_below_drewN | apply below_drew1 | refine below_set ?_ GE266.out) | exact HB.out)))); have n2_ := Cz.bk BK266 hb; have n3_ := Cz.bs (w := w) hb; clear HO_10; clear BK266; clear HB; have HO_10 := n0_; have HO285 := n1_; have BK266 := n2_; have HB := n3_; clear n0_ n1_ n2_ n3_; (try clear hb); (try clear hb2); (try clear hk); (try clear hi); (try clear ho0)) | ((with_reducible refine gate_dst (N := 15) rfl ?_); (try (refine gate_guard (by rfl) ?_; dsimp only)); refine box_event ?hg (N := 15) ?hd (cs := #[.int .i64 0, .int .i64 0, .int .i64 0, .slice none 0 0, .int .i64 0, .int .i64 0, .int .i64 0]) (t := 38) ?hr ?_; (case hd => rfl); (case hg => rfl); (case hr => first | (go_simp; done) | (go_simp; rfl)); intro gb291 hg w44 hbox hb; have n0_ := Cz.rb HO_10 hb; have n1_ := Cz.rb HO285 hb; have n2_ := Cz.bk BK266 hb; have n3_ := Cz.bs (w := w) hb; have n4_ := Aside0.mk (hbox); have n5_ := Aside0.mk ((Cz.gs hg : w.heap.size ≤ gb291)); have n6_ := Aside0.mk ((Cz.gs hg : w.heap.size ≤ gb291)); have n7_ := Aside0.mk ((Cz.nl BK266 hg : gb266 ≠ gb291)); have n8_ := Aside0.mk ((Cz.nr BK266 hg : gb291 ≠ gb266)); clear HO_10; clear HO285; clear BK266; clear HB; have HO_10 := n0_; have HO285 := n1_; have BK266 := n2_; have HB := n3_; have BK291 := n4_; have GW291 := n5_; have GE291 := n6_; have NB266_291 := n7_; have NB291_266 := n8_; clear n0_ n1_ n2_ n3_ n4_ n5_ n6_ n7_ n8_; clear hb hbox hg; have hnb45 := NB291_266.out; have hnc45 := NB266_291.out; obtain ⟨hcz46_0, hcz46_1, hcz46_2, hcz46_3, hcz46_4, hcz46_5, hcz46_6, hfz46_0, hfz46_1, hfz46_2, hfz46_3, hfz46_4, hfz46_5, hfz46_6⟩ := Cz.d7 BK291; obtain ⟨Ao47, co47, eo47⟩ := Kd.R_slice HO285.out; subst eo47))
            go_ret
            exact ⟨by first | rfl | (exact congrArg (fun z_ => Ending.returned (Value.bool z_)) HRT.out) | (rw [HRT.out]; done) | (simp [errW_none, errW_some] <;> rfl) | (simp [*, errW_none, errW_some] <;> rfl), by repeat (first | (with_reducible first | exact HB.out | apply below_alloc | apply pw_below_drewN | apply below_drew1 | refine below_set ?_ GE266.out | refine below_set ?_ GE291.out) | exact HB.out)⟩
           ·replace c41 := Bool.eq_false_iff.mpr c41
            subst c41
            rw [if_neg (show ¬ (false = true) by decide)] at H
            (have HRT := Aside0.mk (Option.some.inj H); clear H)
            (try have z_ : (t290 == 0) = false := by simpa using c40b0)
            (try have z_ : (t290 == 0) = true := by simpa using c40b0)
            obtain ⟨Ao48, co48, eo48⟩ := Kd.R_slice HO_10.out
            subst eo48
            go_wp2_with (first | ((with_reducible refine gate_callee (f := 21) rfl ?_); refine Cz.gL (N := (some 85)) Try.func21 #[.slice Ao48 x10_2.length co48] ?_; (with_reducible refine (frame_Read.calls _ _ x10_2 t280 t281 t282 t283 t286 t287 t288 t289 t290 _ ?side1 ?side2 A38.out).mono ?_); (case side1 => repeat (first | exact (Kd.R_reads' HO_10.out).2.2 | (with_reducible refine Kd.C_alloc ?_ _) | (with_reducible refine Kd.C_drewN ?_ _) | (with_reducible refine Kd.C_drew ?_))); (case side2 => exact (Kd.R_reads' HO_10.out).2.1); rintro e w49 ⟨v284, rfl, ho0, hb⟩; refine ⟨_, rfl, ?_⟩; have n0_ := Aside0.mk (Kd.R_elder' (by (with_reducible repeat (first | apply Kd.R_alloc | apply Kd.R_drewN | apply Kd.R_drew)); exact HO_10.out) (Kd.R_base ho0) hb); have n1_ := Aside0.mk (Kd.R_lower (Kd.R_new' ho0 (Kd.R_lt (by (with_reducible repeat (first | apply Kd.R_alloc | apply Kd.R_drewN | apply Kd.R_drew)); exact HO_10.out))) (below_size (by repeat (first | (with_reducible first | exact HB.out | apply below_alloc | apply pw_below_drewN | apply below_drew1 | refine below_set ?_ GE266.out) | exact HB.out)))); have n2_ := Cz.bk BK266 hb; have n3_ := Cz.bs (w := w) hb; clear HO_10; clear BK266; clear HB; have HO_10 := n0_; have HO285 := n1_; have BK266 := n2_; have HB := n3_; clear n0_ n1_ n2_ n3_; (try clear hb); (try clear hb2); (try clear hk); (try clear hi); (try clear ho0)) | ((with_reducible refine gate_dst (N := 15) rfl ?_); (try (refine gate_guard (by rfl) ?_; dsimp only)); refine box_event ?hg (N := 15) ?hd (cs := #[.int .i64 0, .int .i64 0, .int .i64 0, .slice none 0 0, .int .i64 0, .int .i64 0, .int .i64 0]) (t := 38) ?hr ?_; (case hd => rfl); (case hg => rfl); (case hr => first | (go_simp; done) | (go_simp; rfl)); intro gb291 hg w50 hbox hb; have n0_ := Cz.rb HO_10 hb; have n1_ := Cz.rb HO285 hb; have n2_ := Cz.bk BK266 hb; have n3_ := Cz.bs (w := w) hb; have n4_ := Aside0.mk (hbox); have n5_ := Aside0.mk ((Cz.gs hg : w.heap.size ≤ gb291)); have n6_ := Aside0.mk ((Cz.gs hg : w.heap.size ≤ gb291)); have n7_ := Aside0.mk ((Cz.nl BK266 hg : gb266 ≠ gb291)); have n8_ := Aside0.mk ((Cz.nr BK266 hg : gb291 ≠ gb266)); clear HO_10; clear HO285; clear BK266; clear HB; have HO_10 := n0_; have HO285 := n1_; have BK266 := n2_; have HB := n3_; have BK291 := n4_; have GW291 := n5_; have GE291 := n6_; have NB266_291 := n7_; have NB291_266 := n8_; clear n0_ n1_ n2_ n3_ n4_ n5_ n6_ n7_ n8_; clear hb hbox hg; have hnb51 := NB291_266.out; have hnc51 := NB266_291.out; obtain ⟨hcz52_0, hcz52_1, hcz52_2, hcz52_3, hcz52_4, hcz52_5, hcz52_6, hfz52_0, hfz52_1, hfz52_2, hfz52_3, hfz52_4, hfz52_5, hfz52_6⟩ := Cz.d7 BK291; obtain ⟨Ao53, co53, eo53⟩ := Kd.R_slice HO285.out; subst eo53))
            go_ret
            exact ⟨by first | rfl | (exact congrArg (fun z_ => Ending.returned (Value.bool z_)) HRT.out) | (rw [HRT.out]; done) | (simp [errW_none, errW_some] <;> rfl) | (simp [*, errW_none, errW_some] <;> rfl), by repeat (first | (with_reducible first | exact HB.out | apply below_alloc | apply pw_below_drewN | apply below_drew1 | refine below_set ?_ GE266.out | refine below_set ?_ GE291.out) | exact HB.out)⟩
          ·rw [if_neg c40] at H
           first | exact absurd H (by simp; done) | skip
         ·replace c39 := Bool.eq_false_iff.mpr c39
          subst c39
          have H1 : (some false) = some true := by rw [if_neg (show ¬ (false = true) by decide)] at H <;> exact H
          exact absurd H1 (by simp)
    ·rw [if_neg c15] at H
     exact absurd H (by simp)
end Go.Proofs.Ytohkmmbmfhficaa.PU
