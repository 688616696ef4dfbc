/- Functions of the program as Lean functions, and that the Go code comes to just their answers: no condition but that the function says so. (Written by a program of this workplace over the kit's print, with contracts by hand.) -/
import Derived.Test.YtiaoehjldbnpkaaPBx0
import Derived.Test.YtiaoehjldbnpkaaPBx15
import Derived.Test.YtiaoehjldbnpkaaPBx19
namespace Go.Proofs.Ytiaoehjldbnpkaa.PB
open Go.RowKit Go.Proofs.YtiaoehjldbnpkaaW.PrintWords Go.Proofs.YtiaoehjldbnpkaaW.PrintLast Go.Proofs.YtiaoehjldbnpkaaW.PrintMore
attribute [local go_sem] max2_int min2_int max_two min_two max_three min_three max_four min_four   -- for this text's walks alone
set_option linter.unusedVariables false
set_option linter.unusedSimpArgs false

/-! ### waggonerlaw01_LeApart: function 12 -/
mutual
def waggonerlaw01_LeApart.j0 : Nat → Int → Int → Bool → List Int → List Int → Bool → Option (Bool)
  | 0, _, _, _, _, _, _ => none
  | k + 1, x0, x1, x5, x6, x8, x39 => if x39 = true then (some false) else (waggonerlaw01_LeApart.l0 k x0 x1 x5 x6 x8 7)
def waggonerlaw01_LeApart.l0 : Nat → Int → Int → Bool → List Int → List Int → Int → Option (Bool)
  | 0, _, _, _, _, _, _ => none
  | k + 1, x0, x1, x5, x6, x8, x10 => if x10 ≥ 0 then (if 0 ≤ x10 then (if x10 < (x6.length : Int) then (if x10 < (x8.length : Int) then (if (rd x6 x10) = (rd x8 x10) then (waggonerlaw01_LeApart.l0 k x0 x1 x5 x6 x8 (wrap64 (x10 - 1))) else (if x5 = true then (some ((decide ((rd x6 x10) > (rd x8 x10))) == (decide (x0 > x1)))) else (some false))) else (none)) else (none)) else (none)) else (if x5 = true then (some (x0 == x1)) else (some false))
end
def waggonerlaw01_LeApart.f (k : Nat) (a0 : Int) (a1 : Int) : Option (Bool) := (waggonerlaw01_awake.f).bind fun t223 => ((le_Pack.f (⟨#[113]⟩ : ByteArray) (([a0] : List Int))).bind fun bt227 => ((le_Pack.f (⟨#[113]⟩ : ByteArray) (([a1] : List Int))).bind fun bt234 => (if bt227.2 = 0 then (if bt234.2 = 0 then (if (bt227.1.length : Int) = 8 then (waggonerlaw01_LeApart.j0 k a0 a1 t223 bt227.1 bt234.1 ((bt234.1.length : Int) != 8)) else (waggonerlaw01_LeApart.j0 k a0 a1 t223 bt227.1 bt234.1 true)) else (waggonerlaw01_LeApart.j0 k a0 a1 t223 bt227.1 bt234.1 true)) else (waggonerlaw01_LeApart.j0 k a0 a1 t223 bt227.1 bt234.1 true))))
theorem waggonerlaw01_LeApart.mono_l : ∀ k, (∀ y0 y1 y2 y3 y4 y5, LeO (waggonerlaw01_LeApart.j0 k y0 y1 y2 y3 y4 y5) (waggonerlaw01_LeApart.j0 (k + 1) y0 y1 y2 y3 y4 y5)) ∧ (∀ y0 y1 y2 y3 y4 y5, LeO (waggonerlaw01_LeApart.l0 k y0 y1 y2 y3 y4 y5) (waggonerlaw01_LeApart.l0 (k + 1) y0 y1 y2 y3 y4 y5))
  | 0 => ⟨fun _ _ _ _ _ _ r h => by simp [waggonerlaw01_LeApart.j0] at h, fun _ _ _ _ _ _ r h => by simp [waggonerlaw01_LeApart.l0] at h⟩
  | k + 1 => by
    obtain ⟨ih0, ih1⟩ := waggonerlaw01_LeApart.mono_l k
    refine ⟨?_, ?_⟩
    · intro y0 y1 y2 y3 y4 y5
      unfold waggonerlaw01_LeApart.j0
      repeat' first
      | (with_reducible exact ih0 _ _ _ _ _ _)
      | (with_reducible exact ih1 _ _ _ _ _ _)
      | (with_reducible exact LeO.refl _)
      | (with_reducible exact LeO.none _)
      | (with_reducible refine LeO.ite ?_ ?_)
      | (with_reducible refine LeO.bind ?_ (fun _ => ?_))
      | exact ih0 _ _ _ _ _ _
      | exact ih1 _ _ _ _ _ _
      | exact LeO.none _
      | refine LeO.ite ?_ ?_
      | refine LeO.bind ?_ (fun _ => ?_)
    · intro y0 y1 y2 y3 y4 y5
      unfold waggonerlaw01_LeApart.l0
      repeat' first
      | (with_reducible exact ih0 _ _ _ _ _ _)
      | (with_reducible exact ih1 _ _ _ _ _ _)
      | (with_reducible exact LeO.refl _)
      | (with_reducible exact LeO.none _)
      | (with_reducible refine LeO.ite ?_ ?_)
      | (with_reducible refine LeO.bind ?_ (fun _ => ?_))
      | exact ih0 _ _ _ _ _ _
      | exact ih1 _ _ _ _ _ _
      | exact LeO.none _
      | refine LeO.ite ?_ ?_
      | refine LeO.bind ?_ (fun _ => ?_)
theorem waggonerlaw01_LeApart.mono : ∀ a0 a1 k, LeO (waggonerlaw01_LeApart.f k a0 a1) (waggonerlaw01_LeApart.f (k + 1) a0 a1) := by
  intro a0 a1 k
  obtain ⟨ih0, ih1⟩ := waggonerlaw01_LeApart.mono_l k
  unfold waggonerlaw01_LeApart.f
  repeat' first
      | (with_reducible exact ih0 _ _ _ _ _ _)
      | (with_reducible exact ih1 _ _ _ _ _ _)
      | (with_reducible exact LeO.refl _)
      | (with_reducible exact LeO.none _)
      | (with_reducible refine LeO.ite ?_ ?_)
      | (with_reducible refine LeO.bind ?_ (fun _ => ?_))
      | exact ih0 _ _ _ _ _ _
      | exact ih1 _ _ _ _ _ _
      | exact LeO.none _
      | refine LeO.ite ?_ ?_
      | refine LeO.bind ?_ (fun _ => ?_)
set_option maxHeartbeats 8000000 in
set_option maxRecDepth 100000 in
theorem waggonerlaw01_LeApart.calls (k : Nat) (a0 : Int) (a1 : Int) (r : Bool) (hT : r = true) (w : World) (h : waggonerlaw01_LeApart.f k a0 a1 = some r) :
    Calls Try.prog 12 #[.int .u64 a0, .int .u64 a1] w fun e w' => e = .returned (.bool r) ∧ Below w.heap.size w w' := by
  subst hT
  have HB := Aside0.mk (Below.refl w.heap.size w)
  have H : ((waggonerlaw01_awake.f).bind fun t223 => ((le_Pack.f (⟨#[113]⟩ : ByteArray) (([a0] : List Int))).bind fun bt227 => ((le_Pack.f (⟨#[113]⟩ : ByteArray) (([a1] : List Int))).bind fun bt234 => (if bt227.2 = 0 then (if bt234.2 = 0 then (if (bt227.1.length : Int) = 8 then (waggonerlaw01_LeApart.j0 k a0 a1 t223 bt227.1 bt234.1 ((bt234.1.length : Int) != 8)) else (waggonerlaw01_LeApart.j0 k a0 a1 t223 bt227.1 bt234.1 true)) else (waggonerlaw01_LeApart.j0 k a0 a1 t223 bt227.1 bt234.1 true)) else (waggonerlaw01_LeApart.j0 k a0 a1 t223 bt227.1 bt234.1 true))))) = some true := h
  clear h
  replace H := Option.bind_eq_some_iff.mp H
  obtain ⟨t223, A30, H⟩ := H
  replace H : ((le_Pack.f (⟨#[113]⟩ : ByteArray) (([a0] : List Int))).bind fun bt227 => ((le_Pack.f (⟨#[113]⟩ : ByteArray) (([a1] : List Int))).bind fun bt234 => (if bt227.2 = 0 then (if bt234.2 = 0 then (if (bt227.1.length : Int) = 8 then (waggonerlaw01_LeApart.j0 k a0 a1 t223 bt227.1 bt234.1 ((bt234.1.length : Int) != 8)) else (waggonerlaw01_LeApart.j0 k a0 a1 t223 bt227.1 bt234.1 true)) else (waggonerlaw01_LeApart.j0 k a0 a1 t223 bt227.1 bt234.1 true)) else (waggonerlaw01_LeApart.j0 k a0 a1 t223 bt227.1 bt234.1 true)))) = some true := H
  have A3 := Aside0.mk A30
  clear A30
  obtain ⟨y224, hy224⟩ : ∃ y_ : List Int, y_ = (([a0] : List Int)) := ⟨_, rfl⟩
  replace H : ((le_Pack.f (⟨#[113]⟩ : ByteArray) y224).bind fun bt227 => ((le_Pack.f (⟨#[113]⟩ : ByteArray) (([a1] : List Int))).bind fun bt234 => (if bt227.2 = 0 then (if bt234.2 = 0 then (if (bt227.1.length : Int) = 8 then (waggonerlaw01_LeApart.j0 k a0 a1 t223 bt227.1 bt234.1 ((bt234.1.length : Int) != 8)) else (waggonerlaw01_LeApart.j0 k a0 a1 t223 bt227.1 bt234.1 true)) else (waggonerlaw01_LeApart.j0 k a0 a1 t223 bt227.1 bt234.1 true)) else (waggonerlaw01_LeApart.j0 k a0 a1 t223 bt227.1 bt234.1 true)))) = some true := by first | (rw [hy224]; with_reducible exact H) | (have H2_ := (Option.bind_some _ _).symm.trans H; rw [hy224]; with_reducible exact H2_) | (have H2_ := (Option.bind_some _ _).symm.trans H; with_reducible exact H2_) | with_reducible exact H | (rw [hy224]; exact H) | exact H
  have Ny224 := Aside0.mk hy224
  clear hy224
  replace H := Option.bind_eq_some_iff.mp H
  obtain ⟨⟨t227, t228⟩, A40, H⟩ := H
  replace H : ((le_Pack.f (⟨#[113]⟩ : ByteArray) (([a1] : List Int))).bind fun bt234 => (if t228 = 0 then (if bt234.2 = 0 then (if (t227.length : Int) = 8 then (waggonerlaw01_LeApart.j0 k a0 a1 t223 t227 bt234.1 ((bt234.1.length : Int) != 8)) else (waggonerlaw01_LeApart.j0 k a0 a1 t223 t227 bt234.1 true)) else (waggonerlaw01_LeApart.j0 k a0 a1 t223 t227 bt234.1 true)) else (waggonerlaw01_LeApart.j0 k a0 a1 t223 t227 bt234.1 true))) = some true := H
  have A4 := Aside0.mk A40
  clear A40
  obtain ⟨y231, hy231⟩ : ∃ y_ : List Int, y_ = (([a1] : List Int)) := ⟨_, rfl⟩
  replace H : ((le_Pack.f (⟨#[113]⟩ : ByteArray) y231).bind fun bt234 => (if t228 = 0 then (if bt234.2 = 0 then (if (t227.length : Int) = 8 then (waggonerlaw01_LeApart.j0 k a0 a1 t223 t227 bt234.1 ((bt234.1.length : Int) != 8)) else (waggonerlaw01_LeApart.j0 k a0 a1 t223 t227 bt234.1 true)) else (waggonerlaw01_LeApart.j0 k a0 a1 t223 t227 bt234.1 true)) else (waggonerlaw01_LeApart.j0 k a0 a1 t223 t227 bt234.1 true))) = some true := by first | (rw [hy231]; with_reducible exact H) | (have H2_ := (Option.bind_some _ _).symm.trans H; rw [hy231]; with_reducible exact H2_) | (have H2_ := (Option.bind_some _ _).symm.trans H; with_reducible exact H2_) | with_reducible exact H | (rw [hy231]; exact H) | exact H
  have Ny231 := Aside0.mk hy231
  clear hy231
  replace H := Option.bind_eq_some_iff.mp H
  obtain ⟨⟨t234, t235⟩, A50, H⟩ := H
  replace H : (if t228 = 0 then (if t235 = 0 then (if (t227.length : Int) = 8 then (waggonerlaw01_LeApart.j0 k a0 a1 t223 t227 t234 ((t234.length : Int) != 8)) else (waggonerlaw01_LeApart.j0 k a0 a1 t223 t227 t234 true)) else (waggonerlaw01_LeApart.j0 k a0 a1 t223 t227 t234 true)) else (waggonerlaw01_LeApart.j0 k a0 a1 t223 t227 t234 true)) = some true := H
  have A5 := Aside0.mk A50
  clear A50
  have HC6 := Aside0.mk H
  clear H
  go_enter Try.func12, Try.ntmps12
  go_upto_region 4 with (first | (go_at_call 26; (with_reducible refine (waggonerlaw01_awake.calls  t223 _ A3.out).mono ?_); rintro e w7 ⟨rfl, hb⟩; have n0_ := Aside0.mk (below_step (by repeat (first | (with_reducible first | exact HB.out | apply below_alloc | apply pw_below_drewN | apply below_drew1) | exact HB.out)) hb); clear HB; have HB := n0_; clear n0_; (try clear hb); (try clear hb2); (try clear hk); (try clear hi)) | ((with_reducible refine gate_dst (N := 14) rfl ?_); (try (refine gate_guard (by rfl) ?_; dsimp only)); refine Kd.R_lit (Kd.int .u64) _ 39 ?hg (N := 14) ?hd (xs := ([a0] : List Int)) (inner := [.int .u64 a0]) (ok := fun _ => True) (okp := fun _ => True) ?hr ?hp (fun _ hk => hk) trivial (Below.refl _ _) (Nat.le_refl _) (by simp) ?_; (case hd => rfl); (case hg => rfl); (case hr => first | (go_simp; done) | (go_simp; rfl)); (case hp => exact (Reps.one (show Kd.M (Kd.int .u64) _ _ _ a0 [.int .u64 a0] from rfl) (Reps.none _ _))); intro v225 w8 ho9 hb hg_ hnew_; clear hg_ hnew_; (first | rw [← Ny224.out] at ho9 | (simp only [Int.reduceToNat] at ho9; rw [← Ny224.out] at ho9)); have n0_ := Aside0.mk (Kd.R_lower ho9 (below_size (by repeat (first | (with_reducible first | exact HB.out | apply below_alloc | apply pw_below_drewN | apply below_drew1) | exact HB.out)))); have n1_ := Aside0.mk (below_step (by repeat (first | (with_reducible first | exact HB.out | apply below_alloc | apply pw_below_drewN | apply below_drew1) | exact HB.out)) hb); clear HB; have HO226 := n0_; have HB := n1_; clear n0_ n1_; clear hb ho9; obtain ⟨Ao10, co10, eo10⟩ := Kd.R_slice HO226.out; subst eo10) | (go_at_call 31; (with_reducible refine (le_Pack.calls (⟨#[113]⟩ : ByteArray) _ _ y224 t227 t228 _ ?side1 ?side2 A4.out).mono ?_); (case side1 => repeat (first | exact (Kd.R_reads' HO226.out).2.2 | (with_reducible refine Kd.C_alloc ?_ _) | (with_reducible refine Kd.C_drewN ?_ _) | (with_reducible refine Kd.C_drew ?_))); (case side2 => exact (Kd.R_reads' HO226.out).2.1); rintro e w11 ⟨v229, rfl, ho0, hb⟩; have n0_ := Aside0.mk (Kd.R_below (by (with_reducible repeat (first | apply Kd.R_alloc | apply Kd.R_drewN | apply Kd.R_drew)); exact HO226.out) hb); have n1_ := Aside0.mk (Kd.R_lower ho0 (below_size (by repeat (first | (with_reducible first | exact HB.out | apply below_alloc | apply pw_below_drewN | apply below_drew1) | exact HB.out)))); have n2_ := Aside0.mk (below_step (by repeat (first | (with_reducible first | exact HB.out | apply below_alloc | apply pw_below_drewN | apply below_drew1) | exact HB.out)) hb); clear HO226; clear HB; have HO226 := n0_; have HO230 := n1_; have HB := n2_; clear n0_ n1_ n2_; (try clear hb); (try clear hb2); (try clear hk); (try clear hi); (try clear ho0)) | ((with_reducible refine gate_dst (N := 20) rfl ?_); (try (refine gate_guard (by rfl) ?_; dsimp only)); refine Kd.R_lit (Kd.int .u64) _ 39 ?hg (N := 20) ?hd (xs := ([a1] : List Int)) (inner := [.int .u64 a1]) (ok := fun _ => True) (okp := fun _ => True) ?hr ?hp (fun _ hk => hk) trivial (Below.refl _ _) (Nat.le_refl _) (by simp) ?_; (case hd => rfl); (case hg => rfl); (case hr => first | (go_simp; done) | (go_simp; rfl)); (case hp => exact (Reps.one (show Kd.M (Kd.int .u64) _ _ _ a1 [.int .u64 a1] from rfl) (Reps.none _ _))); intro v232 w12 ho13 hb hg_ hnew_; clear hg_ hnew_; (first | rw [← Ny231.out] at ho13 | (simp only [Int.reduceToNat] at ho13; rw [← Ny231.out] at ho13)); have n0_ := Aside0.mk (Kd.R_elder' (by (with_reducible repeat (first | apply Kd.R_alloc | apply Kd.R_drewN | apply Kd.R_drew)); exact HO226.out) (Kd.R_base ho13) hb); have n1_ := Aside0.mk (Kd.R_below (by (with_reducible repeat (first | apply Kd.R_alloc | apply Kd.R_drewN | apply Kd.R_drew)); exact HO230.out) hb); have n2_ := Aside0.mk (Kd.R_lower (Kd.R_new' ho13 (Kd.R_lt (by (with_reducible repeat (first | apply Kd.R_alloc | apply Kd.R_drewN | apply Kd.R_drew)); exact HO226.out))) (below_size (by repeat (first | (with_reducible first | exact HB.out | apply below_alloc | apply pw_below_drewN | apply below_drew1) | exact HB.out)))); have n3_ := Aside0.mk (below_step (by repeat (first | (with_reducible first | exact HB.out | apply below_alloc | apply pw_below_drewN | apply below_drew1) | exact HB.out)) hb); clear HO226; clear HO230; clear HB; have HO226 := n0_; have HO230 := n1_; have HO233 := n2_; have HB := n3_; clear n0_ n1_ n2_ n3_; clear hb ho13; obtain ⟨Ao14, co14, eo14⟩ := Kd.R_slice HO233.out; subst eo14) | (go_at_call 31; (with_reducible refine (le_Pack.calls (⟨#[113]⟩ : ByteArray) _ _ y231 t234 t235 _ ?side1 ?side2 A5.out).mono ?_); (case side1 => repeat (first | exact (Kd.R_reads' HO233.out).2.2 | (with_reducible refine Kd.C_alloc ?_ _) | (with_reducible refine Kd.C_drewN ?_ _) | (with_reducible refine Kd.C_drew ?_))); (case side2 => exact (Kd.R_reads' HO233.out).2.1); rintro e w15 ⟨v236, rfl, ho0, hb⟩; have n0_ := Aside0.mk (Kd.R_below (by (with_reducible repeat (first | apply Kd.R_alloc | apply Kd.R_drewN | apply Kd.R_drew)); exact HO226.out) hb); have n1_ := Aside0.mk (Kd.R_elder' (by (with_reducible repeat (first | apply Kd.R_alloc | apply Kd.R_drewN | apply Kd.R_drew)); exact HO230.out) (Kd.R_base ho0) hb); have n2_ := Aside0.mk (Kd.R_below (by (with_reducible repeat (first | apply Kd.R_alloc | apply Kd.R_drewN | apply Kd.R_drew)); exact HO233.out) hb); have n3_ := Aside0.mk (Kd.R_lower (Kd.R_new' ho0 (Kd.R_lt (by (with_reducible repeat (first | apply Kd.R_alloc | apply Kd.R_drewN | apply Kd.R_drew)); exact HO230.out))) (below_size (by repeat (first | (with_reducible first | exact HB.out | apply below_alloc | apply pw_below_drewN | apply below_drew1) | exact HB.out)))); have n4_ := Aside0.mk (below_step (by repeat (first | (with_reducible first | exact HB.out | apply below_alloc | apply pw_below_drewN | apply below_drew1) | exact HB.out)) hb); clear HO226; clear HO230; clear HO233; clear HB; have HO226 := n0_; have HO230 := n1_; have HO233 := n2_; have HO237 := n3_; have HB := n4_; clear n0_ n1_ n2_ n3_ n4_; (try clear hb); (try clear hb2); (try clear hk); (try clear hi); (try clear ho0)))
  repeat (go_quiet (first | (go_at_call 26; (with_reducible refine (waggonerlaw01_awake.calls  t223 _ A3.out).mono ?_); rintro e w7 ⟨rfl, hb⟩; have n0_ := Aside0.mk (below_step (by repeat (first | (with_reducible first | exact HB.out | apply below_alloc | apply pw_below_drewN | apply below_drew1) | exact HB.out)) hb); clear HB; have HB := n0_; clear n0_; (try clear hb); (try clear hb2); (try clear hk); (try clear hi)) | ((with_reducible refine gate_dst (N := 14) rfl ?_); (try (refine gate_guard (by rfl) ?_; dsimp only)); refine Kd.R_lit (Kd.int .u64) _ 39 ?hg (N := 14) ?hd (xs := ([a0] : List Int)) (inner := [.int .u64 a0]) (ok := fun _ => True) (okp := fun _ => True) ?hr ?hp (fun _ hk => hk) trivial (Below.refl _ _) (Nat.le_refl _) (by simp) ?_; (case hd => rfl); (case hg => rfl); (case hr => first | (go_simp; done) | (go_simp; rfl)); (case hp => exact (Reps.one (show Kd.M (Kd.int .u64) _ _ _ a0 [.int .u64 a0] from rfl) (Reps.none _ _))); intro v225 w8 ho9 hb hg_ hnew_; clear hg_ hnew_; (first | rw [← Ny224.out] at ho9 | (simp only [Int.reduceToNat] at ho9; rw [← Ny224.out] at ho9)); have n0_ := Aside0.mk (Kd.R_lower ho9 (below_size (by repeat (first | (with_reducible first | exact HB.out | apply below_alloc | apply pw_below_drewN | apply below_drew1) | exact HB.out)))); have n1_ := Aside0.mk (below_step (by repeat (first | (with_reducible first | exact HB.out | apply below_alloc | apply pw_below_drewN | apply below_drew1) | exact HB.out)) hb); clear HB; have HO226 := n0_; have HB := n1_; clear n0_ n1_; clear hb ho9; obtain ⟨Ao10, co10, eo10⟩ := Kd.R_slice HO226.out; subst eo10) | (go_at_call 31; (with_reducible refine (le_Pack.calls (⟨#[113]⟩ : ByteArray) _ _ y224 t227 t228 _ ?side1 ?side2 A4.out).mono ?_); (case side1 => repeat (first | exact (Kd.R_reads' HO226.out).2.2 | (with_reducible refine Kd.C_alloc ?_ _) | (with_reducible refine Kd.C_drewN ?_ _) | (with_reducible refine Kd.C_drew ?_))); (case side2 => exact (Kd.R_reads' HO226.out).2.1); rintro e w11 ⟨v229, rfl, ho0, hb⟩; have n0_ := Aside0.mk (Kd.R_below (by (with_reducible repeat (first | apply Kd.R_alloc | apply Kd.R_drewN | apply Kd.R_drew)); exact HO226.out) hb); have n1_ := Aside0.mk (Kd.R_lower ho0 (below_size (by repeat (first | (with_reducible first | exact HB.out | apply below_alloc | apply pw_below_drewN | apply below_drew1) | exact HB.out)))); have n2_ := Aside0.mk (below_step (by repeat (first | (with_reducible first | exact HB.out | apply below_alloc | apply pw_below_drewN | apply below_drew1) | exact HB.out)) hb); clear HO226; clear HB; have HO226 := n0_; have HO230 := n1_; have HB := n2_; clear n0_ n1_ n2_; (try clear hb); (try clear hb2); (try clear hk); (try clear hi); (try clear ho0)) | ((with_reducible refine gate_dst (N := 20) rfl ?_); (try (refine gate_guard (by rfl) ?_; dsimp only)); refine Kd.R_lit (Kd.int .u64) _ 39 ?hg (N := 20) ?hd (xs := ([a1] : List Int)) (inner := [.int .u64 a1]) (ok := fun _ => True) (okp := fun _ => True) ?hr ?hp (fun _ hk => hk) trivial (Below.refl _ _) (Nat.le_refl _) (by simp) ?_; (case hd => rfl); (case hg => rfl); (case hr => first | (go_simp; done) | (go_simp; rfl)); (case hp => exact (Reps.one (show Kd.M (Kd.int .u64) _ _ _ a1 [.int .u64 a1] from rfl) (Reps.none _ _))); intro v232 w12 ho13 hb hg_ hnew_; clear hg_ hnew_; (first | rw [← Ny231.out] at ho13 | (simp only [Int.reduceToNat] at ho13; rw [← Ny231.out] at ho13)); have n0_ := Aside0.mk (Kd.R_elder' (by (with_reducible repeat (first | apply Kd.R_alloc | apply Kd.R_drewN | apply Kd.R_drew)); exact HO226.out) (Kd.R_base ho13) hb); have n1_ := Aside0.mk (Kd.R_below (by (with_reducible repeat (first | apply Kd.R_alloc | apply Kd.R_drewN | apply Kd.R_drew)); exact HO230.out) hb); have n2_ := Aside0.mk (Kd.R_lower (Kd.R_new' ho13 (Kd.R_lt (by (with_reducible repeat (first | apply Kd.R_alloc | apply Kd.R_drewN | apply Kd.R_drew)); exact HO226.out))) (below_size (by repeat (first | (with_reducible first | exact HB.out | apply below_alloc | apply pw_below_drewN | apply below_drew1) | exact HB.out)))); have n3_ := Aside0.mk (below_step (by repeat (first | (with_reducible first | exact HB.out | apply below_alloc | apply pw_below_drewN | apply below_drew1) | exact HB.out)) hb); clear HO226; clear HO230; clear HB; have HO226 := n0_; have HO230 := n1_; have HO233 := n2_; have HB := n3_; clear n0_ n1_ n2_ n3_; clear hb ho13; obtain ⟨Ao14, co14, eo14⟩ := Kd.R_slice HO233.out; subst eo14) | (go_at_call 31; (with_reducible refine (le_Pack.calls (⟨#[113]⟩ : ByteArray) _ _ y231 t234 t235 _ ?side1 ?side2 A5.out).mono ?_); (case side1 => repeat (first | exact (Kd.R_reads' HO233.out).2.2 | (with_reducible refine Kd.C_alloc ?_ _) | (with_reducible refine Kd.C_drewN ?_ _) | (with_reducible refine Kd.C_drew ?_))); (case side2 => exact (Kd.R_reads' HO233.out).2.1); rintro e w15 ⟨v236, rfl, ho0, hb⟩; have n0_ := Aside0.mk (Kd.R_below (by (with_reducible repeat (first | apply Kd.R_alloc | apply Kd.R_drewN | apply Kd.R_drew)); exact HO226.out) hb); have n1_ := Aside0.mk (Kd.R_elder' (by (with_reducible repeat (first | apply Kd.R_alloc | apply Kd.R_drewN | apply Kd.R_drew)); exact HO230.out) (Kd.R_base ho0) hb); have n2_ := Aside0.mk (Kd.R_below (by (with_reducible repeat (first | apply Kd.R_alloc | apply Kd.R_drewN | apply Kd.R_drew)); exact HO233.out) hb); have n3_ := Aside0.mk (Kd.R_lower (Kd.R_new' ho0 (Kd.R_lt (by (with_reducible repeat (first | apply Kd.R_alloc | apply Kd.R_drewN | apply Kd.R_drew)); exact HO230.out))) (below_size (by repeat (first | (with_reducible first | exact HB.out | apply below_alloc | apply pw_below_drewN | apply below_drew1) | exact HB.out)))); have n4_ := Aside0.mk (below_step (by repeat (first | (with_reducible first | exact HB.out | apply below_alloc | apply pw_below_drewN | apply below_drew1) | exact HB.out)) hb); clear HO226; clear HO230; clear HO233; clear HB; have HO226 := n0_; have HO230 := n1_; have HO233 := n2_; have HO237 := n3_; have HB := n4_; clear n0_ n1_ n2_ n3_ n4_; (try clear hb); (try clear hb2); (try clear hk); (try clear hi); (try clear ho0))); go_upto_region 4 with (first | (go_at_call 26; (with_reducible refine (waggonerlaw01_awake.calls  t223 _ A3.out).mono ?_); rintro e w7 ⟨rfl, hb⟩; have n0_ := Aside0.mk (below_step (by repeat (first | (with_reducible first | exact HB.out | apply below_alloc | apply pw_below_drewN | apply below_drew1) | exact HB.out)) hb); clear HB; have HB := n0_; clear n0_; (try clear hb); (try clear hb2); (try clear hk); (try clear hi)) | ((with_reducible refine gate_dst (N := 14) rfl ?_); (try (refine gate_guard (by rfl) ?_; dsimp only)); refine Kd.R_lit (Kd.int .u64) _ 39 ?hg (N := 14) ?hd (xs := ([a0] : List Int)) (inner := [.int .u64 a0]) (ok := fun _ => True) (okp := fun _ => True) ?hr ?hp (fun _ hk => hk) trivial (Below.refl _ _) (Nat.le_refl _) (by simp) ?_; (case hd => rfl); (case hg => rfl); (case hr => first | (go_simp; done) | (go_simp; rfl)); (case hp => exact (Reps.one (show Kd.M (Kd.int .u64) _ _ _ a0 [.int .u64 a0] from rfl) (Reps.none _ _))); intro v225 w8 ho9 hb hg_ hnew_; clear hg_ hnew_; (first | rw [← Ny224.out] at ho9 | (simp only [Int.reduceToNat] at ho9; rw [← Ny224.out] at ho9)); have n0_ := Aside0.mk (Kd.R_lower ho9 (below_size (by repeat (first | (with_reducible first | exact HB.out | apply below_alloc | apply pw_below_drewN | apply below_drew1) | exact HB.out)))); have n1_ := Aside0.mk (below_step (by repeat (first | (with_reducible first | exact HB.out | apply below_alloc | apply pw_below_drewN | apply below_drew1) | exact HB.out)) hb); clear HB; have HO226 := n0_; have HB := n1_; clear n0_ n1_; clear hb ho9; obtain ⟨Ao10, co10, eo10⟩ := Kd.R_slice HO226.out; subst eo10) | (go_at_call 31; (with_reducible refine (le_Pack.calls (⟨#[113]⟩ : ByteArray) _ _ y224 t227 t228 _ ?side1 ?side2 A4.out).mono ?_); (case side1 => repeat (first | exact (Kd.R_reads' HO226.out).2.2 | (with_reducible refine Kd.C_alloc ?_ _) | (with_reducible refine Kd.C_drewN ?_ _) | (with_reducible refine Kd.C_drew ?_))); (case side2 => exact (Kd.R_reads' HO226.out).2.1); rintro e w11 ⟨v229, rfl, ho0, hb⟩; have n0_ := Aside0.mk (Kd.R_below (by (with_reducible repeat (first | apply Kd.R_alloc | apply Kd.R_drewN | apply Kd.R_drew)); exact HO226.out) hb); have n1_ := Aside0.mk (Kd.R_lower ho0 (below_size (by repeat (first | (with_reducible first | exact HB.out | apply below_alloc | apply pw_below_drewN | apply below_drew1) | exact HB.out)))); have n2_ := Aside0.mk (below_step (by repeat (first | (with_reducible first | exact HB.out | apply below_alloc | apply pw_below_drewN | apply below_drew1) | exact HB.out)) hb); clear HO226; clear HB; have HO226 := n0_; have HO230 := n1_; have HB := n2_; clear n0_ n1_ n2_; (try clear hb); (try clear hb2); (try clear hk); (try clear hi); (try clear ho0)) | ((with_reducible refine gate_dst (N := 20) rfl ?_); (try (refine gate_guard (by rfl) ?_; dsimp only)); refine Kd.R_lit (Kd.int .u64) _ 39 ?hg (N := 20) ?hd (xs := ([a1] : List Int)) (inner := [.int .u64 a1]) (ok := fun _ => True) (okp := fun _ => True) ?hr ?hp (fun _ hk => hk) trivial (Below.refl _ _) (Nat.le_refl _) (by simp) ?_; (case hd => rfl); (case hg => rfl); (case hr => first | (go_simp; done) | (go_simp; rfl)); (case hp => exact (Reps.one (show Kd.M (Kd.int .u64) _ _ _ a1 [.int .u64 a1] from rfl) (Reps.none _ _))); intro v232 w12 ho13 hb hg_ hnew_; clear hg_ hnew_; (first | rw [← Ny231.out] at ho13 | (simp only [Int.reduceToNat] at ho13; rw [← Ny231.out] at ho13)); have n0_ := Aside0.mk (Kd.R_elder' (by (with_reducible repeat (first | apply Kd.R_alloc | apply Kd.R_drewN | apply Kd.R_drew)); exact HO226.out) (Kd.R_base ho13) hb); have n1_ := Aside0.mk (Kd.R_below (by (with_reducible repeat (first | apply Kd.R_alloc | apply Kd.R_drewN | apply Kd.R_drew)); exact HO230.out) hb); have n2_ := Aside0.mk (Kd.R_lower (Kd.R_new' ho13 (Kd.R_lt (by (with_reducible repeat (first | apply Kd.R_alloc | apply Kd.R_drewN | apply Kd.R_drew)); exact HO226.out))) (below_size (by repeat (first | (with_reducible first | exact HB.out | apply below_alloc | apply pw_below_drewN | apply below_drew1) | exact HB.out)))); have n3_ := Aside0.mk (below_step (by repeat (first | (with_reducible first | exact HB.out | apply below_alloc | apply pw_below_drewN | apply below_drew1) | exact HB.out)) hb); clear HO226; clear HO230; clear HB; have HO226 := n0_; have HO230 := n1_; have HO233 := n2_; have HB := n3_; clear n0_ n1_ n2_ n3_; clear hb ho13; obtain ⟨Ao14, co14, eo14⟩ := Kd.R_slice HO233.out; subst eo14) | (go_at_call 31; (with_reducible refine (le_Pack.calls (⟨#[113]⟩ : ByteArray) _ _ y231 t234 t235 _ ?side1 ?side2 A5.out).mono ?_); (case side1 => repeat (first | exact (Kd.R_reads' HO233.out).2.2 | (with_reducible refine Kd.C_alloc ?_ _) | (with_reducible refine Kd.C_drewN ?_ _) | (with_reducible refine Kd.C_drew ?_))); (case side2 => exact (Kd.R_reads' HO233.out).2.1); rintro e w15 ⟨v236, rfl, ho0, hb⟩; have n0_ := Aside0.mk (Kd.R_below (by (with_reducible repeat (first | apply Kd.R_alloc | apply Kd.R_drewN | apply Kd.R_drew)); exact HO226.out) hb); have n1_ := Aside0.mk (Kd.R_elder' (by (with_reducible repeat (first | apply Kd.R_alloc | apply Kd.R_drewN | apply Kd.R_drew)); exact HO230.out) (Kd.R_base ho0) hb); have n2_ := Aside0.mk (Kd.R_below (by (with_reducible repeat (first | apply Kd.R_alloc | apply Kd.R_drewN | apply Kd.R_drew)); exact HO233.out) hb); have n3_ := Aside0.mk (Kd.R_lower (Kd.R_new' ho0 (Kd.R_lt (by (with_reducible repeat (first | apply Kd.R_alloc | apply Kd.R_drewN | apply Kd.R_drew)); exact HO230.out))) (below_size (by repeat (first | (with_reducible first | exact HB.out | apply below_alloc | apply pw_below_drewN | apply below_drew1) | exact HB.out)))); have n4_ := Aside0.mk (below_step (by repeat (first | (with_reducible first | exact HB.out | apply below_alloc | apply pw_below_drewN | apply below_drew1) | exact HB.out)) hb); clear HO226; clear HO230; clear HO233; clear HB; have HO226 := n0_; have HO230 := n1_; have HO233 := n2_; have HO237 := n3_; have HB := n4_; clear n0_ n1_ n2_ n3_ n4_; (try clear hb); (try clear hb2); (try clear hk); (try clear hi); (try clear ho0))))
  (try simp only [Act.put, List.setIfInBounds_toArray, List.set_cons_zero, List.set_cons_succ])
  go_cut [39] (fun v39 wc => ∃ (kq : Nat) (x39_5 : Bool), v39 = .bool x39_5 ∧ Aside0 (waggonerlaw01_LeApart.j0 kq a0 a1 t223 t227 t234 x39_5 = some true) ∧ Aside0 (kq ≤ k) ∧ Aside0 (Kd.R (Kd.int .u8) 5 wc w.heap.size (fun k_ => some k_ ≠ (v236 : Value).ownBlock) v229 t227) ∧ Aside0 (Kd.R (Kd.int .u8) 5 wc w.heap.size (fun k_ => some k_ ≠ (v229 : Value).ownBlock) v236 t234) ∧ Aside0 (Below w.heap.size w wc))
  case first =>
    have H := HC6.out
    clear HC6
    by_cases c16 : t228 = 0
    · rw [if_pos c16] at H
      have c16b0 : (t228 == 0) = true := beq_iff_eq.mpr c16
      have c16b1 : (t228 != 0) = false := bne_eq_false_iff_eq.mpr c16
      clear c16
      (first | rw [c16b0] | (simp only [i64_w, i32_w]; rw [c16b0]) | skip)
      by_cases c17 : t235 = 0
      · rw [if_pos c17] at H
        have c17b0 : (t235 == 0) = true := beq_iff_eq.mpr c17
        have c17b1 : (t235 != 0) = false := bne_eq_false_iff_eq.mpr c17
        clear c17
        by_cases c18 : (t227.length : Int) = 8
        · rw [if_pos c18] at H
          have c18b0 : ((t227.length : Int) == 8) = true := beq_iff_eq.mpr c18
          have c18b1 : ((t227.length : Int) != 8) = false := bne_eq_false_iff_eq.mpr c18
          clear c18
          have H' := Aside0.mk H
          clear H
          obtain ⟨Ao19, co19, eo19⟩ := Kd.R_slice HO230.out
          subst eo19
          obtain ⟨Ao20, co20, eo20⟩ := Kd.R_slice HO237.out
          subst eo20
          go_wp2
          repeat (go_quiet (fail); try go_wp2)
          go_meet
          case rel => exact ⟨_, (((t234.length : Int) != 8)), (by first | rfl | (simp; done) | (simp [*]; done)), H', ⟨by first | omega | exact Nat.le_refl _⟩, ⟨by (with_reducible repeat (first | apply Kd.R_alloc | apply Kd.R_drewN | apply Kd.R_drew)); exact Kd.R_mono HO230.out (fun _ hk => hk.2)⟩, ⟨by (with_reducible repeat (first | apply Kd.R_alloc | apply Kd.R_drewN | apply Kd.R_drew)); exact Kd.R_mono HO237.out (fun _ hk => hk.2)⟩, ⟨by repeat (first | (with_reducible first | exact HB.out | apply below_alloc | apply pw_below_drewN | apply below_drew1) | exact HB.out)⟩⟩
        · rw [if_neg c18] at H
          have c18b0 : ((t227.length : Int) == 8) = false := beq_eq_false_iff_ne.mpr c18
          have c18b1 : ((t227.length : Int) != 8) = true := bne_iff_ne.mpr c18
          have H' := Aside0.mk H
          clear H
          obtain ⟨Ao21, co21, eo21⟩ := Kd.R_slice HO230.out
          subst eo21
          go_wp2
          repeat (go_quiet (fail); try go_wp2)
          go_meet
          case rel => exact ⟨_, (true), (by first | rfl | (simp; done) | (simp [*]; done)), H', ⟨by first | omega | exact Nat.le_refl _⟩, ⟨by (with_reducible repeat (first | apply Kd.R_alloc | apply Kd.R_drewN | apply Kd.R_drew)); exact Kd.R_mono HO230.out (fun _ hk => hk.2)⟩, ⟨by (with_reducible repeat (first | apply Kd.R_alloc | apply Kd.R_drewN | apply Kd.R_drew)); exact Kd.R_mono HO237.out (fun _ hk => hk.2)⟩, ⟨by repeat (first | (with_reducible first | exact HB.out | apply below_alloc | apply pw_below_drewN | apply below_drew1) | exact HB.out)⟩⟩
      · rw [if_neg c17] at H
        have c17b0 : (t235 == 0) = false := beq_eq_false_iff_ne.mpr c17
        have c17b1 : (t235 != 0) = true := bne_iff_ne.mpr c17
        have H' := Aside0.mk H
        clear H
        go_wp2
        repeat (go_quiet (fail); try go_wp2)
        go_meet
        case rel => exact ⟨_, (true), (by first | rfl | (simp; done) | (simp [*]; done)), H', ⟨by first | omega | exact Nat.le_refl _⟩, ⟨by (with_reducible repeat (first | apply Kd.R_alloc | apply Kd.R_drewN | apply Kd.R_drew)); exact Kd.R_mono HO230.out (fun _ hk => hk.2)⟩, ⟨by (with_reducible repeat (first | apply Kd.R_alloc | apply Kd.R_drewN | apply Kd.R_drew)); exact Kd.R_mono HO237.out (fun _ hk => hk.2)⟩, ⟨by repeat (first | (with_reducible first | exact HB.out | apply below_alloc | apply pw_below_drewN | apply below_drew1) | exact HB.out)⟩⟩
    · rw [if_neg c16] at H
      have c16b0 : (t228 == 0) = false := beq_eq_false_iff_ne.mpr c16
      have c16b1 : (t228 != 0) = true := bne_iff_ne.mpr c16
      (first | rw [c16b0] | (simp only [i64_w, i32_w]; rw [c16b0]) | skip)
      have H' := Aside0.mk H
      clear H
      go_wp2
      repeat (go_quiet (fail); try go_wp2)
      go_meet
      case rel => exact ⟨_, (true), (by first | rfl | (simp; done) | (simp [*]; done)), H', ⟨by first | omega | exact Nat.le_refl _⟩, ⟨by (with_reducible repeat (first | apply Kd.R_alloc | apply Kd.R_drewN | apply Kd.R_drew)); exact Kd.R_mono HO230.out (fun _ hk => hk.2)⟩, ⟨by (with_reducible repeat (first | apply Kd.R_alloc | apply Kd.R_drewN | apply Kd.R_drew)); exact Kd.R_mono HO237.out (fun _ hk => hk.2)⟩, ⟨by repeat (first | (with_reducible first | exact HB.out | apply below_alloc | apply pw_below_drewN | apply below_drew1) | exact HB.out)⟩⟩
  case rest =>
    clear HC6
    try clear c1
    try clear p2
    try clear c12
    try clear c16
    try clear c16b0
    try clear c16b1
    try clear c17
    try clear c17b0
    try clear c17b1
    try clear c18
    try clear c18b0
    try clear c18b1
    obtain ⟨kq, x39_5, rfl, HA, HJ5, HO_6, HO_8, HB⟩ := hcut
    cases kq with
    | zero => exact absurd HA.out (by simp [waggonerlaw01_LeApart.j0])
    | succ kj5 =>
      have H := HA.out
      clear HA
      simp only [waggonerlaw01_LeApart.j0] at H
      by_cases c22 : x39_5 = true
      · subst c22
        have H1 : (some false) = some true := by rw [if_pos rfl] at H; exact H
        clear H
        have H := H1
        clear H1
        (have HRT := Aside0.mk (Option.some.inj H); clear H)
        go_wp2
        repeat (go_quiet (fail); try go_wp2)
        go_ret
        exact ⟨by first | rfl | (exact congrArg (fun z_ => Ending.returned (Value.bool z_)) HRT.out) | (rw [HRT.out]; done) | (simp [errW_none, errW_some] <;> rfl) | (simp [*, errW_none, errW_some] <;> rfl), by repeat (first | (with_reducible first | exact HB.out | apply below_alloc | apply pw_below_drewN | apply below_drew1) | exact HB.out)⟩
      · replace c22 := Bool.eq_false_iff.mpr c22
        subst c22
        have H1 : (waggonerlaw01_LeApart.l0 kj5 a0 a1 t223 t227 t234 7) = some true := by rw [if_neg (show ¬ (false = true) by decide)] at H; exact H
        clear H
        have H := H1
        clear H1
        have H' := Aside0.mk H
        clear H
        go_wp2
        repeat (go_quiet (fail); try go_wp2)
        go_loopg [10] kj5 (fun kq v10 w' => ∃ (x10_2 : Int), v10 = .int .i64 x10_2 ∧ Aside0 (waggonerlaw01_LeApart.l0 kq a0 a1 t223 t227 t234 x10_2 = some true) ∧ Aside0 (kq ≤ kj5) ∧ Aside0 (Kd.R (Kd.int .u8) 5 w' w.heap.size (fun k_ => some k_ ≠ (v236 : Value).ownBlock) v229 t227) ∧ Aside0 (Kd.R (Kd.int .u8) 5 w' w.heap.size (fun k_ => some k_ ≠ (v229 : Value).ownBlock) v236 t234) ∧ Aside0 (Below w.heap.size w w'))
        case atStart => exact ⟨(7), (by first | rfl | (simp; done) | (simp [*]; done)), H', ⟨Nat.le_refl _⟩, ⟨by (with_reducible repeat (first | apply Kd.R_alloc | apply Kd.R_drewN | apply Kd.R_drew)); exact HO_6.out⟩, ⟨by (with_reducible repeat (first | apply Kd.R_alloc | apply Kd.R_drewN | apply Kd.R_drew)); exact HO_8.out⟩, ⟨by repeat (first | (with_reducible first | exact HB.out | apply below_alloc | apply pw_below_drewN | apply below_drew1) | exact HB.out)⟩⟩
        case round =>
          clear H'
          try clear c1
          try clear c2
          try clear p2
          try clear c12
          try clear c16
          try clear c16b0
          try clear c16b1
          try clear c17
          try clear c17b0
          try clear c17b1
          try clear c18
          try clear c18b0
          try clear c18b1
          try clear c22
          try clear p2
          obtain ⟨x10_2, rfl, HA, HK2, HO_6, HO_8, HB⟩ := hrel
          cases gk with
          | zero => exact absurd HA.out (by simp [waggonerlaw01_LeApart.l0])
          | succ k2 =>
            have H := HA.out
            clear HA
            simp only [waggonerlaw01_LeApart.l0] at H
            by_cases c23 : x10_2 ≥ 0
            · rw [if_pos c23] at H
              have c23b0 : decide (0 ≤ x10_2) = true := decide_eq_true c23
              clear c23
              by_cases c24 : 0 ≤ x10_2
              · rw [if_pos c24] at H
                have c24b0 : decide (0 ≤ x10_2) = true := decide_eq_true c24
                clear c24
                by_cases c25 : x10_2 < (t227.length : Int)
                · rw [if_pos c25] at H
                  have c25b0 : decide (x10_2 < (t227.length : Int)) = true := decide_eq_true c25
                  clear c25
                  by_cases c26 : x10_2 < (t234.length : Int)
                  · rw [if_pos c26] at H
                    have c26b0 : decide (x10_2 < (t234.length : Int)) = true := decide_eq_true c26
                    clear c26
                    by_cases c27 : (rd t227 x10_2) = (rd t234 x10_2)
                    · rw [if_pos c27] at H
                      have c27b0 : ((rd t227 x10_2) == (rd t234 x10_2)) = true := beq_iff_eq.mpr c27
                      have c27b1 : ((rd t227 x10_2) != (rd t234 x10_2)) = false := bne_eq_false_iff_eq.mpr c27
                      clear c27
                      have H' := Aside0.mk H
                      clear H
                      obtain ⟨Ao28, co28, eo28⟩ := Kd.R_slice HO_6.out
                      subst eo28
                      have p238 : 0 ≤ (x10_2 : Int) := of_decide_eq_true (by first | (with_reducible assumption) | assumption)
                      have q238 : x10_2 < (t227.length : Int) := of_decide_eq_true (by first | (with_reducible assumption) | assumption)
                      obtain ⟨ad238, e238, hx238_0⟩ := Kd.at_int (Kd.R_reads' HO_6.out).2.2 x10_2 p238 q238
                      cases e238
                      replace p238 := eq_true p238
                      replace q238 := eq_true q238
                      obtain ⟨Ao29, co29, eo29⟩ := Kd.R_slice HO_8.out
                      subst eo29
                      have p239 : 0 ≤ (x10_2 : Int) := of_decide_eq_true (by first | (with_reducible assumption) | assumption)
                      have q239 : x10_2 < (t234.length : Int) := of_decide_eq_true (by first | (with_reducible assumption) | assumption)
                      obtain ⟨ad239, e239, hx239_0⟩ := Kd.at_int (Kd.R_reads' HO_8.out).2.2 x10_2 p239 q239
                      cases e239
                      replace p239 := eq_true p239
                      replace q239 := eq_true q239
                      go_wp2
                      repeat (go_quiet (fail); try go_wp2)
                      go_roundg k2
                      case measure => have := HJ5.out; have := HK2.out; omega
                      case rel => exact ⟨(wrap64 (x10_2 - 1)), (by first | rfl | (simp; done) | (simp [*]; done)), H', ⟨by have := HJ5.out; have := HK2.out; omega⟩, ⟨by (with_reducible repeat (first | apply Kd.R_alloc | apply Kd.R_drewN | apply Kd.R_drew)); exact HO_6.out⟩, ⟨by (with_reducible repeat (first | apply Kd.R_alloc | apply Kd.R_drewN | apply Kd.R_drew)); exact HO_8.out⟩, ⟨by repeat (first | (with_reducible first | exact HB.out | apply below_alloc | apply pw_below_drewN | apply below_drew1) | exact HB.out)⟩⟩
                    · rw [if_neg c27] at H
                      have c27b0 : ((rd t227 x10_2) == (rd t234 x10_2)) = false := beq_eq_false_iff_ne.mpr c27
                      have c27b1 : ((rd t227 x10_2) != (rd t234 x10_2)) = true := bne_iff_ne.mpr c27
                      by_cases c30 : t223 = true
                      · subst c30
                        have H1 : (some ((decide ((rd t227 x10_2) > (rd t234 x10_2))) == (decide (a0 > a1)))) = some true := by rw [if_pos rfl] at H; exact H
                        clear H
                        have H := H1
                        clear H1
                        (have HRT := Aside0.mk (Option.some.inj H); clear H)
                        obtain ⟨Ao31, co31, eo31⟩ := Kd.R_slice HO_6.out
                        subst eo31
                        have p238 : 0 ≤ (x10_2 : Int) := of_decide_eq_true (by first | (with_reducible assumption) | assumption)
                        have q238 : x10_2 < (t227.length : Int) := of_decide_eq_true (by first | (with_reducible assumption) | assumption)
                        obtain ⟨ad238, e238, hx238_0⟩ := Kd.at_int (Kd.R_reads' HO_6.out).2.2 x10_2 p238 q238
                        cases e238
                        replace p238 := eq_true p238
                        replace q238 := eq_true q238
                        obtain ⟨Ao32, co32, eo32⟩ := Kd.R_slice HO_8.out
                        subst eo32
                        have p239 : 0 ≤ (x10_2 : Int) := of_decide_eq_true (by first | (with_reducible assumption) | assumption)
                        have q239 : x10_2 < (t234.length : Int) := of_decide_eq_true (by first | (with_reducible assumption) | assumption)
                        obtain ⟨ad239, e239, hx239_0⟩ := Kd.at_int (Kd.R_reads' HO_8.out).2.2 x10_2 p239 q239
                        cases e239
                        replace p239 := eq_true p239
                        replace q239 := eq_true q239
                        have p240 : 0 ≤ (x10_2 : Int) := of_decide_eq_true (by first | (with_reducible assumption) | assumption)
                        have q240 : x10_2 < (t227.length : Int) := of_decide_eq_true (by first | (with_reducible assumption) | assumption)
                        obtain ⟨ad240, e240, hx240_0⟩ := Kd.at_int (Kd.R_reads' HO_6.out).2.2 x10_2 p240 q240
                        obtain rfl : ad238 = ad240 := (by injection e240)
                        replace p240 := eq_true p240
                        replace q240 := eq_true q240
                        have p241 : 0 ≤ (x10_2 : Int) := of_decide_eq_true (by first | (with_reducible assumption) | assumption)
                        have q241 : x10_2 < (t234.length : Int) := of_decide_eq_true (by first | (with_reducible assumption) | assumption)
                        obtain ⟨ad241, e241, hx241_0⟩ := Kd.at_int (Kd.R_reads' HO_8.out).2.2 x10_2 p241 q241
                        obtain rfl : ad239 = ad241 := (by injection e241)
                        replace p241 := eq_true p241
                        replace q241 := eq_true q241
                        go_wp2
                        repeat (go_quiet (fail); try go_wp2)
                        go_ret
                        exact ⟨by first | rfl | (exact congrArg (fun z_ => Ending.returned (Value.bool z_)) HRT.out) | (rw [HRT.out]; done) | (simp [errW_none, errW_some] <;> rfl) | (simp [*, errW_none, errW_some] <;> rfl), by repeat (first | (with_reducible first | exact HB.out | apply below_alloc | apply pw_below_drewN | apply below_drew1) | exact HB.out)⟩
                      · replace c30 := Bool.eq_false_iff.mpr c30
                        subst c30
                        have H1 : (some false) = some true := by rw [if_neg (show ¬ (false = true) by decide)] at H; exact H
                        clear H
                        have H := H1
                        clear H1
                        (have HRT := Aside0.mk (Option.some.inj H); clear H)
                        obtain ⟨Ao33, co33, eo33⟩ := Kd.R_slice HO_6.out
                        subst eo33
                        have p238 : 0 ≤ (x10_2 : Int) := of_decide_eq_true (by first | (with_reducible assumption) | assumption)
                        have q238 : x10_2 < (t227.length : Int) := of_decide_eq_true (by first | (with_reducible assumption) | assumption)
                        obtain ⟨ad238, e238, hx238_0⟩ := Kd.at_int (Kd.R_reads' HO_6.out).2.2 x10_2 p238 q238
                        cases e238
                        replace p238 := eq_true p238
                        replace q238 := eq_true q238
                        obtain ⟨Ao34, co34, eo34⟩ := Kd.R_slice HO_8.out
                        subst eo34
                        have p239 : 0 ≤ (x10_2 : Int) := of_decide_eq_true (by first | (with_reducible assumption) | assumption)
                        have q239 : x10_2 < (t234.length : Int) := of_decide_eq_true (by first | (with_reducible assumption) | assumption)
                        obtain ⟨ad239, e239, hx239_0⟩ := Kd.at_int (Kd.R_reads' HO_8.out).2.2 x10_2 p239 q239
                        cases e239
                        replace p239 := eq_true p239
                        replace q239 := eq_true q239
                        go_wp2
                        repeat (go_quiet (fail); try go_wp2)
                        go_ret
                        exact ⟨by first | rfl | (exact congrArg (fun z_ => Ending.returned (Value.bool z_)) HRT.out) | (rw [HRT.out]; done) | (simp [errW_none, errW_some] <;> rfl) | (simp [*, errW_none, errW_some] <;> rfl), by repeat (first | (with_reducible first | exact HB.out | apply below_alloc | apply pw_below_drewN | apply below_drew1) | exact HB.out)⟩
                  · rw [if_neg c26] at H
                    exact absurd H (by simp)
                · rw [if_neg c25] at H
                  exact absurd H (by simp)
              · rw [if_neg c24] at H
                exact absurd H (by simp)
            · rw [if_neg c23] at H
              have c23b0 : decide (0 ≤ x10_2) = false := decide_eq_false c23
              clear c23
              by_cases c35 : t223 = true
              · subst c35
                have H1 : (some (a0 == a1)) = some true := by rw [if_pos rfl] at H; exact H
                clear H
                have H := H1
                clear H1
                (have HRT := Aside0.mk (Option.some.inj H); clear H)
                go_wp2
                repeat (go_quiet (fail); try go_wp2)
                go_ret
                exact ⟨by first | rfl | (exact congrArg (fun z_ => Ending.returned (Value.bool z_)) HRT.out) | (rw [HRT.out]; done) | (simp [errW_none, errW_some] <;> rfl) | (simp [*, errW_none, errW_some] <;> rfl), by repeat (first | (with_reducible first | exact HB.out | apply below_alloc | apply pw_below_drewN | apply below_drew1) | exact HB.out)⟩
              · replace c35 := Bool.eq_false_iff.mpr c35
                subst c35
                have H1 : (some false) = some true := by rw [if_neg (show ¬ (false = true) by decide)] at H; exact H
                exact absurd H1 (by simp)

/-- THE ONE PURE STATEMENT of waggonerlaw01_LeApart: yours. -/
def waggonerlaw01_LeApart.Pure : Prop := ∀ (a0 : Int) (a1 : Int), (Lit.int .u64 a0).wf = true → (Lit.int .u64 a1).wf = true → ∃ k, waggonerlaw01_LeApart.f k a0 a1 = some true
theorem waggonerlaw01_LeApart.walk (P : waggonerlaw01_LeApart.Pure) (a0 : Int) (a1 : Int) (w : World) (w0 : (Lit.int .u64 a0).wf = true) (w1 : (Lit.int .u64 a1).wf = true) :
    Calls Try.prog 12 #[.int .u64 a0, .int .u64 a1] w fun e w' => e = .returned (.bool true) ∧ Below w.heap.size w w' := by
  obtain ⟨k, h⟩ := P a0 a1 w0 w1
  refine (waggonerlaw01_LeApart.calls k a0 a1 true rfl w h).mono ?_
  rintro e w' ⟨rfl, hd⟩
  exact ⟨rfl, hd⟩

end Go.Proofs.Ytiaoehjldbnpkaa.PB
