/- Functions of the program as Lean functions, and that the Go code comes to just their answers: no condition but that the function says so. (Written by a program of this workplace over the kit's print, with contracts by hand.) -/
import Derived.Test.YtcemlfkboifncaaCz
import Derived.Test.YtcemlfkboifncaaPGx14
import Derived.Test.YtcemlfkboifncaaPGx43
namespace Go.Proofs.Ytcemlfkboifncaa.PG
open Go.Proofs.Ytcemlfkboifncaa Go.RowKit Go.Proofs.YtcemlfkboifncaaW.PrintWords Go.Proofs.YtcemlfkboifncaaW.PrintLast Go.Proofs.YtcemlfkboifncaaW.PrintMore
attribute [local go_sem] max2_int min2_int max_two min_two max_three min_three max_four min_four   -- for this text's walks alone
set_option linter.unusedVariables false
set_option linter.unusedSimpArgs false

/-! ### waggonerref01_Pack_p: function 52 -/
def waggonerref01_Pack_p.l0 : Nat → ByteArray → List Int → List Int → Int → Option (List Int × Int)
 | 0, _, _, _, _ => none
 | k + 1, x0, x1, x6, x7 => if x7 < (x0.size : Int) then (if 0 ≤ x7 then (if x7 < (x1.length : Int) then ((waggonerref01_size.f (bt x0 x7)).bind fun t247 => ((waggonerref01_Put.f x6 (rd x1 x7) t247).bind fun bt248 => (if bt248.2 = 0 then (waggonerref01_Pack_p.l0 k x0 x1 bt248.1 (wrap64 (x7 + 1))) else (some (([] : List Int), 10))))) else (none)) else (none)) else (some (x6, 0))
def waggonerref01_Pack_p.f (k : Nat) (a0 : ByteArray) (l1 : List Int) : Option (List Int × Int) := if (a0.size : Int) = (l1.length : Int) then (waggonerref01_Pack_p.l0 k a0 l1 ([] : List Int) 0) else (some (([] : List Int), 10))
theorem waggonerref01_Pack_p.mono_l : ∀ k, (∀ y0 y1 y2 y3, LeO (waggonerref01_Pack_p.l0 k y0 y1 y2 y3) (waggonerref01_Pack_p.l0 (k + 1) y0 y1 y2 y3))
 | 0 => fun _ _ _ _ r h => by simp [waggonerref01_Pack_p.l0] at h
 | k + 1 => by
  have ih0 := waggonerref01_Pack_p.mono_l k
  ·intro y0 y1 y2 y3
   unfold waggonerref01_Pack_p.l0
   repeat' first
   | (with_reducible exact ih0 _ _ _ _)
   | (with_reducible exact LeO.refl _)
   | (with_reducible exact LeO.none _)
   | (with_reducible refine LeO.ite ?_ ?_)
   | (with_reducible refine LeO.bind ?_ (fun _ => ?_))
   | exact ih0 _ _ _ _
   | exact LeO.none _
   | refine LeO.ite ?_ ?_
   | refine LeO.bind ?_ (fun _ => ?_)
theorem waggonerref01_Pack_p.mono : ∀ a0 a1 k, LeO (waggonerref01_Pack_p.f k a0 a1) (waggonerref01_Pack_p.f (k + 1) a0 a1) := by
 intro a0 a1 k
 have ih0 := waggonerref01_Pack_p.mono_l k
 unfold waggonerref01_Pack_p.f
 repeat' first
   | (with_reducible exact ih0 _ _ _ _)
   | (with_reducible exact LeO.refl _)
   | (with_reducible exact LeO.none _)
   | (with_reducible refine LeO.ite ?_ ?_)
   | (with_reducible refine LeO.bind ?_ (fun _ => ?_))
   | exact ih0 _ _ _ _
   | exact LeO.none _
   | refine LeO.ite ?_ ?_
   | refine LeO.bind ?_ (fun _ => ?_)
def waggonerref01_Pack_p.T7 : Bool × List (List Nat × List Nat) := (true, [([], []), ([], []), ([], []), ([1, 2], [1, 2]), ([3], [3]), ([], []), ([], []), ([5, 6], [5, 6]), ([7], [7]), ([0, 4, 8, 8], [0, 4, 8]), ([9], [9]), ([10], [10]), ([10], [10]), ([11, 9, 0, 1, 2, 3, 4, 5, 6, 7, 8, 9, 10, 11], [11]), ([12, 13, 0, 1, 2, 3, 4, 5, 6, 7, 8, 9, 10, 11, 12, 13], [12])])
def waggonerref01_Pack_p.B7 : List Nat := [0, 0, 0, 6, 14, 0, 0, 96, 224, 511, 1023, 2047, 2047, 4095, 16383]
theorem waggonerref01_Pack_p.tab7 : rtab .any (opsOf Try.f52 7) = waggonerref01_Pack_p.T7 := by kernel_rfl
theorem waggonerref01_Pack_p.bits7 : waitsOk waggonerref01_Pack_p.T7.2 waggonerref01_Pack_p.B7 = true := by kernel_rfl
set_option maxHeartbeats 8000000 in
set_option maxRecDepth 100000 in
theorem waggonerref01_Pack_p.calls (k : Nat) (a0 : ByteArray) (A1 : Option Addr) (c1 : Nat) (l1 : List Int) (r1 : List Int) (r2 : Int) (w : World) (hr1 : Kd.C (Kd.int .u64) w A1 l1.length l1) (hc1 : l1.length ≤ c1) (h : waggonerref01_Pack_p.f k a0 l1 = some (r1, r2)) :
  Calls Try.prog 52 #[.string a0, .slice A1 l1.length c1] w fun e w' => ∃ v0_ : Value, e = .returned (.tuple #[v0_, .int .i64 r2]) ∧ Kd.R (Kd.int .u8) 5 w' w.heap.size (fun _ => True) v0_ r1 ∧ Below w.heap.size w w' := by
 have HR1 := Aside0.mk hr1
 have HC1 := Aside0.mk hc1
 clear hr1 hc1
 have HB := Aside0.mk (Below.refl w.heap.size w)
 have H : (if (a0.size : Int) = (l1.length : Int) then (waggonerref01_Pack_p.l0 k a0 l1 ([] : List Int) 0) else (some (([] : List Int), 10))) = some (r1, r2) := h
 clear h
 by_cases c3 : (a0.size : Int) = (l1.length : Int)
 ·rw [if_pos c3] at H
  have c3b0 : ((a0.size : Int) == (l1.length : Int)) = true := beq_iff_eq.mpr c3
  have c3b1 : ((a0.size : Int) != (l1.length : Int)) = false := bne_eq_false_iff_eq.mpr c3
  have c3b2 : (a0.size == l1.length) = true := by first | simpa using c3 | (simp at c3 ⊢; omega)
  clear c3
  have H' := Aside0.mk H
  clear H
  go_enter Try.func52, Try.ntmps52
  go_wp2
  go_loopg [6, 7] k (fun kq v6 v7 w' => ∃ (x6_1 : List Int) (x7_1 : Int), v7 = .int .i64 x7_1 ∧ Aside0 (waggonerref01_Pack_p.l0 kq a0 l1 x6_1 x7_1 = some (r1, r2)) ∧ Aside0 (kq ≤ k) ∧ Aside0 (Kd.R (Kd.int .u8) 5 w' w.heap.size (fun _ => True) v6 x6_1) ∧ Aside0 (Below w.heap.size w w'))
  case atStart => exact ⟨(([] : List Int)), (0), (by first | rfl | (simp; done) | (simp [*]; done)), H', ⟨Nat.le_refl _⟩, ⟨by first | exact Kd.R_nil _ _ _ _ _ | exact Kd.N_nil _ _ _ _ _ | exact Kd.V_nil _ _ _ _ _ | exact Kd.Q_nil _ _ _ _ _ | exact Kd.S_nil _ _ _ _ _⟩, ⟨by repeat (first | (with_reducible first | exact HB.out | apply below_alloc | apply pw_below_drewN | apply below_drew1) | exact HB.out)⟩⟩
  case round =>
   clear H'
   try clear c1
   try clear p2
   try clear c3
   try clear c3b0
   try clear c3b1
   try clear c3b2
   obtain ⟨x6_1, x7_1, rfl, HA, HK1, HO_6, HB⟩ := hrel
   cases gk with
   | zero => exact absurd HA.out (by simp [waggonerref01_Pack_p.l0])
   | succ k1 =>
    have H := HA.out
    clear HA
    simp only [waggonerref01_Pack_p.l0] at H
    by_cases c4 : x7_1 < (a0.size : Int)
    ·rw [if_pos c4] at H
     have c4b0 : decide (x7_1 < (a0.size : Int)) = true := decide_eq_true c4
     clear c4
     by_cases c5 : 0 ≤ x7_1
     ·rw [if_pos c5] at H
      have c5b0 : decide (0 ≤ x7_1) = true := decide_eq_true c5
      clear c5
      by_cases c6 : x7_1 < (l1.length : Int)
      ·rw [if_pos c6] at H
       have c6b0 : decide (x7_1 < (l1.length : Int)) = true := decide_eq_true c6
       clear c6
       replace H := Option.bind_eq_some_iff.mp H
       obtain ⟨t247, A80, H⟩ := H
       (try dsimp only at H)
       have A8 := Aside0.mk A80
       clear A80
       replace H := Option.bind_eq_some_iff.mp H
       obtain ⟨⟨t248, t249⟩, A90, H⟩ := H
       (try dsimp only at H)
       have A9 := Aside0.mk A90
       clear A90
       by_cases c10 : t249 = 0
       ·rw [if_pos c10] at H
        have c10b0 : (t249 == 0) = true := beq_iff_eq.mpr c10
        have c10b1 : (t249 != 0) = false := bne_eq_false_iff_eq.mpr c10
        clear c10
        have H' := Aside0.mk H
        clear H
        try go_wp2
        have n0_ := Aside0.mk (Kd.R_drew HO_6.out)
        have n1_ := Aside0.mk (below_drew1 HB.out)
        clear HO_6
        clear HB
        have HO_6 := n0_
        have HB := n1_
        clear n0_ n1_
        have p246 : 0 ≤ (x7_1 : Int) := of_decide_eq_true (by first | (with_reducible assumption) | assumption)
        have q246 : x7_1 < (l1.length : Int) := of_decide_eq_true (by first | (with_reducible assumption) | assumption)
        obtain ⟨ad246, e246, hx246_0⟩ := Kd.at_int HR1.out x7_1 p246 q246
        have hw246_0 := hx246_0
        cases e246
        replace hx246_0 := (HB.out.cell (World.block_lt_of_cell? w _ hx246_0)).trans hx246_0
        replace p246 := eq_true p246
        replace q246 := eq_true q246
        have p7 : 0 ≤ (x7_1 : Int) := of_decide_eq_true (by first | (with_reducible assumption) | assumption)
        have q7 : x7_1 < (a0.size : Int) := of_decide_eq_true (by first | (with_reducible assumption) | assumption)
        have hx7 := bt_at a0 x7_1
        replace p7 := eq_true p7
        replace q7 := eq_true q7
        refine start_ (n := 15) (S := fun w' => w'.cell? (ad246.add (x7_1).toNat) = some (.int .u64 (rd l1 x7_1))) (ds := []) #[false, false, false, false, false, false, false, false, false, false, false, false, false, false, false] (by kernel_rfl) rfl rfl (((HB.out.cell (World.block_lt_of_cell? w _ hw246_0)).trans hw246_0)) (fun hHeld => ?_); refine with_tabW waggonerref01_Pack_p.tab7 waggonerref01_Pack_p.bits7 (fun HT_ HW_ => ?_)
        generalize wr.drew = w11 at HO_6 HB hx246_0 hHeld ⊢
        refine Cz.qP 0 22 HT_ ?_
        refine Cz.qP 1 23 HT_ ?_
        refine Cz.qP 2 24 HT_ ?_
        refine Cz.qP 3 25 HT_ ?_
        refine Cz.qP 5 27 HT_ ?_
        refine Cz.qP 6 28 HT_ ?_
        refine Cz.qT 4 26 HT_ HW_ hHeld ?_
        refine Cz.qT 7 29 HT_ HW_ hHeld ?_
        refine Cz.qO (N := some 30) 8 HT_ (fun K hK => ?_)
        refine Cz.gO Try.func67 #[.int .u8 (bt a0 x7_1)] ?_
        with_reducible refine (waggonerref01_size.calls (bt a0 x7_1) t247 _ A8.out).mono ?_
        rintro e w' ⟨rfl, ⟨nd, rfl⟩⟩
        refine ⟨_, rfl, ?_⟩
        obtain ⟨Ao12, co12, eo12⟩ := Kd.R_slice HO_6.out
        (first | subst eo12 | (injection eo12 with f1_ f2_ f3_; have f4_ := f1_.symm; have f5_ := f3_.symm; clear f1_ f2_ f3_; subst f4_; subst f5_))
        refine hK.out _ _ (((HB.out.cell (World.block_lt_of_cell? w _ hw246_0)).trans hw246_0)) (fun hHeld => ?_)
        clear hK K
        refine norm_ (a' := ?_) ?_ ?_
        rotate_left
        ·show Act.put _ (some 30) _ = _
         simp only [Act.put, Kx.sb, Kx.sz, Kx.ss, i64_w, i32_w]
         rfl
        refine Cz.qO (N := some 31) 9 HT_ (fun K hK => ?_)
        refine Cz.gO Try.func66 #[.slice Ao12 x6_1.length co12, .int .u64 (rd l1 x7_1), .int .i64 t247] ?_
        with_reducible refine (waggonerref01_Put.calls _ _ x6_1 (rd l1 x7_1) t247 t248 t249 _ ?side1 ?side2 A9.out).mono ?_
        (case side1 => repeat (first | exact (Kd.R_reads' HO_6.out).2.2 | (with_reducible refine Kd.C_alloc ?_ _) | (with_reducible refine Kd.C_drewN ?_ _) | (with_reducible refine Kd.C_drew ?_)))
        (case side2 => exact (Kd.R_reads' HO_6.out).2.1)
        rintro e w13 ⟨v250, rfl, ho0, hb⟩
        refine ⟨_, rfl, ?_⟩
        have n0_ := Aside0.mk (Kd.R_elder' (by (with_reducible repeat (first | apply Kd.R_alloc | apply Kd.R_drewN | apply Kd.R_drew)); exact HO_6.out) (Kd.R_base ho0) hb)
        have n1_ := Aside0.mk (Kd.R_lower (Kd.R_new' ho0 (Kd.R_lt (by (with_reducible repeat (first | apply Kd.R_alloc | apply Kd.R_drewN | apply Kd.R_drew)); exact HO_6.out))) (below_size (by repeat (first | (with_reducible first | exact HB.out | apply below_alloc | apply pw_below_drewN | apply below_drew1) | exact HB.out))))
        have n2_ := Cz.bs (w := w) hb
        clear HO_6
        clear HB
        have HO_6 := n0_
        have HO251 := n1_
        have HB := n2_
        clear n0_ n1_ n2_
        (try clear hb)
        (try clear hb2)
        (try clear hk)
        (try clear hi)
        (try clear ho0)
        refine hK.out _ _ (((HB.out.cell (World.block_lt_of_cell? w _ hw246_0)).trans hw246_0)) (fun hHeld => ?_)
        clear hK K
        refine norm_ (a' := ?_) ?_ ?_
        rotate_left
        ·show Act.put _ (some 31) _ = _
         simp only [Act.put, Kx.sb, Kx.sz, Kx.ss, i64_w, i32_w]
         rfl
        refine Cz.qP 10 21 HT_ ?_
        refine Cz.qP 11 32 HT_ ?_
        refine Cz.qP 12 33 HT_ ?_
        refine Cz.qP 13 8 HT_ ?_
        refine Cz.qP 14 9 HT_ ?_
        refine done_ (done_of HT_.out (by kernel_rfl)) ?_
        try go_wp2
        go_roundg k1
        case measure => have := HK1.out; omega
        case rel => exact ⟨(t248), (wrap64 (x7_1 + 1)), (by first | rfl | (simp; done) | (simp [*]; done)), H', ⟨by have := HK1.out; omega⟩, ⟨by (with_reducible repeat (first | apply Kd.R_alloc | apply Kd.R_drewN | apply Kd.R_drew)); exact Kd.R_mono HO251.out (fun _ hk => trivial)⟩, ⟨by repeat (first | (with_reducible first | exact HB.out | apply below_alloc | apply pw_below_drewN | apply below_drew1) | exact HB.out)⟩⟩
       ·rw [if_neg c10] at H
        have c10b0 : (t249 == 0) = false := beq_eq_false_iff_ne.mpr c10
        have c10b1 : (t249 != 0) = true := bne_iff_ne.mpr c10
        simp only [Option.some.injEq, Prod.mk.injEq] at H
        obtain ⟨rfl, rfl⟩ := H
        try go_wp2
        have n0_ := Aside0.mk (Kd.R_drew HO_6.out)
        have n1_ := Aside0.mk (below_drew1 HB.out)
        clear HO_6
        clear HB
        have HO_6 := n0_
        have HB := n1_
        clear n0_ n1_
        have p246 : 0 ≤ (x7_1 : Int) := of_decide_eq_true (by first | (with_reducible assumption) | assumption)
        have q246 : x7_1 < (l1.length : Int) := of_decide_eq_true (by first | (with_reducible assumption) | assumption)
        obtain ⟨ad246, e246, hx246_0⟩ := Kd.at_int HR1.out x7_1 p246 q246
        have hw246_0 := hx246_0
        cases e246
        replace hx246_0 := (HB.out.cell (World.block_lt_of_cell? w _ hx246_0)).trans hx246_0
        replace p246 := eq_true p246
        replace q246 := eq_true q246
        have p7 : 0 ≤ (x7_1 : Int) := of_decide_eq_true (by first | (with_reducible assumption) | assumption)
        have q7 : x7_1 < (a0.size : Int) := of_decide_eq_true (by first | (with_reducible assumption) | assumption)
        have hx7 := bt_at a0 x7_1
        replace p7 := eq_true p7
        replace q7 := eq_true q7
        refine start_ (n := 15) (S := fun w' => w'.cell? (ad246.add (x7_1).toNat) = some (.int .u64 (rd l1 x7_1))) (ds := []) #[false, false, false, false, false, false, false, false, false, false, false, false, false, false, false] (by kernel_rfl) rfl rfl (((HB.out.cell (World.block_lt_of_cell? w _ hw246_0)).trans hw246_0)) (fun hHeld => ?_); refine with_tabW waggonerref01_Pack_p.tab7 waggonerref01_Pack_p.bits7 (fun HT_ HW_ => ?_)
        generalize wr.drew = w14 at HO_6 HB hx246_0 hHeld ⊢
        refine Cz.qP 0 22 HT_ ?_
        refine Cz.qP 1 23 HT_ ?_
        refine Cz.qP 2 24 HT_ ?_
        refine Cz.qP 3 25 HT_ ?_
        refine Cz.qP 5 27 HT_ ?_
        refine Cz.qP 6 28 HT_ ?_
        refine Cz.qT 4 26 HT_ HW_ hHeld ?_
        refine Cz.qT 7 29 HT_ HW_ hHeld ?_
        refine Cz.qO (N := some 30) 8 HT_ (fun K hK => ?_)
        refine Cz.gO Try.func67 #[.int .u8 (bt a0 x7_1)] ?_
        with_reducible refine (waggonerref01_size.calls (bt a0 x7_1) t247 _ A8.out).mono ?_
        rintro e w' ⟨rfl, ⟨nd, rfl⟩⟩
        refine ⟨_, rfl, ?_⟩
        obtain ⟨Ao15, co15, eo15⟩ := Kd.R_slice HO_6.out
        (first | subst eo15 | (injection eo15 with f1_ f2_ f3_; have f4_ := f1_.symm; have f5_ := f3_.symm; clear f1_ f2_ f3_; subst f4_; subst f5_))
        refine hK.out _ _ (((HB.out.cell (World.block_lt_of_cell? w _ hw246_0)).trans hw246_0)) (fun hHeld => ?_)
        clear hK K
        refine norm_ (a' := ?_) ?_ ?_
        rotate_left
        ·show Act.put _ (some 30) _ = _
         simp only [Act.put, Kx.sb, Kx.sz, Kx.ss, i64_w, i32_w]
         rfl
        refine Cz.qO (N := some 31) 9 HT_ (fun K hK => ?_)
        refine Cz.gO Try.func66 #[.slice Ao15 x6_1.length co15, .int .u64 (rd l1 x7_1), .int .i64 t247] ?_
        with_reducible refine (waggonerref01_Put.calls _ _ x6_1 (rd l1 x7_1) t247 t248 t249 _ ?side1 ?side2 A9.out).mono ?_
        (case side1 => repeat (first | exact (Kd.R_reads' HO_6.out).2.2 | (with_reducible refine Kd.C_alloc ?_ _) | (with_reducible refine Kd.C_drewN ?_ _) | (with_reducible refine Kd.C_drew ?_)))
        (case side2 => exact (Kd.R_reads' HO_6.out).2.1)
        rintro e w16 ⟨v250, rfl, ho0, hb⟩
        refine ⟨_, rfl, ?_⟩
        have n0_ := Aside0.mk (Kd.R_elder' (by (with_reducible repeat (first | apply Kd.R_alloc | apply Kd.R_drewN | apply Kd.R_drew)); exact HO_6.out) (Kd.R_base ho0) hb)
        have n1_ := Aside0.mk (Kd.R_lower (Kd.R_new' ho0 (Kd.R_lt (by (with_reducible repeat (first | apply Kd.R_alloc | apply Kd.R_drewN | apply Kd.R_drew)); exact HO_6.out))) (below_size (by repeat (first | (with_reducible first | exact HB.out | apply below_alloc | apply pw_below_drewN | apply below_drew1) | exact HB.out))))
        have n2_ := Cz.bs (w := w) hb
        clear HO_6
        clear HB
        have HO_6 := n0_
        have HO251 := n1_
        have HB := n2_
        clear n0_ n1_ n2_
        (try clear hb)
        (try clear hb2)
        (try clear hk)
        (try clear hi)
        (try clear ho0)
        refine hK.out _ _ (((HB.out.cell (World.block_lt_of_cell? w _ hw246_0)).trans hw246_0)) (fun hHeld => ?_)
        clear hK K
        refine norm_ (a' := ?_) ?_ ?_
        rotate_left
        ·show Act.put _ (some 31) _ = _
         simp only [Act.put, Kx.sb, Kx.sz, Kx.ss, i64_w, i32_w]
         rfl
        refine Cz.qP 10 21 HT_ ?_
        refine Cz.qP 11 32 HT_ ?_
        refine Cz.qP 12 33 HT_ ?_
        refine Cz.qP 13 8 HT_ ?_
        refine Cz.qP 14 9 HT_ ?_
        refine done_ (done_of HT_.out (by kernel_rfl)) ?_
        try go_wp2
        go_ret2
        exact ⟨_, by first | rfl | (simp [errW_none, errW_some] <;> rfl) | (simp [*, errW_none, errW_some] <;> rfl), by first | exact Kd.R_nil _ _ _ _ _ | exact Kd.N_nil _ _ _ _ _ | exact Kd.V_nil _ _ _ _ _ | exact Kd.Q_nil _ _ _ _ _ | exact Kd.S_nil _ _ _ _ _, by repeat (first | (with_reducible first | exact HB.out | apply below_alloc | apply pw_below_drewN | apply below_drew1) | exact HB.out)⟩
      ·rw [if_neg c6] at H
       exact absurd H (by simp)
     ·rw [if_neg c5] at H
      exact absurd H (by simp)
    ·rw [if_neg c4] at H
     have c4b0 : decide (x7_1 < (a0.size : Int)) = false := decide_eq_false c4
     clear c4
     simp only [Option.some.injEq, Prod.mk.injEq] at H
     obtain ⟨rfl, rfl⟩ := H
     go_wp2
     go_ret2
     exact ⟨_, by first | rfl | (simp [errW_none, errW_some] <;> rfl) | (simp [*, errW_none, errW_some] <;> rfl), by (with_reducible repeat (first | apply Kd.R_alloc | apply Kd.R_drewN | apply Kd.R_drew)); exact HO_6.out, by repeat (first | (with_reducible first | exact HB.out | apply below_alloc | apply pw_below_drewN | apply below_drew1) | exact HB.out)⟩
 ·rw [if_neg c3] at H
  have c3b0 : ((a0.size : Int) == (l1.length : Int)) = false := beq_eq_false_iff_ne.mpr c3
  have c3b1 : ((a0.size : Int) != (l1.length : Int)) = true := bne_iff_ne.mpr c3
  have c3b2 : (a0.size == l1.length) = false := by first | simpa using c3 | (simp at c3 ⊢; omega)
  simp only [Option.some.injEq, Prod.mk.injEq] at H
  obtain ⟨rfl, rfl⟩ := H
  go_enter Try.func52, Try.ntmps52
  go_wp2
  go_ret2
  exact ⟨_, by first | rfl | (simp [errW_none, errW_some] <;> rfl) | (simp [*, errW_none, errW_some] <;> rfl), by first | exact Kd.R_nil _ _ _ _ _ | exact Kd.N_nil _ _ _ _ _ | exact Kd.V_nil _ _ _ _ _ | exact Kd.Q_nil _ _ _ _ _ | exact Kd.S_nil _ _ _ _ _, by repeat (first | (with_reducible first | exact HB.out | apply below_alloc | apply pw_below_drewN | apply below_drew1) | exact HB.out)⟩
/-! ### waggonerref01_Pack: function 52 -/
theorem waggonerref01_size.tells (c : Int) : waggonerref01_size.f c = some (Pl.letS c) := by
 unfold waggonerref01_size.f Pl.letS
 repeat' split
 all_goals rfl
theorem bt_fb (s : ByteArray) (i : Nat) (h : i < s.size) : bt s (i : Int) = (Pl.fb s)[i]'(by rw [Pl.fb_length]; exact h) := by
 unfold bt
 rw [dif_pos (by rw [Int.toNat_natCast]; exact h)]
 simp only [Pl.fb, List.getElem_map, Int.toNat_natCast]
 rfl
def waggonerref01_Pack.f (a0 : ByteArray) (l1 : List Int) : Option (List Int × Int) := if Pl.u64B l1 = true ∧ a0.size < 2147483648 then some (Pl.packS (Pl.fb a0) l1) else none
theorem waggonerref01_Pack.loop (s : ByteArray) (l : List Int) (hl : Pl.u64B l = true) (hn : s.size = l.length) (hs : s.size < 2147483648) : ∀ (d k i : Nat) (out : List Int), i + d = s.size → d < k → out.length ≤ 8 * i →
  waggonerref01_Pack_p.l0 k s l out (i : Int) = some (Pl.packGo out ((Pl.fb s).drop i) (l.drop i))
 | 0, k, i, out, hi, hk, ho => by
  obtain ⟨k, rfl⟩ : ∃ m, k = m + 1 := ⟨k - 1, by omega⟩
  simp only [waggonerref01_Pack_p.l0]
  rw [if_neg (by omega), List.drop_eq_nil_of_le (by rw [Pl.fb_length]; omega), List.drop_eq_nil_of_le (by omega)]
  rfl
 | d + 1, k, i, out, hi, hk, ho => by
  obtain ⟨k, rfl⟩ : ∃ m, k = m + 1 := ⟨k - 1, by omega⟩
  have hif : i < (Pl.fb s).length := by rw [Pl.fb_length]; omega
  have hil : i < l.length := by omega
  have hrd : rd l (i : Int) = l[i]'hil := by unfold rd; rw [Int.toNat_natCast, List.getD_eq_getElem?_getD, List.getElem?_eq_getElem hil, Option.getD_some]
  have hb := Pl.u64B_iff.1 hl _ (List.getElem_mem hil)
  simp only [waggonerref01_Pack_p.l0]
  rw [if_pos (by omega), if_pos (by omega), if_pos (by omega), bt_fb s i (by omega), hrd, waggonerref01_size.tells, Option.bind_some]
  rw [List.drop_eq_getElem_cons hif, List.drop_eq_getElem_cons hil, Pl.packGo]
  unfold waggonerref01_Put.f
  rw [if_pos ⟨hb.1, hb.2, by omega⟩, Option.bind_some]
  unfold Pl.putS
  have h8 := Pl.letS_le ((Pl.fb s)[i]'hif)
  by_cases hf : Pl.fits (l[i]'hil) (Pl.letS ((Pl.fb s)[i]'hif)) = true
  ·rw [if_pos hf, if_pos hf]
   rw [if_pos rfl, show wrap64 ((i : Int) + 1) = ((i + 1 : Nat) : Int) from by unfold wrap64; omega]
   exact waggonerref01_Pack.loop s l hl hn hs d k (i + 1) _ (by omega) (by omega) (by rw [List.length_append, Pl.leB_length]; omega)
  ·rw [if_neg hf, if_neg hf]
   rfl
theorem waggonerref01_Pack.tells {a0 : ByteArray} {l1 : List Int} {r : List Int × Int} (h : waggonerref01_Pack.f a0 l1 = some r) : waggonerref01_Pack_p.f (a0.size + 1) a0 l1 = some r := by
 unfold waggonerref01_Pack.f at h
 split at h
 case isFalse => cases h
 rename_i hh
 obtain ⟨h0, h1⟩ := hh
 obtain rfl := Option.some.inj h
 unfold waggonerref01_Pack_p.f Pl.packS
 by_cases he : (a0.size : Int) = (l1.length : Int)
 ·rw [if_pos he]
  exact waggonerref01_Pack.loop a0 l1 h0 (by omega) h1 a0.size (a0.size + 1) 0 [] (by omega) (by omega) (by simp)
 ·rw [if_neg he, Pl.packGo_ne _ _ _ (by rw [Pl.fb_length]; omega)]
theorem waggonerref01_Pack.calls (a0 : ByteArray) (A1 : Option Addr) (c1 : Nat) (l1 : List Int) (r1 : List Int) (r2 : Int) (w : World) (hr1 : Kd.C (Kd.int .u64) w A1 l1.length l1) (hc1 : l1.length ≤ c1) (h : waggonerref01_Pack.f a0 l1 = some (r1, r2)) :
  Calls Try.prog 52 #[.string a0, .slice A1 l1.length c1] w fun e w' => ∃ v0_ : Value, e = .returned (.tuple #[v0_, .int .i64 r2]) ∧ Kd.R (Kd.int .u8) 5 w' w.heap.size (fun _ => True) v0_ r1 ∧ Below w.heap.size w w' :=
 waggonerref01_Pack_p.calls (a0.size + 1) a0 A1 c1 l1 r1 r2 w hr1 hc1 (waggonerref01_Pack.tells h)
end Go.Proofs.Ytcemlfkboifncaa.PG
