/- Words and walks that this claim names, of those that the kit's print and programs of this workplace have printed. -/
import Derived.Test.YtohkmmbmfhficaaZGPGx11
import Derived.Test.YtohkmmbmfhficaaZGPGx38
import Derived.Test.YtohkmmbmfhficaaZGPGx42
import Derived.Test.YtohkmmbmfhficaaZGPGx44
import Derived.Test.YtohkmmbmfhficaaZGPGx46
namespace Go.Proofs.Ytohkmmbmfhficaa.PG
open Go.RowKit Go.Proofs.YtohkmmbmfhficaaW.PrintWords Go.Proofs.YtohkmmbmfhficaaW.PrintLast Go.Proofs.YtohkmmbmfhficaaW.PrintMore
attribute [local go_sem] max2_int min2_int max_two min_two max_three min_three max_four min_four
set_option linter.unusedVariables false
set_option linter.unusedSimpArgs false
mutual
def waggonerlaw16_FrameGoes.l0 : Nat → List (S38) → Bool → List Int → List (S38) → Int → Option (Bool)
 | 0, _, _, _, _, _ => none
 | k + 1, x0, x3, x4, x5, x6 => if x6 < (x0.length : Int) then (if 0 ≤ x6 then ((frame_Write.f ((rd_T38 x0 x6).f0) ((rd_T38 x0 x6).f1) ((rd_T38 x0 x6).f2) ((rd_T38 x0 x6).f3) ((rd_T38 x0 x6).f4) ((rd_T38 x0 x6).f5) ((rd_T38 x0 x6).f6)).bind fun bt268 => (if (((rd_T38 x0 x6).f3).length : Int) ≤ 5000 then (if bt268.2 = 0 then (if x4.length + bt268.1.length < 140737488355328 then (if x5.length < 1954687338268 then (waggonerlaw16_FrameGoes.l0 k x0 x3 (x4 ++ bt268.1) (x5 ++ [(⟨(rd_T38 x0 x6).f0, (rd_T38 x0 x6).f1, (rd_T38 x0 x6).f2, (rd_T38 x0 x6).f3, (rd_T38 x0 x6).f4, (rd_T38 x0 x6).f5, (rd_T38 x0 x6).f6⟩ : S38)]) (wrap64 (x6 + 1))) else (none)) else (none)) else (waggonerlaw16_FrameGoes.l0 k x0 x3 x4 x5 (wrap64 (x6 + 1)))) else (waggonerlaw16_FrameGoes.l0 k x0 x3 x4 x5 (wrap64 (x6 + 1))))) else (none)) else (waggonerlaw16_FrameGoes.l1 k x3 x4 x5 0 0)
def waggonerlaw16_FrameGoes.l1 : Nat → Bool → List Int → List (S38) → Int → Int → Option (Bool)
 | 0, _, _, _, _, _ => none
 | k + 1, x3, x4, x5, x9, x10 => if x10 < (x5.length : Int) then (if 0 ≤ x9 then (if x9 ≤ (x4.length : Int) then ((frame_Read.f (x4.drop (x9 : Int).toNat)).bind fun bt285 => (if 0 ≤ x10 then ((waggonerref16_Same.f bt285.1 bt285.2.1 bt285.2.2.1 bt285.2.2.2.1 bt285.2.2.2.2.1 bt285.2.2.2.2.2.1 bt285.2.2.2.2.2.2.1 ((rd_T38 x5 x10).f0) ((rd_T38 x5 x10).f1) ((rd_T38 x5 x10).f2) ((rd_T38 x5 x10).f3) ((rd_T38 x5 x10).f4) ((rd_T38 x5 x10).f5) ((rd_T38 x5 x10).f6)).bind fun t298 => (if bt285.2.2.2.2.2.2.2.2 = 0 then (if t298 = true then (if bt285.2.2.2.2.2.2.2.1 < 9 then (some false) else (if bt285.2.2.2.2.2.2.2.1 > (wrap64 ((x4.length : Int) - x9)) then (some false) else (waggonerlaw16_FrameGoes.l1 k x3 x4 x5 (wrap64 (x9 + bt285.2.2.2.2.2.2.2.1)) (wrap64 (x10 + 1))))) else (some false)) else (some false))) else (none))) else (none)) else (none)) else (if x3 = true then (some (x9 == (x4.length : Int))) else (some false))
end
def waggonerlaw16_FrameGoes.f (k : Nat) (l0 : List (S38)) : Option (Bool) := (waggonerlaw16_awake.f).bind fun t266 => (if (l0.length : Int) > 8 then (some t266) else (waggonerlaw16_FrameGoes.l0 k l0 t266 ([] : List Int) ([] : List (S38)) 0))
set_option maxHeartbeats 8000000 in
set_option maxRecDepth 100000 in
theorem waggonerlaw16_FrameGoes.calls (k : Nat) (P0_ : Nat → Prop) (A0 : Option Addr) (c0 : Nat) (l0 : List (S38)) (r : Bool) (hT : r = true) (w : World) (hs0 : Kd.V k38 38 w w.heap.size (fun k_ => P0_ k_) (.slice A0 l0.length c0) l0) (h : waggonerlaw16_FrameGoes.f k l0 = some r) :
  Calls Try.prog 10 #[.slice A0 l0.length c0] w fun e w' => e = .returned (.bool r) ∧ Below w.heap.size w w' := by
 subst hT
 have hu38 := Try.underlying38
 have HO0 := Aside0.mk (show Kd.V k38 38 w w.heap.size (fun k_ => (P0_ k_ ∨ w.heap.size ≤ k_)) (.slice A0 l0.length c0) l0 from Kd.V_mono hs0 (fun k_ hk => .inl hk))
 have HB := Aside0.mk (Below.refl w.heap.size w)
 have H : ((waggonerlaw16_awake.f).bind fun t266 => (if (l0.length : Int) > 8 then (some t266) else (waggonerlaw16_FrameGoes.l0 k l0 t266 ([] : List Int) ([] : List (S38)) 0))) = some true := h
 clear h
 replace H := Option.bind_eq_some_iff.mp H
 obtain ⟨t266, A20, H⟩ := H
 replace H : (if (l0.length : Int) > 8 then (some t266) else (waggonerlaw16_FrameGoes.l0 k l0 t266 ([] : List Int) ([] : List (S38)) 0)) = some true := H
 have A2 := Aside0.mk A20
 clear A20
 by_cases c3 : (l0.length : Int) > 8
 ·rw [if_pos c3] at H
  have c3b0 : decide (8 < (l0.length : Int)) = true := decide_eq_true c3
  have c3b1 : decide (8 < l0.length) = true := decide_eq_true (by omega)
  clear c3
  (have HRT := Aside0.mk (Option.some.inj H); clear H)
  go_enter Try.func10, Try.ntmps10
  go_wp2_with (first | ((with_reducible refine gate_callee (f := 18) rfl ?_); refine goesL_ (some 15) rfl rfl Try.func18 (by kernel_rfl) rfl #[] rfl (by (try simp only [List.map_toArray, List.map_cons, List.map_nil]); first | done | rfl | (simp only [List.length_drop, List.length_take]; rfl)) ?_; (with_reducible refine (waggonerlaw16_awake.calls  t266 _ A2.out).mono ?_); rintro e w4 ⟨rfl, hb⟩; refine ⟨_, rfl, ?_⟩; have n0_ := Aside0.mk (Kd.V_below (by (with_reducible repeat (first | apply Kd.V_alloc | apply Kd.V_drewN | apply Kd.V_drew)); exact HO0.out) hb); have n1_ := Aside0.mk (below_step (by repeat (first | (with_reducible first | exact HB.out | apply below_alloc | apply pw_below_drewN | apply below_drew1) | exact HB.out)) hb); clear HO0; clear HB; have HO0 := n0_; have HB := n1_; clear n0_ n1_; (try clear hb); (try clear hb2); (try clear hk); (try clear hi)))
  go_ret
  exact ⟨by first | rfl | (exact congrArg (fun z_ => Ending.returned (Value.bool z_)) HRT.out) | (rw [HRT.out]; done) | (simp [errW_none, errW_some] <;> rfl) | (simp [*, errW_none, errW_some] <;> rfl), by repeat (first | (with_reducible first | exact HB.out | apply below_alloc | apply pw_below_drewN | apply below_drew1) | exact HB.out)⟩
 ·rw [if_neg c3] at H
  have c3b0 : decide (8 < (l0.length : Int)) = false := decide_eq_false c3
  have c3b1 : decide (8 < l0.length) = false := decide_eq_false (by omega)
  clear c3
  have H' := Aside0.mk H
  clear H
  go_enter Try.func10, Try.ntmps10
  go_wp2_with (first | ((with_reducible refine gate_callee (f := 18) rfl ?_); refine goesL_ (some 15) rfl rfl Try.func18 (by kernel_rfl) rfl #[] rfl (by (try simp only [List.map_toArray, List.map_cons, List.map_nil]); first | done | rfl | (simp only [List.length_drop, List.length_take]; rfl)) ?_; (with_reducible refine (waggonerlaw16_awake.calls  t266 _ A2.out).mono ?_); rintro e w5 ⟨rfl, hb⟩; refine ⟨_, rfl, ?_⟩; have n0_ := Aside0.mk (Kd.V_below (by (with_reducible repeat (first | apply Kd.V_alloc | apply Kd.V_drewN | apply Kd.V_drew)); exact HO0.out) hb); have n1_ := Aside0.mk (below_step (by repeat (first | (with_reducible first | exact HB.out | apply below_alloc | apply pw_below_drewN | apply below_drew1) | exact HB.out)) hb); clear HO0; clear HB; have HO0 := n0_; have HB := n1_; clear n0_ n1_; (try clear hb); (try clear hb2); (try clear hk); (try clear hi)))
  go_loopg [4, 5, 6] k (fun kq v4 v5 v6 w' => ∃ (x4_1 : List Int) (x5_1 : List (S38)) (x6_1 : Int), v6 = .int .i64 x6_1 ∧ Aside0 (waggonerlaw16_FrameGoes.l0 kq l0 t266 x4_1 x5_1 x6_1 = some true) ∧ Aside0 (kq ≤ k) ∧ Aside0 (Kd.V k38 38 w' w.heap.size (fun k_ => (P0_ k_ ∨ w.heap.size ≤ k_) ∧ some k_ ≠ (v4 : Value).ownBlock ∧ some k_ ≠ (v5 : Value).ownBlock) (.slice A0 l0.length c0) l0) ∧ Aside0 (Kd.R (Kd.int .u8) 5 w' w.heap.size (fun k_ => (w.heap.size ≤ k_)) v4 x4_1) ∧ Aside0 (Kd.N k38 38 w' w.heap.size (fun k_ => (P0_ k_ ∨ w.heap.size ≤ k_) ∧ some k_ ≠ (v4 : Value).ownBlock) v5 x5_1) ∧ Aside0 (Below w.heap.size w w'))
  case atStart => exact ⟨(([] : List Int)), (([] : List (S38))), (0), (by first | rfl | (simp; done) | (simp [*]; done)), H', ⟨Nat.le_refl _⟩, ⟨by (with_reducible repeat (first | apply Kd.V_alloc | apply Kd.V_drewN | apply Kd.V_drew)); exact Kd.V_mono HO0.out (fun _ hk => ⟨hk, ⟨(by simp [Value.ownBlock]), (by simp [Value.ownBlock])⟩⟩)⟩, ⟨by first | exact Kd.R_nil _ _ _ _ _ | exact Kd.N_nil _ _ _ _ _ | exact Kd.V_nil _ _ _ _ _ | exact Kd.Q_nil _ _ _ _ _ | exact Kd.S_nil _ _ _ _ _⟩, ⟨by first | exact Kd.S_nil _ _ _ _ _ | exact Kd.N_nil _ _ _ _ _ | exact Kd.V_nil _ _ _ _ _ | exact Kd.Q_nil _ _ _ _ _ | exact Kd.R_nil _ _ _ _ _⟩, ⟨by repeat (first | (with_reducible first | exact HB.out | apply below_alloc | apply pw_below_drewN | apply below_drew1) | exact HB.out)⟩⟩
  case round =>
   clear H'
   try clear c1
   try clear p2
   try clear c3
   try clear c3b0
   try clear c3b1
   obtain ⟨x4_1, x5_1, x6_1, rfl, HA, HK1, HO_0, HO_4, HO_5, HB⟩ := hrel
   cases gk with
   | zero => exact absurd HA.out (by simp [waggonerlaw16_FrameGoes.l0])
   | succ k1 =>
    have H := HA.out
    clear HA
    simp only [waggonerlaw16_FrameGoes.l0] at H
    by_cases c6 : x6_1 < (l0.length : Int)
    ·rw [if_pos c6] at H
     have c6b0 : decide (x6_1 < (l0.length : Int)) = true := decide_eq_true c6
     clear c6
     by_cases c7 : 0 ≤ x6_1
     ·rw [if_pos c7] at H
      have c7b0 : decide (0 ≤ x6_1) = true := decide_eq_true c7
      clear c7
      replace H := Option.bind_eq_some_iff.mp H
      obtain ⟨⟨t268, t271⟩, A80, H⟩ := H
      replace H : (if (((rd_T38 l0 x6_1).f3).length : Int) ≤ 5000 then (if t271 = 0 then (if x4_1.length + t268.length < 140737488355328 then (if x5_1.length < 1954687338268 then (waggonerlaw16_FrameGoes.l0 k1 l0 t266 (x4_1 ++ t268) (x5_1 ++ [(⟨(rd_T38 l0 x6_1).f0, (rd_T38 l0 x6_1).f1, (rd_T38 l0 x6_1).f2, (rd_T38 l0 x6_1).f3, (rd_T38 l0 x6_1).f4, (rd_T38 l0 x6_1).f5, (rd_T38 l0 x6_1).f6⟩ : S38)]) (wrap64 (x6_1 + 1))) else (none)) else (none)) else (waggonerlaw16_FrameGoes.l0 k1 l0 t266 x4_1 x5_1 (wrap64 (x6_1 + 1)))) else (waggonerlaw16_FrameGoes.l0 k1 l0 t266 x4_1 x5_1 (wrap64 (x6_1 + 1)))) = some true := H
      have A8 := Aside0.mk A80
      clear A80
      by_cases c9 : (((rd_T38 l0 x6_1).f3).length : Int) ≤ 5000
      ·rw [if_pos c9] at H
       have c9b0 : decide ((((rd_T38 l0 x6_1).f3).length : Int) ≤ 5000) = true := decide_eq_true c9
       have c9b1 : decide (((rd_T38 l0 x6_1).f3).length ≤ 5000) = true := decide_eq_true (by omega)
       clear c9
       by_cases c10 : t271 = 0
       ·rw [if_pos c10] at H
        have c10b0 : (t271 == 0) = true := beq_iff_eq.mpr c10
        have c10b1 : (t271 != 0) = false := bne_eq_false_iff_eq.mpr c10
        clear c10
        by_cases c11 : x4_1.length + t268.length < 140737488355328
        ·rw [if_pos c11] at H
         have LMc11 := Aside0.mk c11
         clear c11
         obtain ⟨y273, hy273⟩ : ∃ y_ : List Int, y_ = (x4_1 ++ t268) := ⟨_, rfl⟩
         replace H : (if x5_1.length < 1954687338268 then (waggonerlaw16_FrameGoes.l0 k1 l0 t266 y273 (x5_1 ++ [(⟨(rd_T38 l0 x6_1).f0, (rd_T38 l0 x6_1).f1, (rd_T38 l0 x6_1).f2, (rd_T38 l0 x6_1).f3, (rd_T38 l0 x6_1).f4, (rd_T38 l0 x6_1).f5, (rd_T38 l0 x6_1).f6⟩ : S38)]) (wrap64 (x6_1 + 1))) else (none)) = some true := by first | (rw [hy273]; with_reducible exact H) | (have H2_ := (Option.bind_some _ _).symm.trans H; rw [hy273]; with_reducible exact H2_) | (have H2_ := (Option.bind_some _ _).symm.trans H; with_reducible exact H2_) | with_reducible exact H | (rw [hy273]; exact H) | exact H
         have Ny273 := Aside0.mk hy273
         clear hy273
         by_cases c12 : x5_1.length < 1954687338268
         ·rw [if_pos c12] at H
          have LMc12 := Aside0.mk c12
          clear c12
          obtain ⟨y277, hy277⟩ : ∃ y_ : List (S38), y_ = (x5_1 ++ [(⟨(rd_T38 l0 x6_1).f0, (rd_T38 l0 x6_1).f1, (rd_T38 l0 x6_1).f2, (rd_T38 l0 x6_1).f3, (rd_T38 l0 x6_1).f4, (rd_T38 l0 x6_1).f5, (rd_T38 l0 x6_1).f6⟩ : S38)]) := ⟨_, rfl⟩
          replace H : (waggonerlaw16_FrameGoes.l0 k1 l0 t266 y273 y277 (wrap64 (x6_1 + 1))) = some true := by first | (rw [hy277]; with_reducible exact H) | (have H2_ := (Option.bind_some _ _).symm.trans H; rw [hy277]; with_reducible exact H2_) | (have H2_ := (Option.bind_some _ _).symm.trans H; with_reducible exact H2_) | with_reducible exact H | (rw [hy277]; exact H) | exact H
          have Ny277 := Aside0.mk hy277
          clear hy277
          have H' := Aside0.mk H
          clear H
          have p267 : 0 ≤ (x6_1 : Int) := of_decide_eq_true (by first | (with_reducible assumption) | assumption)
          have q267 : x6_1 < (l0.length : Int) := of_decide_eq_true (by first | (with_reducible assumption) | assumption)
          obtain ⟨ad267, A267_3, c267_3, e267, hx267_0, hx267_1, hx267_2, hx267_3, hx267_4, hx267_5, hx267_6, hl267_3, hi267_3⟩ := at_T38 (Kd.V_reads' HO_0.out).2.2 x6_1 p267 q267
          cases e267
          obtain ⟨ce267, hce267, hMe267, hcc267⟩ := Kd.V_get HO_0.out z38 x6_1 p267 (by first | exact q267 | exact of_decide_eq_true (by first | (with_reducible assumption) | assumption) | (have e_ := (Kd.V_reads' HO_0.out).1; omega))
          obtain ⟨ua267_3, uc267_3, rfl, ul267_3, ge267_3⟩ := k38_openF hMe267
          have hv267_3 := hcc267 3 _ rfl
          rw [add_field _ _ 3 (by omega)] at hv267_3
          replace hv267_3 := Option.some.inj (hv267_3.symm.trans hx267_3)
          injection hv267_3 with hva_ hvn_ hvc_
          rw [hva_] at ge267_3
          rw [hvc_] at ul267_3
          have HL267_3 := Aside0.mk (show Kd.V (Kd.int .u8) 5 _ w.heap.size _ _ ((rd_T38 l0 x6_1).f3) from Kd.V_mk ul267_3 ge267_3)
          clear hva_ hvn_ hvc_ ge267_3 ul267_3
          clear hcc267 hce267
          have HR267_3 := Aside0.mk hi267_3
          have HC267_3 := Aside0.mk hl267_3
          clear hi267_3 hl267_3
          replace p267 := eq_true p267
          replace q267 := eq_true q267
          go_wp2_with (first | ((with_reducible refine gate_callee (f := 19) rfl ?_); refine goesL_ (some 31) rfl rfl Try.func19 (by kernel_rfl) rfl #[.agg #[.int .i64 ((rd_T38 l0 x6_1).f0), .int .i64 ((rd_T38 l0 x6_1).f1), .int .i64 ((rd_T38 l0 x6_1).f2), .slice A267_3 ((rd_T38 l0 x6_1).f3).length c267_3, .int .i64 ((rd_T38 l0 x6_1).f4), .int .i64 ((rd_T38 l0 x6_1).f5), .int .i64 ((rd_T38 l0 x6_1).f6)]] rfl (by (try simp only [List.map_toArray, List.map_cons, List.map_nil]); first | done | rfl | (simp only [List.length_drop, List.length_take]; rfl)) ?_; (with_reducible refine (frame_Write.calls ((rd_T38 l0 x6_1).f0) ((rd_T38 l0 x6_1).f1) ((rd_T38 l0 x6_1).f2) _ _ ((rd_T38 l0 x6_1).f3) ((rd_T38 l0 x6_1).f4) ((rd_T38 l0 x6_1).f5) ((rd_T38 l0 x6_1).f6) t268 t271 _ ?side1 ?side2 A8.out).mono ?_); (case side1 => repeat (first | exact (by repeat (first | (with_reducible exact HR267_3.out) | (with_reducible refine Kd.C_alloc ?_ _) | (with_reducible refine Kd.C_drewN ?_ _) | (with_reducible refine Kd.C_drew ?_) | exact HR267_3.out)) | (with_reducible refine Kd.C_alloc ?_ _) | (with_reducible refine Kd.C_drewN ?_ _) | (with_reducible refine Kd.C_drew ?_))); (case side2 => exact HC267_3.out); rintro e w13 ⟨v269, rfl, ho0, hb⟩; refine ⟨_, rfl, ?_⟩; have n0_ := Aside0.mk (Kd.V_elder' (by (with_reducible repeat (first | apply Kd.V_alloc | apply Kd.V_drewN | apply Kd.V_drew)); exact HO_0.out) (Kd.R_base ho0) hb); have n1_ := Aside0.mk (Kd.R_elder' (by (with_reducible repeat (first | apply Kd.R_alloc | apply Kd.R_drewN | apply Kd.R_drew)); exact HO_4.out) (Kd.R_base ho0) hb); have n2_ := Aside0.mk (Kd.N_elder' (by (with_reducible repeat (first | apply Kd.N_alloc | apply Kd.N_drewN | apply Kd.N_drew)); exact HO_5.out) (Kd.R_base ho0) hb); have n3_ := Aside0.mk (Kd.V_elder' (by (with_reducible repeat (first | apply Kd.V_alloc | apply Kd.V_drewN | apply Kd.V_drew)); exact HL267_3.out) (Kd.R_base ho0) hb); have n4_ := Aside0.mk (Kd.R_lower (Kd.R_new' (Kd.R_newM (M := fun k_ => (w.heap.size ≤ k_)) ho0 (below_size (by repeat (first | (with_reducible first | exact HB.out | apply below_alloc | apply pw_below_drewN | apply below_drew1) | exact HB.out))) (fun k_ h_ => h_)) (Kd.R_lt (by (with_reducible repeat (first | apply Kd.R_alloc | apply Kd.R_drewN | apply Kd.R_drew)); exact HO_4.out))) (below_size (by repeat (first | (with_reducible first | exact HB.out | apply below_alloc | apply pw_below_drewN | apply below_drew1) | exact HB.out)))); have n5_ := Aside0.mk (Kd.C_below (by repeat (first | (with_reducible exact HR267_3.out) | (with_reducible refine Kd.C_alloc ?_ _) | (with_reducible refine Kd.C_drewN ?_ _) | (with_reducible refine Kd.C_drew ?_) | exact HR267_3.out)) hb); have n6_ := Aside0.mk (below_step (by repeat (first | (with_reducible first | exact HB.out | apply below_alloc | apply pw_below_drewN | apply below_drew1) | exact HB.out)) hb); clear HO_0; clear HO_4; clear HO_5; clear HL267_3; clear HR267_3; clear HB; have HO_0 := n0_; have HO_4 := n1_; have HO_5 := n2_; have HL267_3 := n3_; have HO270 := n4_; have HR267_3 := n5_; have HB := n6_; clear n0_ n1_ n2_ n3_ n4_ n5_ n6_; (try clear hb); (try clear hb2); (try clear hk); (try clear hi); (try clear ho0); have p272 : 0 ≤ (x6_1 : Int) := of_decide_eq_true (by first | (with_reducible assumption) | assumption); have q272 : x6_1 < (l0.length : Int) := of_decide_eq_true (by first | (with_reducible assumption) | assumption); obtain ⟨ad272, A272_3, c272_3, e272, hx272_0, hx272_1, hx272_2, hx272_3, hx272_4, hx272_5, hx272_6, hl272_3, hi272_3⟩ := at_T38 (Kd.V_reads' HO_0.out).2.2 x6_1 p272 q272; obtain rfl : ad267 = ad272 := (by injection e272); obtain ⟨ce272, hce272, hMe272, hcc272⟩ := Kd.V_get HO_0.out z38 x6_1 p272 (by first | exact q272 | exact of_decide_eq_true (by first | (with_reducible assumption) | assumption) | (have e_ := (Kd.V_reads' HO_0.out).1; omega)); obtain ⟨ua272_3, uc272_3, rfl, ul272_3, ge272_3⟩ := k38_openF hMe272; have hv272_3 := hcc272 3 _ rfl; rw [add_field _ _ 3 (by omega)] at hv272_3; replace hv272_3 := Option.some.inj (hv272_3.symm.trans hx272_3); injection hv272_3 with hva_ hvn_ hvc_; rw [hva_] at ge272_3; rw [hvc_] at ul272_3; have HL272_3 := Aside0.mk (show Kd.V (Kd.int .u8) 5 _ w.heap.size _ _ ((rd_T38 l0 x6_1).f3) from Kd.V_mk ul272_3 ge272_3); clear hva_ hvn_ hvc_ ge272_3 ul272_3; clear hcc272 hce272; have HR272_3 := Aside0.mk hi272_3; have HC272_3 := Aside0.mk hl272_3; clear hi272_3 hl272_3; replace p272 := eq_true p272; replace q272 := eq_true q272; obtain ⟨Ao15, co15, eo15⟩ := Kd.R_slice HO270.out; subst eo15) | ((with_reducible refine gate_builtin (b := .append) (xs := #[.tmp 45, .tmp 46]) rfl ?_); (try (refine gate_guard (by rfl) ?_; dsimp only)); at_builtin; refine Kd.R_append_rows (Kd.int .u8) (w0 := w) w.heap.size rfl (.tmp 45) (.tmp 46) 27 5 (.int .u8 0) 1 rfl Try.underlying27 info5 rfl (by decide) (by omega) u4 x4_1 t268 _ _ _ (fun k_ => (w.heap.size ≤ k_) ∧ some k_ ≠ (.slice Ao15 t268.length co15 : Value).ownBlock) (fun _ => False) rfl rfl ?aO ?aR (fun _ _ h => h) (fun _ h => h.elim) ?aF ?aB ?aS ?aL ?_; (case aR => repeat (first | exact (Kd.R_reads' HO270.out).2.2 | (with_reducible refine Kd.C_alloc ?_ _) | (with_reducible refine Kd.C_drewN ?_ _) | (with_reducible refine Kd.C_drew ?_))); (case aB => exact (by repeat (first | (with_reducible first | exact HB.out | apply below_alloc | apply pw_below_drewN | apply below_drew1) | exact HB.out))); (case aF => exact (fun k_ hk => ⟨(Nat.le_trans (below_size (by repeat (first | (with_reducible first | exact HB.out | apply below_alloc | apply pw_below_drewN | apply below_drew1) | exact HB.out))) hk), Kd.fresh' (Kd.R_lt (by (with_reducible repeat (first | apply Kd.R_alloc | apply Kd.R_drewN | apply Kd.R_drew)); exact HO270.out)) k_ hk⟩)); (case aO => exact (by (with_reducible repeat (first | apply Kd.R_alloc | apply Kd.R_drewN | apply Kd.R_drew)); exact HO_4.out)); (case aS => exact (below_size (by repeat (first | (with_reducible first | exact HB.out | apply below_alloc | apply pw_below_drewN | apply below_drew1) | exact HB.out)))); (case aL => have := LMc11.out; omega); intro v274 w14 ho hb hg hat; rw [← Ny273.out] at ho; have n0_ := Aside0.mk (Kd.V_afterv (ok := (fun k_ => (P0_ k_ ∨ w.heap.size ≤ k_) ∧ some k_ ≠ (u5 : Value).ownBlock ∧ some k_ ≠ (.slice Ao15 t268.length co15 : Value).ownBlock)) (by (with_reducible repeat (first | apply Kd.V_alloc | apply Kd.V_drewN | apply Kd.V_drew)); exact Kd.V_mono HO_0.out (fun _ hk => ⟨⟨hk.1.1, ⟨hk.1.2.2, hk.2⟩⟩, hk.1.2.1⟩)) hg hat); have n1_ := Aside0.mk (Kd.N_afterv (ok := (fun k_ => (P0_ k_ ∨ w.heap.size ≤ k_) ∧ some k_ ≠ (.slice Ao15 t268.length co15 : Value).ownBlock)) (by (with_reducible repeat (first | apply Kd.N_alloc | apply Kd.N_drewN | apply Kd.N_drew)); exact Kd.N_mono HO_5.out (fun _ hk => ⟨⟨hk.1.1, hk.2⟩, hk.1.2⟩)) hg hat); have n2_ := Aside0.mk (Kd.V_afterv (ok := (fun k_ => (P0_ k_ ∨ w.heap.size ≤ k_) ∧ some k_ ≠ (u5 : Value).ownBlock ∧ some k_ ≠ (.slice Ao15 t268.length co15 : Value).ownBlock)) (by (with_reducible repeat (first | apply Kd.V_alloc | apply Kd.V_drewN | apply Kd.V_drew)); exact Kd.V_mono HL267_3.out (fun _ hk => ⟨⟨hk.1.1, ⟨hk.1.2.2, hk.2⟩⟩, hk.1.2.1⟩)) hg hat); have n3_ := Aside0.mk (Kd.R_after (ok := (fun k_ => (w.heap.size ≤ k_))) (by (with_reducible repeat (first | apply Kd.R_alloc | apply Kd.R_drewN | apply Kd.R_drew)); exact Kd.R_mono HO270.out (fun _ hk => ⟨hk.1.1, hk.2⟩)) hg hat); have n4_ := Aside0.mk (Kd.V_afterv (ok := (fun k_ => (P0_ k_ ∨ w.heap.size ≤ k_) ∧ some k_ ≠ (u5 : Value).ownBlock ∧ some k_ ≠ (.slice Ao15 t268.length co15 : Value).ownBlock)) (by (with_reducible repeat (first | apply Kd.V_alloc | apply Kd.V_drewN | apply Kd.V_drew)); exact Kd.V_mono HL272_3.out (fun _ hk => ⟨⟨hk.1.1, ⟨hk.1.2.2, hk.2⟩⟩, hk.1.2.1⟩)) hg hat); have n5_ := Aside0.mk (hb); have n6_ := Aside0.mk (ho); clear HO_0; clear HO_5; clear HL267_3; clear HO270; clear HL272_3; clear HB; clear HO_4; have HO_0 := n0_; have HO_5 := n1_; have HL267_3 := n2_; have HO270 := n3_; have HL272_3 := n4_; have HB := n5_; have HO275 := n6_; clear n0_ n1_ n2_ n3_ n4_ n5_ n6_; clear ho hb hg hat; have p276 : 0 ≤ (x6_1 : Int) := of_decide_eq_true (by first | (with_reducible assumption) | assumption); have q276 : x6_1 < (l0.length : Int) := of_decide_eq_true (by first | (with_reducible assumption) | assumption); obtain ⟨ad276, A276_3, c276_3, e276, hx276_0, hx276_1, hx276_2, hx276_3, hx276_4, hx276_5, hx276_6, hl276_3, hi276_3⟩ := at_T38 (Kd.V_reads' HO_0.out).2.2 x6_1 p276 q276; obtain rfl : ad267 = ad276 := (by injection e276); obtain ⟨ce276, hce276, hMe276, hcc276⟩ := Kd.V_get HO_0.out z38 x6_1 p276 (by first | exact q276 | exact of_decide_eq_true (by first | (with_reducible assumption) | assumption) | (have e_ := (Kd.V_reads' HO_0.out).1; omega)); obtain ⟨ua276_3, uc276_3, rfl, ul276_3, ge276_3⟩ := k38_openF hMe276; have hv276_3 := hcc276 3 _ rfl; rw [add_field _ _ 3 (by omega)] at hv276_3; replace hv276_3 := Option.some.inj (hv276_3.symm.trans hx276_3); injection hv276_3 with hva_ hvn_ hvc_; rw [hva_] at ge276_3; rw [hvc_] at ul276_3; have HL276_3 := Aside0.mk (show Kd.V (Kd.int .u8) 5 _ w.heap.size _ _ ((rd_T38 l0 x6_1).f3) from Kd.V_mk ul276_3 ge276_3); clear hva_ hvn_ hvc_ ge276_3 ul276_3; clear hcc276 hce276; have HR276_3 := Aside0.mk hi276_3; have HC276_3 := Aside0.mk hl276_3; clear hi276_3 hl276_3; replace p276 := eq_true p276; replace q276 := eq_true q276) | ((with_reducible refine gate_builtin (b := .append) (xs := #[.tmp 48, .tmp 53]) rfl ?_); (try (refine gate_guard (by rfl) ?_; dsimp only)); at_builtin; refine Kd.N_append k38 (w0 := w) w.heap.size rfl (.tmp 48) (.tmp 53) 49 38 (.agg #[(.int .i64 0), (.int .i64 0), (.int .i64 0), (.slice none 0 0), (.int .i64 0), (.int .i64 0), (.int .i64 0)]) 72 rfl Try.underlying49 info38 rfl (by decide) (by omega) u5 x5_1 (⟨(rd_T38 l0 x6_1).f0, (rd_T38 l0 x6_1).f1, (rd_T38 l0 x6_1).f2, (rd_T38 l0 x6_1).f3, (rd_T38 l0 x6_1).f4, (rd_T38 l0 x6_1).f5, (rd_T38 l0 x6_1).f6⟩ : S38) [.int .i64 ((rd_T38 l0 x6_1).f0), .int .i64 ((rd_T38 l0 x6_1).f1), .int .i64 ((rd_T38 l0 x6_1).f2), .slice A276_3 ((rd_T38 l0 x6_1).f3).length c276_3, .int .i64 ((rd_T38 l0 x6_1).f4), .int .i64 ((rd_T38 l0 x6_1).f5), .int .i64 ((rd_T38 l0 x6_1).f6)] (fun k_ => (P0_ k_ ∨ w.heap.size ≤ k_) ∧ some k_ ≠ (.slice Ao15 t268.length co15 : Value).ownBlock ∧ some k_ ≠ (v274 : Value).ownBlock) (fun k_ => ((fun k_ => (P0_ k_ ∨ w.heap.size ≤ k_) ∧ some k_ ≠ (.slice Ao15 t268.length co15 : Value).ownBlock ∧ some k_ ≠ (v274 : Value).ownBlock)) k_ ∧ some k_ ≠ (u5 : Value).ownBlock) rfl rfl ?aP (fun _ hk => hk) ?aF ?aO ?aB ?aS ?aL ?_; (case aP => exact (k38_mkF _ _ (⟨(rd_T38 l0 x6_1).f0, (rd_T38 l0 x6_1).f1, (rd_T38 l0 x6_1).f2, (rd_T38 l0 x6_1).f3, (rd_T38 l0 x6_1).f4, (rd_T38 l0 x6_1).f5, (rd_T38 l0 x6_1).f6⟩ : S38) (Kd.V_reads' (Kd.V_mono (ok' := (fun k_ => ((fun k_ => (P0_ k_ ∨ w.heap.size ≤ k_) ∧ some k_ ≠ (.slice Ao15 t268.length co15 : Value).ownBlock ∧ some k_ ≠ (v274 : Value).ownBlock)) k_ ∧ some k_ ≠ (u5 : Value).ownBlock)) (HL276_3.out) (fun k_ hk => ⟨⟨hk.1.1, ⟨hk.1.2.2, hk.2⟩⟩, hk.1.2.1⟩))).2.1 (Kd.V_F (Kd.V_mono (ok' := (fun k_ => ((fun k_ => (P0_ k_ ∨ w.heap.size ≤ k_) ∧ some k_ ≠ (.slice Ao15 t268.length co15 : Value).ownBlock ∧ some k_ ≠ (v274 : Value).ownBlock)) k_ ∧ some k_ ≠ (u5 : Value).ownBlock)) (HL276_3.out) (fun k_ hk => ⟨⟨hk.1.1, ⟨hk.1.2.2, hk.2⟩⟩, hk.1.2.1⟩))))); (case aB => exact (by repeat (first | (with_reducible first | exact HB.out | apply below_alloc | apply pw_below_drewN | apply below_drew1) | exact HB.out))); (case aF => exact (fun k_ hk => ⟨(.inr (Nat.le_trans (below_size (by repeat (first | (with_reducible first | exact HB.out | apply below_alloc | apply pw_below_drewN | apply below_drew1) | exact HB.out))) hk)), Kd.fresh' (Kd.R_lt (by (with_reducible repeat (first | apply Kd.R_alloc | apply Kd.R_drewN | apply Kd.R_drew)); exact HO270.out)) k_ hk, Kd.fresh' (Kd.R_lt (by (with_reducible repeat (first | apply Kd.R_alloc | apply Kd.R_drewN | apply Kd.R_drew)); exact HO275.out)) k_ hk⟩)); (case aO => exact (by (with_reducible repeat (first | apply Kd.N_alloc | apply Kd.N_drewN | apply Kd.N_drew)); exact Kd.N_mono HO_5.out (fun _ hk => ⟨hk.1.1, ⟨hk.1.2, hk.2⟩⟩))); (case aS => exact (below_size (by repeat (first | (with_reducible first | exact HB.out | apply below_alloc | apply pw_below_drewN | apply below_drew1) | exact HB.out)))); (case aL => have := LMc12.out; omega); intro v278 w16 ho hb hg hat; rw [← Ny277.out] at ho; have n0_ := Aside0.mk (Kd.V_afterv (ok := (fun k_ => (P0_ k_ ∨ w.heap.size ≤ k_) ∧ some k_ ≠ (.slice Ao15 t268.length co15 : Value).ownBlock ∧ some k_ ≠ (v274 : Value).ownBlock)) (by (with_reducible repeat (first | apply Kd.V_alloc | apply Kd.V_drewN | apply Kd.V_drew)); exact Kd.V_mono HO_0.out (fun _ hk => ⟨⟨hk.1.1, ⟨hk.1.2.2, hk.2⟩⟩, hk.1.2.1⟩)) hg hat); have n1_ := Aside0.mk (Kd.V_afterv (ok := (fun k_ => (P0_ k_ ∨ w.heap.size ≤ k_) ∧ some k_ ≠ (.slice Ao15 t268.length co15 : Value).ownBlock ∧ some k_ ≠ (v274 : Value).ownBlock)) (by (with_reducible repeat (first | apply Kd.V_alloc | apply Kd.V_drewN | apply Kd.V_drew)); exact Kd.V_mono HL267_3.out (fun _ hk => ⟨⟨hk.1.1, ⟨hk.1.2.2, hk.2⟩⟩, hk.1.2.1⟩)) hg hat); have n2_ := Aside0.mk (Kd.R_over' (by (with_reducible repeat (first | apply Kd.R_alloc | apply Kd.R_drewN | apply Kd.R_drew)); exact HO270.out) (Kd.N_typed (by (with_reducible repeat (first | apply Kd.N_alloc | apply Kd.N_drewN | apply Kd.N_drew)); exact HO_5.out)) (by decide) hg); have n3_ := Aside0.mk (Kd.V_afterv (ok := (fun k_ => (P0_ k_ ∨ w.heap.size ≤ k_) ∧ some k_ ≠ (.slice Ao15 t268.length co15 : Value).ownBlock ∧ some k_ ≠ (v274 : Value).ownBlock)) (by (with_reducible repeat (first | apply Kd.V_alloc | apply Kd.V_drewN | apply Kd.V_drew)); exact Kd.V_mono HL272_3.out (fun _ hk => ⟨⟨hk.1.1, ⟨hk.1.2.2, hk.2⟩⟩, hk.1.2.1⟩)) hg hat); have n4_ := Aside0.mk (Kd.R_over' (by (with_reducible repeat (first | apply Kd.R_alloc | apply Kd.R_drewN | apply Kd.R_drew)); exact HO275.out) (Kd.N_typed (by (with_reducible repeat (first | apply Kd.N_alloc | apply Kd.N_drewN | apply Kd.N_drew)); exact HO_5.out)) (by decide) hg); have n5_ := Aside0.mk (Kd.V_afterv (ok := (fun k_ => (P0_ k_ ∨ w.heap.size ≤ k_) ∧ some k_ ≠ (.slice Ao15 t268.length co15 : Value).ownBlock ∧ some k_ ≠ (v274 : Value).ownBlock)) (by (with_reducible repeat (first | apply Kd.V_alloc | apply Kd.V_drewN | apply Kd.V_drew)); exact Kd.V_mono HL276_3.out (fun _ hk => ⟨⟨hk.1.1, ⟨hk.1.2.2, hk.2⟩⟩, hk.1.2.1⟩)) hg hat); have n6_ := Aside0.mk (hb); have n7_ := Aside0.mk (ho); clear HO_0; clear HL267_3; clear HO270; clear HL272_3; clear HO275; clear HL276_3; clear HB; clear HO_5; have HO_0 := n0_; have HL267_3 := n1_; have HO270 := n2_; have HL272_3 := n3_; have HO275 := n4_; have HL276_3 := n5_; have HB := n6_; have HO279 := n7_; clear n0_ n1_ n2_ n3_ n4_ n5_ n6_ n7_; clear ho hb hg hat))
          go_roundg k1
          case measure => have := HK1.out; omega
          case rel => exact ⟨(y273), (y277), (wrap64 (x6_1 + 1)), (by first | rfl | (simp; done) | (simp [*]; done)), H', ⟨by have := HK1.out; omega⟩, ⟨by (with_reducible repeat (first | apply Kd.V_alloc | apply Kd.V_drewN | apply Kd.V_drew)); exact Kd.V_mono HO_0.out (fun _ hk => ⟨hk.1.1, ⟨hk.1.2.2, hk.2⟩⟩)⟩, ⟨by (with_reducible repeat (first | apply Kd.R_alloc | apply Kd.R_drewN | apply Kd.R_drew)); exact Kd.R_mono HO275.out (fun _ hk => hk.1)⟩, ⟨by (with_reducible repeat (first | apply Kd.N_alloc | apply Kd.N_drewN | apply Kd.N_drew)); exact Kd.N_mono HO279.out (fun _ hk => ⟨hk.1, hk.2.2⟩)⟩, ⟨by repeat (first | (with_reducible first | exact HB.out | apply below_alloc | apply pw_below_drewN | apply below_drew1) | exact HB.out)⟩⟩
         ·rw [if_neg c12] at H
          exact absurd H (by simp)
        ·rw [if_neg c11] at H
         exact absurd H (by simp)
       ·rw [if_neg c10] at H
        have c10b0 : (t271 == 0) = false := beq_eq_false_iff_ne.mpr c10
        have c10b1 : (t271 != 0) = true := bne_iff_ne.mpr c10
        have H' := Aside0.mk H
        clear H
        have p267 : 0 ≤ (x6_1 : Int) := of_decide_eq_true (by first | (with_reducible assumption) | assumption)
        have q267 : x6_1 < (l0.length : Int) := of_decide_eq_true (by first | (with_reducible assumption) | assumption)
        obtain ⟨ad267, A267_3, c267_3, e267, hx267_0, hx267_1, hx267_2, hx267_3, hx267_4, hx267_5, hx267_6, hl267_3, hi267_3⟩ := at_T38 (Kd.V_reads' HO_0.out).2.2 x6_1 p267 q267
        cases e267
        obtain ⟨ce267, hce267, hMe267, hcc267⟩ := Kd.V_get HO_0.out z38 x6_1 p267 (by first | exact q267 | exact of_decide_eq_true (by first | (with_reducible assumption) | assumption) | (have e_ := (Kd.V_reads' HO_0.out).1; omega))
        obtain ⟨ua267_3, uc267_3, rfl, ul267_3, ge267_3⟩ := k38_openF hMe267
        have hv267_3 := hcc267 3 _ rfl
        rw [add_field _ _ 3 (by omega)] at hv267_3
        replace hv267_3 := Option.some.inj (hv267_3.symm.trans hx267_3)
        injection hv267_3 with hva_ hvn_ hvc_
        rw [hva_] at ge267_3
        rw [hvc_] at ul267_3
        have HL267_3 := Aside0.mk (show Kd.V (Kd.int .u8) 5 _ w.heap.size _ _ ((rd_T38 l0 x6_1).f3) from Kd.V_mk ul267_3 ge267_3)
        clear hva_ hvn_ hvc_ ge267_3 ul267_3
        clear hcc267 hce267
        have HR267_3 := Aside0.mk hi267_3
        have HC267_3 := Aside0.mk hl267_3
        clear hi267_3 hl267_3
        replace p267 := eq_true p267
        replace q267 := eq_true q267
        go_wp2_with (first | ((with_reducible refine gate_callee (f := 19) rfl ?_); refine goesL_ (some 31) rfl rfl Try.func19 (by kernel_rfl) rfl #[.agg #[.int .i64 ((rd_T38 l0 x6_1).f0), .int .i64 ((rd_T38 l0 x6_1).f1), .int .i64 ((rd_T38 l0 x6_1).f2), .slice A267_3 ((rd_T38 l0 x6_1).f3).length c267_3, .int .i64 ((rd_T38 l0 x6_1).f4), .int .i64 ((rd_T38 l0 x6_1).f5), .int .i64 ((rd_T38 l0 x6_1).f6)]] rfl (by (try simp only [List.map_toArray, List.map_cons, List.map_nil]); first | done | rfl | (simp only [List.length_drop, List.length_take]; rfl)) ?_; (with_reducible refine (frame_Write.calls ((rd_T38 l0 x6_1).f0) ((rd_T38 l0 x6_1).f1) ((rd_T38 l0 x6_1).f2) _ _ ((rd_T38 l0 x6_1).f3) ((rd_T38 l0 x6_1).f4) ((rd_T38 l0 x6_1).f5) ((rd_T38 l0 x6_1).f6) t268 t271 _ ?side1 ?side2 A8.out).mono ?_); (case side1 => repeat (first | exact (by repeat (first | (with_reducible exact HR267_3.out) | (with_reducible refine Kd.C_alloc ?_ _) | (with_reducible refine Kd.C_drewN ?_ _) | (with_reducible refine Kd.C_drew ?_) | exact HR267_3.out)) | (with_reducible refine Kd.C_alloc ?_ _) | (with_reducible refine Kd.C_drewN ?_ _) | (with_reducible refine Kd.C_drew ?_))); (case side2 => exact HC267_3.out); rintro e w17 ⟨v269, rfl, ho0, hb⟩; refine ⟨_, rfl, ?_⟩; have n0_ := Aside0.mk (Kd.V_elder' (by (with_reducible repeat (first | apply Kd.V_alloc | apply Kd.V_drewN | apply Kd.V_drew)); exact HO_0.out) (Kd.R_base ho0) hb); have n1_ := Aside0.mk (Kd.R_elder' (by (with_reducible repeat (first | apply Kd.R_alloc | apply Kd.R_drewN | apply Kd.R_drew)); exact HO_4.out) (Kd.R_base ho0) hb); have n2_ := Aside0.mk (Kd.N_elder' (by (with_reducible repeat (first | apply Kd.N_alloc | apply Kd.N_drewN | apply Kd.N_drew)); exact HO_5.out) (Kd.R_base ho0) hb); have n3_ := Aside0.mk (Kd.V_elder' (by (with_reducible repeat (first | apply Kd.V_alloc | apply Kd.V_drewN | apply Kd.V_drew)); exact HL267_3.out) (Kd.R_base ho0) hb); have n4_ := Aside0.mk (Kd.R_lower (Kd.R_new' (Kd.R_newM (M := fun k_ => (w.heap.size ≤ k_)) ho0 (below_size (by repeat (first | (with_reducible first | exact HB.out | apply below_alloc | apply pw_below_drewN | apply below_drew1) | exact HB.out))) (fun k_ h_ => h_)) (Kd.R_lt (by (with_reducible repeat (first | apply Kd.R_alloc | apply Kd.R_drewN | apply Kd.R_drew)); exact HO_4.out))) (below_size (by repeat (first | (with_reducible first | exact HB.out | apply below_alloc | apply pw_below_drewN | apply below_drew1) | exact HB.out)))); have n5_ := Aside0.mk (Kd.C_below (by repeat (first | (with_reducible exact HR267_3.out) | (with_reducible refine Kd.C_alloc ?_ _) | (with_reducible refine Kd.C_drewN ?_ _) | (with_reducible refine Kd.C_drew ?_) | exact HR267_3.out)) hb); have n6_ := Aside0.mk (below_step (by repeat (first | (with_reducible first | exact HB.out | apply below_alloc | apply pw_below_drewN | apply below_drew1) | exact HB.out)) hb); clear HO_0; clear HO_4; clear HO_5; clear HL267_3; clear HR267_3; clear HB; have HO_0 := n0_; have HO_4 := n1_; have HO_5 := n2_; have HL267_3 := n3_; have HO270 := n4_; have HR267_3 := n5_; have HB := n6_; clear n0_ n1_ n2_ n3_ n4_ n5_ n6_; (try clear hb); (try clear hb2); (try clear hk); (try clear hi); (try clear ho0); have p272 : 0 ≤ (x6_1 : Int) := of_decide_eq_true (by first | (with_reducible assumption) | assumption); have q272 : x6_1 < (l0.length : Int) := of_decide_eq_true (by first | (with_reducible assumption) | assumption); obtain ⟨ad272, A272_3, c272_3, e272, hx272_0, hx272_1, hx272_2, hx272_3, hx272_4, hx272_5, hx272_6, hl272_3, hi272_3⟩ := at_T38 (Kd.V_reads' HO_0.out).2.2 x6_1 p272 q272; obtain rfl : ad267 = ad272 := (by injection e272); obtain ⟨ce272, hce272, hMe272, hcc272⟩ := Kd.V_get HO_0.out z38 x6_1 p272 (by first | exact q272 | exact of_decide_eq_true (by first | (with_reducible assumption) | assumption) | (have e_ := (Kd.V_reads' HO_0.out).1; omega)); obtain ⟨ua272_3, uc272_3, rfl, ul272_3, ge272_3⟩ := k38_openF hMe272; have hv272_3 := hcc272 3 _ rfl; rw [add_field _ _ 3 (by omega)] at hv272_3; replace hv272_3 := Option.some.inj (hv272_3.symm.trans hx272_3); injection hv272_3 with hva_ hvn_ hvc_; rw [hva_] at ge272_3; rw [hvc_] at ul272_3; have HL272_3 := Aside0.mk (show Kd.V (Kd.int .u8) 5 _ w.heap.size _ _ ((rd_T38 l0 x6_1).f3) from Kd.V_mk ul272_3 ge272_3); clear hva_ hvn_ hvc_ ge272_3 ul272_3; clear hcc272 hce272; have HR272_3 := Aside0.mk hi272_3; have HC272_3 := Aside0.mk hl272_3; clear hi272_3 hl272_3; replace p272 := eq_true p272; replace q272 := eq_true q272))
        go_roundg k1
        case measure => have := HK1.out; omega
        case rel => exact ⟨(x4_1), (x5_1), (wrap64 (x6_1 + 1)), (by first | rfl | (simp; done) | (simp [*]; done)), H', ⟨by have := HK1.out; omega⟩, ⟨by (with_reducible repeat (first | apply Kd.V_alloc | apply Kd.V_drewN | apply Kd.V_drew)); exact Kd.V_mono HO_0.out (fun _ hk => ⟨hk.1.1, ⟨hk.1.2.1, hk.1.2.2⟩⟩)⟩, ⟨by (with_reducible repeat (first | apply Kd.R_alloc | apply Kd.R_drewN | apply Kd.R_drew)); exact Kd.R_mono HO_4.out (fun _ hk => hk.1)⟩, ⟨by (with_reducible repeat (first | apply Kd.N_alloc | apply Kd.N_drewN | apply Kd.N_drew)); exact Kd.N_mono HO_5.out (fun _ hk => ⟨hk.1.1, hk.1.2⟩)⟩, ⟨by repeat (first | (with_reducible first | exact HB.out | apply below_alloc | apply pw_below_drewN | apply below_drew1) | exact HB.out)⟩⟩
      ·rw [if_neg c9] at H
       have c9b0 : decide ((((rd_T38 l0 x6_1).f3).length : Int) ≤ 5000) = false := decide_eq_false c9
       have c9b1 : decide (((rd_T38 l0 x6_1).f3).length ≤ 5000) = false := decide_eq_false (by omega)
       clear c9
       have H' := Aside0.mk H
       clear H
       have p267 : 0 ≤ (x6_1 : Int) := of_decide_eq_true (by first | (with_reducible assumption) | assumption)
       have q267 : x6_1 < (l0.length : Int) := of_decide_eq_true (by first | (with_reducible assumption) | assumption)
       obtain ⟨ad267, A267_3, c267_3, e267, hx267_0, hx267_1, hx267_2, hx267_3, hx267_4, hx267_5, hx267_6, hl267_3, hi267_3⟩ := at_T38 (Kd.V_reads' HO_0.out).2.2 x6_1 p267 q267
       cases e267
       obtain ⟨ce267, hce267, hMe267, hcc267⟩ := Kd.V_get HO_0.out z38 x6_1 p267 (by first | exact q267 | exact of_decide_eq_true (by first | (with_reducible assumption) | assumption) | (have e_ := (Kd.V_reads' HO_0.out).1; omega))
       obtain ⟨ua267_3, uc267_3, rfl, ul267_3, ge267_3⟩ := k38_openF hMe267
       have hv267_3 := hcc267 3 _ rfl
       rw [add_field _ _ 3 (by omega)] at hv267_3
       replace hv267_3 := Option.some.inj (hv267_3.symm.trans hx267_3)
       injection hv267_3 with hva_ hvn_ hvc_
       rw [hva_] at ge267_3
       rw [hvc_] at ul267_3
       have HL267_3 := Aside0.mk (show Kd.V (Kd.int .u8) 5 _ w.heap.size _ _ ((rd_T38 l0 x6_1).f3) from Kd.V_mk ul267_3 ge267_3)
       clear hva_ hvn_ hvc_ ge267_3 ul267_3
       clear hcc267 hce267
       have HR267_3 := Aside0.mk hi267_3
       have HC267_3 := Aside0.mk hl267_3
       clear hi267_3 hl267_3
       replace p267 := eq_true p267
       replace q267 := eq_true q267
       go_wp2_with (first | ((with_reducible refine gate_callee (f := 19) rfl ?_); refine goesL_ (some 31) rfl rfl Try.func19 (by kernel_rfl) rfl #[.agg #[.int .i64 ((rd_T38 l0 x6_1).f0), .int .i64 ((rd_T38 l0 x6_1).f1), .int .i64 ((rd_T38 l0 x6_1).f2), .slice A267_3 ((rd_T38 l0 x6_1).f3).length c267_3, .int .i64 ((rd_T38 l0 x6_1).f4), .int .i64 ((rd_T38 l0 x6_1).f5), .int .i64 ((rd_T38 l0 x6_1).f6)]] rfl (by (try simp only [List.map_toArray, List.map_cons, List.map_nil]); first | done | rfl | (simp only [List.length_drop, List.length_take]; rfl)) ?_; (with_reducible refine (frame_Write.calls ((rd_T38 l0 x6_1).f0) ((rd_T38 l0 x6_1).f1) ((rd_T38 l0 x6_1).f2) _ _ ((rd_T38 l0 x6_1).f3) ((rd_T38 l0 x6_1).f4) ((rd_T38 l0 x6_1).f5) ((rd_T38 l0 x6_1).f6) t268 t271 _ ?side1 ?side2 A8.out).mono ?_); (case side1 => repeat (first | exact (by repeat (first | (with_reducible exact HR267_3.out) | (with_reducible refine Kd.C_alloc ?_ _) | (with_reducible refine Kd.C_drewN ?_ _) | (with_reducible refine Kd.C_drew ?_) | exact HR267_3.out)) | (with_reducible refine Kd.C_alloc ?_ _) | (with_reducible refine Kd.C_drewN ?_ _) | (with_reducible refine Kd.C_drew ?_))); (case side2 => exact HC267_3.out); rintro e w18 ⟨v269, rfl, ho0, hb⟩; refine ⟨_, rfl, ?_⟩; have n0_ := Aside0.mk (Kd.V_elder' (by (with_reducible repeat (first | apply Kd.V_alloc | apply Kd.V_drewN | apply Kd.V_drew)); exact HO_0.out) (Kd.R_base ho0) hb); have n1_ := Aside0.mk (Kd.R_elder' (by (with_reducible repeat (first | apply Kd.R_alloc | apply Kd.R_drewN | apply Kd.R_drew)); exact HO_4.out) (Kd.R_base ho0) hb); have n2_ := Aside0.mk (Kd.N_elder' (by (with_reducible repeat (first | apply Kd.N_alloc | apply Kd.N_drewN | apply Kd.N_drew)); exact HO_5.out) (Kd.R_base ho0) hb); have n3_ := Aside0.mk (Kd.V_elder' (by (with_reducible repeat (first | apply Kd.V_alloc | apply Kd.V_drewN | apply Kd.V_drew)); exact HL267_3.out) (Kd.R_base ho0) hb); have n4_ := Aside0.mk (Kd.R_lower (Kd.R_new' (Kd.R_newM (M := fun k_ => (w.heap.size ≤ k_)) ho0 (below_size (by repeat (first | (with_reducible first | exact HB.out | apply below_alloc | apply pw_below_drewN | apply below_drew1) | exact HB.out))) (fun k_ h_ => h_)) (Kd.R_lt (by (with_reducible repeat (first | apply Kd.R_alloc | apply Kd.R_drewN | apply Kd.R_drew)); exact HO_4.out))) (below_size (by repeat (first | (with_reducible first | exact HB.out | apply below_alloc | apply pw_below_drewN | apply below_drew1) | exact HB.out)))); have n5_ := Aside0.mk (Kd.C_below (by repeat (first | (with_reducible exact HR267_3.out) | (with_reducible refine Kd.C_alloc ?_ _) | (with_reducible refine Kd.C_drewN ?_ _) | (with_reducible refine Kd.C_drew ?_) | exact HR267_3.out)) hb); have n6_ := Aside0.mk (below_step (by repeat (first | (with_reducible first | exact HB.out | apply below_alloc | apply pw_below_drewN | apply below_drew1) | exact HB.out)) hb); clear HO_0; clear HO_4; clear HO_5; clear HL267_3; clear HR267_3; clear HB; have HO_0 := n0_; have HO_4 := n1_; have HO_5 := n2_; have HL267_3 := n3_; have HO270 := n4_; have HR267_3 := n5_; have HB := n6_; clear n0_ n1_ n2_ n3_ n4_ n5_ n6_; (try clear hb); (try clear hb2); (try clear hk); (try clear hi); (try clear ho0); have p272 : 0 ≤ (x6_1 : Int) := of_decide_eq_true (by first | (with_reducible assumption) | assumption); have q272 : x6_1 < (l0.length : Int) := of_decide_eq_true (by first | (with_reducible assumption) | assumption); obtain ⟨ad272, A272_3, c272_3, e272, hx272_0, hx272_1, hx272_2, hx272_3, hx272_4, hx272_5, hx272_6, hl272_3, hi272_3⟩ := at_T38 (Kd.V_reads' HO_0.out).2.2 x6_1 p272 q272; obtain rfl : ad267 = ad272 := (by injection e272); obtain ⟨ce272, hce272, hMe272, hcc272⟩ := Kd.V_get HO_0.out z38 x6_1 p272 (by first | exact q272 | exact of_decide_eq_true (by first | (with_reducible assumption) | assumption) | (have e_ := (Kd.V_reads' HO_0.out).1; omega)); obtain ⟨ua272_3, uc272_3, rfl, ul272_3, ge272_3⟩ := k38_openF hMe272; have hv272_3 := hcc272 3 _ rfl; rw [add_field _ _ 3 (by omega)] at hv272_3; replace hv272_3 := Option.some.inj (hv272_3.symm.trans hx272_3); injection hv272_3 with hva_ hvn_ hvc_; rw [hva_] at ge272_3; rw [hvc_] at ul272_3; have HL272_3 := Aside0.mk (show Kd.V (Kd.int .u8) 5 _ w.heap.size _ _ ((rd_T38 l0 x6_1).f3) from Kd.V_mk ul272_3 ge272_3); clear hva_ hvn_ hvc_ ge272_3 ul272_3; clear hcc272 hce272; have HR272_3 := Aside0.mk hi272_3; have HC272_3 := Aside0.mk hl272_3; clear hi272_3 hl272_3; replace p272 := eq_true p272; replace q272 := eq_true q272))
       go_roundg k1
       case measure => have := HK1.out; omega
       case rel => exact ⟨(x4_1), (x5_1), (wrap64 (x6_1 + 1)), (by first | rfl | (simp; done) | (simp [*]; done)), H', ⟨by have := HK1.out; omega⟩, ⟨by (with_reducible repeat (first | apply Kd.V_alloc | apply Kd.V_drewN | apply Kd.V_drew)); exact Kd.V_mono HO_0.out (fun _ hk => ⟨hk.1.1, ⟨hk.1.2.1, hk.1.2.2⟩⟩)⟩, ⟨by (with_reducible repeat (first | apply Kd.R_alloc | apply Kd.R_drewN | apply Kd.R_drew)); exact Kd.R_mono HO_4.out (fun _ hk => hk.1)⟩, ⟨by (with_reducible repeat (first | apply Kd.N_alloc | apply Kd.N_drewN | apply Kd.N_drew)); exact Kd.N_mono HO_5.out (fun _ hk => ⟨hk.1.1, hk.1.2⟩)⟩, ⟨by repeat (first | (with_reducible first | exact HB.out | apply below_alloc | apply pw_below_drewN | apply below_drew1) | exact HB.out)⟩⟩
     ·rw [if_neg c7] at H
      exact absurd H (by simp)
    ·rw [if_neg c6] at H
     have c6b0 : decide (x6_1 < (l0.length : Int)) = false := decide_eq_false c6
     clear c6
     have H' := Aside0.mk H
     clear H
     go_wp2
     go_loopg [9, 10] k1 (fun kq v9 v10 w' => ∃ (x9_2 : Int) (x10_2 : Int), v9 = .int .i64 x9_2 ∧ v10 = .int .i64 x10_2 ∧ Aside0 (waggonerlaw16_FrameGoes.l1 kq t266 x4_1 x5_1 x9_2 x10_2 = some true) ∧ Aside0 (kq ≤ k1) ∧ Aside0 (Kd.R (Kd.int .u8) 5 w' w.heap.size (fun k_ => (w.heap.size ≤ k_)) u4 x4_1) ∧ Aside0 (Kd.N k38 38 w' w.heap.size (fun k_ => (P0_ k_ ∨ w.heap.size ≤ k_) ∧ some k_ ≠ (u4 : Value).ownBlock) u5 x5_1) ∧ Aside0 (Below w.heap.size w w'))
     case atStart => exact ⟨(0), (0), (by first | rfl | (simp; done) | (simp [*]; done)), (by first | rfl | (simp; done) | (simp [*]; done)), H', ⟨Nat.le_refl _⟩, ⟨by (with_reducible repeat (first | apply Kd.R_alloc | apply Kd.R_drewN | apply Kd.R_drew)); exact HO_4.out⟩, ⟨by (with_reducible repeat (first | apply Kd.N_alloc | apply Kd.N_drewN | apply Kd.N_drew)); exact HO_5.out⟩, ⟨by repeat (first | (with_reducible first | exact HB.out | apply below_alloc | apply pw_below_drewN | apply below_drew1) | exact HB.out)⟩⟩
     case round =>
      clear H'
      try clear c1
      try clear c2
      try clear p2
      try clear q2
      try clear hx2
      try clear c3
      try clear c3b0
      try clear c3b1
      try clear c6
      try clear c6b0
      try clear p6
      try clear c7
      try clear c7b0
      try clear c9
      try clear c9b0
      try clear c9b1
      try clear c10
      try clear c10b0
      try clear c10b1
      try clear c11
      try clear c12
      try clear c18
      try clear hx267_0
      try clear hx267_1
      try clear hx267_2
      try clear hx267_3
      try clear hx267_4
      try clear hx267_5
      try clear hx267_6
      try clear hx272_0
      try clear hx272_1
      try clear hx272_2
      try clear hx272_3
      try clear hx272_4
      try clear hx272_5
      try clear hx272_6
      try clear hx276_0
      try clear hx276_1
      try clear hx276_2
      try clear hx276_3
      try clear hx276_4
      try clear hx276_5
      try clear hx276_6
      try clear p2
      try clear p267
      try clear p272
      try clear p276
      try clear q267
      try clear q272
      try clear q276
      obtain ⟨x9_2, x10_2, rfl, rfl, HA, HK2, HO_4, HO_5, HB⟩ := hrel
      cases gk with
      | zero => exact absurd HA.out (by simp [waggonerlaw16_FrameGoes.l1])
      | succ k2 =>
       have H := HA.out
       clear HA
       simp only [waggonerlaw16_FrameGoes.l1] at H
       by_cases c19 : x10_2 < (x5_1.length : Int)
       ·rw [if_pos c19] at H
        have c19b0 : decide (x10_2 < (x5_1.length : Int)) = true := decide_eq_true c19
        clear c19
        by_cases c20 : 0 ≤ x9_2
        ·rw [if_pos c20] at H
         have c20b0 := eq_true c20
         have c20b1 : decide (0 ≤ x9_2) = true := decide_eq_true c20
         clear c20
         by_cases c21 : x9_2 ≤ (x4_1.length : Int)
         ·rw [if_pos c21] at H
          have c21b0 := eq_true c21
          have c21b1 : decide (x9_2 ≤ (x4_1.length : Int)) = true := decide_eq_true c21
          clear c21
          obtain ⟨y280, hy280⟩ : ∃ y_ : List Int, y_ = (x4_1.drop (x9_2 : Int).toNat) := ⟨_, rfl⟩
          replace H : ((frame_Read.f y280).bind fun bt285 => (if 0 ≤ x10_2 then ((waggonerref16_Same.f bt285.1 bt285.2.1 bt285.2.2.1 bt285.2.2.2.1 bt285.2.2.2.2.1 bt285.2.2.2.2.2.1 bt285.2.2.2.2.2.2.1 ((rd_T38 x5_1 x10_2).f0) ((rd_T38 x5_1 x10_2).f1) ((rd_T38 x5_1 x10_2).f2) ((rd_T38 x5_1 x10_2).f3) ((rd_T38 x5_1 x10_2).f4) ((rd_T38 x5_1 x10_2).f5) ((rd_T38 x5_1 x10_2).f6)).bind fun t298 => (if bt285.2.2.2.2.2.2.2.2 = 0 then (if t298 = true then (if bt285.2.2.2.2.2.2.2.1 < 9 then (some false) else (if bt285.2.2.2.2.2.2.2.1 > (wrap64 ((x4_1.length : Int) - x9_2)) then (some false) else (waggonerlaw16_FrameGoes.l1 k2 t266 x4_1 x5_1 (wrap64 (x9_2 + bt285.2.2.2.2.2.2.2.1)) (wrap64 (x10_2 + 1))))) else (some false)) else (some false))) else (none))) = some true := by first | (rw [hy280]; with_reducible exact H) | (have H2_ := (Option.bind_some _ _).symm.trans H; rw [hy280]; with_reducible exact H2_) | (have H2_ := (Option.bind_some _ _).symm.trans H; with_reducible exact H2_) | with_reducible exact H | (rw [hy280]; exact H) | exact H
          have Ny280 := Aside0.mk hy280
          clear hy280
          replace H := Option.bind_eq_some_iff.mp H
          obtain ⟨⟨t285, t286, t287, t288, t291, t292, t293, t294, t295⟩, A220, H⟩ := H
          replace H : (if 0 ≤ x10_2 then ((waggonerref16_Same.f t285 t286 t287 t288 t291 t292 t293 ((rd_T38 x5_1 x10_2).f0) ((rd_T38 x5_1 x10_2).f1) ((rd_T38 x5_1 x10_2).f2) ((rd_T38 x5_1 x10_2).f3) ((rd_T38 x5_1 x10_2).f4) ((rd_T38 x5_1 x10_2).f5) ((rd_T38 x5_1 x10_2).f6)).bind fun t298 => (if t295 = 0 then (if t298 = true then (if t294 < 9 then (some false) else (if t294 > (wrap64 ((x4_1.length : Int) - x9_2)) then (some false) else (waggonerlaw16_FrameGoes.l1 k2 t266 x4_1 x5_1 (wrap64 (x9_2 + t294)) (wrap64 (x10_2 + 1))))) else (some false)) else (some false))) else (none)) = some true := H
          have A22 := Aside0.mk A220
          clear A220
          by_cases c23 : 0 ≤ x10_2
          ·rw [if_pos c23] at H
           have c23b0 : decide (0 ≤ x10_2) = true := decide_eq_true c23
           clear c23
           replace H := Option.bind_eq_some_iff.mp H
           obtain ⟨t298, A240, H⟩ := H
           replace H : (if t295 = 0 then (if t298 = true then (if t294 < 9 then (some false) else (if t294 > (wrap64 ((x4_1.length : Int) - x9_2)) then (some false) else (waggonerlaw16_FrameGoes.l1 k2 t266 x4_1 x5_1 (wrap64 (x9_2 + t294)) (wrap64 (x10_2 + 1))))) else (some false)) else (some false)) = some true := H
           have A24 := Aside0.mk A240
           clear A240
           by_cases c25 : t295 = 0
           ·rw [if_pos c25] at H
            have c25b0 : (t295 == 0) = true := beq_iff_eq.mpr c25
            have c25b1 : (t295 != 0) = false := bne_eq_false_iff_eq.mpr c25
            clear c25
            by_cases c26 : t298 = true
            ·subst c26
             have H1 : (if t294 < 9 then (some false) else (if t294 > (wrap64 ((x4_1.length : Int) - x9_2)) then (some false) else (waggonerlaw16_FrameGoes.l1 k2 t266 x4_1 x5_1 (wrap64 (x9_2 + t294)) (wrap64 (x10_2 + 1))))) = some true := by rw [if_pos rfl] at H <;> exact H
             clear H
             have H := H1
             clear H1
             by_cases c27 : t294 < 9
             ·rw [if_pos c27] at H
              have c27b0 : decide (t294 < 9) = true := decide_eq_true c27
              clear c27
              (have HRT := Aside0.mk (Option.some.inj H); clear H)
              obtain ⟨Ao28, co28, eo28⟩ := Kd.N_slice HO_5.out
              subst eo28
              obtain ⟨Ao30, co30, eo30⟩ := Kd.R_slice HO_4.out
              subst eo30
              have q29 : (x9_2 : Int) ≤ ((x4_1.length : Int) : Int) := of_decide_eq_true (by first | (with_reducible assumption) | assumption)
              obtain ⟨i029, hi029, _, hsz29, _⟩ := info_parts info5
              have hroom29 : x4_1.length ≤ co30 := (Kd.R_reads' HO_4.out).2.1
              have hC29 : Kd.F (Kd.int .u8) _ _ Ao30 x4_1.length x4_1 := (Kd.V_at (base := w.heap.size) (Kd.V_mono (ok' := (fun k_ => ((P0_ k_ ∨ w.heap.size ≤ k_) ∧ some k_ ≠ (.slice Ao28 x5_1.length co28 : Value).ownBlock))) (Kd.R_V (Kd.R_apart' (HO_4.out) (Kd.N_typed HO_5.out) (by decide))) (fun k_ hk => ⟨(.inr (hk.1)), hk.2⟩))).2.2
              have q029 : (0 : Int) ≤ (x9_2 : Int) := of_decide_eq_true (by first | (with_reducible assumption) | assumption)
              have hcut29 := cut_from (P := Try.prog) 27 5 .i64 Try.underlying27 hi029 1 hsz29 Ao30 x4_1.length co30 x9_2 q029 q29
              have hr29 := Kd.F_cut (m := (x9_2 : Int).toNat) (c := co30) hC29 (by omega) hroom29
              obtain ⟨A29, hA29⟩ : ∃ A1, A1 = (if co30 = (x9_2 : Int).toNat then Ao30 else (Ao30 : Option Addr).map (·.add ((x9_2 : Int).toNat * 1))) := ⟨_, rfl⟩
              obtain ⟨c29, hc29⟩ : ∃ c1, c1 = co30 - (x9_2 : Int).toNat := ⟨_, rfl⟩
              have hy29 : y280.length = x4_1.length - (x9_2 : Int).toNat := (by rw [Ny280.out, List.length_drop] <;> omega)
              rw [show (x4_1).drop (x9_2 : Int).toNat = y280 from Ny280.out.symm] at hr29
              replace hr29 : Kd.F (Kd.int .u8) _ _ A29 y280.length y280 := (by rw [hA29]; exact hr29)
              rw [← hy29, ← hA29, ← hc29] at hcut29
              have HO284 := Aside0.mk (show Kd.V (Kd.int .u8) 5 _ w.heap.size _ (.slice A29 y280.length c29) y280 from Kd.V_mk (by rw [hy29, hc29]; exact Nat.sub_le_sub_right hroom29 _) hr29)
              have HC284 := Aside0.mk (show y280.length ≤ c29 from by rw [hy29, hc29]; exact Nat.sub_le_sub_right hroom29 _)
              clear hr29 hC29 hroom29 hi029 hsz29 hc29
              have KY29 := Aside0.mk hy29
              have KA29 := Aside0.mk hA29
              clear hy29 hA29
              replace q29 := eq_true q29
              try go_wp2_with (first | ((with_reducible refine gate_callee (f := 21) rfl ?_); refine goesL_ (some 65) rfl rfl Try.func21 (by kernel_rfl) rfl #[.slice A29 y280.length c29] rfl (by (try simp only [List.map_toArray, List.map_cons, List.map_nil]); first | done | rfl | (simp only [List.length_drop, List.length_take]; rfl)) ?_; (with_reducible refine (frame_Read.calls _ _ y280 t285 t286 t287 t288 t291 t292 t293 t294 t295 _ ?side1 ?side2 A22.out).mono ?_); (case side1 => repeat (first | exact (Kd.V_reads' HO284.out).2.2 | (with_reducible refine Kd.C_alloc ?_ _) | (with_reducible refine Kd.C_drewN ?_ _) | (with_reducible refine Kd.C_drew ?_))); (case side2 => exact (Kd.V_reads' HO284.out).2.1); rintro e w31 ⟨v289, rfl, ho0, hb⟩; refine ⟨_, rfl, ?_⟩; have n0_ := Aside0.mk (Kd.R_elder' (by (with_reducible repeat (first | apply Kd.R_alloc | apply Kd.R_drewN | apply Kd.R_drew)); exact HO_4.out) (Kd.R_base ho0) hb); have n1_ := Aside0.mk (Kd.N_elder' (by (with_reducible repeat (first | apply Kd.N_alloc | apply Kd.N_drewN | apply Kd.N_drew)); exact HO_5.out) (Kd.R_base ho0) hb); have n2_ := Aside0.mk (Kd.V_elder' (by (with_reducible repeat (first | apply Kd.V_alloc | apply Kd.V_drewN | apply Kd.V_drew)); exact HO284.out) (Kd.R_base ho0) hb); have n3_ := Aside0.mk (Kd.R_lower (Kd.R_new' (Kd.R_newM (M := fun k_ => (w.heap.size ≤ k_)) ho0 (below_size (by repeat (first | (with_reducible first | exact HB.out | apply below_alloc | apply pw_below_drewN | apply below_drew1) | exact HB.out))) (fun k_ h_ => h_)) (Kd.R_lt (by (with_reducible repeat (first | apply Kd.R_alloc | apply Kd.R_drewN | apply Kd.R_drew)); exact HO_4.out))) (below_size (by repeat (first | (with_reducible first | exact HB.out | apply below_alloc | apply pw_below_drewN | apply below_drew1) | exact HB.out)))); have n4_ := Aside0.mk (below_step (by repeat (first | (with_reducible first | exact HB.out | apply below_alloc | apply pw_below_drewN | apply below_drew1) | exact HB.out)) hb); clear HO_4; clear HO_5; clear HO284; clear HB; have HO_4 := n0_; have HO_5 := n1_; have HO284 := n2_; have HO290 := n3_; have HB := n4_; clear n0_ n1_ n2_ n3_ n4_; (try clear hb); (try clear hb2); (try clear hk); (try clear hi); (try clear ho0)) | ((with_reducible refine gate_dst (N := 11) rfl ?_); (try (refine gate_guard (by rfl) ?_; dsimp only)); refine box_event ?hg (N := 11) ?hd (cs := #[.int .i64 0, .int .i64 0, .int .i64 0, .slice none 0 0, .int .i64 0, .int .i64 0, .int .i64 0]) (t := 38) ?hr ?_; (case hd => rfl); (case hg => rfl); (case hr => first | (go_simp; done) | (go_simp; rfl)); intro gb296 hg w32 hbox hb; have n0_ := Aside0.mk (Kd.R_below (by (with_reducible repeat (first | apply Kd.R_alloc | apply Kd.R_drewN | apply Kd.R_drew)); exact HO_4.out) hb); have n1_ := Aside0.mk (Kd.N_below (Kd.N_elderB (by (with_reducible repeat (first | apply Kd.N_alloc | apply Kd.N_drewN | apply Kd.N_drew)); exact HO_5.out) gb296 (Nat.le_of_eq hg.symm)) hb); have n2_ := Aside0.mk (Kd.V_below (Kd.V_elderB (by (with_reducible repeat (first | apply Kd.V_alloc | apply Kd.V_drewN | apply Kd.V_drew)); exact HO284.out) gb296 (Nat.le_of_eq hg.symm)) hb); have n3_ := Aside0.mk (Kd.R_below (by (with_reducible repeat (first | apply Kd.R_alloc | apply Kd.R_drewN | apply Kd.R_drew)); exact HO290.out) hb); have n4_ := Aside0.mk (below_step (by repeat (first | (with_reducible first | exact HB.out | apply below_alloc | apply pw_below_drewN | apply below_drew1) | exact HB.out)) hb); have n5_ := Aside0.mk (hbox); have n6_ := Aside0.mk ((by rw [hg]; exact (below_size (by repeat (first | (with_reducible first | exact HB.out | apply below_alloc | apply pw_below_drewN | apply below_drew1) | exact HB.out))) : w.heap.size ≤ gb296)); have n7_ := Aside0.mk ((by rw [hg]; exact (below_size (by repeat (first | (with_reducible first | exact HB.out | apply below_alloc | apply pw_below_drewN | apply below_drew1) | exact HB.out))) : w.heap.size ≤ gb296)); clear HO_4; clear HO_5; clear HO284; clear HO290; clear HB; have HO_4 := n0_; have HO_5 := n1_; have HO284 := n2_; have HO290 := n3_; have HB := n4_; have BK296 := n5_; have GW296 := n6_; have GE296 := n7_; clear n0_ n1_ n2_ n3_ n4_ n5_ n6_ n7_; clear hb hbox hg; have hcz33_0 : w32.cell? ⟨gb296, 0, none⟩ = some (.int .i64 0) := (blk_cell BK296.out 0).trans rfl; have hcz33_1 : w32.cell? ⟨gb296, 1, none⟩ = some (.int .i64 0) := (blk_cell BK296.out 1).trans rfl; have hcz33_2 : w32.cell? ⟨gb296, 2, none⟩ = some (.int .i64 0) := (blk_cell BK296.out 2).trans rfl; have hcz33_3 : w32.cell? ⟨gb296, 3, none⟩ = some (.slice none 0 0) := (blk_cell BK296.out 3).trans rfl; have hcz33_4 : w32.cell? ⟨gb296, 4, none⟩ = some (.int .i64 0) := (blk_cell BK296.out 4).trans rfl; have hcz33_5 : w32.cell? ⟨gb296, 5, none⟩ = some (.int .i64 0) := (blk_cell BK296.out 5).trans rfl; have hcz33_6 : w32.cell? ⟨gb296, 6, none⟩ = some (.int .i64 0) := (blk_cell BK296.out 6).trans rfl; have hfz33_0 := blk_frozen BK296.out 0; have hfz33_1 := blk_frozen BK296.out 1; have hfz33_2 := blk_frozen BK296.out 2; have hfz33_3 := blk_frozen BK296.out 3; have hfz33_4 := blk_frozen BK296.out 4; have hfz33_5 := blk_frozen BK296.out 5; have hfz33_6 := blk_frozen BK296.out 6; obtain ⟨Ao34, co34, eo34⟩ := Kd.R_slice HO290.out; subst eo34))
              have n0_ : Aside0 (Kd.R (Kd.int .u8) 5 (((((((w32.setCell ⟨gb296, 0, none⟩ (.int .i64 t285)).setCell ⟨gb296, 1, none⟩ (.int .i64 t286)).setCell ⟨gb296, 2, none⟩ (.int .i64 t287)).setCell ⟨gb296, 3, none⟩ (.slice Ao34 t288.length co34)).setCell ⟨gb296, 4, none⟩ (.int .i64 t291)).setCell ⟨gb296, 5, none⟩ (.int .i64 t292)).setCell ⟨gb296, 6, none⟩ (.int .i64 t293)) w.heap.size (fun k_ => (w.heap.size ≤ k_) ∧ some k_ ≠ (.slice Ao34 t288.length co34 : Value).ownBlock) (.slice Ao30 x4_1.length co30) x4_1) := ⟨by (with_reducible repeat (first | apply Kd.R_alloc | apply Kd.R_drewN | apply Kd.R_drew)); exact Kd.R_mono (Kd.R_far (p := ⟨gb296, 6, none⟩) (Kd.R_far (p := ⟨gb296, 5, none⟩) (Kd.R_far (p := ⟨gb296, 4, none⟩) (Kd.R_far (p := ⟨gb296, 3, none⟩) (Kd.R_far (p := ⟨gb296, 2, none⟩) (Kd.R_far (p := ⟨gb296, 1, none⟩) (Kd.R_far (p := ⟨gb296, 0, none⟩) (Kd.R_types HO_4.out BK296.out (by decide)) (fun _ hk => hk.2) (.int .i64 t285)) (fun _ hk => hk.2) (.int .i64 t286)) (fun _ hk => hk.2) (.int .i64 t287)) (fun _ hk => hk.2) (.slice Ao34 t288.length co34)) (fun _ hk => hk.2) (.int .i64 t291)) (fun _ hk => hk.2) (.int .i64 t292)) (fun _ hk => hk.2) (.int .i64 t293)) (fun _ hk => ⟨hk.1.1, hk.1.2⟩)⟩
              have n1_ : Aside0 (Kd.N k38 38 (((((((w32.setCell ⟨gb296, 0, none⟩ (.int .i64 t285)).setCell ⟨gb296, 1, none⟩ (.int .i64 t286)).setCell ⟨gb296, 2, none⟩ (.int .i64 t287)).setCell ⟨gb296, 3, none⟩ (.slice Ao34 t288.length co34)).setCell ⟨gb296, 4, none⟩ (.int .i64 t291)).setCell ⟨gb296, 5, none⟩ (.int .i64 t292)).setCell ⟨gb296, 6, none⟩ (.int .i64 t293)) w.heap.size (fun k_ => (P0_ k_ ∨ w.heap.size ≤ k_) ∧ some k_ ≠ (.slice Ao30 x4_1.length co30 : Value).ownBlock ∧ some k_ ≠ (.slice Ao34 t288.length co34 : Value).ownBlock ∧ k_ ≠ gb296) (.slice Ao28 x5_1.length co28) x5_1) := ⟨by (with_reducible repeat (first | apply Kd.N_alloc | apply Kd.N_drewN | apply Kd.N_drew)); exact Kd.N_mono (Kd.N_far (p := ⟨gb296, 6, none⟩) (Kd.N_far (p := ⟨gb296, 5, none⟩) (Kd.N_far (p := ⟨gb296, 4, none⟩) (Kd.N_far (p := ⟨gb296, 3, none⟩) (Kd.N_far (p := ⟨gb296, 2, none⟩) (Kd.N_far (p := ⟨gb296, 1, none⟩) (Kd.N_far (p := ⟨gb296, 0, none⟩) (Kd.N_mono HO_5.out (fun k_ hk => (⟨hk, hk.2⟩ : _ ∧ k_ ≠ gb296))) (fun _ hk => hk.2) (.int .i64 t285)) (fun _ hk => hk.2) (.int .i64 t286)) (fun _ hk => hk.2) (.int .i64 t287)) (fun _ hk => hk.2) (.slice Ao34 t288.length co34)) (fun _ hk => hk.2) (.int .i64 t291)) (fun _ hk => hk.2) (.int .i64 t292)) (fun _ hk => hk.2) (.int .i64 t293)) (fun _ hk => ⟨hk.1.1.1.1, ⟨hk.1.1.1.2, ⟨hk.1.1.2, hk.1.2⟩⟩⟩)⟩
              have n2_ : Aside0 (Kd.V (Kd.int .u8) 5 (((((((w32.setCell ⟨gb296, 0, none⟩ (.int .i64 t285)).setCell ⟨gb296, 1, none⟩ (.int .i64 t286)).setCell ⟨gb296, 2, none⟩ (.int .i64 t287)).setCell ⟨gb296, 3, none⟩ (.slice Ao34 t288.length co34)).setCell ⟨gb296, 4, none⟩ (.int .i64 t291)).setCell ⟨gb296, 5, none⟩ (.int .i64 t292)).setCell ⟨gb296, 6, none⟩ (.int .i64 t293)) w.heap.size (fun k_ => (P0_ k_ ∨ w.heap.size ≤ k_) ∧ some k_ ≠ (.slice Ao28 x5_1.length co28 : Value).ownBlock ∧ some k_ ≠ (.slice Ao34 t288.length co34 : Value).ownBlock ∧ k_ ≠ gb296) (.slice A29 y280.length c29) y280) := ⟨by (with_reducible repeat (first | apply Kd.V_alloc | apply Kd.V_drewN | apply Kd.V_drew)); exact Kd.V_mono (Kd.V_far (p := ⟨gb296, 6, none⟩) (Kd.V_far (p := ⟨gb296, 5, none⟩) (Kd.V_far (p := ⟨gb296, 4, none⟩) (Kd.V_far (p := ⟨gb296, 3, none⟩) (Kd.V_far (p := ⟨gb296, 2, none⟩) (Kd.V_far (p := ⟨gb296, 1, none⟩) (Kd.V_far (p := ⟨gb296, 0, none⟩) (Kd.V_mono HO284.out (fun k_ hk => (⟨hk, hk.2⟩ : _ ∧ k_ ≠ gb296))) (fun _ hk => hk.2) (.int .i64 t285)) (fun _ hk => hk.2) (.int .i64 t286)) (fun _ hk => hk.2) (.int .i64 t287)) (fun _ hk => hk.2) (.slice Ao34 t288.length co34)) (fun _ hk => hk.2) (.int .i64 t291)) (fun _ hk => hk.2) (.int .i64 t292)) (fun _ hk => hk.2) (.int .i64 t293)) (fun _ hk => ⟨hk.1.1.1.1, ⟨hk.1.1.1.2, ⟨hk.1.1.2, hk.1.2⟩⟩⟩)⟩
              have n3_ : Aside0 (Kd.R (Kd.int .u8) 5 (((((((w32.setCell ⟨gb296, 0, none⟩ (.int .i64 t285)).setCell ⟨gb296, 1, none⟩ (.int .i64 t286)).setCell ⟨gb296, 2, none⟩ (.int .i64 t287)).setCell ⟨gb296, 3, none⟩ (.slice Ao34 t288.length co34)).setCell ⟨gb296, 4, none⟩ (.int .i64 t291)).setCell ⟨gb296, 5, none⟩ (.int .i64 t292)).setCell ⟨gb296, 6, none⟩ (.int .i64 t293)) w.heap.size (fun k_ => (w.heap.size ≤ k_) ∧ some k_ ≠ (.slice Ao30 x4_1.length co30 : Value).ownBlock) (.slice Ao34 t288.length co34) t288) := ⟨by (with_reducible repeat (first | apply Kd.R_alloc | apply Kd.R_drewN | apply Kd.R_drew)); exact Kd.R_mono (Kd.R_far (p := ⟨gb296, 6, none⟩) (Kd.R_far (p := ⟨gb296, 5, none⟩) (Kd.R_far (p := ⟨gb296, 4, none⟩) (Kd.R_far (p := ⟨gb296, 3, none⟩) (Kd.R_far (p := ⟨gb296, 2, none⟩) (Kd.R_far (p := ⟨gb296, 1, none⟩) (Kd.R_far (p := ⟨gb296, 0, none⟩) (Kd.R_types HO290.out BK296.out (by decide)) (fun _ hk => hk.2) (.int .i64 t285)) (fun _ hk => hk.2) (.int .i64 t286)) (fun _ hk => hk.2) (.int .i64 t287)) (fun _ hk => hk.2) (.slice Ao34 t288.length co34)) (fun _ hk => hk.2) (.int .i64 t291)) (fun _ hk => hk.2) (.int .i64 t292)) (fun _ hk => hk.2) (.int .i64 t293)) (fun _ hk => ⟨hk.1.1.1, hk.1.2⟩)⟩
              have n4_ : Aside0 ((((((((w32.setCell ⟨gb296, 0, none⟩ (.int .i64 t285)).setCell ⟨gb296, 1, none⟩ (.int .i64 t286)).setCell ⟨gb296, 2, none⟩ (.int .i64 t287)).setCell ⟨gb296, 3, none⟩ (.slice Ao34 t288.length co34)).setCell ⟨gb296, 4, none⟩ (.int .i64 t291)).setCell ⟨gb296, 5, none⟩ (.int .i64 t292)).setCell ⟨gb296, 6, none⟩ (.int .i64 t293)).heap[gb296]? = some (.cells #[.int .i64 t285, .int .i64 t286, .int .i64 t287, .slice Ao34 t288.length co34, .int .i64 t291, .int .i64 t292, .int .i64 t293] 38 (0, 0))) := ⟨by (with_reducible repeat (first | refine blk_drewN ?_ _ | refine blk_drew ?_ | refine blk_alloc ?_ _)); refine blk_put (cs := #[.int .i64 t285, .int .i64 t286, .int .i64 t287, .slice Ao34 t288.length co34, .int .i64 t291, .int .i64 t292, .int .i64 0]) ?_ 6 _ rfl; (with_reducible repeat (first | refine blk_drewN ?_ _ | refine blk_drew ?_ | refine blk_alloc ?_ _)); refine blk_put (cs := #[.int .i64 t285, .int .i64 t286, .int .i64 t287, .slice Ao34 t288.length co34, .int .i64 t291, .int .i64 0, .int .i64 0]) ?_ 5 _ rfl; (with_reducible repeat (first | refine blk_drewN ?_ _ | refine blk_drew ?_ | refine blk_alloc ?_ _)); refine blk_put (cs := #[.int .i64 t285, .int .i64 t286, .int .i64 t287, .slice Ao34 t288.length co34, .int .i64 0, .int .i64 0, .int .i64 0]) ?_ 4 _ rfl; (with_reducible repeat (first | refine blk_drewN ?_ _ | refine blk_drew ?_ | refine blk_alloc ?_ _)); refine blk_put (cs := #[.int .i64 t285, .int .i64 t286, .int .i64 t287, .slice none 0 0, .int .i64 0, .int .i64 0, .int .i64 0]) ?_ 3 _ rfl; (with_reducible repeat (first | refine blk_drewN ?_ _ | refine blk_drew ?_ | refine blk_alloc ?_ _)); refine blk_put (cs := #[.int .i64 t285, .int .i64 t286, .int .i64 0, .slice none 0 0, .int .i64 0, .int .i64 0, .int .i64 0]) ?_ 2 _ rfl; (with_reducible repeat (first | refine blk_drewN ?_ _ | refine blk_drew ?_ | refine blk_alloc ?_ _)); refine blk_put (cs := #[.int .i64 t285, .int .i64 0, .int .i64 0, .slice none 0 0, .int .i64 0, .int .i64 0, .int .i64 0]) ?_ 1 _ rfl; (with_reducible repeat (first | refine blk_drewN ?_ _ | refine blk_drew ?_ | refine blk_alloc ?_ _)); refine blk_put (cs := #[.int .i64 0, .int .i64 0, .int .i64 0, .slice none 0 0, .int .i64 0, .int .i64 0, .int .i64 0]) ?_ 0 _ rfl; (with_reducible repeat (first | refine blk_drewN ?_ _ | refine blk_drew ?_ | refine blk_alloc ?_ _)); exact BK296.out⟩
              have n5_ : Aside0 (Below w.heap.size w (((((((w32.setCell ⟨gb296, 0, none⟩ (.int .i64 t285)).setCell ⟨gb296, 1, none⟩ (.int .i64 t286)).setCell ⟨gb296, 2, none⟩ (.int .i64 t287)).setCell ⟨gb296, 3, none⟩ (.slice Ao34 t288.length co34)).setCell ⟨gb296, 4, none⟩ (.int .i64 t291)).setCell ⟨gb296, 5, none⟩ (.int .i64 t292)).setCell ⟨gb296, 6, none⟩ (.int .i64 t293))) := ⟨by repeat (first | (with_reducible first | exact HB.out | apply below_alloc | apply pw_below_drewN | apply below_drew1 | refine below_set ?_ GE296.out) | exact HB.out)⟩
              (try clear HO_4)
              (try clear HO_5)
              (try clear HO284)
              (try clear HO290)
              (try clear BK296)
              (try clear HB)
              generalize (((((((w32.setCell ⟨gb296, 0, none⟩ (.int .i64 t285)).setCell ⟨gb296, 1, none⟩ (.int .i64 t286)).setCell ⟨gb296, 2, none⟩ (.int .i64 t287)).setCell ⟨gb296, 3, none⟩ (.slice Ao34 t288.length co34)).setCell ⟨gb296, 4, none⟩ (.int .i64 t291)).setCell ⟨gb296, 5, none⟩ (.int .i64 t292)).setCell ⟨gb296, 6, none⟩ (.int .i64 t293)) = w35 at n0_ n1_ n2_ n3_ n4_ n5_ ⊢
              have HO_4 := n0_
              have HO_5 := n1_
              have HO284 := n2_
              have HO290 := n3_
              have BK296 := n4_
              have HB := n5_
              clear n0_ n1_ n2_ n3_ n4_ n5_
              have n0_ := Aside0.mk (Kd.R_drew HO_4.out)
              have n1_ := Aside0.mk (Kd.N_drew HO_5.out)
              have n2_ := Aside0.mk (Kd.V_drew HO284.out)
              have n3_ := Aside0.mk (Kd.R_drew HO290.out)
              have n4_ := Aside0.mk (blk_drew BK296.out)
              have n5_ := Aside0.mk (below_drew1 HB.out)
              clear HO_4
              clear HO_5
              clear HO284
              clear HO290
              clear BK296
              clear HB
              have HO_4 := n0_
              have HO_5 := n1_
              have HO284 := n2_
              have HO290 := n3_
              have BK296 := n4_
              have HB := n5_
              clear n0_ n1_ n2_ n3_ n4_ n5_
              have p297 : 0 ≤ (x10_2 : Int) := of_decide_eq_true (by first | (with_reducible assumption) | assumption)
              have q297 : x10_2 < (x5_1.length : Int) := of_decide_eq_true (by first | (with_reducible assumption) | assumption)
              obtain ⟨ad297, A297_3, c297_3, e297, hx297_0, hx297_1, hx297_2, hx297_3, hx297_4, hx297_5, hx297_6, hl297_3, hi297_3⟩ := at_T38 (Kd.N_reads' HO_5.out).2.2 x10_2 p297 q297
              cases e297
              obtain ⟨ce297, hce297, hMe297, hcc297⟩ := Kd.N_get HO_5.out z38 x10_2 p297 (by first | exact q297 | exact of_decide_eq_true (by first | (with_reducible assumption) | assumption) | (have e_ := (Kd.N_reads' HO_5.out).1; omega))
              obtain ⟨ua297_3, uc297_3, rfl, ul297_3, ge297_3⟩ := k38_openF hMe297
              have hv297_3 := hcc297 3 _ rfl
              rw [add_field _ _ 3 (by omega)] at hv297_3
              replace hv297_3 := Option.some.inj (hv297_3.symm.trans hx297_3)
              injection hv297_3 with hva_ hvn_ hvc_
              rw [hva_] at ge297_3
              rw [hvc_] at ul297_3
              have HL297_3 := Aside0.mk (show Kd.V (Kd.int .u8) 5 _ w.heap.size _ _ ((rd_T38 x5_1 x10_2).f3) from Kd.V_mk ul297_3 ge297_3)
              clear hva_ hvn_ hvc_ ge297_3 ul297_3
              clear hcc297 hce297
              have HR297_3 := Aside0.mk hi297_3
              have HC297_3 := Aside0.mk hl297_3
              clear hi297_3 hl297_3
              replace p297 := eq_true p297
              replace q297 := eq_true q297
              refine start_ (n := 7) (S := fun w' => w'.cell? ⟨gb296, 0, none⟩ = some (.int .i64 t285) ∧ w'.cell? ⟨gb296, 1, none⟩ = some (.int .i64 t286) ∧ w'.cell? ⟨gb296, 2, none⟩ = some (.int .i64 t287) ∧ w'.cell? ⟨gb296, 3, none⟩ = some (.slice Ao34 t288.length co34) ∧ w'.cell? ⟨gb296, 4, none⟩ = some (.int .i64 t291) ∧ w'.cell? ⟨gb296, 5, none⟩ = some (.int .i64 t292) ∧ w'.cell? ⟨gb296, 6, none⟩ = some (.int .i64 t293) ∧ w'.cell? (ad297.add ((x10_2).toNat * 7)) = some (.int .i64 ((rd_T38 x5_1 x10_2).f0)) ∧ w'.cell? ⟨(ad297.add ((x10_2).toNat * 7)).block, (ad297.add ((x10_2).toNat * 7)).off + 1, none⟩ = some (.int .i64 ((rd_T38 x5_1 x10_2).f1)) ∧ w'.cell? ⟨(ad297.add ((x10_2).toNat * 7)).block, (ad297.add ((x10_2).toNat * 7)).off + 2, none⟩ = some (.int .i64 ((rd_T38 x5_1 x10_2).f2)) ∧ w'.cell? ⟨(ad297.add ((x10_2).toNat * 7)).block, (ad297.add ((x10_2).toNat * 7)).off + 3, none⟩ = some (.slice A297_3 ((rd_T38 x5_1 x10_2).f3).length c297_3) ∧ w'.cell? ⟨(ad297.add ((x10_2).toNat * 7)).block, (ad297.add ((x10_2).toNat * 7)).off + 4, none⟩ = some (.int .i64 ((rd_T38 x5_1 x10_2).f4)) ∧ w'.cell? ⟨(ad297.add ((x10_2).toNat * 7)).block, (ad297.add ((x10_2).toNat * 7)).off + 5, none⟩ = some (.int .i64 ((rd_T38 x5_1 x10_2).f5)) ∧ w'.cell? ⟨(ad297.add ((x10_2).toNat * 7)).block, (ad297.add ((x10_2).toNat * 7)).off + 6, none⟩ = some (.int .i64 ((rd_T38 x5_1 x10_2).f6))) (ds := []) #[false, false, false, false, false, false, false] (by kernel_rfl) rfl rfl ⟨(blk_cell BK296.out 0).trans rfl, (blk_cell BK296.out 1).trans rfl, (blk_cell BK296.out 2).trans rfl, (blk_cell BK296.out 3).trans rfl, (blk_cell BK296.out 4).trans rfl, (blk_cell BK296.out 5).trans rfl, (blk_cell BK296.out 6).trans rfl, hx297_0, hx297_1, hx297_2, hx297_3, hx297_4, hx297_5, hx297_6⟩ (fun hHeld => ?_)
              generalize w35.drew = w36 at HO_4 HO_5 HO284 HO290 BK296 HB HL297_3 HR297_3 hx297_0 hx297_1 hx297_2 hx297_3 hx297_4 hx297_5 hx297_6 hHeld ⊢
              refine pure_ (i := 1) (N := some 70) (v := ?_) (a' := ?_) #[false, true, false, false, false, false, false] rfl rfl (by kernel_rfl) (fun _ _ _ h => h) (Or.inl ⟨by rfl, ?_⟩) ?_ ?_
              rotate_left
              ·intro w'
               go_simp
               with_reducible rfl
              rotate_left
              ·simp only [Act.put, Kx.sb, Kx.sz, Kx.ss, i64_w, i32_w]
               rfl
              refine pure_ (i := 2) (N := some 71) (v := ?_) (a' := ?_) #[false, true, true, false, false, false, false] rfl rfl (by kernel_rfl) (fun _ _ _ h => h) (Or.inl ⟨by rfl, ?_⟩) ?_ ?_
              rotate_left
              ·intro w'
               go_simp
               with_reducible rfl
              rotate_left
              ·simp only [Act.put, Kx.sb, Kx.sz, Kx.ss, i64_w, i32_w]
               rfl
              refine pure_ (i := 3) (N := some 72) (v := ?_) (a' := ?_) #[false, true, true, true, false, false, false] rfl rfl (by kernel_rfl) (fun _ _ _ h => h) (Or.inl ⟨by rfl, ?_⟩) ?_ ?_
              rotate_left
              ·intro w'
               go_simp
               with_reducible rfl
              rotate_left
              ·simp only [Act.put, Kx.sb, Kx.sz, Kx.ss, i64_w, i32_w]
               rfl
              refine take_ (i := 0) (N := some 69) (v := ?_) (a' := ?_) #[true, true, true, true, false, false, false] rfl rfl (by kernel_rfl) (fun _ _ _ h => h) (Or.inl ⟨by rfl, ?_⟩) hHeld ?_ ?_
              rotate_left
              ·rintro w' ⟨s0, s1, s2, s3, s4, s5, s6, s7, s8, s9, s10, s11, s12, s13⟩
               go_simp
               with_reducible rfl
              rotate_left
              ·simp only [Act.put, Kx.sb, Kx.sz, Kx.ss, i64_w, i32_w]
               rfl
              refine take_ (i := 4) (N := some 73) (v := ?_) (a' := ?_) #[true, true, true, true, true, false, false] rfl rfl (by kernel_rfl) (fun _ _ _ h => h) (Or.inl ⟨by rfl, ?_⟩) hHeld ?_ ?_
              rotate_left
              ·rintro w' ⟨s0, s1, s2, s3, s4, s5, s6, s7, s8, s9, s10, s11, s12, s13⟩
               go_simp
               with_reducible rfl
              rotate_left
              ·simp only [Act.put, Kx.sb, Kx.sz, Kx.ss, i64_w, i32_w]
               rfl
              refine one_ (i := 5) (N := some 74) #[true, true, true, true, true, true, false] rfl rfl (by kernel_rfl) (by decide) (fun K hK => ?_)
              refine goes_ Try.func23 (by kernel_rfl) rfl #[.agg #[.int .i64 t285, .int .i64 t286, .int .i64 t287, .slice Ao34 t288.length co34, .int .i64 t291, .int .i64 t292, .int .i64 t293], .agg #[.int .i64 ((rd_T38 x5_1 x10_2).f0), .int .i64 ((rd_T38 x5_1 x10_2).f1), .int .i64 ((rd_T38 x5_1 x10_2).f2), .slice A297_3 ((rd_T38 x5_1 x10_2).f3).length c297_3, .int .i64 ((rd_T38 x5_1 x10_2).f4), .int .i64 ((rd_T38 x5_1 x10_2).f5), .int .i64 ((rd_T38 x5_1 x10_2).f6)]] (by rfl) rfl rfl (by (try simp only [List.map_toArray, List.map_cons, List.map_nil]); first | done | rfl | (simp only [List.length_drop, List.length_take]; rfl)) ?_
              with_reducible refine (waggonerref16_Same.calls t285 t286 t287 _ _ t288 t291 t292 t293 ((rd_T38 x5_1 x10_2).f0) ((rd_T38 x5_1 x10_2).f1) ((rd_T38 x5_1 x10_2).f2) _ _ ((rd_T38 x5_1 x10_2).f3) ((rd_T38 x5_1 x10_2).f4) ((rd_T38 x5_1 x10_2).f5) ((rd_T38 x5_1 x10_2).f6) true _ ?side1 ?side2 ?side3 ?side4 A24.out).mono ?_
              (case side1 => repeat (first | exact (Kd.R_reads' HO290.out).2.2 | (with_reducible refine Kd.C_alloc ?_ _) | (with_reducible refine Kd.C_drewN ?_ _) | (with_reducible refine Kd.C_drew ?_)))
              (case side2 => exact (Kd.R_reads' HO290.out).2.1)
              (case side3 => repeat (first | exact (by repeat (first | (with_reducible exact HR297_3.out) | (with_reducible refine Kd.C_alloc ?_ _) | (with_reducible refine Kd.C_drewN ?_ _) | (with_reducible refine Kd.C_drew ?_) | exact HR297_3.out)) | (with_reducible refine Kd.C_alloc ?_ _) | (with_reducible refine Kd.C_drewN ?_ _) | (with_reducible refine Kd.C_drew ?_)))
              (case side4 => exact HC297_3.out)
              rintro e w37 ⟨rfl, hb⟩
              have HS7_ := (hb.cell (World.block_lt_of_cell? _ _ (hHeld.2.2.2.2.2.2.2.1))).trans (hHeld.2.2.2.2.2.2.2.1)
              have HS8_ := (hb.cell (World.block_lt_of_cell? _ _ (hHeld.2.2.2.2.2.2.2.2.1))).trans (hHeld.2.2.2.2.2.2.2.2.1)
              have HS9_ := (hb.cell (World.block_lt_of_cell? _ _ (hHeld.2.2.2.2.2.2.2.2.2.1))).trans (hHeld.2.2.2.2.2.2.2.2.2.1)
              have HS10_ := (hb.cell (World.block_lt_of_cell? _ _ (hHeld.2.2.2.2.2.2.2.2.2.2.1))).trans (hHeld.2.2.2.2.2.2.2.2.2.2.1)
              have HS11_ := (hb.cell (World.block_lt_of_cell? _ _ (hHeld.2.2.2.2.2.2.2.2.2.2.2.1))).trans (hHeld.2.2.2.2.2.2.2.2.2.2.2.1)
              have HS12_ := (hb.cell (World.block_lt_of_cell? _ _ (hHeld.2.2.2.2.2.2.2.2.2.2.2.2.1))).trans (hHeld.2.2.2.2.2.2.2.2.2.2.2.2.1)
              have HS13_ := (hb.cell (World.block_lt_of_cell? _ _ (hHeld.2.2.2.2.2.2.2.2.2.2.2.2.2))).trans (hHeld.2.2.2.2.2.2.2.2.2.2.2.2.2)
              refine ⟨_, rfl, ?_⟩
              have n0_ := Aside0.mk (Kd.R_below (by (with_reducible repeat (first | apply Kd.R_alloc | apply Kd.R_drewN | apply Kd.R_drew)); exact HO_4.out) hb)
              have n1_ := Aside0.mk (Kd.N_below (by (with_reducible repeat (first | apply Kd.N_alloc | apply Kd.N_drewN | apply Kd.N_drew)); exact HO_5.out) hb)
              have n2_ := Aside0.mk (Kd.V_below (by (with_reducible repeat (first | apply Kd.V_alloc | apply Kd.V_drewN | apply Kd.V_drew)); exact HO284.out) hb)
              have n3_ := Aside0.mk (Kd.R_below (by (with_reducible repeat (first | apply Kd.R_alloc | apply Kd.R_drewN | apply Kd.R_drew)); exact HO290.out) hb)
              have n4_ := Aside0.mk (Kd.V_below (by (with_reducible repeat (first | apply Kd.V_alloc | apply Kd.V_drewN | apply Kd.V_drew)); exact HL297_3.out) hb)
              have n5_ := Aside0.mk (blk_below (g := gb296) (o := .cells #[.int .i64 t285, .int .i64 t286, .int .i64 t287, .slice Ao34 t288.length co34, .int .i64 t291, .int .i64 t292, .int .i64 t293] 38 (0, 0)) (by (with_reducible repeat (first | refine blk_drewN ?_ _ | refine blk_drew ?_ | refine blk_alloc ?_ _)); exact BK296.out) hb)
              have n6_ := Aside0.mk (Kd.C_below (by repeat (first | (with_reducible exact HR297_3.out) | (with_reducible refine Kd.C_alloc ?_ _) | (with_reducible refine Kd.C_drewN ?_ _) | (with_reducible refine Kd.C_drew ?_) | exact HR297_3.out)) hb)
              have n7_ := Aside0.mk (below_step (by repeat (first | (with_reducible first | exact HB.out | apply below_alloc | apply pw_below_drewN | apply below_drew1 | refine below_set ?_ GE296.out) | exact HB.out)) hb)
              clear HO_4
              clear HO_5
              clear HO284
              clear HO290
              clear HL297_3
              clear BK296
              clear HR297_3
              clear HB
              have HO_4 := n0_
              have HO_5 := n1_
              have HO284 := n2_
              have HO290 := n3_
              have HL297_3 := n4_
              have BK296 := n5_
              have HR297_3 := n6_
              have HB := n7_
              clear n0_ n1_ n2_ n3_ n4_ n5_ n6_ n7_
              (try clear hb)
              (try clear hb2)
              (try clear hk)
              (try clear hi)
              refine hK.out _ _ ⟨(blk_cell BK296.out 0).trans rfl, (blk_cell BK296.out 1).trans rfl, (blk_cell BK296.out 2).trans rfl, (blk_cell BK296.out 3).trans rfl, (blk_cell BK296.out 4).trans rfl, (blk_cell BK296.out 5).trans rfl, (blk_cell BK296.out 6).trans rfl, HS7_, HS8_, HS9_, HS10_, HS11_, HS12_, HS13_⟩ (fun hHeld => ?_)
              clear hK K
              refine norm_ (a' := ?_) ?_ ?_
              rotate_left
              ·show Act.put _ (some 74) _ = _
               simp only [Act.put, Kx.sb, Kx.sz, Kx.ss, i64_w, i32_w]
               rfl
              refine pure_ (i := 6) (N := some 14) (v := ?_) (a' := ?_) #[true, true, true, true, true, true, true] rfl rfl (by kernel_rfl) (fun _ _ _ h => h) (Or.inl ⟨by rfl, ?_⟩) ?_ ?_
              rotate_left
              ·intro w'
               go_simp
               with_reducible rfl
              rotate_left
              ·simp only [Act.put, Kx.sb, Kx.sz, Kx.ss, i64_w, i32_w]
               rfl
              refine done_ (by kernel_rfl) ?_
              try go_wp2
              go_ret
              exact ⟨by first | rfl | (exact congrArg (fun z_ => Ending.returned (Value.bool z_)) HRT.out) | (rw [HRT.out]; done) | (simp [errW_none, errW_some] <;> rfl) | (simp [*, errW_none, errW_some] <;> rfl), by repeat (first | (with_reducible first | exact HB.out | apply below_alloc | apply pw_below_drewN | apply below_drew1 | refine below_set ?_ GE296.out) | exact HB.out)⟩
             ·rw [if_neg c27] at H
              have c27b0 : decide (t294 < 9) = false := decide_eq_false c27
              clear c27
              by_cases c38 : t294 > (wrap64 ((x4_1.length : Int) - x9_2))
              ·rw [if_pos c38] at H
               have c38b0 : decide ((wrap64 ((x4_1.length : Int) - x9_2)) < t294) = true := decide_eq_true c38
               clear c38
               (have HRT := Aside0.mk (Option.some.inj H); clear H)
               obtain ⟨Ao39, co39, eo39⟩ := Kd.N_slice HO_5.out
               subst eo39
               obtain ⟨Ao41, co41, eo41⟩ := Kd.R_slice HO_4.out
               subst eo41
               have q40 : (x9_2 : Int) ≤ ((x4_1.length : Int) : Int) := of_decide_eq_true (by first | (with_reducible assumption) | assumption)
               obtain ⟨i040, hi040, _, hsz40, _⟩ := info_parts info5
               have hroom40 : x4_1.length ≤ co41 := (Kd.R_reads' HO_4.out).2.1
               have hC40 : Kd.F (Kd.int .u8) _ _ Ao41 x4_1.length x4_1 := (Kd.V_at (base := w.heap.size) (Kd.V_mono (ok' := (fun k_ => ((P0_ k_ ∨ w.heap.size ≤ k_) ∧ some k_ ≠ (.slice Ao39 x5_1.length co39 : Value).ownBlock))) (Kd.R_V (Kd.R_apart' (HO_4.out) (Kd.N_typed HO_5.out) (by decide))) (fun k_ hk => ⟨(.inr (hk.1)), hk.2⟩))).2.2
               have q040 : (0 : Int) ≤ (x9_2 : Int) := of_decide_eq_true (by first | (with_reducible assumption) | assumption)
               have hcut40 := cut_from (P := Try.prog) 27 5 .i64 Try.underlying27 hi040 1 hsz40 Ao41 x4_1.length co41 x9_2 q040 q40
               have hr40 := Kd.F_cut (m := (x9_2 : Int).toNat) (c := co41) hC40 (by omega) hroom40
               obtain ⟨A40, hA40⟩ : ∃ A1, A1 = (if co41 = (x9_2 : Int).toNat then Ao41 else (Ao41 : Option Addr).map (·.add ((x9_2 : Int).toNat * 1))) := ⟨_, rfl⟩
               obtain ⟨c40, hc40⟩ : ∃ c1, c1 = co41 - (x9_2 : Int).toNat := ⟨_, rfl⟩
               have hy40 : y280.length = x4_1.length - (x9_2 : Int).toNat := (by rw [Ny280.out, List.length_drop] <;> omega)
               rw [show (x4_1).drop (x9_2 : Int).toNat = y280 from Ny280.out.symm] at hr40
               replace hr40 : Kd.F (Kd.int .u8) _ _ A40 y280.length y280 := (by rw [hA40]; exact hr40)
               rw [← hy40, ← hA40, ← hc40] at hcut40
               have HO284 := Aside0.mk (show Kd.V (Kd.int .u8) 5 _ w.heap.size _ (.slice A40 y280.length c40) y280 from Kd.V_mk (by rw [hy40, hc40]; exact Nat.sub_le_sub_right hroom40 _) hr40)
               have HC284 := Aside0.mk (show y280.length ≤ c40 from by rw [hy40, hc40]; exact Nat.sub_le_sub_right hroom40 _)
               clear hr40 hC40 hroom40 hi040 hsz40 hc40
               have KY40 := Aside0.mk hy40
               have KA40 := Aside0.mk hA40
               clear hy40 hA40
               replace q40 := eq_true q40
               try go_wp2_with (first | ((with_reducible refine gate_callee (f := 21) rfl ?_); refine goesL_ (some 65) rfl rfl Try.func21 (by kernel_rfl) rfl #[.slice A40 y280.length c40] rfl (by (try simp only [List.map_toArray, List.map_cons, List.map_nil]); first | done | rfl | (simp only [List.length_drop, List.length_take]; rfl)) ?_; (with_reducible refine (frame_Read.calls _ _ y280 t285 t286 t287 t288 t291 t292 t293 t294 t295 _ ?side1 ?side2 A22.out).mono ?_); (case side1 => repeat (first | exact (Kd.V_reads' HO284.out).2.2 | (with_reducible refine Kd.C_alloc ?_ _) | (with_reducible refine Kd.C_drewN ?_ _) | (with_reducible refine Kd.C_drew ?_))); (case side2 => exact (Kd.V_reads' HO284.out).2.1); rintro e w42 ⟨v289, rfl, ho0, hb⟩; refine ⟨_, rfl, ?_⟩; have n0_ := Aside0.mk (Kd.R_elder' (by (with_reducible repeat (first | apply Kd.R_alloc | apply Kd.R_drewN | apply Kd.R_drew)); exact HO_4.out) (Kd.R_base ho0) hb); have n1_ := Aside0.mk (Kd.N_elder' (by (with_reducible repeat (first | apply Kd.N_alloc | apply Kd.N_drewN | apply Kd.N_drew)); exact HO_5.out) (Kd.R_base ho0) hb); have n2_ := Aside0.mk (Kd.V_elder' (by (with_reducible repeat (first | apply Kd.V_alloc | apply Kd.V_drewN | apply Kd.V_drew)); exact HO284.out) (Kd.R_base ho0) hb); have n3_ := Aside0.mk (Kd.R_lower (Kd.R_new' (Kd.R_newM (M := fun k_ => (w.heap.size ≤ k_)) ho0 (below_size (by repeat (first | (with_reducible first | exact HB.out | apply below_alloc | apply pw_below_drewN | apply below_drew1) | exact HB.out))) (fun k_ h_ => h_)) (Kd.R_lt (by (with_reducible repeat (first | apply Kd.R_alloc | apply Kd.R_drewN | apply Kd.R_drew)); exact HO_4.out))) (below_size (by repeat (first | (with_reducible first | exact HB.out | apply below_alloc | apply pw_below_drewN | apply below_drew1) | exact HB.out)))); have n4_ := Aside0.mk (below_step (by repeat (first | (with_reducible first | exact HB.out | apply below_alloc | apply pw_below_drewN | apply below_drew1) | exact HB.out)) hb); clear HO_4; clear HO_5; clear HO284; clear HB; have HO_4 := n0_; have HO_5 := n1_; have HO284 := n2_; have HO290 := n3_; have HB := n4_; clear n0_ n1_ n2_ n3_ n4_; (try clear hb); (try clear hb2); (try clear hk); (try clear hi); (try clear ho0)) | ((with_reducible refine gate_dst (N := 11) rfl ?_); (try (refine gate_guard (by rfl) ?_; dsimp only)); refine box_event ?hg (N := 11) ?hd (cs := #[.int .i64 0, .int .i64 0, .int .i64 0, .slice none 0 0, .int .i64 0, .int .i64 0, .int .i64 0]) (t := 38) ?hr ?_; (case hd => rfl); (case hg => rfl); (case hr => first | (go_simp; done) | (go_simp; rfl)); intro gb296 hg w43 hbox hb; have n0_ := Aside0.mk (Kd.R_below (by (with_reducible repeat (first | apply Kd.R_alloc | apply Kd.R_drewN | apply Kd.R_drew)); exact HO_4.out) hb); have n1_ := Aside0.mk (Kd.N_below (Kd.N_elderB (by (with_reducible repeat (first | apply Kd.N_alloc | apply Kd.N_drewN | apply Kd.N_drew)); exact HO_5.out) gb296 (Nat.le_of_eq hg.symm)) hb); have n2_ := Aside0.mk (Kd.V_below (Kd.V_elderB (by (with_reducible repeat (first | apply Kd.V_alloc | apply Kd.V_drewN | apply Kd.V_drew)); exact HO284.out) gb296 (Nat.le_of_eq hg.symm)) hb); have n3_ := Aside0.mk (Kd.R_below (by (with_reducible repeat (first | apply Kd.R_alloc | apply Kd.R_drewN | apply Kd.R_drew)); exact HO290.out) hb); have n4_ := Aside0.mk (below_step (by repeat (first | (with_reducible first | exact HB.out | apply below_alloc | apply pw_below_drewN | apply below_drew1) | exact HB.out)) hb); have n5_ := Aside0.mk (hbox); have n6_ := Aside0.mk ((by rw [hg]; exact (below_size (by repeat (first | (with_reducible first | exact HB.out | apply below_alloc | apply pw_below_drewN | apply below_drew1) | exact HB.out))) : w.heap.size ≤ gb296)); have n7_ := Aside0.mk ((by rw [hg]; exact (below_size (by repeat (first | (with_reducible first | exact HB.out | apply below_alloc | apply pw_below_drewN | apply below_drew1) | exact HB.out))) : w.heap.size ≤ gb296)); clear HO_4; clear HO_5; clear HO284; clear HO290; clear HB; have HO_4 := n0_; have HO_5 := n1_; have HO284 := n2_; have HO290 := n3_; have HB := n4_; have BK296 := n5_; have GW296 := n6_; have GE296 := n7_; clear n0_ n1_ n2_ n3_ n4_ n5_ n6_ n7_; clear hb hbox hg; have hcz44_0 : w43.cell? ⟨gb296, 0, none⟩ = some (.int .i64 0) := (blk_cell BK296.out 0).trans rfl; have hcz44_1 : w43.cell? ⟨gb296, 1, none⟩ = some (.int .i64 0) := (blk_cell BK296.out 1).trans rfl; have hcz44_2 : w43.cell? ⟨gb296, 2, none⟩ = some (.int .i64 0) := (blk_cell BK296.out 2).trans rfl; have hcz44_3 : w43.cell? ⟨gb296, 3, none⟩ = some (.slice none 0 0) := (blk_cell BK296.out 3).trans rfl; have hcz44_4 : w43.cell? ⟨gb296, 4, none⟩ = some (.int .i64 0) := (blk_cell BK296.out 4).trans rfl; have hcz44_5 : w43.cell? ⟨gb296, 5, none⟩ = some (.int .i64 0) := (blk_cell BK296.out 5).trans rfl; have hcz44_6 : w43.cell? ⟨gb296, 6, none⟩ = some (.int .i64 0) := (blk_cell BK296.out 6).trans rfl; have hfz44_0 := blk_frozen BK296.out 0; have hfz44_1 := blk_frozen BK296.out 1; have hfz44_2 := blk_frozen BK296.out 2; have hfz44_3 := blk_frozen BK296.out 3; have hfz44_4 := blk_frozen BK296.out 4; have hfz44_5 := blk_frozen BK296.out 5; have hfz44_6 := blk_frozen BK296.out 6; obtain ⟨Ao45, co45, eo45⟩ := Kd.R_slice HO290.out; subst eo45))
               have n0_ : Aside0 (Kd.R (Kd.int .u8) 5 (((((((w43.setCell ⟨gb296, 0, none⟩ (.int .i64 t285)).setCell ⟨gb296, 1, none⟩ (.int .i64 t286)).setCell ⟨gb296, 2, none⟩ (.int .i64 t287)).setCell ⟨gb296, 3, none⟩ (.slice Ao45 t288.length co45)).setCell ⟨gb296, 4, none⟩ (.int .i64 t291)).setCell ⟨gb296, 5, none⟩ (.int .i64 t292)).setCell ⟨gb296, 6, none⟩ (.int .i64 t293)) w.heap.size (fun k_ => (w.heap.size ≤ k_) ∧ some k_ ≠ (.slice Ao45 t288.length co45 : Value).ownBlock) (.slice Ao41 x4_1.length co41) x4_1) := ⟨by (with_reducible repeat (first | apply Kd.R_alloc | apply Kd.R_drewN | apply Kd.R_drew)); exact Kd.R_mono (Kd.R_far (p := ⟨gb296, 6, none⟩) (Kd.R_far (p := ⟨gb296, 5, none⟩) (Kd.R_far (p := ⟨gb296, 4, none⟩) (Kd.R_far (p := ⟨gb296, 3, none⟩) (Kd.R_far (p := ⟨gb296, 2, none⟩) (Kd.R_far (p := ⟨gb296, 1, none⟩) (Kd.R_far (p := ⟨gb296, 0, none⟩) (Kd.R_types HO_4.out BK296.out (by decide)) (fun _ hk => hk.2) (.int .i64 t285)) (fun _ hk => hk.2) (.int .i64 t286)) (fun _ hk => hk.2) (.int .i64 t287)) (fun _ hk => hk.2) (.slice Ao45 t288.length co45)) (fun _ hk => hk.2) (.int .i64 t291)) (fun _ hk => hk.2) (.int .i64 t292)) (fun _ hk => hk.2) (.int .i64 t293)) (fun _ hk => ⟨hk.1.1, hk.1.2⟩)⟩
               have n1_ : Aside0 (Kd.N k38 38 (((((((w43.setCell ⟨gb296, 0, none⟩ (.int .i64 t285)).setCell ⟨gb296, 1, none⟩ (.int .i64 t286)).setCell ⟨gb296, 2, none⟩ (.int .i64 t287)).setCell ⟨gb296, 3, none⟩ (.slice Ao45 t288.length co45)).setCell ⟨gb296, 4, none⟩ (.int .i64 t291)).setCell ⟨gb296, 5, none⟩ (.int .i64 t292)).setCell ⟨gb296, 6, none⟩ (.int .i64 t293)) w.heap.size (fun k_ => (P0_ k_ ∨ w.heap.size ≤ k_) ∧ some k_ ≠ (.slice Ao41 x4_1.length co41 : Value).ownBlock ∧ some k_ ≠ (.slice Ao45 t288.length co45 : Value).ownBlock ∧ k_ ≠ gb296) (.slice Ao39 x5_1.length co39) x5_1) := ⟨by (with_reducible repeat (first | apply Kd.N_alloc | apply Kd.N_drewN | apply Kd.N_drew)); exact Kd.N_mono (Kd.N_far (p := ⟨gb296, 6, none⟩) (Kd.N_far (p := ⟨gb296, 5, none⟩) (Kd.N_far (p := ⟨gb296, 4, none⟩) (Kd.N_far (p := ⟨gb296, 3, none⟩) (Kd.N_far (p := ⟨gb296, 2, none⟩) (Kd.N_far (p := ⟨gb296, 1, none⟩) (Kd.N_far (p := ⟨gb296, 0, none⟩) (Kd.N_mono HO_5.out (fun k_ hk => (⟨hk, hk.2⟩ : _ ∧ k_ ≠ gb296))) (fun _ hk => hk.2) (.int .i64 t285)) (fun _ hk => hk.2) (.int .i64 t286)) (fun _ hk => hk.2) (.int .i64 t287)) (fun _ hk => hk.2) (.slice Ao45 t288.length co45)) (fun _ hk => hk.2) (.int .i64 t291)) (fun _ hk => hk.2) (.int .i64 t292)) (fun _ hk => hk.2) (.int .i64 t293)) (fun _ hk => ⟨hk.1.1.1.1, ⟨hk.1.1.1.2, ⟨hk.1.1.2, hk.1.2⟩⟩⟩)⟩
               have n2_ : Aside0 (Kd.V (Kd.int .u8) 5 (((((((w43.setCell ⟨gb296, 0, none⟩ (.int .i64 t285)).setCell ⟨gb296, 1, none⟩ (.int .i64 t286)).setCell ⟨gb296, 2, none⟩ (.int .i64 t287)).setCell ⟨gb296, 3, none⟩ (.slice Ao45 t288.length co45)).setCell ⟨gb296, 4, none⟩ (.int .i64 t291)).setCell ⟨gb296, 5, none⟩ (.int .i64 t292)).setCell ⟨gb296, 6, none⟩ (.int .i64 t293)) w.heap.size (fun k_ => (P0_ k_ ∨ w.heap.size ≤ k_) ∧ some k_ ≠ (.slice Ao39 x5_1.length co39 : Value).ownBlock ∧ some k_ ≠ (.slice Ao45 t288.length co45 : Value).ownBlock ∧ k_ ≠ gb296) (.slice A40 y280.length c40) y280) := ⟨by (with_reducible repeat (first | apply Kd.V_alloc | apply Kd.V_drewN | apply Kd.V_drew)); exact Kd.V_mono (Kd.V_far (p := ⟨gb296, 6, none⟩) (Kd.V_far (p := ⟨gb296, 5, none⟩) (Kd.V_far (p := ⟨gb296, 4, none⟩) (Kd.V_far (p := ⟨gb296, 3, none⟩) (Kd.V_far (p := ⟨gb296, 2, none⟩) (Kd.V_far (p := ⟨gb296, 1, none⟩) (Kd.V_far (p := ⟨gb296, 0, none⟩) (Kd.V_mono HO284.out (fun k_ hk => (⟨hk, hk.2⟩ : _ ∧ k_ ≠ gb296))) (fun _ hk => hk.2) (.int .i64 t285)) (fun _ hk => hk.2) (.int .i64 t286)) (fun _ hk => hk.2) (.int .i64 t287)) (fun _ hk => hk.2) (.slice Ao45 t288.length co45)) (fun _ hk => hk.2) (.int .i64 t291)) (fun _ hk => hk.2) (.int .i64 t292)) (fun _ hk => hk.2) (.int .i64 t293)) (fun _ hk => ⟨hk.1.1.1.1, ⟨hk.1.1.1.2, ⟨hk.1.1.2, hk.1.2⟩⟩⟩)⟩
               have n3_ : Aside0 (Kd.R (Kd.int .u8) 5 (((((((w43.setCell ⟨gb296, 0, none⟩ (.int .i64 t285)).setCell ⟨gb296, 1, none⟩ (.int .i64 t286)).setCell ⟨gb296, 2, none⟩ (.int .i64 t287)).setCell ⟨gb296, 3, none⟩ (.slice Ao45 t288.length co45)).setCell ⟨gb296, 4, none⟩ (.int .i64 t291)).setCell ⟨gb296, 5, none⟩ (.int .i64 t292)).setCell ⟨gb296, 6, none⟩ (.int .i64 t293)) w.heap.size (fun k_ => (w.heap.size ≤ k_) ∧ some k_ ≠ (.slice Ao41 x4_1.length co41 : Value).ownBlock) (.slice Ao45 t288.length co45) t288) := ⟨by (with_reducible repeat (first | apply Kd.R_alloc | apply Kd.R_drewN | apply Kd.R_drew)); exact Kd.R_mono (Kd.R_far (p := ⟨gb296, 6, none⟩) (Kd.R_far (p := ⟨gb296, 5, none⟩) (Kd.R_far (p := ⟨gb296, 4, none⟩) (Kd.R_far (p := ⟨gb296, 3, none⟩) (Kd.R_far (p := ⟨gb296, 2, none⟩) (Kd.R_far (p := ⟨gb296, 1, none⟩) (Kd.R_far (p := ⟨gb296, 0, none⟩) (Kd.R_types HO290.out BK296.out (by decide)) (fun _ hk => hk.2) (.int .i64 t285)) (fun _ hk => hk.2) (.int .i64 t286)) (fun _ hk => hk.2) (.int .i64 t287)) (fun _ hk => hk.2) (.slice Ao45 t288.length co45)) (fun _ hk => hk.2) (.int .i64 t291)) (fun _ hk => hk.2) (.int .i64 t292)) (fun _ hk => hk.2) (.int .i64 t293)) (fun _ hk => ⟨hk.1.1.1, hk.1.2⟩)⟩
               have n4_ : Aside0 ((((((((w43.setCell ⟨gb296, 0, none⟩ (.int .i64 t285)).setCell ⟨gb296, 1, none⟩ (.int .i64 t286)).setCell ⟨gb296, 2, none⟩ (.int .i64 t287)).setCell ⟨gb296, 3, none⟩ (.slice Ao45 t288.length co45)).setCell ⟨gb296, 4, none⟩ (.int .i64 t291)).setCell ⟨gb296, 5, none⟩ (.int .i64 t292)).setCell ⟨gb296, 6, none⟩ (.int .i64 t293)).heap[gb296]? = some (.cells #[.int .i64 t285, .int .i64 t286, .int .i64 t287, .slice Ao45 t288.length co45, .int .i64 t291, .int .i64 t292, .int .i64 t293] 38 (0, 0))) := ⟨by (with_reducible repeat (first | refine blk_drewN ?_ _ | refine blk_drew ?_ | refine blk_alloc ?_ _)); refine blk_put (cs := #[.int .i64 t285, .int .i64 t286, .int .i64 t287, .slice Ao45 t288.length co45, .int .i64 t291, .int .i64 t292, .int .i64 0]) ?_ 6 _ rfl; (with_reducible repeat (first | refine blk_drewN ?_ _ | refine blk_drew ?_ | refine blk_alloc ?_ _)); refine blk_put (cs := #[.int .i64 t285, .int .i64 t286, .int .i64 t287, .slice Ao45 t288.length co45, .int .i64 t291, .int .i64 0, .int .i64 0]) ?_ 5 _ rfl; (with_reducible repeat (first | refine blk_drewN ?_ _ | refine blk_drew ?_ | refine blk_alloc ?_ _)); refine blk_put (cs := #[.int .i64 t285, .int .i64 t286, .int .i64 t287, .slice Ao45 t288.length co45, .int .i64 0, .int .i64 0, .int .i64 0]) ?_ 4 _ rfl; (with_reducible repeat (first | refine blk_drewN ?_ _ | refine blk_drew ?_ | refine blk_alloc ?_ _)); refine blk_put (cs := #[.int .i64 t285, .int .i64 t286, .int .i64 t287, .slice none 0 0, .int .i64 0, .int .i64 0, .int .i64 0]) ?_ 3 _ rfl; (with_reducible repeat (first | refine blk_drewN ?_ _ | refine blk_drew ?_ | refine blk_alloc ?_ _)); refine blk_put (cs := #[.int .i64 t285, .int .i64 t286, .int .i64 0, .slice none 0 0, .int .i64 0, .int .i64 0, .int .i64 0]) ?_ 2 _ rfl; (with_reducible repeat (first | refine blk_drewN ?_ _ | refine blk_drew ?_ | refine blk_alloc ?_ _)); refine blk_put (cs := #[.int .i64 t285, .int .i64 0, .int .i64 0, .slice none 0 0, .int .i64 0, .int .i64 0, .int .i64 0]) ?_ 1 _ rfl; (with_reducible repeat (first | refine blk_drewN ?_ _ | refine blk_drew ?_ | refine blk_alloc ?_ _)); refine blk_put (cs := #[.int .i64 0, .int .i64 0, .int .i64 0, .slice none 0 0, .int .i64 0, .int .i64 0, .int .i64 0]) ?_ 0 _ rfl; (with_reducible repeat (first | refine blk_drewN ?_ _ | refine blk_drew ?_ | refine blk_alloc ?_ _)); exact BK296.out⟩
               have n5_ : Aside0 (Below w.heap.size w (((((((w43.setCell ⟨gb296, 0, none⟩ (.int .i64 t285)).setCell ⟨gb296, 1, none⟩ (.int .i64 t286)).setCell ⟨gb296, 2, none⟩ (.int .i64 t287)).setCell ⟨gb296, 3, none⟩ (.slice Ao45 t288.length co45)).setCell ⟨gb296, 4, none⟩ (.int .i64 t291)).setCell ⟨gb296, 5, none⟩ (.int .i64 t292)).setCell ⟨gb296, 6, none⟩ (.int .i64 t293))) := ⟨by repeat (first | (with_reducible first | exact HB.out | apply below_alloc | apply pw_below_drewN | apply below_drew1 | refine below_set ?_ GE296.out) | exact HB.out)⟩
               (try clear HO_4)
               (try clear HO_5)
               (try clear HO284)
               (try clear HO290)
               (try clear BK296)
               (try clear HB)
               generalize (((((((w43.setCell ⟨gb296, 0, none⟩ (.int .i64 t285)).setCell ⟨gb296, 1, none⟩ (.int .i64 t286)).setCell ⟨gb296, 2, none⟩ (.int .i64 t287)).setCell ⟨gb296, 3, none⟩ (.slice Ao45 t288.length co45)).setCell ⟨gb296, 4, none⟩ (.int .i64 t291)).setCell ⟨gb296, 5, none⟩ (.int .i64 t292)).setCell ⟨gb296, 6, none⟩ (.int .i64 t293)) = w46 at n0_ n1_ n2_ n3_ n4_ n5_ ⊢
               have HO_4 := n0_
               have HO_5 := n1_
               have HO284 := n2_
               have HO290 := n3_
               have BK296 := n4_
               have HB := n5_
               clear n0_ n1_ n2_ n3_ n4_ n5_
               have n0_ := Aside0.mk (Kd.R_drew HO_4.out)
               have n1_ := Aside0.mk (Kd.N_drew HO_5.out)
               have n2_ := Aside0.mk (Kd.V_drew HO284.out)
               have n3_ := Aside0.mk (Kd.R_drew HO290.out)
               have n4_ := Aside0.mk (blk_drew BK296.out)
               have n5_ := Aside0.mk (below_drew1 HB.out)
               clear HO_4
               clear HO_5
               clear HO284
               clear HO290
               clear BK296
               clear HB
               have HO_4 := n0_
               have HO_5 := n1_
               have HO284 := n2_
               have HO290 := n3_
               have BK296 := n4_
               have HB := n5_
               clear n0_ n1_ n2_ n3_ n4_ n5_
               have p297 : 0 ≤ (x10_2 : Int) := of_decide_eq_true (by first | (with_reducible assumption) | assumption)
               have q297 : x10_2 < (x5_1.length : Int) := of_decide_eq_true (by first | (with_reducible assumption) | assumption)
               obtain ⟨ad297, A297_3, c297_3, e297, hx297_0, hx297_1, hx297_2, hx297_3, hx297_4, hx297_5, hx297_6, hl297_3, hi297_3⟩ := at_T38 (Kd.N_reads' HO_5.out).2.2 x10_2 p297 q297
               cases e297
               obtain ⟨ce297, hce297, hMe297, hcc297⟩ := Kd.N_get HO_5.out z38 x10_2 p297 (by first | exact q297 | exact of_decide_eq_true (by first | (with_reducible assumption) | assumption) | (have e_ := (Kd.N_reads' HO_5.out).1; omega))
               obtain ⟨ua297_3, uc297_3, rfl, ul297_3, ge297_3⟩ := k38_openF hMe297
               have hv297_3 := hcc297 3 _ rfl
               rw [add_field _ _ 3 (by omega)] at hv297_3
               replace hv297_3 := Option.some.inj (hv297_3.symm.trans hx297_3)
               injection hv297_3 with hva_ hvn_ hvc_
               rw [hva_] at ge297_3
               rw [hvc_] at ul297_3
               have HL297_3 := Aside0.mk (show Kd.V (Kd.int .u8) 5 _ w.heap.size _ _ ((rd_T38 x5_1 x10_2).f3) from Kd.V_mk ul297_3 ge297_3)
               clear hva_ hvn_ hvc_ ge297_3 ul297_3
               clear hcc297 hce297
               have HR297_3 := Aside0.mk hi297_3
               have HC297_3 := Aside0.mk hl297_3
               clear hi297_3 hl297_3
               replace p297 := eq_true p297
               replace q297 := eq_true q297
               refine start_ (n := 7) (S := fun w' => w'.cell? ⟨gb296, 0, none⟩ = some (.int .i64 t285) ∧ w'.cell? ⟨gb296, 1, none⟩ = some (.int .i64 t286) ∧ w'.cell? ⟨gb296, 2, none⟩ = some (.int .i64 t287) ∧ w'.cell? ⟨gb296, 3, none⟩ = some (.slice Ao45 t288.length co45) ∧ w'.cell? ⟨gb296, 4, none⟩ = some (.int .i64 t291) ∧ w'.cell? ⟨gb296, 5, none⟩ = some (.int .i64 t292) ∧ w'.cell? ⟨gb296, 6, none⟩ = some (.int .i64 t293) ∧ w'.cell? (ad297.add ((x10_2).toNat * 7)) = some (.int .i64 ((rd_T38 x5_1 x10_2).f0)) ∧ w'.cell? ⟨(ad297.add ((x10_2).toNat * 7)).block, (ad297.add ((x10_2).toNat * 7)).off + 1, none⟩ = some (.int .i64 ((rd_T38 x5_1 x10_2).f1)) ∧ w'.cell? ⟨(ad297.add ((x10_2).toNat * 7)).block, (ad297.add ((x10_2).toNat * 7)).off + 2, none⟩ = some (.int .i64 ((rd_T38 x5_1 x10_2).f2)) ∧ w'.cell? ⟨(ad297.add ((x10_2).toNat * 7)).block, (ad297.add ((x10_2).toNat * 7)).off + 3, none⟩ = some (.slice A297_3 ((rd_T38 x5_1 x10_2).f3).length c297_3) ∧ w'.cell? ⟨(ad297.add ((x10_2).toNat * 7)).block, (ad297.add ((x10_2).toNat * 7)).off + 4, none⟩ = some (.int .i64 ((rd_T38 x5_1 x10_2).f4)) ∧ w'.cell? ⟨(ad297.add ((x10_2).toNat * 7)).block, (ad297.add ((x10_2).toNat * 7)).off + 5, none⟩ = some (.int .i64 ((rd_T38 x5_1 x10_2).f5)) ∧ w'.cell? ⟨(ad297.add ((x10_2).toNat * 7)).block, (ad297.add ((x10_2).toNat * 7)).off + 6, none⟩ = some (.int .i64 ((rd_T38 x5_1 x10_2).f6))) (ds := []) #[false, false, false, false, false, false, false] (by kernel_rfl) rfl rfl ⟨(blk_cell BK296.out 0).trans rfl, (blk_cell BK296.out 1).trans rfl, (blk_cell BK296.out 2).trans rfl, (blk_cell BK296.out 3).trans rfl, (blk_cell BK296.out 4).trans rfl, (blk_cell BK296.out 5).trans rfl, (blk_cell BK296.out 6).trans rfl, hx297_0, hx297_1, hx297_2, hx297_3, hx297_4, hx297_5, hx297_6⟩ (fun hHeld => ?_)
               generalize w46.drew = w47 at HO_4 HO_5 HO284 HO290 BK296 HB HL297_3 HR297_3 hx297_0 hx297_1 hx297_2 hx297_3 hx297_4 hx297_5 hx297_6 hHeld ⊢
               refine pure_ (i := 1) (N := some 70) (v := ?_) (a' := ?_) #[false, true, false, false, false, false, false] rfl rfl (by kernel_rfl) (fun _ _ _ h => h) (Or.inl ⟨by rfl, ?_⟩) ?_ ?_
               rotate_left
               ·intro w'
                go_simp
                with_reducible rfl
               rotate_left
               ·simp only [Act.put, Kx.sb, Kx.sz, Kx.ss, i64_w, i32_w]
                rfl
               refine pure_ (i := 2) (N := some 71) (v := ?_) (a' := ?_) #[false, true, true, false, false, false, false] rfl rfl (by kernel_rfl) (fun _ _ _ h => h) (Or.inl ⟨by rfl, ?_⟩) ?_ ?_
               rotate_left
               ·intro w'
                go_simp
                with_reducible rfl
               rotate_left
               ·simp only [Act.put, Kx.sb, Kx.sz, Kx.ss, i64_w, i32_w]
                rfl
               refine pure_ (i := 3) (N := some 72) (v := ?_) (a' := ?_) #[false, true, true, true, false, false, false] rfl rfl (by kernel_rfl) (fun _ _ _ h => h) (Or.inl ⟨by rfl, ?_⟩) ?_ ?_
               rotate_left
               ·intro w'
                go_simp
                with_reducible rfl
               rotate_left
               ·simp only [Act.put, Kx.sb, Kx.sz, Kx.ss, i64_w, i32_w]
                rfl
               refine take_ (i := 0) (N := some 69) (v := ?_) (a' := ?_) #[true, true, true, true, false, false, false] rfl rfl (by kernel_rfl) (fun _ _ _ h => h) (Or.inl ⟨by rfl, ?_⟩) hHeld ?_ ?_
               rotate_left
               ·rintro w' ⟨s0, s1, s2, s3, s4, s5, s6, s7, s8, s9, s10, s11, s12, s13⟩
                go_simp
                with_reducible rfl
               rotate_left
               ·simp only [Act.put, Kx.sb, Kx.sz, Kx.ss, i64_w, i32_w]
                rfl
               refine take_ (i := 4) (N := some 73) (v := ?_) (a' := ?_) #[true, true, true, true, true, false, false] rfl rfl (by kernel_rfl) (fun _ _ _ h => h) (Or.inl ⟨by rfl, ?_⟩) hHeld ?_ ?_
               rotate_left
               ·rintro w' ⟨s0, s1, s2, s3, s4, s5, s6, s7, s8, s9, s10, s11, s12, s13⟩
                go_simp
                with_reducible rfl
               rotate_left
               ·simp only [Act.put, Kx.sb, Kx.sz, Kx.ss, i64_w, i32_w]
                rfl
               refine one_ (i := 5) (N := some 74) #[true, true, true, true, true, true, false] rfl rfl (by kernel_rfl) (by decide) (fun K hK => ?_)
               refine goes_ Try.func23 (by kernel_rfl) rfl #[.agg #[.int .i64 t285, .int .i64 t286, .int .i64 t287, .slice Ao45 t288.length co45, .int .i64 t291, .int .i64 t292, .int .i64 t293], .agg #[.int .i64 ((rd_T38 x5_1 x10_2).f0), .int .i64 ((rd_T38 x5_1 x10_2).f1), .int .i64 ((rd_T38 x5_1 x10_2).f2), .slice A297_3 ((rd_T38 x5_1 x10_2).f3).length c297_3, .int .i64 ((rd_T38 x5_1 x10_2).f4), .int .i64 ((rd_T38 x5_1 x10_2).f5), .int .i64 ((rd_T38 x5_1 x10_2).f6)]] (by rfl) rfl rfl (by (try simp only [List.map_toArray, List.map_cons, List.map_nil]); first | done | rfl | (simp only [List.length_drop, List.length_take]; rfl)) ?_
               with_reducible refine (waggonerref16_Same.calls t285 t286 t287 _ _ t288 t291 t292 t293 ((rd_T38 x5_1 x10_2).f0) ((rd_T38 x5_1 x10_2).f1) ((rd_T38 x5_1 x10_2).f2) _ _ ((rd_T38 x5_1 x10_2).f3) ((rd_T38 x5_1 x10_2).f4) ((rd_T38 x5_1 x10_2).f5) ((rd_T38 x5_1 x10_2).f6) true _ ?side1 ?side2 ?side3 ?side4 A24.out).mono ?_
               (case side1 => repeat (first | exact (Kd.R_reads' HO290.out).2.2 | (with_reducible refine Kd.C_alloc ?_ _) | (with_reducible refine Kd.C_drewN ?_ _) | (with_reducible refine Kd.C_drew ?_)))
               (case side2 => exact (Kd.R_reads' HO290.out).2.1)
               (case side3 => repeat (first | exact (by repeat (first | (with_reducible exact HR297_3.out) | (with_reducible refine Kd.C_alloc ?_ _) | (with_reducible refine Kd.C_drewN ?_ _) | (with_reducible refine Kd.C_drew ?_) | exact HR297_3.out)) | (with_reducible refine Kd.C_alloc ?_ _) | (with_reducible refine Kd.C_drewN ?_ _) | (with_reducible refine Kd.C_drew ?_)))
               (case side4 => exact HC297_3.out)
               rintro e w48 ⟨rfl, hb⟩
               have HS7_ := (hb.cell (World.block_lt_of_cell? _ _ (hHeld.2.2.2.2.2.2.2.1))).trans (hHeld.2.2.2.2.2.2.2.1)
               have HS8_ := (hb.cell (World.block_lt_of_cell? _ _ (hHeld.2.2.2.2.2.2.2.2.1))).trans (hHeld.2.2.2.2.2.2.2.2.1)
               have HS9_ := (hb.cell (World.block_lt_of_cell? _ _ (hHeld.2.2.2.2.2.2.2.2.2.1))).trans (hHeld.2.2.2.2.2.2.2.2.2.1)
               have HS10_ := (hb.cell (World.block_lt_of_cell? _ _ (hHeld.2.2.2.2.2.2.2.2.2.2.1))).trans (hHeld.2.2.2.2.2.2.2.2.2.2.1)
               have HS11_ := (hb.cell (World.block_lt_of_cell? _ _ (hHeld.2.2.2.2.2.2.2.2.2.2.2.1))).trans (hHeld.2.2.2.2.2.2.2.2.2.2.2.1)
               have HS12_ := (hb.cell (World.block_lt_of_cell? _ _ (hHeld.2.2.2.2.2.2.2.2.2.2.2.2.1))).trans (hHeld.2.2.2.2.2.2.2.2.2.2.2.2.1)
               have HS13_ := (hb.cell (World.block_lt_of_cell? _ _ (hHeld.2.2.2.2.2.2.2.2.2.2.2.2.2))).trans (hHeld.2.2.2.2.2.2.2.2.2.2.2.2.2)
               refine ⟨_, rfl, ?_⟩
               have n0_ := Aside0.mk (Kd.R_below (by (with_reducible repeat (first | apply Kd.R_alloc | apply Kd.R_drewN | apply Kd.R_drew)); exact HO_4.out) hb)
               have n1_ := Aside0.mk (Kd.N_below (by (with_reducible repeat (first | apply Kd.N_alloc | apply Kd.N_drewN | apply Kd.N_drew)); exact HO_5.out) hb)
               have n2_ := Aside0.mk (Kd.V_below (by (with_reducible repeat (first | apply Kd.V_alloc | apply Kd.V_drewN | apply Kd.V_drew)); exact HO284.out) hb)
               have n3_ := Aside0.mk (Kd.R_below (by (with_reducible repeat (first | apply Kd.R_alloc | apply Kd.R_drewN | apply Kd.R_drew)); exact HO290.out) hb)
               have n4_ := Aside0.mk (Kd.V_below (by (with_reducible repeat (first | apply Kd.V_alloc | apply Kd.V_drewN | apply Kd.V_drew)); exact HL297_3.out) hb)
               have n5_ := Aside0.mk (blk_below (g := gb296) (o := .cells #[.int .i64 t285, .int .i64 t286, .int .i64 t287, .slice Ao45 t288.length co45, .int .i64 t291, .int .i64 t292, .int .i64 t293] 38 (0, 0)) (by (with_reducible repeat (first | refine blk_drewN ?_ _ | refine blk_drew ?_ | refine blk_alloc ?_ _)); exact BK296.out) hb)
               have n6_ := Aside0.mk (Kd.C_below (by repeat (first | (with_reducible exact HR297_3.out) | (with_reducible refine Kd.C_alloc ?_ _) | (with_reducible refine Kd.C_drewN ?_ _) | (with_reducible refine Kd.C_drew ?_) | exact HR297_3.out)) hb)
               have n7_ := Aside0.mk (below_step (by repeat (first | (with_reducible first | exact HB.out | apply below_alloc | apply pw_below_drewN | apply below_drew1 | refine below_set ?_ GE296.out) | exact HB.out)) hb)
               clear HO_4
               clear HO_5
               clear HO284
               clear HO290
               clear HL297_3
               clear BK296
               clear HR297_3
               clear HB
               have HO_4 := n0_
               have HO_5 := n1_
               have HO284 := n2_
               have HO290 := n3_
               have HL297_3 := n4_
               have BK296 := n5_
               have HR297_3 := n6_
               have HB := n7_
               clear n0_ n1_ n2_ n3_ n4_ n5_ n6_ n7_
               (try clear hb)
               (try clear hb2)
               (try clear hk)
               (try clear hi)
               refine hK.out _ _ ⟨(blk_cell BK296.out 0).trans rfl, (blk_cell BK296.out 1).trans rfl, (blk_cell BK296.out 2).trans rfl, (blk_cell BK296.out 3).trans rfl, (blk_cell BK296.out 4).trans rfl, (blk_cell BK296.out 5).trans rfl, (blk_cell BK296.out 6).trans rfl, HS7_, HS8_, HS9_, HS10_, HS11_, HS12_, HS13_⟩ (fun hHeld => ?_)
               clear hK K
               refine norm_ (a' := ?_) ?_ ?_
               rotate_left
               ·show Act.put _ (some 74) _ = _
                simp only [Act.put, Kx.sb, Kx.sz, Kx.ss, i64_w, i32_w]
                rfl
               refine pure_ (i := 6) (N := some 14) (v := ?_) (a' := ?_) #[true, true, true, true, true, true, true] rfl rfl (by kernel_rfl) (fun _ _ _ h => h) (Or.inl ⟨by rfl, ?_⟩) ?_ ?_
               rotate_left
               ·intro w'
                go_simp
                with_reducible rfl
               rotate_left
               ·simp only [Act.put, Kx.sb, Kx.sz, Kx.ss, i64_w, i32_w]
                rfl
               refine done_ (by kernel_rfl) ?_
               try go_wp2
               go_ret
               exact ⟨by first | rfl | (exact congrArg (fun z_ => Ending.returned (Value.bool z_)) HRT.out) | (rw [HRT.out]; done) | (simp [errW_none, errW_some] <;> rfl) | (simp [*, errW_none, errW_some] <;> rfl), by repeat (first | (with_reducible first | exact HB.out | apply below_alloc | apply pw_below_drewN | apply below_drew1 | refine below_set ?_ GE296.out) | exact HB.out)⟩
              ·rw [if_neg c38] at H
               have c38b0 : decide ((wrap64 ((x4_1.length : Int) - x9_2)) < t294) = false := decide_eq_false c38
               clear c38
               have H' := Aside0.mk H
               clear H
               obtain ⟨Ao49, co49, eo49⟩ := Kd.N_slice HO_5.out
               subst eo49
               obtain ⟨Ao51, co51, eo51⟩ := Kd.R_slice HO_4.out
               subst eo51
               have q50 : (x9_2 : Int) ≤ ((x4_1.length : Int) : Int) := of_decide_eq_true (by first | (with_reducible assumption) | assumption)
               obtain ⟨i050, hi050, _, hsz50, _⟩ := info_parts info5
               have hroom50 : x4_1.length ≤ co51 := (Kd.R_reads' HO_4.out).2.1
               have hC50 : Kd.F (Kd.int .u8) _ _ Ao51 x4_1.length x4_1 := (Kd.V_at (base := w.heap.size) (Kd.V_mono (ok' := (fun k_ => ((P0_ k_ ∨ w.heap.size ≤ k_) ∧ some k_ ≠ (.slice Ao49 x5_1.length co49 : Value).ownBlock))) (Kd.R_V (Kd.R_apart' (HO_4.out) (Kd.N_typed HO_5.out) (by decide))) (fun k_ hk => ⟨(.inr (hk.1)), hk.2⟩))).2.2
               have q050 : (0 : Int) ≤ (x9_2 : Int) := of_decide_eq_true (by first | (with_reducible assumption) | assumption)
               have hcut50 := cut_from (P := Try.prog) 27 5 .i64 Try.underlying27 hi050 1 hsz50 Ao51 x4_1.length co51 x9_2 q050 q50
               have hr50 := Kd.F_cut (m := (x9_2 : Int).toNat) (c := co51) hC50 (by omega) hroom50
               obtain ⟨A50, hA50⟩ : ∃ A1, A1 = (if co51 = (x9_2 : Int).toNat then Ao51 else (Ao51 : Option Addr).map (·.add ((x9_2 : Int).toNat * 1))) := ⟨_, rfl⟩
               obtain ⟨c50, hc50⟩ : ∃ c1, c1 = co51 - (x9_2 : Int).toNat := ⟨_, rfl⟩
               have hy50 : y280.length = x4_1.length - (x9_2 : Int).toNat := (by rw [Ny280.out, List.length_drop] <;> omega)
               rw [show (x4_1).drop (x9_2 : Int).toNat = y280 from Ny280.out.symm] at hr50
               replace hr50 : Kd.F (Kd.int .u8) _ _ A50 y280.length y280 := (by rw [hA50]; exact hr50)
               rw [← hy50, ← hA50, ← hc50] at hcut50
               have HO284 := Aside0.mk (show Kd.V (Kd.int .u8) 5 _ w.heap.size _ (.slice A50 y280.length c50) y280 from Kd.V_mk (by rw [hy50, hc50]; exact Nat.sub_le_sub_right hroom50 _) hr50)
               have HC284 := Aside0.mk (show y280.length ≤ c50 from by rw [hy50, hc50]; exact Nat.sub_le_sub_right hroom50 _)
               clear hr50 hC50 hroom50 hi050 hsz50 hc50
               have KY50 := Aside0.mk hy50
               have KA50 := Aside0.mk hA50
               clear hy50 hA50
               replace q50 := eq_true q50
               try go_wp2_with (first | ((with_reducible refine gate_callee (f := 21) rfl ?_); refine goesL_ (some 65) rfl rfl Try.func21 (by kernel_rfl) rfl #[.slice A50 y280.length c50] rfl (by (try simp only [List.map_toArray, List.map_cons, List.map_nil]); first | done | rfl | (simp only [List.length_drop, List.length_take]; rfl)) ?_; (with_reducible refine (frame_Read.calls _ _ y280 t285 t286 t287 t288 t291 t292 t293 t294 t295 _ ?side1 ?side2 A22.out).mono ?_); (case side1 => repeat (first | exact (Kd.V_reads' HO284.out).2.2 | (with_reducible refine Kd.C_alloc ?_ _) | (with_reducible refine Kd.C_drewN ?_ _) | (with_reducible refine Kd.C_drew ?_))); (case side2 => exact (Kd.V_reads' HO284.out).2.1); rintro e w52 ⟨v289, rfl, ho0, hb⟩; refine ⟨_, rfl, ?_⟩; have n0_ := Aside0.mk (Kd.R_elder' (by (with_reducible repeat (first | apply Kd.R_alloc | apply Kd.R_drewN | apply Kd.R_drew)); exact HO_4.out) (Kd.R_base ho0) hb); have n1_ := Aside0.mk (Kd.N_elder' (by (with_reducible repeat (first | apply Kd.N_alloc | apply Kd.N_drewN | apply Kd.N_drew)); exact HO_5.out) (Kd.R_base ho0) hb); have n2_ := Aside0.mk (Kd.V_elder' (by (with_reducible repeat (first | apply Kd.V_alloc | apply Kd.V_drewN | apply Kd.V_drew)); exact HO284.out) (Kd.R_base ho0) hb); have n3_ := Aside0.mk (Kd.R_lower (Kd.R_new' (Kd.R_newM (M := fun k_ => (w.heap.size ≤ k_)) ho0 (below_size (by repeat (first | (with_reducible first | exact HB.out | apply below_alloc | apply pw_below_drewN | apply below_drew1) | exact HB.out))) (fun k_ h_ => h_)) (Kd.R_lt (by (with_reducible repeat (first | apply Kd.R_alloc | apply Kd.R_drewN | apply Kd.R_drew)); exact HO_4.out))) (below_size (by repeat (first | (with_reducible first | exact HB.out | apply below_alloc | apply pw_below_drewN | apply below_drew1) | exact HB.out)))); have n4_ := Aside0.mk (below_step (by repeat (first | (with_reducible first | exact HB.out | apply below_alloc | apply pw_below_drewN | apply below_drew1) | exact HB.out)) hb); clear HO_4; clear HO_5; clear HO284; clear HB; have HO_4 := n0_; have HO_5 := n1_; have HO284 := n2_; have HO290 := n3_; have HB := n4_; clear n0_ n1_ n2_ n3_ n4_; (try clear hb); (try clear hb2); (try clear hk); (try clear hi); (try clear ho0)) | ((with_reducible refine gate_dst (N := 11) rfl ?_); (try (refine gate_guard (by rfl) ?_; dsimp only)); refine box_event ?hg (N := 11) ?hd (cs := #[.int .i64 0, .int .i64 0, .int .i64 0, .slice none 0 0, .int .i64 0, .int .i64 0, .int .i64 0]) (t := 38) ?hr ?_; (case hd => rfl); (case hg => rfl); (case hr => first | (go_simp; done) | (go_simp; rfl)); intro gb296 hg w53 hbox hb; have n0_ := Aside0.mk (Kd.R_below (by (with_reducible repeat (first | apply Kd.R_alloc | apply Kd.R_drewN | apply Kd.R_drew)); exact HO_4.out) hb); have n1_ := Aside0.mk (Kd.N_below (Kd.N_elderB (by (with_reducible repeat (first | apply Kd.N_alloc | apply Kd.N_drewN | apply Kd.N_drew)); exact HO_5.out) gb296 (Nat.le_of_eq hg.symm)) hb); have n2_ := Aside0.mk (Kd.V_below (Kd.V_elderB (by (with_reducible repeat (first | apply Kd.V_alloc | apply Kd.V_drewN | apply Kd.V_drew)); exact HO284.out) gb296 (Nat.le_of_eq hg.symm)) hb); have n3_ := Aside0.mk (Kd.R_below (by (with_reducible repeat (first | apply Kd.R_alloc | apply Kd.R_drewN | apply Kd.R_drew)); exact HO290.out) hb); have n4_ := Aside0.mk (below_step (by repeat (first | (with_reducible first | exact HB.out | apply below_alloc | apply pw_below_drewN | apply below_drew1) | exact HB.out)) hb); have n5_ := Aside0.mk (hbox); have n6_ := Aside0.mk ((by rw [hg]; exact (below_size (by repeat (first | (with_reducible first | exact HB.out | apply below_alloc | apply pw_below_drewN | apply below_drew1) | exact HB.out))) : w.heap.size ≤ gb296)); have n7_ := Aside0.mk ((by rw [hg]; exact (below_size (by repeat (first | (with_reducible first | exact HB.out | apply below_alloc | apply pw_below_drewN | apply below_drew1) | exact HB.out))) : w.heap.size ≤ gb296)); clear HO_4; clear HO_5; clear HO284; clear HO290; clear HB; have HO_4 := n0_; have HO_5 := n1_; have HO284 := n2_; have HO290 := n3_; have HB := n4_; have BK296 := n5_; have GW296 := n6_; have GE296 := n7_; clear n0_ n1_ n2_ n3_ n4_ n5_ n6_ n7_; clear hb hbox hg; have hcz54_0 : w53.cell? ⟨gb296, 0, none⟩ = some (.int .i64 0) := (blk_cell BK296.out 0).trans rfl; have hcz54_1 : w53.cell? ⟨gb296, 1, none⟩ = some (.int .i64 0) := (blk_cell BK296.out 1).trans rfl; have hcz54_2 : w53.cell? ⟨gb296, 2, none⟩ = some (.int .i64 0) := (blk_cell BK296.out 2).trans rfl; have hcz54_3 : w53.cell? ⟨gb296, 3, none⟩ = some (.slice none 0 0) := (blk_cell BK296.out 3).trans rfl; have hcz54_4 : w53.cell? ⟨gb296, 4, none⟩ = some (.int .i64 0) := (blk_cell BK296.out 4).trans rfl; have hcz54_5 : w53.cell? ⟨gb296, 5, none⟩ = some (.int .i64 0) := (blk_cell BK296.out 5).trans rfl; have hcz54_6 : w53.cell? ⟨gb296, 6, none⟩ = some (.int .i64 0) := (blk_cell BK296.out 6).trans rfl; have hfz54_0 := blk_frozen BK296.out 0; have hfz54_1 := blk_frozen BK296.out 1; have hfz54_2 := blk_frozen BK296.out 2; have hfz54_3 := blk_frozen BK296.out 3; have hfz54_4 := blk_frozen BK296.out 4; have hfz54_5 := blk_frozen BK296.out 5; have hfz54_6 := blk_frozen BK296.out 6; obtain ⟨Ao55, co55, eo55⟩ := Kd.R_slice HO290.out; subst eo55))
               have n0_ : Aside0 (Kd.R (Kd.int .u8) 5 (((((((w53.setCell ⟨gb296, 0, none⟩ (.int .i64 t285)).setCell ⟨gb296, 1, none⟩ (.int .i64 t286)).setCell ⟨gb296, 2, none⟩ (.int .i64 t287)).setCell ⟨gb296, 3, none⟩ (.slice Ao55 t288.length co55)).setCell ⟨gb296, 4, none⟩ (.int .i64 t291)).setCell ⟨gb296, 5, none⟩ (.int .i64 t292)).setCell ⟨gb296, 6, none⟩ (.int .i64 t293)) w.heap.size (fun k_ => (w.heap.size ≤ k_) ∧ some k_ ≠ (.slice Ao55 t288.length co55 : Value).ownBlock) (.slice Ao51 x4_1.length co51) x4_1) := ⟨by (with_reducible repeat (first | apply Kd.R_alloc | apply Kd.R_drewN | apply Kd.R_drew)); exact Kd.R_mono (Kd.R_far (p := ⟨gb296, 6, none⟩) (Kd.R_far (p := ⟨gb296, 5, none⟩) (Kd.R_far (p := ⟨gb296, 4, none⟩) (Kd.R_far (p := ⟨gb296, 3, none⟩) (Kd.R_far (p := ⟨gb296, 2, none⟩) (Kd.R_far (p := ⟨gb296, 1, none⟩) (Kd.R_far (p := ⟨gb296, 0, none⟩) (Kd.R_types HO_4.out BK296.out (by decide)) (fun _ hk => hk.2) (.int .i64 t285)) (fun _ hk => hk.2) (.int .i64 t286)) (fun _ hk => hk.2) (.int .i64 t287)) (fun _ hk => hk.2) (.slice Ao55 t288.length co55)) (fun _ hk => hk.2) (.int .i64 t291)) (fun _ hk => hk.2) (.int .i64 t292)) (fun _ hk => hk.2) (.int .i64 t293)) (fun _ hk => ⟨hk.1.1, hk.1.2⟩)⟩
               have n1_ : Aside0 (Kd.N k38 38 (((((((w53.setCell ⟨gb296, 0, none⟩ (.int .i64 t285)).setCell ⟨gb296, 1, none⟩ (.int .i64 t286)).setCell ⟨gb296, 2, none⟩ (.int .i64 t287)).setCell ⟨gb296, 3, none⟩ (.slice Ao55 t288.length co55)).setCell ⟨gb296, 4, none⟩ (.int .i64 t291)).setCell ⟨gb296, 5, none⟩ (.int .i64 t292)).setCell ⟨gb296, 6, none⟩ (.int .i64 t293)) w.heap.size (fun k_ => (P0_ k_ ∨ w.heap.size ≤ k_) ∧ some k_ ≠ (.slice Ao51 x4_1.length co51 : Value).ownBlock ∧ some k_ ≠ (.slice Ao55 t288.length co55 : Value).ownBlock ∧ k_ ≠ gb296) (.slice Ao49 x5_1.length co49) x5_1) := ⟨by (with_reducible repeat (first | apply Kd.N_alloc | apply Kd.N_drewN | apply Kd.N_drew)); exact Kd.N_mono (Kd.N_far (p := ⟨gb296, 6, none⟩) (Kd.N_far (p := ⟨gb296, 5, none⟩) (Kd.N_far (p := ⟨gb296, 4, none⟩) (Kd.N_far (p := ⟨gb296, 3, none⟩) (Kd.N_far (p := ⟨gb296, 2, none⟩) (Kd.N_far (p := ⟨gb296, 1, none⟩) (Kd.N_far (p := ⟨gb296, 0, none⟩) (Kd.N_mono HO_5.out (fun k_ hk => (⟨hk, hk.2⟩ : _ ∧ k_ ≠ gb296))) (fun _ hk => hk.2) (.int .i64 t285)) (fun _ hk => hk.2) (.int .i64 t286)) (fun _ hk => hk.2) (.int .i64 t287)) (fun _ hk => hk.2) (.slice Ao55 t288.length co55)) (fun _ hk => hk.2) (.int .i64 t291)) (fun _ hk => hk.2) (.int .i64 t292)) (fun _ hk => hk.2) (.int .i64 t293)) (fun _ hk => ⟨hk.1.1.1.1, ⟨hk.1.1.1.2, ⟨hk.1.1.2, hk.1.2⟩⟩⟩)⟩
               have n2_ : Aside0 (Kd.V (Kd.int .u8) 5 (((((((w53.setCell ⟨gb296, 0, none⟩ (.int .i64 t285)).setCell ⟨gb296, 1, none⟩ (.int .i64 t286)).setCell ⟨gb296, 2, none⟩ (.int .i64 t287)).setCell ⟨gb296, 3, none⟩ (.slice Ao55 t288.length co55)).setCell ⟨gb296, 4, none⟩ (.int .i64 t291)).setCell ⟨gb296, 5, none⟩ (.int .i64 t292)).setCell ⟨gb296, 6, none⟩ (.int .i64 t293)) w.heap.size (fun k_ => (P0_ k_ ∨ w.heap.size ≤ k_) ∧ some k_ ≠ (.slice Ao49 x5_1.length co49 : Value).ownBlock ∧ some k_ ≠ (.slice Ao55 t288.length co55 : Value).ownBlock ∧ k_ ≠ gb296) (.slice A50 y280.length c50) y280) := ⟨by (with_reducible repeat (first | apply Kd.V_alloc | apply Kd.V_drewN | apply Kd.V_drew)); exact Kd.V_mono (Kd.V_far (p := ⟨gb296, 6, none⟩) (Kd.V_far (p := ⟨gb296, 5, none⟩) (Kd.V_far (p := ⟨gb296, 4, none⟩) (Kd.V_far (p := ⟨gb296, 3, none⟩) (Kd.V_far (p := ⟨gb296, 2, none⟩) (Kd.V_far (p := ⟨gb296, 1, none⟩) (Kd.V_far (p := ⟨gb296, 0, none⟩) (Kd.V_mono HO284.out (fun k_ hk => (⟨hk, hk.2⟩ : _ ∧ k_ ≠ gb296))) (fun _ hk => hk.2) (.int .i64 t285)) (fun _ hk => hk.2) (.int .i64 t286)) (fun _ hk => hk.2) (.int .i64 t287)) (fun _ hk => hk.2) (.slice Ao55 t288.length co55)) (fun _ hk => hk.2) (.int .i64 t291)) (fun _ hk => hk.2) (.int .i64 t292)) (fun _ hk => hk.2) (.int .i64 t293)) (fun _ hk => ⟨hk.1.1.1.1, ⟨hk.1.1.1.2, ⟨hk.1.1.2, hk.1.2⟩⟩⟩)⟩
               have n3_ : Aside0 (Kd.R (Kd.int .u8) 5 (((((((w53.setCell ⟨gb296, 0, none⟩ (.int .i64 t285)).setCell ⟨gb296, 1, none⟩ (.int .i64 t286)).setCell ⟨gb296, 2, none⟩ (.int .i64 t287)).setCell ⟨gb296, 3, none⟩ (.slice Ao55 t288.length co55)).setCell ⟨gb296, 4, none⟩ (.int .i64 t291)).setCell ⟨gb296, 5, none⟩ (.int .i64 t292)).setCell ⟨gb296, 6, none⟩ (.int .i64 t293)) w.heap.size (fun k_ => (w.heap.size ≤ k_) ∧ some k_ ≠ (.slice Ao51 x4_1.length co51 : Value).ownBlock) (.slice Ao55 t288.length co55) t288) := ⟨by (with_reducible repeat (first | apply Kd.R_alloc | apply Kd.R_drewN | apply Kd.R_drew)); exact Kd.R_mono (Kd.R_far (p := ⟨gb296, 6, none⟩) (Kd.R_far (p := ⟨gb296, 5, none⟩) (Kd.R_far (p := ⟨gb296, 4, none⟩) (Kd.R_far (p := ⟨gb296, 3, none⟩) (Kd.R_far (p := ⟨gb296, 2, none⟩) (Kd.R_far (p := ⟨gb296, 1, none⟩) (Kd.R_far (p := ⟨gb296, 0, none⟩) (Kd.R_types HO290.out BK296.out (by decide)) (fun _ hk => hk.2) (.int .i64 t285)) (fun _ hk => hk.2) (.int .i64 t286)) (fun _ hk => hk.2) (.int .i64 t287)) (fun _ hk => hk.2) (.slice Ao55 t288.length co55)) (fun _ hk => hk.2) (.int .i64 t291)) (fun _ hk => hk.2) (.int .i64 t292)) (fun _ hk => hk.2) (.int .i64 t293)) (fun _ hk => ⟨hk.1.1.1, hk.1.2⟩)⟩
               have n4_ : Aside0 ((((((((w53.setCell ⟨gb296, 0, none⟩ (.int .i64 t285)).setCell ⟨gb296, 1, none⟩ (.int .i64 t286)).setCell ⟨gb296, 2, none⟩ (.int .i64 t287)).setCell ⟨gb296, 3, none⟩ (.slice Ao55 t288.length co55)).setCell ⟨gb296, 4, none⟩ (.int .i64 t291)).setCell ⟨gb296, 5, none⟩ (.int .i64 t292)).setCell ⟨gb296, 6, none⟩ (.int .i64 t293)).heap[gb296]? = some (.cells #[.int .i64 t285, .int .i64 t286, .int .i64 t287, .slice Ao55 t288.length co55, .int .i64 t291, .int .i64 t292, .int .i64 t293] 38 (0, 0))) := ⟨by (with_reducible repeat (first | refine blk_drewN ?_ _ | refine blk_drew ?_ | refine blk_alloc ?_ _)); refine blk_put (cs := #[.int .i64 t285, .int .i64 t286, .int .i64 t287, .slice Ao55 t288.length co55, .int .i64 t291, .int .i64 t292, .int .i64 0]) ?_ 6 _ rfl; (with_reducible repeat (first | refine blk_drewN ?_ _ | refine blk_drew ?_ | refine blk_alloc ?_ _)); refine blk_put (cs := #[.int .i64 t285, .int .i64 t286, .int .i64 t287, .slice Ao55 t288.length co55, .int .i64 t291, .int .i64 0, .int .i64 0]) ?_ 5 _ rfl; (with_reducible repeat (first | refine blk_drewN ?_ _ | refine blk_drew ?_ | refine blk_alloc ?_ _)); refine blk_put (cs := #[.int .i64 t285, .int .i64 t286, .int .i64 t287, .slice Ao55 t288.length co55, .int .i64 0, .int .i64 0, .int .i64 0]) ?_ 4 _ rfl; (with_reducible repeat (first | refine blk_drewN ?_ _ | refine blk_drew ?_ | refine blk_alloc ?_ _)); refine blk_put (cs := #[.int .i64 t285, .int .i64 t286, .int .i64 t287, .slice none 0 0, .int .i64 0, .int .i64 0, .int .i64 0]) ?_ 3 _ rfl; (with_reducible repeat (first | refine blk_drewN ?_ _ | refine blk_drew ?_ | refine blk_alloc ?_ _)); refine blk_put (cs := #[.int .i64 t285, .int .i64 t286, .int .i64 0, .slice none 0 0, .int .i64 0, .int .i64 0, .int .i64 0]) ?_ 2 _ rfl; (with_reducible repeat (first | refine blk_drewN ?_ _ | refine blk_drew ?_ | refine blk_alloc ?_ _)); refine blk_put (cs := #[.int .i64 t285, .int .i64 0, .int .i64 0, .slice none 0 0, .int .i64 0, .int .i64 0, .int .i64 0]) ?_ 1 _ rfl; (with_reducible repeat (first | refine blk_drewN ?_ _ | refine blk_drew ?_ | refine blk_alloc ?_ _)); refine blk_put (cs := #[.int .i64 0, .int .i64 0, .int .i64 0, .slice none 0 0, .int .i64 0, .int .i64 0, .int .i64 0]) ?_ 0 _ rfl; (with_reducible repeat (first | refine blk_drewN ?_ _ | refine blk_drew ?_ | refine blk_alloc ?_ _)); exact BK296.out⟩
               have n5_ : Aside0 (Below w.heap.size w (((((((w53.setCell ⟨gb296, 0, none⟩ (.int .i64 t285)).setCell ⟨gb296, 1, none⟩ (.int .i64 t286)).setCell ⟨gb296, 2, none⟩ (.int .i64 t287)).setCell ⟨gb296, 3, none⟩ (.slice Ao55 t288.length co55)).setCell ⟨gb296, 4, none⟩ (.int .i64 t291)).setCell ⟨gb296, 5, none⟩ (.int .i64 t292)).setCell ⟨gb296, 6, none⟩ (.int .i64 t293))) := ⟨by repeat (first | (with_reducible first | exact HB.out | apply below_alloc | apply pw_below_drewN | apply below_drew1 | refine below_set ?_ GE296.out) | exact HB.out)⟩
               (try clear HO_4)
               (try clear HO_5)
               (try clear HO284)
               (try clear HO290)
               (try clear BK296)
               (try clear HB)
               generalize (((((((w53.setCell ⟨gb296, 0, none⟩ (.int .i64 t285)).setCell ⟨gb296, 1, none⟩ (.int .i64 t286)).setCell ⟨gb296, 2, none⟩ (.int .i64 t287)).setCell ⟨gb296, 3, none⟩ (.slice Ao55 t288.length co55)).setCell ⟨gb296, 4, none⟩ (.int .i64 t291)).setCell ⟨gb296, 5, none⟩ (.int .i64 t292)).setCell ⟨gb296, 6, none⟩ (.int .i64 t293)) = w56 at n0_ n1_ n2_ n3_ n4_ n5_ ⊢
               have HO_4 := n0_
               have HO_5 := n1_
               have HO284 := n2_
               have HO290 := n3_
               have BK296 := n4_
               have HB := n5_
               clear n0_ n1_ n2_ n3_ n4_ n5_
               have n0_ := Aside0.mk (Kd.R_drew HO_4.out)
               have n1_ := Aside0.mk (Kd.N_drew HO_5.out)
               have n2_ := Aside0.mk (Kd.V_drew HO284.out)
               have n3_ := Aside0.mk (Kd.R_drew HO290.out)
               have n4_ := Aside0.mk (blk_drew BK296.out)
               have n5_ := Aside0.mk (below_drew1 HB.out)
               clear HO_4
               clear HO_5
               clear HO284
               clear HO290
               clear BK296
               clear HB
               have HO_4 := n0_
               have HO_5 := n1_
               have HO284 := n2_
               have HO290 := n3_
               have BK296 := n4_
               have HB := n5_
               clear n0_ n1_ n2_ n3_ n4_ n5_
               have p297 : 0 ≤ (x10_2 : Int) := of_decide_eq_true (by first | (with_reducible assumption) | assumption)
               have q297 : x10_2 < (x5_1.length : Int) := of_decide_eq_true (by first | (with_reducible assumption) | assumption)
               obtain ⟨ad297, A297_3, c297_3, e297, hx297_0, hx297_1, hx297_2, hx297_3, hx297_4, hx297_5, hx297_6, hl297_3, hi297_3⟩ := at_T38 (Kd.N_reads' HO_5.out).2.2 x10_2 p297 q297
               cases e297
               obtain ⟨ce297, hce297, hMe297, hcc297⟩ := Kd.N_get HO_5.out z38 x10_2 p297 (by first | exact q297 | exact of_decide_eq_true (by first | (with_reducible assumption) | assumption) | (have e_ := (Kd.N_reads' HO_5.out).1; omega))
               obtain ⟨ua297_3, uc297_3, rfl, ul297_3, ge297_3⟩ := k38_openF hMe297
               have hv297_3 := hcc297 3 _ rfl
               rw [add_field _ _ 3 (by omega)] at hv297_3
               replace hv297_3 := Option.some.inj (hv297_3.symm.trans hx297_3)
               injection hv297_3 with hva_ hvn_ hvc_
               rw [hva_] at ge297_3
               rw [hvc_] at ul297_3
               have HL297_3 := Aside0.mk (show Kd.V (Kd.int .u8) 5 _ w.heap.size _ _ ((rd_T38 x5_1 x10_2).f3) from Kd.V_mk ul297_3 ge297_3)
               clear hva_ hvn_ hvc_ ge297_3 ul297_3
               clear hcc297 hce297
               have HR297_3 := Aside0.mk hi297_3
               have HC297_3 := Aside0.mk hl297_3
               clear hi297_3 hl297_3
               replace p297 := eq_true p297
               replace q297 := eq_true q297
               refine start_ (n := 7) (S := fun w' => w'.cell? ⟨gb296, 0, none⟩ = some (.int .i64 t285) ∧ w'.cell? ⟨gb296, 1, none⟩ = some (.int .i64 t286) ∧ w'.cell? ⟨gb296, 2, none⟩ = some (.int .i64 t287) ∧ w'.cell? ⟨gb296, 3, none⟩ = some (.slice Ao55 t288.length co55) ∧ w'.cell? ⟨gb296, 4, none⟩ = some (.int .i64 t291) ∧ w'.cell? ⟨gb296, 5, none⟩ = some (.int .i64 t292) ∧ w'.cell? ⟨gb296, 6, none⟩ = some (.int .i64 t293) ∧ w'.cell? (ad297.add ((x10_2).toNat * 7)) = some (.int .i64 ((rd_T38 x5_1 x10_2).f0)) ∧ w'.cell? ⟨(ad297.add ((x10_2).toNat * 7)).block, (ad297.add ((x10_2).toNat * 7)).off + 1, none⟩ = some (.int .i64 ((rd_T38 x5_1 x10_2).f1)) ∧ w'.cell? ⟨(ad297.add ((x10_2).toNat * 7)).block, (ad297.add ((x10_2).toNat * 7)).off + 2, none⟩ = some (.int .i64 ((rd_T38 x5_1 x10_2).f2)) ∧ w'.cell? ⟨(ad297.add ((x10_2).toNat * 7)).block, (ad297.add ((x10_2).toNat * 7)).off + 3, none⟩ = some (.slice A297_3 ((rd_T38 x5_1 x10_2).f3).length c297_3) ∧ w'.cell? ⟨(ad297.add ((x10_2).toNat * 7)).block, (ad297.add ((x10_2).toNat * 7)).off + 4, none⟩ = some (.int .i64 ((rd_T38 x5_1 x10_2).f4)) ∧ w'.cell? ⟨(ad297.add ((x10_2).toNat * 7)).block, (ad297.add ((x10_2).toNat * 7)).off + 5, none⟩ = some (.int .i64 ((rd_T38 x5_1 x10_2).f5)) ∧ w'.cell? ⟨(ad297.add ((x10_2).toNat * 7)).block, (ad297.add ((x10_2).toNat * 7)).off + 6, none⟩ = some (.int .i64 ((rd_T38 x5_1 x10_2).f6))) (ds := []) #[false, false, false, false, false, false, false] (by kernel_rfl) rfl rfl ⟨(blk_cell BK296.out 0).trans rfl, (blk_cell BK296.out 1).trans rfl, (blk_cell BK296.out 2).trans rfl, (blk_cell BK296.out 3).trans rfl, (blk_cell BK296.out 4).trans rfl, (blk_cell BK296.out 5).trans rfl, (blk_cell BK296.out 6).trans rfl, hx297_0, hx297_1, hx297_2, hx297_3, hx297_4, hx297_5, hx297_6⟩ (fun hHeld => ?_)
               generalize w56.drew = w57 at HO_4 HO_5 HO284 HO290 BK296 HB HL297_3 HR297_3 hx297_0 hx297_1 hx297_2 hx297_3 hx297_4 hx297_5 hx297_6 hHeld ⊢
               refine pure_ (i := 1) (N := some 70) (v := ?_) (a' := ?_) #[false, true, false, false, false, false, false] rfl rfl (by kernel_rfl) (fun _ _ _ h => h) (Or.inl ⟨by rfl, ?_⟩) ?_ ?_
               rotate_left
               ·intro w'
                go_simp
                with_reducible rfl
               rotate_left
               ·simp only [Act.put, Kx.sb, Kx.sz, Kx.ss, i64_w, i32_w]
                rfl
               refine pure_ (i := 2) (N := some 71) (v := ?_) (a' := ?_) #[false, true, true, false, false, false, false] rfl rfl (by kernel_rfl) (fun _ _ _ h => h) (Or.inl ⟨by rfl, ?_⟩) ?_ ?_
               rotate_left
               ·intro w'
                go_simp
                with_reducible rfl
               rotate_left
               ·simp only [Act.put, Kx.sb, Kx.sz, Kx.ss, i64_w, i32_w]
                rfl
               refine pure_ (i := 3) (N := some 72) (v := ?_) (a' := ?_) #[false, true, true, true, false, false, false] rfl rfl (by kernel_rfl) (fun _ _ _ h => h) (Or.inl ⟨by rfl, ?_⟩) ?_ ?_
               rotate_left
               ·intro w'
                go_simp
                with_reducible rfl
               rotate_left
               ·simp only [Act.put, Kx.sb, Kx.sz, Kx.ss, i64_w, i32_w]
                rfl
               refine take_ (i := 0) (N := some 69) (v := ?_) (a' := ?_) #[true, true, true, true, false, false, false] rfl rfl (by kernel_rfl) (fun _ _ _ h => h) (Or.inl ⟨by rfl, ?_⟩) hHeld ?_ ?_
               rotate_left
               ·rintro w' ⟨s0, s1, s2, s3, s4, s5, s6, s7, s8, s9, s10, s11, s12, s13⟩
                go_simp
                with_reducible rfl
               rotate_left
               ·simp only [Act.put, Kx.sb, Kx.sz, Kx.ss, i64_w, i32_w]
                rfl
               refine take_ (i := 4) (N := some 73) (v := ?_) (a' := ?_) #[true, true, true, true, true, false, false] rfl rfl (by kernel_rfl) (fun _ _ _ h => h) (Or.inl ⟨by rfl, ?_⟩) hHeld ?_ ?_
               rotate_left
               ·rintro w' ⟨s0, s1, s2, s3, s4, s5, s6, s7, s8, s9, s10, s11, s12, s13⟩
                go_simp
                with_reducible rfl
               rotate_left
               ·simp only [Act.put, Kx.sb, Kx.sz, Kx.ss, i64_w, i32_w]
                rfl
               refine one_ (i := 5) (N := some 74) #[true, true, true, true, true, true, false] rfl rfl (by kernel_rfl) (by decide) (fun K hK => ?_)
               refine goes_ Try.func23 (by kernel_rfl) rfl #[.agg #[.int .i64 t285, .int .i64 t286, .int .i64 t287, .slice Ao55 t288.length co55, .int .i64 t291, .int .i64 t292, .int .i64 t293], .agg #[.int .i64 ((rd_T38 x5_1 x10_2).f0), .int .i64 ((rd_T38 x5_1 x10_2).f1), .int .i64 ((rd_T38 x5_1 x10_2).f2), .slice A297_3 ((rd_T38 x5_1 x10_2).f3).length c297_3, .int .i64 ((rd_T38 x5_1 x10_2).f4), .int .i64 ((rd_T38 x5_1 x10_2).f5), .int .i64 ((rd_T38 x5_1 x10_2).f6)]] (by rfl) rfl rfl (by (try simp only [List.map_toArray, List.map_cons, List.map_nil]); first | done | rfl | (simp only [List.length_drop, List.length_take]; rfl)) ?_
               with_reducible refine (waggonerref16_Same.calls t285 t286 t287 _ _ t288 t291 t292 t293 ((rd_T38 x5_1 x10_2).f0) ((rd_T38 x5_1 x10_2).f1) ((rd_T38 x5_1 x10_2).f2) _ _ ((rd_T38 x5_1 x10_2).f3) ((rd_T38 x5_1 x10_2).f4) ((rd_T38 x5_1 x10_2).f5) ((rd_T38 x5_1 x10_2).f6) true _ ?side1 ?side2 ?side3 ?side4 A24.out).mono ?_
               (case side1 => repeat (first | exact (Kd.R_reads' HO290.out).2.2 | (with_reducible refine Kd.C_alloc ?_ _) | (with_reducible refine Kd.C_drewN ?_ _) | (with_reducible refine Kd.C_drew ?_)))
               (case side2 => exact (Kd.R_reads' HO290.out).2.1)
               (case side3 => repeat (first | exact (by repeat (first | (with_reducible exact HR297_3.out) | (with_reducible refine Kd.C_alloc ?_ _) | (with_reducible refine Kd.C_drewN ?_ _) | (with_reducible refine Kd.C_drew ?_) | exact HR297_3.out)) | (with_reducible refine Kd.C_alloc ?_ _) | (with_reducible refine Kd.C_drewN ?_ _) | (with_reducible refine Kd.C_drew ?_)))
               (case side4 => exact HC297_3.out)
               rintro e w58 ⟨rfl, hb⟩
               have HS7_ := (hb.cell (World.block_lt_of_cell? _ _ (hHeld.2.2.2.2.2.2.2.1))).trans (hHeld.2.2.2.2.2.2.2.1)
               have HS8_ := (hb.cell (World.block_lt_of_cell? _ _ (hHeld.2.2.2.2.2.2.2.2.1))).trans (hHeld.2.2.2.2.2.2.2.2.1)
               have HS9_ := (hb.cell (World.block_lt_of_cell? _ _ (hHeld.2.2.2.2.2.2.2.2.2.1))).trans (hHeld.2.2.2.2.2.2.2.2.2.1)
               have HS10_ := (hb.cell (World.block_lt_of_cell? _ _ (hHeld.2.2.2.2.2.2.2.2.2.2.1))).trans (hHeld.2.2.2.2.2.2.2.2.2.2.1)
               have HS11_ := (hb.cell (World.block_lt_of_cell? _ _ (hHeld.2.2.2.2.2.2.2.2.2.2.2.1))).trans (hHeld.2.2.2.2.2.2.2.2.2.2.2.1)
               have HS12_ := (hb.cell (World.block_lt_of_cell? _ _ (hHeld.2.2.2.2.2.2.2.2.2.2.2.2.1))).trans (hHeld.2.2.2.2.2.2.2.2.2.2.2.2.1)
               have HS13_ := (hb.cell (World.block_lt_of_cell? _ _ (hHeld.2.2.2.2.2.2.2.2.2.2.2.2.2))).trans (hHeld.2.2.2.2.2.2.2.2.2.2.2.2.2)
               refine ⟨_, rfl, ?_⟩
               have n0_ := Aside0.mk (Kd.R_below (by (with_reducible repeat (first | apply Kd.R_alloc | apply Kd.R_drewN | apply Kd.R_drew)); exact HO_4.out) hb)
               have n1_ := Aside0.mk (Kd.N_below (by (with_reducible repeat (first | apply Kd.N_alloc | apply Kd.N_drewN | apply Kd.N_drew)); exact HO_5.out) hb)
               have n2_ := Aside0.mk (Kd.V_below (by (with_reducible repeat (first | apply Kd.V_alloc | apply Kd.V_drewN | apply Kd.V_drew)); exact HO284.out) hb)
               have n3_ := Aside0.mk (Kd.R_below (by (with_reducible repeat (first | apply Kd.R_alloc | apply Kd.R_drewN | apply Kd.R_drew)); exact HO290.out) hb)
               have n4_ := Aside0.mk (Kd.V_below (by (with_reducible repeat (first | apply Kd.V_alloc | apply Kd.V_drewN | apply Kd.V_drew)); exact HL297_3.out) hb)
               have n5_ := Aside0.mk (blk_below (g := gb296) (o := .cells #[.int .i64 t285, .int .i64 t286, .int .i64 t287, .slice Ao55 t288.length co55, .int .i64 t291, .int .i64 t292, .int .i64 t293] 38 (0, 0)) (by (with_reducible repeat (first | refine blk_drewN ?_ _ | refine blk_drew ?_ | refine blk_alloc ?_ _)); exact BK296.out) hb)
               have n6_ := Aside0.mk (Kd.C_below (by repeat (first | (with_reducible exact HR297_3.out) | (with_reducible refine Kd.C_alloc ?_ _) | (with_reducible refine Kd.C_drewN ?_ _) | (with_reducible refine Kd.C_drew ?_) | exact HR297_3.out)) hb)
               have n7_ := Aside0.mk (below_step (by repeat (first | (with_reducible first | exact HB.out | apply below_alloc | apply pw_below_drewN | apply below_drew1 | refine below_set ?_ GE296.out) | exact HB.out)) hb)
               clear HO_4
               clear HO_5
               clear HO284
               clear HO290
               clear HL297_3
               clear BK296
               clear HR297_3
               clear HB
               have HO_4 := n0_
               have HO_5 := n1_
               have HO284 := n2_
               have HO290 := n3_
               have HL297_3 := n4_
               have BK296 := n5_
               have HR297_3 := n6_
               have HB := n7_
               clear n0_ n1_ n2_ n3_ n4_ n5_ n6_ n7_
               (try clear hb)
               (try clear hb2)
               (try clear hk)
               (try clear hi)
               refine hK.out _ _ ⟨(blk_cell BK296.out 0).trans rfl, (blk_cell BK296.out 1).trans rfl, (blk_cell BK296.out 2).trans rfl, (blk_cell BK296.out 3).trans rfl, (blk_cell BK296.out 4).trans rfl, (blk_cell BK296.out 5).trans rfl, (blk_cell BK296.out 6).trans rfl, HS7_, HS8_, HS9_, HS10_, HS11_, HS12_, HS13_⟩ (fun hHeld => ?_)
               clear hK K
               refine norm_ (a' := ?_) ?_ ?_
               rotate_left
               ·show Act.put _ (some 74) _ = _
                simp only [Act.put, Kx.sb, Kx.sz, Kx.ss, i64_w, i32_w]
                rfl
               refine pure_ (i := 6) (N := some 14) (v := ?_) (a' := ?_) #[true, true, true, true, true, true, true] rfl rfl (by kernel_rfl) (fun _ _ _ h => h) (Or.inl ⟨by rfl, ?_⟩) ?_ ?_
               rotate_left
               ·intro w'
                go_simp
                with_reducible rfl
               rotate_left
               ·simp only [Act.put, Kx.sb, Kx.sz, Kx.ss, i64_w, i32_w]
                rfl
               refine done_ (by kernel_rfl) ?_
               try go_wp2
               go_roundg k2
               case measure => have := HK1.out; have := HK2.out; omega
               case rel => exact ⟨(wrap64 (x9_2 + t294)), (wrap64 (x10_2 + 1)), (by first | rfl | (simp; done) | (simp [*]; done)), (by first | rfl | (simp; done) | (simp [*]; done)), H', ⟨by have := HK1.out; have := HK2.out; omega⟩, ⟨by (with_reducible repeat (first | apply Kd.R_alloc | apply Kd.R_drewN | apply Kd.R_drew)); exact Kd.R_mono HO_4.out (fun _ hk => hk.1)⟩, ⟨by (with_reducible repeat (first | apply Kd.N_alloc | apply Kd.N_drewN | apply Kd.N_drew)); exact Kd.N_mono HO_5.out (fun _ hk => ⟨hk.1, hk.2.1⟩)⟩, ⟨by repeat (first | (with_reducible first | exact HB.out | apply below_alloc | apply pw_below_drewN | apply below_drew1 | refine below_set ?_ GE296.out) | exact HB.out)⟩⟩
            ·replace c26 := Bool.eq_false_iff.mpr c26
             subst c26
             have H1 : (some false) = some true := by rw [if_neg (show ¬ (false = true) by decide)] at H <;> exact H
             exact absurd H1 (by simp)
           ·rw [if_neg c25] at H
            have c25b0 : (t295 == 0) = false := beq_eq_false_iff_ne.mpr c25
            have c25b1 : (t295 != 0) = true := bne_iff_ne.mpr c25
            (have HRT := Aside0.mk (Option.some.inj H); clear H)
            obtain ⟨Ao69, co69, eo69⟩ := Kd.N_slice HO_5.out
            subst eo69
            obtain ⟨Ao71, co71, eo71⟩ := Kd.R_slice HO_4.out
            subst eo71
            have q70 : (x9_2 : Int) ≤ ((x4_1.length : Int) : Int) := of_decide_eq_true (by first | (with_reducible assumption) | assumption)
            obtain ⟨i070, hi070, _, hsz70, _⟩ := info_parts info5
            have hroom70 : x4_1.length ≤ co71 := (Kd.R_reads' HO_4.out).2.1
            have hC70 : Kd.F (Kd.int .u8) _ _ Ao71 x4_1.length x4_1 := (Kd.V_at (base := w.heap.size) (Kd.V_mono (ok' := (fun k_ => ((P0_ k_ ∨ w.heap.size ≤ k_) ∧ some k_ ≠ (.slice Ao69 x5_1.length co69 : Value).ownBlock))) (Kd.R_V (Kd.R_apart' (HO_4.out) (Kd.N_typed HO_5.out) (by decide))) (fun k_ hk => ⟨(.inr (hk.1)), hk.2⟩))).2.2
            have q070 : (0 : Int) ≤ (x9_2 : Int) := of_decide_eq_true (by first | (with_reducible assumption) | assumption)
            have hcut70 := cut_from (P := Try.prog) 27 5 .i64 Try.underlying27 hi070 1 hsz70 Ao71 x4_1.length co71 x9_2 q070 q70
            have hr70 := Kd.F_cut (m := (x9_2 : Int).toNat) (c := co71) hC70 (by omega) hroom70
            obtain ⟨A70, hA70⟩ : ∃ A1, A1 = (if co71 = (x9_2 : Int).toNat then Ao71 else (Ao71 : Option Addr).map (·.add ((x9_2 : Int).toNat * 1))) := ⟨_, rfl⟩
            obtain ⟨c70, hc70⟩ : ∃ c1, c1 = co71 - (x9_2 : Int).toNat := ⟨_, rfl⟩
            have hy70 : y280.length = x4_1.length - (x9_2 : Int).toNat := (by rw [Ny280.out, List.length_drop] <;> omega)
            rw [show (x4_1).drop (x9_2 : Int).toNat = y280 from Ny280.out.symm] at hr70
            replace hr70 : Kd.F (Kd.int .u8) _ _ A70 y280.length y280 := (by rw [hA70]; exact hr70)
            rw [← hy70, ← hA70, ← hc70] at hcut70
            have HO284 := Aside0.mk (show Kd.V (Kd.int .u8) 5 _ w.heap.size _ (.slice A70 y280.length c70) y280 from Kd.V_mk (by rw [hy70, hc70]; exact Nat.sub_le_sub_right hroom70 _) hr70)
            have HC284 := Aside0.mk (show y280.length ≤ c70 from by rw [hy70, hc70]; exact Nat.sub_le_sub_right hroom70 _)
            clear hr70 hC70 hroom70 hi070 hsz70 hc70
            have KY70 := Aside0.mk hy70
            have KA70 := Aside0.mk hA70
            clear hy70 hA70
            replace q70 := eq_true q70
            try go_wp2_with (first | ((with_reducible refine gate_callee (f := 21) rfl ?_); refine goesL_ (some 65) rfl rfl Try.func21 (by kernel_rfl) rfl #[.slice A70 y280.length c70] rfl (by (try simp only [List.map_toArray, List.map_cons, List.map_nil]); first | done | rfl | (simp only [List.length_drop, List.length_take]; rfl)) ?_; (with_reducible refine (frame_Read.calls _ _ y280 t285 t286 t287 t288 t291 t292 t293 t294 t295 _ ?side1 ?side2 A22.out).mono ?_); (case side1 => repeat (first | exact (Kd.V_reads' HO284.out).2.2 | (with_reducible refine Kd.C_alloc ?_ _) | (with_reducible refine Kd.C_drewN ?_ _) | (with_reducible refine Kd.C_drew ?_))); (case side2 => exact (Kd.V_reads' HO284.out).2.1); rintro e w72 ⟨v289, rfl, ho0, hb⟩; refine ⟨_, rfl, ?_⟩; have n0_ := Aside0.mk (Kd.R_elder' (by (with_reducible repeat (first | apply Kd.R_alloc | apply Kd.R_drewN | apply Kd.R_drew)); exact HO_4.out) (Kd.R_base ho0) hb); have n1_ := Aside0.mk (Kd.N_elder' (by (with_reducible repeat (first | apply Kd.N_alloc | apply Kd.N_drewN | apply Kd.N_drew)); exact HO_5.out) (Kd.R_base ho0) hb); have n2_ := Aside0.mk (Kd.V_elder' (by (with_reducible repeat (first | apply Kd.V_alloc | apply Kd.V_drewN | apply Kd.V_drew)); exact HO284.out) (Kd.R_base ho0) hb); have n3_ := Aside0.mk (Kd.R_lower (Kd.R_new' (Kd.R_newM (M := fun k_ => (w.heap.size ≤ k_)) ho0 (below_size (by repeat (first | (with_reducible first | exact HB.out | apply below_alloc | apply pw_below_drewN | apply below_drew1) | exact HB.out))) (fun k_ h_ => h_)) (Kd.R_lt (by (with_reducible repeat (first | apply Kd.R_alloc | apply Kd.R_drewN | apply Kd.R_drew)); exact HO_4.out))) (below_size (by repeat (first | (with_reducible first | exact HB.out | apply below_alloc | apply pw_below_drewN | apply below_drew1) | exact HB.out)))); have n4_ := Aside0.mk (below_step (by repeat (first | (with_reducible first | exact HB.out | apply below_alloc | apply pw_below_drewN | apply below_drew1) | exact HB.out)) hb); clear HO_4; clear HO_5; clear HO284; clear HB; have HO_4 := n0_; have HO_5 := n1_; have HO284 := n2_; have HO290 := n3_; have HB := n4_; clear n0_ n1_ n2_ n3_ n4_; (try clear hb); (try clear hb2); (try clear hk); (try clear hi); (try clear ho0)) | ((with_reducible refine gate_dst (N := 11) rfl ?_); (try (refine gate_guard (by rfl) ?_; dsimp only)); refine box_event ?hg (N := 11) ?hd (cs := #[.int .i64 0, .int .i64 0, .int .i64 0, .slice none 0 0, .int .i64 0, .int .i64 0, .int .i64 0]) (t := 38) ?hr ?_; (case hd => rfl); (case hg => rfl); (case hr => first | (go_simp; done) | (go_simp; rfl)); intro gb296 hg w73 hbox hb; have n0_ := Aside0.mk (Kd.R_below (by (with_reducible repeat (first | apply Kd.R_alloc | apply Kd.R_drewN | apply Kd.R_drew)); exact HO_4.out) hb); have n1_ := Aside0.mk (Kd.N_below (Kd.N_elderB (by (with_reducible repeat (first | apply Kd.N_alloc | apply Kd.N_drewN | apply Kd.N_drew)); exact HO_5.out) gb296 (Nat.le_of_eq hg.symm)) hb); have n2_ := Aside0.mk (Kd.V_below (Kd.V_elderB (by (with_reducible repeat (first | apply Kd.V_alloc | apply Kd.V_drewN | apply Kd.V_drew)); exact HO284.out) gb296 (Nat.le_of_eq hg.symm)) hb); have n3_ := Aside0.mk (Kd.R_below (by (with_reducible repeat (first | apply Kd.R_alloc | apply Kd.R_drewN | apply Kd.R_drew)); exact HO290.out) hb); have n4_ := Aside0.mk (below_step (by repeat (first | (with_reducible first | exact HB.out | apply below_alloc | apply pw_below_drewN | apply below_drew1) | exact HB.out)) hb); have n5_ := Aside0.mk (hbox); have n6_ := Aside0.mk ((by rw [hg]; exact (below_size (by repeat (first | (with_reducible first | exact HB.out | apply below_alloc | apply pw_below_drewN | apply below_drew1) | exact HB.out))) : w.heap.size ≤ gb296)); have n7_ := Aside0.mk ((by rw [hg]; exact (below_size (by repeat (first | (with_reducible first | exact HB.out | apply below_alloc | apply pw_below_drewN | apply below_drew1) | exact HB.out))) : w.heap.size ≤ gb296)); clear HO_4; clear HO_5; clear HO284; clear HO290; clear HB; have HO_4 := n0_; have HO_5 := n1_; have HO284 := n2_; have HO290 := n3_; have HB := n4_; have BK296 := n5_; have GW296 := n6_; have GE296 := n7_; clear n0_ n1_ n2_ n3_ n4_ n5_ n6_ n7_; clear hb hbox hg; have hcz74_0 : w73.cell? ⟨gb296, 0, none⟩ = some (.int .i64 0) := (blk_cell BK296.out 0).trans rfl; have hcz74_1 : w73.cell? ⟨gb296, 1, none⟩ = some (.int .i64 0) := (blk_cell BK296.out 1).trans rfl; have hcz74_2 : w73.cell? ⟨gb296, 2, none⟩ = some (.int .i64 0) := (blk_cell BK296.out 2).trans rfl; have hcz74_3 : w73.cell? ⟨gb296, 3, none⟩ = some (.slice none 0 0) := (blk_cell BK296.out 3).trans rfl; have hcz74_4 : w73.cell? ⟨gb296, 4, none⟩ = some (.int .i64 0) := (blk_cell BK296.out 4).trans rfl; have hcz74_5 : w73.cell? ⟨gb296, 5, none⟩ = some (.int .i64 0) := (blk_cell BK296.out 5).trans rfl; have hcz74_6 : w73.cell? ⟨gb296, 6, none⟩ = some (.int .i64 0) := (blk_cell BK296.out 6).trans rfl; have hfz74_0 := blk_frozen BK296.out 0; have hfz74_1 := blk_frozen BK296.out 1; have hfz74_2 := blk_frozen BK296.out 2; have hfz74_3 := blk_frozen BK296.out 3; have hfz74_4 := blk_frozen BK296.out 4; have hfz74_5 := blk_frozen BK296.out 5; have hfz74_6 := blk_frozen BK296.out 6; obtain ⟨Ao75, co75, eo75⟩ := Kd.R_slice HO290.out; subst eo75))
            have n0_ : Aside0 (Kd.R (Kd.int .u8) 5 (((((((w73.setCell ⟨gb296, 0, none⟩ (.int .i64 t285)).setCell ⟨gb296, 1, none⟩ (.int .i64 t286)).setCell ⟨gb296, 2, none⟩ (.int .i64 t287)).setCell ⟨gb296, 3, none⟩ (.slice Ao75 t288.length co75)).setCell ⟨gb296, 4, none⟩ (.int .i64 t291)).setCell ⟨gb296, 5, none⟩ (.int .i64 t292)).setCell ⟨gb296, 6, none⟩ (.int .i64 t293)) w.heap.size (fun k_ => (w.heap.size ≤ k_) ∧ some k_ ≠ (.slice Ao75 t288.length co75 : Value).ownBlock) (.slice Ao71 x4_1.length co71) x4_1) := ⟨by (with_reducible repeat (first | apply Kd.R_alloc | apply Kd.R_drewN | apply Kd.R_drew)); exact Kd.R_mono (Kd.R_far (p := ⟨gb296, 6, none⟩) (Kd.R_far (p := ⟨gb296, 5, none⟩) (Kd.R_far (p := ⟨gb296, 4, none⟩) (Kd.R_far (p := ⟨gb296, 3, none⟩) (Kd.R_far (p := ⟨gb296, 2, none⟩) (Kd.R_far (p := ⟨gb296, 1, none⟩) (Kd.R_far (p := ⟨gb296, 0, none⟩) (Kd.R_types HO_4.out BK296.out (by decide)) (fun _ hk => hk.2) (.int .i64 t285)) (fun _ hk => hk.2) (.int .i64 t286)) (fun _ hk => hk.2) (.int .i64 t287)) (fun _ hk => hk.2) (.slice Ao75 t288.length co75)) (fun _ hk => hk.2) (.int .i64 t291)) (fun _ hk => hk.2) (.int .i64 t292)) (fun _ hk => hk.2) (.int .i64 t293)) (fun _ hk => ⟨hk.1.1, hk.1.2⟩)⟩
            have n1_ : Aside0 (Kd.N k38 38 (((((((w73.setCell ⟨gb296, 0, none⟩ (.int .i64 t285)).setCell ⟨gb296, 1, none⟩ (.int .i64 t286)).setCell ⟨gb296, 2, none⟩ (.int .i64 t287)).setCell ⟨gb296, 3, none⟩ (.slice Ao75 t288.length co75)).setCell ⟨gb296, 4, none⟩ (.int .i64 t291)).setCell ⟨gb296, 5, none⟩ (.int .i64 t292)).setCell ⟨gb296, 6, none⟩ (.int .i64 t293)) w.heap.size (fun k_ => (P0_ k_ ∨ w.heap.size ≤ k_) ∧ some k_ ≠ (.slice Ao71 x4_1.length co71 : Value).ownBlock ∧ some k_ ≠ (.slice Ao75 t288.length co75 : Value).ownBlock ∧ k_ ≠ gb296) (.slice Ao69 x5_1.length co69) x5_1) := ⟨by (with_reducible repeat (first | apply Kd.N_alloc | apply Kd.N_drewN | apply Kd.N_drew)); exact Kd.N_mono (Kd.N_far (p := ⟨gb296, 6, none⟩) (Kd.N_far (p := ⟨gb296, 5, none⟩) (Kd.N_far (p := ⟨gb296, 4, none⟩) (Kd.N_far (p := ⟨gb296, 3, none⟩) (Kd.N_far (p := ⟨gb296, 2, none⟩) (Kd.N_far (p := ⟨gb296, 1, none⟩) (Kd.N_far (p := ⟨gb296, 0, none⟩) (Kd.N_mono HO_5.out (fun k_ hk => (⟨hk, hk.2⟩ : _ ∧ k_ ≠ gb296))) (fun _ hk => hk.2) (.int .i64 t285)) (fun _ hk => hk.2) (.int .i64 t286)) (fun _ hk => hk.2) (.int .i64 t287)) (fun _ hk => hk.2) (.slice Ao75 t288.length co75)) (fun _ hk => hk.2) (.int .i64 t291)) (fun _ hk => hk.2) (.int .i64 t292)) (fun _ hk => hk.2) (.int .i64 t293)) (fun _ hk => ⟨hk.1.1.1.1, ⟨hk.1.1.1.2, ⟨hk.1.1.2, hk.1.2⟩⟩⟩)⟩
            have n2_ : Aside0 (Kd.V (Kd.int .u8) 5 (((((((w73.setCell ⟨gb296, 0, none⟩ (.int .i64 t285)).setCell ⟨gb296, 1, none⟩ (.int .i64 t286)).setCell ⟨gb296, 2, none⟩ (.int .i64 t287)).setCell ⟨gb296, 3, none⟩ (.slice Ao75 t288.length co75)).setCell ⟨gb296, 4, none⟩ (.int .i64 t291)).setCell ⟨gb296, 5, none⟩ (.int .i64 t292)).setCell ⟨gb296, 6, none⟩ (.int .i64 t293)) w.heap.size (fun k_ => (P0_ k_ ∨ w.heap.size ≤ k_) ∧ some k_ ≠ (.slice Ao69 x5_1.length co69 : Value).ownBlock ∧ some k_ ≠ (.slice Ao75 t288.length co75 : Value).ownBlock ∧ k_ ≠ gb296) (.slice A70 y280.length c70) y280) := ⟨by (with_reducible repeat (first | apply Kd.V_alloc | apply Kd.V_drewN | apply Kd.V_drew)); exact Kd.V_mono (Kd.V_far (p := ⟨gb296, 6, none⟩) (Kd.V_far (p := ⟨gb296, 5, none⟩) (Kd.V_far (p := ⟨gb296, 4, none⟩) (Kd.V_far (p := ⟨gb296, 3, none⟩) (Kd.V_far (p := ⟨gb296, 2, none⟩) (Kd.V_far (p := ⟨gb296, 1, none⟩) (Kd.V_far (p := ⟨gb296, 0, none⟩) (Kd.V_mono HO284.out (fun k_ hk => (⟨hk, hk.2⟩ : _ ∧ k_ ≠ gb296))) (fun _ hk => hk.2) (.int .i64 t285)) (fun _ hk => hk.2) (.int .i64 t286)) (fun _ hk => hk.2) (.int .i64 t287)) (fun _ hk => hk.2) (.slice Ao75 t288.length co75)) (fun _ hk => hk.2) (.int .i64 t291)) (fun _ hk => hk.2) (.int .i64 t292)) (fun _ hk => hk.2) (.int .i64 t293)) (fun _ hk => ⟨hk.1.1.1.1, ⟨hk.1.1.1.2, ⟨hk.1.1.2, hk.1.2⟩⟩⟩)⟩
            have n3_ : Aside0 (Kd.R (Kd.int .u8) 5 (((((((w73.setCell ⟨gb296, 0, none⟩ (.int .i64 t285)).setCell ⟨gb296, 1, none⟩ (.int .i64 t286)).setCell ⟨gb296, 2, none⟩ (.int .i64 t287)).setCell ⟨gb296, 3, none⟩ (.slice Ao75 t288.length co75)).setCell ⟨gb296, 4, none⟩ (.int .i64 t291)).setCell ⟨gb296, 5, none⟩ (.int .i64 t292)).setCell ⟨gb296, 6, none⟩ (.int .i64 t293)) w.heap.size (fun k_ => (w.heap.size ≤ k_) ∧ some k_ ≠ (.slice Ao71 x4_1.length co71 : Value).ownBlock) (.slice Ao75 t288.length co75) t288) := ⟨by (with_reducible repeat (first | apply Kd.R_alloc | apply Kd.R_drewN | apply Kd.R_drew)); exact Kd.R_mono (Kd.R_far (p := ⟨gb296, 6, none⟩) (Kd.R_far (p := ⟨gb296, 5, none⟩) (Kd.R_far (p := ⟨gb296, 4, none⟩) (Kd.R_far (p := ⟨gb296, 3, none⟩) (Kd.R_far (p := ⟨gb296, 2, none⟩) (Kd.R_far (p := ⟨gb296, 1, none⟩) (Kd.R_far (p := ⟨gb296, 0, none⟩) (Kd.R_types HO290.out BK296.out (by decide)) (fun _ hk => hk.2) (.int .i64 t285)) (fun _ hk => hk.2) (.int .i64 t286)) (fun _ hk => hk.2) (.int .i64 t287)) (fun _ hk => hk.2) (.slice Ao75 t288.length co75)) (fun _ hk => hk.2) (.int .i64 t291)) (fun _ hk => hk.2) (.int .i64 t292)) (fun _ hk => hk.2) (.int .i64 t293)) (fun _ hk => ⟨hk.1.1.1, hk.1.2⟩)⟩
            have n4_ : Aside0 ((((((((w73.setCell ⟨gb296, 0, none⟩ (.int .i64 t285)).setCell ⟨gb296, 1, none⟩ (.int .i64 t286)).setCell ⟨gb296, 2, none⟩ (.int .i64 t287)).setCell ⟨gb296, 3, none⟩ (.slice Ao75 t288.length co75)).setCell ⟨gb296, 4, none⟩ (.int .i64 t291)).setCell ⟨gb296, 5, none⟩ (.int .i64 t292)).setCell ⟨gb296, 6, none⟩ (.int .i64 t293)).heap[gb296]? = some (.cells #[.int .i64 t285, .int .i64 t286, .int .i64 t287, .slice Ao75 t288.length co75, .int .i64 t291, .int .i64 t292, .int .i64 t293] 38 (0, 0))) := ⟨by (with_reducible repeat (first | refine blk_drewN ?_ _ | refine blk_drew ?_ | refine blk_alloc ?_ _)); refine blk_put (cs := #[.int .i64 t285, .int .i64 t286, .int .i64 t287, .slice Ao75 t288.length co75, .int .i64 t291, .int .i64 t292, .int .i64 0]) ?_ 6 _ rfl; (with_reducible repeat (first | refine blk_drewN ?_ _ | refine blk_drew ?_ | refine blk_alloc ?_ _)); refine blk_put (cs := #[.int .i64 t285, .int .i64 t286, .int .i64 t287, .slice Ao75 t288.length co75, .int .i64 t291, .int .i64 0, .int .i64 0]) ?_ 5 _ rfl; (with_reducible repeat (first | refine blk_drewN ?_ _ | refine blk_drew ?_ | refine blk_alloc ?_ _)); refine blk_put (cs := #[.int .i64 t285, .int .i64 t286, .int .i64 t287, .slice Ao75 t288.length co75, .int .i64 0, .int .i64 0, .int .i64 0]) ?_ 4 _ rfl; (with_reducible repeat (first | refine blk_drewN ?_ _ | refine blk_drew ?_ | refine blk_alloc ?_ _)); refine blk_put (cs := #[.int .i64 t285, .int .i64 t286, .int .i64 t287, .slice none 0 0, .int .i64 0, .int .i64 0, .int .i64 0]) ?_ 3 _ rfl; (with_reducible repeat (first | refine blk_drewN ?_ _ | refine blk_drew ?_ | refine blk_alloc ?_ _)); refine blk_put (cs := #[.int .i64 t285, .int .i64 t286, .int .i64 0, .slice none 0 0, .int .i64 0, .int .i64 0, .int .i64 0]) ?_ 2 _ rfl; (with_reducible repeat (first | refine blk_drewN ?_ _ | refine blk_drew ?_ | refine blk_alloc ?_ _)); refine blk_put (cs := #[.int .i64 t285, .int .i64 0, .int .i64 0, .slice none 0 0, .int .i64 0, .int .i64 0, .int .i64 0]) ?_ 1 _ rfl; (with_reducible repeat (first | refine blk_drewN ?_ _ | refine blk_drew ?_ | refine blk_alloc ?_ _)); refine blk_put (cs := #[.int .i64 0, .int .i64 0, .int .i64 0, .slice none 0 0, .int .i64 0, .int .i64 0, .int .i64 0]) ?_ 0 _ rfl; (with_reducible repeat (first | refine blk_drewN ?_ _ | refine blk_drew ?_ | refine blk_alloc ?_ _)); exact BK296.out⟩
            have n5_ : Aside0 (Below w.heap.size w (((((((w73.setCell ⟨gb296, 0, none⟩ (.int .i64 t285)).setCell ⟨gb296, 1, none⟩ (.int .i64 t286)).setCell ⟨gb296, 2, none⟩ (.int .i64 t287)).setCell ⟨gb296, 3, none⟩ (.slice Ao75 t288.length co75)).setCell ⟨gb296, 4, none⟩ (.int .i64 t291)).setCell ⟨gb296, 5, none⟩ (.int .i64 t292)).setCell ⟨gb296, 6, none⟩ (.int .i64 t293))) := ⟨by repeat (first | (with_reducible first | exact HB.out | apply below_alloc | apply pw_below_drewN | apply below_drew1 | refine below_set ?_ GE296.out) | exact HB.out)⟩
            (try clear HO_4)
            (try clear HO_5)
            (try clear HO284)
            (try clear HO290)
            (try clear BK296)
            (try clear HB)
            generalize (((((((w73.setCell ⟨gb296, 0, none⟩ (.int .i64 t285)).setCell ⟨gb296, 1, none⟩ (.int .i64 t286)).setCell ⟨gb296, 2, none⟩ (.int .i64 t287)).setCell ⟨gb296, 3, none⟩ (.slice Ao75 t288.length co75)).setCell ⟨gb296, 4, none⟩ (.int .i64 t291)).setCell ⟨gb296, 5, none⟩ (.int .i64 t292)).setCell ⟨gb296, 6, none⟩ (.int .i64 t293)) = w76 at n0_ n1_ n2_ n3_ n4_ n5_ ⊢
            have HO_4 := n0_
            have HO_5 := n1_
            have HO284 := n2_
            have HO290 := n3_
            have BK296 := n4_
            have HB := n5_
            clear n0_ n1_ n2_ n3_ n4_ n5_
            have n0_ := Aside0.mk (Kd.R_drew HO_4.out)
            have n1_ := Aside0.mk (Kd.N_drew HO_5.out)
            have n2_ := Aside0.mk (Kd.V_drew HO284.out)
            have n3_ := Aside0.mk (Kd.R_drew HO290.out)
            have n4_ := Aside0.mk (blk_drew BK296.out)
            have n5_ := Aside0.mk (below_drew1 HB.out)
            clear HO_4
            clear HO_5
            clear HO284
            clear HO290
            clear BK296
            clear HB
            have HO_4 := n0_
            have HO_5 := n1_
            have HO284 := n2_
            have HO290 := n3_
            have BK296 := n4_
            have HB := n5_
            clear n0_ n1_ n2_ n3_ n4_ n5_
            have p297 : 0 ≤ (x10_2 : Int) := of_decide_eq_true (by first | (with_reducible assumption) | assumption)
            have q297 : x10_2 < (x5_1.length : Int) := of_decide_eq_true (by first | (with_reducible assumption) | assumption)
            obtain ⟨ad297, A297_3, c297_3, e297, hx297_0, hx297_1, hx297_2, hx297_3, hx297_4, hx297_5, hx297_6, hl297_3, hi297_3⟩ := at_T38 (Kd.N_reads' HO_5.out).2.2 x10_2 p297 q297
            cases e297
            obtain ⟨ce297, hce297, hMe297, hcc297⟩ := Kd.N_get HO_5.out z38 x10_2 p297 (by first | exact q297 | exact of_decide_eq_true (by first | (with_reducible assumption) | assumption) | (have e_ := (Kd.N_reads' HO_5.out).1; omega))
            obtain ⟨ua297_3, uc297_3, rfl, ul297_3, ge297_3⟩ := k38_openF hMe297
            have hv297_3 := hcc297 3 _ rfl
            rw [add_field _ _ 3 (by omega)] at hv297_3
            replace hv297_3 := Option.some.inj (hv297_3.symm.trans hx297_3)
            injection hv297_3 with hva_ hvn_ hvc_
            rw [hva_] at ge297_3
            rw [hvc_] at ul297_3
            have HL297_3 := Aside0.mk (show Kd.V (Kd.int .u8) 5 _ w.heap.size _ _ ((rd_T38 x5_1 x10_2).f3) from Kd.V_mk ul297_3 ge297_3)
            clear hva_ hvn_ hvc_ ge297_3 ul297_3
            clear hcc297 hce297
            have HR297_3 := Aside0.mk hi297_3
            have HC297_3 := Aside0.mk hl297_3
            clear hi297_3 hl297_3
            replace p297 := eq_true p297
            replace q297 := eq_true q297
            refine start_ (n := 7) (S := fun w' => w'.cell? ⟨gb296, 0, none⟩ = some (.int .i64 t285) ∧ w'.cell? ⟨gb296, 1, none⟩ = some (.int .i64 t286) ∧ w'.cell? ⟨gb296, 2, none⟩ = some (.int .i64 t287) ∧ w'.cell? ⟨gb296, 3, none⟩ = some (.slice Ao75 t288.length co75) ∧ w'.cell? ⟨gb296, 4, none⟩ = some (.int .i64 t291) ∧ w'.cell? ⟨gb296, 5, none⟩ = some (.int .i64 t292) ∧ w'.cell? ⟨gb296, 6, none⟩ = some (.int .i64 t293) ∧ w'.cell? (ad297.add ((x10_2).toNat * 7)) = some (.int .i64 ((rd_T38 x5_1 x10_2).f0)) ∧ w'.cell? ⟨(ad297.add ((x10_2).toNat * 7)).block, (ad297.add ((x10_2).toNat * 7)).off + 1, none⟩ = some (.int .i64 ((rd_T38 x5_1 x10_2).f1)) ∧ w'.cell? ⟨(ad297.add ((x10_2).toNat * 7)).block, (ad297.add ((x10_2).toNat * 7)).off + 2, none⟩ = some (.int .i64 ((rd_T38 x5_1 x10_2).f2)) ∧ w'.cell? ⟨(ad297.add ((x10_2).toNat * 7)).block, (ad297.add ((x10_2).toNat * 7)).off + 3, none⟩ = some (.slice A297_3 ((rd_T38 x5_1 x10_2).f3).length c297_3) ∧ w'.cell? ⟨(ad297.add ((x10_2).toNat * 7)).block, (ad297.add ((x10_2).toNat * 7)).off + 4, none⟩ = some (.int .i64 ((rd_T38 x5_1 x10_2).f4)) ∧ w'.cell? ⟨(ad297.add ((x10_2).toNat * 7)).block, (ad297.add ((x10_2).toNat * 7)).off + 5, none⟩ = some (.int .i64 ((rd_T38 x5_1 x10_2).f5)) ∧ w'.cell? ⟨(ad297.add ((x10_2).toNat * 7)).block, (ad297.add ((x10_2).toNat * 7)).off + 6, none⟩ = some (.int .i64 ((rd_T38 x5_1 x10_2).f6))) (ds := []) #[false, false, false, false, false, false, false] (by kernel_rfl) rfl rfl ⟨(blk_cell BK296.out 0).trans rfl, (blk_cell BK296.out 1).trans rfl, (blk_cell BK296.out 2).trans rfl, (blk_cell BK296.out 3).trans rfl, (blk_cell BK296.out 4).trans rfl, (blk_cell BK296.out 5).trans rfl, (blk_cell BK296.out 6).trans rfl, hx297_0, hx297_1, hx297_2, hx297_3, hx297_4, hx297_5, hx297_6⟩ (fun hHeld => ?_)
            generalize w76.drew = w77 at HO_4 HO_5 HO284 HO290 BK296 HB HL297_3 HR297_3 hx297_0 hx297_1 hx297_2 hx297_3 hx297_4 hx297_5 hx297_6 hHeld ⊢
            refine pure_ (i := 1) (N := some 70) (v := ?_) (a' := ?_) #[false, true, false, false, false, false, false] rfl rfl (by kernel_rfl) (fun _ _ _ h => h) (Or.inl ⟨by rfl, ?_⟩) ?_ ?_
            rotate_left
            ·intro w'
             go_simp
             with_reducible rfl
            rotate_left
            ·simp only [Act.put, Kx.sb, Kx.sz, Kx.ss, i64_w, i32_w]
             rfl
            refine pure_ (i := 2) (N := some 71) (v := ?_) (a' := ?_) #[false, true, true, false, false, false, false] rfl rfl (by kernel_rfl) (fun _ _ _ h => h) (Or.inl ⟨by rfl, ?_⟩) ?_ ?_
            rotate_left
            ·intro w'
             go_simp
             with_reducible rfl
            rotate_left
            ·simp only [Act.put, Kx.sb, Kx.sz, Kx.ss, i64_w, i32_w]
             rfl
            refine pure_ (i := 3) (N := some 72) (v := ?_) (a' := ?_) #[false, true, true, true, false, false, false] rfl rfl (by kernel_rfl) (fun _ _ _ h => h) (Or.inl ⟨by rfl, ?_⟩) ?_ ?_
            rotate_left
            ·intro w'
             go_simp
             with_reducible rfl
            rotate_left
            ·simp only [Act.put, Kx.sb, Kx.sz, Kx.ss, i64_w, i32_w]
             rfl
            refine take_ (i := 0) (N := some 69) (v := ?_) (a' := ?_) #[true, true, true, true, false, false, false] rfl rfl (by kernel_rfl) (fun _ _ _ h => h) (Or.inl ⟨by rfl, ?_⟩) hHeld ?_ ?_
            rotate_left
            ·rintro w' ⟨s0, s1, s2, s3, s4, s5, s6, s7, s8, s9, s10, s11, s12, s13⟩
             go_simp
             with_reducible rfl
            rotate_left
            ·simp only [Act.put, Kx.sb, Kx.sz, Kx.ss, i64_w, i32_w]
             rfl
            refine take_ (i := 4) (N := some 73) (v := ?_) (a' := ?_) #[true, true, true, true, true, false, false] rfl rfl (by kernel_rfl) (fun _ _ _ h => h) (Or.inl ⟨by rfl, ?_⟩) hHeld ?_ ?_
            rotate_left
            ·rintro w' ⟨s0, s1, s2, s3, s4, s5, s6, s7, s8, s9, s10, s11, s12, s13⟩
             go_simp
             with_reducible rfl
            rotate_left
            ·simp only [Act.put, Kx.sb, Kx.sz, Kx.ss, i64_w, i32_w]
             rfl
            refine one_ (i := 5) (N := some 74) #[true, true, true, true, true, true, false] rfl rfl (by kernel_rfl) (by decide) (fun K hK => ?_)
            refine goes_ Try.func23 (by kernel_rfl) rfl #[.agg #[.int .i64 t285, .int .i64 t286, .int .i64 t287, .slice Ao75 t288.length co75, .int .i64 t291, .int .i64 t292, .int .i64 t293], .agg #[.int .i64 ((rd_T38 x5_1 x10_2).f0), .int .i64 ((rd_T38 x5_1 x10_2).f1), .int .i64 ((rd_T38 x5_1 x10_2).f2), .slice A297_3 ((rd_T38 x5_1 x10_2).f3).length c297_3, .int .i64 ((rd_T38 x5_1 x10_2).f4), .int .i64 ((rd_T38 x5_1 x10_2).f5), .int .i64 ((rd_T38 x5_1 x10_2).f6)]] (by rfl) rfl rfl (by (try simp only [List.map_toArray, List.map_cons, List.map_nil]); first | done | rfl | (simp only [List.length_drop, List.length_take]; rfl)) ?_
            with_reducible refine (waggonerref16_Same.calls t285 t286 t287 _ _ t288 t291 t292 t293 ((rd_T38 x5_1 x10_2).f0) ((rd_T38 x5_1 x10_2).f1) ((rd_T38 x5_1 x10_2).f2) _ _ ((rd_T38 x5_1 x10_2).f3) ((rd_T38 x5_1 x10_2).f4) ((rd_T38 x5_1 x10_2).f5) ((rd_T38 x5_1 x10_2).f6) t298 _ ?side1 ?side2 ?side3 ?side4 A24.out).mono ?_
            (case side1 => repeat (first | exact (Kd.R_reads' HO290.out).2.2 | (with_reducible refine Kd.C_alloc ?_ _) | (with_reducible refine Kd.C_drewN ?_ _) | (with_reducible refine Kd.C_drew ?_)))
            (case side2 => exact (Kd.R_reads' HO290.out).2.1)
            (case side3 => repeat (first | exact (by repeat (first | (with_reducible exact HR297_3.out) | (with_reducible refine Kd.C_alloc ?_ _) | (with_reducible refine Kd.C_drewN ?_ _) | (with_reducible refine Kd.C_drew ?_) | exact HR297_3.out)) | (with_reducible refine Kd.C_alloc ?_ _) | (with_reducible refine Kd.C_drewN ?_ _) | (with_reducible refine Kd.C_drew ?_)))
            (case side4 => exact HC297_3.out)
            rintro e w78 ⟨rfl, hb⟩
            have HS7_ := (hb.cell (World.block_lt_of_cell? _ _ (hHeld.2.2.2.2.2.2.2.1))).trans (hHeld.2.2.2.2.2.2.2.1)
            have HS8_ := (hb.cell (World.block_lt_of_cell? _ _ (hHeld.2.2.2.2.2.2.2.2.1))).trans (hHeld.2.2.2.2.2.2.2.2.1)
            have HS9_ := (hb.cell (World.block_lt_of_cell? _ _ (hHeld.2.2.2.2.2.2.2.2.2.1))).trans (hHeld.2.2.2.2.2.2.2.2.2.1)
            have HS10_ := (hb.cell (World.block_lt_of_cell? _ _ (hHeld.2.2.2.2.2.2.2.2.2.2.1))).trans (hHeld.2.2.2.2.2.2.2.2.2.2.1)
            have HS11_ := (hb.cell (World.block_lt_of_cell? _ _ (hHeld.2.2.2.2.2.2.2.2.2.2.2.1))).trans (hHeld.2.2.2.2.2.2.2.2.2.2.2.1)
            have HS12_ := (hb.cell (World.block_lt_of_cell? _ _ (hHeld.2.2.2.2.2.2.2.2.2.2.2.2.1))).trans (hHeld.2.2.2.2.2.2.2.2.2.2.2.2.1)
            have HS13_ := (hb.cell (World.block_lt_of_cell? _ _ (hHeld.2.2.2.2.2.2.2.2.2.2.2.2.2))).trans (hHeld.2.2.2.2.2.2.2.2.2.2.2.2.2)
            refine ⟨_, rfl, ?_⟩
            have n0_ := Aside0.mk (Kd.R_below (by (with_reducible repeat (first | apply Kd.R_alloc | apply Kd.R_drewN | apply Kd.R_drew)); exact HO_4.out) hb)
            have n1_ := Aside0.mk (Kd.N_below (by (with_reducible repeat (first | apply Kd.N_alloc | apply Kd.N_drewN | apply Kd.N_drew)); exact HO_5.out) hb)
            have n2_ := Aside0.mk (Kd.V_below (by (with_reducible repeat (first | apply Kd.V_alloc | apply Kd.V_drewN | apply Kd.V_drew)); exact HO284.out) hb)
            have n3_ := Aside0.mk (Kd.R_below (by (with_reducible repeat (first | apply Kd.R_alloc | apply Kd.R_drewN | apply Kd.R_drew)); exact HO290.out) hb)
            have n4_ := Aside0.mk (Kd.V_below (by (with_reducible repeat (first | apply Kd.V_alloc | apply Kd.V_drewN | apply Kd.V_drew)); exact HL297_3.out) hb)
            have n5_ := Aside0.mk (blk_below (g := gb296) (o := .cells #[.int .i64 t285, .int .i64 t286, .int .i64 t287, .slice Ao75 t288.length co75, .int .i64 t291, .int .i64 t292, .int .i64 t293] 38 (0, 0)) (by (with_reducible repeat (first | refine blk_drewN ?_ _ | refine blk_drew ?_ | refine blk_alloc ?_ _)); exact BK296.out) hb)
            have n6_ := Aside0.mk (Kd.C_below (by repeat (first | (with_reducible exact HR297_3.out) | (with_reducible refine Kd.C_alloc ?_ _) | (with_reducible refine Kd.C_drewN ?_ _) | (with_reducible refine Kd.C_drew ?_) | exact HR297_3.out)) hb)
            have n7_ := Aside0.mk (below_step (by repeat (first | (with_reducible first | exact HB.out | apply below_alloc | apply pw_below_drewN | apply below_drew1 | refine below_set ?_ GE296.out) | exact HB.out)) hb)
            clear HO_4
            clear HO_5
            clear HO284
            clear HO290
            clear HL297_3
            clear BK296
            clear HR297_3
            clear HB
            have HO_4 := n0_
            have HO_5 := n1_
            have HO284 := n2_
            have HO290 := n3_
            have HL297_3 := n4_
            have BK296 := n5_
            have HR297_3 := n6_
            have HB := n7_
            clear n0_ n1_ n2_ n3_ n4_ n5_ n6_ n7_
            (try clear hb)
            (try clear hb2)
            (try clear hk)
            (try clear hi)
            refine hK.out _ _ ⟨(blk_cell BK296.out 0).trans rfl, (blk_cell BK296.out 1).trans rfl, (blk_cell BK296.out 2).trans rfl, (blk_cell BK296.out 3).trans rfl, (blk_cell BK296.out 4).trans rfl, (blk_cell BK296.out 5).trans rfl, (blk_cell BK296.out 6).trans rfl, HS7_, HS8_, HS9_, HS10_, HS11_, HS12_, HS13_⟩ (fun hHeld => ?_)
            clear hK K
            refine norm_ (a' := ?_) ?_ ?_
            rotate_left
            ·show Act.put _ (some 74) _ = _
             simp only [Act.put, Kx.sb, Kx.sz, Kx.ss, i64_w, i32_w]
             rfl
            refine pure_ (i := 6) (N := some 14) (v := ?_) (a' := ?_) #[true, true, true, true, true, true, true] rfl rfl (by kernel_rfl) (fun _ _ _ h => h) (Or.inl ⟨by rfl, ?_⟩) ?_ ?_
            rotate_left
            ·intro w'
             go_simp
             with_reducible rfl
            rotate_left
            ·simp only [Act.put, Kx.sb, Kx.sz, Kx.ss, i64_w, i32_w]
             rfl
            refine done_ (by kernel_rfl) ?_
            try go_wp2
            go_ret
            exact ⟨by first | rfl | (exact congrArg (fun z_ => Ending.returned (Value.bool z_)) HRT.out) | (rw [HRT.out]; done) | (simp [errW_none, errW_some] <;> rfl) | (simp [*, errW_none, errW_some] <;> rfl), by repeat (first | (with_reducible first | exact HB.out | apply below_alloc | apply pw_below_drewN | apply below_drew1 | refine below_set ?_ GE296.out) | exact HB.out)⟩
          ·rw [if_neg c23] at H
           exact absurd H (by simp)
         ·rw [if_neg c21] at H
          exact absurd H (by simp)
        ·rw [if_neg c20] at H
         exact absurd H (by simp)
       ·rw [if_neg c19] at H
        have c19b0 : decide (x10_2 < (x5_1.length : Int)) = false := decide_eq_false c19
        clear c19
        by_cases c79 : t266 = true
        ·subst c79
         have H1 : (some (x9_2 == (x4_1.length : Int))) = some true := by rw [if_pos rfl] at H <;> exact H
         clear H
         have H := H1
         clear H1
         (have HRT := Aside0.mk (Option.some.inj H); clear H)
         obtain ⟨Ao80, co80, eo80⟩ := Kd.N_slice HO_5.out
         subst eo80
         obtain ⟨Ao81, co81, eo81⟩ := Kd.R_slice HO_4.out
         subst eo81
         go_wp2
         go_ret
         exact ⟨by first | rfl | (exact congrArg (fun z_ => Ending.returned (Value.bool z_)) HRT.out) | (rw [HRT.out]; done) | (simp [errW_none, errW_some] <;> rfl) | (simp [*, errW_none, errW_some] <;> rfl), by repeat (first | (with_reducible first | exact HB.out | apply below_alloc | apply pw_below_drewN | apply below_drew1) | exact HB.out)⟩
        ·replace c79 := Bool.eq_false_iff.mpr c79
         subst c79
         have H1 : (some false) = some true := by rw [if_neg (show ¬ (false = true) by decide)] at H <;> exact H
         exact absurd H1 (by simp)
end Go.Proofs.Ytohkmmbmfhficaa.PG
