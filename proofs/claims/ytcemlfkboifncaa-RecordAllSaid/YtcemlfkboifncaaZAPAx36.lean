/- Words and walks that this claim names, of those that the kit's print and programs of this workplace have printed. -/
import Derived.Test.YtcemlfkboifncaaZAPAx12
import Derived.Test.YtcemlfkboifncaaZAPAx24
import Derived.Test.YtcemlfkboifncaaZAPAx33
import Derived.Test.YtcemlfkboifncaaZAPAx35
namespace Go.Proofs.Ytcemlfkboifncaa.PA
open Go.RowKit Go.Proofs.YtcemlfkboifncaaW.PrintWords Go.Proofs.YtcemlfkboifncaaW.PrintLast Go.Proofs.YtcemlfkboifncaaW.PrintMore
attribute [local go_sem] max2_int min2_int max_two min_two max_three min_three max_four min_four
set_option linter.unusedVariables false
set_option linter.unusedSimpArgs false
mutual
def waggonerlaw05_RecordAll.l0 : Nat → List (S25) → Int → Bool → List Int → List (S25) → List Int → Int → Int → Option (Bool)
 | 0, _, _, _, _, _, _, _, _ => none
 | k + 1, x0, x1, x5, x6, x7, x8, x9, x10 => if x10 < (x0.length : Int) then (if 0 ≤ x10 then ((record_Write.f ((rd_T25 x0 x10).f0) ((rd_T25 x0 x10).f1) ((rd_T25 x0 x10).f2)).bind fun bt170 => (if (((rd_T25 x0 x10).f2).length : Int) > 200 then (waggonerlaw05_RecordAll.l0 k x0 x1 x5 x6 x7 x8 x9 (wrap64 (x10 + 1))) else (if bt170.2 = 0 then (if x7.length < 3518437208883 then (if x8.length < 17592186044416 then (if x6.length + bt170.1.length < 140737488355328 then (waggonerlaw05_RecordAll.l0 k x0 x1 x5 (x6 ++ bt170.1) (x7 ++ [(⟨(rd_T25 x0 x10).f0, (rd_T25 x0 x10).f1, (rd_T25 x0 x10).f2⟩ : S25)]) (x8 ++ [(x6.length : Int)]) (bt170.1.length : Int) (wrap64 (x10 + 1))) else (none)) else (none)) else (none)) else (waggonerlaw05_RecordAll.l0 k x0 x1 x5 x6 x7 x8 x9 (wrap64 (x10 + 1)))))) else (none)) else ((record_Scan.f x6).bind fun bt185 => ((waggonerref05_All.f k bt185.1 x7).bind fun t191 => (if t191 = true then ((waggonerref05_Numbers.f k bt185.2 x8).bind fun t192 => (if t192 = true then (waggonerlaw05_RecordAll.j1 k x1 x5 x6 x7 x8 x9 bt185.1 (x7.length : Int) ((x7.length : Int) == 0)) else (waggonerlaw05_RecordAll.j1 k x1 x5 x6 x7 x8 x9 bt185.1 (x7.length : Int) true))) else (waggonerlaw05_RecordAll.j1 k x1 x5 x6 x7 x8 x9 bt185.1 (x7.length : Int) true))))
def waggonerlaw05_RecordAll.j1 : Nat → Int → Bool → List Int → List (S25) → List Int → Int → List (S25) → Int → Bool → Option (Bool)
 | 0, _, _, _, _, _, _, _, _, _ => none
 | k + 1, x1, x5, x6, x7, x8, x9, x13, x15, x85 => if x85 = true then (if x5 = true then (if x15 = 0 then (some ((x13.length : Int) == 0)) else (some false)) else (some false)) else (if x9 = 0 then (none) else (if 0 ≤ (wrap64 ((wrap64 ((x6.length : Int) - 1)) - (Int.tmod (wrap64 (x1)) x9))) then (if (wrap64 ((wrap64 ((x6.length : Int) - 1)) - (Int.tmod (wrap64 (x1)) x9))) ≤ (x6.length : Int) then ((record_Scan.f (x6.take ((wrap64 ((wrap64 ((x6.length : Int) - 1)) - (Int.tmod (wrap64 (x1)) x9))) : Int).toNat)).bind fun bt198 => (if x5 = true then (if 0 ≤ (wrap64 (x15 - 1)) then (if (wrap64 (x15 - 1)) ≤ (x7.length : Int) then ((waggonerref05_All.f k bt198.1 (x7.take ((wrap64 (x15 - 1)) : Int).toNat)).bind fun t209 => (if t209 = true then (if (wrap64 (x15 - 1)) ≤ (x8.length : Int) then ((waggonerref05_Numbers.f k bt198.2 (x8.take ((wrap64 (x15 - 1)) : Int).toNat)).bind fun t215 => (some t215)) else (none)) else (some false))) else (none)) else (none)) else (some false))) else (none)) else (none)))
end
def waggonerlaw05_RecordAll.f (k : Nat) (l0 : List (S25)) (a1 : Int) : Option (Bool) := (waggonerlaw05_awake.f).bind fun t168 => (if (l0.length : Int) > 8 then (some t168) else (waggonerlaw05_RecordAll.l0 k l0 a1 t168 ([] : List Int) ([] : List (S25)) ([] : List Int) 0 0))
set_option maxHeartbeats 8000000 in
set_option maxRecDepth 100000 in
theorem waggonerlaw05_RecordAll.calls (k : Nat) (P0_ : Nat → Prop) (A0 : Option Addr) (c0 : Nat) (l0 : List (S25)) (a1 : Int) (r : Bool) (hT : r = true) (w : World) (hs0 : Kd.V k25 25 w w.heap.size (fun k_ => P0_ k_) (.slice A0 l0.length c0) l0) (h : waggonerlaw05_RecordAll.f k l0 a1 = some r) :
  Calls Try.prog 6 #[.slice A0 l0.length c0, .int .u16 a1] w fun e w' => e = .returned (.bool r) ∧ Below w.heap.size w w' := by
 subst hT
 have hu25 := Try.underlying25
 have HO0 := Aside0.mk (show Kd.V k25 25 w w.heap.size (fun k_ => (P0_ k_ ∨ w.heap.size ≤ k_)) (.slice A0 l0.length c0) l0 from Kd.V_mono hs0 (fun k_ hk => .inl hk))
 have HB := Aside0.mk (Below.refl w.heap.size w)
 have H : ((waggonerlaw05_awake.f).bind fun t168 => (if (l0.length : Int) > 8 then (some t168) else (waggonerlaw05_RecordAll.l0 k l0 a1 t168 ([] : List Int) ([] : List (S25)) ([] : List Int) 0 0))) = some true := h
 clear h
 replace H := Option.bind_eq_some_iff.mp H
 obtain ⟨t168, A30, H⟩ := H
 replace H : (if (l0.length : Int) > 8 then (some t168) else (waggonerlaw05_RecordAll.l0 k l0 a1 t168 ([] : List Int) ([] : List (S25)) ([] : List Int) 0 0)) = some true := H
 have A3 := Aside0.mk A30
 clear A30
 by_cases c4 : (l0.length : Int) > 8
 ·rw [if_pos c4] at H
  have c4b0 : decide (8 < (l0.length : Int)) = true := decide_eq_true c4
  have c4b1 : decide (8 < l0.length) = true := decide_eq_true (by omega)
  clear c4
  (have HRT := Aside0.mk (Option.some.inj H); clear H)
  go_enter Try.func6, Try.ntmps6
  go_wp2_with (first | ((with_reducible refine gate_callee (f := 18) rfl ?_); refine goesL_ (some 18) rfl rfl Try.func18 (by kernel_rfl) rfl #[] rfl (by (try simp only [List.map_toArray, List.map_cons, List.map_nil]); first | done | rfl | (simp only [List.length_drop, List.length_take]; rfl)) ?_; (with_reducible refine (waggonerlaw05_awake.calls  t168 _ A3.out).mono ?_); rintro e w5 ⟨rfl, hb⟩; refine ⟨_, rfl, ?_⟩; have n0_ := Aside0.mk (Kd.V_below (by (with_reducible repeat (first | apply Kd.V_alloc | apply Kd.V_drewN | apply Kd.V_drew)); exact HO0.out) hb); have n1_ := Aside0.mk (below_step (by repeat (first | (with_reducible first | exact HB.out | apply below_alloc | apply pw_below_drewN | apply below_drew1) | exact HB.out)) hb); clear HO0; clear HB; have HO0 := n0_; have HB := n1_; clear n0_ n1_; (try clear hb); (try clear hb2); (try clear hk); (try clear hi)))
  go_ret
  exact ⟨by first | rfl | (exact congrArg (fun z_ => Ending.returned (Value.bool z_)) HRT.out) | (rw [HRT.out]; done) | (simp [errW_none, errW_some] <;> rfl) | (simp [*, errW_none, errW_some] <;> rfl), by repeat (first | (with_reducible first | exact HB.out | apply below_alloc | apply pw_below_drewN | apply below_drew1) | exact HB.out)⟩
 ·rw [if_neg c4] at H
  have c4b0 : decide (8 < (l0.length : Int)) = false := decide_eq_false c4
  have c4b1 : decide (8 < l0.length) = false := decide_eq_false (by omega)
  clear c4
  have H' := Aside0.mk H
  clear H
  go_enter Try.func6, Try.ntmps6
  go_wp2_with (first | ((with_reducible refine gate_callee (f := 18) rfl ?_); refine goesL_ (some 18) rfl rfl Try.func18 (by kernel_rfl) rfl #[] rfl (by (try simp only [List.map_toArray, List.map_cons, List.map_nil]); first | done | rfl | (simp only [List.length_drop, List.length_take]; rfl)) ?_; (with_reducible refine (waggonerlaw05_awake.calls  t168 _ A3.out).mono ?_); rintro e w6 ⟨rfl, hb⟩; refine ⟨_, rfl, ?_⟩; have n0_ := Aside0.mk (Kd.V_below (by (with_reducible repeat (first | apply Kd.V_alloc | apply Kd.V_drewN | apply Kd.V_drew)); exact HO0.out) hb); have n1_ := Aside0.mk (below_step (by repeat (first | (with_reducible first | exact HB.out | apply below_alloc | apply pw_below_drewN | apply below_drew1) | exact HB.out)) hb); clear HO0; clear HB; have HO0 := n0_; have HB := n1_; clear n0_ n1_; (try clear hb); (try clear hb2); (try clear hk); (try clear hi)))
  go_loopg [6, 7, 8, 9, 10] k (fun kq v6 v7 v8 v9 v10 w' => ∃ (x6_1 : List Int) (x7_1 : List (S25)) (x8_1 : List Int) (x9_1 : Int) (x10_1 : Int), v9 = .int .i64 x9_1 ∧ v10 = .int .i64 x10_1 ∧ Aside0 (waggonerlaw05_RecordAll.l0 kq l0 a1 t168 x6_1 x7_1 x8_1 x9_1 x10_1 = some true) ∧ Aside0 (kq ≤ k) ∧ Aside0 (Kd.V k25 25 w' w.heap.size (fun k_ => (P0_ k_ ∨ w.heap.size ≤ k_) ∧ some k_ ≠ (v6 : Value).ownBlock ∧ some k_ ≠ (v7 : Value).ownBlock ∧ some k_ ≠ (v8 : Value).ownBlock) (.slice A0 l0.length c0) l0) ∧ Aside0 (Kd.R (Kd.int .u8) 5 w' w.heap.size (fun k_ => (w.heap.size ≤ k_)) v6 x6_1) ∧ Aside0 (Kd.N k25 25 w' w.heap.size (fun k_ => (P0_ k_ ∨ w.heap.size ≤ k_) ∧ some k_ ≠ (v6 : Value).ownBlock ∧ some k_ ≠ (v8 : Value).ownBlock) v7 x7_1) ∧ Aside0 (Kd.R (Kd.int .i64) 3 w' w.heap.size (fun k_ => (w.heap.size ≤ k_)) v8 x8_1) ∧ Aside0 (Below w.heap.size w w'))
  case atStart => exact ⟨(([] : List Int)), (([] : List (S25))), (([] : List Int)), (0), (0), (by first | rfl | (simp; done) | (simp [*]; done)), (by first | rfl | (simp; done) | (simp [*]; done)), H', ⟨Nat.le_refl _⟩, ⟨by (with_reducible repeat (first | apply Kd.V_alloc | apply Kd.V_drewN | apply Kd.V_drew)); exact Kd.V_mono HO0.out (fun _ hk => ⟨hk, ⟨(by simp [Value.ownBlock]), ⟨(by simp [Value.ownBlock]), (by simp [Value.ownBlock])⟩⟩⟩)⟩, ⟨by first | exact Kd.R_nil _ _ _ _ _ | exact Kd.N_nil _ _ _ _ _ | exact Kd.V_nil _ _ _ _ _ | exact Kd.Q_nil _ _ _ _ _ | exact Kd.S_nil _ _ _ _ _⟩, ⟨by first | exact Kd.S_nil _ _ _ _ _ | exact Kd.N_nil _ _ _ _ _ | exact Kd.V_nil _ _ _ _ _ | exact Kd.Q_nil _ _ _ _ _ | exact Kd.R_nil _ _ _ _ _⟩, ⟨by first | exact Kd.R_nil _ _ _ _ _ | exact Kd.N_nil _ _ _ _ _ | exact Kd.V_nil _ _ _ _ _ | exact Kd.Q_nil _ _ _ _ _ | exact Kd.S_nil _ _ _ _ _⟩, ⟨by repeat (first | (with_reducible first | exact HB.out | apply below_alloc | apply pw_below_drewN | apply below_drew1) | exact HB.out)⟩⟩
  case round =>
   clear H'
   try clear c1
   try clear p2
   try clear c4
   try clear c4b0
   try clear c4b1
   try clear c6
   obtain ⟨x6_1, x7_1, x8_1, x9_1, x10_1, rfl, rfl, HA, HK1, HO_0, HO_6, HO_7, HO_8, HB⟩ := hrel
   cases gk with
   | zero => exact absurd HA.out (by simp [waggonerlaw05_RecordAll.l0])
   | succ k1 =>
    have H := HA.out
    clear HA
    simp only [waggonerlaw05_RecordAll.l0] at H
    by_cases c7 : x10_1 < (l0.length : Int)
    ·rw [if_pos c7] at H
     have c7b0 : decide (x10_1 < (l0.length : Int)) = true := decide_eq_true c7
     clear c7
     by_cases c8 : 0 ≤ x10_1
     ·rw [if_pos c8] at H
      have c8b0 : decide (0 ≤ x10_1) = true := decide_eq_true c8
      clear c8
      replace H := Option.bind_eq_some_iff.mp H
      obtain ⟨⟨t170, t173⟩, A90, H⟩ := H
      replace H : (if (((rd_T25 l0 x10_1).f2).length : Int) > 200 then (waggonerlaw05_RecordAll.l0 k1 l0 a1 t168 x6_1 x7_1 x8_1 x9_1 (wrap64 (x10_1 + 1))) else (if t173 = 0 then (if x7_1.length < 3518437208883 then (if x8_1.length < 17592186044416 then (if x6_1.length + t170.length < 140737488355328 then (waggonerlaw05_RecordAll.l0 k1 l0 a1 t168 (x6_1 ++ t170) (x7_1 ++ [(⟨(rd_T25 l0 x10_1).f0, (rd_T25 l0 x10_1).f1, (rd_T25 l0 x10_1).f2⟩ : S25)]) (x8_1 ++ [(x6_1.length : Int)]) (t170.length : Int) (wrap64 (x10_1 + 1))) else (none)) else (none)) else (none)) else (waggonerlaw05_RecordAll.l0 k1 l0 a1 t168 x6_1 x7_1 x8_1 x9_1 (wrap64 (x10_1 + 1))))) = some true := H
      have A9 := Aside0.mk A90
      clear A90
      by_cases c10 : (((rd_T25 l0 x10_1).f2).length : Int) > 200
      ·rw [if_pos c10] at H
       have c10b0 : decide (200 < (((rd_T25 l0 x10_1).f2).length : Int)) = true := decide_eq_true c10
       have c10b1 : decide (200 < ((rd_T25 l0 x10_1).f2).length) = true := decide_eq_true (by omega)
       clear c10
       have H' := Aside0.mk H
       clear H
       have p169 : 0 ≤ (x10_1 : Int) := of_decide_eq_true (by first | (with_reducible assumption) | assumption)
       have q169 : x10_1 < (l0.length : Int) := of_decide_eq_true (by first | (with_reducible assumption) | assumption)
       obtain ⟨ad169, A169_2, c169_2, e169, hx169_0, hx169_1, hx169_2, hl169_2, hi169_2⟩ := at_T25 (Kd.V_reads' HO_0.out).2.2 x10_1 p169 q169
       cases e169
       obtain ⟨ce169, hce169, hMe169, hcc169⟩ := Kd.V_get HO_0.out z25 x10_1 p169 (by first | exact q169 | exact of_decide_eq_true (by first | (with_reducible assumption) | assumption) | (have e_ := (Kd.V_reads' HO_0.out).1; omega))
       obtain ⟨ua169_2, uc169_2, rfl, ul169_2, ge169_2⟩ := k25_openF hMe169
       have hv169_2 := hcc169 2 _ rfl
       rw [add_field _ _ 2 (by omega)] at hv169_2
       replace hv169_2 := Option.some.inj (hv169_2.symm.trans hx169_2)
       injection hv169_2 with hva_ hvn_ hvc_
       rw [hva_] at ge169_2
       rw [hvc_] at ul169_2
       have HL169_2 := Aside0.mk (show Kd.V (Kd.int .u8) 5 _ w.heap.size _ _ ((rd_T25 l0 x10_1).f2) from Kd.V_mk ul169_2 ge169_2)
       clear hva_ hvn_ hvc_ ge169_2 ul169_2
       clear hcc169 hce169
       have HR169_2 := Aside0.mk hi169_2
       have HC169_2 := Aside0.mk hl169_2
       clear hi169_2 hl169_2
       replace p169 := eq_true p169
       replace q169 := eq_true q169
       go_wp2_with (first | ((with_reducible refine gate_callee (f := 19) rfl ?_); refine goesL_ (some 34) rfl rfl Try.func19 (by kernel_rfl) rfl #[.agg #[.int .i64 ((rd_T25 l0 x10_1).f0), .int .i64 ((rd_T25 l0 x10_1).f1), .slice A169_2 ((rd_T25 l0 x10_1).f2).length c169_2]] rfl (by (try simp only [List.map_toArray, List.map_cons, List.map_nil]); first | done | rfl | (simp only [List.length_drop, List.length_take]; rfl)) ?_; (with_reducible refine (record_Write.calls ((rd_T25 l0 x10_1).f0) ((rd_T25 l0 x10_1).f1) _ _ ((rd_T25 l0 x10_1).f2) t170 t173 _ ?side1 ?side2 A9.out).mono ?_); (case side1 => repeat (first | exact (by repeat (first | (with_reducible exact HR169_2.out) | (with_reducible refine Kd.C_alloc ?_ _) | (with_reducible refine Kd.C_drewN ?_ _) | (with_reducible refine Kd.C_drew ?_) | exact HR169_2.out)) | (with_reducible refine Kd.C_alloc ?_ _) | (with_reducible refine Kd.C_drewN ?_ _) | (with_reducible refine Kd.C_drew ?_))); (case side2 => exact HC169_2.out); rintro e w11 ⟨v171, rfl, ho0, hb⟩; refine ⟨_, rfl, ?_⟩; have n0_ := Aside0.mk (Kd.V_elder' (by (with_reducible repeat (first | apply Kd.V_alloc | apply Kd.V_drewN | apply Kd.V_drew)); exact HO_0.out) (Kd.R_base ho0) hb); have n1_ := Aside0.mk (Kd.R_elder' (by (with_reducible repeat (first | apply Kd.R_alloc | apply Kd.R_drewN | apply Kd.R_drew)); exact HO_6.out) (Kd.R_base ho0) hb); have n2_ := Aside0.mk (Kd.N_elder' (by (with_reducible repeat (first | apply Kd.N_alloc | apply Kd.N_drewN | apply Kd.N_drew)); exact HO_7.out) (Kd.R_base ho0) hb); have n3_ := Aside0.mk (Kd.R_below (by (with_reducible repeat (first | apply Kd.R_alloc | apply Kd.R_drewN | apply Kd.R_drew)); exact HO_8.out) hb); have n4_ := Aside0.mk (Kd.V_elder' (by (with_reducible repeat (first | apply Kd.V_alloc | apply Kd.V_drewN | apply Kd.V_drew)); exact HL169_2.out) (Kd.R_base ho0) hb); have n5_ := Aside0.mk (Kd.R_lower (Kd.R_new' (Kd.R_newM (M := fun k_ => (w.heap.size ≤ k_)) ho0 (below_size (by repeat (first | (with_reducible first | exact HB.out | apply below_alloc | apply pw_below_drewN | apply below_drew1) | exact HB.out))) (fun k_ h_ => h_)) (Kd.R_lt (by (with_reducible repeat (first | apply Kd.R_alloc | apply Kd.R_drewN | apply Kd.R_drew)); exact HO_6.out))) (below_size (by repeat (first | (with_reducible first | exact HB.out | apply below_alloc | apply pw_below_drewN | apply below_drew1) | exact HB.out)))); have n6_ := Aside0.mk (Kd.C_below (by repeat (first | (with_reducible exact HR169_2.out) | (with_reducible refine Kd.C_alloc ?_ _) | (with_reducible refine Kd.C_drewN ?_ _) | (with_reducible refine Kd.C_drew ?_) | exact HR169_2.out)) hb); have n7_ := Aside0.mk (below_step (by repeat (first | (with_reducible first | exact HB.out | apply below_alloc | apply pw_below_drewN | apply below_drew1) | exact HB.out)) hb); clear HO_0; clear HO_6; clear HO_7; clear HO_8; clear HL169_2; clear HR169_2; clear HB; have HO_0 := n0_; have HO_6 := n1_; have HO_7 := n2_; have HO_8 := n3_; have HL169_2 := n4_; have HO172 := n5_; have HR169_2 := n6_; have HB := n7_; clear n0_ n1_ n2_ n3_ n4_ n5_ n6_ n7_; (try clear hb); (try clear hb2); (try clear hk); (try clear hi); (try clear ho0); have p174 : 0 ≤ (x10_1 : Int) := of_decide_eq_true (by first | (with_reducible assumption) | assumption); have q174 : x10_1 < (l0.length : Int) := of_decide_eq_true (by first | (with_reducible assumption) | assumption); obtain ⟨ad174, A174_2, c174_2, e174, hx174_0, hx174_1, hx174_2, hl174_2, hi174_2⟩ := at_T25 (Kd.V_reads' HO_0.out).2.2 x10_1 p174 q174; obtain rfl : ad169 = ad174 := (by injection e174); obtain ⟨ce174, hce174, hMe174, hcc174⟩ := Kd.V_get HO_0.out z25 x10_1 p174 (by first | exact q174 | exact of_decide_eq_true (by first | (with_reducible assumption) | assumption) | (have e_ := (Kd.V_reads' HO_0.out).1; omega)); obtain ⟨ua174_2, uc174_2, rfl, ul174_2, ge174_2⟩ := k25_openF hMe174; have hv174_2 := hcc174 2 _ rfl; rw [add_field _ _ 2 (by omega)] at hv174_2; replace hv174_2 := Option.some.inj (hv174_2.symm.trans hx174_2); injection hv174_2 with hva_ hvn_ hvc_; rw [hva_] at ge174_2; rw [hvc_] at ul174_2; have HL174_2 := Aside0.mk (show Kd.V (Kd.int .u8) 5 _ w.heap.size _ _ ((rd_T25 l0 x10_1).f2) from Kd.V_mk ul174_2 ge174_2); clear hva_ hvn_ hvc_ ge174_2 ul174_2; clear hcc174 hce174; have HR174_2 := Aside0.mk hi174_2; have HC174_2 := Aside0.mk hl174_2; clear hi174_2 hl174_2; replace p174 := eq_true p174; replace q174 := eq_true q174))
       go_roundg k1
       case measure => have := HK1.out; omega
       case rel => exact ⟨(x6_1), (x7_1), (x8_1), (x9_1), (wrap64 (x10_1 + 1)), (by first | rfl | (simp; done) | (simp [*]; done)), (by first | rfl | (simp; done) | (simp [*]; done)), H', ⟨by have := HK1.out; omega⟩, ⟨by (with_reducible repeat (first | apply Kd.V_alloc | apply Kd.V_drewN | apply Kd.V_drew)); exact Kd.V_mono HO_0.out (fun _ hk => ⟨hk.1.1, ⟨hk.1.2.1, ⟨hk.1.2.2.1, hk.1.2.2.2⟩⟩⟩)⟩, ⟨by (with_reducible repeat (first | apply Kd.R_alloc | apply Kd.R_drewN | apply Kd.R_drew)); exact Kd.R_mono HO_6.out (fun _ hk => hk.1)⟩, ⟨by (with_reducible repeat (first | apply Kd.N_alloc | apply Kd.N_drewN | apply Kd.N_drew)); exact Kd.N_mono HO_7.out (fun _ hk => ⟨hk.1.1, ⟨hk.1.2.1, hk.1.2.2⟩⟩)⟩, ⟨by (with_reducible repeat (first | apply Kd.R_alloc | apply Kd.R_drewN | apply Kd.R_drew)); exact HO_8.out⟩, ⟨by repeat (first | (with_reducible first | exact HB.out | apply below_alloc | apply pw_below_drewN | apply below_drew1) | exact HB.out)⟩⟩
      ·rw [if_neg c10] at H
       have c10b0 : decide (200 < (((rd_T25 l0 x10_1).f2).length : Int)) = false := decide_eq_false c10
       have c10b1 : decide (200 < ((rd_T25 l0 x10_1).f2).length) = false := decide_eq_false (by omega)
       clear c10
       by_cases c12 : t173 = 0
       ·rw [if_pos c12] at H
        have c12b0 : (t173 == 0) = true := beq_iff_eq.mpr c12
        have c12b1 : (t173 != 0) = false := bne_eq_false_iff_eq.mpr c12
        clear c12
        by_cases c13 : x7_1.length < 3518437208883
        ·rw [if_pos c13] at H
         have LMc13 := Aside0.mk c13
         clear c13
         obtain ⟨y176, hy176⟩ : ∃ y_ : List (S25), y_ = (x7_1 ++ [(⟨(rd_T25 l0 x10_1).f0, (rd_T25 l0 x10_1).f1, (rd_T25 l0 x10_1).f2⟩ : S25)]) := ⟨_, rfl⟩
         replace H : (if x8_1.length < 17592186044416 then (if x6_1.length + t170.length < 140737488355328 then (waggonerlaw05_RecordAll.l0 k1 l0 a1 t168 (x6_1 ++ t170) y176 (x8_1 ++ [(x6_1.length : Int)]) (t170.length : Int) (wrap64 (x10_1 + 1))) else (none)) else (none)) = some true := by first | (rw [hy176]; with_reducible exact H) | (have H2_ := (Option.bind_some _ _).symm.trans H; rw [hy176]; with_reducible exact H2_) | (have H2_ := (Option.bind_some _ _).symm.trans H; with_reducible exact H2_) | with_reducible exact H | (rw [hy176]; exact H) | exact H
         have Ny176 := Aside0.mk hy176
         clear hy176
         by_cases c14 : x8_1.length < 17592186044416
         ·rw [if_pos c14] at H
          have LMc14 := Aside0.mk c14
          clear c14
          obtain ⟨y179, hy179⟩ : ∃ y_ : List Int, y_ = (x8_1 ++ [(x6_1.length : Int)]) := ⟨_, rfl⟩
          replace H : (if x6_1.length + t170.length < 140737488355328 then (waggonerlaw05_RecordAll.l0 k1 l0 a1 t168 (x6_1 ++ t170) y176 y179 (t170.length : Int) (wrap64 (x10_1 + 1))) else (none)) = some true := by first | (rw [hy179]; with_reducible exact H) | (have H2_ := (Option.bind_some _ _).symm.trans H; rw [hy179]; with_reducible exact H2_) | (have H2_ := (Option.bind_some _ _).symm.trans H; with_reducible exact H2_) | with_reducible exact H | (rw [hy179]; exact H) | exact H
          have Ny179 := Aside0.mk hy179
          clear hy179
          by_cases c15 : x6_1.length + t170.length < 140737488355328
          ·rw [if_pos c15] at H
           have LMc15 := Aside0.mk c15
           clear c15
           obtain ⟨y182, hy182⟩ : ∃ y_ : List Int, y_ = (x6_1 ++ t170) := ⟨_, rfl⟩
           replace H : (waggonerlaw05_RecordAll.l0 k1 l0 a1 t168 y182 y176 y179 (t170.length : Int) (wrap64 (x10_1 + 1))) = some true := by first | (rw [hy182]; with_reducible exact H) | (have H2_ := (Option.bind_some _ _).symm.trans H; rw [hy182]; with_reducible exact H2_) | (have H2_ := (Option.bind_some _ _).symm.trans H; with_reducible exact H2_) | with_reducible exact H | (rw [hy182]; exact H) | exact H
           have Ny182 := Aside0.mk hy182
           clear hy182
           have H' := Aside0.mk H
           clear H
           have p169 : 0 ≤ (x10_1 : Int) := of_decide_eq_true (by first | (with_reducible assumption) | assumption)
           have q169 : x10_1 < (l0.length : Int) := of_decide_eq_true (by first | (with_reducible assumption) | assumption)
           obtain ⟨ad169, A169_2, c169_2, e169, hx169_0, hx169_1, hx169_2, hl169_2, hi169_2⟩ := at_T25 (Kd.V_reads' HO_0.out).2.2 x10_1 p169 q169
           cases e169
           obtain ⟨ce169, hce169, hMe169, hcc169⟩ := Kd.V_get HO_0.out z25 x10_1 p169 (by first | exact q169 | exact of_decide_eq_true (by first | (with_reducible assumption) | assumption) | (have e_ := (Kd.V_reads' HO_0.out).1; omega))
           obtain ⟨ua169_2, uc169_2, rfl, ul169_2, ge169_2⟩ := k25_openF hMe169
           have hv169_2 := hcc169 2 _ rfl
           rw [add_field _ _ 2 (by omega)] at hv169_2
           replace hv169_2 := Option.some.inj (hv169_2.symm.trans hx169_2)
           injection hv169_2 with hva_ hvn_ hvc_
           rw [hva_] at ge169_2
           rw [hvc_] at ul169_2
           have HL169_2 := Aside0.mk (show Kd.V (Kd.int .u8) 5 _ w.heap.size _ _ ((rd_T25 l0 x10_1).f2) from Kd.V_mk ul169_2 ge169_2)
           clear hva_ hvn_ hvc_ ge169_2 ul169_2
           clear hcc169 hce169
           have HR169_2 := Aside0.mk hi169_2
           have HC169_2 := Aside0.mk hl169_2
           clear hi169_2 hl169_2
           replace p169 := eq_true p169
           replace q169 := eq_true q169
           go_wp2_with (first | ((with_reducible refine gate_callee (f := 19) rfl ?_); refine goesL_ (some 34) rfl rfl Try.func19 (by kernel_rfl) rfl #[.agg #[.int .i64 ((rd_T25 l0 x10_1).f0), .int .i64 ((rd_T25 l0 x10_1).f1), .slice A169_2 ((rd_T25 l0 x10_1).f2).length c169_2]] rfl (by (try simp only [List.map_toArray, List.map_cons, List.map_nil]); first | done | rfl | (simp only [List.length_drop, List.length_take]; rfl)) ?_; (with_reducible refine (record_Write.calls ((rd_T25 l0 x10_1).f0) ((rd_T25 l0 x10_1).f1) _ _ ((rd_T25 l0 x10_1).f2) t170 t173 _ ?side1 ?side2 A9.out).mono ?_); (case side1 => repeat (first | exact (by repeat (first | (with_reducible exact HR169_2.out) | (with_reducible refine Kd.C_alloc ?_ _) | (with_reducible refine Kd.C_drewN ?_ _) | (with_reducible refine Kd.C_drew ?_) | exact HR169_2.out)) | (with_reducible refine Kd.C_alloc ?_ _) | (with_reducible refine Kd.C_drewN ?_ _) | (with_reducible refine Kd.C_drew ?_))); (case side2 => exact HC169_2.out); rintro e w16 ⟨v171, rfl, ho0, hb⟩; refine ⟨_, rfl, ?_⟩; have n0_ := Aside0.mk (Kd.V_elder' (by (with_reducible repeat (first | apply Kd.V_alloc | apply Kd.V_drewN | apply Kd.V_drew)); exact HO_0.out) (Kd.R_base ho0) hb); have n1_ := Aside0.mk (Kd.R_elder' (by (with_reducible repeat (first | apply Kd.R_alloc | apply Kd.R_drewN | apply Kd.R_drew)); exact HO_6.out) (Kd.R_base ho0) hb); have n2_ := Aside0.mk (Kd.N_elder' (by (with_reducible repeat (first | apply Kd.N_alloc | apply Kd.N_drewN | apply Kd.N_drew)); exact HO_7.out) (Kd.R_base ho0) hb); have n3_ := Aside0.mk (Kd.R_below (by (with_reducible repeat (first | apply Kd.R_alloc | apply Kd.R_drewN | apply Kd.R_drew)); exact HO_8.out) hb); have n4_ := Aside0.mk (Kd.V_elder' (by (with_reducible repeat (first | apply Kd.V_alloc | apply Kd.V_drewN | apply Kd.V_drew)); exact HL169_2.out) (Kd.R_base ho0) hb); have n5_ := Aside0.mk (Kd.R_lower (Kd.R_new' (Kd.R_newM (M := fun k_ => (w.heap.size ≤ k_)) ho0 (below_size (by repeat (first | (with_reducible first | exact HB.out | apply below_alloc | apply pw_below_drewN | apply below_drew1) | exact HB.out))) (fun k_ h_ => h_)) (Kd.R_lt (by (with_reducible repeat (first | apply Kd.R_alloc | apply Kd.R_drewN | apply Kd.R_drew)); exact HO_6.out))) (below_size (by repeat (first | (with_reducible first | exact HB.out | apply below_alloc | apply pw_below_drewN | apply below_drew1) | exact HB.out)))); have n6_ := Aside0.mk (Kd.C_below (by repeat (first | (with_reducible exact HR169_2.out) | (with_reducible refine Kd.C_alloc ?_ _) | (with_reducible refine Kd.C_drewN ?_ _) | (with_reducible refine Kd.C_drew ?_) | exact HR169_2.out)) hb); have n7_ := Aside0.mk (below_step (by repeat (first | (with_reducible first | exact HB.out | apply below_alloc | apply pw_below_drewN | apply below_drew1) | exact HB.out)) hb); clear HO_0; clear HO_6; clear HO_7; clear HO_8; clear HL169_2; clear HR169_2; clear HB; have HO_0 := n0_; have HO_6 := n1_; have HO_7 := n2_; have HO_8 := n3_; have HL169_2 := n4_; have HO172 := n5_; have HR169_2 := n6_; have HB := n7_; clear n0_ n1_ n2_ n3_ n4_ n5_ n6_ n7_; (try clear hb); (try clear hb2); (try clear hk); (try clear hi); (try clear ho0); have p174 : 0 ≤ (x10_1 : Int) := of_decide_eq_true (by first | (with_reducible assumption) | assumption); have q174 : x10_1 < (l0.length : Int) := of_decide_eq_true (by first | (with_reducible assumption) | assumption); obtain ⟨ad174, A174_2, c174_2, e174, hx174_0, hx174_1, hx174_2, hl174_2, hi174_2⟩ := at_T25 (Kd.V_reads' HO_0.out).2.2 x10_1 p174 q174; obtain rfl : ad169 = ad174 := (by injection e174); obtain ⟨ce174, hce174, hMe174, hcc174⟩ := Kd.V_get HO_0.out z25 x10_1 p174 (by first | exact q174 | exact of_decide_eq_true (by first | (with_reducible assumption) | assumption) | (have e_ := (Kd.V_reads' HO_0.out).1; omega)); obtain ⟨ua174_2, uc174_2, rfl, ul174_2, ge174_2⟩ := k25_openF hMe174; have hv174_2 := hcc174 2 _ rfl; rw [add_field _ _ 2 (by omega)] at hv174_2; replace hv174_2 := Option.some.inj (hv174_2.symm.trans hx174_2); injection hv174_2 with hva_ hvn_ hvc_; rw [hva_] at ge174_2; rw [hvc_] at ul174_2; have HL174_2 := Aside0.mk (show Kd.V (Kd.int .u8) 5 _ w.heap.size _ _ ((rd_T25 l0 x10_1).f2) from Kd.V_mk ul174_2 ge174_2); clear hva_ hvn_ hvc_ ge174_2 ul174_2; clear hcc174 hce174; have HR174_2 := Aside0.mk hi174_2; have HC174_2 := Aside0.mk hl174_2; clear hi174_2 hl174_2; replace p174 := eq_true p174; replace q174 := eq_true q174; have p175 : 0 ≤ (x10_1 : Int) := of_decide_eq_true (by first | (with_reducible assumption) | assumption); have q175 : x10_1 < (l0.length : Int) := of_decide_eq_true (by first | (with_reducible assumption) | assumption); obtain ⟨ad175, A175_2, c175_2, e175, hx175_0, hx175_1, hx175_2, hl175_2, hi175_2⟩ := at_T25 (Kd.V_reads' HO_0.out).2.2 x10_1 p175 q175; obtain rfl : ad169 = ad175 := (by injection e175); obtain ⟨ce175, hce175, hMe175, hcc175⟩ := Kd.V_get HO_0.out z25 x10_1 p175 (by first | exact q175 | exact of_decide_eq_true (by first | (with_reducible assumption) | assumption) | (have e_ := (Kd.V_reads' HO_0.out).1; omega)); obtain ⟨ua175_2, uc175_2, rfl, ul175_2, ge175_2⟩ := k25_openF hMe175; have hv175_2 := hcc175 2 _ rfl; rw [add_field _ _ 2 (by omega)] at hv175_2; replace hv175_2 := Option.some.inj (hv175_2.symm.trans hx175_2); injection hv175_2 with hva_ hvn_ hvc_; rw [hva_] at ge175_2; rw [hvc_] at ul175_2; have HL175_2 := Aside0.mk (show Kd.V (Kd.int .u8) 5 _ w.heap.size _ _ ((rd_T25 l0 x10_1).f2) from Kd.V_mk ul175_2 ge175_2); clear hva_ hvn_ hvc_ ge175_2 ul175_2; clear hcc175 hce175; have HR175_2 := Aside0.mk hi175_2; have HC175_2 := Aside0.mk hl175_2; clear hi175_2 hl175_2; replace p175 := eq_true p175; replace q175 := eq_true q175; have ea_ := Option.some.inj (hx174_2.symm.trans hx175_2); injection ea_ with ea_ en_ ec_; subst ea_; subst ec_; clear en_) | ((with_reducible refine gate_builtin (b := .append) (xs := #[.tmp 48, .tmp 53]) rfl ?_); (try (refine gate_guard (by rfl) ?_; dsimp only)); at_builtin; refine Kd.N_append k25 (w0 := w) w.heap.size rfl (.tmp 48) (.tmp 53) 35 25 (.agg #[(.int .i64 0), (.int .i64 0), (.slice none 0 0)]) 40 rfl Try.underlying35 info25 rfl (by decide) (by omega) u7 x7_1 (⟨(rd_T25 l0 x10_1).f0, (rd_T25 l0 x10_1).f1, (rd_T25 l0 x10_1).f2⟩ : S25) [.int .i64 ((rd_T25 l0 x10_1).f0), .int .i64 ((rd_T25 l0 x10_1).f1), .slice A174_2 ((rd_T25 l0 x10_1).f2).length c174_2] (fun k_ => (P0_ k_ ∨ w.heap.size ≤ k_) ∧ some k_ ≠ (u6 : Value).ownBlock ∧ some k_ ≠ (u8 : Value).ownBlock ∧ some k_ ≠ (v171 : Value).ownBlock) (fun k_ => ((fun k_ => (P0_ k_ ∨ w.heap.size ≤ k_) ∧ some k_ ≠ (u6 : Value).ownBlock ∧ some k_ ≠ (u8 : Value).ownBlock ∧ some k_ ≠ (v171 : Value).ownBlock)) k_ ∧ some k_ ≠ (u7 : Value).ownBlock) rfl rfl ?aP (fun _ hk => hk) ?aF ?aO ?aB ?aS ?aL ?_; (case aP => exact (k25_mkF _ _ (⟨(rd_T25 l0 x10_1).f0, (rd_T25 l0 x10_1).f1, (rd_T25 l0 x10_1).f2⟩ : S25) (Kd.V_reads' (Kd.V_mono (ok' := (fun k_ => ((fun k_ => (P0_ k_ ∨ w.heap.size ≤ k_) ∧ some k_ ≠ (u6 : Value).ownBlock ∧ some k_ ≠ (u8 : Value).ownBlock ∧ some k_ ≠ (v171 : Value).ownBlock)) k_ ∧ some k_ ≠ (u7 : Value).ownBlock)) (HL175_2.out) (fun k_ hk => ⟨⟨hk.1.1, ⟨hk.1.2.1, ⟨hk.1.2.2.2, hk.2⟩⟩⟩, hk.1.2.2.1⟩))).2.1 (Kd.V_F (Kd.V_mono (ok' := (fun k_ => ((fun k_ => (P0_ k_ ∨ w.heap.size ≤ k_) ∧ some k_ ≠ (u6 : Value).ownBlock ∧ some k_ ≠ (u8 : Value).ownBlock ∧ some k_ ≠ (v171 : Value).ownBlock)) k_ ∧ some k_ ≠ (u7 : Value).ownBlock)) (HL175_2.out) (fun k_ hk => ⟨⟨hk.1.1, ⟨hk.1.2.1, ⟨hk.1.2.2.2, hk.2⟩⟩⟩, hk.1.2.2.1⟩))))); (case aB => exact (by repeat (first | (with_reducible first | exact HB.out | apply below_alloc | apply pw_below_drewN | apply below_drew1) | exact HB.out))); (case aF => exact (fun k_ hk => ⟨(.inr (Nat.le_trans (below_size (by repeat (first | (with_reducible first | exact HB.out | apply below_alloc | apply pw_below_drewN | apply below_drew1) | exact HB.out))) hk)), Kd.fresh' (Kd.R_lt (by (with_reducible repeat (first | apply Kd.R_alloc | apply Kd.R_drewN | apply Kd.R_drew)); exact HO_6.out)) k_ hk, Kd.fresh' (Kd.R_lt (by (with_reducible repeat (first | apply Kd.R_alloc | apply Kd.R_drewN | apply Kd.R_drew)); exact HO_8.out)) k_ hk, Kd.fresh' (Kd.R_lt (by (with_reducible repeat (first | apply Kd.R_alloc | apply Kd.R_drewN | apply Kd.R_drew)); exact HO172.out)) k_ hk⟩)); (case aO => exact (by (with_reducible repeat (first | apply Kd.N_alloc | apply Kd.N_drewN | apply Kd.N_drew)); exact Kd.N_mono HO_7.out (fun _ hk => ⟨hk.1.1, ⟨hk.1.2.1, ⟨hk.1.2.2, hk.2⟩⟩⟩))); (case aS => exact (below_size (by repeat (first | (with_reducible first | exact HB.out | apply below_alloc | apply pw_below_drewN | apply below_drew1) | exact HB.out)))); (case aL => have := LMc13.out; omega); intro v177 w17 ho hb hg hat; rw [← Ny176.out] at ho; have n0_ := Aside0.mk (Kd.V_afterv (ok := (fun k_ => (P0_ k_ ∨ w.heap.size ≤ k_) ∧ some k_ ≠ (u6 : Value).ownBlock ∧ some k_ ≠ (u8 : Value).ownBlock ∧ some k_ ≠ (v171 : Value).ownBlock)) (by (with_reducible repeat (first | apply Kd.V_alloc | apply Kd.V_drewN | apply Kd.V_drew)); exact Kd.V_mono HO_0.out (fun _ hk => ⟨⟨hk.1.1, ⟨hk.1.2.1, ⟨hk.1.2.2.2, hk.2⟩⟩⟩, hk.1.2.2.1⟩)) hg hat); have n1_ := Aside0.mk (Kd.R_over' (by (with_reducible repeat (first | apply Kd.R_alloc | apply Kd.R_drewN | apply Kd.R_drew)); exact HO_6.out) (Kd.N_typed (by (with_reducible repeat (first | apply Kd.N_alloc | apply Kd.N_drewN | apply Kd.N_drew)); exact HO_7.out)) (by decide) hg); have n2_ := Aside0.mk (Kd.R_over' (by (with_reducible repeat (first | apply Kd.R_alloc | apply Kd.R_drewN | apply Kd.R_drew)); exact HO_8.out) (Kd.N_typed (by (with_reducible repeat (first | apply Kd.N_alloc | apply Kd.N_drewN | apply Kd.N_drew)); exact HO_7.out)) (by decide) hg); have n3_ := Aside0.mk (Kd.V_afterv (ok := (fun k_ => (P0_ k_ ∨ w.heap.size ≤ k_) ∧ some k_ ≠ (u6 : Value).ownBlock ∧ some k_ ≠ (u8 : Value).ownBlock ∧ some k_ ≠ (v171 : Value).ownBlock)) (by (with_reducible repeat (first | apply Kd.V_alloc | apply Kd.V_drewN | apply Kd.V_drew)); exact Kd.V_mono HL169_2.out (fun _ hk => ⟨⟨hk.1.1, ⟨hk.1.2.1, ⟨hk.1.2.2.2, hk.2⟩⟩⟩, hk.1.2.2.1⟩)) hg hat); have n4_ := Aside0.mk (Kd.R_over' (by (with_reducible repeat (first | apply Kd.R_alloc | apply Kd.R_drewN | apply Kd.R_drew)); exact HO172.out) (Kd.N_typed (by (with_reducible repeat (first | apply Kd.N_alloc | apply Kd.N_drewN | apply Kd.N_drew)); exact HO_7.out)) (by decide) hg); have n5_ := Aside0.mk (Kd.V_afterv (ok := (fun k_ => (P0_ k_ ∨ w.heap.size ≤ k_) ∧ some k_ ≠ (u6 : Value).ownBlock ∧ some k_ ≠ (u8 : Value).ownBlock ∧ some k_ ≠ (v171 : Value).ownBlock)) (by (with_reducible repeat (first | apply Kd.V_alloc | apply Kd.V_drewN | apply Kd.V_drew)); exact Kd.V_mono HL174_2.out (fun _ hk => ⟨⟨hk.1.1, ⟨hk.1.2.1, ⟨hk.1.2.2.2, hk.2⟩⟩⟩, hk.1.2.2.1⟩)) hg hat); have n6_ := Aside0.mk (Kd.V_afterv (ok := (fun k_ => (P0_ k_ ∨ w.heap.size ≤ k_) ∧ some k_ ≠ (u6 : Value).ownBlock ∧ some k_ ≠ (u8 : Value).ownBlock ∧ some k_ ≠ (v171 : Value).ownBlock)) (by (with_reducible repeat (first | apply Kd.V_alloc | apply Kd.V_drewN | apply Kd.V_drew)); exact Kd.V_mono HL175_2.out (fun _ hk => ⟨⟨hk.1.1, ⟨hk.1.2.1, ⟨hk.1.2.2.2, hk.2⟩⟩⟩, hk.1.2.2.1⟩)) hg hat); have n7_ := Aside0.mk (hb); have n8_ := Aside0.mk (ho); clear HO_0; clear HO_6; clear HO_8; clear HL169_2; clear HO172; clear HL174_2; clear HL175_2; clear HB; clear HO_7; have HO_0 := n0_; have HO_6 := n1_; have HO_8 := n2_; have HL169_2 := n3_; have HO172 := n4_; have HL174_2 := n5_; have HL175_2 := n6_; have HB := n7_; have HO178 := n8_; clear n0_ n1_ n2_ n3_ n4_ n5_ n6_ n7_ n8_; clear ho hb hg hat; obtain ⟨Ao18, co18, eo18⟩ := Kd.R_slice HO_6.out; subst eo18) | ((with_reducible refine gate_builtin (b := .append) (xs := #[.tmp 55, .tmp 58]) rfl ?_); (try (refine gate_guard (by rfl) ?_; dsimp only)); at_builtin; refine Kd.R_append (Kd.int .i64) (w0 := w) w.heap.size rfl (.tmp 55) (.tmp 58) 36 3 (.int .i64 0) 8 rfl Try.underlying36 info3 rfl (by decide) (by omega) u8 x8_1 (x6_1.length : Int) [.int .i64 (x6_1.length : Int)] (fun k_ => (w.heap.size ≤ k_)) (fun _ => False) rfl rfl ?aP (fun _ hk => hk.elim) ?aF ?aO ?aB ?aS ?aL ?_; (case aP => exact rfl); (case aB => exact (by repeat (first | (with_reducible first | exact HB.out | apply below_alloc | apply pw_below_drewN | apply below_drew1) | exact HB.out))); (case aF => exact (fun k_ hk => (Nat.le_trans (below_size (by repeat (first | (with_reducible first | exact HB.out | apply below_alloc | apply pw_below_drewN | apply below_drew1) | exact HB.out))) hk))); (case aO => exact (by (with_reducible repeat (first | apply Kd.R_alloc | apply Kd.R_drewN | apply Kd.R_drew)); exact HO_8.out)); (case aS => exact (below_size (by repeat (first | (with_reducible first | exact HB.out | apply below_alloc | apply pw_below_drewN | apply below_drew1) | exact HB.out)))); (case aL => have := LMc14.out; omega); intro v180 w19 ho hb hg hat; rw [← Ny179.out] at ho; have n0_ := Aside0.mk (Kd.V_afterv (ok := (fun k_ => (P0_ k_ ∨ w.heap.size ≤ k_) ∧ some k_ ≠ (.slice Ao18 x6_1.length co18 : Value).ownBlock ∧ some k_ ≠ (v171 : Value).ownBlock ∧ some k_ ≠ (v177 : Value).ownBlock)) (by (with_reducible repeat (first | apply Kd.V_alloc | apply Kd.V_drewN | apply Kd.V_drew)); exact Kd.V_mono HO_0.out (fun _ hk => ⟨⟨hk.1.1, ⟨hk.1.2.1, ⟨hk.1.2.2.2, hk.2⟩⟩⟩, hk.1.2.2.1⟩)) hg hat); have n1_ := Aside0.mk (Kd.R_over' (by (with_reducible repeat (first | apply Kd.R_alloc | apply Kd.R_drewN | apply Kd.R_drew)); exact HO_6.out) (Kd.R_typed (by (with_reducible repeat (first | apply Kd.R_alloc | apply Kd.R_drewN | apply Kd.R_drew)); exact HO_8.out)) (by decide) hg); have n2_ := Aside0.mk (Kd.V_afterv (ok := (fun k_ => (P0_ k_ ∨ w.heap.size ≤ k_) ∧ some k_ ≠ (.slice Ao18 x6_1.length co18 : Value).ownBlock ∧ some k_ ≠ (v171 : Value).ownBlock ∧ some k_ ≠ (v177 : Value).ownBlock)) (by (with_reducible repeat (first | apply Kd.V_alloc | apply Kd.V_drewN | apply Kd.V_drew)); exact Kd.V_mono HL169_2.out (fun _ hk => ⟨⟨hk.1.1, ⟨hk.1.2.1, ⟨hk.1.2.2.2, hk.2⟩⟩⟩, hk.1.2.2.1⟩)) hg hat); have n3_ := Aside0.mk (Kd.R_over' (by (with_reducible repeat (first | apply Kd.R_alloc | apply Kd.R_drewN | apply Kd.R_drew)); exact HO172.out) (Kd.R_typed (by (with_reducible repeat (first | apply Kd.R_alloc | apply Kd.R_drewN | apply Kd.R_drew)); exact HO_8.out)) (by decide) hg); have n4_ := Aside0.mk (Kd.V_afterv (ok := (fun k_ => (P0_ k_ ∨ w.heap.size ≤ k_) ∧ some k_ ≠ (.slice Ao18 x6_1.length co18 : Value).ownBlock ∧ some k_ ≠ (v171 : Value).ownBlock ∧ some k_ ≠ (v177 : Value).ownBlock)) (by (with_reducible repeat (first | apply Kd.V_alloc | apply Kd.V_drewN | apply Kd.V_drew)); exact Kd.V_mono HL174_2.out (fun _ hk => ⟨⟨hk.1.1, ⟨hk.1.2.1, ⟨hk.1.2.2.2, hk.2⟩⟩⟩, hk.1.2.2.1⟩)) hg hat); have n5_ := Aside0.mk (Kd.V_afterv (ok := (fun k_ => (P0_ k_ ∨ w.heap.size ≤ k_) ∧ some k_ ≠ (.slice Ao18 x6_1.length co18 : Value).ownBlock ∧ some k_ ≠ (v171 : Value).ownBlock ∧ some k_ ≠ (v177 : Value).ownBlock)) (by (with_reducible repeat (first | apply Kd.V_alloc | apply Kd.V_drewN | apply Kd.V_drew)); exact Kd.V_mono HL175_2.out (fun _ hk => ⟨⟨hk.1.1, ⟨hk.1.2.1, ⟨hk.1.2.2.2, hk.2⟩⟩⟩, hk.1.2.2.1⟩)) hg hat); have n6_ := Aside0.mk (Kd.N_afterv (ok := (fun k_ => (P0_ k_ ∨ w.heap.size ≤ k_) ∧ some k_ ≠ (.slice Ao18 x6_1.length co18 : Value).ownBlock ∧ some k_ ≠ (v171 : Value).ownBlock)) (by (with_reducible repeat (first | apply Kd.N_alloc | apply Kd.N_drewN | apply Kd.N_drew)); exact Kd.N_mono HO178.out (fun _ hk => ⟨⟨hk.1, ⟨hk.2.1, hk.2.2.2⟩⟩, hk.2.2.1⟩)) hg hat); have n7_ := Aside0.mk (hb); have n8_ := Aside0.mk (ho); clear HO_0; clear HO_6; clear HL169_2; clear HO172; clear HL174_2; clear HL175_2; clear HO178; clear HB; clear HO_8; have HO_0 := n0_; have HO_6 := n1_; have HL169_2 := n2_; have HO172 := n3_; have HL174_2 := n4_; have HL175_2 := n5_; have HO178 := n6_; have HB := n7_; have HO181 := n8_; clear n0_ n1_ n2_ n3_ n4_ n5_ n6_ n7_ n8_; clear ho hb hg hat; obtain ⟨Ao20, co20, eo20⟩ := Kd.R_slice HO172.out; subst eo20) | ((with_reducible refine gate_builtin (b := .append) (xs := #[.tmp 62, .tmp 63]) rfl ?_); (try (refine gate_guard (by rfl) ?_; dsimp only)); at_builtin; refine Kd.R_append_rows (Kd.int .u8) (w0 := w) w.heap.size rfl (.tmp 62) (.tmp 63) 23 5 (.int .u8 0) 1 rfl Try.underlying23 info5 rfl (by decide) (by omega) (.slice Ao18 x6_1.length co18) x6_1 t170 _ _ _ (fun k_ => (w.heap.size ≤ k_) ∧ some k_ ≠ (.slice Ao20 t170.length co20 : Value).ownBlock) (fun _ => False) rfl rfl ?aO ?aR (fun _ _ h => h) (fun _ h => h.elim) ?aF ?aB ?aS ?aL ?_; (case aR => repeat (first | exact (Kd.R_reads' HO172.out).2.2 | (with_reducible refine Kd.C_alloc ?_ _) | (with_reducible refine Kd.C_drewN ?_ _) | (with_reducible refine Kd.C_drew ?_))); (case aB => exact (by repeat (first | (with_reducible first | exact HB.out | apply below_alloc | apply pw_below_drewN | apply below_drew1) | exact HB.out))); (case aF => exact (fun k_ hk => ⟨(Nat.le_trans (below_size (by repeat (first | (with_reducible first | exact HB.out | apply below_alloc | apply pw_below_drewN | apply below_drew1) | exact HB.out))) hk), Kd.fresh' (Kd.R_lt (by (with_reducible repeat (first | apply Kd.R_alloc | apply Kd.R_drewN | apply Kd.R_drew)); exact HO172.out)) k_ hk⟩)); (case aO => exact (by (with_reducible repeat (first | apply Kd.R_alloc | apply Kd.R_drewN | apply Kd.R_drew)); exact HO_6.out)); (case aS => exact (below_size (by repeat (first | (with_reducible first | exact HB.out | apply below_alloc | apply pw_below_drewN | apply below_drew1) | exact HB.out)))); (case aL => have := LMc15.out; omega); intro v183 w21 ho hb hg hat; rw [← Ny182.out] at ho; have n0_ := Aside0.mk (Kd.V_afterv (ok := (fun k_ => (P0_ k_ ∨ w.heap.size ≤ k_) ∧ some k_ ≠ (.slice Ao20 t170.length co20 : Value).ownBlock ∧ some k_ ≠ (v177 : Value).ownBlock ∧ some k_ ≠ (v180 : Value).ownBlock)) (by (with_reducible repeat (first | apply Kd.V_alloc | apply Kd.V_drewN | apply Kd.V_drew)); exact Kd.V_mono HO_0.out (fun _ hk => ⟨⟨hk.1.1, ⟨hk.1.2.2.1, ⟨hk.1.2.2.2, hk.2⟩⟩⟩, hk.1.2.1⟩)) hg hat); have n1_ := Aside0.mk (Kd.V_afterv (ok := (fun k_ => (P0_ k_ ∨ w.heap.size ≤ k_) ∧ some k_ ≠ (.slice Ao20 t170.length co20 : Value).ownBlock ∧ some k_ ≠ (v177 : Value).ownBlock ∧ some k_ ≠ (v180 : Value).ownBlock)) (by (with_reducible repeat (first | apply Kd.V_alloc | apply Kd.V_drewN | apply Kd.V_drew)); exact Kd.V_mono HL169_2.out (fun _ hk => ⟨⟨hk.1.1, ⟨hk.1.2.2.1, ⟨hk.1.2.2.2, hk.2⟩⟩⟩, hk.1.2.1⟩)) hg hat); have n2_ := Aside0.mk (Kd.R_after (ok := (fun k_ => (w.heap.size ≤ k_))) (by (with_reducible repeat (first | apply Kd.R_alloc | apply Kd.R_drewN | apply Kd.R_drew)); exact Kd.R_mono HO172.out (fun _ hk => ⟨hk.1.1, hk.2⟩)) hg hat); have n3_ := Aside0.mk (Kd.V_afterv (ok := (fun k_ => (P0_ k_ ∨ w.heap.size ≤ k_) ∧ some k_ ≠ (.slice Ao20 t170.length co20 : Value).ownBlock ∧ some k_ ≠ (v177 : Value).ownBlock ∧ some k_ ≠ (v180 : Value).ownBlock)) (by (with_reducible repeat (first | apply Kd.V_alloc | apply Kd.V_drewN | apply Kd.V_drew)); exact Kd.V_mono HL174_2.out (fun _ hk => ⟨⟨hk.1.1, ⟨hk.1.2.2.1, ⟨hk.1.2.2.2, hk.2⟩⟩⟩, hk.1.2.1⟩)) hg hat); have n4_ := Aside0.mk (Kd.V_afterv (ok := (fun k_ => (P0_ k_ ∨ w.heap.size ≤ k_) ∧ some k_ ≠ (.slice Ao20 t170.length co20 : Value).ownBlock ∧ some k_ ≠ (v177 : Value).ownBlock ∧ some k_ ≠ (v180 : Value).ownBlock)) (by (with_reducible repeat (first | apply Kd.V_alloc | apply Kd.V_drewN | apply Kd.V_drew)); exact Kd.V_mono HL175_2.out (fun _ hk => ⟨⟨hk.1.1, ⟨hk.1.2.2.1, ⟨hk.1.2.2.2, hk.2⟩⟩⟩, hk.1.2.1⟩)) hg hat); have n5_ := Aside0.mk (Kd.N_afterv (ok := (fun k_ => (P0_ k_ ∨ w.heap.size ≤ k_) ∧ some k_ ≠ (.slice Ao20 t170.length co20 : Value).ownBlock ∧ some k_ ≠ (v180 : Value).ownBlock)) (by (with_reducible repeat (first | apply Kd.N_alloc | apply Kd.N_drewN | apply Kd.N_drew)); exact Kd.N_mono HO178.out (fun _ hk => ⟨⟨hk.1.1, ⟨hk.1.2.2, hk.2⟩⟩, hk.1.2.1⟩)) hg hat); have n6_ := Aside0.mk (Kd.R_over' (by (with_reducible repeat (first | apply Kd.R_alloc | apply Kd.R_drewN | apply Kd.R_drew)); exact HO181.out) (Kd.R_typed (by (with_reducible repeat (first | apply Kd.R_alloc | apply Kd.R_drewN | apply Kd.R_drew)); exact HO_6.out)) (by decide) hg); have n7_ := Aside0.mk (hb); have n8_ := Aside0.mk (ho); clear HO_0; clear HL169_2; clear HO172; clear HL174_2; clear HL175_2; clear HO178; clear HO181; clear HB; clear HO_6; have HO_0 := n0_; have HL169_2 := n1_; have HO172 := n2_; have HL174_2 := n3_; have HL175_2 := n4_; have HO178 := n5_; have HO181 := n6_; have HB := n7_; have HO184 := n8_; clear n0_ n1_ n2_ n3_ n4_ n5_ n6_ n7_ n8_; clear ho hb hg hat))
           go_roundg k1
           case measure => have := HK1.out; omega
           case rel => exact ⟨(y182), (y176), (y179), ((t170.length : Int)), (wrap64 (x10_1 + 1)), (by first | rfl | (simp; done) | (simp [*]; done)), (by first | rfl | (simp; done) | (simp [*]; done)), H', ⟨by have := HK1.out; omega⟩, ⟨by (with_reducible repeat (first | apply Kd.V_alloc | apply Kd.V_drewN | apply Kd.V_drew)); exact Kd.V_mono HO_0.out (fun _ hk => ⟨hk.1.1, ⟨hk.2, ⟨hk.1.2.2.1, hk.1.2.2.2⟩⟩⟩)⟩, ⟨by (with_reducible repeat (first | apply Kd.R_alloc | apply Kd.R_drewN | apply Kd.R_drew)); exact Kd.R_mono HO184.out (fun _ hk => hk.1)⟩, ⟨by (with_reducible repeat (first | apply Kd.N_alloc | apply Kd.N_drewN | apply Kd.N_drew)); exact Kd.N_mono HO178.out (fun _ hk => ⟨hk.1.1, ⟨hk.2, hk.1.2.2⟩⟩)⟩, ⟨by (with_reducible repeat (first | apply Kd.R_alloc | apply Kd.R_drewN | apply Kd.R_drew)); exact HO181.out⟩, ⟨by repeat (first | (with_reducible first | exact HB.out | apply below_alloc | apply pw_below_drewN | apply below_drew1) | exact HB.out)⟩⟩
          ·rw [if_neg c15] at H
           exact absurd H (by simp)
         ·rw [if_neg c14] at H
          exact absurd H (by simp)
        ·rw [if_neg c13] at H
         exact absurd H (by simp)
       ·rw [if_neg c12] at H
        have c12b0 : (t173 == 0) = false := beq_eq_false_iff_ne.mpr c12
        have c12b1 : (t173 != 0) = true := bne_iff_ne.mpr c12
        have H' := Aside0.mk H
        clear H
        have p169 : 0 ≤ (x10_1 : Int) := of_decide_eq_true (by first | (with_reducible assumption) | assumption)
        have q169 : x10_1 < (l0.length : Int) := of_decide_eq_true (by first | (with_reducible assumption) | assumption)
        obtain ⟨ad169, A169_2, c169_2, e169, hx169_0, hx169_1, hx169_2, hl169_2, hi169_2⟩ := at_T25 (Kd.V_reads' HO_0.out).2.2 x10_1 p169 q169
        cases e169
        obtain ⟨ce169, hce169, hMe169, hcc169⟩ := Kd.V_get HO_0.out z25 x10_1 p169 (by first | exact q169 | exact of_decide_eq_true (by first | (with_reducible assumption) | assumption) | (have e_ := (Kd.V_reads' HO_0.out).1; omega))
        obtain ⟨ua169_2, uc169_2, rfl, ul169_2, ge169_2⟩ := k25_openF hMe169
        have hv169_2 := hcc169 2 _ rfl
        rw [add_field _ _ 2 (by omega)] at hv169_2
        replace hv169_2 := Option.some.inj (hv169_2.symm.trans hx169_2)
        injection hv169_2 with hva_ hvn_ hvc_
        rw [hva_] at ge169_2
        rw [hvc_] at ul169_2
        have HL169_2 := Aside0.mk (show Kd.V (Kd.int .u8) 5 _ w.heap.size _ _ ((rd_T25 l0 x10_1).f2) from Kd.V_mk ul169_2 ge169_2)
        clear hva_ hvn_ hvc_ ge169_2 ul169_2
        clear hcc169 hce169
        have HR169_2 := Aside0.mk hi169_2
        have HC169_2 := Aside0.mk hl169_2
        clear hi169_2 hl169_2
        replace p169 := eq_true p169
        replace q169 := eq_true q169
        go_wp2_with (first | ((with_reducible refine gate_callee (f := 19) rfl ?_); refine goesL_ (some 34) rfl rfl Try.func19 (by kernel_rfl) rfl #[.agg #[.int .i64 ((rd_T25 l0 x10_1).f0), .int .i64 ((rd_T25 l0 x10_1).f1), .slice A169_2 ((rd_T25 l0 x10_1).f2).length c169_2]] rfl (by (try simp only [List.map_toArray, List.map_cons, List.map_nil]); first | done | rfl | (simp only [List.length_drop, List.length_take]; rfl)) ?_; (with_reducible refine (record_Write.calls ((rd_T25 l0 x10_1).f0) ((rd_T25 l0 x10_1).f1) _ _ ((rd_T25 l0 x10_1).f2) t170 t173 _ ?side1 ?side2 A9.out).mono ?_); (case side1 => repeat (first | exact (by repeat (first | (with_reducible exact HR169_2.out) | (with_reducible refine Kd.C_alloc ?_ _) | (with_reducible refine Kd.C_drewN ?_ _) | (with_reducible refine Kd.C_drew ?_) | exact HR169_2.out)) | (with_reducible refine Kd.C_alloc ?_ _) | (with_reducible refine Kd.C_drewN ?_ _) | (with_reducible refine Kd.C_drew ?_))); (case side2 => exact HC169_2.out); rintro e w22 ⟨v171, rfl, ho0, hb⟩; refine ⟨_, rfl, ?_⟩; have n0_ := Aside0.mk (Kd.V_elder' (by (with_reducible repeat (first | apply Kd.V_alloc | apply Kd.V_drewN | apply Kd.V_drew)); exact HO_0.out) (Kd.R_base ho0) hb); have n1_ := Aside0.mk (Kd.R_elder' (by (with_reducible repeat (first | apply Kd.R_alloc | apply Kd.R_drewN | apply Kd.R_drew)); exact HO_6.out) (Kd.R_base ho0) hb); have n2_ := Aside0.mk (Kd.N_elder' (by (with_reducible repeat (first | apply Kd.N_alloc | apply Kd.N_drewN | apply Kd.N_drew)); exact HO_7.out) (Kd.R_base ho0) hb); have n3_ := Aside0.mk (Kd.R_below (by (with_reducible repeat (first | apply Kd.R_alloc | apply Kd.R_drewN | apply Kd.R_drew)); exact HO_8.out) hb); have n4_ := Aside0.mk (Kd.V_elder' (by (with_reducible repeat (first | apply Kd.V_alloc | apply Kd.V_drewN | apply Kd.V_drew)); exact HL169_2.out) (Kd.R_base ho0) hb); have n5_ := Aside0.mk (Kd.R_lower (Kd.R_new' (Kd.R_newM (M := fun k_ => (w.heap.size ≤ k_)) ho0 (below_size (by repeat (first | (with_reducible first | exact HB.out | apply below_alloc | apply pw_below_drewN | apply below_drew1) | exact HB.out))) (fun k_ h_ => h_)) (Kd.R_lt (by (with_reducible repeat (first | apply Kd.R_alloc | apply Kd.R_drewN | apply Kd.R_drew)); exact HO_6.out))) (below_size (by repeat (first | (with_reducible first | exact HB.out | apply below_alloc | apply pw_below_drewN | apply below_drew1) | exact HB.out)))); have n6_ := Aside0.mk (Kd.C_below (by repeat (first | (with_reducible exact HR169_2.out) | (with_reducible refine Kd.C_alloc ?_ _) | (with_reducible refine Kd.C_drewN ?_ _) | (with_reducible refine Kd.C_drew ?_) | exact HR169_2.out)) hb); have n7_ := Aside0.mk (below_step (by repeat (first | (with_reducible first | exact HB.out | apply below_alloc | apply pw_below_drewN | apply below_drew1) | exact HB.out)) hb); clear HO_0; clear HO_6; clear HO_7; clear HO_8; clear HL169_2; clear HR169_2; clear HB; have HO_0 := n0_; have HO_6 := n1_; have HO_7 := n2_; have HO_8 := n3_; have HL169_2 := n4_; have HO172 := n5_; have HR169_2 := n6_; have HB := n7_; clear n0_ n1_ n2_ n3_ n4_ n5_ n6_ n7_; (try clear hb); (try clear hb2); (try clear hk); (try clear hi); (try clear ho0); have p174 : 0 ≤ (x10_1 : Int) := of_decide_eq_true (by first | (with_reducible assumption) | assumption); have q174 : x10_1 < (l0.length : Int) := of_decide_eq_true (by first | (with_reducible assumption) | assumption); obtain ⟨ad174, A174_2, c174_2, e174, hx174_0, hx174_1, hx174_2, hl174_2, hi174_2⟩ := at_T25 (Kd.V_reads' HO_0.out).2.2 x10_1 p174 q174; obtain rfl : ad169 = ad174 := (by injection e174); obtain ⟨ce174, hce174, hMe174, hcc174⟩ := Kd.V_get HO_0.out z25 x10_1 p174 (by first | exact q174 | exact of_decide_eq_true (by first | (with_reducible assumption) | assumption) | (have e_ := (Kd.V_reads' HO_0.out).1; omega)); obtain ⟨ua174_2, uc174_2, rfl, ul174_2, ge174_2⟩ := k25_openF hMe174; have hv174_2 := hcc174 2 _ rfl; rw [add_field _ _ 2 (by omega)] at hv174_2; replace hv174_2 := Option.some.inj (hv174_2.symm.trans hx174_2); injection hv174_2 with hva_ hvn_ hvc_; rw [hva_] at ge174_2; rw [hvc_] at ul174_2; have HL174_2 := Aside0.mk (show Kd.V (Kd.int .u8) 5 _ w.heap.size _ _ ((rd_T25 l0 x10_1).f2) from Kd.V_mk ul174_2 ge174_2); clear hva_ hvn_ hvc_ ge174_2 ul174_2; clear hcc174 hce174; have HR174_2 := Aside0.mk hi174_2; have HC174_2 := Aside0.mk hl174_2; clear hi174_2 hl174_2; replace p174 := eq_true p174; replace q174 := eq_true q174))
        go_roundg k1
        case measure => have := HK1.out; omega
        case rel => exact ⟨(x6_1), (x7_1), (x8_1), (x9_1), (wrap64 (x10_1 + 1)), (by first | rfl | (simp; done) | (simp [*]; done)), (by first | rfl | (simp; done) | (simp [*]; done)), H', ⟨by have := HK1.out; omega⟩, ⟨by (with_reducible repeat (first | apply Kd.V_alloc | apply Kd.V_drewN | apply Kd.V_drew)); exact Kd.V_mono HO_0.out (fun _ hk => ⟨hk.1.1, ⟨hk.1.2.1, ⟨hk.1.2.2.1, hk.1.2.2.2⟩⟩⟩)⟩, ⟨by (with_reducible repeat (first | apply Kd.R_alloc | apply Kd.R_drewN | apply Kd.R_drew)); exact Kd.R_mono HO_6.out (fun _ hk => hk.1)⟩, ⟨by (with_reducible repeat (first | apply Kd.N_alloc | apply Kd.N_drewN | apply Kd.N_drew)); exact Kd.N_mono HO_7.out (fun _ hk => ⟨hk.1.1, ⟨hk.1.2.1, hk.1.2.2⟩⟩)⟩, ⟨by (with_reducible repeat (first | apply Kd.R_alloc | apply Kd.R_drewN | apply Kd.R_drew)); exact HO_8.out⟩, ⟨by repeat (first | (with_reducible first | exact HB.out | apply below_alloc | apply pw_below_drewN | apply below_drew1) | exact HB.out)⟩⟩
     ·rw [if_neg c8] at H
      exact absurd H (by simp)
    ·rw [if_neg c7] at H
     have c7b0 : decide (x10_1 < (l0.length : Int)) = false := decide_eq_false c7
     clear c7
     replace H := Option.bind_eq_some_iff.mp H
     obtain ⟨⟨t185, t186⟩, A230, H⟩ := H
     replace H : ((waggonerref05_All.f k1 t185 x7_1).bind fun t191 => (if t191 = true then ((waggonerref05_Numbers.f k1 t186 x8_1).bind fun t192 => (if t192 = true then (waggonerlaw05_RecordAll.j1 k1 a1 t168 x6_1 x7_1 x8_1 x9_1 t185 (x7_1.length : Int) ((x7_1.length : Int) == 0)) else (waggonerlaw05_RecordAll.j1 k1 a1 t168 x6_1 x7_1 x8_1 x9_1 t185 (x7_1.length : Int) true))) else (waggonerlaw05_RecordAll.j1 k1 a1 t168 x6_1 x7_1 x8_1 x9_1 t185 (x7_1.length : Int) true))) = some true := H
     have A23 := Aside0.mk A230
     clear A230
     have HC24 := Aside0.mk H
     clear H
     obtain ⟨Ao25, co25, eo25⟩ := Kd.R_slice HO_6.out
     subst eo25
     go_upto_region 19 with (first | ((with_reducible refine gate_callee (f := 28) rfl ?_); refine goesL_ (some 67) rfl rfl Try.func28 (by kernel_rfl) rfl #[.slice Ao25 x6_1.length co25] rfl (by (try simp only [List.map_toArray, List.map_cons, List.map_nil]); first | done | rfl | (simp only [List.length_drop, List.length_take]; rfl)) ?_; (with_reducible refine (record_Scan.calls _ _ x6_1 t185 t186 _ ?side1 ?side2 A23.out).mono ?_); (case side1 => repeat (first | exact (Kd.R_reads' HO_6.out).2.2 | (with_reducible refine Kd.C_alloc ?_ _) | (with_reducible refine Kd.C_drewN ?_ _) | (with_reducible refine Kd.C_drew ?_))); (case side2 => exact (Kd.R_reads' HO_6.out).2.1); rintro e w26 ⟨v187, v189, rfl, ho0, ho1, hb⟩; refine ⟨_, rfl, ?_⟩; have n0_ := Aside0.mk (Kd.V_mono (Kd.V_told (Kd.V_told (Kd.V_old (by (with_reducible repeat (first | apply Kd.V_alloc | apply Kd.V_drewN | apply Kd.V_drew)); exact HO_0.out) hb) (Kd.N_base (Kd.S_N ho0))) (Kd.R_base ho1)) (fun _ h_ => h_.1)); have n1_ := Aside0.mk (Kd.R_below (by (with_reducible repeat (first | apply Kd.R_alloc | apply Kd.R_drewN | apply Kd.R_drew)); exact HO_6.out) hb); have n2_ := Aside0.mk (Kd.N_mono (Kd.N_told (Kd.N_told (Kd.N_old (by (with_reducible repeat (first | apply Kd.N_alloc | apply Kd.N_drewN | apply Kd.N_drew)); exact HO_7.out) hb) (Kd.N_base (Kd.S_N ho0))) (Kd.R_base ho1)) (fun _ h_ => h_.1)); have n3_ := Aside0.mk (Kd.R_elder' (by (with_reducible repeat (first | apply Kd.R_alloc | apply Kd.R_drewN | apply Kd.R_drew)); exact HO_8.out) (Kd.R_base ho1) hb); have n4_ := Aside0.mk (Kd.N_lower (Kd.N_mono (ok' := fun k_ => (P0_ k_ ∨ w.heap.size ≤ k_) ∧ some k_ ≠ (v189 : Value).ownBlock ∧ some k_ ≠ (.slice Ao25 x6_1.length co25 : Value).ownBlock ∧ some k_ ≠ (u7 : Value).ownBlock ∧ some k_ ≠ (u8 : Value).ownBlock) (Kd.S_N (Kd.S_bound (Kd.S_apart' ho0 (Kd.R_typed ho1) (by decide)))) (fun k_ hk_ => ⟨(.inr (Nat.le_trans (below_size (by repeat (first | (with_reducible first | exact HB.out | apply below_alloc | apply pw_below_drewN | apply below_drew1) | exact HB.out))) hk_.2.1)), hk_.1.2, (Kd.fresh' (Kd.R_lt (by (with_reducible repeat (first | apply Kd.R_alloc | apply Kd.R_drewN | apply Kd.R_drew)); exact HO_6.out)) k_ hk_.2.1), (Kd.fresh' (Kd.N_lt (by (with_reducible repeat (first | apply Kd.N_alloc | apply Kd.N_drewN | apply Kd.N_drew)); exact HO_7.out)) k_ hk_.2.1), (Kd.fresh' (Kd.R_lt (by (with_reducible repeat (first | apply Kd.R_alloc | apply Kd.R_drewN | apply Kd.R_drew)); exact HO_8.out)) k_ hk_.2.1)⟩)) (below_size (by repeat (first | (with_reducible first | exact HB.out | apply below_alloc | apply pw_below_drewN | apply below_drew1) | exact HB.out)))); have n5_ := Aside0.mk (Kd.R_lower (Kd.R_new' (Kd.R_newM (M := fun k_ => (w.heap.size ≤ k_)) ho1 (below_size (by repeat (first | (with_reducible first | exact HB.out | apply below_alloc | apply pw_below_drewN | apply below_drew1) | exact HB.out))) (fun k_ h_ => h_)) (Kd.R_lt (by (with_reducible repeat (first | apply Kd.R_alloc | apply Kd.R_drewN | apply Kd.R_drew)); exact HO_8.out))) (below_size (by repeat (first | (with_reducible first | exact HB.out | apply below_alloc | apply pw_below_drewN | apply below_drew1) | exact HB.out)))); have n6_ := Aside0.mk (below_step (by repeat (first | (with_reducible first | exact HB.out | apply below_alloc | apply pw_below_drewN | apply below_drew1) | exact HB.out)) hb); clear HO_0; clear HO_6; clear HO_7; clear HO_8; clear HB; have HO_0 := n0_; have HO_6 := n1_; have HO_7 := n2_; have HO_8 := n3_; have HO188 := n4_; have HO190 := n5_; have HB := n6_; clear n0_ n1_ n2_ n3_ n4_ n5_ n6_; (try clear hb); (try clear hb2); (try clear hk); (try clear hi); (try clear ho0); (try clear ho1); obtain ⟨Ao27, co27, eo27⟩ := Kd.N_slice HO_7.out; subst eo27))
     (try simp only [Act.put, Kx.sb, Kx.sz, Kx.ss])
     go_cut [85] (fun v85 wc => ∃ (kq : Nat) (x85_23 : Bool), v85 = .bool x85_23 ∧ Aside0 (waggonerlaw05_RecordAll.j1 kq a1 t168 x6_1 x7_1 x8_1 x9_1 t185 (x7_1.length : Int) x85_23 = some true) ∧ Aside0 (kq ≤ k1) ∧ Aside0 (Kd.R (Kd.int .u8) 5 wc w.heap.size (fun k_ => (w.heap.size ≤ k_)) (.slice Ao25 x6_1.length co25) x6_1) ∧ Aside0 (Kd.N k25 25 wc w.heap.size (fun k_ => (P0_ k_ ∨ w.heap.size ≤ k_) ∧ some k_ ≠ ((.slice Ao25 x6_1.length co25) : Value).ownBlock ∧ some k_ ≠ (u8 : Value).ownBlock ∧ some k_ ≠ (v187 : Value).ownBlock) (.slice Ao27 x7_1.length co27) x7_1) ∧ Aside0 (Kd.R (Kd.int .i64) 3 wc w.heap.size (fun k_ => (w.heap.size ≤ k_)) u8 x8_1) ∧ Aside0 (Kd.N k25 25 wc w.heap.size (fun k_ => (P0_ k_ ∨ w.heap.size ≤ k_) ∧ some k_ ≠ ((.slice Ao25 x6_1.length co25) : Value).ownBlock ∧ some k_ ≠ ((.slice Ao27 x7_1.length co27) : Value).ownBlock ∧ some k_ ≠ (u8 : Value).ownBlock) v187 t185) ∧ Aside0 (Below w.heap.size w wc))
     case first =>
      have H := HC24.out
      clear HC24
      replace H := Option.bind_eq_some_iff.mp H
      obtain ⟨t191, A280, H⟩ := H
      replace H : (if t191 = true then ((waggonerref05_Numbers.f k1 t186 x8_1).bind fun t192 => (if t192 = true then (waggonerlaw05_RecordAll.j1 k1 a1 t168 x6_1 x7_1 x8_1 x9_1 t185 (x7_1.length : Int) ((x7_1.length : Int) == 0)) else (waggonerlaw05_RecordAll.j1 k1 a1 t168 x6_1 x7_1 x8_1 x9_1 t185 (x7_1.length : Int) true))) else (waggonerlaw05_RecordAll.j1 k1 a1 t168 x6_1 x7_1 x8_1 x9_1 t185 (x7_1.length : Int) true)) = some true := H
      have A28 := Aside0.mk A280
      clear A280
      by_cases c29 : t191 = true
      ·subst c29
       have H1 : ((waggonerref05_Numbers.f k1 t186 x8_1).bind fun t192 => (if t192 = true then (waggonerlaw05_RecordAll.j1 k1 a1 t168 x6_1 x7_1 x8_1 x9_1 t185 (x7_1.length : Int) ((x7_1.length : Int) == 0)) else (waggonerlaw05_RecordAll.j1 k1 a1 t168 x6_1 x7_1 x8_1 x9_1 t185 (x7_1.length : Int) true))) = some true := by rw [if_pos rfl] at H <;> exact H
       clear H
       have H := H1
       clear H1
       replace H := Option.bind_eq_some_iff.mp H
       obtain ⟨t192, A300, H⟩ := H
       replace H : (if t192 = true then (waggonerlaw05_RecordAll.j1 k1 a1 t168 x6_1 x7_1 x8_1 x9_1 t185 (x7_1.length : Int) ((x7_1.length : Int) == 0)) else (waggonerlaw05_RecordAll.j1 k1 a1 t168 x6_1 x7_1 x8_1 x9_1 t185 (x7_1.length : Int) true)) = some true := H
       have A30 := Aside0.mk A300
       clear A300
       by_cases c31 : t192 = true
       ·subst c31
        have H1 : (waggonerlaw05_RecordAll.j1 k1 a1 t168 x6_1 x7_1 x8_1 x9_1 t185 (x7_1.length : Int) ((x7_1.length : Int) == 0)) = some true := by rw [if_pos rfl] at H <;> exact H
        clear H
        have H := H1
        clear H1
        have H' := Aside0.mk H
        clear H
        obtain ⟨Ao32, co32, eo32⟩ := Kd.N_slice HO188.out
        subst eo32
        go_wp2_with (first | ((with_reducible refine gate_callee (f := 30) rfl ?_); refine goesL_ (some 74) rfl rfl Try.func30 (by kernel_rfl) rfl #[.slice Ao32 t185.length co32, .slice Ao27 x7_1.length co27] rfl (by (try simp only [List.map_toArray, List.map_cons, List.map_nil]); first | done | rfl | (simp only [List.length_drop, List.length_take]; rfl)) ?_; (with_reducible refine (waggonerref05_All.calls k1 _ _ t185 _ _ x7_1 true _ ?side1 ?side2 ?side3 ?side4 A28.out).mono ?_); (case side1 => repeat (first | exact (Kd.N_reads' HO188.out).2.2 | (with_reducible refine Kd.C_alloc ?_ _) | (with_reducible refine Kd.C_drewN ?_ _) | (with_reducible refine Kd.C_drew ?_))); (case side2 => exact (Kd.N_reads' HO188.out).2.1); (case side3 => repeat (first | exact (Kd.N_reads' HO_7.out).2.2 | (with_reducible refine Kd.C_alloc ?_ _) | (with_reducible refine Kd.C_drewN ?_ _) | (with_reducible refine Kd.C_drew ?_))); (case side4 => exact (Kd.N_reads' HO_7.out).2.1); rintro e w33 ⟨rfl, hb⟩; refine ⟨_, rfl, ?_⟩; have n0_ := Aside0.mk (Kd.V_below (by (with_reducible repeat (first | apply Kd.V_alloc | apply Kd.V_drewN | apply Kd.V_drew)); exact HO_0.out) hb); have n1_ := Aside0.mk (Kd.R_below (by (with_reducible repeat (first | apply Kd.R_alloc | apply Kd.R_drewN | apply Kd.R_drew)); exact HO_6.out) hb); have n2_ := Aside0.mk (Kd.N_below (by (with_reducible repeat (first | apply Kd.N_alloc | apply Kd.N_drewN | apply Kd.N_drew)); exact HO_7.out) hb); have n3_ := Aside0.mk (Kd.R_below (by (with_reducible repeat (first | apply Kd.R_alloc | apply Kd.R_drewN | apply Kd.R_drew)); exact HO_8.out) hb); have n4_ := Aside0.mk (Kd.N_below (by (with_reducible repeat (first | apply Kd.N_alloc | apply Kd.N_drewN | apply Kd.N_drew)); exact HO188.out) hb); have n5_ := Aside0.mk (Kd.R_below (by (with_reducible repeat (first | apply Kd.R_alloc | apply Kd.R_drewN | apply Kd.R_drew)); exact HO190.out) hb); have n6_ := Aside0.mk (below_step (by repeat (first | (with_reducible first | exact HB.out | apply below_alloc | apply pw_below_drewN | apply below_drew1) | exact HB.out)) hb); clear HO_0; clear HO_6; clear HO_7; clear HO_8; clear HO188; clear HO190; clear HB; have HO_0 := n0_; have HO_6 := n1_; have HO_7 := n2_; have HO_8 := n3_; have HO188 := n4_; have HO190 := n5_; have HB := n6_; clear n0_ n1_ n2_ n3_ n4_ n5_ n6_; (try clear hb); (try clear hb2); (try clear hk); (try clear hi); obtain ⟨Ao34, co34, eo34⟩ := Kd.R_slice HO190.out; subst eo34; obtain ⟨Ao35, co35, eo35⟩ := Kd.R_slice HO_8.out; subst eo35) | (go_at_call 31; (with_reducible refine (waggonerref05_Numbers.calls k1 _ _ t186 _ _ x8_1 true _ ?side1 ?side2 ?side3 ?side4 A30.out).mono ?_); (case side1 => repeat (first | exact (Kd.R_reads' HO190.out).2.2 | (with_reducible refine Kd.C_alloc ?_ _) | (with_reducible refine Kd.C_drewN ?_ _) | (with_reducible refine Kd.C_drew ?_))); (case side2 => exact (Kd.R_reads' HO190.out).2.1); (case side3 => repeat (first | exact (Kd.R_reads' HO_8.out).2.2 | (with_reducible refine Kd.C_alloc ?_ _) | (with_reducible refine Kd.C_drewN ?_ _) | (with_reducible refine Kd.C_drew ?_))); (case side4 => exact (Kd.R_reads' HO_8.out).2.1); rintro e w' ⟨rfl, ⟨nd, rfl⟩⟩))
        go_meet
        case rel => exact ⟨_, (((x7_1.length : Int) == 0)), (by first | rfl | (simp; done) | (simp [*]; done)), H', ⟨by have := HK1.out; first | omega | exact Nat.le_refl _⟩, ⟨by (with_reducible repeat (first | apply Kd.R_alloc | apply Kd.R_drewN | apply Kd.R_drew)); exact HO_6.out⟩, ⟨by (with_reducible repeat (first | apply Kd.N_alloc | apply Kd.N_drewN | apply Kd.N_drew)); exact Kd.N_mono HO_7.out (fun _ hk => ⟨hk.1.1.1, ⟨hk.1.1.2.1, ⟨hk.1.1.2.2, hk.1.2⟩⟩⟩)⟩, ⟨by (with_reducible repeat (first | apply Kd.R_alloc | apply Kd.R_drewN | apply Kd.R_drew)); exact Kd.R_mono HO_8.out (fun _ hk => hk.1)⟩, ⟨by (with_reducible repeat (first | apply Kd.N_alloc | apply Kd.N_drewN | apply Kd.N_drew)); exact Kd.N_mono HO188.out (fun _ hk => ⟨hk.1, ⟨hk.2.2.1, ⟨hk.2.2.2.1, hk.2.2.2.2⟩⟩⟩)⟩, ⟨by repeat (first | (with_reducible first | exact HB.out | apply below_alloc | apply pw_below_drewN | apply below_drew1) | exact HB.out)⟩⟩
       ·replace c31 := Bool.eq_false_iff.mpr c31
        subst c31
        have H1 : (waggonerlaw05_RecordAll.j1 k1 a1 t168 x6_1 x7_1 x8_1 x9_1 t185 (x7_1.length : Int) true) = some true := by rw [if_neg (show ¬ (false = true) by decide)] at H <;> exact H
        clear H
        have H := H1
        clear H1
        have H' := Aside0.mk H
        clear H
        obtain ⟨Ao36, co36, eo36⟩ := Kd.N_slice HO188.out
        subst eo36
        go_wp2_with (first | ((with_reducible refine gate_callee (f := 30) rfl ?_); refine goesL_ (some 74) rfl rfl Try.func30 (by kernel_rfl) rfl #[.slice Ao36 t185.length co36, .slice Ao27 x7_1.length co27] rfl (by (try simp only [List.map_toArray, List.map_cons, List.map_nil]); first | done | rfl | (simp only [List.length_drop, List.length_take]; rfl)) ?_; (with_reducible refine (waggonerref05_All.calls k1 _ _ t185 _ _ x7_1 true _ ?side1 ?side2 ?side3 ?side4 A28.out).mono ?_); (case side1 => repeat (first | exact (Kd.N_reads' HO188.out).2.2 | (with_reducible refine Kd.C_alloc ?_ _) | (with_reducible refine Kd.C_drewN ?_ _) | (with_reducible refine Kd.C_drew ?_))); (case side2 => exact (Kd.N_reads' HO188.out).2.1); (case side3 => repeat (first | exact (Kd.N_reads' HO_7.out).2.2 | (with_reducible refine Kd.C_alloc ?_ _) | (with_reducible refine Kd.C_drewN ?_ _) | (with_reducible refine Kd.C_drew ?_))); (case side4 => exact (Kd.N_reads' HO_7.out).2.1); rintro e w37 ⟨rfl, hb⟩; refine ⟨_, rfl, ?_⟩; have n0_ := Aside0.mk (Kd.V_below (by (with_reducible repeat (first | apply Kd.V_alloc | apply Kd.V_drewN | apply Kd.V_drew)); exact HO_0.out) hb); have n1_ := Aside0.mk (Kd.R_below (by (with_reducible repeat (first | apply Kd.R_alloc | apply Kd.R_drewN | apply Kd.R_drew)); exact HO_6.out) hb); have n2_ := Aside0.mk (Kd.N_below (by (with_reducible repeat (first | apply Kd.N_alloc | apply Kd.N_drewN | apply Kd.N_drew)); exact HO_7.out) hb); have n3_ := Aside0.mk (Kd.R_below (by (with_reducible repeat (first | apply Kd.R_alloc | apply Kd.R_drewN | apply Kd.R_drew)); exact HO_8.out) hb); have n4_ := Aside0.mk (Kd.N_below (by (with_reducible repeat (first | apply Kd.N_alloc | apply Kd.N_drewN | apply Kd.N_drew)); exact HO188.out) hb); have n5_ := Aside0.mk (Kd.R_below (by (with_reducible repeat (first | apply Kd.R_alloc | apply Kd.R_drewN | apply Kd.R_drew)); exact HO190.out) hb); have n6_ := Aside0.mk (below_step (by repeat (first | (with_reducible first | exact HB.out | apply below_alloc | apply pw_below_drewN | apply below_drew1) | exact HB.out)) hb); clear HO_0; clear HO_6; clear HO_7; clear HO_8; clear HO188; clear HO190; clear HB; have HO_0 := n0_; have HO_6 := n1_; have HO_7 := n2_; have HO_8 := n3_; have HO188 := n4_; have HO190 := n5_; have HB := n6_; clear n0_ n1_ n2_ n3_ n4_ n5_ n6_; (try clear hb); (try clear hb2); (try clear hk); (try clear hi); obtain ⟨Ao38, co38, eo38⟩ := Kd.R_slice HO190.out; subst eo38; obtain ⟨Ao39, co39, eo39⟩ := Kd.R_slice HO_8.out; subst eo39) | (go_at_call 31; (with_reducible refine (waggonerref05_Numbers.calls k1 _ _ t186 _ _ x8_1 false _ ?side1 ?side2 ?side3 ?side4 A30.out).mono ?_); (case side1 => repeat (first | exact (Kd.R_reads' HO190.out).2.2 | (with_reducible refine Kd.C_alloc ?_ _) | (with_reducible refine Kd.C_drewN ?_ _) | (with_reducible refine Kd.C_drew ?_))); (case side2 => exact (Kd.R_reads' HO190.out).2.1); (case side3 => repeat (first | exact (Kd.R_reads' HO_8.out).2.2 | (with_reducible refine Kd.C_alloc ?_ _) | (with_reducible refine Kd.C_drewN ?_ _) | (with_reducible refine Kd.C_drew ?_))); (case side4 => exact (Kd.R_reads' HO_8.out).2.1); rintro e w' ⟨rfl, ⟨nd, rfl⟩⟩))
        go_meet
        case rel => exact ⟨_, (true), (by first | rfl | (simp; done) | (simp [*]; done)), H', ⟨by have := HK1.out; first | omega | exact Nat.le_refl _⟩, ⟨by (with_reducible repeat (first | apply Kd.R_alloc | apply Kd.R_drewN | apply Kd.R_drew)); exact HO_6.out⟩, ⟨by (with_reducible repeat (first | apply Kd.N_alloc | apply Kd.N_drewN | apply Kd.N_drew)); exact Kd.N_mono HO_7.out (fun _ hk => ⟨hk.1.1.1, ⟨hk.1.1.2.1, ⟨hk.1.1.2.2, hk.1.2⟩⟩⟩)⟩, ⟨by (with_reducible repeat (first | apply Kd.R_alloc | apply Kd.R_drewN | apply Kd.R_drew)); exact Kd.R_mono HO_8.out (fun _ hk => hk.1)⟩, ⟨by (with_reducible repeat (first | apply Kd.N_alloc | apply Kd.N_drewN | apply Kd.N_drew)); exact Kd.N_mono HO188.out (fun _ hk => ⟨hk.1, ⟨hk.2.2.1, ⟨hk.2.2.2.1, hk.2.2.2.2⟩⟩⟩)⟩, ⟨by repeat (first | (with_reducible first | exact HB.out | apply below_alloc | apply pw_below_drewN | apply below_drew1) | exact HB.out)⟩⟩
      ·replace c29 := Bool.eq_false_iff.mpr c29
       subst c29
       have H1 : (waggonerlaw05_RecordAll.j1 k1 a1 t168 x6_1 x7_1 x8_1 x9_1 t185 (x7_1.length : Int) true) = some true := by rw [if_neg (show ¬ (false = true) by decide)] at H <;> exact H
       clear H
       have H := H1
       clear H1
       have H' := Aside0.mk H
       clear H
       obtain ⟨Ao40, co40, eo40⟩ := Kd.N_slice HO188.out
       subst eo40
       go_wp2_with (first | ((with_reducible refine gate_callee (f := 30) rfl ?_); refine goesL_ (some 74) rfl rfl Try.func30 (by kernel_rfl) rfl #[.slice Ao40 t185.length co40, .slice Ao27 x7_1.length co27] rfl (by (try simp only [List.map_toArray, List.map_cons, List.map_nil]); first | done | rfl | (simp only [List.length_drop, List.length_take]; rfl)) ?_; (with_reducible refine (waggonerref05_All.calls k1 _ _ t185 _ _ x7_1 false _ ?side1 ?side2 ?side3 ?side4 A28.out).mono ?_); (case side1 => repeat (first | exact (Kd.N_reads' HO188.out).2.2 | (with_reducible refine Kd.C_alloc ?_ _) | (with_reducible refine Kd.C_drewN ?_ _) | (with_reducible refine Kd.C_drew ?_))); (case side2 => exact (Kd.N_reads' HO188.out).2.1); (case side3 => repeat (first | exact (Kd.N_reads' HO_7.out).2.2 | (with_reducible refine Kd.C_alloc ?_ _) | (with_reducible refine Kd.C_drewN ?_ _) | (with_reducible refine Kd.C_drew ?_))); (case side4 => exact (Kd.N_reads' HO_7.out).2.1); rintro e w41 ⟨rfl, hb⟩; refine ⟨_, rfl, ?_⟩; have n0_ := Aside0.mk (Kd.V_below (by (with_reducible repeat (first | apply Kd.V_alloc | apply Kd.V_drewN | apply Kd.V_drew)); exact HO_0.out) hb); have n1_ := Aside0.mk (Kd.R_below (by (with_reducible repeat (first | apply Kd.R_alloc | apply Kd.R_drewN | apply Kd.R_drew)); exact HO_6.out) hb); have n2_ := Aside0.mk (Kd.N_below (by (with_reducible repeat (first | apply Kd.N_alloc | apply Kd.N_drewN | apply Kd.N_drew)); exact HO_7.out) hb); have n3_ := Aside0.mk (Kd.R_below (by (with_reducible repeat (first | apply Kd.R_alloc | apply Kd.R_drewN | apply Kd.R_drew)); exact HO_8.out) hb); have n4_ := Aside0.mk (Kd.N_below (by (with_reducible repeat (first | apply Kd.N_alloc | apply Kd.N_drewN | apply Kd.N_drew)); exact HO188.out) hb); have n5_ := Aside0.mk (Kd.R_below (by (with_reducible repeat (first | apply Kd.R_alloc | apply Kd.R_drewN | apply Kd.R_drew)); exact HO190.out) hb); have n6_ := Aside0.mk (below_step (by repeat (first | (with_reducible first | exact HB.out | apply below_alloc | apply pw_below_drewN | apply below_drew1) | exact HB.out)) hb); clear HO_0; clear HO_6; clear HO_7; clear HO_8; clear HO188; clear HO190; clear HB; have HO_0 := n0_; have HO_6 := n1_; have HO_7 := n2_; have HO_8 := n3_; have HO188 := n4_; have HO190 := n5_; have HB := n6_; clear n0_ n1_ n2_ n3_ n4_ n5_ n6_; (try clear hb); (try clear hb2); (try clear hk); (try clear hi)))
       go_meet
       case rel => exact ⟨_, (true), (by first | rfl | (simp; done) | (simp [*]; done)), H', ⟨by have := HK1.out; first | omega | exact Nat.le_refl _⟩, ⟨by (with_reducible repeat (first | apply Kd.R_alloc | apply Kd.R_drewN | apply Kd.R_drew)); exact HO_6.out⟩, ⟨by (with_reducible repeat (first | apply Kd.N_alloc | apply Kd.N_drewN | apply Kd.N_drew)); exact Kd.N_mono HO_7.out (fun _ hk => ⟨hk.1.1.1, ⟨hk.1.1.2.1, ⟨hk.1.1.2.2, hk.1.2⟩⟩⟩)⟩, ⟨by (with_reducible repeat (first | apply Kd.R_alloc | apply Kd.R_drewN | apply Kd.R_drew)); exact Kd.R_mono HO_8.out (fun _ hk => hk.1)⟩, ⟨by (with_reducible repeat (first | apply Kd.N_alloc | apply Kd.N_drewN | apply Kd.N_drew)); exact Kd.N_mono HO188.out (fun _ hk => ⟨hk.1, ⟨hk.2.2.1, ⟨hk.2.2.2.1, hk.2.2.2.2⟩⟩⟩)⟩, ⟨by repeat (first | (with_reducible first | exact HB.out | apply below_alloc | apply pw_below_drewN | apply below_drew1) | exact HB.out)⟩⟩
     case rest =>
      clear HC24
      try clear c1
      try clear p1
      try clear q1
      try clear hx1
      try clear c2
      try clear p2
      try clear c3
      try clear c4
      try clear c4b0
      try clear c4b1
      try clear c6
      try clear p6
      try clear c7
      try clear c7b0
      try clear c8
      try clear c8b0
      try clear c10
      try clear c10b0
      try clear c10b1
      try clear c12
      try clear c12b0
      try clear c12b1
      try clear c13
      try clear c14
      try clear c15
      try clear c16
      try clear p16
      try clear q16
      try clear hx16
      try clear c17
      try clear p17
      try clear q17
      try clear hx17
      try clear c18
      try clear c19
      try clear c28
      try clear c29
      try clear c30
      try clear c31
      try clear hx169_0
      try clear hx169_1
      try clear hx169_2
      try clear hx174_0
      try clear hx174_1
      try clear hx174_2
      try clear hx175_0
      try clear hx175_1
      try clear hx175_2
      try clear p169
      try clear p174
      try clear p175
      try clear p2
      try clear q169
      try clear q174
      try clear q175
      obtain ⟨kq, x85_23, rfl, HA, HJ23, HO_6, HO_7, HO_8, HO_13, HB⟩ := hcut
      cases kq with
      | zero => exact absurd HA.out (by simp [waggonerlaw05_RecordAll.j1])
      | succ kj23 =>
       have H := HA.out
       clear HA
       simp only [waggonerlaw05_RecordAll.j1] at H
       by_cases c42 : x85_23 = true
       ·subst c42
        have H1 : (if t168 = true then (if (x7_1.length : Int) = 0 then (some ((t185.length : Int) == 0)) else (some false)) else (some false)) = some true := by rw [if_pos rfl] at H <;> exact H
        clear H
        have H := H1
        clear H1
        by_cases c43 : t168 = true
        ·subst c43
         have H1 : (if (x7_1.length : Int) = 0 then (some ((t185.length : Int) == 0)) else (some false)) = some true := by rw [if_pos rfl] at H <;> exact H
         clear H
         have H := H1
         clear H1
         by_cases c44 : (x7_1.length : Int) = 0
         ·rw [if_pos c44] at H
          have c44b0 : ((x7_1.length : Int) == 0) = true := beq_iff_eq.mpr c44
          have c44b1 : ((x7_1.length : Int) != 0) = false := bne_eq_false_iff_eq.mpr c44
          clear c44
          (have HRT := Aside0.mk (Option.some.inj H); clear H)
          obtain ⟨Ao45, co45, eo45⟩ := Kd.N_slice HO_13.out
          subst eo45
          go_wp2
          go_ret
          exact ⟨by first | rfl | (exact congrArg (fun z_ => Ending.returned (Value.bool z_)) HRT.out) | (rw [HRT.out]; done) | (simp [errW_none, errW_some] <;> rfl) | (simp [*, errW_none, errW_some] <;> rfl), by repeat (first | (with_reducible first | exact HB.out | apply below_alloc | apply pw_below_drewN | apply below_drew1) | exact HB.out)⟩
         ·rw [if_neg c44] at H
          first | exact absurd H (by simp; done) | skip
        ·replace c43 := Bool.eq_false_iff.mpr c43
         subst c43
         have H1 : (some false) = some true := by rw [if_neg (show ¬ (false = true) by decide)] at H <;> exact H
         exact absurd H1 (by simp)
       ·replace c42 := Bool.eq_false_iff.mpr c42
        subst c42
        have H1 : (if x9_1 = 0 then (none) else (if 0 ≤ (wrap64 ((wrap64 ((x6_1.length : Int) - 1)) - (Int.tmod (wrap64 (a1)) x9_1))) then (if (wrap64 ((wrap64 ((x6_1.length : Int) - 1)) - (Int.tmod (wrap64 (a1)) x9_1))) ≤ (x6_1.length : Int) then ((record_Scan.f (x6_1.take ((wrap64 ((wrap64 ((x6_1.length : Int) - 1)) - (Int.tmod (wrap64 (a1)) x9_1))) : Int).toNat)).bind fun bt198 => (if t168 = true then (if 0 ≤ (wrap64 ((x7_1.length : Int) - 1)) then (if (wrap64 ((x7_1.length : Int) - 1)) ≤ (x7_1.length : Int) then ((waggonerref05_All.f kj23 bt198.1 (x7_1.take ((wrap64 ((x7_1.length : Int) - 1)) : Int).toNat)).bind fun t209 => (if t209 = true then (if (wrap64 ((x7_1.length : Int) - 1)) ≤ (x8_1.length : Int) then ((waggonerref05_Numbers.f kj23 bt198.2 (x8_1.take ((wrap64 ((x7_1.length : Int) - 1)) : Int).toNat)).bind fun t215 => (some t215)) else (none)) else (some false))) else (none)) else (none)) else (some false))) else (none)) else (none))) = some true := by rw [if_neg (show ¬ (false = true) by decide)] at H <;> exact H
        clear H
        have H := H1
        clear H1
        by_cases c46 : x9_1 = 0
        ·rw [if_pos c46] at H
         exact absurd H (by simp)
        ·rw [if_neg c46] at H
         have c46b0 : (x9_1 == 0) = false := beq_eq_false_iff_ne.mpr c46
         have c46b1 : (x9_1 != 0) = true := bne_iff_ne.mpr c46
         obtain ⟨ji47, hji47⟩ : ∃ j_ : Int, (wrap64 ((wrap64 ((x6_1.length : Int) - 1)) - (Int.tmod (wrap64 (a1)) x9_1))) = j_ := ⟨_, rfl⟩
         replace H : (if 0 ≤ (ji47) then (if (ji47) ≤ (x6_1.length : Int) then ((record_Scan.f (x6_1.take ((ji47) : Int).toNat)).bind fun bt198 => (if t168 = true then (if 0 ≤ (wrap64 ((x7_1.length : Int) - 1)) then (if (wrap64 ((x7_1.length : Int) - 1)) ≤ (x7_1.length : Int) then ((waggonerref05_All.f kj23 bt198.1 (x7_1.take ((wrap64 ((x7_1.length : Int) - 1)) : Int).toNat)).bind fun t209 => (if t209 = true then (if (wrap64 ((x7_1.length : Int) - 1)) ≤ (x8_1.length : Int) then ((waggonerref05_Numbers.f kj23 bt198.2 (x8_1.take ((wrap64 ((x7_1.length : Int) - 1)) : Int).toNat)).bind fun t215 => (some t215)) else (none)) else (some false))) else (none)) else (none)) else (some false))) else (none)) else (none)) = some true := by first | (rw [hji47] at H; exact H) | (simp only [hji47] at H ⊢; exact H)
         have hji47w : (IntKind.i64.wrap ((wrap64 ((x6_1.length : Int) - 1)) - (Int.tmod (wrap64 (a1)) x9_1))) = ji47 := (i64_w _).trans hji47
         by_cases c48 : 0 ≤ (ji47)
         ·rw [if_pos c48] at H
          have c48b0 := eq_true c48
          have c48b1 : decide (0 ≤ (ji47)) = true := decide_eq_true c48
          clear c48
          by_cases c49 : (ji47) ≤ (x6_1.length : Int)
          ·rw [if_pos c49] at H
           have c49b0 := eq_true c49
           have c49b1 : decide ((ji47) ≤ (x6_1.length : Int)) = true := decide_eq_true c49
           clear c49
           obtain ⟨y193, hy193⟩ : ∃ y_ : List Int, y_ = (x6_1.take ((ji47) : Int).toNat) := ⟨_, rfl⟩
           replace H : ((record_Scan.f y193).bind fun bt198 => (if t168 = true then (if 0 ≤ (wrap64 ((x7_1.length : Int) - 1)) then (if (wrap64 ((x7_1.length : Int) - 1)) ≤ (x7_1.length : Int) then ((waggonerref05_All.f kj23 bt198.1 (x7_1.take ((wrap64 ((x7_1.length : Int) - 1)) : Int).toNat)).bind fun t209 => (if t209 = true then (if (wrap64 ((x7_1.length : Int) - 1)) ≤ (x8_1.length : Int) then ((waggonerref05_Numbers.f kj23 bt198.2 (x8_1.take ((wrap64 ((x7_1.length : Int) - 1)) : Int).toNat)).bind fun t215 => (some t215)) else (none)) else (some false))) else (none)) else (none)) else (some false))) = some true := by first | (rw [hy193]; with_reducible exact H) | (have H2_ := (Option.bind_some _ _).symm.trans H; rw [hy193]; with_reducible exact H2_) | (have H2_ := (Option.bind_some _ _).symm.trans H; with_reducible exact H2_) | with_reducible exact H | (rw [hy193]; exact H) | exact H
           have Ny193 := Aside0.mk hy193
           clear hy193
           replace H := Option.bind_eq_some_iff.mp H
           obtain ⟨⟨t198, t199⟩, A500, H⟩ := H
           replace H : (if t168 = true then (if 0 ≤ (wrap64 ((x7_1.length : Int) - 1)) then (if (wrap64 ((x7_1.length : Int) - 1)) ≤ (x7_1.length : Int) then ((waggonerref05_All.f kj23 t198 (x7_1.take ((wrap64 ((x7_1.length : Int) - 1)) : Int).toNat)).bind fun t209 => (if t209 = true then (if (wrap64 ((x7_1.length : Int) - 1)) ≤ (x8_1.length : Int) then ((waggonerref05_Numbers.f kj23 t199 (x8_1.take ((wrap64 ((x7_1.length : Int) - 1)) : Int).toNat)).bind fun t215 => (some t215)) else (none)) else (some false))) else (none)) else (none)) else (some false)) = some true := H
           have A50 := Aside0.mk A500
           clear A500
           by_cases c51 : t168 = true
           ·subst c51
            have H1 : (if 0 ≤ (wrap64 ((x7_1.length : Int) - 1)) then (if (wrap64 ((x7_1.length : Int) - 1)) ≤ (x7_1.length : Int) then ((waggonerref05_All.f kj23 t198 (x7_1.take ((wrap64 ((x7_1.length : Int) - 1)) : Int).toNat)).bind fun t209 => (if t209 = true then (if (wrap64 ((x7_1.length : Int) - 1)) ≤ (x8_1.length : Int) then ((waggonerref05_Numbers.f kj23 t199 (x8_1.take ((wrap64 ((x7_1.length : Int) - 1)) : Int).toNat)).bind fun t215 => (some t215)) else (none)) else (some false))) else (none)) else (none)) = some true := by rw [if_pos rfl] at H <;> exact H
            clear H
            have H := H1
            clear H1
            obtain ⟨ji52, hji52⟩ : ∃ j_ : Int, (wrap64 ((x7_1.length : Int) - 1)) = j_ := ⟨_, rfl⟩
            replace H : (if 0 ≤ (ji52) then (if (ji52) ≤ (x7_1.length : Int) then ((waggonerref05_All.f kj23 t198 (x7_1.take ((ji52) : Int).toNat)).bind fun t209 => (if t209 = true then (if (ji52) ≤ (x8_1.length : Int) then ((waggonerref05_Numbers.f kj23 t199 (x8_1.take ((ji52) : Int).toNat)).bind fun t215 => (some t215)) else (none)) else (some false))) else (none)) else (none)) = some true := by first | (rw [hji52] at H; exact H) | (simp only [hji52] at H ⊢; exact H)
            (try rw [hji52] at A50)
            have hji52w : (IntKind.i64.wrap ((x7_1.length : Int) - 1)) = ji52 := (i64_w _).trans hji52
            by_cases c53 : 0 ≤ (ji52)
            ·rw [if_pos c53] at H
             have c53b0 := eq_true c53
             have c53b1 : decide (0 ≤ (ji52)) = true := decide_eq_true c53
             clear c53
             by_cases c54 : (ji52) ≤ (x7_1.length : Int)
             ·rw [if_pos c54] at H
              have c54b0 := eq_true c54
              have c54b1 : decide ((ji52) ≤ (x7_1.length : Int)) = true := decide_eq_true c54
              clear c54
              obtain ⟨y204, hy204⟩ : ∃ y_ : List (S25), y_ = (x7_1.take ((ji52) : Int).toNat) := ⟨_, rfl⟩
              replace H : ((waggonerref05_All.f kj23 t198 y204).bind fun t209 => (if t209 = true then (if (ji52) ≤ (x8_1.length : Int) then ((waggonerref05_Numbers.f kj23 t199 (x8_1.take ((ji52) : Int).toNat)).bind fun t215 => (some t215)) else (none)) else (some false))) = some true := by first | (rw [hy204]; with_reducible exact H) | (have H2_ := (Option.bind_some _ _).symm.trans H; rw [hy204]; with_reducible exact H2_) | (have H2_ := (Option.bind_some _ _).symm.trans H; with_reducible exact H2_) | with_reducible exact H | (rw [hy204]; exact H) | exact H
              have Ny204 := Aside0.mk hy204
              clear hy204
              replace H := Option.bind_eq_some_iff.mp H
              obtain ⟨t209, A550, H⟩ := H
              replace H : (if t209 = true then (if (ji52) ≤ (x8_1.length : Int) then ((waggonerref05_Numbers.f kj23 t199 (x8_1.take ((ji52) : Int).toNat)).bind fun t215 => (some t215)) else (none)) else (some false)) = some true := H
              have A55 := Aside0.mk A550
              clear A550
              by_cases c56 : t209 = true
              ·subst c56
               have H1 : (if (ji52) ≤ (x8_1.length : Int) then ((waggonerref05_Numbers.f kj23 t199 (x8_1.take ((ji52) : Int).toNat)).bind fun t215 => (some t215)) else (none)) = some true := by rw [if_pos rfl] at H <;> exact H
               clear H
               have H := H1
               clear H1
               have c57b0 := eq_true (of_decide_eq_true (by first | (with_reducible assumption) | assumption) : 0 ≤ (ji52))
               by_cases c58 : (ji52) ≤ (x8_1.length : Int)
               ·rw [if_pos c58] at H
                have c58b0 := eq_true c58
                have c58b1 : decide ((ji52) ≤ (x8_1.length : Int)) = true := decide_eq_true c58
                clear c58
                obtain ⟨y210, hy210⟩ : ∃ y_ : List Int, y_ = (x8_1.take ((ji52) : Int).toNat) := ⟨_, rfl⟩
                replace H : ((waggonerref05_Numbers.f kj23 t199 y210).bind fun t215 => (some t215)) = some true := by first | (rw [hy210]; with_reducible exact H) | (have H2_ := (Option.bind_some _ _).symm.trans H; rw [hy210]; with_reducible exact H2_) | (have H2_ := (Option.bind_some _ _).symm.trans H; with_reducible exact H2_) | with_reducible exact H | (rw [hy210]; exact H) | exact H
                have Ny210 := Aside0.mk hy210
                clear hy210
                replace H := Option.bind_eq_some_iff.mp H
                obtain ⟨t215, A590, H⟩ := H
                replace H : (some t215) = some true := H
                have A59 := Aside0.mk A590
                clear A590
                (have HRT := Aside0.mk (Option.some.inj H); clear H)
                have q60 : ((ji47) : Int) ≤ ((x6_1.length : Int) : Int) := of_decide_eq_true (by first | (with_reducible assumption) | assumption)
                obtain ⟨i060, hi060, _, hsz60, _⟩ := info_parts info5
                have hroom60 : x6_1.length ≤ co25 := (Kd.R_reads' HO_6.out).2.1
                have hC60 : Kd.F (Kd.int .u8) _ _ Ao25 x6_1.length x6_1 := (Kd.V_at (base := w.heap.size) (Kd.V_mono (ok' := (fun k_ => ((((P0_ k_ ∨ w.heap.size ≤ k_) ∧ some k_ ≠ (.slice Ao27 x7_1.length co27 : Value).ownBlock) ∧ some k_ ≠ (u8 : Value).ownBlock) ∧ some k_ ≠ (v187 : Value).ownBlock))) (Kd.R_V (Kd.R_apart' (Kd.R_apart' (Kd.R_apart' (HO_6.out) (Kd.N_typed HO_7.out) (by decide)) (Kd.R_typed HO_8.out) (by decide)) (Kd.N_typed HO_13.out) (by decide))) (fun k_ hk => ⟨⟨⟨(.inr (hk.1.1.1)), hk.1.1.2⟩, hk.1.2⟩, hk.2⟩))).2.2
                have hcut60 := cut_to (P := Try.prog) 23 5 .i64 Try.underlying23 hi060 Ao25 x6_1.length co25 (ji47) (of_decide_eq_true (by first | (with_reducible assumption) | assumption)) q60 hroom60
                have hr60 := Kd.F_take (m := ((ji47) : Int).toNat) hC60 (by omega)
                have hy60 : y193.length = ((ji47) : Int).toNat := (by rw [Ny193.out, List.length_take]; omega)
                rw [← Ny193.out] at hr60
                rw [← hy60] at hcut60
                have HO197 := Aside0.mk (show Kd.V (Kd.int .u8) 5 _ w.heap.size _ (.slice Ao25 y193.length co25) y193 from Kd.V_mk (by omega) hr60)
                have HC197 := Aside0.mk (show y193.length ≤ co25 from by omega)
                clear hr60 hC60 hroom60 hi060 hsz60
                have KY60 := Aside0.mk hy60
                clear hy60
                replace q60 := eq_true q60
                go_wp2_with (first | ((with_reducible refine gate_callee (f := 28) rfl ?_); refine goesL_ (some 107) rfl rfl Try.func28 (by kernel_rfl) rfl #[.slice Ao25 y193.length co25] rfl (by (try simp only [List.map_toArray, List.map_cons, List.map_nil]); first | done | rfl | (simp only [List.length_drop, List.length_take]; rfl)) ?_; (with_reducible refine (record_Scan.calls _ _ y193 t198 t199 _ ?side1 ?side2 A50.out).mono ?_); (case side1 => repeat (first | exact (Kd.V_reads' HO197.out).2.2 | (with_reducible refine Kd.C_alloc ?_ _) | (with_reducible refine Kd.C_drewN ?_ _) | (with_reducible refine Kd.C_drew ?_))); (case side2 => exact (Kd.V_reads' HO197.out).2.1); rintro e w61 ⟨v200, v202, rfl, ho0, ho1, hb⟩; refine ⟨_, rfl, ?_⟩; have n0_ := Aside0.mk (Kd.R_below (by (with_reducible repeat (first | apply Kd.R_alloc | apply Kd.R_drewN | apply Kd.R_drew)); exact HO_6.out) hb); have n1_ := Aside0.mk (Kd.N_mono (Kd.N_told (Kd.N_told (Kd.N_old (by (with_reducible repeat (first | apply Kd.N_alloc | apply Kd.N_drewN | apply Kd.N_drew)); exact HO_7.out) hb) (Kd.N_base (Kd.S_N ho0))) (Kd.R_base ho1)) (fun _ h_ => h_.1)); have n2_ := Aside0.mk (Kd.R_elder' (by (with_reducible repeat (first | apply Kd.R_alloc | apply Kd.R_drewN | apply Kd.R_drew)); exact HO_8.out) (Kd.R_base ho1) hb); have n3_ := Aside0.mk (Kd.N_mono (Kd.N_told (Kd.N_told (Kd.N_old (by (with_reducible repeat (first | apply Kd.N_alloc | apply Kd.N_drewN | apply Kd.N_drew)); exact HO_13.out) hb) (Kd.N_base (Kd.S_N ho0))) (Kd.R_base ho1)) (fun _ h_ => h_.1)); have n4_ := Aside0.mk (Kd.V_mono (Kd.V_told (Kd.V_told (Kd.V_old (by (with_reducible repeat (first | apply Kd.V_alloc | apply Kd.V_drewN | apply Kd.V_drew)); exact HO197.out) hb) (Kd.N_base (Kd.S_N ho0))) (Kd.R_base ho1)) (fun _ h_ => h_.1)); have n5_ := Aside0.mk (Kd.N_lower (Kd.N_mono (ok' := fun k_ => (P0_ k_ ∨ w.heap.size ≤ k_) ∧ some k_ ≠ (v202 : Value).ownBlock ∧ some k_ ≠ (.slice Ao25 x6_1.length co25 : Value).ownBlock ∧ some k_ ≠ (.slice Ao27 x7_1.length co27 : Value).ownBlock ∧ some k_ ≠ (u8 : Value).ownBlock ∧ some k_ ≠ (v187 : Value).ownBlock) (Kd.S_N (Kd.S_bound (Kd.S_apart' ho0 (Kd.R_typed ho1) (by decide)))) (fun k_ hk_ => ⟨(.inr (Nat.le_trans (below_size (by repeat (first | (with_reducible first | exact HB.out | apply below_alloc | apply pw_below_drewN | apply below_drew1) | exact HB.out))) hk_.2.1)), hk_.1.2, (Kd.fresh' (Kd.R_lt (by (with_reducible repeat (first | apply Kd.R_alloc | apply Kd.R_drewN | apply Kd.R_drew)); exact HO_6.out)) k_ hk_.2.1), (Kd.fresh' (Kd.N_lt (by (with_reducible repeat (first | apply Kd.N_alloc | apply Kd.N_drewN | apply Kd.N_drew)); exact HO_7.out)) k_ hk_.2.1), (Kd.fresh' (Kd.R_lt (by (with_reducible repeat (first | apply Kd.R_alloc | apply Kd.R_drewN | apply Kd.R_drew)); exact HO_8.out)) k_ hk_.2.1), (Kd.fresh' (Kd.N_lt (by (with_reducible repeat (first | apply Kd.N_alloc | apply Kd.N_drewN | apply Kd.N_drew)); exact HO_13.out)) k_ hk_.2.1)⟩)) (below_size (by repeat (first | (with_reducible first | exact HB.out | apply below_alloc | apply pw_below_drewN | apply below_drew1) | exact HB.out)))); have n6_ := Aside0.mk (Kd.R_lower (Kd.R_new' (Kd.R_newM (M := fun k_ => (w.heap.size ≤ k_)) ho1 (below_size (by repeat (first | (with_reducible first | exact HB.out | apply below_alloc | apply pw_below_drewN | apply below_drew1) | exact HB.out))) (fun k_ h_ => h_)) (Kd.R_lt (by (with_reducible repeat (first | apply Kd.R_alloc | apply Kd.R_drewN | apply Kd.R_drew)); exact HO_8.out))) (below_size (by repeat (first | (with_reducible first | exact HB.out | apply below_alloc | apply pw_below_drewN | apply below_drew1) | exact HB.out)))); have n7_ := Aside0.mk (below_step (by repeat (first | (with_reducible first | exact HB.out | apply below_alloc | apply pw_below_drewN | apply below_drew1) | exact HB.out)) hb); clear HO_6; clear HO_7; clear HO_8; clear HO_13; clear HO197; clear HB; have HO_6 := n0_; have HO_7 := n1_; have HO_8 := n2_; have HO_13 := n3_; have HO197 := n4_; have HO201 := n5_; have HO203 := n6_; have HB := n7_; clear n0_ n1_ n2_ n3_ n4_ n5_ n6_ n7_; (try clear hb); (try clear hb2); (try clear hk); (try clear hi); (try clear ho0); (try clear ho1); have q62 : ((ji52) : Int) ≤ ((x7_1.length : Int) : Int) := of_decide_eq_true (by first | (with_reducible assumption) | assumption); obtain ⟨i062, hi062, _, hsz62, _⟩ := info_parts info25; have hroom62 : x7_1.length ≤ co27 := (Kd.N_reads' HO_7.out).2.1; have hC62 : Kd.F k25 _ _ Ao27 x7_1.length x7_1 := (Kd.V_at (base := w.heap.size) (Kd.N_V HO_7.out)).2.2; have hcut62 := cut_to (P := Try.prog) 35 25 .i64 Try.underlying35 hi062 Ao27 x7_1.length co27 (ji52) (of_decide_eq_true (by first | (with_reducible assumption) | assumption)) q62 hroom62; have hr62 := Kd.F_take (m := ((ji52) : Int).toNat) hC62 (by omega); have hy62 : y204.length = ((ji52) : Int).toNat := (by rw [Ny204.out, List.length_take]; omega); rw [← Ny204.out] at hr62; rw [← hy62] at hcut62; have HO208 := Aside0.mk (show Kd.V k25 25 _ w.heap.size _ (.slice Ao27 y204.length co27) y204 from Kd.V_mk (by omega) hr62); have HC208 := Aside0.mk (show y204.length ≤ co27 from by omega); clear hr62 hC62 hroom62 hi062 hsz62; have KY62 := Aside0.mk hy62; clear hy62; replace q62 := eq_true q62; obtain ⟨Ao63, co63, eo63⟩ := Kd.N_slice HO201.out; subst eo63) | (go_at_call 30; (with_reducible refine (waggonerref05_All.calls kj23 _ _ t198 _ _ y204 true _ ?side1 ?side2 ?side3 ?side4 A55.out).mono ?_); (case side1 => repeat (first | exact (Kd.N_reads' HO201.out).2.2 | (with_reducible refine Kd.C_alloc ?_ _) | (with_reducible refine Kd.C_drewN ?_ _) | (with_reducible refine Kd.C_drew ?_))); (case side2 => exact (Kd.N_reads' HO201.out).2.1); (case side3 => repeat (first | exact (Kd.V_reads' HO208.out).2.2 | (with_reducible refine Kd.C_alloc ?_ _) | (with_reducible refine Kd.C_drewN ?_ _) | (with_reducible refine Kd.C_drew ?_))); (case side4 => exact (Kd.V_reads' HO208.out).2.1); rintro e w64 ⟨rfl, hb⟩; have n0_ := Aside0.mk (Kd.R_below (by (with_reducible repeat (first | apply Kd.R_alloc | apply Kd.R_drewN | apply Kd.R_drew)); exact HO_6.out) hb); have n1_ := Aside0.mk (Kd.N_below (by (with_reducible repeat (first | apply Kd.N_alloc | apply Kd.N_drewN | apply Kd.N_drew)); exact HO_7.out) hb); have n2_ := Aside0.mk (Kd.R_below (by (with_reducible repeat (first | apply Kd.R_alloc | apply Kd.R_drewN | apply Kd.R_drew)); exact HO_8.out) hb); have n3_ := Aside0.mk (Kd.N_below (by (with_reducible repeat (first | apply Kd.N_alloc | apply Kd.N_drewN | apply Kd.N_drew)); exact HO_13.out) hb); have n4_ := Aside0.mk (Kd.V_below (by (with_reducible repeat (first | apply Kd.V_alloc | apply Kd.V_drewN | apply Kd.V_drew)); exact HO197.out) hb); have n5_ := Aside0.mk (Kd.N_below (by (with_reducible repeat (first | apply Kd.N_alloc | apply Kd.N_drewN | apply Kd.N_drew)); exact HO201.out) hb); have n6_ := Aside0.mk (Kd.R_below (by (with_reducible repeat (first | apply Kd.R_alloc | apply Kd.R_drewN | apply Kd.R_drew)); exact HO203.out) hb); have n7_ := Aside0.mk (Kd.V_below (by (with_reducible repeat (first | apply Kd.V_alloc | apply Kd.V_drewN | apply Kd.V_drew)); exact HO208.out) hb); have n8_ := Aside0.mk (below_step (by repeat (first | (with_reducible first | exact HB.out | apply below_alloc | apply pw_below_drewN | apply below_drew1) | exact HB.out)) hb); clear HO_6; clear HO_7; clear HO_8; clear HO_13; clear HO197; clear HO201; clear HO203; clear HO208; clear HB; have HO_6 := n0_; have HO_7 := n1_; have HO_8 := n2_; have HO_13 := n3_; have HO197 := n4_; have HO201 := n5_; have HO203 := n6_; have HO208 := n7_; have HB := n8_; clear n0_ n1_ n2_ n3_ n4_ n5_ n6_ n7_ n8_; (try clear hb); (try clear hb2); (try clear hk); (try clear hi); obtain ⟨Ao66, co66, eo66⟩ := Kd.R_slice HO_8.out; subst eo66; have q65 : ((ji52) : Int) ≤ ((x8_1.length : Int) : Int) := of_decide_eq_true (by first | (with_reducible assumption) | assumption); obtain ⟨i065, hi065, _, hsz65, _⟩ := info_parts info3; have hroom65 : x8_1.length ≤ co66 := (Kd.R_reads' HO_8.out).2.1; have hC65 : Kd.F (Kd.int .i64) _ _ Ao66 x8_1.length x8_1 := (Kd.V_at (base := w.heap.size) (Kd.V_mono (ok' := (fun k_ => ((((((P0_ k_ ∨ w.heap.size ≤ k_) ∧ some k_ ≠ (v202 : Value).ownBlock) ∧ some k_ ≠ (.slice Ao25 x6_1.length co25 : Value).ownBlock) ∧ some k_ ≠ (.slice Ao27 x7_1.length co27 : Value).ownBlock) ∧ some k_ ≠ (v187 : Value).ownBlock) ∧ some k_ ≠ (.slice Ao63 t198.length co63 : Value).ownBlock))) (Kd.R_V (Kd.R_apart' (Kd.R_apart' (Kd.R_apart' (Kd.R_apart' (HO_8.out) (Kd.R_typed HO_6.out) (by decide)) (Kd.N_typed HO_7.out) (by decide)) (Kd.N_typed HO_13.out) (by decide)) (Kd.N_typed HO201.out) (by decide))) (fun k_ hk => ⟨⟨⟨⟨⟨(.inr (hk.1.1.1.1.1)), hk.1.1.1.1.2⟩, hk.1.1.1.2⟩, hk.1.1.2⟩, hk.1.2⟩, hk.2⟩))).2.2; have hcut65 := cut_to (P := Try.prog) 36 3 .i64 Try.underlying36 hi065 Ao66 x8_1.length co66 (ji52) (of_decide_eq_true (by first | (with_reducible assumption) | assumption)) q65 hroom65; have hr65 := Kd.F_take (m := ((ji52) : Int).toNat) hC65 (by omega); have hy65 : y210.length = ((ji52) : Int).toNat := (by rw [Ny210.out, List.length_take]; omega); rw [← Ny210.out] at hr65; rw [← hy65] at hcut65; have HO214 := Aside0.mk (show Kd.V (Kd.int .i64) 3 _ w.heap.size _ (.slice Ao66 y210.length co66) y210 from Kd.V_mk (by omega) hr65); have HC214 := Aside0.mk (show y210.length ≤ co66 from by omega); clear hr65 hC65 hroom65 hi065 hsz65; have KY65 := Aside0.mk hy65; clear hy65; replace q65 := eq_true q65; obtain ⟨Ao67, co67, eo67⟩ := Kd.R_slice HO203.out; subst eo67) | (go_at_call 31; (with_reducible refine (waggonerref05_Numbers.calls kj23 _ _ t199 _ _ y210 t215 _ ?side1 ?side2 ?side3 ?side4 A59.out).mono ?_); (case side1 => repeat (first | exact (Kd.R_reads' HO203.out).2.2 | (with_reducible refine Kd.C_alloc ?_ _) | (with_reducible refine Kd.C_drewN ?_ _) | (with_reducible refine Kd.C_drew ?_))); (case side2 => exact (Kd.R_reads' HO203.out).2.1); (case side3 => repeat (first | exact (Kd.V_reads' HO214.out).2.2 | (with_reducible refine Kd.C_alloc ?_ _) | (with_reducible refine Kd.C_drewN ?_ _) | (with_reducible refine Kd.C_drew ?_))); (case side4 => exact (Kd.V_reads' HO214.out).2.1); rintro e w' ⟨rfl, ⟨nd, rfl⟩⟩))
                go_ret
                exact ⟨by first | rfl | (exact congrArg (fun z_ => Ending.returned (Value.bool z_)) HRT.out) | (rw [HRT.out]; done) | (simp [errW_none, errW_some] <;> rfl) | (simp only [← hji47, ← hji52]; first | rfl | (simp [errW_none, errW_some] <;> rfl)) | (simp [*, errW_none, errW_some] <;> rfl), by repeat (first | (with_reducible first | exact HB.out | apply below_alloc | apply pw_below_drewN | apply below_drew1) | exact HB.out)⟩
               ·rw [if_neg c58] at H
                exact absurd H (by simp)
              ·replace c56 := Bool.eq_false_iff.mpr c56
               subst c56
               have H1 : (some false) = some true := by rw [if_neg (show ¬ (false = true) by decide)] at H <;> exact H
               exact absurd H1 (by simp)
             ·rw [if_neg c54] at H
              exact absurd H (by simp)
            ·rw [if_neg c53] at H
             exact absurd H (by simp)
           ·replace c51 := Bool.eq_false_iff.mpr c51
            subst c51
            have H1 : (some false) = some true := by rw [if_neg (show ¬ (false = true) by decide)] at H <;> exact H
            exact absurd H1 (by simp)
          ·rw [if_neg c49] at H
           exact absurd H (by simp)
         ·rw [if_neg c48] at H
          exact absurd H (by simp)
end Go.Proofs.Ytcemlfkboifncaa.PA
