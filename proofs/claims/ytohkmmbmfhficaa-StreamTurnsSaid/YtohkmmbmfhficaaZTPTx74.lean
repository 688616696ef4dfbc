/- Words and walks that this claim names, of those that the kit's print and programs of this workplace have printed. -/
import Derived.Test.YtohkmmbmfhficaaZTCz
import Derived.Test.YtohkmmbmfhficaaZTPTx5
import Derived.Test.YtohkmmbmfhficaaZTPTx55
import Derived.Test.YtohkmmbmfhficaaZTPTx57
import Derived.Test.YtohkmmbmfhficaaZTPTx62
import Derived.Test.YtohkmmbmfhficaaZTPTx68
import Derived.Test.YtohkmmbmfhficaaZTPTx73
namespace Go.Proofs.Ytohkmmbmfhficaa.PT
open Go.Proofs.Ytohkmmbmfhficaa Go.RowKit Go.Proofs.YtohkmmbmfhficaaW.PrintWords Go.Proofs.YtohkmmbmfhficaaW.PrintLast Go.Proofs.YtohkmmbmfhficaaW.PrintMore
attribute [local go_sem] max2_int min2_int max_two min_two max_three min_three max_four min_four
set_option linter.unusedVariables false
set_option linter.unusedSimpArgs false
mutual
def waggonerlaw17_StreamTurns.j0 : Nat → Int → Int → Int → Bool → List Int → Bool → Option (Bool)
 | 0, _, _, _, _, _, _ => none
 | k + 1, x1, x2, x3, x9, x10, x41 => if x41 = true then (some x9) else ((some (([] : List Int) : List Int)).bind fun y302 => (if y302.length + x10.length < 140737488355328 then (waggonerlaw17_StreamTurns.l0 k x1 x2 x3 x9 x10 (y302 ++ x10) 0 0) else (none)))
def waggonerlaw17_StreamTurns.j2 : Nat → Int → Int → Bool → List Int → List Int → Int → Option (Bool)
 | 0, _, _, _, _, _, _ => none
 | k + 1, x2, x3, x9, x10, x12, x13 => if 0 ≤ x13 then (if x13 ≤ (x10.length : Int) then ((frame_Read.f (x10.drop (x13 : Int).toNat)).bind fun bt328 => (if bt328.2.2.2.2.2.2.2.2 = 0 then (waggonerlaw17_StreamTurns.j3 k x2 x3 x9 x12 x13 bt328.2.2.2.2.2.2.2.1 (decide (bt328.2.2.2.2.2.2.2.1 < 9))) else (waggonerlaw17_StreamTurns.j3 k x2 x3 x9 x12 x13 bt328.2.2.2.2.2.2.2.1 true))) else (none)) else (none)
def waggonerlaw17_StreamTurns.j3 : Nat → Int → Int → Bool → List Int → Int → Int → Bool → Option (Bool)
 | 0, _, _, _, _, _, _, _ => none
 | k + 1, x2, x3, x9, x12, x13, x19, x86 => if x86 = true then (some false) else (if (wrap64 ((wrap64 (8 * x19)) - 31)) = 0 then (none) else (waggonerlaw17_StreamTurns.l1 k x3 x9 x12 x13 (Int.tmod (wrap64 (x2)) (wrap64 ((wrap64 (8 * x19)) - 31))) false 0))
def waggonerlaw17_StreamTurns.l1 : Nat → Int → Bool → List Int → Int → Int → Bool → Int → Option (Bool)
 | 0, _, _, _, _, _, _, _ => none
 | k + 1, x3, x9, x12, x13, x21, x22, x23 => if x23 < 32 then (if 0 ≤ (IntKind.u64.wrap (x23)) then (if (Int.tmod (shr .u32 x3 (IntKind.u64.wrap (x23))) 2) = 1 then (if (wrap64 (Int.tdiv (wrap64 (x21 + x23)) 8)) = 1 then (waggonerlaw17_StreamTurns.l1 k x3 x9 x12 x13 x21 x22 (wrap64 (x23 + 1))) else (if (wrap64 (Int.tdiv (wrap64 (x21 + x23)) 8)) = 2 then (waggonerlaw17_StreamTurns.l1 k x3 x9 x12 x13 x21 x22 (wrap64 (x23 + 1))) else (if 0 ≤ (wrap64 (x13 + (wrap64 (Int.tdiv (wrap64 (x21 + x23)) 8)))) then (if (wrap64 (x13 + (wrap64 (Int.tdiv (wrap64 (x21 + x23)) 8)))) < (x12.length : Int) then (if 0 ≤ (IntKind.u64.wrap (Int.tmod (wrap64 (x21 + x23)) 8)) then (waggonerlaw17_StreamTurns.l1 k x3 x9 (x12.set ((wrap64 (x13 + (wrap64 (Int.tdiv (wrap64 (x21 + x23)) 8)))) : Int).toNat (Go.bits .xor .u8 (rd x12 (wrap64 (x13 + (wrap64 (Int.tdiv (wrap64 (x21 + x23)) 8))))) (shl .u8 1 (IntKind.u64.wrap (Int.tmod (wrap64 (x21 + x23)) 8))))) x13 x21 true (wrap64 (x23 + 1))) else (none)) else (none)) else (none)))) else (waggonerlaw17_StreamTurns.l1 k x3 x9 x12 x13 x21 x22 (wrap64 (x23 + 1)))) else (none)) else ((stream_Read.f x12).bind fun bt342 => ((stream_Begin.f x12).bind fun bt350 => (if x9 = true then (if ((bt342.2.2.2.2 == 0) == (!x22)) = true then (if x22 = true then (some (bt350.2.2.2.2 == 170)) else (some true)) else (some false)) else (some false))))
def waggonerlaw17_StreamTurns.l0 : Nat → Int → Int → Int → Bool → List Int → List Int → Int → Int → Option (Bool)
 | 0, _, _, _, _, _, _, _, _ => none
 | k + 1, x1, x2, x3, x9, x10, x12, x13, x14 => if x14 < (wrap64 (x1)) then (if 0 ≤ x13 then (if x13 ≤ (x10.length : Int) then ((frame_Read.f (x10.drop (x13 : Int).toNat)).bind fun bt312 => (if bt312.2.2.2.2.2.2.2.2 = 0 then (if (wrap64 (x13 + bt312.2.2.2.2.2.2.2.1)) ≥ (x10.length : Int) then (waggonerlaw17_StreamTurns.j2 k x2 x3 x9 x10 x12 x13) else (waggonerlaw17_StreamTurns.l0 k x1 x2 x3 x9 x10 x12 (wrap64 (x13 + bt312.2.2.2.2.2.2.2.1)) (wrap64 (x14 + 1)))) else (waggonerlaw17_StreamTurns.j2 k x2 x3 x9 x10 x12 x13))) else (none)) else (none)) else (waggonerlaw17_StreamTurns.j2 k x2 x3 x9 x10 x12 x13)
end
def waggonerlaw17_StreamTurns.f (k : Nat) (a0_0 : Int) (a0_1 : Int) (a0_2 : Int) (l0_3 : List (S36)) (a1 : Int) (a2 : Int) (a3 : Int) : Option (Bool) := (waggonerlaw17_awake.f).bind fun t296 => ((stream_Write.f a0_0 a0_1 a0_2 l0_3).bind fun bt297 => (if bt297.2 = 0 then ((waggonerlaw17_few.f a0_0 a0_1 a0_2 l0_3).bind fun t301 => (waggonerlaw17_StreamTurns.j0 k a1 a2 a3 t296 bt297.1 (!t301))) else (waggonerlaw17_StreamTurns.j0 k a1 a2 a3 t296 bt297.1 true)))
set_option maxHeartbeats 8000000 in
set_option maxRecDepth 100000 in
theorem waggonerlaw17_StreamTurns.calls (k : Nat) (a0_0 : Int) (a0_1 : Int) (a0_2 : Int) (A0_3 : Option Addr) (c0_3 : Nat) (l0_3 : List (S36)) (a1 : Int) (a2 : Int) (a3 : Int) (r : Bool) (hT : r = true) (w : World) (hr0_3 : Kd.C k36 w A0_3 l0_3.length l0_3) (hc0_3 : l0_3.length ≤ c0_3) (h : waggonerlaw17_StreamTurns.f k a0_0 a0_1 a0_2 l0_3 a1 a2 a3 = some r) :
  Calls Try.prog 13 #[.agg #[.int .i64 a0_0, .int .i64 a0_1, .int .i64 a0_2, .slice A0_3 l0_3.length c0_3], .int .u8 a1, .int .u16 a2, .int .u32 a3] w fun e w' => e = .returned (.bool r) ∧ Below w.heap.size w w' := by
 subst hT
 have hu0 := Try.underlying24
 have hu1 := Try.underlying38
 have HR0_3 := Aside0.mk hr0_3
 have HC0_3 := Aside0.mk hc0_3
 clear hr0_3 hc0_3
 have HB := Aside0.mk (Below.refl w.heap.size w)
 have H : ((waggonerlaw17_awake.f).bind fun t0 => ((stream_Write.f a0_0 a0_1 a0_2 l0_3).bind fun bt0 => (if bt0.2 = 0 then ((waggonerlaw17_few.f a0_0 a0_1 a0_2 l0_3).bind fun t1 => (waggonerlaw17_StreamTurns.j0 k a1 a2 a3 t0 bt0.1 (!t1))) else (waggonerlaw17_StreamTurns.j0 k a1 a2 a3 t0 bt0.1 true)))) = some true := h
 clear h
 replace H := Option.bind_eq_some_iff.mp H
 obtain ⟨t0, A2, H⟩ := H
 (try dsimp only at H)
 have A5 := Aside0.mk A2
 clear A2
 replace H := Option.bind_eq_some_iff.mp H
 obtain ⟨⟨t2, t3⟩, A3, H⟩ := H
 (try dsimp only at H)
 have A6 := Aside0.mk A3
 clear A3
 have HC1 := Aside0.mk H
 clear H
 go_enter Try.func13, Try.ntmps13
 go_upto_region 3 with (first | ((with_reducible refine gate_dst (N := 4) rfl ?_); (try (refine gate_guard (by rfl) ?_; dsimp only)); refine Cz.bx (N := 4) #[.int .i64 a0_0, .int .i64 a0_1, .int .i64 a0_2, .slice A0_3 l0_3.length c0_3] 24 ?_; intro gb0 hg w8 hbox hb; have BK0 := Aside0.mk (hbox); have GW0 := Aside0.mk ((Cz.gs hg : w.heap.size ≤ gb0)); have GE0 := GW0; replace HB := Cz.bs (w := w) hb; clear hb hbox hg) | ((with_reducible refine gate_callee (f := 14) rfl ?_); refine Cz.gL (N := (some 29)) Try.func14 #[] ?_; (with_reducible refine (waggonerlaw17_awake.calls  t0 _ A5.out).mono ?_); rintro e w2 ⟨rfl, hb⟩; refine ⟨_, rfl, ?_⟩; replace BK0 := Cz.bk BK0 hb; replace HB := Cz.bs (w := w) hb; (try clear hb); obtain ⟨z0_0, z0_1, z0_2, z0_3, y0_0, y0_1, y0_2, y0_3⟩ := Cz.d4 BK0) | ((with_reducible refine gate_callee (f := 15) rfl ?_); refine Cz.gL (N := (some 32)) Try.func15 #[.agg #[.int .i64 a0_0, .int .i64 a0_1, .int .i64 a0_2, .slice A0_3 l0_3.length c0_3]] ?_; (with_reducible refine (stream_Write.calls a0_0 a0_1 a0_2 _ _ l0_3 t2 t3 _ ?side0 ?side1 A6.out).mono ?_); (case side0 => exact Cz.cb HR0_3); (case side1 => exact HC0_3.out); rintro e w3 ⟨v0, rfl, ho0, hb⟩; refine ⟨_, rfl, ?_⟩; have HO0 := Aside0.mk (Kd.R_lower ho0 (below_size (Cz.bl (w := w)))); replace BK0 := Cz.bk BK0 hb; replace HB := Cz.bs (w := w) hb; (try clear hb); (try clear ho0)))
 (try simp only [Act.put, Kx.sb, Kx.sz, Kx.ss])
 go_cut [41] (fun v41 wc => ∃ (kq : Nat) (x0_6 : Bool), v41 = .bool x0_6 ∧ Aside0 (waggonerlaw17_StreamTurns.j0 kq a1 a2 a3 t0 t2 x0_6 = some true) ∧ Aside0 (kq ≤ k) ∧ Aside0 (Kd.R (Kd.int .u8) 5 wc w.heap.size (fun _ => True) v0 t2) ∧ Aside0 (wc.heap[gb0]? = some (.cells #[.int .i64 a0_0, .int .i64 a0_1, .int .i64 a0_2, (.slice A0_3 l0_3.length c0_3)] 24 (0, 0))) ∧ Aside0 (Below w.heap.size w wc))
 case first =>
  have H := HC1.out
  clear HC1
  by_cases c12 : t3 = 0
  focus
   rw [if_pos c12] at H
   have c12b0 : (t3 == 0) = true := beq_iff_eq.mpr c12
   have c12b1 : (t3 != 0) = false := bne_eq_false_iff_eq.mpr c12
   clear c12
  rotate_left
  focus
   rw [if_neg c12] at H
   have c12b0 : (t3 == 0) = false := beq_eq_false_iff_ne.mpr c12
   have c12b1 : (t3 != 0) = true := bne_iff_ne.mpr c12
  rotate_left
  all_goals
   (first | rw [c12b0] | (simp only [i64_w, i32_w]; rw [c12b0]) | skip)
  ·replace H := Option.bind_eq_some_iff.mp H
   obtain ⟨t1, A4, H⟩ := H
   (try dsimp only at H)
   have A7 := Aside0.mk A4
   clear A4
   have H' := Aside0.mk H
   clear H
   obtain ⟨z1_0, z1_1, z1_2, z1_3, y1_0, y1_1, y1_2, y1_3⟩ := Cz.d4 BK0
   go_wp2_with (first | (go_at_call 16; (with_reducible refine (waggonerlaw17_few.calls a0_0 a0_1 a0_2 _ _ l0_3 t1 _ ?side0 ?side1 A7.out).mono ?_); (case side0 => exact Cz.cb HR0_3); (case side1 => exact HC0_3.out); rintro e w4 ⟨rfl, hb⟩; replace HO0 := Cz.rb HO0 hb; replace BK0 := Cz.bk BK0 hb; replace HB := Cz.bs (w := w) hb; (try clear hb)))
   go_meet
   case rel => exact ⟨_, (!t1), Cz.si, H', ⟨by first | omega | exact Nat.le_refl _⟩, ⟨by (with_reducible repeat (first | apply Kd.R_alloc | apply Kd.R_drewN | apply Kd.R_drew)); exact HO0.out⟩, ⟨by (with_reducible repeat (first | refine blk_drewN ?_ _ | refine blk_drew ?_ | refine blk_alloc ?_ _)); exact BK0.out⟩, ⟨Cz.bl (w := w)⟩⟩
  ·have H' := Aside0.mk H
   clear H
   go_wp2
   go_meet
   case rel => exact ⟨_, (true), Cz.si, H', ⟨by first | omega | exact Nat.le_refl _⟩, ⟨by (with_reducible repeat (first | apply Kd.R_alloc | apply Kd.R_drewN | apply Kd.R_drew)); exact HO0.out⟩, ⟨by (with_reducible repeat (first | refine blk_drewN ?_ _ | refine blk_drew ?_ | refine blk_alloc ?_ _)); exact BK0.out⟩, ⟨Cz.bl (w := w)⟩⟩
 case rest =>
  clear HC1
  try clear c1
  try clear p2
  try clear c12
  try clear c12b0
  try clear c12b1
  try clear c13
  try clear c14
  try clear c15
  try clear z0_0 z0_1 z0_2 z0_3 y0_0 y0_1 y0_2 y0_3
  try clear z1_0 z1_1 z1_2 z1_3 y1_0 y1_1 y1_2 y1_3
  obtain ⟨kq, x0_6, rfl, HA, HJ0, HO_0, BK0, HB⟩ := hcut
  cases kq with
  | zero => exact absurd HA.out (by simp [waggonerlaw17_StreamTurns.j0])
  | succ kj0 =>
   have H := HA.out
   clear HA
   simp only [waggonerlaw17_StreamTurns.j0] at H
   by_cases c16 : x0_6 = true
   ·subst c16
    rw [if_pos rfl] at H
    (have HRT := Aside0.mk (Option.some.inj H); clear H)
    go_wp2
    go_ret
    exact ⟨by first | rfl | (exact congrArg (fun z_ => Ending.returned (Value.bool z_)) HRT.out) | (rw [HRT.out]; done) | (simp [errW_none, errW_some] <;> rfl) | (simp [*, errW_none, errW_some] <;> rfl), Cz.bl (w := w)⟩
   replace c16 := Bool.eq_false_iff.mpr c16
   subst c16
   rw [if_neg (show ¬ (false = true) by decide)] at H
   obtain ⟨y2, hy0⟩ : ∃ y_ : List Int, y_ = (([] : List Int)) := ⟨_, rfl⟩
   replace H : (if y2.length + t2.length < 140737488355328 then (waggonerlaw17_StreamTurns.l0 kj0 a1 a2 a3 t0 t2 (y2 ++ t2) 0 0) else (none)) = some true := by first | (rw [hy0]; with_reducible exact H) | (have H0_ := (Option.bind_some _ _).symm.trans H; rw [hy0]; with_reducible exact H0_) | (have H0_ := (Option.bind_some _ _).symm.trans H; with_reducible exact H0_) | with_reducible exact H | (rw [hy0]; exact H) | exact H
   have Ny0 := Aside0.mk hy0
   clear hy0
   by_cases c17 : y2.length + t2.length < 140737488355328
   rotate_left
   ·rw [if_neg c17] at H
    exact absurd H (by simp)
   rw [if_pos c17] at H
   have LMc0 := Aside0.mk c17
   clear c17
   obtain ⟨y3, hy1⟩ : ∃ y_ : List Int, y_ = (y2 ++ t2) := ⟨_, rfl⟩
   replace H : (waggonerlaw17_StreamTurns.l0 kj0 a1 a2 a3 t0 t2 y3 0 0) = some true := by first | (rw [hy1]; with_reducible exact H) | (have H0_ := (Option.bind_some _ _).symm.trans H; rw [hy1]; with_reducible exact H0_) | (have H0_ := (Option.bind_some _ _).symm.trans H; with_reducible exact H0_) | with_reducible exact H | (rw [hy1]; exact H) | exact H
   have Ny1 := Aside0.mk hy1
   clear hy1
   have HC2 := Aside0.mk H
   clear H
   go_upto_block 0 with (first | ((with_reducible refine gate_dst (N := 43) rfl ?_); (try (refine gate_guard (by rfl) ?_; dsimp only)); refine Kd.R_lit (Kd.int .u8) _ 5 ?hg (N := 43) ?hd (xs := ([] : List Int)) (inner := []) (ok := fun _ => True) (okp := fun _ => True) ?hr ?hp (fun _ hk => hk) trivial (Below.refl _ _) (Nat.le_refl _) (by simp) ?_; (case hd => rfl); (case hg => rfl); (case hr => first | (go_simp; done) | (go_simp; rfl)); (case hp => exact (Reps.none _ _)); intro v2 w4 ho1 hb hg_ hnew_; clear hg_ hnew_; (first | rw [← Ny0.out] at ho1 | (simp only [Int.reduceToNat] at ho1; rw [← Ny0.out] at ho1)); have HO1 := Aside0.mk (Kd.R_lower (Kd.R_new' ho1 (Kd.R_lt (by (with_reducible repeat (first | apply Kd.R_alloc | apply Kd.R_drewN | apply Kd.R_drew)); exact HO_0.out))) (below_size (Cz.bl (w := w)))); replace HO_0 := Aside0.mk (Kd.R_elder' (Cz.rq HO_0) (Kd.R_base ho1) hb); replace BK0 := Cz.bk BK0 hb; replace HB := Cz.bs (w := w) hb; clear hb ho1; obtain ⟨Ao0, co0, eo0⟩ := Kd.R_slice HO_0.out; subst eo0) | ((with_reducible refine gate_builtin (b := .append) (xs := #[.tmp 43, .tmp 44]) rfl ?_); (try (refine gate_guard (by rfl) ?_; dsimp only)); at_builtin; refine Kd.R_append_rows (Kd.int .u8) (w0 := w) w.heap.size rfl (.tmp 43) (.tmp 44) 27 5 (.int .u8 0) 1 rfl Try.underlying27 info5 rfl (by decide) (by omega) v2 y2 t2 _ _ _ (fun k_ => some k_ ≠ (.slice Ao0 t2.length co0 : Value).ownBlock) (fun _ => False) rfl rfl ?aO ?aR (fun _ _ h => h) (fun _ h => h.elim) ?aF ?aB ?aS ?aL ?_; (case aR => repeat (first | exact (Kd.R_reads' HO_0.out).2.2 | (with_reducible refine Kd.C_alloc ?_ _) | (with_reducible refine Kd.C_drewN ?_ _) | (with_reducible refine Kd.C_drew ?_))); (case aB => exact (Cz.bl (w := w))); (case aF => exact (fun k_ hk => Kd.fresh' (Kd.R_lt (by (with_reducible repeat (first | apply Kd.R_alloc | apply Kd.R_drewN | apply Kd.R_drew)); exact HO_0.out)) k_ hk)); (case aO => exact (by (with_reducible repeat (first | apply Kd.R_alloc | apply Kd.R_drewN | apply Kd.R_drew)); exact Kd.R_mono HO1.out (fun _ hk => hk.2))); (case aS => exact (below_size (Cz.bl (w := w)))); (case aL => have := LMc0.out; omega); intro v3 w5 ho hb hg hat; rw [← Ny1.out] at ho; have HO2 := Aside0.mk (ho); replace HO_0 := Aside0.mk (Kd.R_after (ok := (fun _ => True)) (by (with_reducible repeat (first | apply Kd.R_alloc | apply Kd.R_drewN | apply Kd.R_drew)); exact HO_0.out) hg hat); replace BK0 := Cz.bw BK0 hg (Kd.R_ne HO1.out BK0.out (by decide)); replace HB := Aside0.mk (hb); clear HO1; clear ho hb hg hat))
   (try simp only [Act.put, Kx.sb, Kx.sz, Kx.ss])
   go_cut [13] (fun v13 wc => ∃ (kq : Nat) (x1_17 : Int), v13 = .int .i64 x1_17 ∧ Aside0 (waggonerlaw17_StreamTurns.j2 kq a2 a3 t0 t2 y3 x1_17 = some true) ∧ Aside0 (kq ≤ kj0) ∧ Aside0 (Kd.R (Kd.int .u8) 5 wc w.heap.size (fun k_ => some k_ ≠ (v3 : Value).ownBlock) (.slice Ao0 t2.length co0) t2) ∧ Aside0 (Kd.R (Kd.int .u8) 5 wc w.heap.size (fun k_ => some k_ ≠ ((.slice Ao0 t2.length co0) : Value).ownBlock) v3 y3) ∧ Aside0 (wc.heap[gb0]? = some (.cells #[.int .i64 a0_0, .int .i64 a0_1, .int .i64 a0_2, (.slice A0_3 l0_3.length c0_3)] 24 (0, 0))) ∧ Aside0 (Below w.heap.size w wc))
   case first =>
    have H := HC2.out
    clear HC2
    have H' := Aside0.mk H
    clear H
    go_wp2
    go_loopg [13, 14] kj0 (fun kq v13 v14 w' => ∃ (x1_2 : Int) (x2_2 : Int), v13 = .int .i64 x1_2 ∧ v14 = .int .i64 x2_2 ∧ Aside0 (waggonerlaw17_StreamTurns.l0 kq a1 a2 a3 t0 t2 y3 x1_2 x2_2 = some true) ∧ Aside0 (kq ≤ kj0) ∧ Aside0 (Kd.R (Kd.int .u8) 5 w' w.heap.size (fun k_ => some k_ ≠ (v3 : Value).ownBlock) (.slice Ao0 t2.length co0) t2) ∧ Aside0 (Kd.R (Kd.int .u8) 5 w' w.heap.size (fun k_ => some k_ ≠ ((.slice Ao0 t2.length co0) : Value).ownBlock) v3 y3) ∧ Aside0 (w'.heap[gb0]? = some (.cells #[.int .i64 a0_0, .int .i64 a0_1, .int .i64 a0_2, (.slice A0_3 l0_3.length c0_3)] 24 (0, 0))) ∧ Aside0 (Below w.heap.size w w'))
    case atStart => exact ⟨(0), (0), Cz.si, Cz.si, H', ⟨Nat.le_refl _⟩, ⟨by (with_reducible repeat (first | apply Kd.R_alloc | apply Kd.R_drewN | apply Kd.R_drew)); exact Kd.R_mono HO_0.out (fun _ hk => hk.2)⟩, ⟨by (with_reducible repeat (first | apply Kd.R_alloc | apply Kd.R_drewN | apply Kd.R_drew)); exact HO2.out⟩, ⟨by (with_reducible repeat (first | refine blk_drewN ?_ _ | refine blk_drew ?_ | refine blk_alloc ?_ _)); exact BK0.out⟩, ⟨Cz.bl (w := w)⟩⟩
    case round =>
     clear H'
     try clear c1
     try clear p2 p2
     try clear c12
     try clear c12b0
     try clear c12b1
     try clear c13
     try clear c14
     try clear c15
     try clear c16
     try clear c17
     try clear z0_0 z0_1 z0_2 z0_3 y0_0 y0_1 y0_2 y0_3
     try clear z1_0 z1_1 z1_2 z1_3 y1_0 y1_1 y1_2 y1_3
     obtain ⟨x1_2, x2_2, rfl, rfl, HA, HK0, HO_0, HO_1, BK0, HB⟩ := hrel
     cases gk with
     | zero => exact absurd HA.out (by simp [waggonerlaw17_StreamTurns.l0])
     | succ k2 =>
      have H := HA.out
      clear HA
      simp only [waggonerlaw17_StreamTurns.l0] at H
      by_cases c6 : x2_2 < (wrap64 (a1))
      rotate_left
      ·rw [if_neg c6] at H
       have c6b0 : decide (x2_2 < (wrap64 (a1))) = false := decide_eq_false c6
       clear c6
       (first | rw [c6b0] | (simp only [i64_w, i32_w]; rw [c6b0]) | skip)
       have H' := Aside0.mk H
       clear H
       go_wp2
       go_meet
       case rel => exact ⟨_, (x1_2), Cz.si, H', ⟨by have := HJ0.out; have := HK0.out; first | omega | exact Nat.le_refl _⟩, ⟨by (with_reducible repeat (first | apply Kd.R_alloc | apply Kd.R_drewN | apply Kd.R_drew)); exact HO_0.out⟩, ⟨by (with_reducible repeat (first | apply Kd.R_alloc | apply Kd.R_drewN | apply Kd.R_drew)); exact HO_1.out⟩, ⟨by (with_reducible repeat (first | refine blk_drewN ?_ _ | refine blk_drew ?_ | refine blk_alloc ?_ _)); exact BK0.out⟩, ⟨Cz.bl (w := w)⟩⟩
      rw [if_pos c6] at H
      have c6b0 : decide (x2_2 < (wrap64 (a1))) = true := decide_eq_true c6
      clear c6
      (first | rw [c6b0] | (simp only [i64_w, i32_w]; rw [c6b0]) | skip)
      by_cases c24 : 0 ≤ x1_2
      rotate_left
      ·rw [if_neg c24] at H
       exact absurd H (by simp)
      rw [if_pos c24] at H
      have c24b0 := eq_true c24
      have c24b1 : decide (0 ≤ x1_2) = true := decide_eq_true c24
      clear c24
      by_cases c7 : x1_2 ≤ (t2.length : Int)
      rotate_left
      ·rw [if_neg c7] at H
       exact absurd H (by simp)
      rw [if_pos c7] at H
      have c7b0 := eq_true c7
      have c7b1 : decide (x1_2 ≤ (t2.length : Int)) = true := decide_eq_true c7
      clear c7
      obtain ⟨y4, hy2⟩ : ∃ y_ : List Int, y_ = (t2.drop (x1_2 : Int).toNat) := ⟨_, rfl⟩
      replace H : ((frame_Read.f y4).bind fun bt1 => (if bt1.2.2.2.2.2.2.2.2 = 0 then (if (wrap64 (x1_2 + bt1.2.2.2.2.2.2.2.1)) ≥ (t2.length : Int) then (waggonerlaw17_StreamTurns.j2 k2 a2 a3 t0 t2 y3 x1_2) else (waggonerlaw17_StreamTurns.l0 k2 a1 a2 a3 t0 t2 y3 (wrap64 (x1_2 + bt1.2.2.2.2.2.2.2.1)) (wrap64 (x2_2 + 1)))) else (waggonerlaw17_StreamTurns.j2 k2 a2 a3 t0 t2 y3 x1_2))) = some true := by first | (rw [hy2]; with_reducible exact H) | (have H0_ := (Option.bind_some _ _).symm.trans H; rw [hy2]; with_reducible exact H0_) | (have H0_ := (Option.bind_some _ _).symm.trans H; with_reducible exact H0_) | with_reducible exact H | (rw [hy2]; exact H) | exact H
      have Ny2 := Aside0.mk hy2
      clear hy2
      replace H := Option.bind_eq_some_iff.mp H
      obtain ⟨⟨t4, t5, t6, t7, t8, t9, t10, t11, t12⟩, A4, H⟩ := H
      (try dsimp only at H)
      have A7 := Aside0.mk A4
      clear A4
      have q0 : (x1_2 : Int) ≤ ((t2.length : Int) : Int) := of_decide_eq_true (by first | (with_reducible assumption) | assumption)
      obtain ⟨i0, hi0, _, hsz0, _⟩ := info_parts info5
      have hroom0 : t2.length ≤ co0 := (Kd.R_reads' HO_0.out).2.1
      have hC0 : Kd.C (Kd.int .u8) _ Ao0 t2.length t2 := (Kd.R_reads' HO_0.out).2.2
      have q1 : (0 : Int) ≤ (x1_2 : Int) := of_decide_eq_true (by first | (with_reducible assumption) | assumption)
      have hcut0 := cut_from (P := Try.prog) 27 5 .i64 Try.underlying27 hi0 1 hsz0 Ao0 t2.length co0 x1_2 q1 q0
      have hr1 := Kd.C_drop (m := (x1_2 : Int).toNat) (c := co0) hC0 (by omega) hroom0
      obtain ⟨A8, hA0⟩ : ∃ A1, A1 = (if co0 = (x1_2 : Int).toNat then Ao0 else (Ao0 : Option Addr).map (·.add ((x1_2 : Int).toNat * 1))) := ⟨_, rfl⟩
      obtain ⟨c8, hc1⟩ : ∃ c1, c1 = co0 - (x1_2 : Int).toNat := ⟨_, rfl⟩
      have hy3 : y4.length = t2.length - (x1_2 : Int).toNat := (by rw [Ny2.out, List.length_drop] <;> omega)
      rw [show (t2).drop (x1_2 : Int).toNat = y4 from Ny2.out.symm] at hr1
      replace hr1 : Kd.C (Kd.int .u8) _ A8 y4.length y4 := (by rw [hA0]; exact hr1)
      rw [← hy3, ← hA0, ← hc1] at hcut0
      have HR1 := Aside0.mk hr1
      have HC3 := Aside0.mk (show y4.length ≤ c8 from by rw [hy3, hc1]; exact Nat.sub_le_sub_right hroom0 _)
      clear hr1 hC0 hroom0 hi0 hsz0 hc1
      have KY0 := Aside0.mk hy3
      have KA0 := Aside0.mk hA0
      clear hy3 hA0
      have KL0 := Aside0.mk (show (x1_2 : Int).toNat ≤ t2.length from by omega)
      replace q0 := eq_true q0
      go_upto_region 11 with (first | ((with_reducible refine gate_callee (f := 21) rfl ?_); refine Cz.gL (N := (some 56)) Try.func21 #[.slice A8 y4.length c8] ?_; (with_reducible refine (frame_Read.calls _ _ y4 t4 t5 t6 t7 t8 t9 t10 t11 t12 _ ?side0 ?side1 A7.out).mono ?_); (case side0 => repeat (first | exact (by repeat (first | (with_reducible exact HR1.out) | (with_reducible refine Kd.C_alloc ?_ _) | (with_reducible refine Kd.C_drewN ?_ _) | (with_reducible refine Kd.C_drew ?_) | exact HR1.out)) | (with_reducible refine Kd.C_alloc ?_ _) | (with_reducible refine Kd.C_drewN ?_ _) | (with_reducible refine Kd.C_drew ?_))); (case side1 => exact HC3.out); rintro e w6 ⟨v4, rfl, ho0, hb⟩; refine ⟨_, rfl, ?_⟩; have HO3 := Aside0.mk (Kd.R_lower (Kd.R_new' (Kd.R_new' ho0 (Kd.R_lt (by (with_reducible repeat (first | apply Kd.R_alloc | apply Kd.R_drewN | apply Kd.R_drew)); exact HO_0.out))) (Kd.R_lt (by (with_reducible repeat (first | apply Kd.R_alloc | apply Kd.R_drewN | apply Kd.R_drew)); exact HO_1.out))) (below_size (Cz.bl (w := w)))); replace HO_0 := Aside0.mk (Kd.R_elder' (Cz.rq HO_0) (Kd.R_base ho0) hb); replace HO_1 := Aside0.mk (Kd.R_elder' (Cz.rq HO_1) (Kd.R_base ho0) hb); replace BK0 := Cz.bk BK0 hb; replace HR1 := Aside0.mk (Kd.C_below (by repeat (first | (with_reducible exact HR1.out) | (with_reducible refine Kd.C_alloc ?_ _) | (with_reducible refine Kd.C_drewN ?_ _) | (with_reducible refine Kd.C_drew ?_) | exact HR1.out)) hb); replace HB := Cz.bs (w := w) hb; (try clear hb); (try clear ho0)) | ((with_reducible refine gate_dst (N := 15) rfl ?_); (try (refine gate_guard (by rfl) ?_; dsimp only)); refine Cz.bx (N := 15) #[.int .i64 0, .int .i64 0, .int .i64 0, .slice none 0 0, .int .i64 0, .int .i64 0, .int .i64 0] 38 ?_; intro gb1 hg w7 hbox hb; have BK1 := Aside0.mk (hbox); have GW1 := Aside0.mk ((Cz.gs hg : w.heap.size ≤ gb1)); have GE1 := GW1; have NB0_323 := Aside0.mk ((Cz.nl BK0 hg : gb0 ≠ gb1)); have NB1_295 := Aside0.mk ((Cz.nr BK0 hg : gb1 ≠ gb0)); replace HO_0 := Cz.rb HO_0 hb; replace HO_1 := Cz.rb HO_1 hb; replace HO3 := Cz.rb HO3 hb; replace BK0 := Cz.bk BK0 hb; replace HR1 := Aside0.mk (Kd.C_below (by repeat (first | (with_reducible exact HR1.out) | (with_reducible refine Kd.C_alloc ?_ _) | (with_reducible refine Kd.C_drewN ?_ _) | (with_reducible refine Kd.C_drew ?_) | exact HR1.out)) hb); replace HB := Cz.bs (w := w) hb; clear hb hbox hg; have hnb0 := NB1_295.out; have hnc0 := NB0_323.out; obtain ⟨z2_0, z2_1, z2_2, z2_3, z2_4, z2_5, z2_6, y5_0, y5_1, y5_2, y5_3, y5_4, y5_5, y5_6⟩ := Cz.d7 BK1; obtain ⟨Ao1, co1, eo1⟩ := Kd.R_slice HO3.out; subst eo1))
      by_cases c9 : t12 = 0
      rotate_left
      ·rw [if_neg c9] at H
       have c9b0 : (t12 == 0) = false := beq_eq_false_iff_ne.mpr c9
       have c9b1 : (t12 != 0) = true := bne_iff_ne.mpr c9
       have H' := Aside0.mk H
       clear H
       go_wp2
       go_meet
       case rel => exact ⟨_, (x1_2), Cz.si, H', ⟨by have := HJ0.out; have := HK0.out; first | omega | exact Nat.le_refl _⟩, ⟨by (with_reducible repeat (first | apply Kd.R_alloc | apply Kd.R_drewN | apply Kd.R_drew)); exact Kd.R_mono (Cz.rf (Cz.rf (Cz.rf (Cz.rf (Cz.rf (Cz.rf (Cz.rf (Kd.R_types HO_0.out BK1.out (by decide))))))))) (fun _ hk => hk.1.1)⟩, ⟨by (with_reducible repeat (first | apply Kd.R_alloc | apply Kd.R_drewN | apply Kd.R_drew)); exact Kd.R_mono (Cz.rf (Cz.rf (Cz.rf (Cz.rf (Cz.rf (Cz.rf (Cz.rf (Kd.R_types HO_1.out BK1.out (by decide))))))))) (fun _ hk => hk.1.1)⟩, ⟨by (with_reducible repeat (first | refine blk_drewN ?_ _ | refine blk_drew ?_ | refine blk_alloc ?_ _)); refine blk_far ?_ NB0_323.out _; refine blk_far ?_ NB0_323.out _; refine blk_far ?_ NB0_323.out _; refine blk_far ?_ NB0_323.out _; refine blk_far ?_ NB0_323.out _; refine blk_far ?_ NB0_323.out _; refine blk_far ?_ NB0_323.out _; (with_reducible repeat (first | refine blk_drewN ?_ _ | refine blk_drew ?_ | refine blk_alloc ?_ _)); exact BK0.out⟩, ⟨Cz.bl (w := w)⟩⟩
      rw [if_pos c9] at H
      have c9b0 : (t12 == 0) = true := beq_iff_eq.mpr c9
      have c9b1 : (t12 != 0) = false := bne_eq_false_iff_eq.mpr c9
      clear c9
      by_cases c28 : (wrap64 (x1_2 + t11)) ≥ (t2.length : Int)
      ·rw [if_pos c28] at H
       have c28b0 : decide ((t2.length : Int) ≤ (wrap64 (x1_2 + t11))) = true := decide_eq_true c28
       clear c28
       have H' := Aside0.mk H
       clear H
       go_wp2
       go_meet
       case rel => exact ⟨_, (x1_2), Cz.si, H', ⟨by have := HJ0.out; have := HK0.out; first | omega | exact Nat.le_refl _⟩, ⟨by (with_reducible repeat (first | apply Kd.R_alloc | apply Kd.R_drewN | apply Kd.R_drew)); exact Kd.R_mono (Cz.rf (Cz.rf (Cz.rf (Cz.rf (Cz.rf (Cz.rf (Cz.rf (Kd.R_types HO_0.out BK1.out (by decide))))))))) (fun _ hk => hk.1.1)⟩, ⟨by (with_reducible repeat (first | apply Kd.R_alloc | apply Kd.R_drewN | apply Kd.R_drew)); exact Kd.R_mono (Cz.rf (Cz.rf (Cz.rf (Cz.rf (Cz.rf (Cz.rf (Cz.rf (Kd.R_types HO_1.out BK1.out (by decide))))))))) (fun _ hk => hk.1.1)⟩, ⟨by (with_reducible repeat (first | refine blk_drewN ?_ _ | refine blk_drew ?_ | refine blk_alloc ?_ _)); refine blk_far ?_ NB0_323.out _; refine blk_far ?_ NB0_323.out _; refine blk_far ?_ NB0_323.out _; refine blk_far ?_ NB0_323.out _; refine blk_far ?_ NB0_323.out _; refine blk_far ?_ NB0_323.out _; refine blk_far ?_ NB0_323.out _; (with_reducible repeat (first | refine blk_drewN ?_ _ | refine blk_drew ?_ | refine blk_alloc ?_ _)); exact BK0.out⟩, ⟨Cz.bl (w := w)⟩⟩
      rw [if_neg c28] at H
      have c28b0 : decide ((t2.length : Int) ≤ (wrap64 (x1_2 + t11))) = false := decide_eq_false c28
      clear c28
      have H' := Aside0.mk H
      clear H
      go_wp2
      go_roundg k2
      case measure => have := HJ0.out; have := HK0.out; omega
      case rel => exact ⟨(wrap64 (x1_2 + t11)), (wrap64 (x2_2 + 1)), Cz.si, Cz.si, H', ⟨by have := HJ0.out; have := HK0.out; omega⟩, ⟨by (with_reducible repeat (first | apply Kd.R_alloc | apply Kd.R_drewN | apply Kd.R_drew)); exact Kd.R_mono (Cz.rf (Cz.rf (Cz.rf (Cz.rf (Cz.rf (Cz.rf (Cz.rf (Kd.R_types HO_0.out BK1.out (by decide))))))))) (fun _ hk => hk.1.1)⟩, ⟨by (with_reducible repeat (first | apply Kd.R_alloc | apply Kd.R_drewN | apply Kd.R_drew)); exact Kd.R_mono (Cz.rf (Cz.rf (Cz.rf (Cz.rf (Cz.rf (Cz.rf (Cz.rf (Kd.R_types HO_1.out BK1.out (by decide))))))))) (fun _ hk => hk.1.1)⟩, ⟨by (with_reducible repeat (first | refine blk_drewN ?_ _ | refine blk_drew ?_ | refine blk_alloc ?_ _)); refine blk_far ?_ NB0_323.out _; refine blk_far ?_ NB0_323.out _; refine blk_far ?_ NB0_323.out _; refine blk_far ?_ NB0_323.out _; refine blk_far ?_ NB0_323.out _; refine blk_far ?_ NB0_323.out _; refine blk_far ?_ NB0_323.out _; (with_reducible repeat (first | refine blk_drewN ?_ _ | refine blk_drew ?_ | refine blk_alloc ?_ _)); exact BK0.out⟩, ⟨Cz.bl (w := w)⟩⟩
   case rest =>
    clear HC2
    try clear c1
    try clear c2
    try clear p2 p2
    try clear q2
    try clear c3
    try clear q3
    try clear c4
    try clear q4
    try clear p0
    try clear c12
    try clear c12b0
    try clear c12b1
    try clear c13
    try clear c14
    try clear c15
    try clear c16
    try clear c17
    try clear c21
    try clear c6
    try clear c6b0
    try clear c24
    try clear c24b0
    try clear c24b1
    try clear c7
    try clear c7b0
    try clear c7b1
    try clear c8
    try clear c8b0
    try clear c8b1
    try clear c28
    try clear c28b0
    try clear c9
    try clear q0 q0
    try clear c32
    try clear c10
    try clear q1 q1
    try clear c11
    try clear c18
    try clear q6 q6
    try clear c19
    try clear z0_0 z0_1 z0_2 z0_3 y0_0 y0_1 y0_2 y0_3
    try clear z1_0 z1_1 z1_2 z1_3 y1_0 y1_1 y1_2 y1_3
    try clear z2_0 z2_1 z2_2 z2_3 z2_4 z2_5 z2_6 y4_0 y4_1 y4_2 y4_3 y4_4 y4_5 y4_6
    try clear z3_0 z3_1 z3_2 z3_3 z3_4 z3_5 z3_6 y5_0 y5_1 y5_2 y5_3 y5_4 y5_5 y5_6
    try clear z4_0 z4_1 z4_2 z4_3 z4_4 z4_5 z4_6 y6_0 y6_1 y6_2 y6_3 y6_4 y6_5 y6_6
    try clear q7
    try clear q8
    try clear q9
    obtain ⟨kq, x1_17, rfl, HA, HJ1, HO_0, HO_1, BK0, HB⟩ := hcut
    cases kq with
    | zero => exact absurd HA.out (by simp [waggonerlaw17_StreamTurns.j2])
    | succ kj1 =>
     have H := HA.out
     clear HA
     simp only [waggonerlaw17_StreamTurns.j2] at H
     by_cases c20 : 0 ≤ x1_17
     rotate_left
     ·rw [if_neg c20] at H
      exact absurd H (by simp)
     rw [if_pos c20] at H
     have c20b0 := eq_true c20
     have c20b1 : decide (0 ≤ x1_17) = true := decide_eq_true c20
     clear c20
     by_cases c22 : x1_17 ≤ (t2.length : Int)
     rotate_left
     ·rw [if_neg c22] at H
      exact absurd H (by simp)
     rw [if_pos c22] at H
     have c22b0 := eq_true c22
     have c22b1 : decide (x1_17 ≤ (t2.length : Int)) = true := decide_eq_true c22
     clear c22
     obtain ⟨y7, hy2⟩ : ∃ y_ : List Int, y_ = (t2.drop (x1_17 : Int).toNat) := ⟨_, rfl⟩
     replace H : ((frame_Read.f y7).bind fun bt1 => (if bt1.2.2.2.2.2.2.2.2 = 0 then (waggonerlaw17_StreamTurns.j3 kj1 a2 a3 t0 y3 x1_17 bt1.2.2.2.2.2.2.2.1 (decide (bt1.2.2.2.2.2.2.2.1 < 9))) else (waggonerlaw17_StreamTurns.j3 kj1 a2 a3 t0 y3 x1_17 bt1.2.2.2.2.2.2.2.1 true))) = some true := by first | (rw [hy2]; with_reducible exact H) | (have H0_ := (Option.bind_some _ _).symm.trans H; rw [hy2]; with_reducible exact H0_) | (have H0_ := (Option.bind_some _ _).symm.trans H; with_reducible exact H0_) | with_reducible exact H | (rw [hy2]; exact H) | exact H
     have Ny2 := Aside0.mk hy2
     clear hy2
     replace H := Option.bind_eq_some_iff.mp H
     obtain ⟨⟨t4, t5, t6, t7, t8, t9, t10, t11, t12⟩, A4, H⟩ := H
     (try dsimp only at H)
     have A7 := Aside0.mk A4
     clear A4
     have HC3 := Aside0.mk H
     clear H
     have q10 : (x1_17 : Int) ≤ ((t2.length : Int) : Int) := of_decide_eq_true (by first | (with_reducible assumption) | assumption)
     obtain ⟨i0, hi0, _, hsz0, _⟩ := info_parts info5
     have hroom0 : t2.length ≤ co0 := (Kd.R_reads' HO_0.out).2.1
     have hC0 : Kd.C (Kd.int .u8) _ Ao0 t2.length t2 := (Kd.R_reads' HO_0.out).2.2
     have q11 : (0 : Int) ≤ (x1_17 : Int) := of_decide_eq_true (by first | (with_reducible assumption) | assumption)
     have hcut0 := cut_from (P := Try.prog) 27 5 .i64 Try.underlying27 hi0 1 hsz0 Ao0 t2.length co0 x1_17 q11 q10
     have hr1 := Kd.C_drop (m := (x1_17 : Int).toNat) (c := co0) hC0 (by omega) hroom0
     obtain ⟨A8, hA0⟩ : ∃ A1, A1 = (if co0 = (x1_17 : Int).toNat then Ao0 else (Ao0 : Option Addr).map (·.add ((x1_17 : Int).toNat * 1))) := ⟨_, rfl⟩
     obtain ⟨c51, hc1⟩ : ∃ c1, c1 = co0 - (x1_17 : Int).toNat := ⟨_, rfl⟩
     have hy3 : y7.length = t2.length - (x1_17 : Int).toNat := (by rw [Ny2.out, List.length_drop] <;> omega)
     rw [show (t2).drop (x1_17 : Int).toNat = y7 from Ny2.out.symm] at hr1
     replace hr1 : Kd.C (Kd.int .u8) _ A8 y7.length y7 := (by rw [hA0]; exact hr1)
     rw [← hy3, ← hA0, ← hc1] at hcut0
     have HR1 := Aside0.mk hr1
     have HC4 := Aside0.mk (show y7.length ≤ c51 from by rw [hy3, hc1]; exact Nat.sub_le_sub_right hroom0 _)
     clear hr1 hC0 hroom0 hi0 hsz0 hc1
     have KY0 := Aside0.mk hy3
     have KA0 := Aside0.mk hA0
     clear hy3 hA0
     have KL0 := Aside0.mk (show (x1_17 : Int).toNat ≤ t2.length from by omega)
     replace q10 := eq_true q10
     go_upto_region 14 with (first | ((with_reducible refine gate_callee (f := 21) rfl ?_); refine Cz.gL (N := (some 77)) Try.func21 #[.slice A8 y7.length c51] ?_; (with_reducible refine (frame_Read.calls _ _ y7 t4 t5 t6 t7 t8 t9 t10 t11 t12 _ ?side0 ?side1 A7.out).mono ?_); (case side0 => repeat (first | exact (by repeat (first | (with_reducible exact HR1.out) | (with_reducible refine Kd.C_alloc ?_ _) | (with_reducible refine Kd.C_drewN ?_ _) | (with_reducible refine Kd.C_drew ?_) | exact HR1.out)) | (with_reducible refine Kd.C_alloc ?_ _) | (with_reducible refine Kd.C_drewN ?_ _) | (with_reducible refine Kd.C_drew ?_))); (case side1 => exact HC4.out); rintro e w6 ⟨v4, rfl, ho0, hb⟩; refine ⟨_, rfl, ?_⟩; have HO3 := Aside0.mk (Kd.R_lower (Kd.R_new' (Kd.R_new' ho0 (Kd.R_lt (by (with_reducible repeat (first | apply Kd.R_alloc | apply Kd.R_drewN | apply Kd.R_drew)); exact HO_0.out))) (Kd.R_lt (by (with_reducible repeat (first | apply Kd.R_alloc | apply Kd.R_drewN | apply Kd.R_drew)); exact HO_1.out))) (below_size (Cz.bl (w := w)))); replace HO_0 := Aside0.mk (Kd.R_elder' (Cz.rq HO_0) (Kd.R_base ho0) hb); replace HO_1 := Aside0.mk (Kd.R_elder' (Cz.rq HO_1) (Kd.R_base ho0) hb); replace BK0 := Cz.bk BK0 hb; replace HR1 := Aside0.mk (Kd.C_below (by repeat (first | (with_reducible exact HR1.out) | (with_reducible refine Kd.C_alloc ?_ _) | (with_reducible refine Kd.C_drewN ?_ _) | (with_reducible refine Kd.C_drew ?_) | exact HR1.out)) hb); replace HB := Cz.bs (w := w) hb; (try clear hb); (try clear ho0)) | ((with_reducible refine gate_dst (N := 18) rfl ?_); (try (refine gate_guard (by rfl) ?_; dsimp only)); refine Cz.bx (N := 18) #[.int .i64 0, .int .i64 0, .int .i64 0, .slice none 0 0, .int .i64 0, .int .i64 0, .int .i64 0] 38 ?_; intro gb1 hg w7 hbox hb; have BK1 := Aside0.mk (hbox); have GW1 := Aside0.mk ((Cz.gs hg : w.heap.size ≤ gb1)); have GE1 := GW1; have NB0_339 := Aside0.mk ((Cz.nl BK0 hg : gb0 ≠ gb1)); have NB1_295 := Aside0.mk ((Cz.nr BK0 hg : gb1 ≠ gb0)); replace HO_0 := Cz.rb HO_0 hb; replace HO_1 := Cz.rb HO_1 hb; replace HO3 := Cz.rb HO3 hb; replace BK0 := Cz.bk BK0 hb; replace HR1 := Aside0.mk (Kd.C_below (by repeat (first | (with_reducible exact HR1.out) | (with_reducible refine Kd.C_alloc ?_ _) | (with_reducible refine Kd.C_drewN ?_ _) | (with_reducible refine Kd.C_drew ?_) | exact HR1.out)) hb); replace HB := Cz.bs (w := w) hb; clear hb hbox hg; have hnb0 := NB1_295.out; have hnc0 := NB0_339.out; obtain ⟨z5_0, z5_1, z5_2, z5_3, z5_4, z5_5, z5_6, y8_0, y8_1, y8_2, y8_3, y8_4, y8_5, y8_6⟩ := Cz.d7 BK1; obtain ⟨Ao1, co1, eo1⟩ := Kd.R_slice HO3.out; subst eo1))
     (try simp only [Act.put, Kx.sb, Kx.sz, Kx.ss])
     go_cut [86] (fun v5 wc => ∃ (kq : Nat) (x3_49 : Bool), v5 = .bool x3_49 ∧ Aside0 (waggonerlaw17_StreamTurns.j3 kq a2 a3 t0 y3 x1_17 t11 x3_49 = some true) ∧ Aside0 (kq ≤ kj1) ∧ Aside0 (Kd.R (Kd.int .u8) 5 wc w.heap.size (fun k_ => some k_ ≠ ((.slice Ao1 t7.length co1) : Value).ownBlock) v3 y3) ∧ Aside0 (Kd.R (Kd.int .u8) 5 wc w.heap.size (fun k_ => some k_ ≠ (v3 : Value).ownBlock) (.slice Ao1 t7.length co1) t7) ∧ Aside0 (wc.heap[gb0]? = some (.cells #[.int .i64 a0_0, .int .i64 a0_1, .int .i64 a0_2, (.slice A0_3 l0_3.length c0_3)] 24 (0, 0))) ∧ Aside0 (wc.heap[gb1]? = some (.cells #[.int .i64 t4, .int .i64 t5, .int .i64 t6, (.slice Ao1 t7.length co1), .int .i64 t8, .int .i64 t9, .int .i64 t10] 38 (0, 0))) ∧ Aside0 (Below w.heap.size w wc))
     case first =>
      have H := HC3.out
      clear HC3
      by_cases c23 : t12 = 0
      focus
       rw [if_pos c23] at H
       have c23b0 : (t12 == 0) = true := beq_iff_eq.mpr c23
       have c23b1 : (t12 != 0) = false := bne_eq_false_iff_eq.mpr c23
       clear c23
      rotate_left
      focus
       rw [if_neg c23] at H
       have c23b0 : (t12 == 0) = false := beq_eq_false_iff_ne.mpr c23
       have c23b1 : (t12 != 0) = true := bne_iff_ne.mpr c23
      rotate_left
      all_goals
       (first | rw [c23b0] | (simp only [i64_w, i32_w]; rw [c23b0]) | skip)
       have H' := Aside0.mk H
       clear H
       go_wp2
      ·go_meet
       case rel => exact ⟨_, (decide (t11 < 9)), Cz.si, H', ⟨by have := HJ0.out; have := HJ1.out; first | omega | exact Nat.le_refl _⟩, ⟨by (with_reducible repeat (first | apply Kd.R_alloc | apply Kd.R_drewN | apply Kd.R_drew)); exact Kd.R_mono (Cz.rf (Cz.rf (Cz.rf (Cz.rf (Cz.rf (Cz.rf (Cz.rf (Kd.R_types HO_1.out BK1.out (by decide))))))))) (fun _ hk => hk.1.2)⟩, ⟨by (with_reducible repeat (first | apply Kd.R_alloc | apply Kd.R_drewN | apply Kd.R_drew)); exact Kd.R_mono (Cz.rf (Cz.rf (Cz.rf (Cz.rf (Cz.rf (Cz.rf (Cz.rf (Kd.R_types HO3.out BK1.out (by decide))))))))) (fun _ hk => hk.1.2)⟩, ⟨by (with_reducible repeat (first | refine blk_drewN ?_ _ | refine blk_drew ?_ | refine blk_alloc ?_ _)); refine blk_far ?_ NB0_339.out _; refine blk_far ?_ NB0_339.out _; refine blk_far ?_ NB0_339.out _; refine blk_far ?_ NB0_339.out _; refine blk_far ?_ NB0_339.out _; refine blk_far ?_ NB0_339.out _; refine blk_far ?_ NB0_339.out _; (with_reducible repeat (first | refine blk_drewN ?_ _ | refine blk_drew ?_ | refine blk_alloc ?_ _)); exact BK0.out⟩, ⟨by (with_reducible repeat (first | refine blk_drewN ?_ _ | refine blk_drew ?_ | refine blk_alloc ?_ _)); apply Cz.a7; (with_reducible repeat (first | refine blk_drewN ?_ _ | refine blk_drew ?_ | refine blk_alloc ?_ _)); exact BK1.out⟩, ⟨Cz.bl (w := w)⟩⟩
      ·go_meet
       case rel => exact ⟨_, (true), Cz.si, H', ⟨by have := HJ0.out; have := HJ1.out; first | omega | exact Nat.le_refl _⟩, ⟨by (with_reducible repeat (first | apply Kd.R_alloc | apply Kd.R_drewN | apply Kd.R_drew)); exact Kd.R_mono (Cz.rf (Cz.rf (Cz.rf (Cz.rf (Cz.rf (Cz.rf (Cz.rf (Kd.R_types HO_1.out BK1.out (by decide))))))))) (fun _ hk => hk.1.2)⟩, ⟨by (with_reducible repeat (first | apply Kd.R_alloc | apply Kd.R_drewN | apply Kd.R_drew)); exact Kd.R_mono (Cz.rf (Cz.rf (Cz.rf (Cz.rf (Cz.rf (Cz.rf (Cz.rf (Kd.R_types HO3.out BK1.out (by decide))))))))) (fun _ hk => hk.1.2)⟩, ⟨by (with_reducible repeat (first | refine blk_drewN ?_ _ | refine blk_drew ?_ | refine blk_alloc ?_ _)); refine blk_far ?_ NB0_339.out _; refine blk_far ?_ NB0_339.out _; refine blk_far ?_ NB0_339.out _; refine blk_far ?_ NB0_339.out _; refine blk_far ?_ NB0_339.out _; refine blk_far ?_ NB0_339.out _; refine blk_far ?_ NB0_339.out _; (with_reducible repeat (first | refine blk_drewN ?_ _ | refine blk_drew ?_ | refine blk_alloc ?_ _)); exact BK0.out⟩, ⟨by (with_reducible repeat (first | refine blk_drewN ?_ _ | refine blk_drew ?_ | refine blk_alloc ?_ _)); apply Cz.a7; (with_reducible repeat (first | refine blk_drewN ?_ _ | refine blk_drew ?_ | refine blk_alloc ?_ _)); exact BK1.out⟩, ⟨Cz.bl (w := w)⟩⟩
     case rest =>
      clear HC3
      try clear c1
      try clear c2
      try clear p2 p2
      try clear q2 q2
      try clear c3
      try clear q3 q3
      try clear c4
      try clear q4 q4
      try clear c5
      try clear q5
      try clear p0 p0
      try clear c12
      try clear c12b0
      try clear c12b1
      try clear c13
      try clear c14
      try clear c15
      try clear c16
      try clear c17
      try clear c21
      try clear c6
      try clear c6b0
      try clear c24
      try clear c24b0
      try clear c24b1
      try clear c7
      try clear c7b0
      try clear c7b1
      try clear c8
      try clear c8b0
      try clear c8b1
      try clear c28
      try clear c28b0
      try clear c9
      try clear q0 q0
      try clear c32
      try clear c10
      try clear q1 q1
      try clear c11
      try clear c18
      try clear q6 q6
      try clear c19
      try clear c20
      try clear c20b0
      try clear c20b1
      try clear c22
      try clear c22b0
      try clear c22b1
      try clear c51
      try clear q10 q10
      try clear c25
      try clear c23
      try clear c23b0
      try clear c23b1
      try clear z0_0 z0_1 z0_2 z0_3 y0_0 y0_1 y0_2 y0_3
      try clear z1_0 z1_1 z1_2 z1_3 y1_0 y1_1 y1_2 y1_3
      try clear z2_0 z2_1 z2_2 z2_3 z2_4 z2_5 z2_6 y4_0 y4_1 y4_2 y4_3 y4_4 y4_5 y4_6
      try clear z3_0 z3_1 z3_2 z3_3 z3_4 z3_5 z3_6 y5_0 y5_1 y5_2 y5_3 y5_4 y5_5 y5_6
      try clear z4_0 z4_1 z4_2 z4_3 z4_4 z4_5 z4_6 y6_0 y6_1 y6_2 y6_3 y6_4 y6_5 y6_6
      try clear z5_0 z5_1 z5_2 z5_3 z5_4 z5_5 z5_6 y8_0 y8_1 y8_2 y8_3 y8_4 y8_5 y8_6
      try clear q7
      try clear q8
      try clear q9
      try clear q11
      obtain ⟨kq, x3_49, rfl, HA, HJ2, HO_1, HO_2, BK0, BK1, HB⟩ := hcut
      cases kq with
      | zero => exact absurd HA.out (by simp [waggonerlaw17_StreamTurns.j3])
      | succ kj2 =>
       have H := HA.out
       clear HA
       simp only [waggonerlaw17_StreamTurns.j3] at H
       by_cases c26 : x3_49 = true
       ·subst c26
        have H1 : (some false) = some true := by rw [if_pos rfl] at H <;> exact H
        exact absurd H1 (by simp)
       replace c26 := Bool.eq_false_iff.mpr c26
       subst c26
       rw [if_neg (show ¬ (false = true) by decide)] at H
       by_cases c59 : (wrap64 ((wrap64 (8 * t11)) - 31)) = 0
       ·rw [if_pos c59] at H
        exact absurd H (by simp)
       rw [if_neg c59] at H
       have c59b0 : ((wrap64 ((wrap64 (8 * t11)) - 31)) == 0) = false := beq_eq_false_iff_ne.mpr c59
       have c59b1 : ((wrap64 ((wrap64 (8 * t11)) - 31)) != 0) = true := bne_iff_ne.mpr c59
       have H' := Aside0.mk H
       clear H
       go_wp2
       go_loopg [22, 23] kj2 (fun kq v22 v23 w' => ∃ (x4_4 : List Int) (x5_4 : Bool) (x6_4 : Int), v22 = .bool x5_4 ∧ v23 = .int .i64 x6_4 ∧ Aside0 (waggonerlaw17_StreamTurns.l1 kq a3 t0 x4_4 x1_17 (Int.tmod (wrap64 (a2)) (wrap64 ((wrap64 (8 * t11)) - 31))) x5_4 x6_4 = some true) ∧ Aside0 (kq ≤ kj2) ∧ Aside0 (Kd.R (Kd.int .u8) 5 w' w.heap.size (fun k_ => some k_ ≠ ((.slice Ao1 t7.length co1) : Value).ownBlock) v3 x4_4) ∧ Aside0 (Kd.R (Kd.int .u8) 5 w' w.heap.size (fun k_ => some k_ ≠ (v3 : Value).ownBlock) (.slice Ao1 t7.length co1) t7) ∧ Aside0 (w'.heap[gb0]? = some (.cells #[.int .i64 a0_0, .int .i64 a0_1, .int .i64 a0_2, (.slice A0_3 l0_3.length c0_3)] 24 (0, 0))) ∧ Aside0 (w'.heap[gb1]? = some (.cells #[.int .i64 t4, .int .i64 t5, .int .i64 t6, (.slice Ao1 t7.length co1), .int .i64 t8, .int .i64 t9, .int .i64 t10] 38 (0, 0))) ∧ Aside0 (Below w.heap.size w w'))
       case atStart => exact ⟨(y3), (false), (0), Cz.si, Cz.si, H', ⟨Nat.le_refl _⟩, ⟨by (with_reducible repeat (first | apply Kd.R_alloc | apply Kd.R_drewN | apply Kd.R_drew)); exact HO_1.out⟩, ⟨by (with_reducible repeat (first | apply Kd.R_alloc | apply Kd.R_drewN | apply Kd.R_drew)); exact HO_2.out⟩, ⟨by (with_reducible repeat (first | refine blk_drewN ?_ _ | refine blk_drew ?_ | refine blk_alloc ?_ _)); exact BK0.out⟩, ⟨by (with_reducible repeat (first | refine blk_drewN ?_ _ | refine blk_drew ?_ | refine blk_alloc ?_ _)); exact BK1.out⟩, ⟨Cz.bl (w := w)⟩⟩
       case round =>
        clear H'
        try clear c1
        try clear c2
        try clear p2 p2
        try clear q2 q2
        try clear c3
        try clear q3 q3
        try clear c4
        try clear q4 q4
        try clear c5
        try clear q5 q5
        try clear p0 p0
        try clear c12
        try clear c12b0
        try clear c12b1
        try clear c13
        try clear c14
        try clear c15
        try clear c16
        try clear c17
        try clear c21
        try clear c6
        try clear c6b0
        try clear c24
        try clear c24b0
        try clear c24b1
        try clear c7
        try clear c7b0
        try clear c7b1
        try clear c8
        try clear c8b0
        try clear c8b1
        try clear c28
        try clear c28b0
        try clear c9
        try clear q0 q0
        try clear c32
        try clear c10
        try clear q1 q1
        try clear c11
        try clear c18
        try clear q6 q6
        try clear c19
        try clear c20
        try clear c20b0
        try clear c20b1
        try clear c22
        try clear c22b0
        try clear c22b1
        try clear c51
        try clear q10 q10
        try clear c25
        try clear c23
        try clear c23b0
        try clear c23b1
        try clear c26
        try clear c59
        try clear c59b0
        try clear c59b1
        try clear z0_0 z0_1 z0_2 z0_3 y0_0 y0_1 y0_2 y0_3
        try clear z1_0 z1_1 z1_2 z1_3 y1_0 y1_1 y1_2 y1_3
        try clear z2_0 z2_1 z2_2 z2_3 z2_4 z2_5 z2_6 y4_0 y4_1 y4_2 y4_3 y4_4 y4_5 y4_6
        try clear z3_0 z3_1 z3_2 z3_3 z3_4 z3_5 z3_6 y5_0 y5_1 y5_2 y5_3 y5_4 y5_5 y5_6
        try clear z4_0 z4_1 z4_2 z4_3 z4_4 z4_5 z4_6 y6_0 y6_1 y6_2 y6_3 y6_4 y6_5 y6_6
        try clear z5_0 z5_1 z5_2 z5_3 z5_4 z5_5 z5_6 y8_0 y8_1 y8_2 y8_3 y8_4 y8_5 y8_6
        try clear q7
        try clear q8
        try clear q9
        try clear q11
        obtain ⟨x4_4, x5_4, x6_4, rfl, rfl, HA, HK1, HO_1, HO_2, BK0, BK1, HB⟩ := hrel
        cases gk with
        | zero => exact absurd HA.out (by simp [waggonerlaw17_StreamTurns.l1])
        | succ k4 =>
         have H := HA.out
         clear HA
         simp only [waggonerlaw17_StreamTurns.l1] at H
         by_cases c27 : x6_4 < 32
         rotate_left
         ·rw [if_neg c27] at H
          have c27b0 : decide (x6_4 < 32) = false := decide_eq_false c27
          clear c27
          replace H := Option.bind_eq_some_iff.mp H
          obtain ⟨⟨t13, t14, t15, t16, t17⟩, A9, H⟩ := H
          (try dsimp only at H)
          have A10 := Aside0.mk A9
          clear A9
          replace H := Option.bind_eq_some_iff.mp H
          obtain ⟨⟨t18, t19, t20, t21, t22⟩, A11, H⟩ := H
          (try dsimp only at H)
          have A12 := Aside0.mk A11
          clear A11
          by_cases c29 : t0 = true
          rotate_left
          ·replace c29 := Bool.eq_false_iff.mpr c29
           subst c29
           have H1 : (some false) = some true := by rw [if_neg (show ¬ (false = true) by decide)] at H <;> exact H
           exact absurd H1 (by simp)
          subst c29
          rw [if_pos rfl] at H
          by_cases c80 : ((t17 == 0) == (!x5_4)) = true
          rotate_left
          ·rw [if_neg c80] at H
           first | exact absurd H (by simp; done) | skip
          rw [if_pos c80] at H
          have c80b0 : ((t17 == 0) == (!x5_4)) = true := c80
          (try (have c80b1 : decide ((t17 == 0) = (!x5_4)) = true := by simpa using c80))
          (try (have c80b2 : ((t17 == 0) == (!x5_4)) = true := by simpa using c80))
          clear c80
          obtain ⟨Ao2, co2, eo2⟩ := Kd.R_slice HO_1.out
          subst eo2
          go_upto_region 27 with (first | ((with_reducible refine gate_callee (f := 28) rfl ?_); refine Cz.gL (N := (some 136)) Try.func28 #[.slice Ao2 x4_4.length co2] ?_; (with_reducible refine (stream_Read.calls _ _ x4_4 t13 t14 t15 t16 t17 _ ?side0 ?side1 A10.out).mono ?_); (case side0 => repeat (first | exact (Kd.R_reads' HO_1.out).2.2 | (with_reducible refine Kd.C_alloc ?_ _) | (with_reducible refine Kd.C_drewN ?_ _) | (with_reducible refine Kd.C_drew ?_))); (case side1 => exact (Kd.R_reads' HO_1.out).2.1); rintro e w9 ⟨v6, rfl, ho0, hb⟩; refine ⟨_, rfl, ?_⟩; have HO4 := Aside0.mk (Kd.R_lower (Kd.R_new' (Kd.R_new' ho0 (Kd.R_lt (by (with_reducible repeat (first | apply Kd.R_alloc | apply Kd.R_drewN | apply Kd.R_drew)); exact HO_1.out))) (Kd.R_lt (by (with_reducible repeat (first | apply Kd.R_alloc | apply Kd.R_drewN | apply Kd.R_drew)); exact HO_2.out))) (below_size (Cz.bl (w := w)))); replace HO_1 := Cz.rb HO_1 hb; replace HO_2 := Cz.rb HO_2 hb; replace BK0 := Cz.bk BK0 hb; replace BK1 := Cz.bk BK1 hb; replace HB := Cz.bs (w := w) hb; (try clear hb); (try clear ho0)) | ((with_reducible refine gate_dst (N := 25) rfl ?_); (try (refine gate_guard (by rfl) ?_; dsimp only)); refine Cz.bx (N := 25) #[.int .i64 0, .int .i64 0, .int .i64 0, .slice none 0 0] 24 ?_; intro gb2 hg w10 hbox hb; have BK2 := Aside0.mk (hbox); have GW2 := Aside0.mk ((Cz.gs hg : w.heap.size ≤ gb2)); have GE2 := GW2; have NB0_349 := Aside0.mk ((Cz.nl BK0 hg : gb0 ≠ gb2)); have NB2_295 := Aside0.mk ((Cz.nr BK0 hg : gb2 ≠ gb0)); have NB1_349 := Aside0.mk ((Cz.nl BK1 hg : gb1 ≠ gb2)); have NB2_339 := Aside0.mk ((Cz.nr BK1 hg : gb2 ≠ gb1)); replace HO_1 := Cz.rb HO_1 hb; replace HO_2 := Cz.rb HO_2 hb; replace HO4 := Cz.rb HO4 hb; replace BK0 := Cz.bk BK0 hb; replace BK1 := Cz.bk BK1 hb; replace HB := Cz.bs (w := w) hb; clear hb hbox hg; have hnb1 := NB2_295.out; have hnc1 := NB0_349.out; have hnb2 := NB2_339.out; have hnc2 := NB1_349.out; obtain ⟨z6_0, z6_1, z6_2, z6_3, y9_0, y9_1, y9_2, y9_3⟩ := Cz.d4 BK2; obtain ⟨Ao3, co3, eo3⟩ := Kd.R_slice HO4.out; subst eo3) | ((with_reducible refine gate_callee (f := 17) rfl ?_); refine Cz.gL (N := (some 141)) Try.func17 #[.slice Ao2 x4_4.length co2] ?_; (with_reducible refine (stream_Begin.calls _ _ x4_4 t18 t19 t20 t21 t22 _ ?side0 ?side1 A12.out).mono ?_); (case side0 => refine (Kd.R_reads' (e := 5) (base := w.heap.size) (ok := fun k_ => some k_ ≠ (.slice Ao1 t7.length co1 : Value).ownBlock) (n := x4_4.length) (c := co2) ?_).2.2; exact (by (with_reducible repeat (first | apply Kd.R_alloc | apply Kd.R_drewN | apply Kd.R_drew)); exact (Kd.R_mono (Cz.rf (Cz.rf (Cz.rf (Cz.rf (Kd.R_types HO_1.out BK2.out (by decide)))))) (fun _ h_ => h_.1)))); (case side1 => exact (Kd.R_reads' HO_1.out).2.1); rintro e w11 ⟨v7, rfl, ho0, hb⟩; refine ⟨_, rfl, ?_⟩; have HO5 := Aside0.mk (Kd.R_lower (Kd.R_new' (Kd.R_new' (Kd.R_new' ho0 (Kd.R_lt (by (with_reducible repeat (first | apply Kd.R_alloc | apply Kd.R_drewN | apply Kd.R_drew)); exact (Kd.R_mono (Cz.rf (Cz.rf (Cz.rf (Cz.rf (Kd.R_types HO_1.out BK2.out (by decide)))))) (fun _ h_ => h_.1))))) (Kd.R_lt (by (with_reducible repeat (first | apply Kd.R_alloc | apply Kd.R_drewN | apply Kd.R_drew)); exact (Kd.R_mono (Cz.rf (Cz.rf (Cz.rf (Cz.rf (Kd.R_types HO_2.out BK2.out (by decide)))))) (fun _ h_ => h_.1))))) (Kd.R_lt (by (with_reducible repeat (first | apply Kd.R_alloc | apply Kd.R_drewN | apply Kd.R_drew)); exact (Kd.R_mono (Cz.rf (Cz.rf (Cz.rf (Cz.rf (Kd.R_types HO4.out BK2.out (by decide)))))) (fun _ h_ => h_.1))))) (below_size (Cz.bl (w := w)))); replace HO_1 := Aside0.mk (Kd.R_below (by (with_reducible repeat (first | apply Kd.R_alloc | apply Kd.R_drewN | apply Kd.R_drew)); exact (Kd.R_mono (Cz.rf (Cz.rf (Cz.rf (Cz.rf (Kd.R_types HO_1.out BK2.out (by decide)))))) (fun _ h_ => h_.1))) hb); replace HO_2 := Aside0.mk (Kd.R_below (by (with_reducible repeat (first | apply Kd.R_alloc | apply Kd.R_drewN | apply Kd.R_drew)); exact (Kd.R_mono (Cz.rf (Cz.rf (Cz.rf (Cz.rf (Kd.R_types HO_2.out BK2.out (by decide)))))) (fun _ h_ => h_.1))) hb); replace HO4 := Aside0.mk (Kd.R_elder' (by (with_reducible repeat (first | apply Kd.R_alloc | apply Kd.R_drewN | apply Kd.R_drew)); exact (Kd.R_mono (Cz.rf (Cz.rf (Cz.rf (Cz.rf (Kd.R_types HO4.out BK2.out (by decide)))))) (fun _ h_ => h_.1))) (Kd.R_base ho0) hb); replace BK0 := Aside0.mk (blk_below (g := gb0) (o := .cells #[.int .i64 a0_0, .int .i64 a0_1, .int .i64 a0_2, .slice A0_3 l0_3.length c0_3] 24 (0, 0)) (by (with_reducible repeat (first | refine blk_drewN ?_ _ | refine blk_drew ?_ | refine blk_alloc ?_ _)); refine blk_far ?_ NB0_349.out _; refine blk_far ?_ NB0_349.out _; refine blk_far ?_ NB0_349.out _; refine blk_far ?_ NB0_349.out _; (with_reducible repeat (first | refine blk_drewN ?_ _ | refine blk_drew ?_ | refine blk_alloc ?_ _)); exact BK0.out) hb); replace BK1 := Aside0.mk (blk_below (g := gb1) (o := .cells #[.int .i64 t4, .int .i64 t5, .int .i64 t6, .slice Ao1 t7.length co1, .int .i64 t8, .int .i64 t9, .int .i64 t10] 38 (0, 0)) (by (with_reducible repeat (first | refine blk_drewN ?_ _ | refine blk_drew ?_ | refine blk_alloc ?_ _)); refine blk_far ?_ NB1_349.out _; refine blk_far ?_ NB1_349.out _; refine blk_far ?_ NB1_349.out _; refine blk_far ?_ NB1_349.out _; (with_reducible repeat (first | refine blk_drewN ?_ _ | refine blk_drew ?_ | refine blk_alloc ?_ _)); exact BK1.out) hb); replace BK2 := Aside0.mk (blk_below (g := gb2) (o := .cells #[.int .i64 t13, .int .i64 t14, .int .i64 t15, .slice Ao3 t16.length co3] 24 (0, 0)) (by (with_reducible repeat (first | refine blk_drewN ?_ _ | refine blk_drew ?_ | refine blk_alloc ?_ _)); apply Cz.a4; (with_reducible repeat (first | refine blk_drewN ?_ _ | refine blk_drew ?_ | refine blk_alloc ?_ _)); exact BK2.out) hb); replace HB := Cz.bs (w := w) hb; (try clear hb); (try clear hk); (try clear ho0)) | ((with_reducible refine gate_dst (N := 27) rfl ?_); (try (refine gate_guard (by rfl) ?_; dsimp only)); refine Cz.bx (N := 27) #[.int .i64 0, .int .i64 0, .int .i64 0, .slice none 0 0] 24 ?_; intro gb3 hg w12 hbox hb; have BK3 := Aside0.mk (hbox); have GW3 := Aside0.mk ((Cz.gs hg : w.heap.size ≤ gb3)); have GE3 := GW3; have NB0_357 := Aside0.mk ((Cz.nl BK0 hg : gb0 ≠ gb3)); have NB3_295 := Aside0.mk ((Cz.nr BK0 hg : gb3 ≠ gb0)); have NB1_357 := Aside0.mk ((Cz.nl BK1 hg : gb1 ≠ gb3)); have NB3_339 := Aside0.mk ((Cz.nr BK1 hg : gb3 ≠ gb1)); have NB2_357 := Aside0.mk ((Cz.nl BK2 hg : gb2 ≠ gb3)); have NB3_349 := Aside0.mk ((Cz.nr BK2 hg : gb3 ≠ gb2)); replace HO_1 := Cz.rb HO_1 hb; replace HO_2 := Cz.rb HO_2 hb; replace HO4 := Cz.rb HO4 hb; replace HO5 := Cz.rb HO5 hb; replace BK0 := Cz.bk BK0 hb; replace BK1 := Cz.bk BK1 hb; replace BK2 := Cz.bk BK2 hb; replace HB := Cz.bs (w := w) hb; clear hb hbox hg; have hnb3 := NB3_295.out; have hnc3 := NB0_357.out; have hnb4 := NB3_339.out; have hnc4 := NB1_357.out; have hnb5 := NB3_349.out; have hnc5 := NB2_357.out; obtain ⟨z7_0, z7_1, z7_2, z7_3, y10_0, y10_1, y10_2, y10_3⟩ := Cz.d4 BK3; obtain ⟨Ao4, co4, eo4⟩ := Kd.R_slice HO5.out; subst eo4))
          by_cases c30 : x5_4 = true
          focus
           subst c30
           rw [if_pos rfl] at H
          rotate_left
          focus
           replace c30 := Bool.eq_false_iff.mpr c30
           subst c30
           rw [if_neg (show ¬ (false = true) by decide)] at H
          rotate_left
          all_goals
           (have HRT := Aside0.mk (Option.some.inj H); clear H)
           (try have z_ : (t17 == 0) = false := by simpa using c80b0)
           (try have z_ : (t17 == 0) = true := by simpa using c80b0)
           go_wp2
           go_ret
           exact ⟨by first | rfl | (exact congrArg (fun z_ => Ending.returned (Value.bool z_)) HRT.out) | (rw [HRT.out]; done) | (simp [errW_none, errW_some] <;> rfl) | (simp [*, errW_none, errW_some] <;> rfl), Cz.bl (w := w)⟩
         rw [if_pos c27] at H
         have c27b0 : decide (x6_4 < 32) = true := decide_eq_true c27
         clear c27
         obtain ⟨ji0, hji0⟩ : ∃ j_ : Int, (IntKind.u64.wrap (x6_4)) = j_ := ⟨_, rfl⟩
         replace H : (if 0 ≤ (ji0) then (if (Int.tmod (shr .u32 a3 (ji0)) 2) = 1 then (if (wrap64 (Int.tdiv (wrap64 ((Int.tmod (wrap64 (a2)) (wrap64 ((wrap64 (8 * t11)) - 31))) + x6_4)) 8)) = 1 then (waggonerlaw17_StreamTurns.l1 k4 a3 t0 x4_4 x1_17 (Int.tmod (wrap64 (a2)) (wrap64 ((wrap64 (8 * t11)) - 31))) x5_4 (wrap64 (x6_4 + 1))) else (if (wrap64 (Int.tdiv (wrap64 ((Int.tmod (wrap64 (a2)) (wrap64 ((wrap64 (8 * t11)) - 31))) + x6_4)) 8)) = 2 then (waggonerlaw17_StreamTurns.l1 k4 a3 t0 x4_4 x1_17 (Int.tmod (wrap64 (a2)) (wrap64 ((wrap64 (8 * t11)) - 31))) x5_4 (wrap64 (x6_4 + 1))) else (if 0 ≤ (wrap64 (x1_17 + (wrap64 (Int.tdiv (wrap64 ((Int.tmod (wrap64 (a2)) (wrap64 ((wrap64 (8 * t11)) - 31))) + x6_4)) 8)))) then (if (wrap64 (x1_17 + (wrap64 (Int.tdiv (wrap64 ((Int.tmod (wrap64 (a2)) (wrap64 ((wrap64 (8 * t11)) - 31))) + x6_4)) 8)))) < (x4_4.length : Int) then (if 0 ≤ (IntKind.u64.wrap (Int.tmod (wrap64 ((Int.tmod (wrap64 (a2)) (wrap64 ((wrap64 (8 * t11)) - 31))) + x6_4)) 8)) then (waggonerlaw17_StreamTurns.l1 k4 a3 t0 (x4_4.set ((wrap64 (x1_17 + (wrap64 (Int.tdiv (wrap64 ((Int.tmod (wrap64 (a2)) (wrap64 ((wrap64 (8 * t11)) - 31))) + x6_4)) 8)))) : Int).toNat (Go.bits .xor .u8 (rd x4_4 (wrap64 (x1_17 + (wrap64 (Int.tdiv (wrap64 ((Int.tmod (wrap64 (a2)) (wrap64 ((wrap64 (8 * t11)) - 31))) + x6_4)) 8))))) (shl .u8 1 (IntKind.u64.wrap (Int.tmod (wrap64 ((Int.tmod (wrap64 (a2)) (wrap64 ((wrap64 (8 * t11)) - 31))) + x6_4)) 8))))) x1_17 (Int.tmod (wrap64 (a2)) (wrap64 ((wrap64 (8 * t11)) - 31))) true (wrap64 (x6_4 + 1))) else (none)) else (none)) else (none)))) else (waggonerlaw17_StreamTurns.l1 k4 a3 t0 x4_4 x1_17 (Int.tmod (wrap64 (a2)) (wrap64 ((wrap64 (8 * t11)) - 31))) x5_4 (wrap64 (x6_4 + 1)))) else (none)) = some true := by first | (rw [hji0] at H; exact H) | (simp only [hji0] at H ⊢; exact H)
         by_cases c29 : 0 ≤ (ji0)
         rotate_left
         ·rw [if_neg c29] at H
          exact absurd H (by simp)
         rw [if_pos c29] at H
         have c29b0 := eq_true c29
         have c29b1 : decide (0 ≤ (ji0)) = true := decide_eq_true c29
         clear c29
         obtain ⟨ji1, hji1⟩ : ∃ j_ : Int, (shr .u32 a3 (ji0)) = j_ := ⟨_, rfl⟩
         replace H : (if (Int.tmod (ji1) 2) = 1 then (if (wrap64 (Int.tdiv (wrap64 ((Int.tmod (wrap64 (a2)) (wrap64 ((wrap64 (8 * t11)) - 31))) + x6_4)) 8)) = 1 then (waggonerlaw17_StreamTurns.l1 k4 a3 t0 x4_4 x1_17 (Int.tmod (wrap64 (a2)) (wrap64 ((wrap64 (8 * t11)) - 31))) x5_4 (wrap64 (x6_4 + 1))) else (if (wrap64 (Int.tdiv (wrap64 ((Int.tmod (wrap64 (a2)) (wrap64 ((wrap64 (8 * t11)) - 31))) + x6_4)) 8)) = 2 then (waggonerlaw17_StreamTurns.l1 k4 a3 t0 x4_4 x1_17 (Int.tmod (wrap64 (a2)) (wrap64 ((wrap64 (8 * t11)) - 31))) x5_4 (wrap64 (x6_4 + 1))) else (if 0 ≤ (wrap64 (x1_17 + (wrap64 (Int.tdiv (wrap64 ((Int.tmod (wrap64 (a2)) (wrap64 ((wrap64 (8 * t11)) - 31))) + x6_4)) 8)))) then (if (wrap64 (x1_17 + (wrap64 (Int.tdiv (wrap64 ((Int.tmod (wrap64 (a2)) (wrap64 ((wrap64 (8 * t11)) - 31))) + x6_4)) 8)))) < (x4_4.length : Int) then (if 0 ≤ (IntKind.u64.wrap (Int.tmod (wrap64 ((Int.tmod (wrap64 (a2)) (wrap64 ((wrap64 (8 * t11)) - 31))) + x6_4)) 8)) then (waggonerlaw17_StreamTurns.l1 k4 a3 t0 (x4_4.set ((wrap64 (x1_17 + (wrap64 (Int.tdiv (wrap64 ((Int.tmod (wrap64 (a2)) (wrap64 ((wrap64 (8 * t11)) - 31))) + x6_4)) 8)))) : Int).toNat (Go.bits .xor .u8 (rd x4_4 (wrap64 (x1_17 + (wrap64 (Int.tdiv (wrap64 ((Int.tmod (wrap64 (a2)) (wrap64 ((wrap64 (8 * t11)) - 31))) + x6_4)) 8))))) (shl .u8 1 (IntKind.u64.wrap (Int.tmod (wrap64 ((Int.tmod (wrap64 (a2)) (wrap64 ((wrap64 (8 * t11)) - 31))) + x6_4)) 8))))) x1_17 (Int.tmod (wrap64 (a2)) (wrap64 ((wrap64 (8 * t11)) - 31))) true (wrap64 (x6_4 + 1))) else (none)) else (none)) else (none)))) else (waggonerlaw17_StreamTurns.l1 k4 a3 t0 x4_4 x1_17 (Int.tmod (wrap64 (a2)) (wrap64 ((wrap64 (8 * t11)) - 31))) x5_4 (wrap64 (x6_4 + 1)))) = some true := by first | (rw [hji1] at H; exact H) | (simp only [hji1] at H ⊢; exact H)
         have hji1_ : (a3 / 2 ^ min (ji0).toNat 32) = ji1 := hji1
         have hji1z : (ji0) ≤ 32 → (a3 / 2 ^ (ji0).toNat) = ji1 := shr_small hji1
         by_cases c30 : (Int.tmod (ji1) 2) = 1
         rotate_left
         ·rw [if_neg c30] at H
          have c30b0 : ((Int.tmod (ji1) 2) == 1) = false := beq_eq_false_iff_ne.mpr c30
          have c30b1 : ((Int.tmod (ji1) 2) != 1) = true := bne_iff_ne.mpr c30
          have H' := Aside0.mk H
          clear H
          go_wp2
          go_roundg k4
          case measure => have := HJ0.out; have := HJ1.out; have := HJ2.out; have := HK1.out; omega
          case rel => exact ⟨(x4_4), (x5_4), (wrap64 (x6_4 + 1)), Cz.si, Cz.si, H', ⟨by have := HJ0.out; have := HJ1.out; have := HJ2.out; have := HK1.out; omega⟩, ⟨by (with_reducible repeat (first | apply Kd.R_alloc | apply Kd.R_drewN | apply Kd.R_drew)); exact HO_1.out⟩, ⟨by (with_reducible repeat (first | apply Kd.R_alloc | apply Kd.R_drewN | apply Kd.R_drew)); exact HO_2.out⟩, ⟨by (with_reducible repeat (first | refine blk_drewN ?_ _ | refine blk_drew ?_ | refine blk_alloc ?_ _)); exact BK0.out⟩, ⟨by (with_reducible repeat (first | refine blk_drewN ?_ _ | refine blk_drew ?_ | refine blk_alloc ?_ _)); exact BK1.out⟩, ⟨Cz.bl (w := w)⟩⟩
         rw [if_pos c30] at H
         have c30b0 : ((Int.tmod (ji1) 2) == 1) = true := beq_iff_eq.mpr c30
         have c30b1 : ((Int.tmod (ji1) 2) != 1) = false := bne_eq_false_iff_eq.mpr c30
         clear c30
         by_cases c31 : (wrap64 (Int.tdiv (wrap64 ((Int.tmod (wrap64 (a2)) (wrap64 ((wrap64 (8 * t11)) - 31))) + x6_4)) 8)) = 1
         ·rw [if_pos c31] at H
          have c31b0 : ((wrap64 (Int.tdiv (wrap64 ((Int.tmod (wrap64 (a2)) (wrap64 ((wrap64 (8 * t11)) - 31))) + x6_4)) 8)) == 1) = true := beq_iff_eq.mpr c31
          have c31b1 : ((wrap64 (Int.tdiv (wrap64 ((Int.tmod (wrap64 (a2)) (wrap64 ((wrap64 (8 * t11)) - 31))) + x6_4)) 8)) != 1) = false := bne_eq_false_iff_eq.mpr c31
          clear c31
          have H' := Aside0.mk H
          clear H
          go_wp2
          go_roundg k4
          case measure => have := HJ0.out; have := HJ1.out; have := HJ2.out; have := HK1.out; omega
          case rel => exact ⟨(x4_4), (x5_4), (wrap64 (x6_4 + 1)), Cz.si, Cz.si, H', ⟨by have := HJ0.out; have := HJ1.out; have := HJ2.out; have := HK1.out; omega⟩, ⟨by (with_reducible repeat (first | apply Kd.R_alloc | apply Kd.R_drewN | apply Kd.R_drew)); exact HO_1.out⟩, ⟨by (with_reducible repeat (first | apply Kd.R_alloc | apply Kd.R_drewN | apply Kd.R_drew)); exact HO_2.out⟩, ⟨by (with_reducible repeat (first | refine blk_drewN ?_ _ | refine blk_drew ?_ | refine blk_alloc ?_ _)); exact BK0.out⟩, ⟨by (with_reducible repeat (first | refine blk_drewN ?_ _ | refine blk_drew ?_ | refine blk_alloc ?_ _)); exact BK1.out⟩, ⟨Cz.bl (w := w)⟩⟩
         rw [if_neg c31] at H
         have c31b0 : ((wrap64 (Int.tdiv (wrap64 ((Int.tmod (wrap64 (a2)) (wrap64 ((wrap64 (8 * t11)) - 31))) + x6_4)) 8)) == 1) = false := beq_eq_false_iff_ne.mpr c31
         have c31b1 : ((wrap64 (Int.tdiv (wrap64 ((Int.tmod (wrap64 (a2)) (wrap64 ((wrap64 (8 * t11)) - 31))) + x6_4)) 8)) != 1) = true := bne_iff_ne.mpr c31
         by_cases c33 : (wrap64 (Int.tdiv (wrap64 ((Int.tmod (wrap64 (a2)) (wrap64 ((wrap64 (8 * t11)) - 31))) + x6_4)) 8)) = 2
         ·rw [if_pos c33] at H
          have c33b0 : ((wrap64 (Int.tdiv (wrap64 ((Int.tmod (wrap64 (a2)) (wrap64 ((wrap64 (8 * t11)) - 31))) + x6_4)) 8)) == 2) = true := beq_iff_eq.mpr c33
          have c33b1 : ((wrap64 (Int.tdiv (wrap64 ((Int.tmod (wrap64 (a2)) (wrap64 ((wrap64 (8 * t11)) - 31))) + x6_4)) 8)) != 2) = false := bne_eq_false_iff_eq.mpr c33
          clear c33
          have H' := Aside0.mk H
          clear H
          go_wp2
          go_roundg k4
          case measure => have := HJ0.out; have := HJ1.out; have := HJ2.out; have := HK1.out; omega
          case rel => exact ⟨(x4_4), (x5_4), (wrap64 (x6_4 + 1)), Cz.si, Cz.si, H', ⟨by have := HJ0.out; have := HJ1.out; have := HJ2.out; have := HK1.out; omega⟩, ⟨by (with_reducible repeat (first | apply Kd.R_alloc | apply Kd.R_drewN | apply Kd.R_drew)); exact HO_1.out⟩, ⟨by (with_reducible repeat (first | apply Kd.R_alloc | apply Kd.R_drewN | apply Kd.R_drew)); exact HO_2.out⟩, ⟨by (with_reducible repeat (first | refine blk_drewN ?_ _ | refine blk_drew ?_ | refine blk_alloc ?_ _)); exact BK0.out⟩, ⟨by (with_reducible repeat (first | refine blk_drewN ?_ _ | refine blk_drew ?_ | refine blk_alloc ?_ _)); exact BK1.out⟩, ⟨Cz.bl (w := w)⟩⟩
         rw [if_neg c33] at H
         have c33b0 : ((wrap64 (Int.tdiv (wrap64 ((Int.tmod (wrap64 (a2)) (wrap64 ((wrap64 (8 * t11)) - 31))) + x6_4)) 8)) == 2) = false := beq_eq_false_iff_ne.mpr c33
         have c33b1 : ((wrap64 (Int.tdiv (wrap64 ((Int.tmod (wrap64 (a2)) (wrap64 ((wrap64 (8 * t11)) - 31))) + x6_4)) 8)) != 2) = true := bne_iff_ne.mpr c33
         obtain ⟨ji2, hji2⟩ : ∃ j_ : Int, (wrap64 (x1_17 + (wrap64 (Int.tdiv (wrap64 ((Int.tmod (wrap64 (a2)) (wrap64 ((wrap64 (8 * t11)) - 31))) + x6_4)) 8)))) = j_ := ⟨_, rfl⟩
         replace H : (if 0 ≤ (ji2) then (if (ji2) < (x4_4.length : Int) then (if 0 ≤ (IntKind.u64.wrap (Int.tmod (wrap64 ((Int.tmod (wrap64 (a2)) (wrap64 ((wrap64 (8 * t11)) - 31))) + x6_4)) 8)) then (waggonerlaw17_StreamTurns.l1 k4 a3 t0 (x4_4.set ((ji2) : Int).toNat (Go.bits .xor .u8 (rd x4_4 (ji2)) (shl .u8 1 (IntKind.u64.wrap (Int.tmod (wrap64 ((Int.tmod (wrap64 (a2)) (wrap64 ((wrap64 (8 * t11)) - 31))) + x6_4)) 8))))) x1_17 (Int.tmod (wrap64 (a2)) (wrap64 ((wrap64 (8 * t11)) - 31))) true (wrap64 (x6_4 + 1))) else (none)) else (none)) else (none)) = some true := by first | (rw [hji2] at H; exact H) | (simp only [hji2] at H ⊢; exact H)
         have hji2w : (IntKind.i64.wrap (x1_17 + (wrap64 (Int.tdiv (wrap64 ((Int.tmod (wrap64 (a2)) (wrap64 ((wrap64 (8 * t11)) - 31))) + x6_4)) 8)))) = ji2 := (i64_w _).trans hji2
         by_cases c34 : 0 ≤ (ji2)
         rotate_left
         ·rw [if_neg c34] at H
          exact absurd H (by simp)
         rw [if_pos c34] at H
         have c34b0 : decide (0 ≤ (ji2)) = true := decide_eq_true c34
         clear c34
         by_cases c35 : (ji2) < (x4_4.length : Int)
         rotate_left
         ·rw [if_neg c35] at H
          exact absurd H (by simp)
         rw [if_pos c35] at H
         have c35b0 : decide ((ji2) < (x4_4.length : Int)) = true := decide_eq_true c35
         clear c35
         obtain ⟨ji3, hji3⟩ : ∃ j_ : Int, (IntKind.u64.wrap (Int.tmod (wrap64 ((Int.tmod (wrap64 (a2)) (wrap64 ((wrap64 (8 * t11)) - 31))) + x6_4)) 8)) = j_ := ⟨_, rfl⟩
         replace H : (if 0 ≤ (ji3) then (waggonerlaw17_StreamTurns.l1 k4 a3 t0 (x4_4.set ((ji2) : Int).toNat (Go.bits .xor .u8 (rd x4_4 (ji2)) (shl .u8 1 (ji3)))) x1_17 (Int.tmod (wrap64 (a2)) (wrap64 ((wrap64 (8 * t11)) - 31))) true (wrap64 (x6_4 + 1))) else (none)) = some true := by first | (rw [hji3] at H; exact H) | (simp only [hji3] at H ⊢; exact H)
         by_cases c36 : 0 ≤ (ji3)
         rotate_left
         ·rw [if_neg c36] at H
          exact absurd H (by simp)
         rw [if_pos c36] at H
         have c36b0 := eq_true c36
         have c36b1 : decide (0 ≤ (ji3)) = true := decide_eq_true c36
         clear c36
         obtain ⟨ji4, hji4⟩ : ∃ j_ : Int, (shl .u8 1 (ji3)) = j_ := ⟨_, rfl⟩
         replace H : (waggonerlaw17_StreamTurns.l1 k4 a3 t0 (x4_4.set ((ji2) : Int).toNat (Go.bits .xor .u8 (rd x4_4 (ji2)) (ji4))) x1_17 (Int.tmod (wrap64 (a2)) (wrap64 ((wrap64 (8 * t11)) - 31))) true (wrap64 (x6_4 + 1))) = some true := by first | (rw [hji4] at H; exact H) | (simp only [hji4] at H ⊢; exact H)
         have hji4_ : (IntKind.u8.wrap (1 * 2 ^ min (ji3).toNat 8)) = ji4 := hji4
         have hji4z : (ji3) ≤ 8 → (IntKind.u8.wrap (1 * 2 ^ (ji3).toNat)) = ji4 := shl_small hji4
         have hji4u : (IntKind.u8.wrap (2 ^ min (ji3).toNat 8)) = ji4 := by have h_ := hji4_; rw [Int.one_mul] at h_; exact h_
         have hji4v : (ji3) ≤ 8 → (IntKind.u8.wrap (2 ^ (ji3).toNat)) = ji4 := fun hle_ => by have h_ := hji4z hle_; rw [Int.one_mul] at h_; exact h_
         obtain ⟨y9, hy4⟩ : ∃ y_ : List Int, y_ = (x4_4.set ((ji2) : Int).toNat (Go.bits .xor .u8 (rd x4_4 (ji2)) (ji4))) := ⟨_, rfl⟩
         replace H : (waggonerlaw17_StreamTurns.l1 k4 a3 t0 y9 x1_17 (Int.tmod (wrap64 (a2)) (wrap64 ((wrap64 (8 * t11)) - 31))) true (wrap64 (x6_4 + 1))) = some true := by first | (rw [hy4]; with_reducible exact H) | (have H0_ := (Option.bind_some _ _).symm.trans H; rw [hy4]; with_reducible exact H0_) | (have H0_ := (Option.bind_some _ _).symm.trans H; with_reducible exact H0_) | with_reducible exact H | (rw [hy4]; exact H) | exact H
         have Ny3 := Aside0.mk hy4
         clear hy4
         have H' := Aside0.mk H
         clear H
         obtain ⟨Ao2, co2, eo2⟩ := Kd.R_slice HO_1.out
         subst eo2
         have p1 : 0 ≤ ((ji2) : Int) := of_decide_eq_true (by first | (with_reducible assumption) | assumption)
         have q12 : (ji2) < (x4_4.length : Int) := of_decide_eq_true (by first | (with_reducible assumption) | assumption)
         obtain ⟨ad0, e0, hx0_0⟩ := Kd.at_int (Kd.R_reads' HO_1.out).2.2 (ji2) p1 q12
         cases e0
         replace p1 := eq_true p1
         replace q12 := eq_true q12
         have p3 : 0 ≤ ((ji2) : Int) := of_decide_eq_true (by first | (with_reducible assumption) | assumption)
         have q13 : ((ji2) : Int) < ((x4_4.length : Int) : Int) := of_decide_eq_true (by first | (with_reducible assumption) | assumption)
         obtain ⟨go0, co3, eo3, gb2, gl0, cl0, HG0⟩ := Kd.R_form HO_1.out (by omega)
         (first | cases eo3 | (injection eo3 with ea_ en_ ec_; (first | subst ea_ | (injection ea_ with ea_; subst ea_)); subst ec_; clear en_))
         have GB0 := Aside0.mk gb2
         have GG0 := Aside0.mk HG0
         clear gb2 gl0 HG0
         (first | simp only [add_plain] at hx0_0 | skip)
         obtain ⟨hx1_0, hf0_0⟩ := Kd.R_celln 0 HO_1.out ((ji2) : Int) p3 q13
         replace p3 := eq_true p3
         replace q13 := eq_true q13
         have HP0 := Kd.R_putg HO_1.out ((ji2) : Int) (Go.bits .xor .u8 (rd x4_4 (ji2)) (ji4))
         go_wp2_with (first | ((with_reducible refine gate_store (t := 5) (p := 133) rfl ?_); refine store_event (t := 5) (p := 133) (v := ?vo_w0) (w1 := (wr.setCell ⟨go0, ((ji2) : Int).toNat, none⟩ (.int .u8 (Go.bits .xor .u8 (rd x4_4 (ji2)) (ji4))))) ?hg ?ho ?hn ?hr ?_; (case ho => rfl); (case hg => rfl); (case hn => rfl); (case hr => first | (go_simp; done) | (go_simp; rfl)); intro w9 hw; have hg : wr.grownBy w9 (some go0) := (by rw [hw]; exact HP0.2); have hp_ : Kd.R (Kd.int .u8) 5 w9 w.heap.size (fun k_ => some k_ ≠ (.slice Ao1 t7.length co1 : Value).ownBlock) (.slice (some ⟨go0, 0, none⟩) x4_4.length co2) y9 := (by rw [hw, Ny3.out]; exact HP0.1); clear HP0; have n0_ := Aside0.mk (hp_); have n1_ := Aside0.mk (Kd.R_after (v := (.slice (some ⟨go0, 0, none⟩) x4_4.length co2)) (v1 := (.slice (some ⟨go0, 0, none⟩) x4_4.length co2)) (ok := (fun _ => True)) (by (with_reducible repeat (first | apply Kd.R_alloc | apply Kd.R_drewN | apply Kd.R_drew)); exact Kd.R_mono HO_2.out (fun _ hk => ⟨trivial, hk⟩)) hg (.inl rfl)); have n2_ := Cz.bw BK0 hg (Kd.R_ne HO_1.out BK0.out (by decide)); have n3_ := Cz.bw BK1 hg (Kd.R_ne HO_1.out BK1.out (by decide)); have n4_ := Aside0.mk ((by rw [hw]; exact below_set (HB.out) GB0.out : Below w.heap.size w w9)); clear HO_1; clear HO_2; clear BK0; clear BK1; clear HB; have HO_1 := n0_; have HO_2 := n1_; have BK0 := n2_; have BK1 := n3_; have HB := n4_; clear n0_ n1_ n2_ n3_ n4_; clear hg hw hp_))
         go_roundg k4
         case measure => have := HJ0.out; have := HJ1.out; have := HJ2.out; have := HK1.out; omega
         case rel => exact ⟨(y9), (true), (wrap64 (x6_4 + 1)), Cz.si, Cz.si, H', ⟨by have := HJ0.out; have := HJ1.out; have := HJ2.out; have := HK1.out; omega⟩, ⟨by (with_reducible repeat (first | apply Kd.R_alloc | apply Kd.R_drewN | apply Kd.R_drew)); exact HO_1.out⟩, ⟨by (with_reducible repeat (first | apply Kd.R_alloc | apply Kd.R_drewN | apply Kd.R_drew)); exact Kd.R_mono HO_2.out (fun _ hk => hk.2)⟩, ⟨by (with_reducible repeat (first | refine blk_drewN ?_ _ | refine blk_drew ?_ | refine blk_alloc ?_ _)); exact BK0.out⟩, ⟨by (with_reducible repeat (first | refine blk_drewN ?_ _ | refine blk_drew ?_ | refine blk_alloc ?_ _)); exact BK1.out⟩, ⟨Cz.bl (w := w)⟩⟩
end Go.Proofs.Ytohkmmbmfhficaa.PT
