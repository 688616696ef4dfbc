/- Words and walks that this claim names, of those that the kit's print and programs of this workplace have printed. -/
import Derived.Test.YtmgohkffphogdaaZUPUx15
import Derived.Test.YtmgohkffphogdaaZUPUx18
import Derived.Test.YtmgohkffphogdaaZUPUx24
import Derived.Test.YtmgohkffphogdaaZUPUx32
namespace Go.Proofs.Ytmgohkffphogdaa.PU
open Go.RowKit Go.Proofs.YtmgohkffphogdaaW.PrintWords Go.Proofs.YtmgohkffphogdaaW.PrintLast Go.Proofs.YtmgohkffphogdaaW.PrintMore
attribute [local go_sem] max2_int min2_int max_two min_two max_three min_three max_four min_four
set_option linter.unusedVariables false
set_option linter.unusedSimpArgs false
def change_Read_p.j0 : Nat → List Int → List Int → Bool → Int → Int → Int → Int → Option (Int × Int × Int × Int × List Int × (List (S39)) × Int)
 | 0, _, _, _, _, _, _, _ => none
 | k + 1, x0, x4, x28, x167000, x167001, x167002, x167003 => if x28 = true then (some (x167000, x167001, x167002, x167003, ([] : List Int), ([] : List (S39)), 100)) else (if 4 < (x4.length : Int) then (if 0 < (x4.length : Int) then (if 1 < (x4.length : Int) then (if 2 < (x4.length : Int) then (if 3 < (x4.length : Int) then (if 9 ≤ (wrap64 (9 + (wrap64 (rd x4 4)))) then (if (wrap64 (9 + (wrap64 (rd x4 4)))) ≤ (x0.length : Int) then ((bytes_Clone.f ((x0.take ((wrap64 (9 + (wrap64 (rd x4 4)))) : Int).toNat).drop 9)).bind fun t179 => (if 0 ≤ (wrap64 (9 + (wrap64 (rd x4 4)))) then (if (wrap64 (rd x4 0)) = 8 then ((extent_Read.f (x0.drop ((wrap64 (9 + (wrap64 (rd x4 4)))) : Int).toNat)).bind fun bt183 => (if bt183.2 = 0 then (if (([] : List Int).length : Int) > 0 then (some (0, 0, 0, 0, ([] : List Int), ([] : List (S39)), 100)) else ((change_Check.f (wrap64 (rd x4 0)) (wrap64 (rd x4 1)) (wrap64 (rd x4 2)) (wrap64 (rd x4 3)) t179 bt183.1).bind fun t187 => (if t187 = true then (some (wrap64 (rd x4 0), wrap64 (rd x4 1), wrap64 (rd x4 2), wrap64 (rd x4 3), t179, bt183.1, 0)) else (some (0, 0, 0, 0, ([] : List Int), ([] : List (S39)), 100))))) else (some (0, 0, 0, 0, ([] : List Int), ([] : List (S39)), 100)))) else (if ((x0.drop ((wrap64 (9 + (wrap64 (rd x4 4)))) : Int).toNat).length : Int) > 0 then (some (0, 0, 0, 0, ([] : List Int), ([] : List (S39)), 100)) else ((change_Check.f (wrap64 (rd x4 0)) (wrap64 (rd x4 1)) (wrap64 (rd x4 2)) (wrap64 (rd x4 3)) t179 ([] : List (S39))).bind fun t188 => (if t188 = true then (some (wrap64 (rd x4 0), wrap64 (rd x4 1), wrap64 (rd x4 2), wrap64 (rd x4 3), t179, ([] : List (S39)), 0)) else (some (0, 0, 0, 0, ([] : List Int), ([] : List (S39)), 100)))))) else (none))) else (none)) else (none)) else (none)) else (none)) else (none)) else (none)) else (none))
def change_Read_p.f (k : Nat) (l0 : List Int) : Option (Int × Int × Int × Int × List Int × (List (S39)) × Int) := if (l0.length : Int) < 9 then (some (0, 0, 0, 0, ([] : List Int), ([] : List (S39)), 100)) else (if 9 ≤ (l0.length : Int) then ((le_Unpack.f (⟨#[98, 98, 98, 119, 104]⟩ : ByteArray) (l0.take 9)).bind fun bt168 => (if bt168.2 = 0 then (if 4 < (bt168.1.length : Int) then (change_Read_p.j0 k l0 bt168.1 (decide ((wrap64 ((l0.length : Int) - 9)) < (wrap64 (rd bt168.1 4)))) 0 0 0 0) else (none)) else (change_Read_p.j0 k l0 bt168.1 true 0 0 0 0))) else (none))
def change_Read_p.T7 : Bool × List (List Nat × List Nat) := (true, [([], []), ([0], [0]), ([1], [1]), ([2], [2]), ([], []), ([4], [4]), ([5], [5]), ([6], [6]), ([], []), ([8], [8]), ([9], [9]), ([10], [10]), ([], []), ([12], [12]), ([13], [13]), ([14], [14]), ([], []), ([], []), ([], []), ([16, 17, 18], [16, 17, 18]), ([19], [19]), ([3, 7, 11, 15, 20], [3, 7, 11, 15, 20]), ([21, 20, 0, 1, 2, 3, 4, 5, 6, 7, 8, 9, 10, 11, 12, 13, 14, 15, 16, 17, 18, 19, 20, 21], [21])])
def change_Read_p.B7 : List Nat := [0, 1, 3, 7, 0, 16, 48, 112, 0, 256, 768, 1792, 0, 4096, 12288, 28672, 0, 0, 0, 458752, 983040, 2097151, 4194303]
theorem change_Read_p.tab7 : rtab .any (opsOf Try.f13 7) = change_Read_p.T7 := by kernel_rfl
theorem change_Read_p.bits7 : waitsOk change_Read_p.T7.2 change_Read_p.B7 = true := by kernel_rfl
set_option maxHeartbeats 8000000 in
set_option maxRecDepth 100000 in
theorem change_Read_p.calls (k : Nat) (A0 : Option Addr) (c0 : Nat) (l0 : List Int) (r1 : Int) (r2 : Int) (r3 : Int) (r4 : Int) (r5 : List Int) (r6 : List (S39)) (r7 : Int) (w : World) (hr0 : Kd.C (Kd.int .u8) w A0 l0.length l0) (hc0 : l0.length ≤ c0) (h : change_Read_p.f k l0 = some (r1, r2, r3, r4, r5, r6, r7)) :
  Calls Try.prog 13 #[.slice A0 l0.length c0] w fun e w' => ∃ v4_ v5_ : Value, e = .returned (.tuple #[.agg #[.int .i64 r1, .int .i64 r2, .int .i64 r3, .int .i64 r4, v4_, v5_], .int .i64 r7]) ∧ Kd.R (Kd.int .u8) 5 w' w.heap.size (fun _ => True) v4_ r5 ∧ Kd.S k39 39 w' w.heap.size (fun k_ => some k_ ≠ (v4_ : Value).ownBlock) v5_ r6 ∧ Below w.heap.size w w' := by
 have hu26 := Try.underlying26
 have HR0 := Aside0.mk hr0
 have HC0 := Aside0.mk hc0
 clear hr0 hc0
 have HB := Aside0.mk (Below.refl w.heap.size w)
 have H : (if (l0.length : Int) < 9 then (some (0, 0, 0, 0, ([] : List Int), ([] : List (S39)), 100)) else (if 9 ≤ (l0.length : Int) then ((le_Unpack.f (⟨#[98, 98, 98, 119, 104]⟩ : ByteArray) (l0.take 9)).bind fun bt168 => (if bt168.2 = 0 then (if 4 < (bt168.1.length : Int) then (change_Read_p.j0 k l0 bt168.1 (decide ((wrap64 ((l0.length : Int) - 9)) < (wrap64 (rd bt168.1 4)))) 0 0 0 0) else (none)) else (change_Read_p.j0 k l0 bt168.1 true 0 0 0 0))) else (none))) = some (r1, r2, r3, r4, r5, r6, r7) := h
 clear h
 by_cases c2 : (l0.length : Int) < 9
 ·rw [if_pos c2] at H
  have c2b0 : decide ((l0.length : Int) < 9) = true := decide_eq_true c2
  have c2b1 : decide (l0.length < 9) = true := decide_eq_true (by omega)
  clear c2
  simp only [Option.some.injEq, Prod.mk.injEq] at H
  obtain ⟨rfl, rfl, rfl, rfl, rfl, rfl, rfl⟩ := H
  go_enter Try.func13, Try.ntmps13
  go_wp2_with (first | ((with_reducible refine gate_dst (N := 2) rfl ?_); (try (refine gate_guard (by rfl) ?_; dsimp only)); refine box_event ?hg (N := 2) ?hd (cs := #[.int .i64 0, .int .i64 0, .int .i64 0, .int .i64 0, .slice none 0 0, .slice none 0 0]) (t := 26) ?hr ?_; (case hd => rfl); (case hg => rfl); (case hr => first | (go_simp; done) | (go_simp; rfl)); intro gb166 hg w3 hbox hb; have n0_ := Aside0.mk (below_step (by repeat (first | (with_reducible first | exact HB.out | apply below_alloc | apply pw_below_drewN | apply below_drew1) | exact HB.out)) hb); have n1_ := Aside0.mk (hbox); have n2_ := Aside0.mk ((by rw [hg]; exact (below_size (by repeat (first | (with_reducible first | exact HB.out | apply below_alloc | apply pw_below_drewN | apply below_drew1) | exact HB.out))) : w.heap.size ≤ gb166)); have n3_ := Aside0.mk ((by rw [hg]; exact (below_size (by repeat (first | (with_reducible first | exact HB.out | apply below_alloc | apply pw_below_drewN | apply below_drew1) | exact HB.out))) : w.heap.size ≤ gb166)); clear HB; have HB := n0_; have BK166 := n1_; have GW166 := n2_; have GE166 := n3_; clear n0_ n1_ n2_ n3_; clear hb hbox hg; have hcz4_0 : w3.cell? ⟨gb166, 0, none⟩ = some (.int .i64 0) := (blk_cell BK166.out 0).trans rfl; have hcz4_1 : w3.cell? ⟨gb166, 1, none⟩ = some (.int .i64 0) := (blk_cell BK166.out 1).trans rfl; have hcz4_2 : w3.cell? ⟨gb166, 2, none⟩ = some (.int .i64 0) := (blk_cell BK166.out 2).trans rfl; have hcz4_3 : w3.cell? ⟨gb166, 3, none⟩ = some (.int .i64 0) := (blk_cell BK166.out 3).trans rfl; have hcz4_4 : w3.cell? ⟨gb166, 4, none⟩ = some (.slice none 0 0) := (blk_cell BK166.out 4).trans rfl; have hcz4_5 : w3.cell? ⟨gb166, 5, none⟩ = some (.slice none 0 0) := (blk_cell BK166.out 5).trans rfl; have hfz4_0 := blk_frozen BK166.out 0; have hfz4_1 := blk_frozen BK166.out 1; have hfz4_2 := blk_frozen BK166.out 2; have hfz4_3 := blk_frozen BK166.out 3; have hfz4_4 := blk_frozen BK166.out 4; have hfz4_5 := blk_frozen BK166.out 5))
  refine bodyPost_ret (results_ct rfl _ _ gb166 26 #[.int .i64 0, .int .i64 0, .int .i64 0, .int .i64 0, .slice none 0 0, .slice none 0 0] (0, 0) _ rfl (by (with_reducible repeat (first | refine blk_drewN ?_ _ | refine blk_drew ?_ | refine blk_alloc ?_ _)); refine blk_put (cs := #[.int .i64 0, .int .i64 0, .int .i64 0, .int .i64 0, .slice none 0 0, .slice none 0 0]) ?_ 5 _ rfl; (with_reducible repeat (first | refine blk_drewN ?_ _ | refine blk_drew ?_ | refine blk_alloc ?_ _)); refine blk_put (cs := #[.int .i64 0, .int .i64 0, .int .i64 0, .int .i64 0, .slice none 0 0, .slice none 0 0]) ?_ 4 _ rfl; (with_reducible repeat (first | refine blk_drewN ?_ _ | refine blk_drew ?_ | refine blk_alloc ?_ _)); refine blk_put (cs := #[.int .i64 0, .int .i64 0, .int .i64 0, .int .i64 0, .slice none 0 0, .slice none 0 0]) ?_ 3 _ rfl; (with_reducible repeat (first | refine blk_drewN ?_ _ | refine blk_drew ?_ | refine blk_alloc ?_ _)); refine blk_put (cs := #[.int .i64 0, .int .i64 0, .int .i64 0, .int .i64 0, .slice none 0 0, .slice none 0 0]) ?_ 2 _ rfl; (with_reducible repeat (first | refine blk_drewN ?_ _ | refine blk_drew ?_ | refine blk_alloc ?_ _)); refine blk_put (cs := #[.int .i64 0, .int .i64 0, .int .i64 0, .int .i64 0, .slice none 0 0, .slice none 0 0]) ?_ 1 _ rfl; (with_reducible repeat (first | refine blk_drewN ?_ _ | refine blk_drew ?_ | refine blk_alloc ?_ _)); refine blk_put (cs := #[.int .i64 0, .int .i64 0, .int .i64 0, .int .i64 0, .slice none 0 0, .slice none 0 0]) ?_ 0 _ rfl; (with_reducible repeat (first | refine blk_drewN ?_ _ | refine blk_drew ?_ | refine blk_alloc ?_ _)); exact BK166.out) Try.underlying26 rfl (by kernel_rfl)) rfl ?_
  exact ⟨_, _, by first | rfl | (simp [errW_none, errW_some] <;> rfl) | (simp [*, errW_none, errW_some] <;> rfl), by first | exact Kd.R_nil _ _ _ _ _ | exact Kd.N_nil _ _ _ _ _ | exact Kd.V_nil _ _ _ _ _ | exact Kd.Q_nil _ _ _ _ _ | exact Kd.S_nil _ _ _ _ _, by first | exact Kd.S_nil _ _ _ _ _ | exact Kd.N_nil _ _ _ _ _ | exact Kd.V_nil _ _ _ _ _ | exact Kd.Q_nil _ _ _ _ _ | exact Kd.R_nil _ _ _ _ _, by repeat (first | (with_reducible first | exact HB.out | apply below_alloc | apply pw_below_drewN | apply below_drew1 | refine below_set ?_ GE166.out) | exact HB.out)⟩
 ·rw [if_neg c2] at H
  have c2b0 : decide ((l0.length : Int) < 9) = false := decide_eq_false c2
  have c2b1 : decide (l0.length < 9) = false := decide_eq_false (by omega)
  clear c2
  by_cases c5 : 9 ≤ (l0.length : Int)
  ·rw [if_pos c5] at H
   have c5b0 := eq_true c5
   have c5b1 : decide (9 ≤ (l0.length : Int)) = true := decide_eq_true c5
   clear c5
   replace H := Option.bind_eq_some_iff.mp H
   obtain ⟨⟨t168, t169⟩, A60, H⟩ := H
   replace H : (if t169 = 0 then (if 4 < (t168.length : Int) then (change_Read_p.j0 k l0 t168 (decide ((wrap64 ((l0.length : Int) - 9)) < (wrap64 (rd t168 4)))) 0 0 0 0) else (none)) else (change_Read_p.j0 k l0 t168 true 0 0 0 0)) = some (r1, r2, r3, r4, r5, r6, r7) := H
   have A6 := Aside0.mk A60
   clear A60
   have HC7 := Aside0.mk H
   clear H
   go_enter Try.func13, Try.ntmps13
   go_upto_region 4 with (first | ((with_reducible refine gate_dst (N := 2) rfl ?_); (try (refine gate_guard (by rfl) ?_; dsimp only)); refine box_event ?hg (N := 2) ?hd (cs := #[.int .i64 0, .int .i64 0, .int .i64 0, .int .i64 0, .slice none 0 0, .slice none 0 0]) (t := 26) ?hr ?_; (case hd => rfl); (case hg => rfl); (case hr => first | (go_simp; done) | (go_simp; rfl)); intro gb166 hg w8 hbox hb; have n0_ := Aside0.mk (below_step (by repeat (first | (with_reducible first | exact HB.out | apply below_alloc | apply pw_below_drewN | apply below_drew1) | exact HB.out)) hb); have n1_ := Aside0.mk (hbox); have n2_ := Aside0.mk ((by rw [hg]; exact (below_size (by repeat (first | (with_reducible first | exact HB.out | apply below_alloc | apply pw_below_drewN | apply below_drew1) | exact HB.out))) : w.heap.size ≤ gb166)); have n3_ := Aside0.mk ((by rw [hg]; exact (below_size (by repeat (first | (with_reducible first | exact HB.out | apply below_alloc | apply pw_below_drewN | apply below_drew1) | exact HB.out))) : w.heap.size ≤ gb166)); clear HB; have HB := n0_; have BK166 := n1_; have GW166 := n2_; have GE166 := n3_; clear n0_ n1_ n2_ n3_; clear hb hbox hg; obtain ⟨i09, hi09, _, hsz9, _⟩ := info_parts info5; obtain ⟨hcut9, hA9, hC9⟩ := print_take_of (P := Try.prog) (Value.int .u8) 0 23 5 .i64 Try.underlying23 hi09 hsz9 A0 c0 l0 9 (by omega) (of_decide_eq_true (by first | (with_reducible assumption) | assumption)) HC0.out; have HR167 := Aside0.mk (Kd.C_of_reads (h1 := fun _ => rfl) (hA9 _ (Kd.reads_of_C HR0.out))); have HC167 := Aside0.mk hC9; clear hA9 hC9 hi09 hsz9) | ((with_reducible refine gate_callee (f := 24) rfl ?_); refine goesL_ (some 14) rfl rfl Try.func24 (by kernel_rfl) rfl #[.string (⟨#[98, 98, 98, 119, 104]⟩ : ByteArray), .slice A0 (l0.take 9).length c0] rfl (by (try simp only [List.map_toArray, List.map_cons, List.map_nil]); first | done | (rw [show (l0.take 9).length = 9 from (by rw [List.length_take]; have h_ : (9 : Int) ≤ (l0.length : Int) := of_decide_eq_true (by first | (with_reducible assumption) | assumption); omega)] <;> rfl) | rfl | (simp only [List.length_drop, List.length_take]; rfl)) ?_; (with_reducible refine (le_Unpack.calls (⟨#[98, 98, 98, 119, 104]⟩ : ByteArray) _ _ (l0.take 9) t168 t169 _ ?side1 ?side2 A6.out).mono ?_); (case side1 => repeat (first | exact (Kd.C_below HR167.out HB.out) | (with_reducible refine Kd.C_alloc ?_ _) | (with_reducible refine Kd.C_drewN ?_ _) | (with_reducible refine Kd.C_drew ?_))); (case side2 => exact HC167.out); rintro e w10 ⟨v170, rfl, ho0, hb⟩; refine ⟨_, rfl, ?_⟩; have n0_ := Aside0.mk (Kd.R_lower ho0 (below_size (by repeat (first | (with_reducible first | exact HB.out | apply below_alloc | apply pw_below_drewN | apply below_drew1 | refine below_set ?_ GE166.out) | exact HB.out)))); have n1_ := Aside0.mk (blk_below (g := gb166) (o := .cells #[.int .i64 0, .int .i64 0, .int .i64 0, .int .i64 0, .slice none 0 0, .slice none 0 0] 26 (0, 0)) (by (with_reducible repeat (first | refine blk_drewN ?_ _ | refine blk_drew ?_ | refine blk_alloc ?_ _)); exact BK166.out) hb); have n2_ := Aside0.mk (below_step (by repeat (first | (with_reducible first | exact HB.out | apply below_alloc | apply pw_below_drewN | apply below_drew1 | refine below_set ?_ GE166.out) | exact HB.out)) hb); clear BK166; clear HB; have HO171 := n0_; have BK166 := n1_; have HB := n2_; clear n0_ n1_ n2_; (try clear hb); (try clear hb2); (try clear hk); (try clear hi); (try clear ho0)))
   (try simp only [Act.put, Kx.sb, Kx.sz, Kx.ss])
   go_cut [28] (fun v28 wc => ∃ (kq : Nat) (x28_6 : Bool), v28 = .bool x28_6 ∧ Aside0 (change_Read_p.j0 kq l0 t168 x28_6 0 0 0 0 = some (r1, r2, r3, r4, r5, r6, r7)) ∧ Aside0 (kq ≤ k) ∧ Aside0 (Kd.R (Kd.int .u64) 44 wc w.heap.size (fun _ => True) v170 t168) ∧ Aside0 (wc.heap[gb166]? = some (.cells #[.int .i64 0, .int .i64 0, .int .i64 0, .int .i64 0, (.slice none 0 0), (.slice none 0 0)] 26 (0, 0))) ∧ Aside0 (Below w.heap.size w wc))
   case first =>
    have H := HC7.out
    clear HC7
    by_cases c11 : t169 = 0
    ·rw [if_pos c11] at H
     have c11b0 : (t169 == 0) = true := beq_iff_eq.mpr c11
     have c11b1 : (t169 != 0) = false := bne_eq_false_iff_eq.mpr c11
     clear c11
     (first | rw [c11b0] | (simp only [i64_w, i32_w]; rw [c11b0]) | skip)
     by_cases c12 : 4 < (t168.length : Int)
     ·rw [if_pos c12] at H
      have c12b0 : decide (4 < (t168.length : Int)) = true := decide_eq_true c12
      have c12b1 : decide (4 < t168.length) = true := decide_eq_true (by omega)
      clear c12
      have H' := Aside0.mk H
      clear H
      obtain ⟨Ao13, co13, eo13⟩ := Kd.R_slice HO171.out
      subst eo13
      have p172 : 0 ≤ (4 : Int) := (by omega)
      have q172 : 4 < (t168.length : Int) := of_decide_eq_true (by first | (with_reducible assumption) | assumption)
      obtain ⟨ad172, e172, hx172_0⟩ := Kd.at_int (Kd.R_reads' HO171.out).2.2 4 p172 q172
      cases e172
      (try simp only [show (4 : Int).toNat = 4 from rfl, Nat.reduceMul, Nat.reduceEqDiff, Go.Addr.add, ↓reduceIte] at hx172_0)
      have qi172 : (4 < t168.length) = True := eq_true (by omega)
      (try rw [show ((4 : Int)).toNat = 4 from rfl] at hx172_0)
      replace p172 := eq_true p172
      replace q172 := eq_true q172
      go_wp2
      go_meet
      case rel => exact ⟨_, (decide ((wrap64 ((l0.length : Int) - 9)) < (wrap64 (rd t168 4)))), (by first | rfl | (simp; done) | (simp [*]; done)), H', ⟨by first | omega | exact Nat.le_refl _⟩, ⟨by (with_reducible repeat (first | apply Kd.R_alloc | apply Kd.R_drewN | apply Kd.R_drew)); exact HO171.out⟩, ⟨by (with_reducible repeat (first | refine blk_drewN ?_ _ | refine blk_drew ?_ | refine blk_alloc ?_ _)); exact BK166.out⟩, ⟨by repeat (first | (with_reducible first | exact HB.out | apply below_alloc | apply pw_below_drewN | apply below_drew1 | refine below_set ?_ GE166.out) | exact HB.out)⟩⟩
     ·rw [if_neg c12] at H
      exact absurd H (by simp)
    ·rw [if_neg c11] at H
     have c11b0 : (t169 == 0) = false := beq_eq_false_iff_ne.mpr c11
     have c11b1 : (t169 != 0) = true := bne_iff_ne.mpr c11
     (first | rw [c11b0] | (simp only [i64_w, i32_w]; rw [c11b0]) | skip)
     have H' := Aside0.mk H
     clear H
     go_wp2
     go_meet
     case rel => exact ⟨_, (true), (by first | rfl | (simp; done) | (simp [*]; done)), H', ⟨by first | omega | exact Nat.le_refl _⟩, ⟨by (with_reducible repeat (first | apply Kd.R_alloc | apply Kd.R_drewN | apply Kd.R_drew)); exact HO171.out⟩, ⟨by (with_reducible repeat (first | refine blk_drewN ?_ _ | refine blk_drew ?_ | refine blk_alloc ?_ _)); exact BK166.out⟩, ⟨by repeat (first | (with_reducible first | exact HB.out | apply below_alloc | apply pw_below_drewN | apply below_drew1 | refine below_set ?_ GE166.out) | exact HB.out)⟩⟩
   case rest =>
    clear HC7
    try clear c1
    try clear p1
    try clear q1
    try clear hx1
    try clear qi1
    try clear c2
    try clear c2b0
    try clear c2b1
    try clear p2
    try clear c5
    try clear c5b0
    try clear c5b1
    try clear p6
    try clear c11
    try clear c11b0
    try clear c11b1
    try clear c12
    try clear c12b0
    try clear c12b1
    try clear c13
    try clear hcz4_0
    try clear hcz4_1
    try clear hcz4_2
    try clear hcz4_3
    try clear hcz4_4
    try clear hcz4_5
    try clear hfz4_0
    try clear hfz4_1
    try clear hfz4_2
    try clear hfz4_3
    try clear hfz4_4
    try clear hfz4_5
    try clear hx172_0
    try clear p172
    try clear q172
    obtain ⟨kq, x28_6, rfl, HA, HJ6, HO_4, BK166, HB⟩ := hcut
    cases kq with
    | zero => exact absurd HA.out (by simp [change_Read_p.j0])
    | succ kj6 =>
     have H := HA.out
     clear HA
     simp only [change_Read_p.j0] at H
     by_cases c14 : x28_6 = true
     ·subst c14
      have H1 : (some (0, 0, 0, 0, ([] : List Int), ([] : List (S39)), 100)) = some (r1, r2, r3, r4, r5, r6, r7) := by rw [if_pos rfl] at H <;> exact H
      clear H
      have H := H1
      clear H1
      simp only [Option.some.injEq, Prod.mk.injEq] at H
      obtain ⟨rfl, rfl, rfl, rfl, rfl, rfl, rfl⟩ := H
      have hcz15_0 : wc.cell? ⟨gb166, 0, none⟩ = some (.int .i64 0) := (blk_cell BK166.out 0).trans rfl
      have hcz15_1 : wc.cell? ⟨gb166, 1, none⟩ = some (.int .i64 0) := (blk_cell BK166.out 1).trans rfl
      have hcz15_2 : wc.cell? ⟨gb166, 2, none⟩ = some (.int .i64 0) := (blk_cell BK166.out 2).trans rfl
      have hcz15_3 : wc.cell? ⟨gb166, 3, none⟩ = some (.int .i64 0) := (blk_cell BK166.out 3).trans rfl
      have hcz15_4 : wc.cell? ⟨gb166, 4, none⟩ = some (.slice none 0 0) := (blk_cell BK166.out 4).trans rfl
      have hcz15_5 : wc.cell? ⟨gb166, 5, none⟩ = some (.slice none 0 0) := (blk_cell BK166.out 5).trans rfl
      have hfz15_0 := blk_frozen BK166.out 0
      have hfz15_1 := blk_frozen BK166.out 1
      have hfz15_2 := blk_frozen BK166.out 2
      have hfz15_3 := blk_frozen BK166.out 3
      have hfz15_4 := blk_frozen BK166.out 4
      have hfz15_5 := blk_frozen BK166.out 5
      go_wp2
      refine bodyPost_ret (results_ct rfl _ _ gb166 26 #[.int .i64 0, .int .i64 0, .int .i64 0, .int .i64 0, .slice none 0 0, .slice none 0 0] (0, 0) _ rfl (by (with_reducible repeat (first | refine blk_drewN ?_ _ | refine blk_drew ?_ | refine blk_alloc ?_ _)); refine blk_put (cs := #[.int .i64 0, .int .i64 0, .int .i64 0, .int .i64 0, .slice none 0 0, .slice none 0 0]) ?_ 5 _ rfl; (with_reducible repeat (first | refine blk_drewN ?_ _ | refine blk_drew ?_ | refine blk_alloc ?_ _)); refine blk_put (cs := #[.int .i64 0, .int .i64 0, .int .i64 0, .int .i64 0, .slice none 0 0, .slice none 0 0]) ?_ 4 _ rfl; (with_reducible repeat (first | refine blk_drewN ?_ _ | refine blk_drew ?_ | refine blk_alloc ?_ _)); refine blk_put (cs := #[.int .i64 0, .int .i64 0, .int .i64 0, .int .i64 0, .slice none 0 0, .slice none 0 0]) ?_ 3 _ rfl; (with_reducible repeat (first | refine blk_drewN ?_ _ | refine blk_drew ?_ | refine blk_alloc ?_ _)); refine blk_put (cs := #[.int .i64 0, .int .i64 0, .int .i64 0, .int .i64 0, .slice none 0 0, .slice none 0 0]) ?_ 2 _ rfl; (with_reducible repeat (first | refine blk_drewN ?_ _ | refine blk_drew ?_ | refine blk_alloc ?_ _)); refine blk_put (cs := #[.int .i64 0, .int .i64 0, .int .i64 0, .int .i64 0, .slice none 0 0, .slice none 0 0]) ?_ 1 _ rfl; (with_reducible repeat (first | refine blk_drewN ?_ _ | refine blk_drew ?_ | refine blk_alloc ?_ _)); refine blk_put (cs := #[.int .i64 0, .int .i64 0, .int .i64 0, .int .i64 0, .slice none 0 0, .slice none 0 0]) ?_ 0 _ rfl; (with_reducible repeat (first | refine blk_drewN ?_ _ | refine blk_drew ?_ | refine blk_alloc ?_ _)); exact BK166.out) Try.underlying26 rfl (by kernel_rfl)) rfl ?_
      exact ⟨_, _, by first | rfl | (simp [errW_none, errW_some] <;> rfl) | (simp [*, errW_none, errW_some] <;> rfl), by first | exact Kd.R_nil _ _ _ _ _ | exact Kd.N_nil _ _ _ _ _ | exact Kd.V_nil _ _ _ _ _ | exact Kd.Q_nil _ _ _ _ _ | exact Kd.S_nil _ _ _ _ _, by first | exact Kd.S_nil _ _ _ _ _ | exact Kd.N_nil _ _ _ _ _ | exact Kd.V_nil _ _ _ _ _ | exact Kd.Q_nil _ _ _ _ _ | exact Kd.R_nil _ _ _ _ _, by repeat (first | (with_reducible first | exact HB.out | apply below_alloc | apply pw_below_drewN | apply below_drew1 | refine below_set ?_ GE166.out) | exact HB.out)⟩
     ·replace c14 := Bool.eq_false_iff.mpr c14
      subst c14
      have H1 : (if 4 < (t168.length : Int) then (if 0 < (t168.length : Int) then (if 1 < (t168.length : Int) then (if 2 < (t168.length : Int) then (if 3 < (t168.length : Int) then (if 9 ≤ (wrap64 (9 + (wrap64 (rd t168 4)))) then (if (wrap64 (9 + (wrap64 (rd t168 4)))) ≤ (l0.length : Int) then ((bytes_Clone.f ((l0.take ((wrap64 (9 + (wrap64 (rd t168 4)))) : Int).toNat).drop 9)).bind fun t179 => (if 0 ≤ (wrap64 (9 + (wrap64 (rd t168 4)))) then (if (wrap64 (rd t168 0)) = 8 then ((extent_Read.f (l0.drop ((wrap64 (9 + (wrap64 (rd t168 4)))) : Int).toNat)).bind fun bt183 => (if bt183.2 = 0 then (if (([] : List Int).length : Int) > 0 then (some (0, 0, 0, 0, ([] : List Int), ([] : List (S39)), 100)) else ((change_Check.f (wrap64 (rd t168 0)) (wrap64 (rd t168 1)) (wrap64 (rd t168 2)) (wrap64 (rd t168 3)) t179 bt183.1).bind fun t187 => (if t187 = true then (some (wrap64 (rd t168 0), wrap64 (rd t168 1), wrap64 (rd t168 2), wrap64 (rd t168 3), t179, bt183.1, 0)) else (some (0, 0, 0, 0, ([] : List Int), ([] : List (S39)), 100))))) else (some (0, 0, 0, 0, ([] : List Int), ([] : List (S39)), 100)))) else (if ((l0.drop ((wrap64 (9 + (wrap64 (rd t168 4)))) : Int).toNat).length : Int) > 0 then (some (0, 0, 0, 0, ([] : List Int), ([] : List (S39)), 100)) else ((change_Check.f (wrap64 (rd t168 0)) (wrap64 (rd t168 1)) (wrap64 (rd t168 2)) (wrap64 (rd t168 3)) t179 ([] : List (S39))).bind fun t188 => (if t188 = true then (some (wrap64 (rd t168 0), wrap64 (rd t168 1), wrap64 (rd t168 2), wrap64 (rd t168 3), t179, ([] : List (S39)), 0)) else (some (0, 0, 0, 0, ([] : List Int), ([] : List (S39)), 100)))))) else (none))) else (none)) else (none)) else (none)) else (none)) else (none)) else (none)) else (none)) = some (r1, r2, r3, r4, r5, r6, r7) := by rw [if_neg (show ¬ (false = true) by decide)] at H <;> exact H
      clear H
      have H := H1
      clear H1
      by_cases c16 : 4 < (t168.length : Int)
      ·rw [if_pos c16] at H
       have c16b0 : decide (4 < (t168.length : Int)) = true := decide_eq_true c16
       have c16b1 : decide (4 < t168.length) = true := decide_eq_true (by omega)
       clear c16
       by_cases c17 : 0 < (t168.length : Int)
       ·rw [if_pos c17] at H
        have c17b0 : decide (0 < (t168.length : Int)) = true := decide_eq_true c17
        have c17b1 : decide (0 < t168.length) = true := decide_eq_true (by omega)
        clear c17
        by_cases c18 : 1 < (t168.length : Int)
        ·rw [if_pos c18] at H
         have c18b0 : decide (1 < (t168.length : Int)) = true := decide_eq_true c18
         have c18b1 : decide (1 < t168.length) = true := decide_eq_true (by omega)
         clear c18
         by_cases c19 : 2 < (t168.length : Int)
         ·rw [if_pos c19] at H
          have c19b0 : decide (2 < (t168.length : Int)) = true := decide_eq_true c19
          have c19b1 : decide (2 < t168.length) = true := decide_eq_true (by omega)
          clear c19
          by_cases c20 : 3 < (t168.length : Int)
          ·rw [if_pos c20] at H
           have c20b0 : decide (3 < (t168.length : Int)) = true := decide_eq_true c20
           have c20b1 : decide (3 < t168.length) = true := decide_eq_true (by omega)
           clear c20
           by_cases c21 : 9 ≤ (wrap64 (9 + (wrap64 (rd t168 4))))
           ·rw [if_pos c21] at H
            have c21b0 := eq_true c21
            have c21b1 : decide (9 ≤ (wrap64 (9 + (wrap64 (rd t168 4))))) = true := decide_eq_true c21
            by_cases c22 : (wrap64 (9 + (wrap64 (rd t168 4)))) ≤ (l0.length : Int)
            ·rw [if_pos c22] at H
             have c22b0 := eq_true c22
             have c22b1 : decide ((wrap64 (9 + (wrap64 (rd t168 4)))) ≤ (l0.length : Int)) = true := decide_eq_true c22
             replace H := Option.bind_eq_some_iff.mp H
             obtain ⟨t179, A230, H⟩ := H
             replace H : (if 0 ≤ (wrap64 (9 + (wrap64 (rd t168 4)))) then (if (wrap64 (rd t168 0)) = 8 then ((extent_Read.f (l0.drop ((wrap64 (9 + (wrap64 (rd t168 4)))) : Int).toNat)).bind fun bt183 => (if bt183.2 = 0 then (if (([] : List Int).length : Int) > 0 then (some (0, 0, 0, 0, ([] : List Int), ([] : List (S39)), 100)) else ((change_Check.f (wrap64 (rd t168 0)) (wrap64 (rd t168 1)) (wrap64 (rd t168 2)) (wrap64 (rd t168 3)) t179 bt183.1).bind fun t187 => (if t187 = true then (some (wrap64 (rd t168 0), wrap64 (rd t168 1), wrap64 (rd t168 2), wrap64 (rd t168 3), t179, bt183.1, 0)) else (some (0, 0, 0, 0, ([] : List Int), ([] : List (S39)), 100))))) else (some (0, 0, 0, 0, ([] : List Int), ([] : List (S39)), 100)))) else (if ((l0.drop ((wrap64 (9 + (wrap64 (rd t168 4)))) : Int).toNat).length : Int) > 0 then (some (0, 0, 0, 0, ([] : List Int), ([] : List (S39)), 100)) else ((change_Check.f (wrap64 (rd t168 0)) (wrap64 (rd t168 1)) (wrap64 (rd t168 2)) (wrap64 (rd t168 3)) t179 ([] : List (S39))).bind fun t188 => (if t188 = true then (some (wrap64 (rd t168 0), wrap64 (rd t168 1), wrap64 (rd t168 2), wrap64 (rd t168 3), t179, ([] : List (S39)), 0)) else (some (0, 0, 0, 0, ([] : List Int), ([] : List (S39)), 100)))))) else (none)) = some (r1, r2, r3, r4, r5, r6, r7) := H
             have A23 := Aside0.mk A230
             clear A230
             obtain ⟨ji24, hji24⟩ : ∃ j_ : Int, (wrap64 (9 + (wrap64 (rd t168 4)))) = j_ := ⟨_, rfl⟩
             replace H : (if 0 ≤ (ji24) then (if (wrap64 (rd t168 0)) = 8 then ((extent_Read.f (l0.drop ((ji24) : Int).toNat)).bind fun bt183 => (if bt183.2 = 0 then (if (([] : List Int).length : Int) > 0 then (some (0, 0, 0, 0, ([] : List Int), ([] : List (S39)), 100)) else ((change_Check.f (wrap64 (rd t168 0)) (wrap64 (rd t168 1)) (wrap64 (rd t168 2)) (wrap64 (rd t168 3)) t179 bt183.1).bind fun t187 => (if t187 = true then (some (wrap64 (rd t168 0), wrap64 (rd t168 1), wrap64 (rd t168 2), wrap64 (rd t168 3), t179, bt183.1, 0)) else (some (0, 0, 0, 0, ([] : List Int), ([] : List (S39)), 100))))) else (some (0, 0, 0, 0, ([] : List Int), ([] : List (S39)), 100)))) else (if ((l0.drop ((ji24) : Int).toNat).length : Int) > 0 then (some (0, 0, 0, 0, ([] : List Int), ([] : List (S39)), 100)) else ((change_Check.f (wrap64 (rd t168 0)) (wrap64 (rd t168 1)) (wrap64 (rd t168 2)) (wrap64 (rd t168 3)) t179 ([] : List (S39))).bind fun t188 => (if t188 = true then (some (wrap64 (rd t168 0), wrap64 (rd t168 1), wrap64 (rd t168 2), wrap64 (rd t168 3), t179, ([] : List (S39)), 0)) else (some (0, 0, 0, 0, ([] : List Int), ([] : List (S39)), 100)))))) else (none)) = some (r1, r2, r3, r4, r5, r6, r7) := by first | (rw [hji24] at H; exact H) | (simp only [hji24] at H ⊢; exact H)
             (try rw [hji24] at c21b0)
             (try rw [hji24] at c21b1)
             (try rw [hji24] at c21)
             (try rw [hji24] at c22b0)
             (try rw [hji24] at c22b1)
             (try rw [hji24] at c22)
             (try rw [hji24] at A23)
             have hji24w : (IntKind.i64.wrap (9 + (wrap64 (rd t168 4)))) = ji24 := (i64_w _).trans hji24
             by_cases c25 : 0 ≤ (ji24)
             ·rw [if_pos c25] at H
              have c25b0 := eq_true c25
              have c25b1 : decide (0 ≤ (ji24)) = true := decide_eq_true c25
              clear c25
              have c26b0 := eq_true (of_decide_eq_true (by first | (with_reducible assumption) | assumption) : (ji24) ≤ (l0.length : Int))
              obtain ⟨Ao49, co49, eo49⟩ := Kd.R_slice HO_4.out
              subst eo49
              have p173 : 0 ≤ (4 : Int) := (by omega)
              have q173 : 4 < (t168.length : Int) := of_decide_eq_true (by first | (with_reducible assumption) | assumption)
              obtain ⟨ad173, e173, hx173_0⟩ := Kd.at_int (Kd.R_reads' HO_4.out).2.2 4 p173 q173
              cases e173
              (try simp only [show (4 : Int).toNat = 4 from rfl, Nat.reduceMul, Nat.reduceEqDiff, Go.Addr.add, ↓reduceIte] at hx173_0)
              have qi173 : (4 < t168.length) = True := eq_true (by omega)
              (try rw [show ((4 : Int)).toNat = 4 from rfl] at hx173_0)
              replace p173 := eq_true p173
              replace q173 := eq_true q173
              try go_wp2
              have n0_ := Aside0.mk (Kd.R_drew HO_4.out)
              have n1_ := Aside0.mk (blk_drew BK166.out)
              have n2_ := Aside0.mk (below_drew1 HB.out)
              clear HO_4
              clear BK166
              clear HB
              have HO_4 := n0_
              have BK166 := n1_
              have HB := n2_
              clear n0_ n1_ n2_
              have p174 : 0 ≤ (0 : Int) := (by omega)
              have q174 : 0 < (t168.length : Int) := of_decide_eq_true (by first | (with_reducible assumption) | assumption)
              obtain ⟨ad174, e174, hx174_0⟩ := Kd.at_int (Kd.R_reads' HO_4.out).2.2 0 p174 q174
              obtain rfl : ad173 = ad174 := (by injection e174)
              have qi174 : (0 < t168.length) = True := eq_true (by omega)
              (try rw [show ((0 : Int)).toNat = 0 from rfl] at hx174_0)
              (try rw [Addr.add_zero'] at hx174_0)
              replace p174 := eq_true p174
              replace q174 := eq_true q174
              have p175 : 0 ≤ (1 : Int) := (by omega)
              have q175 : 1 < (t168.length : Int) := of_decide_eq_true (by first | (with_reducible assumption) | assumption)
              obtain ⟨ad175, e175, hx175_0⟩ := Kd.at_int (Kd.R_reads' HO_4.out).2.2 1 p175 q175
              obtain rfl : ad173 = ad175 := (by injection e175)
              (try simp only [show (1 : Int).toNat = 1 from rfl, Nat.reduceMul, Nat.reduceEqDiff, Go.Addr.add, ↓reduceIte] at hx175_0)
              have qi175 : (1 < t168.length) = True := eq_true (by omega)
              (try rw [show ((1 : Int)).toNat = 1 from rfl] at hx175_0)
              replace p175 := eq_true p175
              replace q175 := eq_true q175
              have p176 : 0 ≤ (2 : Int) := (by omega)
              have q176 : 2 < (t168.length : Int) := of_decide_eq_true (by first | (with_reducible assumption) | assumption)
              obtain ⟨ad176, e176, hx176_0⟩ := Kd.at_int (Kd.R_reads' HO_4.out).2.2 2 p176 q176
              obtain rfl : ad173 = ad176 := (by injection e176)
              (try simp only [show (2 : Int).toNat = 2 from rfl, Nat.reduceMul, Nat.reduceEqDiff, Go.Addr.add, ↓reduceIte] at hx176_0)
              have qi176 : (2 < t168.length) = True := eq_true (by omega)
              (try rw [show ((2 : Int)).toNat = 2 from rfl] at hx176_0)
              replace p176 := eq_true p176
              replace q176 := eq_true q176
              have p177 : 0 ≤ (3 : Int) := (by omega)
              have q177 : 3 < (t168.length : Int) := of_decide_eq_true (by first | (with_reducible assumption) | assumption)
              obtain ⟨ad177, e177, hx177_0⟩ := Kd.at_int (Kd.R_reads' HO_4.out).2.2 3 p177 q177
              obtain rfl : ad173 = ad177 := (by injection e177)
              (try simp only [show (3 : Int).toNat = 3 from rfl, Nat.reduceMul, Nat.reduceEqDiff, Go.Addr.add, ↓reduceIte] at hx177_0)
              have qi177 : (3 < t168.length) = True := eq_true (by omega)
              (try rw [show ((3 : Int)).toNat = 3 from rfl] at hx177_0)
              replace p177 := eq_true p177
              replace q177 := eq_true q177
              obtain ⟨i051, hi051, _, hsz51, _⟩ := info_parts info5
              obtain ⟨A51, hcut51, hA51, hC51⟩ := Pl.print_cap_of (P := Try.prog) (Value.int .u8) 0 23 5 .i64 .i64 Try.underlying23 hi051 hsz51 A0 c0 l0 9 (ji24) (by omega) (by first | omega | exact of_decide_eq_true (by first | (with_reducible assumption) | assumption)) (of_decide_eq_true (by first | (with_reducible assumption) | assumption)) HC0.out
              have HR178 := Aside0.mk (Kd.C_of_reads (h1 := fun _ => rfl) (hA51 _ (Kd.reads_of_C HR0.out)))
              have HC178 := Aside0.mk hC51
              clear hA51 hC51 hi051 hsz51
              refine start_ (n := 23) (S := fun w' => w'.cell? ad173 = some (.int .u64 (rd t168 0)) ∧ w'.cell? ⟨ad173.block, ad173.off + 1, none⟩ = some (.int .u64 (rd t168 1)) ∧ w'.cell? ⟨ad173.block, ad173.off + 2, none⟩ = some (.int .u64 (rd t168 2)) ∧ w'.cell? ⟨ad173.block, ad173.off + 3, none⟩ = some (.int .u64 (rd t168 3))) (ds := [22]) #[false, false, false, false, false, false, false, false, false, false, false, false, false, false, false, false, false, false, false, false, false, false, false] (by kernel_rfl) rfl rfl ⟨hx174_0, hx175_0, hx176_0, hx177_0⟩ (fun hHeld => ?_); refine with_tabW change_Read_p.tab7 change_Read_p.bits7 (fun HT_ HW_ => ?_)
              generalize wc.drew = w50 at HO_4 BK166 HB HR178 hx174_0 hx175_0 hx176_0 hx177_0 hHeld ⊢
              refine pure_ (i := 0) (N := some 35) (v := ?_) (a' := ?_) #[true, false, false, false, false, false, false, false, false, false, false, false, false, false, false, false, false, false, false, false, false, false, false] rfl rfl (any_of HT_.out (by kernel_rfl)) (fun _ _ _ h => h) (Or.inl ⟨by rfl, ?_⟩) ?_ ?_
              rotate_left
              ·intro w'
               go_simp
               with_reducible rfl
              rotate_left
              ·simp only [Act.put, Kx.sb, Kx.sz, Kx.ss, i64_w, i32_w]
               rfl
              refine pure_ (i := 1) (N := some 36) (v := ?_) (a' := ?_) #[true, true, false, false, false, false, false, false, false, false, false, false, false, false, false, false, false, false, false, false, false, false, false] rfl rfl (any_of HT_.out (by kernel_rfl)) (fun _ _ _ h => h) (Or.inl ⟨by rfl, ?_⟩) ?_ ?_
              rotate_left
              ·intro w'
               go_simp
               with_reducible rfl
              rotate_left
              ·simp only [Act.put, Kx.sb, Kx.sz, Kx.ss, i64_w, i32_w]
               rfl
              refine pure_ (i := 4) (N := some 39) (v := ?_) (a' := ?_) #[true, true, false, false, true, false, false, false, false, false, false, false, false, false, false, false, false, false, false, false, false, false, false] rfl rfl (any_of HT_.out (by kernel_rfl)) (fun _ _ _ h => h) (Or.inl ⟨by rfl, ?_⟩) ?_ ?_
              rotate_left
              ·intro w'
               go_simp
               with_reducible rfl
              rotate_left
              ·simp only [Act.put, Kx.sb, Kx.sz, Kx.ss, i64_w, i32_w]
               rfl
              refine pure_ (i := 5) (N := some 40) (v := ?_) (a' := ?_) #[true, true, false, false, true, true, false, false, false, false, false, false, false, false, false, false, false, false, false, false, false, false, false] rfl rfl (any_of HT_.out (by kernel_rfl)) (fun _ _ _ h => h) (Or.inl ⟨by rfl, ?_⟩) ?_ ?_
              rotate_left
              ·intro w'
               go_simp
               with_reducible rfl
              rotate_left
              ·simp only [Act.put, Kx.sb, Kx.sz, Kx.ss, i64_w, i32_w]
               rfl
              refine pure_ (i := 8) (N := some 43) (v := ?_) (a' := ?_) #[true, true, false, false, true, true, false, false, true, false, false, false, false, false, false, false, false, false, false, false, false, false, false] rfl rfl (any_of HT_.out (by kernel_rfl)) (fun _ _ _ h => h) (Or.inl ⟨by rfl, ?_⟩) ?_ ?_
              rotate_left
              ·intro w'
               go_simp
               with_reducible rfl
              rotate_left
              ·simp only [Act.put, Kx.sb, Kx.sz, Kx.ss, i64_w, i32_w]
               rfl
              refine pure_ (i := 9) (N := some 44) (v := ?_) (a' := ?_) #[true, true, false, false, true, true, false, false, true, true, false, false, false, false, false, false, false, false, false, false, false, false, false] rfl rfl (any_of HT_.out (by kernel_rfl)) (fun _ _ _ h => h) (Or.inl ⟨by rfl, ?_⟩) ?_ ?_
              rotate_left
              ·intro w'
               go_simp
               with_reducible rfl
              rotate_left
              ·simp only [Act.put, Kx.sb, Kx.sz, Kx.ss, i64_w, i32_w]
               rfl
              refine pure_ (i := 12) (N := some 47) (v := ?_) (a' := ?_) #[true, true, false, false, true, true, false, false, true, true, false, false, true, false, false, false, false, false, false, false, false, false, false] rfl rfl (any_of HT_.out (by kernel_rfl)) (fun _ _ _ h => h) (Or.inl ⟨by rfl, ?_⟩) ?_ ?_
              rotate_left
              ·intro w'
               go_simp
               with_reducible rfl
              rotate_left
              ·simp only [Act.put, Kx.sb, Kx.sz, Kx.ss, i64_w, i32_w]
               rfl
              refine pure_ (i := 13) (N := some 48) (v := ?_) (a' := ?_) #[true, true, false, false, true, true, false, false, true, true, false, false, true, true, false, false, false, false, false, false, false, false, false] rfl rfl (any_of HT_.out (by kernel_rfl)) (fun _ _ _ h => h) (Or.inl ⟨by rfl, ?_⟩) ?_ ?_
              rotate_left
              ·intro w'
               go_simp
               with_reducible rfl
              rotate_left
              ·simp only [Act.put, Kx.sb, Kx.sz, Kx.ss, i64_w, i32_w]
               rfl
              refine pure_ (i := 16) (N := some 51) (v := ?_) (a' := ?_) #[true, true, false, false, true, true, false, false, true, true, false, false, true, true, false, false, true, false, false, false, false, false, false] rfl rfl (any_of HT_.out (by kernel_rfl)) (fun _ _ _ h => h) (Or.inl ⟨by rfl, ?_⟩) ?_ ?_
              rotate_left
              ·intro w'
               go_simp
               with_reducible rfl
              rotate_left
              ·simp only [Act.put, Kx.sb, Kx.sz, Kx.ss, i64_w, i32_w]
               rfl
              refine pure_ (i := 17) (N := some 52) (v := ?_) (a' := ?_) #[true, true, false, false, true, true, false, false, true, true, false, false, true, true, false, false, true, true, false, false, false, false, false] rfl rfl (any_of HT_.out (by kernel_rfl)) (fun _ _ _ h => h) (Or.inl ⟨by rfl, ?_⟩) ?_ ?_
              rotate_left
              ·intro w'
               go_simp
               with_reducible rfl
              rotate_left
              ·simp only [Act.put, Kx.sb, Kx.sz, Kx.ss, i64_w, i32_w]
               rfl
              refine pure_ (i := 18) (N := some 53) (v := ?_) (a' := ?_) #[true, true, false, false, true, true, false, false, true, true, false, false, true, true, false, false, true, true, true, false, false, false, false] rfl rfl (any_of HT_.out (by kernel_rfl)) (fun _ _ _ h => h) (Or.inl ⟨by rfl, ?_⟩) ?_ ?_
              rotate_left
              ·intro w'
               go_simp
               with_reducible rfl
              rotate_left
              ·simp only [Act.put, Kx.sb, Kx.sz, Kx.ss, i64_w, i32_w]
               rfl
              refine pure_ (i := 19) (N := some 54) (v := ?_) (a' := ?_) #[true, true, false, false, true, true, false, false, true, true, false, false, true, true, false, false, true, true, true, true, false, false, false] rfl rfl (any_of HT_.out (by kernel_rfl)) (fun _ _ _ h => h) (Or.inl ⟨by rfl, ?_⟩) ?_ ?_
              rotate_left
              ·intro w'
               go_simp
               with_reducible rfl
              rotate_left
              ·simp only [Act.put, Kx.sb, Kx.sz, Kx.ss, i64_w, i32_w]
               rfl
              refine take_ (i := 2) (N := some 37) (v := ?_) (a' := ?_) #[true, true, true, false, true, true, false, false, true, true, false, false, true, true, false, false, true, true, true, true, false, false, false] rfl rfl (take_ofW HT_.out HW_.out (by kernel_rfl)) (fun _ _ _ h => h) (Or.inl ⟨by rfl, ?_⟩) hHeld ?_ ?_
              rotate_left
              ·rintro w' ⟨s0, s1, s2, s3⟩
               go_simp
               with_reducible rfl
              rotate_left
              ·simp only [Act.put, Kx.sb, Kx.sz, Kx.ss, i64_w, i32_w]
               rfl
              refine pure_ (i := 3) (N := some 38) (v := ?_) (a' := ?_) #[true, true, true, true, true, true, false, false, true, true, false, false, true, true, false, false, true, true, true, true, false, false, false] rfl rfl (any_of HT_.out (by kernel_rfl)) (fun _ _ _ h => h) (Or.inl ⟨by rfl, ?_⟩) ?_ ?_
              rotate_left
              ·intro w'
               go_simp
               with_reducible rfl
              rotate_left
              ·simp only [Act.put, Kx.sb, Kx.sz, Kx.ss, i64_w, i32_w]
               rfl
              refine take_ (i := 6) (N := some 41) (v := ?_) (a' := ?_) #[true, true, true, true, true, true, true, false, true, true, false, false, true, true, false, false, true, true, true, true, false, false, false] rfl rfl (take_ofW HT_.out HW_.out (by kernel_rfl)) (fun _ _ _ h => h) (Or.inl ⟨by rfl, ?_⟩) hHeld ?_ ?_
              rotate_left
              ·rintro w' ⟨s0, s1, s2, s3⟩
               go_simp
               with_reducible rfl
              rotate_left
              ·simp only [Act.put, Kx.sb, Kx.sz, Kx.ss, i64_w, i32_w]
               rfl
              refine pure_ (i := 7) (N := some 42) (v := ?_) (a' := ?_) #[true, true, true, true, true, true, true, true, true, true, false, false, true, true, false, false, true, true, true, true, false, false, false] rfl rfl (any_of HT_.out (by kernel_rfl)) (fun _ _ _ h => h) (Or.inl ⟨by rfl, ?_⟩) ?_ ?_
              rotate_left
              ·intro w'
               go_simp
               with_reducible rfl
              rotate_left
              ·simp only [Act.put, Kx.sb, Kx.sz, Kx.ss, i64_w, i32_w]
               rfl
              refine take_ (i := 10) (N := some 45) (v := ?_) (a' := ?_) #[true, true, true, true, true, true, true, true, true, true, true, false, true, true, false, false, true, true, true, true, false, false, false] rfl rfl (take_ofW HT_.out HW_.out (by kernel_rfl)) (fun _ _ _ h => h) (Or.inl ⟨by rfl, ?_⟩) hHeld ?_ ?_
              rotate_left
              ·rintro w' ⟨s0, s1, s2, s3⟩
               go_simp
               with_reducible rfl
              rotate_left
              ·simp only [Act.put, Kx.sb, Kx.sz, Kx.ss, i64_w, i32_w]
               rfl
              refine pure_ (i := 11) (N := some 46) (v := ?_) (a' := ?_) #[true, true, true, true, true, true, true, true, true, true, true, true, true, true, false, false, true, true, true, true, false, false, false] rfl rfl (any_of HT_.out (by kernel_rfl)) (fun _ _ _ h => h) (Or.inl ⟨by rfl, ?_⟩) ?_ ?_
              rotate_left
              ·intro w'
               go_simp
               with_reducible rfl
              rotate_left
              ·simp only [Act.put, Kx.sb, Kx.sz, Kx.ss, i64_w, i32_w]
               rfl
              refine take_ (i := 14) (N := some 49) (v := ?_) (a' := ?_) #[true, true, true, true, true, true, true, true, true, true, true, true, true, true, true, false, true, true, true, true, false, false, false] rfl rfl (take_ofW HT_.out HW_.out (by kernel_rfl)) (fun _ _ _ h => h) (Or.inl ⟨by rfl, ?_⟩) hHeld ?_ ?_
              rotate_left
              ·rintro w' ⟨s0, s1, s2, s3⟩
               go_simp
               with_reducible rfl
              rotate_left
              ·simp only [Act.put, Kx.sb, Kx.sz, Kx.ss, i64_w, i32_w]
               rfl
              refine pure_ (i := 15) (N := some 50) (v := ?_) (a' := ?_) #[true, true, true, true, true, true, true, true, true, true, true, true, true, true, true, true, true, true, true, true, false, false, false] rfl rfl (any_of HT_.out (by kernel_rfl)) (fun _ _ _ h => h) (Or.inl ⟨by rfl, ?_⟩) ?_ ?_
              rotate_left
              ·intro w'
               go_simp
               with_reducible rfl
              rotate_left
              ·simp only [Act.put, Kx.sb, Kx.sz, Kx.ss, i64_w, i32_w]
               rfl
              refine one_ (i := 20) (N := some 55) #[true, true, true, true, true, true, true, true, true, true, true, true, true, true, true, true, true, true, true, true, true, false, false] rfl rfl (one_of HT_.out (by kernel_rfl)) (by decide) (fun K hK => ?_)
              refine goes_ Try.func25 (by kernel_rfl) rfl #[.slice A51 ((l0.take ((ji24) : Int).toNat).drop 9).length ((ji24).toNat - 9)] (by rfl) rfl rfl (by (try simp only [List.map_toArray, List.map_cons, List.map_nil]); first | done | (rw [show ((l0.take ((ji24) : Int).toNat).drop 9).length = ((ji24).toNat - 9) from (by rw [List.length_drop, List.length_take]; have h_ : ((ji24) : Int) ≤ (l0.length : Int) := of_decide_eq_true (by first | (with_reducible assumption) | assumption); omega)] <;> rfl) | (simp only [hji24]; rfl) | rfl | (simp only [List.length_drop, List.length_take]; rfl)) ?_
              with_reducible refine (bytes_Clone.calls _ _ ((l0.take ((ji24) : Int).toNat).drop 9) t179 _ ?side1 ?side2 A23.out).mono ?_
              (case side1 => repeat (first | exact (Kd.C_below HR178.out HB.out) | (with_reducible refine Kd.C_alloc ?_ _) | (with_reducible refine Kd.C_drewN ?_ _) | (with_reducible refine Kd.C_drew ?_)))
              (case side2 => exact HC178.out)
              rintro e w52 ⟨v180, rfl, ho0, hb⟩
              have HS0_ := (hb.cell (World.block_lt_of_cell? _ _ (hHeld.1))).trans (hHeld.1)
              have HS1_ := (hb.cell (World.block_lt_of_cell? _ _ (hHeld.2.1))).trans (hHeld.2.1)
              have HS2_ := (hb.cell (World.block_lt_of_cell? _ _ (hHeld.2.2.1))).trans (hHeld.2.2.1)
              have HS3_ := (hb.cell (World.block_lt_of_cell? _ _ (hHeld.2.2.2))).trans (hHeld.2.2.2)
              refine ⟨_, rfl, ?_⟩
              have n0_ := Aside0.mk (Kd.R_below (by (with_reducible repeat (first | apply Kd.R_alloc | apply Kd.R_drewN | apply Kd.R_drew)); exact HO_4.out) hb)
              have n1_ := Aside0.mk (Kd.R_lower ho0 (below_size (by repeat (first | (with_reducible first | exact HB.out | apply below_alloc | apply pw_below_drewN | apply below_drew1 | refine below_set ?_ GE166.out) | exact HB.out))))
              have n2_ := Aside0.mk (blk_below (g := gb166) (o := .cells #[.int .i64 0, .int .i64 0, .int .i64 0, .int .i64 0, .slice none 0 0, .slice none 0 0] 26 (0, 0)) (by (with_reducible repeat (first | refine blk_drewN ?_ _ | refine blk_drew ?_ | refine blk_alloc ?_ _)); exact BK166.out) hb)
              have n3_ := Aside0.mk (below_step (by repeat (first | (with_reducible first | exact HB.out | apply below_alloc | apply pw_below_drewN | apply below_drew1 | refine below_set ?_ GE166.out) | exact HB.out)) hb)
              clear HO_4
              clear BK166
              clear HB
              have HO_4 := n0_
              have HO181 := n1_
              have BK166 := n2_
              have HB := n3_
              clear n0_ n1_ n2_ n3_
              (try clear hb)
              (try clear hb2)
              (try clear hk)
              (try clear hi)
              (try clear ho0)
              obtain ⟨Ao53, co53, eo53⟩ := Kd.R_slice HO181.out
              (first | subst eo53 | (injection eo53 with f1_ f2_ f3_; have f4_ := f1_.symm; have f5_ := f3_.symm; clear f1_ f2_ f3_; subst f4_; subst f5_))
              refine hK.out _ _ ⟨HS0_, HS1_, HS2_, HS3_⟩ (fun hHeld => ?_)
              clear hK K
              refine norm_ (a' := ?_) ?_ ?_
              rotate_left
              ·show Act.put _ (some 55) _ = _
               simp only [Act.put, Kx.sb, Kx.sz, Kx.ss, i64_w, i32_w]
               rfl
              refine pure_ (i := 21) (N := some 56) (v := ?_) (a' := ?_) #[true, true, true, true, true, true, true, true, true, true, true, true, true, true, true, true, true, true, true, true, true, true, false] rfl rfl (any_of HT_.out (by kernel_rfl)) (fun _ _ _ h => h) (Or.inl ⟨by rfl, ?_⟩) ?_ ?_
              rotate_left
              ·intro w'
               go_simp
               with_reducible rfl
              rotate_left
              ·simp only [Act.put, Kx.sb, Kx.sz, Kx.ss, i64_w, i32_w]
               rfl
              refine last_ (i := 22) (N := none) #[true, true, true, true, true, true, true, true, true, true, true, true, true, true, true, true, true, true, true, true, true, true, true] rfl rfl (one_of HT_.out (by kernel_rfl)) (by decide) (fun K hK => ?_)
              have hs54 : w52.cell? ⟨gb166, 0, none⟩ = some (.int .i64 0) := (blk_cell BK166.out 0).trans rfl
              have hfs54 := blk_frozen BK166.out 0
              have hs55 : w52.cell? ⟨gb166, 1, none⟩ = some (.int .i64 0) := (blk_cell BK166.out 1).trans rfl
              have hfs55 := blk_frozen BK166.out 1
              have hs56 : w52.cell? ⟨gb166, 2, none⟩ = some (.int .i64 0) := (blk_cell BK166.out 2).trans rfl
              have hfs56 := blk_frozen BK166.out 2
              have hs57 : w52.cell? ⟨gb166, 3, none⟩ = some (.int .i64 0) := (blk_cell BK166.out 3).trans rfl
              have hfs57 := blk_frozen BK166.out 3
              have hs58 : w52.cell? ⟨gb166, 4, none⟩ = some (.slice none 0 0) := (blk_cell BK166.out 4).trans rfl
              have hfs58 := blk_frozen BK166.out 4
              have hs59 : w52.cell? ⟨gb166, 5, none⟩ = some (.slice none 0 0) := (blk_cell BK166.out 5).trans rfl
              have hfs59 := blk_frozen BK166.out 5
              refine skip_ (w1 := ?_) (by rfl) rfl ?_ ?_
              rotate_left
              ·go_simp
               rfl
              refine hK.out _ _ ?_
              clear hK K
              refine done_ (done_of HT_.out (by kernel_rfl)) ?_
              have sBK : Aside0 (((((((w52.setCell ⟨gb166, 0, none⟩ (.int .i64 (wrap64 (rd t168 0)))).setCell ⟨gb166, 1, none⟩ (.int .i64 (wrap64 (rd t168 1)))).setCell ⟨gb166, 2, none⟩ (.int .i64 (wrap64 (rd t168 2)))).setCell ⟨gb166, 3, none⟩ (.int .i64 (wrap64 (rd t168 3)))).setCell ⟨gb166, 4, none⟩ (.slice Ao53 t179.length co53)).setCell ⟨gb166, 5, none⟩ (.slice none 0 0)).heap[gb166]? = some (.cells #[.int .i64 (wrap64 (rd t168 0)), .int .i64 (wrap64 (rd t168 1)), .int .i64 (wrap64 (rd t168 2)), .int .i64 (wrap64 (rd t168 3)), .slice Ao53 t179.length co53, .slice none 0 0] 26 (0, 0))) := ⟨by refine blk_put (cs := #[.int .i64 (wrap64 (rd t168 0)), .int .i64 (wrap64 (rd t168 1)), .int .i64 (wrap64 (rd t168 2)), .int .i64 (wrap64 (rd t168 3)), .slice Ao53 t179.length co53, .slice none 0 0]) ?_ 5 _ rfl; refine blk_put (cs := #[.int .i64 (wrap64 (rd t168 0)), .int .i64 (wrap64 (rd t168 1)), .int .i64 (wrap64 (rd t168 2)), .int .i64 (wrap64 (rd t168 3)), .slice none 0 0, .slice none 0 0]) ?_ 4 _ rfl; refine blk_put (cs := #[.int .i64 (wrap64 (rd t168 0)), .int .i64 (wrap64 (rd t168 1)), .int .i64 (wrap64 (rd t168 2)), .int .i64 0, .slice none 0 0, .slice none 0 0]) ?_ 3 _ rfl; refine blk_put (cs := #[.int .i64 (wrap64 (rd t168 0)), .int .i64 (wrap64 (rd t168 1)), .int .i64 0, .int .i64 0, .slice none 0 0, .slice none 0 0]) ?_ 2 _ rfl; refine blk_put (cs := #[.int .i64 (wrap64 (rd t168 0)), .int .i64 0, .int .i64 0, .int .i64 0, .slice none 0 0, .slice none 0 0]) ?_ 1 _ rfl; refine blk_put (cs := #[.int .i64 0, .int .i64 0, .int .i64 0, .int .i64 0, .slice none 0 0, .slice none 0 0]) ?_ 0 _ rfl; exact BK166.out⟩
              have sHO : Aside0 (Kd.R (Kd.int .u8) 5 ((((((w52.setCell ⟨gb166, 0, none⟩ (.int .i64 (wrap64 (rd t168 0)))).setCell ⟨gb166, 1, none⟩ (.int .i64 (wrap64 (rd t168 1)))).setCell ⟨gb166, 2, none⟩ (.int .i64 (wrap64 (rd t168 2)))).setCell ⟨gb166, 3, none⟩ (.int .i64 (wrap64 (rd t168 3)))).setCell ⟨gb166, 4, none⟩ (.slice Ao53 t179.length co53)).setCell ⟨gb166, 5, none⟩ (.slice none 0 0)) w.heap.size (fun _ => True) (.slice Ao53 t179.length co53) t179) := ⟨Kd.R_mono (Kd.R_far (p := ⟨gb166, 5, none⟩) (Kd.R_far (p := ⟨gb166, 4, none⟩) (Kd.R_far (p := ⟨gb166, 3, none⟩) (Kd.R_far (p := ⟨gb166, 2, none⟩) (Kd.R_far (p := ⟨gb166, 1, none⟩) (Kd.R_far (p := ⟨gb166, 0, none⟩) (Kd.R_types HO181.out BK166.out (by decide)) (fun _ hk => hk.2) (.int .i64 (wrap64 (rd t168 0)))) (fun _ hk => hk.2) (.int .i64 (wrap64 (rd t168 1)))) (fun _ hk => hk.2) (.int .i64 (wrap64 (rd t168 2)))) (fun _ hk => hk.2) (.int .i64 (wrap64 (rd t168 3)))) (fun _ hk => hk.2) (.slice Ao53 t179.length co53)) (fun _ hk => hk.2) (.slice none 0 0)) (fun _ _ => trivial)⟩
              have sHB : Aside0 (Below w.heap.size w ((((((w52.setCell ⟨gb166, 0, none⟩ (.int .i64 (wrap64 (rd t168 0)))).setCell ⟨gb166, 1, none⟩ (.int .i64 (wrap64 (rd t168 1)))).setCell ⟨gb166, 2, none⟩ (.int .i64 (wrap64 (rd t168 2)))).setCell ⟨gb166, 3, none⟩ (.int .i64 (wrap64 (rd t168 3)))).setCell ⟨gb166, 4, none⟩ (.slice Ao53 t179.length co53)).setCell ⟨gb166, 5, none⟩ (.slice none 0 0))) := ⟨below_set (below_set (below_set (below_set (below_set (below_set (HB.out) GE166.out) GE166.out) GE166.out) GE166.out) GE166.out) GE166.out⟩
              generalize ((((((w52.setCell ⟨gb166, 0, none⟩ (.int .i64 (wrap64 (rd t168 0)))).setCell ⟨gb166, 1, none⟩ (.int .i64 (wrap64 (rd t168 1)))).setCell ⟨gb166, 2, none⟩ (.int .i64 (wrap64 (rd t168 2)))).setCell ⟨gb166, 3, none⟩ (.int .i64 (wrap64 (rd t168 3)))).setCell ⟨gb166, 4, none⟩ (.slice Ao53 t179.length co53)).setCell ⟨gb166, 5, none⟩ (.slice none 0 0)) = ws at sBK sHO sHB ⊢
              (try clear hs54)
              (try clear hs55)
              (try clear hs56)
              (try clear hs57)
              (try clear hs58)
              (try clear hs59)
              (try clear hfs54)
              (try clear hfs55)
              (try clear hfs56)
              (try clear hfs57)
              (try clear hfs58)
              (try clear hfs59)
              (try clear HS0_)
              (try clear HS1_)
              (try clear HS2_)
              (try clear HS3_)
              (try clear hHeld)
              (try clear HO_4)
              (try clear HO181)
              (try clear BK166)
              (try clear HB)
              (try clear hcz15_0)
              (try clear hcz15_1)
              (try clear hcz15_2)
              (try clear hcz15_3)
              (try clear hcz15_4)
              (try clear hcz15_5)
              (try clear hcz4_0)
              (try clear hcz4_1)
              (try clear hcz4_2)
              (try clear hcz4_3)
              (try clear hcz4_4)
              (try clear hcz4_5)
              (try clear hfz15_0)
              (try clear hfz15_1)
              (try clear hfz15_2)
              (try clear hfz15_3)
              (try clear hfz15_4)
              (try clear hfz15_5)
              (try clear hfz4_0)
              (try clear hfz4_1)
              (try clear hfz4_2)
              (try clear hfz4_3)
              (try clear hfz4_4)
              (try clear hfz4_5)
              by_cases c27 : (wrap64 (rd t168 0)) = 8
              ·rw [if_pos c27] at H
               have c27b0 : ((wrap64 (rd t168 0)) == 8) = true := beq_iff_eq.mpr c27
               have c27b1 : ((wrap64 (rd t168 0)) != 8) = false := bne_eq_false_iff_eq.mpr c27
               clear c27
               replace H := Option.bind_eq_some_iff.mp H
               obtain ⟨⟨t183, t184⟩, A280, H⟩ := H
               replace H : (if t184 = 0 then (if (([] : List Int).length : Int) > 0 then (some (0, 0, 0, 0, ([] : List Int), ([] : List (S39)), 100)) else ((change_Check.f (wrap64 (rd t168 0)) (wrap64 (rd t168 1)) (wrap64 (rd t168 2)) (wrap64 (rd t168 3)) t179 t183).bind fun t187 => (if t187 = true then (some (wrap64 (rd t168 0), wrap64 (rd t168 1), wrap64 (rd t168 2), wrap64 (rd t168 3), t179, t183, 0)) else (some (0, 0, 0, 0, ([] : List Int), ([] : List (S39)), 100))))) else (some (0, 0, 0, 0, ([] : List Int), ([] : List (S39)), 100))) = some (r1, r2, r3, r4, r5, r6, r7) := H
               have A28 := Aside0.mk A280
               clear A280
               by_cases c29 : t184 = 0
               ·rw [if_pos c29] at H
                have c29b0 : (t184 == 0) = true := beq_iff_eq.mpr c29
                have c29b1 : (t184 != 0) = false := bne_eq_false_iff_eq.mpr c29
                clear c29
                by_cases c30 : (([] : List Int).length : Int) > 0
                ·exact absurd c30 (by decide)
                ·rw [if_neg c30] at H
                 have c30b0 : decide (0 < (([] : List Int).length : Int)) = false := decide_eq_false c30
                 have c30b1 : decide (0 < ([] : List Int).length) = false := decide_eq_false (by omega)
                 clear c30
                 replace H := Option.bind_eq_some_iff.mp H
                 obtain ⟨t187, A470, H⟩ := H
                 replace H : (if t187 = true then (some (wrap64 (rd t168 0), wrap64 (rd t168 1), wrap64 (rd t168 2), wrap64 (rd t168 3), t179, t183, 0)) else (some (0, 0, 0, 0, ([] : List Int), ([] : List (S39)), 100))) = some (r1, r2, r3, r4, r5, r6, r7) := H
                 have A47 := Aside0.mk A470
                 clear A470
                 by_cases c48 : t187 = true
                 ·subst c48
                  have H1 : (some (wrap64 (rd t168 0), wrap64 (rd t168 1), wrap64 (rd t168 2), wrap64 (rd t168 3), t179, t183, 0)) = some (r1, r2, r3, r4, r5, r6, r7) := by rw [if_pos rfl] at H <;> exact H
                  clear H
                  have H := H1
                  clear H1
                  simp only [Option.some.injEq, Prod.mk.injEq] at H
                  obtain ⟨rfl, rfl, rfl, rfl, rfl, rfl, rfl⟩ := H
                  obtain ⟨i060, hi060, _, hsz60, _⟩ := info_parts info5
                  obtain ⟨A60, hcut60, hA60, hC60⟩ := print_drop_of (P := Try.prog) (Value.int .u8) 0 23 5 .i64 Try.underlying23 hi060 hsz60 A0 c0 l0 (ji24) (of_decide_eq_true (by first | (with_reducible assumption) | assumption)) (of_decide_eq_true (by first | (with_reducible assumption) | assumption)) HC0.out
                  have hr60 := Kd.C_of_reads (h1 := fun _ => rfl) (hA60 _ (Kd.reads_of_C HR0.out))
                  clear hA60 hi060 hsz60
                  obtain ⟨m60, hm60⟩ : ∃ m_, m_ = l0.drop ((ji24) : Int).toNat := ⟨_, rfl⟩
                  rw [← hm60] at hcut60 hr60 hC60
                  have hA28 := A28.out
                  rw [← hm60] at hA28
                  have HA28 := Aside0.mk hA28
                  clear hA28
                  have HR182 := Aside0.mk hr60
                  have HC182 := Aside0.mk hC60
                  clear hr60 hC60 hm60
                  have hcza0 : ws.cell? ⟨gb166, 0, none⟩ = some (.int .i64 (wrap64 (rd t168 0))) := (blk_cell sBK.out 0).trans rfl
                  have hcza1 : ws.cell? ⟨gb166, 1, none⟩ = some (.int .i64 (wrap64 (rd t168 1))) := (blk_cell sBK.out 1).trans rfl
                  have hcza2 : ws.cell? ⟨gb166, 2, none⟩ = some (.int .i64 (wrap64 (rd t168 2))) := (blk_cell sBK.out 2).trans rfl
                  have hcza3 : ws.cell? ⟨gb166, 3, none⟩ = some (.int .i64 (wrap64 (rd t168 3))) := (blk_cell sBK.out 3).trans rfl
                  have hcza4 : ws.cell? ⟨gb166, 4, none⟩ = some (.slice Ao53 t179.length co53) := (blk_cell sBK.out 4).trans rfl
                  have hcza5 : ws.cell? ⟨gb166, 5, none⟩ = some (.slice none 0 0) := (blk_cell sBK.out 5).trans rfl
                  have hfza0 := blk_frozen sBK.out 0
                  have hfza1 := blk_frozen sBK.out 1
                  have hfza2 := blk_frozen sBK.out 2
                  have hfza3 := blk_frozen sBK.out 3
                  have hfza4 := blk_frozen sBK.out 4
                  have hfza5 := blk_frozen sBK.out 5
                  go_wp2_with (first | (go_at_call 26; refine (extent_Read.calls _ _ m60 t183 t184 _ (Kd.C_below HR182.out sHB.out) HC182.out HA28.out).mono ?_; rintro e wE ⟨v185, rfl, ho0, hb⟩; have sHL := Aside0.mk (Kd.S_lower (Kd.S_new' ho0 (Kd.R_lt sHO.out)) (below_size sHB.out)); clear ho0; have n_sBK := Aside0.mk (blk_below sBK.out hb); have n_sHO := Aside0.mk (Kd.R_below sHO.out hb); have n_sHB := Aside0.mk (below_step sHB.out hb); clear sBK sHO sHB hb; have sBK := n_sBK; have sHO := n_sHO; have sHB := n_sHB; clear n_sBK n_sHO n_sHB; obtain ⟨AoL, coL, eoL⟩ := Kd.S_slice sHL.out; subst eoL; have hczb0 : wE.cell? ⟨gb166, 0, none⟩ = some (.int .i64 (wrap64 (rd t168 0))) := (blk_cell sBK.out 0).trans rfl; have hczb1 : wE.cell? ⟨gb166, 1, none⟩ = some (.int .i64 (wrap64 (rd t168 1))) := (blk_cell sBK.out 1).trans rfl; have hczb2 : wE.cell? ⟨gb166, 2, none⟩ = some (.int .i64 (wrap64 (rd t168 2))) := (blk_cell sBK.out 2).trans rfl; have hczb3 : wE.cell? ⟨gb166, 3, none⟩ = some (.int .i64 (wrap64 (rd t168 3))) := (blk_cell sBK.out 3).trans rfl; have hczb4 : wE.cell? ⟨gb166, 4, none⟩ = some (.slice Ao53 t179.length co53) := (blk_cell sBK.out 4).trans rfl; have hczb5 : wE.cell? ⟨gb166, 5, none⟩ = some (.slice none 0 0) := (blk_cell sBK.out 5).trans rfl; have hfzb0 := blk_frozen sBK.out 0; have hfzb1 := blk_frozen sBK.out 1; have hfzb2 := blk_frozen sBK.out 2; have hfzb3 := blk_frozen sBK.out 3; have hfzb4 := blk_frozen sBK.out 4; have hfzb5 := blk_frozen sBK.out 5) | (go_at_call 16; have tHO := Aside0.mk (Kd.R_mono (Kd.R_far (p := ⟨gb166, 5, none⟩) (Kd.R_types sHO.out sBK.out (by decide)) (fun _ hk => hk.2) (.slice AoL t183.length coL)) (fun _ (h_ : True ∧ _) => trivial)); have tHL := Aside0.mk (Kd.S_mono (Kd.S_far (p := ⟨gb166, 5, none⟩) (Kd.S_types sHL.out sBK.out (by decide)) (fun _ hk => hk.2) (.slice AoL t183.length coL)) (fun _ h_ => h_.1)); have tBK : Aside0 ((wE.setCell ⟨gb166, 5, none⟩ (.slice AoL t183.length coL)).heap[gb166]? = some (.cells #[.int .i64 (wrap64 (rd t168 0)), .int .i64 (wrap64 (rd t168 1)), .int .i64 (wrap64 (rd t168 2)), .int .i64 (wrap64 (rd t168 3)), .slice Ao53 t179.length co53, .slice AoL t183.length coL] 26 (0, 0))) := ⟨by refine blk_put (cs := #[.int .i64 (wrap64 (rd t168 0)), .int .i64 (wrap64 (rd t168 1)), .int .i64 (wrap64 (rd t168 2)), .int .i64 (wrap64 (rd t168 3)), .slice Ao53 t179.length co53, .slice none 0 0]) ?_ 5 _ rfl; exact sBK.out⟩; have tHB := Aside0.mk (show Below w.heap.size w (wE.setCell ⟨gb166, 5, none⟩ (.slice AoL t183.length coL)) from below_set sHB.out GE166.out); generalize wE.setCell ⟨gb166, 5, none⟩ (.slice AoL t183.length coL) = wF at tHO tHL tBK tHB ⊢; clear sHO sHL sBK sHB; have sHO := tHO; have sHL := tHL; have sBK := tBK; have sHB := tHB; clear tHO tHL tBK tHB; refine (change_Check.calls (wrap64 (rd t168 0)) (wrap64 (rd t168 1)) (wrap64 (rd t168 2)) (wrap64 (rd t168 3)) _ _ t179 _ _ t183 true _ (Kd.R_reads' sHO.out).2.2 (Kd.R_reads' sHO.out).2.1 (Kd.S_reads' sHL.out).2.2 (Kd.S_reads' sHL.out).2.1 A47.out).mono ?_; rintro e wC ⟨rfl, hb⟩; have n_sBK := Aside0.mk (blk_below sBK.out hb); have n_sHO := Aside0.mk (Kd.R_below sHO.out hb); have n_sHB := Aside0.mk (below_step sHB.out hb); have n_sHL := Aside0.mk (Kd.S_below sHL.out hb); clear sBK sHO sHB sHL hb; have sBK := n_sBK; have sHO := n_sHO; have sHB := n_sHB; have sHL := n_sHL; clear n_sBK n_sHO n_sHB n_sHL; have hczc0 : wC.cell? ⟨gb166, 0, none⟩ = some (.int .i64 (wrap64 (rd t168 0))) := (blk_cell sBK.out 0).trans rfl; have hczc1 : wC.cell? ⟨gb166, 1, none⟩ = some (.int .i64 (wrap64 (rd t168 1))) := (blk_cell sBK.out 1).trans rfl; have hczc2 : wC.cell? ⟨gb166, 2, none⟩ = some (.int .i64 (wrap64 (rd t168 2))) := (blk_cell sBK.out 2).trans rfl; have hczc3 : wC.cell? ⟨gb166, 3, none⟩ = some (.int .i64 (wrap64 (rd t168 3))) := (blk_cell sBK.out 3).trans rfl; have hczc4 : wC.cell? ⟨gb166, 4, none⟩ = some (.slice Ao53 t179.length co53) := (blk_cell sBK.out 4).trans rfl; have hczc5 : wC.cell? ⟨gb166, 5, none⟩ = some (.slice AoL t183.length coL) := (blk_cell sBK.out 5).trans rfl; have hfzc0 := blk_frozen sBK.out 0; have hfzc1 := blk_frozen sBK.out 1; have hfzc2 := blk_frozen sBK.out 2; have hfzc3 := blk_frozen sBK.out 3; have hfzc4 := blk_frozen sBK.out 4; have hfzc5 := blk_frozen sBK.out 5))
                  refine bodyPost_ret (results_ct rfl _ _ gb166 26 #[.int .i64 (wrap64 (rd t168 0)), .int .i64 (wrap64 (rd t168 1)), .int .i64 (wrap64 (rd t168 2)), .int .i64 (wrap64 (rd t168 3)), .slice Ao53 t179.length co53, .slice AoL t183.length coL] (0, 0) _ rfl (by refine blk_put (cs := #[.int .i64 (wrap64 (rd t168 0)), .int .i64 (wrap64 (rd t168 1)), .int .i64 (wrap64 (rd t168 2)), .int .i64 (wrap64 (rd t168 3)), .slice Ao53 t179.length co53, .slice AoL t183.length coL]) ?_ 5 _ rfl; refine blk_put (cs := #[.int .i64 (wrap64 (rd t168 0)), .int .i64 (wrap64 (rd t168 1)), .int .i64 (wrap64 (rd t168 2)), .int .i64 (wrap64 (rd t168 3)), .slice Ao53 t179.length co53, .slice AoL t183.length coL]) ?_ 4 _ rfl; refine blk_put (cs := #[.int .i64 (wrap64 (rd t168 0)), .int .i64 (wrap64 (rd t168 1)), .int .i64 (wrap64 (rd t168 2)), .int .i64 (wrap64 (rd t168 3)), .slice Ao53 t179.length co53, .slice AoL t183.length coL]) ?_ 3 _ rfl; refine blk_put (cs := #[.int .i64 (wrap64 (rd t168 0)), .int .i64 (wrap64 (rd t168 1)), .int .i64 (wrap64 (rd t168 2)), .int .i64 (wrap64 (rd t168 3)), .slice Ao53 t179.length co53, .slice AoL t183.length coL]) ?_ 2 _ rfl; refine blk_put (cs := #[.int .i64 (wrap64 (rd t168 0)), .int .i64 (wrap64 (rd t168 1)), .int .i64 (wrap64 (rd t168 2)), .int .i64 (wrap64 (rd t168 3)), .slice Ao53 t179.length co53, .slice AoL t183.length coL]) ?_ 1 _ rfl; refine blk_put (cs := #[.int .i64 (wrap64 (rd t168 0)), .int .i64 (wrap64 (rd t168 1)), .int .i64 (wrap64 (rd t168 2)), .int .i64 (wrap64 (rd t168 3)), .slice Ao53 t179.length co53, .slice AoL t183.length coL]) ?_ 0 _ rfl; exact sBK.out) Try.underlying26 rfl (by kernel_rfl)) rfl ?_
                  exact ⟨.slice Ao53 t179.length co53, .slice AoL t183.length coL, rfl, Kd.R_mono (Kd.R_far (p := ⟨gb166, 5, none⟩) (Kd.R_far (p := ⟨gb166, 4, none⟩) (Kd.R_far (p := ⟨gb166, 3, none⟩) (Kd.R_far (p := ⟨gb166, 2, none⟩) (Kd.R_far (p := ⟨gb166, 1, none⟩) (Kd.R_far (p := ⟨gb166, 0, none⟩) (Kd.R_types sHO.out sBK.out (by decide)) (fun _ hk => hk.2) (.int .i64 (wrap64 (rd t168 0)))) (fun _ hk => hk.2) (.int .i64 (wrap64 (rd t168 1)))) (fun _ hk => hk.2) (.int .i64 (wrap64 (rd t168 2)))) (fun _ hk => hk.2) (.int .i64 (wrap64 (rd t168 3)))) (fun _ hk => hk.2) (.slice Ao53 t179.length co53)) (fun _ hk => hk.2) (.slice AoL t183.length coL)) (fun _ _ => trivial), Kd.S_mono (Kd.S_far (p := ⟨gb166, 5, none⟩) (Kd.S_far (p := ⟨gb166, 4, none⟩) (Kd.S_far (p := ⟨gb166, 3, none⟩) (Kd.S_far (p := ⟨gb166, 2, none⟩) (Kd.S_far (p := ⟨gb166, 1, none⟩) (Kd.S_far (p := ⟨gb166, 0, none⟩) (Kd.S_types sHL.out sBK.out (by decide)) (fun _ hk => hk.2) (.int .i64 (wrap64 (rd t168 0)))) (fun _ hk => hk.2) (.int .i64 (wrap64 (rd t168 1)))) (fun _ hk => hk.2) (.int .i64 (wrap64 (rd t168 2)))) (fun _ hk => hk.2) (.int .i64 (wrap64 (rd t168 3)))) (fun _ hk => hk.2) (.slice Ao53 t179.length co53)) (fun _ hk => hk.2) (.slice AoL t183.length coL)) (fun _ hk => hk.1.2), below_set (below_set (below_set (below_set (below_set (below_set (sHB.out) GE166.out) GE166.out) GE166.out) GE166.out) GE166.out) GE166.out⟩
                 ·replace c48 := Bool.eq_false_iff.mpr c48
                  subst c48
                  have H1 : (some (0, 0, 0, 0, ([] : List Int), ([] : List (S39)), 100)) = some (r1, r2, r3, r4, r5, r6, r7) := by rw [if_neg (show ¬ (false = true) by decide)] at H <;> exact H
                  clear H
                  have H := H1
                  clear H1
                  simp only [Option.some.injEq, Prod.mk.injEq] at H
                  obtain ⟨rfl, rfl, rfl, rfl, rfl, rfl, rfl⟩ := H
                  obtain ⟨i078, hi078, _, hsz78, _⟩ := info_parts info5
                  obtain ⟨A78, hcut78, hA78, hC78⟩ := print_drop_of (P := Try.prog) (Value.int .u8) 0 23 5 .i64 Try.underlying23 hi078 hsz78 A0 c0 l0 (ji24) (of_decide_eq_true (by first | (with_reducible assumption) | assumption)) (of_decide_eq_true (by first | (with_reducible assumption) | assumption)) HC0.out
                  have hr60 := Kd.C_of_reads (h1 := fun _ => rfl) (hA78 _ (Kd.reads_of_C HR0.out))
                  clear hA78 hi078 hsz78
                  obtain ⟨m60, hm60⟩ : ∃ m_, m_ = l0.drop ((ji24) : Int).toNat := ⟨_, rfl⟩
                  rw [← hm60] at hcut78 hr60 hC78
                  have hA28 := A28.out
                  rw [← hm60] at hA28
                  have HA28 := Aside0.mk hA28
                  clear hA28
                  have HR182 := Aside0.mk hr60
                  have HC182 := Aside0.mk hC78
                  clear hr60 hC78 hm60
                  have hcza0 : ws.cell? ⟨gb166, 0, none⟩ = some (.int .i64 (wrap64 (rd t168 0))) := (blk_cell sBK.out 0).trans rfl
                  have hcza1 : ws.cell? ⟨gb166, 1, none⟩ = some (.int .i64 (wrap64 (rd t168 1))) := (blk_cell sBK.out 1).trans rfl
                  have hcza2 : ws.cell? ⟨gb166, 2, none⟩ = some (.int .i64 (wrap64 (rd t168 2))) := (blk_cell sBK.out 2).trans rfl
                  have hcza3 : ws.cell? ⟨gb166, 3, none⟩ = some (.int .i64 (wrap64 (rd t168 3))) := (blk_cell sBK.out 3).trans rfl
                  have hcza4 : ws.cell? ⟨gb166, 4, none⟩ = some (.slice Ao53 t179.length co53) := (blk_cell sBK.out 4).trans rfl
                  have hcza5 : ws.cell? ⟨gb166, 5, none⟩ = some (.slice none 0 0) := (blk_cell sBK.out 5).trans rfl
                  have hfza0 := blk_frozen sBK.out 0
                  have hfza1 := blk_frozen sBK.out 1
                  have hfza2 := blk_frozen sBK.out 2
                  have hfza3 := blk_frozen sBK.out 3
                  have hfza4 := blk_frozen sBK.out 4
                  have hfza5 := blk_frozen sBK.out 5
                  go_wp2_with (first | (go_at_call 26; refine (extent_Read.calls _ _ m60 t183 t184 _ (Kd.C_below HR182.out sHB.out) HC182.out HA28.out).mono ?_; rintro e wE ⟨v185, rfl, ho0, hb⟩; have sHL := Aside0.mk (Kd.S_lower (Kd.S_new' ho0 (Kd.R_lt sHO.out)) (below_size sHB.out)); clear ho0; have n_sBK := Aside0.mk (blk_below sBK.out hb); have n_sHO := Aside0.mk (Kd.R_below sHO.out hb); have n_sHB := Aside0.mk (below_step sHB.out hb); clear sBK sHO sHB hb; have sBK := n_sBK; have sHO := n_sHO; have sHB := n_sHB; clear n_sBK n_sHO n_sHB; obtain ⟨AoL, coL, eoL⟩ := Kd.S_slice sHL.out; subst eoL; have hczb0 : wE.cell? ⟨gb166, 0, none⟩ = some (.int .i64 (wrap64 (rd t168 0))) := (blk_cell sBK.out 0).trans rfl; have hczb1 : wE.cell? ⟨gb166, 1, none⟩ = some (.int .i64 (wrap64 (rd t168 1))) := (blk_cell sBK.out 1).trans rfl; have hczb2 : wE.cell? ⟨gb166, 2, none⟩ = some (.int .i64 (wrap64 (rd t168 2))) := (blk_cell sBK.out 2).trans rfl; have hczb3 : wE.cell? ⟨gb166, 3, none⟩ = some (.int .i64 (wrap64 (rd t168 3))) := (blk_cell sBK.out 3).trans rfl; have hczb4 : wE.cell? ⟨gb166, 4, none⟩ = some (.slice Ao53 t179.length co53) := (blk_cell sBK.out 4).trans rfl; have hczb5 : wE.cell? ⟨gb166, 5, none⟩ = some (.slice none 0 0) := (blk_cell sBK.out 5).trans rfl; have hfzb0 := blk_frozen sBK.out 0; have hfzb1 := blk_frozen sBK.out 1; have hfzb2 := blk_frozen sBK.out 2; have hfzb3 := blk_frozen sBK.out 3; have hfzb4 := blk_frozen sBK.out 4; have hfzb5 := blk_frozen sBK.out 5) | (go_at_call 16; have tHO := Aside0.mk (Kd.R_mono (Kd.R_far (p := ⟨gb166, 5, none⟩) (Kd.R_types sHO.out sBK.out (by decide)) (fun _ hk => hk.2) (.slice AoL t183.length coL)) (fun _ (h_ : True ∧ _) => trivial)); have tHL := Aside0.mk (Kd.S_mono (Kd.S_far (p := ⟨gb166, 5, none⟩) (Kd.S_types sHL.out sBK.out (by decide)) (fun _ hk => hk.2) (.slice AoL t183.length coL)) (fun _ h_ => h_.1)); have tBK : Aside0 ((wE.setCell ⟨gb166, 5, none⟩ (.slice AoL t183.length coL)).heap[gb166]? = some (.cells #[.int .i64 (wrap64 (rd t168 0)), .int .i64 (wrap64 (rd t168 1)), .int .i64 (wrap64 (rd t168 2)), .int .i64 (wrap64 (rd t168 3)), .slice Ao53 t179.length co53, .slice AoL t183.length coL] 26 (0, 0))) := ⟨by refine blk_put (cs := #[.int .i64 (wrap64 (rd t168 0)), .int .i64 (wrap64 (rd t168 1)), .int .i64 (wrap64 (rd t168 2)), .int .i64 (wrap64 (rd t168 3)), .slice Ao53 t179.length co53, .slice none 0 0]) ?_ 5 _ rfl; exact sBK.out⟩; have tHB := Aside0.mk (show Below w.heap.size w (wE.setCell ⟨gb166, 5, none⟩ (.slice AoL t183.length coL)) from below_set sHB.out GE166.out); generalize wE.setCell ⟨gb166, 5, none⟩ (.slice AoL t183.length coL) = wF at tHO tHL tBK tHB ⊢; clear sHO sHL sBK sHB; have sHO := tHO; have sHL := tHL; have sBK := tBK; have sHB := tHB; clear tHO tHL tBK tHB; refine (change_Check.calls (wrap64 (rd t168 0)) (wrap64 (rd t168 1)) (wrap64 (rd t168 2)) (wrap64 (rd t168 3)) _ _ t179 _ _ t183 false _ (Kd.R_reads' sHO.out).2.2 (Kd.R_reads' sHO.out).2.1 (Kd.S_reads' sHL.out).2.2 (Kd.S_reads' sHL.out).2.1 A47.out).mono ?_; rintro e wC ⟨rfl, hb⟩; have n_sBK := Aside0.mk (blk_below sBK.out hb); have n_sHO := Aside0.mk (Kd.R_below sHO.out hb); have n_sHB := Aside0.mk (below_step sHB.out hb); have n_sHL := Aside0.mk (Kd.S_below sHL.out hb); clear sBK sHO sHB sHL hb; have sBK := n_sBK; have sHO := n_sHO; have sHB := n_sHB; have sHL := n_sHL; clear n_sBK n_sHO n_sHB n_sHL; have hczc0 : wC.cell? ⟨gb166, 0, none⟩ = some (.int .i64 (wrap64 (rd t168 0))) := (blk_cell sBK.out 0).trans rfl; have hczc1 : wC.cell? ⟨gb166, 1, none⟩ = some (.int .i64 (wrap64 (rd t168 1))) := (blk_cell sBK.out 1).trans rfl; have hczc2 : wC.cell? ⟨gb166, 2, none⟩ = some (.int .i64 (wrap64 (rd t168 2))) := (blk_cell sBK.out 2).trans rfl; have hczc3 : wC.cell? ⟨gb166, 3, none⟩ = some (.int .i64 (wrap64 (rd t168 3))) := (blk_cell sBK.out 3).trans rfl; have hczc4 : wC.cell? ⟨gb166, 4, none⟩ = some (.slice Ao53 t179.length co53) := (blk_cell sBK.out 4).trans rfl; have hczc5 : wC.cell? ⟨gb166, 5, none⟩ = some (.slice AoL t183.length coL) := (blk_cell sBK.out 5).trans rfl; have hfzc0 := blk_frozen sBK.out 0; have hfzc1 := blk_frozen sBK.out 1; have hfzc2 := blk_frozen sBK.out 2; have hfzc3 := blk_frozen sBK.out 3; have hfzc4 := blk_frozen sBK.out 4; have hfzc5 := blk_frozen sBK.out 5))
                  refine bodyPost_ret (results_ct rfl _ _ gb166 26 #[.int .i64 0, .int .i64 0, .int .i64 0, .int .i64 0, .slice none 0 0, .slice none 0 0] (0, 0) _ rfl (by refine blk_put (cs := #[.int .i64 0, .int .i64 0, .int .i64 0, .int .i64 0, .slice none 0 0, .slice AoL t183.length coL]) ?_ 5 _ rfl; refine blk_put (cs := #[.int .i64 0, .int .i64 0, .int .i64 0, .int .i64 0, .slice Ao53 t179.length co53, .slice AoL t183.length coL]) ?_ 4 _ rfl; refine blk_put (cs := #[.int .i64 0, .int .i64 0, .int .i64 0, .int .i64 (wrap64 (rd t168 3)), .slice Ao53 t179.length co53, .slice AoL t183.length coL]) ?_ 3 _ rfl; refine blk_put (cs := #[.int .i64 0, .int .i64 0, .int .i64 (wrap64 (rd t168 2)), .int .i64 (wrap64 (rd t168 3)), .slice Ao53 t179.length co53, .slice AoL t183.length coL]) ?_ 2 _ rfl; refine blk_put (cs := #[.int .i64 0, .int .i64 (wrap64 (rd t168 1)), .int .i64 (wrap64 (rd t168 2)), .int .i64 (wrap64 (rd t168 3)), .slice Ao53 t179.length co53, .slice AoL t183.length coL]) ?_ 1 _ rfl; refine blk_put (cs := #[.int .i64 (wrap64 (rd t168 0)), .int .i64 (wrap64 (rd t168 1)), .int .i64 (wrap64 (rd t168 2)), .int .i64 (wrap64 (rd t168 3)), .slice Ao53 t179.length co53, .slice AoL t183.length coL]) ?_ 0 _ rfl; exact sBK.out) Try.underlying26 rfl (by kernel_rfl)) rfl ?_
                  exact ⟨.slice none 0 0, .slice none 0 0, rfl, Kd.R_nil _ _ _ _ _, Kd.S_nil _ _ _ _ _, below_set (below_set (below_set (below_set (below_set (below_set (sHB.out) GE166.out) GE166.out) GE166.out) GE166.out) GE166.out) GE166.out⟩
               ·rw [if_neg c29] at H
                have c29b0 : (t184 == 0) = false := beq_eq_false_iff_ne.mpr c29
                have c29b1 : (t184 != 0) = true := bne_iff_ne.mpr c29
                simp only [Option.some.injEq, Prod.mk.injEq] at H
                obtain ⟨rfl, rfl, rfl, rfl, rfl, rfl, rfl⟩ := H
                obtain ⟨i096, hi096, _, hsz96, _⟩ := info_parts info5
                obtain ⟨A96, hcut96, hA96, hC96⟩ := print_drop_of (P := Try.prog) (Value.int .u8) 0 23 5 .i64 Try.underlying23 hi096 hsz96 A0 c0 l0 (ji24) (of_decide_eq_true (by first | (with_reducible assumption) | assumption)) (of_decide_eq_true (by first | (with_reducible assumption) | assumption)) HC0.out
                have hr60 := Kd.C_of_reads (h1 := fun _ => rfl) (hA96 _ (Kd.reads_of_C HR0.out))
                clear hA96 hi096 hsz96
                obtain ⟨m60, hm60⟩ : ∃ m_, m_ = l0.drop ((ji24) : Int).toNat := ⟨_, rfl⟩
                rw [← hm60] at hcut96 hr60 hC96
                have hA28 := A28.out
                rw [← hm60] at hA28
                have HA28 := Aside0.mk hA28
                clear hA28
                have HR182 := Aside0.mk hr60
                have HC182 := Aside0.mk hC96
                clear hr60 hC96 hm60
                have hcza0 : ws.cell? ⟨gb166, 0, none⟩ = some (.int .i64 (wrap64 (rd t168 0))) := (blk_cell sBK.out 0).trans rfl
                have hcza1 : ws.cell? ⟨gb166, 1, none⟩ = some (.int .i64 (wrap64 (rd t168 1))) := (blk_cell sBK.out 1).trans rfl
                have hcza2 : ws.cell? ⟨gb166, 2, none⟩ = some (.int .i64 (wrap64 (rd t168 2))) := (blk_cell sBK.out 2).trans rfl
                have hcza3 : ws.cell? ⟨gb166, 3, none⟩ = some (.int .i64 (wrap64 (rd t168 3))) := (blk_cell sBK.out 3).trans rfl
                have hcza4 : ws.cell? ⟨gb166, 4, none⟩ = some (.slice Ao53 t179.length co53) := (blk_cell sBK.out 4).trans rfl
                have hcza5 : ws.cell? ⟨gb166, 5, none⟩ = some (.slice none 0 0) := (blk_cell sBK.out 5).trans rfl
                have hfza0 := blk_frozen sBK.out 0
                have hfza1 := blk_frozen sBK.out 1
                have hfza2 := blk_frozen sBK.out 2
                have hfza3 := blk_frozen sBK.out 3
                have hfza4 := blk_frozen sBK.out 4
                have hfza5 := blk_frozen sBK.out 5
                go_wp2_with (first | (go_at_call 26; refine (extent_Read.calls _ _ m60 t183 t184 _ (Kd.C_below HR182.out sHB.out) HC182.out HA28.out).mono ?_; rintro e wE ⟨v185, rfl, ho0, hb⟩; have sHL := Aside0.mk (Kd.S_lower (Kd.S_new' ho0 (Kd.R_lt sHO.out)) (below_size sHB.out)); clear ho0; have n_sBK := Aside0.mk (blk_below sBK.out hb); have n_sHO := Aside0.mk (Kd.R_below sHO.out hb); have n_sHB := Aside0.mk (below_step sHB.out hb); clear sBK sHO sHB hb; have sBK := n_sBK; have sHO := n_sHO; have sHB := n_sHB; clear n_sBK n_sHO n_sHB; obtain ⟨AoL, coL, eoL⟩ := Kd.S_slice sHL.out; subst eoL; have hczb0 : wE.cell? ⟨gb166, 0, none⟩ = some (.int .i64 (wrap64 (rd t168 0))) := (blk_cell sBK.out 0).trans rfl; have hczb1 : wE.cell? ⟨gb166, 1, none⟩ = some (.int .i64 (wrap64 (rd t168 1))) := (blk_cell sBK.out 1).trans rfl; have hczb2 : wE.cell? ⟨gb166, 2, none⟩ = some (.int .i64 (wrap64 (rd t168 2))) := (blk_cell sBK.out 2).trans rfl; have hczb3 : wE.cell? ⟨gb166, 3, none⟩ = some (.int .i64 (wrap64 (rd t168 3))) := (blk_cell sBK.out 3).trans rfl; have hczb4 : wE.cell? ⟨gb166, 4, none⟩ = some (.slice Ao53 t179.length co53) := (blk_cell sBK.out 4).trans rfl; have hczb5 : wE.cell? ⟨gb166, 5, none⟩ = some (.slice none 0 0) := (blk_cell sBK.out 5).trans rfl; have hfzb0 := blk_frozen sBK.out 0; have hfzb1 := blk_frozen sBK.out 1; have hfzb2 := blk_frozen sBK.out 2; have hfzb3 := blk_frozen sBK.out 3; have hfzb4 := blk_frozen sBK.out 4; have hfzb5 := blk_frozen sBK.out 5))
                refine bodyPost_ret (results_ct rfl _ _ gb166 26 #[.int .i64 0, .int .i64 0, .int .i64 0, .int .i64 0, .slice none 0 0, .slice none 0 0] (0, 0) _ rfl (by refine blk_put (cs := #[.int .i64 0, .int .i64 0, .int .i64 0, .int .i64 0, .slice none 0 0, .slice AoL t183.length coL]) ?_ 5 _ rfl; refine blk_put (cs := #[.int .i64 0, .int .i64 0, .int .i64 0, .int .i64 0, .slice Ao53 t179.length co53, .slice AoL t183.length coL]) ?_ 4 _ rfl; refine blk_put (cs := #[.int .i64 0, .int .i64 0, .int .i64 0, .int .i64 (wrap64 (rd t168 3)), .slice Ao53 t179.length co53, .slice AoL t183.length coL]) ?_ 3 _ rfl; refine blk_put (cs := #[.int .i64 0, .int .i64 0, .int .i64 (wrap64 (rd t168 2)), .int .i64 (wrap64 (rd t168 3)), .slice Ao53 t179.length co53, .slice AoL t183.length coL]) ?_ 2 _ rfl; refine blk_put (cs := #[.int .i64 0, .int .i64 (wrap64 (rd t168 1)), .int .i64 (wrap64 (rd t168 2)), .int .i64 (wrap64 (rd t168 3)), .slice Ao53 t179.length co53, .slice AoL t183.length coL]) ?_ 1 _ rfl; refine blk_put (cs := #[.int .i64 (wrap64 (rd t168 0)), .int .i64 (wrap64 (rd t168 1)), .int .i64 (wrap64 (rd t168 2)), .int .i64 (wrap64 (rd t168 3)), .slice Ao53 t179.length co53, .slice AoL t183.length coL]) ?_ 0 _ rfl; refine blk_put (cs := #[.int .i64 (wrap64 (rd t168 0)), .int .i64 (wrap64 (rd t168 1)), .int .i64 (wrap64 (rd t168 2)), .int .i64 (wrap64 (rd t168 3)), .slice Ao53 t179.length co53, .slice none 0 0]) ?_ 5 _ rfl; exact sBK.out) Try.underlying26 rfl (by kernel_rfl)) rfl ?_
                exact ⟨.slice none 0 0, .slice none 0 0, rfl, Kd.R_nil _ _ _ _ _, Kd.S_nil _ _ _ _ _, below_set (below_set (below_set (below_set (below_set (below_set (below_set (sHB.out) GE166.out) GE166.out) GE166.out) GE166.out) GE166.out) GE166.out) GE166.out⟩
              ·rw [if_neg c27] at H
               have c27b0 : ((wrap64 (rd t168 0)) == 8) = false := beq_eq_false_iff_ne.mpr c27
               have c27b1 : ((wrap64 (rd t168 0)) != 8) = true := bne_iff_ne.mpr c27
               by_cases c101 : ((l0.drop ((ji24) : Int).toNat).length : Int) > 0
               ·rw [if_pos c101] at H
                have c101b0 : decide (0 < ((l0.drop ((ji24) : Int).toNat).length : Int)) = true := decide_eq_true c101
                have c101b1 : decide (0 < (l0.drop ((ji24) : Int).toNat).length) = true := decide_eq_true (by omega)
                clear c101
                simp only [Option.some.injEq, Prod.mk.injEq] at H
                obtain ⟨rfl, rfl, rfl, rfl, rfl, rfl, rfl⟩ := H
                obtain ⟨i0113, hi0113, _, hsz113, _⟩ := info_parts info5
                obtain ⟨A113, hcut113, hA113, hC113⟩ := print_drop_of (P := Try.prog) (Value.int .u8) 0 23 5 .i64 Try.underlying23 hi0113 hsz113 A0 c0 l0 (ji24) (of_decide_eq_true (by first | (with_reducible assumption) | assumption)) (of_decide_eq_true (by first | (with_reducible assumption) | assumption)) HC0.out
                have hr60 := Kd.C_of_reads (h1 := fun _ => rfl) (hA113 _ (Kd.reads_of_C HR0.out))
                clear hA113 hi0113 hsz113
                obtain ⟨m60, hm60⟩ : ∃ m_, m_ = l0.drop ((ji24) : Int).toNat := ⟨_, rfl⟩
                rw [← hm60] at hcut113 hr60 hC113
                (try rw [← hm60] at c101b0)
                (try rw [← hm60] at c101b1)
                have HR182 := Aside0.mk hr60
                have HC182 := Aside0.mk hC113
                clear hr60 hC113 hm60
                have hcza0 : ws.cell? ⟨gb166, 0, none⟩ = some (.int .i64 (wrap64 (rd t168 0))) := (blk_cell sBK.out 0).trans rfl
                have hcza1 : ws.cell? ⟨gb166, 1, none⟩ = some (.int .i64 (wrap64 (rd t168 1))) := (blk_cell sBK.out 1).trans rfl
                have hcza2 : ws.cell? ⟨gb166, 2, none⟩ = some (.int .i64 (wrap64 (rd t168 2))) := (blk_cell sBK.out 2).trans rfl
                have hcza3 : ws.cell? ⟨gb166, 3, none⟩ = some (.int .i64 (wrap64 (rd t168 3))) := (blk_cell sBK.out 3).trans rfl
                have hcza4 : ws.cell? ⟨gb166, 4, none⟩ = some (.slice Ao53 t179.length co53) := (blk_cell sBK.out 4).trans rfl
                have hcza5 : ws.cell? ⟨gb166, 5, none⟩ = some (.slice none 0 0) := (blk_cell sBK.out 5).trans rfl
                have hfza0 := blk_frozen sBK.out 0
                have hfza1 := blk_frozen sBK.out 1
                have hfza2 := blk_frozen sBK.out 2
                have hfza3 := blk_frozen sBK.out 3
                have hfza4 := blk_frozen sBK.out 4
                have hfza5 := blk_frozen sBK.out 5
                go_wp2_with fail
                refine bodyPost_ret (results_ct rfl _ _ gb166 26 #[.int .i64 0, .int .i64 0, .int .i64 0, .int .i64 0, .slice none 0 0, .slice none 0 0] (0, 0) _ rfl (by refine blk_put (cs := #[.int .i64 0, .int .i64 0, .int .i64 0, .int .i64 0, .slice none 0 0, .slice none 0 0]) ?_ 5 _ rfl; refine blk_put (cs := #[.int .i64 0, .int .i64 0, .int .i64 0, .int .i64 0, .slice Ao53 t179.length co53, .slice none 0 0]) ?_ 4 _ rfl; refine blk_put (cs := #[.int .i64 0, .int .i64 0, .int .i64 0, .int .i64 (wrap64 (rd t168 3)), .slice Ao53 t179.length co53, .slice none 0 0]) ?_ 3 _ rfl; refine blk_put (cs := #[.int .i64 0, .int .i64 0, .int .i64 (wrap64 (rd t168 2)), .int .i64 (wrap64 (rd t168 3)), .slice Ao53 t179.length co53, .slice none 0 0]) ?_ 2 _ rfl; refine blk_put (cs := #[.int .i64 0, .int .i64 (wrap64 (rd t168 1)), .int .i64 (wrap64 (rd t168 2)), .int .i64 (wrap64 (rd t168 3)), .slice Ao53 t179.length co53, .slice none 0 0]) ?_ 1 _ rfl; refine blk_put (cs := #[.int .i64 (wrap64 (rd t168 0)), .int .i64 (wrap64 (rd t168 1)), .int .i64 (wrap64 (rd t168 2)), .int .i64 (wrap64 (rd t168 3)), .slice Ao53 t179.length co53, .slice none 0 0]) ?_ 0 _ rfl; exact sBK.out) Try.underlying26 rfl (by kernel_rfl)) rfl ?_
                exact ⟨.slice none 0 0, .slice none 0 0, rfl, Kd.R_nil _ _ _ _ _, Kd.S_nil _ _ _ _ _, below_set (below_set (below_set (below_set (below_set (below_set (sHB.out) GE166.out) GE166.out) GE166.out) GE166.out) GE166.out) GE166.out⟩
               ·rw [if_neg c101] at H
                have c101b0 : decide (0 < ((l0.drop ((ji24) : Int).toNat).length : Int)) = false := decide_eq_false c101
                have c101b1 : decide (0 < (l0.drop ((ji24) : Int).toNat).length) = false := decide_eq_false (by omega)
                clear c101
                replace H := Option.bind_eq_some_iff.mp H
                obtain ⟨t188, A1150, H⟩ := H
                replace H : (if t188 = true then (some (wrap64 (rd t168 0), wrap64 (rd t168 1), wrap64 (rd t168 2), wrap64 (rd t168 3), t179, ([] : List (S39)), 0)) else (some (0, 0, 0, 0, ([] : List Int), ([] : List (S39)), 100))) = some (r1, r2, r3, r4, r5, r6, r7) := H
                have A115 := Aside0.mk A1150
                clear A1150
                by_cases c116 : t188 = true
                ·subst c116
                 have H1 : (some (wrap64 (rd t168 0), wrap64 (rd t168 1), wrap64 (rd t168 2), wrap64 (rd t168 3), t179, ([] : List (S39)), 0)) = some (r1, r2, r3, r4, r5, r6, r7) := by rw [if_pos rfl] at H <;> exact H
                 clear H
                 have H := H1
                 clear H1
                 simp only [Option.some.injEq, Prod.mk.injEq] at H
                 obtain ⟨rfl, rfl, rfl, rfl, rfl, rfl, rfl⟩ := H
                 obtain ⟨i0128, hi0128, _, hsz128, _⟩ := info_parts info5
                 obtain ⟨A128, hcut128, hA128, hC128⟩ := print_drop_of (P := Try.prog) (Value.int .u8) 0 23 5 .i64 Try.underlying23 hi0128 hsz128 A0 c0 l0 (ji24) (of_decide_eq_true (by first | (with_reducible assumption) | assumption)) (of_decide_eq_true (by first | (with_reducible assumption) | assumption)) HC0.out
                 have hr60 := Kd.C_of_reads (h1 := fun _ => rfl) (hA128 _ (Kd.reads_of_C HR0.out))
                 clear hA128 hi0128 hsz128
                 obtain ⟨m60, hm60⟩ : ∃ m_, m_ = l0.drop ((ji24) : Int).toNat := ⟨_, rfl⟩
                 rw [← hm60] at hcut128 hr60 hC128
                 (try rw [← hm60] at c101b0)
                 (try rw [← hm60] at c101b1)
                 (try rw [← hm60] at c101b0)
                 (try rw [← hm60] at c101b1)
                 have HR182 := Aside0.mk hr60
                 have HC182 := Aside0.mk hC128
                 clear hr60 hC128 hm60
                 have hcza0 : ws.cell? ⟨gb166, 0, none⟩ = some (.int .i64 (wrap64 (rd t168 0))) := (blk_cell sBK.out 0).trans rfl
                 have hcza1 : ws.cell? ⟨gb166, 1, none⟩ = some (.int .i64 (wrap64 (rd t168 1))) := (blk_cell sBK.out 1).trans rfl
                 have hcza2 : ws.cell? ⟨gb166, 2, none⟩ = some (.int .i64 (wrap64 (rd t168 2))) := (blk_cell sBK.out 2).trans rfl
                 have hcza3 : ws.cell? ⟨gb166, 3, none⟩ = some (.int .i64 (wrap64 (rd t168 3))) := (blk_cell sBK.out 3).trans rfl
                 have hcza4 : ws.cell? ⟨gb166, 4, none⟩ = some (.slice Ao53 t179.length co53) := (blk_cell sBK.out 4).trans rfl
                 have hcza5 : ws.cell? ⟨gb166, 5, none⟩ = some (.slice none 0 0) := (blk_cell sBK.out 5).trans rfl
                 have hfza0 := blk_frozen sBK.out 0
                 have hfza1 := blk_frozen sBK.out 1
                 have hfza2 := blk_frozen sBK.out 2
                 have hfza3 := blk_frozen sBK.out 3
                 have hfza4 := blk_frozen sBK.out 4
                 have hfza5 := blk_frozen sBK.out 5
                 go_wp2_with (first | (go_at_call 16; refine (change_Check.calls (wrap64 (rd t168 0)) (wrap64 (rd t168 1)) (wrap64 (rd t168 2)) (wrap64 (rd t168 3)) _ _ t179 none 0 ([] : List S39) true _ (Kd.R_reads' sHO.out).2.2 (Kd.R_reads' sHO.out).2.1 (Kd.C_nil _ _) (Nat.le_refl _) A115.out).mono ?_; rintro e wC ⟨rfl, hb⟩; have n_sBK := Aside0.mk (blk_below sBK.out hb); have n_sHO := Aside0.mk (Kd.R_below sHO.out hb); have n_sHB := Aside0.mk (below_step sHB.out hb); clear sBK sHO sHB hb; have sBK := n_sBK; have sHO := n_sHO; have sHB := n_sHB; clear n_sBK n_sHO n_sHB; have hczc0 : wC.cell? ⟨gb166, 0, none⟩ = some (.int .i64 (wrap64 (rd t168 0))) := (blk_cell sBK.out 0).trans rfl; have hczc1 : wC.cell? ⟨gb166, 1, none⟩ = some (.int .i64 (wrap64 (rd t168 1))) := (blk_cell sBK.out 1).trans rfl; have hczc2 : wC.cell? ⟨gb166, 2, none⟩ = some (.int .i64 (wrap64 (rd t168 2))) := (blk_cell sBK.out 2).trans rfl; have hczc3 : wC.cell? ⟨gb166, 3, none⟩ = some (.int .i64 (wrap64 (rd t168 3))) := (blk_cell sBK.out 3).trans rfl; have hczc4 : wC.cell? ⟨gb166, 4, none⟩ = some (.slice Ao53 t179.length co53) := (blk_cell sBK.out 4).trans rfl; have hczc5 : wC.cell? ⟨gb166, 5, none⟩ = some (.slice none 0 0) := (blk_cell sBK.out 5).trans rfl; have hfzc0 := blk_frozen sBK.out 0; have hfzc1 := blk_frozen sBK.out 1; have hfzc2 := blk_frozen sBK.out 2; have hfzc3 := blk_frozen sBK.out 3; have hfzc4 := blk_frozen sBK.out 4; have hfzc5 := blk_frozen sBK.out 5))
                 refine bodyPost_ret (results_ct rfl _ _ gb166 26 #[.int .i64 (wrap64 (rd t168 0)), .int .i64 (wrap64 (rd t168 1)), .int .i64 (wrap64 (rd t168 2)), .int .i64 (wrap64 (rd t168 3)), .slice Ao53 t179.length co53, .slice none 0 0] (0, 0) _ rfl (by refine blk_put (cs := #[.int .i64 (wrap64 (rd t168 0)), .int .i64 (wrap64 (rd t168 1)), .int .i64 (wrap64 (rd t168 2)), .int .i64 (wrap64 (rd t168 3)), .slice Ao53 t179.length co53, .slice none 0 0]) ?_ 5 _ rfl; refine blk_put (cs := #[.int .i64 (wrap64 (rd t168 0)), .int .i64 (wrap64 (rd t168 1)), .int .i64 (wrap64 (rd t168 2)), .int .i64 (wrap64 (rd t168 3)), .slice Ao53 t179.length co53, .slice none 0 0]) ?_ 4 _ rfl; refine blk_put (cs := #[.int .i64 (wrap64 (rd t168 0)), .int .i64 (wrap64 (rd t168 1)), .int .i64 (wrap64 (rd t168 2)), .int .i64 (wrap64 (rd t168 3)), .slice Ao53 t179.length co53, .slice none 0 0]) ?_ 3 _ rfl; refine blk_put (cs := #[.int .i64 (wrap64 (rd t168 0)), .int .i64 (wrap64 (rd t168 1)), .int .i64 (wrap64 (rd t168 2)), .int .i64 (wrap64 (rd t168 3)), .slice Ao53 t179.length co53, .slice none 0 0]) ?_ 2 _ rfl; refine blk_put (cs := #[.int .i64 (wrap64 (rd t168 0)), .int .i64 (wrap64 (rd t168 1)), .int .i64 (wrap64 (rd t168 2)), .int .i64 (wrap64 (rd t168 3)), .slice Ao53 t179.length co53, .slice none 0 0]) ?_ 1 _ rfl; refine blk_put (cs := #[.int .i64 (wrap64 (rd t168 0)), .int .i64 (wrap64 (rd t168 1)), .int .i64 (wrap64 (rd t168 2)), .int .i64 (wrap64 (rd t168 3)), .slice Ao53 t179.length co53, .slice none 0 0]) ?_ 0 _ rfl; exact sBK.out) Try.underlying26 rfl (by kernel_rfl)) rfl ?_
                 exact ⟨.slice Ao53 t179.length co53, .slice none 0 0, rfl, Kd.R_mono (Kd.R_far (p := ⟨gb166, 5, none⟩) (Kd.R_far (p := ⟨gb166, 4, none⟩) (Kd.R_far (p := ⟨gb166, 3, none⟩) (Kd.R_far (p := ⟨gb166, 2, none⟩) (Kd.R_far (p := ⟨gb166, 1, none⟩) (Kd.R_far (p := ⟨gb166, 0, none⟩) (Kd.R_types sHO.out sBK.out (by decide)) (fun _ hk => hk.2) (.int .i64 (wrap64 (rd t168 0)))) (fun _ hk => hk.2) (.int .i64 (wrap64 (rd t168 1)))) (fun _ hk => hk.2) (.int .i64 (wrap64 (rd t168 2)))) (fun _ hk => hk.2) (.int .i64 (wrap64 (rd t168 3)))) (fun _ hk => hk.2) (.slice Ao53 t179.length co53)) (fun _ hk => hk.2) (.slice none 0 0)) (fun _ _ => trivial), Kd.S_nil _ _ _ _ _, below_set (below_set (below_set (below_set (below_set (below_set (sHB.out) GE166.out) GE166.out) GE166.out) GE166.out) GE166.out) GE166.out⟩
                ·replace c116 := Bool.eq_false_iff.mpr c116
                 subst c116
                 have H1 : (some (0, 0, 0, 0, ([] : List Int), ([] : List (S39)), 100)) = some (r1, r2, r3, r4, r5, r6, r7) := by rw [if_neg (show ¬ (false = true) by decide)] at H <;> exact H
                 clear H
                 have H := H1
                 clear H1
                 simp only [Option.some.injEq, Prod.mk.injEq] at H
                 obtain ⟨rfl, rfl, rfl, rfl, rfl, rfl, rfl⟩ := H
                 obtain ⟨i0143, hi0143, _, hsz143, _⟩ := info_parts info5
                 obtain ⟨A143, hcut143, hA143, hC143⟩ := print_drop_of (P := Try.prog) (Value.int .u8) 0 23 5 .i64 Try.underlying23 hi0143 hsz143 A0 c0 l0 (ji24) (of_decide_eq_true (by first | (with_reducible assumption) | assumption)) (of_decide_eq_true (by first | (with_reducible assumption) | assumption)) HC0.out
                 have hr60 := Kd.C_of_reads (h1 := fun _ => rfl) (hA143 _ (Kd.reads_of_C HR0.out))
                 clear hA143 hi0143 hsz143
                 obtain ⟨m60, hm60⟩ : ∃ m_, m_ = l0.drop ((ji24) : Int).toNat := ⟨_, rfl⟩
                 rw [← hm60] at hcut143 hr60 hC143
                 (try rw [← hm60] at c101b0)
                 (try rw [← hm60] at c101b1)
                 (try rw [← hm60] at c101b0)
                 (try rw [← hm60] at c101b1)
                 have HR182 := Aside0.mk hr60
                 have HC182 := Aside0.mk hC143
                 clear hr60 hC143 hm60
                 have hcza0 : ws.cell? ⟨gb166, 0, none⟩ = some (.int .i64 (wrap64 (rd t168 0))) := (blk_cell sBK.out 0).trans rfl
                 have hcza1 : ws.cell? ⟨gb166, 1, none⟩ = some (.int .i64 (wrap64 (rd t168 1))) := (blk_cell sBK.out 1).trans rfl
                 have hcza2 : ws.cell? ⟨gb166, 2, none⟩ = some (.int .i64 (wrap64 (rd t168 2))) := (blk_cell sBK.out 2).trans rfl
                 have hcza3 : ws.cell? ⟨gb166, 3, none⟩ = some (.int .i64 (wrap64 (rd t168 3))) := (blk_cell sBK.out 3).trans rfl
                 have hcza4 : ws.cell? ⟨gb166, 4, none⟩ = some (.slice Ao53 t179.length co53) := (blk_cell sBK.out 4).trans rfl
                 have hcza5 : ws.cell? ⟨gb166, 5, none⟩ = some (.slice none 0 0) := (blk_cell sBK.out 5).trans rfl
                 have hfza0 := blk_frozen sBK.out 0
                 have hfza1 := blk_frozen sBK.out 1
                 have hfza2 := blk_frozen sBK.out 2
                 have hfza3 := blk_frozen sBK.out 3
                 have hfza4 := blk_frozen sBK.out 4
                 have hfza5 := blk_frozen sBK.out 5
                 go_wp2_with (first | (go_at_call 16; refine (change_Check.calls (wrap64 (rd t168 0)) (wrap64 (rd t168 1)) (wrap64 (rd t168 2)) (wrap64 (rd t168 3)) _ _ t179 none 0 ([] : List S39) false _ (Kd.R_reads' sHO.out).2.2 (Kd.R_reads' sHO.out).2.1 (Kd.C_nil _ _) (Nat.le_refl _) A115.out).mono ?_; rintro e wC ⟨rfl, hb⟩; have n_sBK := Aside0.mk (blk_below sBK.out hb); have n_sHO := Aside0.mk (Kd.R_below sHO.out hb); have n_sHB := Aside0.mk (below_step sHB.out hb); clear sBK sHO sHB hb; have sBK := n_sBK; have sHO := n_sHO; have sHB := n_sHB; clear n_sBK n_sHO n_sHB; have hczc0 : wC.cell? ⟨gb166, 0, none⟩ = some (.int .i64 (wrap64 (rd t168 0))) := (blk_cell sBK.out 0).trans rfl; have hczc1 : wC.cell? ⟨gb166, 1, none⟩ = some (.int .i64 (wrap64 (rd t168 1))) := (blk_cell sBK.out 1).trans rfl; have hczc2 : wC.cell? ⟨gb166, 2, none⟩ = some (.int .i64 (wrap64 (rd t168 2))) := (blk_cell sBK.out 2).trans rfl; have hczc3 : wC.cell? ⟨gb166, 3, none⟩ = some (.int .i64 (wrap64 (rd t168 3))) := (blk_cell sBK.out 3).trans rfl; have hczc4 : wC.cell? ⟨gb166, 4, none⟩ = some (.slice Ao53 t179.length co53) := (blk_cell sBK.out 4).trans rfl; have hczc5 : wC.cell? ⟨gb166, 5, none⟩ = some (.slice none 0 0) := (blk_cell sBK.out 5).trans rfl; have hfzc0 := blk_frozen sBK.out 0; have hfzc1 := blk_frozen sBK.out 1; have hfzc2 := blk_frozen sBK.out 2; have hfzc3 := blk_frozen sBK.out 3; have hfzc4 := blk_frozen sBK.out 4; have hfzc5 := blk_frozen sBK.out 5))
                 refine bodyPost_ret (results_ct rfl _ _ gb166 26 #[.int .i64 0, .int .i64 0, .int .i64 0, .int .i64 0, .slice none 0 0, .slice none 0 0] (0, 0) _ rfl (by refine blk_put (cs := #[.int .i64 0, .int .i64 0, .int .i64 0, .int .i64 0, .slice none 0 0, .slice none 0 0]) ?_ 5 _ rfl; refine blk_put (cs := #[.int .i64 0, .int .i64 0, .int .i64 0, .int .i64 0, .slice Ao53 t179.length co53, .slice none 0 0]) ?_ 4 _ rfl; refine blk_put (cs := #[.int .i64 0, .int .i64 0, .int .i64 0, .int .i64 (wrap64 (rd t168 3)), .slice Ao53 t179.length co53, .slice none 0 0]) ?_ 3 _ rfl; refine blk_put (cs := #[.int .i64 0, .int .i64 0, .int .i64 (wrap64 (rd t168 2)), .int .i64 (wrap64 (rd t168 3)), .slice Ao53 t179.length co53, .slice none 0 0]) ?_ 2 _ rfl; refine blk_put (cs := #[.int .i64 0, .int .i64 (wrap64 (rd t168 1)), .int .i64 (wrap64 (rd t168 2)), .int .i64 (wrap64 (rd t168 3)), .slice Ao53 t179.length co53, .slice none 0 0]) ?_ 1 _ rfl; refine blk_put (cs := #[.int .i64 (wrap64 (rd t168 0)), .int .i64 (wrap64 (rd t168 1)), .int .i64 (wrap64 (rd t168 2)), .int .i64 (wrap64 (rd t168 3)), .slice Ao53 t179.length co53, .slice none 0 0]) ?_ 0 _ rfl; exact sBK.out) Try.underlying26 rfl (by kernel_rfl)) rfl ?_
                 exact ⟨.slice none 0 0, .slice none 0 0, rfl, Kd.R_nil _ _ _ _ _, Kd.S_nil _ _ _ _ _, below_set (below_set (below_set (below_set (below_set (below_set (sHB.out) GE166.out) GE166.out) GE166.out) GE166.out) GE166.out) GE166.out⟩
             ·rw [if_neg c25] at H
              exact absurd H (by simp)
            ·rw [if_neg c22] at H
             exact absurd H (by simp)
           ·rw [if_neg c21] at H
            exact absurd H (by simp)
          ·rw [if_neg c20] at H
           exact absurd H (by simp)
         ·rw [if_neg c19] at H
          exact absurd H (by simp)
        ·rw [if_neg c18] at H
         exact absurd H (by simp)
       ·rw [if_neg c17] at H
        exact absurd H (by simp)
      ·rw [if_neg c16] at H
       exact absurd H (by simp)
  ·rw [if_neg c5] at H
   exact absurd H (by simp)
end Go.Proofs.Ytmgohkffphogdaa.PU
