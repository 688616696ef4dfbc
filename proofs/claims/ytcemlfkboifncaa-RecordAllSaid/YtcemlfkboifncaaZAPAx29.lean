/- Words and walks that this claim names, of those that the kit's print and programs of this workplace have printed. -/
import Derived.Test.YtcemlfkboifncaaZAPAx12
import Derived.Test.YtcemlfkboifncaaZAPAx24
import Derived.Test.YtcemlfkboifncaaZAPAx28
namespace Go.Proofs.Ytcemlfkboifncaa.PA
open Go.RowKit Go.Proofs.YtcemlfkboifncaaW.PrintWords Go.Proofs.YtcemlfkboifncaaW.PrintLast Go.Proofs.YtcemlfkboifncaaW.PrintMore
attribute [local go_sem] max2_int min2_int max_two min_two max_three min_three max_four min_four
set_option linter.unusedVariables false
set_option linter.unusedSimpArgs false
mutual
def record_Read_p.j0 : Nat → List Int → List Int → Bool → Int → Int → Option (Int × Int × List Int × Int × Int)
 | 0, _, _, _, _, _ => none
 | k + 1, x0, x5, x30, x137000, x137001 => if x30 = true then (some (x137000, x137001, ([] : List Int), 0, 50)) else (if 2 < (x5.length : Int) then ((record_Size.f (wrap64 (rd x5 2))).bind fun t145 => (if t145 = 0 then (record_Read_p.j1 k x0 t145 x5 true x137000 x137001) else (record_Read_p.j1 k x0 t145 x5 (decide ((x0.length : Int) < t145)) x137000 x137001))) else (none))
def record_Read_p.j1 : Nat → List Int → Int → List Int → Bool → Int → Int → Option (Int × Int × List Int × Int × Int)
 | 0, _, _, _, _, _, _ => none
 | k + 1, x0, x3, x5, x44, x137000, x137001 => if x44 = true then (some (x137000, x137001, ([] : List Int), 0, 50)) else (if 0 ≤ x3 then (if x3 ≤ (x0.length : Int) then ((crc_Open.f (x0.take (x3 : Int).toNat)).bind fun bt147 => (if bt147.2 = 0 then (if 1 < (x5.length : Int) then (if 3 < (x5.length : Int) then (if 16 ≤ (bt147.1.length : Int) then ((bytes_Clone.f (bt147.1.drop 16)).bind fun t157 => ((record_Check.f (wrap64 (rd x5 1)) (wrap64 (rd x5 3)) t157).bind fun t160 => (if t160 = 0 then (some (wrap64 (rd x5 1), wrap64 (rd x5 3), t157, x3, 0)) else (some (0, 0, ([] : List Int), 0, 50))))) else (none)) else (none)) else (none)) else (some (x137000, x137001, ([] : List Int), 0, 50)))) else (none)) else (none))
end
def record_Read_p.f (k : Nat) (l0 : List Int) : Option (Int × Int × List Int × Int × Int) := if (l0.length : Int) < 16 then (some (0, 0, ([] : List Int), 0, 50)) else (if 16 ≤ (l0.length : Int) then ((le_Unpack.f (⟨#[119, 104, 104, 113]⟩ : ByteArray) (l0.take 16)).bind fun bt138 => (if bt138.2 = 0 then (if 0 < (bt138.1.length : Int) then (if (rd bt138.1 0) = 1196184151 then (if 3 < (bt138.1.length : Int) then (record_Read_p.j0 k l0 bt138.1 (decide ((rd bt138.1 3) > 4611686018427387903)) 0 0) else (none)) else (record_Read_p.j0 k l0 bt138.1 true 0 0)) else (none)) else (record_Read_p.j0 k l0 bt138.1 true 0 0))) else (none))
def record_Read_p.T12 : Bool × List (List Nat × List Nat) := (true, [([], []), ([0], [0]), ([1], [1]), ([2], [2]), ([], []), ([4], [4]), ([5], [5]), ([6], [6]), ([], []), ([8], [8]), ([9], [9]), ([3, 7, 10], [3, 7, 10]), ([11, 10, 0, 1, 2, 3, 4, 5, 6, 7, 8, 9, 10, 11], [11])])
def record_Read_p.B12 : List Nat := [0, 1, 3, 7, 0, 16, 48, 112, 0, 256, 768, 2047, 4095]
theorem record_Read_p.tab12 : rtab .any (opsOf Try.f21 12) = record_Read_p.T12 := by kernel_rfl
theorem record_Read_p.bits12 : waitsOk record_Read_p.T12.2 record_Read_p.B12 = true := by kernel_rfl
set_option maxHeartbeats 8000000 in
set_option maxRecDepth 100000 in
theorem record_Read_p.calls (k : Nat) (A0 : Option Addr) (c0 : Nat) (l0 : List Int) (r1 : Int) (r2 : Int) (r3 : List Int) (r4 : Int) (r5 : Int) (w : World) (hr0 : Kd.C (Kd.int .u8) w A0 l0.length l0) (hc0 : l0.length ≤ c0) (h : record_Read_p.f k l0 = some (r1, r2, r3, r4, r5)) :
  Calls Try.prog 21 #[.slice A0 l0.length c0] w fun e w' => ∃ v2_ : Value, e = .returned (.tuple #[.agg #[.int .i64 r1, .int .i64 r2, v2_], .int .i64 r4, .int .i64 r5]) ∧ Kd.R (Kd.int .u8) 5 w' w.heap.size (fun _ => True) v2_ r3 ∧ Below w.heap.size w w' := by
 have hu25 := Try.underlying25
 have HR0 := Aside0.mk hr0
 have HC0 := Aside0.mk hc0
 clear hr0 hc0
 have HB := Aside0.mk (Below.refl w.heap.size w)
 have H : (if (l0.length : Int) < 16 then (some (0, 0, ([] : List Int), 0, 50)) else (if 16 ≤ (l0.length : Int) then ((le_Unpack.f (⟨#[119, 104, 104, 113]⟩ : ByteArray) (l0.take 16)).bind fun bt138 => (if bt138.2 = 0 then (if 0 < (bt138.1.length : Int) then (if (rd bt138.1 0) = 1196184151 then (if 3 < (bt138.1.length : Int) then (record_Read_p.j0 k l0 bt138.1 (decide ((rd bt138.1 3) > 4611686018427387903)) 0 0) else (none)) else (record_Read_p.j0 k l0 bt138.1 true 0 0)) else (none)) else (record_Read_p.j0 k l0 bt138.1 true 0 0))) else (none))) = some (r1, r2, r3, r4, r5) := h
 clear h
 by_cases c2 : (l0.length : Int) < 16
 ·rw [if_pos c2] at H
  have c2b0 : decide ((l0.length : Int) < 16) = true := decide_eq_true c2
  have c2b1 : decide (l0.length < 16) = true := decide_eq_true (by omega)
  clear c2
  simp only [Option.some.injEq, Prod.mk.injEq] at H
  obtain ⟨rfl, rfl, rfl, rfl, rfl⟩ := H
  go_enter Try.func21, Try.ntmps21
  go_wp2_with (first | ((with_reducible refine gate_dst (N := 2) rfl ?_); (try (refine gate_guard (by rfl) ?_; dsimp only)); refine box_event ?hg (N := 2) ?hd (cs := #[.int .i64 0, .int .i64 0, .slice none 0 0]) (t := 25) ?hr ?_; (case hd => rfl); (case hg => rfl); (case hr => first | (go_simp; done) | (go_simp; rfl)); intro gb136 hg w3 hbox hb; have n0_ := Aside0.mk (below_step (by repeat (first | (with_reducible first | exact HB.out | apply below_alloc | apply pw_below_drewN | apply below_drew1) | exact HB.out)) hb); have n1_ := Aside0.mk (hbox); have n2_ := Aside0.mk ((by rw [hg]; exact (below_size (by repeat (first | (with_reducible first | exact HB.out | apply below_alloc | apply pw_below_drewN | apply below_drew1) | exact HB.out))) : w.heap.size ≤ gb136)); have n3_ := Aside0.mk ((by rw [hg]; exact (below_size (by repeat (first | (with_reducible first | exact HB.out | apply below_alloc | apply pw_below_drewN | apply below_drew1) | exact HB.out))) : w.heap.size ≤ gb136)); clear HB; have HB := n0_; have BK136 := n1_; have GW136 := n2_; have GE136 := n3_; clear n0_ n1_ n2_ n3_; clear hb hbox hg; have hcz4_0 : w3.cell? ⟨gb136, 0, none⟩ = some (.int .i64 0) := (blk_cell BK136.out 0).trans rfl; have hcz4_1 : w3.cell? ⟨gb136, 1, none⟩ = some (.int .i64 0) := (blk_cell BK136.out 1).trans rfl; have hcz4_2 : w3.cell? ⟨gb136, 2, none⟩ = some (.slice none 0 0) := (blk_cell BK136.out 2).trans rfl; have hfz4_0 := blk_frozen BK136.out 0; have hfz4_1 := blk_frozen BK136.out 1; have hfz4_2 := blk_frozen BK136.out 2))
  refine bodyPost_ret (results_ctt rfl _ _ gb136 25 #[.int .i64 0, .int .i64 0, .slice none 0 0] (0, 0) _ rfl (by (with_reducible repeat (first | refine blk_drewN ?_ _ | refine blk_drew ?_ | refine blk_alloc ?_ _)); refine blk_put (cs := #[.int .i64 0, .int .i64 0, .slice none 0 0]) ?_ 2 _ rfl; (with_reducible repeat (first | refine blk_drewN ?_ _ | refine blk_drew ?_ | refine blk_alloc ?_ _)); refine blk_put (cs := #[.int .i64 0, .int .i64 0, .slice none 0 0]) ?_ 1 _ rfl; (with_reducible repeat (first | refine blk_drewN ?_ _ | refine blk_drew ?_ | refine blk_alloc ?_ _)); refine blk_put (cs := #[.int .i64 0, .int .i64 0, .slice none 0 0]) ?_ 0 _ rfl; (with_reducible repeat (first | refine blk_drewN ?_ _ | refine blk_drew ?_ | refine blk_alloc ?_ _)); exact BK136.out) Try.underlying25 rfl (by kernel_rfl)) rfl ?_
  exact ⟨_, by first | rfl | (simp [errW_none, errW_some] <;> rfl) | (simp [*, errW_none, errW_some] <;> rfl), by first | exact Kd.R_nil _ _ _ _ _ | exact Kd.N_nil _ _ _ _ _ | exact Kd.V_nil _ _ _ _ _ | exact Kd.Q_nil _ _ _ _ _ | exact Kd.S_nil _ _ _ _ _, by repeat (first | (with_reducible first | exact HB.out | apply below_alloc | apply pw_below_drewN | apply below_drew1 | refine below_set ?_ GE136.out) | exact HB.out)⟩
 ·rw [if_neg c2] at H
  have c2b0 : decide ((l0.length : Int) < 16) = false := decide_eq_false c2
  have c2b1 : decide (l0.length < 16) = false := decide_eq_false (by omega)
  clear c2
  by_cases c5 : 16 ≤ (l0.length : Int)
  ·rw [if_pos c5] at H
   have c5b0 := eq_true c5
   have c5b1 : decide (16 ≤ (l0.length : Int)) = true := decide_eq_true c5
   clear c5
   replace H := Option.bind_eq_some_iff.mp H
   obtain ⟨⟨t138, t139⟩, A60, H⟩ := H
   replace H : (if t139 = 0 then (if 0 < (t138.length : Int) then (if (rd t138 0) = 1196184151 then (if 3 < (t138.length : Int) then (record_Read_p.j0 k l0 t138 (decide ((rd t138 3) > 4611686018427387903)) 0 0) else (none)) else (record_Read_p.j0 k l0 t138 true 0 0)) else (none)) else (record_Read_p.j0 k l0 t138 true 0 0)) = some (r1, r2, r3, r4, r5) := H
   have A6 := Aside0.mk A60
   clear A60
   have HC7 := Aside0.mk H
   clear H
   go_enter Try.func21, Try.ntmps21
   go_upto_region 4 with (first | ((with_reducible refine gate_dst (N := 2) rfl ?_); (try (refine gate_guard (by rfl) ?_; dsimp only)); refine box_event ?hg (N := 2) ?hd (cs := #[.int .i64 0, .int .i64 0, .slice none 0 0]) (t := 25) ?hr ?_; (case hd => rfl); (case hg => rfl); (case hr => first | (go_simp; done) | (go_simp; rfl)); intro gb136 hg w8 hbox hb; have n0_ := Aside0.mk (below_step (by repeat (first | (with_reducible first | exact HB.out | apply below_alloc | apply pw_below_drewN | apply below_drew1) | exact HB.out)) hb); have n1_ := Aside0.mk (hbox); have n2_ := Aside0.mk ((by rw [hg]; exact (below_size (by repeat (first | (with_reducible first | exact HB.out | apply below_alloc | apply pw_below_drewN | apply below_drew1) | exact HB.out))) : w.heap.size ≤ gb136)); have n3_ := Aside0.mk ((by rw [hg]; exact (below_size (by repeat (first | (with_reducible first | exact HB.out | apply below_alloc | apply pw_below_drewN | apply below_drew1) | exact HB.out))) : w.heap.size ≤ gb136)); clear HB; have HB := n0_; have BK136 := n1_; have GW136 := n2_; have GE136 := n3_; clear n0_ n1_ n2_ n3_; clear hb hbox hg; obtain ⟨i09, hi09, _, hsz9, _⟩ := info_parts info5; obtain ⟨hcut9, hA9, hC9⟩ := print_take_of (P := Try.prog) (Value.int .u8) 0 23 5 .i64 Try.underlying23 hi09 hsz9 A0 c0 l0 16 (by omega) (of_decide_eq_true (by first | (with_reducible assumption) | assumption)) HC0.out; have HR137 := Aside0.mk (Kd.C_of_reads (h1 := fun _ => rfl) (hA9 _ (Kd.reads_of_C HR0.out))); have HC137 := Aside0.mk hC9; clear hA9 hC9 hi09 hsz9) | ((with_reducible refine gate_callee (f := 54) rfl ?_); refine goesL_ (some 14) rfl rfl Try.func54 (by kernel_rfl) rfl #[.string (⟨#[119, 104, 104, 113]⟩ : ByteArray), .slice A0 (l0.take 16).length c0] rfl (by (try simp only [List.map_toArray, List.map_cons, List.map_nil]); first | done | (rw [show (l0.take 16).length = 16 from (by rw [List.length_take]; have h_ : (16 : Int) ≤ (l0.length : Int) := of_decide_eq_true (by first | (with_reducible assumption) | assumption); omega)] <;> rfl) | rfl | (simp only [List.length_drop, List.length_take]; rfl)) ?_; (with_reducible refine (le_Unpack.calls (⟨#[119, 104, 104, 113]⟩ : ByteArray) _ _ (l0.take 16) t138 t139 _ ?side1 ?side2 A6.out).mono ?_); (case side1 => repeat (first | exact (Kd.C_below HR137.out HB.out) | (with_reducible refine Kd.C_alloc ?_ _) | (with_reducible refine Kd.C_drewN ?_ _) | (with_reducible refine Kd.C_drew ?_))); (case side2 => exact HC137.out); rintro e w10 ⟨v140, rfl, ho0, hb⟩; refine ⟨_, rfl, ?_⟩; have n0_ := Aside0.mk (Kd.R_lower ho0 (below_size (by repeat (first | (with_reducible first | exact HB.out | apply below_alloc | apply pw_below_drewN | apply below_drew1 | refine below_set ?_ GE136.out) | exact HB.out)))); have n1_ := Aside0.mk (blk_below (g := gb136) (o := .cells #[.int .i64 0, .int .i64 0, .slice none 0 0] 25 (0, 0)) (by (with_reducible repeat (first | refine blk_drewN ?_ _ | refine blk_drew ?_ | refine blk_alloc ?_ _)); exact BK136.out) hb); have n2_ := Aside0.mk (below_step (by repeat (first | (with_reducible first | exact HB.out | apply below_alloc | apply pw_below_drewN | apply below_drew1 | refine below_set ?_ GE136.out) | exact HB.out)) hb); clear BK136; clear HB; have HO141 := n0_; have BK136 := n1_; have HB := n2_; clear n0_ n1_ n2_; (try clear hb); (try clear hb2); (try clear hk); (try clear hi); (try clear ho0)))
   (try simp only [Act.put, Kx.sb, Kx.sz, Kx.ss])
   go_cut [30] (fun v30 wc => ∃ (kq : Nat) (x30_6 : Bool), v30 = .bool x30_6 ∧ Aside0 (record_Read_p.j0 kq l0 t138 x30_6 0 0 = some (r1, r2, r3, r4, r5)) ∧ Aside0 (kq ≤ k) ∧ Aside0 (Kd.R (Kd.int .u64) 68 wc w.heap.size (fun _ => True) v140 t138) ∧ Aside0 (wc.heap[gb136]? = some (.cells #[.int .i64 0, .int .i64 0, (.slice none 0 0)] 25 (0, 0))) ∧ Aside0 (Below w.heap.size w wc))
   case first =>
    have H := HC7.out
    clear HC7
    by_cases c11 : t139 = 0
    ·rw [if_pos c11] at H
     have c11b0 : (t139 == 0) = true := beq_iff_eq.mpr c11
     have c11b1 : (t139 != 0) = false := bne_eq_false_iff_eq.mpr c11
     clear c11
     (first | rw [c11b0] | (simp only [i64_w, i32_w]; rw [c11b0]) | skip)
     by_cases c12 : 0 < (t138.length : Int)
     ·rw [if_pos c12] at H
      have c12b0 : decide (0 < (t138.length : Int)) = true := decide_eq_true c12
      have c12b1 : decide (0 < t138.length) = true := decide_eq_true (by omega)
      clear c12
      by_cases c13 : (rd t138 0) = 1196184151
      ·rw [if_pos c13] at H
       have c13b0 : ((rd t138 0) == 1196184151) = true := beq_iff_eq.mpr c13
       have c13b1 : ((rd t138 0) != 1196184151) = false := bne_eq_false_iff_eq.mpr c13
       clear c13
       by_cases c14 : 3 < (t138.length : Int)
       ·rw [if_pos c14] at H
        have c14b0 : decide (3 < (t138.length : Int)) = true := decide_eq_true c14
        have c14b1 : decide (3 < t138.length) = true := decide_eq_true (by omega)
        clear c14
        have H' := Aside0.mk H
        clear H
        obtain ⟨Ao15, co15, eo15⟩ := Kd.R_slice HO141.out
        subst eo15
        have p142 : 0 ≤ (0 : Int) := (by omega)
        have q142 : 0 < (t138.length : Int) := of_decide_eq_true (by first | (with_reducible assumption) | assumption)
        obtain ⟨ad142, e142, hx142_0⟩ := Kd.at_int (Kd.R_reads' HO141.out).2.2 0 p142 q142
        cases e142
        have qi142 : (0 < t138.length) = True := eq_true (by omega)
        (try rw [show ((0 : Int)).toNat = 0 from rfl] at hx142_0)
        (try rw [Addr.add_zero'] at hx142_0)
        replace p142 := eq_true p142
        replace q142 := eq_true q142
        have p143 : 0 ≤ (3 : Int) := (by omega)
        have q143 : 3 < (t138.length : Int) := of_decide_eq_true (by first | (with_reducible assumption) | assumption)
        obtain ⟨ad143, e143, hx143_0⟩ := Kd.at_int (Kd.R_reads' HO141.out).2.2 3 p143 q143
        obtain rfl : ad142 = ad143 := (by injection e143)
        (try simp only [show (3 : Int).toNat = 3 from rfl, Nat.reduceMul, Nat.reduceEqDiff, Go.Addr.add, ↓reduceIte] at hx143_0)
        have qi143 : (3 < t138.length) = True := eq_true (by omega)
        (try rw [show ((3 : Int)).toNat = 3 from rfl] at hx143_0)
        replace p143 := eq_true p143
        replace q143 := eq_true q143
        go_wp2
        go_meet
        case rel => exact ⟨_, (decide ((rd t138 3) > 4611686018427387903)), (by first | rfl | (simp; done) | (simp [*]; done)), H', ⟨by first | omega | exact Nat.le_refl _⟩, ⟨by (with_reducible repeat (first | apply Kd.R_alloc | apply Kd.R_drewN | apply Kd.R_drew)); exact HO141.out⟩, ⟨by (with_reducible repeat (first | refine blk_drewN ?_ _ | refine blk_drew ?_ | refine blk_alloc ?_ _)); exact BK136.out⟩, ⟨by repeat (first | (with_reducible first | exact HB.out | apply below_alloc | apply pw_below_drewN | apply below_drew1 | refine below_set ?_ GE136.out) | exact HB.out)⟩⟩
       ·rw [if_neg c14] at H
        exact absurd H (by simp)
      ·rw [if_neg c13] at H
       have c13b0 : ((rd t138 0) == 1196184151) = false := beq_eq_false_iff_ne.mpr c13
       have c13b1 : ((rd t138 0) != 1196184151) = true := bne_iff_ne.mpr c13
       have H' := Aside0.mk H
       clear H
       obtain ⟨Ao16, co16, eo16⟩ := Kd.R_slice HO141.out
       subst eo16
       have p142 : 0 ≤ (0 : Int) := (by omega)
       have q142 : 0 < (t138.length : Int) := of_decide_eq_true (by first | (with_reducible assumption) | assumption)
       obtain ⟨ad142, e142, hx142_0⟩ := Kd.at_int (Kd.R_reads' HO141.out).2.2 0 p142 q142
       cases e142
       have qi142 : (0 < t138.length) = True := eq_true (by omega)
       (try rw [show ((0 : Int)).toNat = 0 from rfl] at hx142_0)
       (try rw [Addr.add_zero'] at hx142_0)
       replace p142 := eq_true p142
       replace q142 := eq_true q142
       go_wp2
       go_meet
       case rel => exact ⟨_, (true), (by first | rfl | (simp; done) | (simp [*]; done)), H', ⟨by first | omega | exact Nat.le_refl _⟩, ⟨by (with_reducible repeat (first | apply Kd.R_alloc | apply Kd.R_drewN | apply Kd.R_drew)); exact HO141.out⟩, ⟨by (with_reducible repeat (first | refine blk_drewN ?_ _ | refine blk_drew ?_ | refine blk_alloc ?_ _)); exact BK136.out⟩, ⟨by repeat (first | (with_reducible first | exact HB.out | apply below_alloc | apply pw_below_drewN | apply below_drew1 | refine below_set ?_ GE136.out) | exact HB.out)⟩⟩
     ·rw [if_neg c12] at H
      exact absurd H (by simp)
    ·rw [if_neg c11] at H
     have c11b0 : (t139 == 0) = false := beq_eq_false_iff_ne.mpr c11
     have c11b1 : (t139 != 0) = true := bne_iff_ne.mpr c11
     (first | rw [c11b0] | (simp only [i64_w, i32_w]; rw [c11b0]) | skip)
     have H' := Aside0.mk H
     clear H
     go_wp2
     go_meet
     case rel => exact ⟨_, (true), (by first | rfl | (simp; done) | (simp [*]; done)), H', ⟨by first | omega | exact Nat.le_refl _⟩, ⟨by (with_reducible repeat (first | apply Kd.R_alloc | apply Kd.R_drewN | apply Kd.R_drew)); exact HO141.out⟩, ⟨by (with_reducible repeat (first | refine blk_drewN ?_ _ | refine blk_drew ?_ | refine blk_alloc ?_ _)); exact BK136.out⟩, ⟨by repeat (first | (with_reducible first | exact HB.out | apply below_alloc | apply pw_below_drewN | apply below_drew1 | refine below_set ?_ GE136.out) | exact HB.out)⟩⟩
   case rest =>
    clear HC7
    try clear c1
    try clear p1
    try clear q1
    try clear hx1
    try clear qi1
    try clear c2
    try clear c2b0
    try clear c2b1
    try clear p2
    try clear c5
    try clear c5b0
    try clear c5b1
    try clear c11
    try clear c11b0
    try clear c11b1
    try clear c12
    try clear c12b0
    try clear c12b1
    try clear c13
    try clear c13b0
    try clear c13b1
    try clear c14
    try clear c14b0
    try clear c14b1
    try clear p14
    try clear q14
    try clear hx14
    try clear qi14
    try clear hcz4_0
    try clear hcz4_1
    try clear hcz4_2
    try clear hfz4_0
    try clear hfz4_1
    try clear hfz4_2
    try clear hx142_0
    try clear hx143_0
    try clear p142
    try clear p143
    try clear q142
    try clear q143
    obtain ⟨kq, x30_6, rfl, HA, HJ6, HO_5, BK136, HB⟩ := hcut
    cases kq with
    | zero => exact absurd HA.out (by simp [record_Read_p.j0])
    | succ kj6 =>
     have H := HA.out
     clear HA
     simp only [record_Read_p.j0] at H
     by_cases c17 : x30_6 = true
     ·subst c17
      have H1 : (some (0, 0, ([] : List Int), 0, 50)) = some (r1, r2, r3, r4, r5) := by rw [if_pos rfl] at H <;> exact H
      clear H
      have H := H1
      clear H1
      simp only [Option.some.injEq, Prod.mk.injEq] at H
      obtain ⟨rfl, rfl, rfl, rfl, rfl⟩ := H
      have hcz18_0 : wc.cell? ⟨gb136, 0, none⟩ = some (.int .i64 0) := (blk_cell BK136.out 0).trans rfl
      have hcz18_1 : wc.cell? ⟨gb136, 1, none⟩ = some (.int .i64 0) := (blk_cell BK136.out 1).trans rfl
      have hcz18_2 : wc.cell? ⟨gb136, 2, none⟩ = some (.slice none 0 0) := (blk_cell BK136.out 2).trans rfl
      have hfz18_0 := blk_frozen BK136.out 0
      have hfz18_1 := blk_frozen BK136.out 1
      have hfz18_2 := blk_frozen BK136.out 2
      go_wp2
      refine bodyPost_ret (results_ctt rfl _ _ gb136 25 #[.int .i64 0, .int .i64 0, .slice none 0 0] (0, 0) _ rfl (by (with_reducible repeat (first | refine blk_drewN ?_ _ | refine blk_drew ?_ | refine blk_alloc ?_ _)); refine blk_put (cs := #[.int .i64 0, .int .i64 0, .slice none 0 0]) ?_ 2 _ rfl; (with_reducible repeat (first | refine blk_drewN ?_ _ | refine blk_drew ?_ | refine blk_alloc ?_ _)); refine blk_put (cs := #[.int .i64 0, .int .i64 0, .slice none 0 0]) ?_ 1 _ rfl; (with_reducible repeat (first | refine blk_drewN ?_ _ | refine blk_drew ?_ | refine blk_alloc ?_ _)); refine blk_put (cs := #[.int .i64 0, .int .i64 0, .slice none 0 0]) ?_ 0 _ rfl; (with_reducible repeat (first | refine blk_drewN ?_ _ | refine blk_drew ?_ | refine blk_alloc ?_ _)); exact BK136.out) Try.underlying25 rfl (by kernel_rfl)) rfl ?_
      exact ⟨_, by first | rfl | (simp [errW_none, errW_some] <;> rfl) | (simp [*, errW_none, errW_some] <;> rfl), by first | exact Kd.R_nil _ _ _ _ _ | exact Kd.N_nil _ _ _ _ _ | exact Kd.V_nil _ _ _ _ _ | exact Kd.Q_nil _ _ _ _ _ | exact Kd.S_nil _ _ _ _ _, by repeat (first | (with_reducible first | exact HB.out | apply below_alloc | apply pw_below_drewN | apply below_drew1 | refine below_set ?_ GE136.out) | exact HB.out)⟩
     ·replace c17 := Bool.eq_false_iff.mpr c17
      subst c17
      have H1 : (if 2 < (t138.length : Int) then ((record_Size.f (wrap64 (rd t138 2))).bind fun t145 => (if t145 = 0 then (record_Read_p.j1 kj6 l0 t145 t138 true 0 0) else (record_Read_p.j1 kj6 l0 t145 t138 (decide ((l0.length : Int) < t145)) 0 0))) else (none)) = some (r1, r2, r3, r4, r5) := by rw [if_neg (show ¬ (false = true) by decide)] at H <;> exact H
      clear H
      have H := H1
      clear H1
      by_cases c19 : 2 < (t138.length : Int)
      ·rw [if_pos c19] at H
       have c19b0 : decide (2 < (t138.length : Int)) = true := decide_eq_true c19
       have c19b1 : decide (2 < t138.length) = true := decide_eq_true (by omega)
       clear c19
       replace H := Option.bind_eq_some_iff.mp H
       obtain ⟨t145, A200, H⟩ := H
       replace H : (if t145 = 0 then (record_Read_p.j1 kj6 l0 t145 t138 true 0 0) else (record_Read_p.j1 kj6 l0 t145 t138 (decide ((l0.length : Int) < t145)) 0 0)) = some (r1, r2, r3, r4, r5) := H
       have A20 := Aside0.mk A200
       clear A200
       have HC21 := Aside0.mk H
       clear H
       obtain ⟨Ao22, co22, eo22⟩ := Kd.R_slice HO_5.out
       subst eo22
       have p144 : 0 ≤ (2 : Int) := (by omega)
       have q144 : 2 < (t138.length : Int) := of_decide_eq_true (by first | (with_reducible assumption) | assumption)
       obtain ⟨ad144, e144, hx144_0⟩ := Kd.at_int (Kd.R_reads' HO_5.out).2.2 2 p144 q144
       cases e144
       (try simp only [show (2 : Int).toNat = 2 from rfl, Nat.reduceMul, Nat.reduceEqDiff, Go.Addr.add, ↓reduceIte] at hx144_0)
       have qi144 : (2 < t138.length) = True := eq_true (by omega)
       (try rw [show ((2 : Int)).toNat = 2 from rfl] at hx144_0)
       replace p144 := eq_true p144
       replace q144 := eq_true q144
       go_upto_region 7 with (first | ((with_reducible refine gate_callee (f := 26) rfl ?_); refine goesL_ (some 36) rfl rfl Try.func26 (by kernel_rfl) rfl #[.int .i64 (wrap64 (rd t138 2))] rfl (by (try simp only [List.map_toArray, List.map_cons, List.map_nil]); first | done | rfl | (simp only [List.length_drop, List.length_take]; rfl)) ?_; (with_reducible refine (record_Size.calls (wrap64 (rd t138 2)) t145 _ A20.out).mono ?_); rintro e w' ⟨rfl, ⟨nd, rfl⟩⟩; refine ⟨_, rfl, ?_⟩))
       (try simp only [Act.put, Kx.sb, Kx.sz, Kx.ss])
       go_cut [44] (fun v44 wc => ∃ (kq : Nat) (x44_20 : Bool), v44 = .bool x44_20 ∧ Aside0 (record_Read_p.j1 kq l0 t145 t138 x44_20 0 0 = some (r1, r2, r3, r4, r5)) ∧ Aside0 (kq ≤ kj6) ∧ Aside0 (Kd.R (Kd.int .u64) 68 wc w.heap.size (fun _ => True) (.slice (some ad144) t138.length co22) t138) ∧ Aside0 (wc.heap[gb136]? = some (.cells #[.int .i64 0, .int .i64 0, (.slice none 0 0)] 25 (0, 0))) ∧ Aside0 (Below w.heap.size w wc))
       case first =>
        have H := HC21.out
        clear HC21
        by_cases c23 : t145 = 0
        ·rw [if_pos c23] at H
         have c23b0 : (t145 == 0) = true := beq_iff_eq.mpr c23
         have c23b1 : (t145 != 0) = false := bne_eq_false_iff_eq.mpr c23
         clear c23
         (first | rw [c23b0] | (simp only [i64_w, i32_w]; rw [c23b0]) | skip)
         have H' := Aside0.mk H
         clear H
         go_wp2
         go_meet
         case rel => exact ⟨_, (true), (by first | rfl | (simp; done) | (simp [*]; done)), H', ⟨by have := HJ6.out; first | omega | exact Nat.le_refl _⟩, ⟨by (with_reducible repeat (first | apply Kd.R_alloc | apply Kd.R_drewN | apply Kd.R_drew)); exact HO_5.out⟩, ⟨by (with_reducible repeat (first | refine blk_drewN ?_ _ | refine blk_drew ?_ | refine blk_alloc ?_ _)); exact BK136.out⟩, ⟨by repeat (first | (with_reducible first | exact HB.out | apply below_alloc | apply pw_below_drewN | apply below_drew1 | refine below_set ?_ GE136.out) | exact HB.out)⟩⟩
        ·rw [if_neg c23] at H
         have c23b0 : (t145 == 0) = false := beq_eq_false_iff_ne.mpr c23
         have c23b1 : (t145 != 0) = true := bne_iff_ne.mpr c23
         (first | rw [c23b0] | (simp only [i64_w, i32_w]; rw [c23b0]) | skip)
         have H' := Aside0.mk H
         clear H
         go_wp2
         go_meet
         case rel => exact ⟨_, (decide ((l0.length : Int) < t145)), (by first | rfl | (simp; done) | (simp [*]; done)), H', ⟨by have := HJ6.out; first | omega | exact Nat.le_refl _⟩, ⟨by (with_reducible repeat (first | apply Kd.R_alloc | apply Kd.R_drewN | apply Kd.R_drew)); exact HO_5.out⟩, ⟨by (with_reducible repeat (first | refine blk_drewN ?_ _ | refine blk_drew ?_ | refine blk_alloc ?_ _)); exact BK136.out⟩, ⟨by repeat (first | (with_reducible first | exact HB.out | apply below_alloc | apply pw_below_drewN | apply below_drew1 | refine below_set ?_ GE136.out) | exact HB.out)⟩⟩
       case rest =>
        clear HC21
        try clear c1
        try clear p1
        try clear q1
        try clear hx1
        try clear qi1
        try clear c2
        try clear c2b0
        try clear c2b1
        try clear p2
        try clear c5
        try clear c5b0
        try clear c5b1
        try clear p6
        try clear c11
        try clear c11b0
        try clear c11b1
        try clear c12
        try clear c12b0
        try clear c12b1
        try clear c13
        try clear c13b0
        try clear c13b1
        try clear c14
        try clear c14b0
        try clear c14b1
        try clear p14
        try clear q14
        try clear hx14
        try clear qi14
        try clear c17
        try clear c19
        try clear c19b0
        try clear c19b1
        try clear c21
        try clear c23
        try clear c23b0
        try clear c23b1
        try clear hcz18_0
        try clear hcz18_1
        try clear hcz18_2
        try clear hcz4_0
        try clear hcz4_1
        try clear hcz4_2
        try clear hfz18_0
        try clear hfz18_1
        try clear hfz18_2
        try clear hfz4_0
        try clear hfz4_1
        try clear hfz4_2
        try clear hx142_0
        try clear hx143_0
        try clear hx144_0
        try clear p1
        try clear p14
        try clear p142
        try clear p143
        try clear p144
        try clear p2
        try clear q1
        try clear q14
        try clear q142
        try clear q143
        try clear q144
        obtain ⟨kq, x44_20, rfl, HA, HJ20, HO_5, BK136, HB⟩ := hcut
        cases kq with
        | zero => exact absurd HA.out (by simp [record_Read_p.j1])
        | succ kj20 =>
         have H := HA.out
         clear HA
         simp only [record_Read_p.j1] at H
         by_cases c24 : x44_20 = true
         ·subst c24
          have H1 : (some (0, 0, ([] : List Int), 0, 50)) = some (r1, r2, r3, r4, r5) := by rw [if_pos rfl] at H <;> exact H
          clear H
          have H := H1
          clear H1
          simp only [Option.some.injEq, Prod.mk.injEq] at H
          obtain ⟨rfl, rfl, rfl, rfl, rfl⟩ := H
          have hcz25_0 : wc.cell? ⟨gb136, 0, none⟩ = some (.int .i64 0) := (blk_cell BK136.out 0).trans rfl
          have hcz25_1 : wc.cell? ⟨gb136, 1, none⟩ = some (.int .i64 0) := (blk_cell BK136.out 1).trans rfl
          have hcz25_2 : wc.cell? ⟨gb136, 2, none⟩ = some (.slice none 0 0) := (blk_cell BK136.out 2).trans rfl
          have hfz25_0 := blk_frozen BK136.out 0
          have hfz25_1 := blk_frozen BK136.out 1
          have hfz25_2 := blk_frozen BK136.out 2
          go_wp2
          refine bodyPost_ret (results_ctt rfl _ _ gb136 25 #[.int .i64 0, .int .i64 0, .slice none 0 0] (0, 0) _ rfl (by (with_reducible repeat (first | refine blk_drewN ?_ _ | refine blk_drew ?_ | refine blk_alloc ?_ _)); refine blk_put (cs := #[.int .i64 0, .int .i64 0, .slice none 0 0]) ?_ 2 _ rfl; (with_reducible repeat (first | refine blk_drewN ?_ _ | refine blk_drew ?_ | refine blk_alloc ?_ _)); refine blk_put (cs := #[.int .i64 0, .int .i64 0, .slice none 0 0]) ?_ 1 _ rfl; (with_reducible repeat (first | refine blk_drewN ?_ _ | refine blk_drew ?_ | refine blk_alloc ?_ _)); refine blk_put (cs := #[.int .i64 0, .int .i64 0, .slice none 0 0]) ?_ 0 _ rfl; (with_reducible repeat (first | refine blk_drewN ?_ _ | refine blk_drew ?_ | refine blk_alloc ?_ _)); exact BK136.out) Try.underlying25 rfl (by kernel_rfl)) rfl ?_
          exact ⟨_, by first | rfl | (simp [errW_none, errW_some] <;> rfl) | (simp [*, errW_none, errW_some] <;> rfl), by first | exact Kd.R_nil _ _ _ _ _ | exact Kd.N_nil _ _ _ _ _ | exact Kd.V_nil _ _ _ _ _ | exact Kd.Q_nil _ _ _ _ _ | exact Kd.S_nil _ _ _ _ _, by repeat (first | (with_reducible first | exact HB.out | apply below_alloc | apply pw_below_drewN | apply below_drew1 | refine below_set ?_ GE136.out) | exact HB.out)⟩
         ·replace c24 := Bool.eq_false_iff.mpr c24
          subst c24
          have H1 : (if 0 ≤ t145 then (if t145 ≤ (l0.length : Int) then ((crc_Open.f (l0.take (t145 : Int).toNat)).bind fun bt147 => (if bt147.2 = 0 then (if 1 < (t138.length : Int) then (if 3 < (t138.length : Int) then (if 16 ≤ (bt147.1.length : Int) then ((bytes_Clone.f (bt147.1.drop 16)).bind fun t157 => ((record_Check.f (wrap64 (rd t138 1)) (wrap64 (rd t138 3)) t157).bind fun t160 => (if t160 = 0 then (some (wrap64 (rd t138 1), wrap64 (rd t138 3), t157, t145, 0)) else (some (0, 0, ([] : List Int), 0, 50))))) else (none)) else (none)) else (none)) else (some (0, 0, ([] : List Int), 0, 50)))) else (none)) else (none)) = some (r1, r2, r3, r4, r5) := by rw [if_neg (show ¬ (false = true) by decide)] at H <;> exact H
          clear H
          have H := H1
          clear H1
          by_cases c26 : 0 ≤ t145
          ·rw [if_pos c26] at H
           have c26b0 := eq_true c26
           have c26b1 : decide (0 ≤ t145) = true := decide_eq_true c26
           clear c26
           by_cases c27 : t145 ≤ (l0.length : Int)
           ·rw [if_pos c27] at H
            have c27b0 := eq_true c27
            have c27b1 : decide (t145 ≤ (l0.length : Int)) = true := decide_eq_true c27
            clear c27
            replace H := Option.bind_eq_some_iff.mp H
            obtain ⟨⟨t147, t148⟩, A280, H⟩ := H
            replace H : (if t148 = 0 then (if 1 < (t138.length : Int) then (if 3 < (t138.length : Int) then (if 16 ≤ (t147.length : Int) then ((bytes_Clone.f (t147.drop 16)).bind fun t157 => ((record_Check.f (wrap64 (rd t138 1)) (wrap64 (rd t138 3)) t157).bind fun t160 => (if t160 = 0 then (some (wrap64 (rd t138 1), wrap64 (rd t138 3), t157, t145, 0)) else (some (0, 0, ([] : List Int), 0, 50))))) else (none)) else (none)) else (none)) else (some (0, 0, ([] : List Int), 0, 50))) = some (r1, r2, r3, r4, r5) := H
            have A28 := Aside0.mk A280
            clear A280
            by_cases c29 : t148 = 0
            ·rw [if_pos c29] at H
             have c29b0 : (t148 == 0) = true := beq_iff_eq.mpr c29
             have c29b1 : (t148 != 0) = false := bne_eq_false_iff_eq.mpr c29
             clear c29
             by_cases c30 : 1 < (t138.length : Int)
             ·rw [if_pos c30] at H
              have c30b0 : decide (1 < (t138.length : Int)) = true := decide_eq_true c30
              have c30b1 : decide (1 < t138.length) = true := decide_eq_true (by omega)
              clear c30
              by_cases c31 : 3 < (t138.length : Int)
              ·rw [if_pos c31] at H
               have c31b0 : decide (3 < (t138.length : Int)) = true := decide_eq_true c31
               have c31b1 : decide (3 < t138.length) = true := decide_eq_true (by omega)
               clear c31
               by_cases c32 : 16 ≤ (t147.length : Int)
               ·rw [if_pos c32] at H
                have c32b0 := eq_true c32
                have c32b1 : decide (16 ≤ (t147.length : Int)) = true := decide_eq_true c32
                clear c32
                obtain ⟨y153, hy153⟩ : ∃ y_ : List Int, y_ = (t147.drop 16) := ⟨_, rfl⟩
                replace H : ((bytes_Clone.f y153).bind fun t157 => ((record_Check.f (wrap64 (rd t138 1)) (wrap64 (rd t138 3)) t157).bind fun t160 => (if t160 = 0 then (some (wrap64 (rd t138 1), wrap64 (rd t138 3), t157, t145, 0)) else (some (0, 0, ([] : List Int), 0, 50))))) = some (r1, r2, r3, r4, r5) := by first | (rw [hy153]; with_reducible exact H) | (have H2_ := (Option.bind_some _ _).symm.trans H; rw [hy153]; with_reducible exact H2_) | (have H2_ := (Option.bind_some _ _).symm.trans H; with_reducible exact H2_) | with_reducible exact H | (rw [hy153]; exact H) | exact H
                have Ny153 := Aside0.mk hy153
                clear hy153
                replace H := Option.bind_eq_some_iff.mp H
                obtain ⟨t157, A330, H⟩ := H
                replace H : ((record_Check.f (wrap64 (rd t138 1)) (wrap64 (rd t138 3)) t157).bind fun t160 => (if t160 = 0 then (some (wrap64 (rd t138 1), wrap64 (rd t138 3), t157, t145, 0)) else (some (0, 0, ([] : List Int), 0, 50)))) = some (r1, r2, r3, r4, r5) := H
                have A33 := Aside0.mk A330
                clear A330
                replace H := Option.bind_eq_some_iff.mp H
                obtain ⟨t160, A340, H⟩ := H
                replace H : (if t160 = 0 then (some (wrap64 (rd t138 1), wrap64 (rd t138 3), t157, t145, 0)) else (some (0, 0, ([] : List Int), 0, 50))) = some (r1, r2, r3, r4, r5) := H
                have A34 := Aside0.mk A340
                clear A340
                by_cases c35 : t160 = 0
                ·rw [if_pos c35] at H
                 have c35b0 : (t160 == 0) = true := beq_iff_eq.mpr c35
                 have c35b1 : (t160 != 0) = false := bne_eq_false_iff_eq.mpr c35
                 clear c35
                 simp only [Option.some.injEq, Prod.mk.injEq] at H
                 obtain ⟨rfl, rfl, rfl, rfl, rfl⟩ := H
                 obtain ⟨i036, hi036, _, hsz36, _⟩ := info_parts info5
                 obtain ⟨hcut36, hA36, hC36⟩ := print_take_of (P := Try.prog) (Value.int .u8) 0 23 5 .i64 Try.underlying23 hi036 hsz36 A0 c0 l0 t145 (of_decide_eq_true (by first | (with_reducible assumption) | assumption)) (of_decide_eq_true (by first | (with_reducible assumption) | assumption)) HC0.out
                 have HR146 := Aside0.mk (Kd.C_of_reads (h1 := fun _ => rfl) (hA36 _ (Kd.reads_of_C HR0.out)))
                 have HC146 := Aside0.mk hC36
                 clear hA36 hC36 hi036 hsz36
                 try go_wp2_with (first | ((with_reducible refine gate_callee (f := 55) rfl ?_); refine goesL_ (some 50) rfl rfl Try.func55 (by kernel_rfl) rfl #[.slice A0 (l0.take (t145 : Int).toNat).length c0] rfl (by (try simp only [List.map_toArray, List.map_cons, List.map_nil]); first | done | (rw [show (l0.take (t145 : Int).toNat).length = t145.toNat from (by rw [List.length_take]; have h_ : (t145 : Int) ≤ (l0.length : Int) := of_decide_eq_true (by first | (with_reducible assumption) | assumption); omega)] <;> rfl) | rfl | (simp only [List.length_drop, List.length_take]; rfl)) ?_; (with_reducible refine (crc_Open.calls _ _ (l0.take (t145 : Int).toNat) t147 t148 _ ?side1 ?side2 A28.out).mono ?_); (case side1 => repeat (first | exact (Kd.C_below HR146.out HB.out) | (with_reducible refine Kd.C_alloc ?_ _) | (with_reducible refine Kd.C_drewN ?_ _) | (with_reducible refine Kd.C_drew ?_))); (case side2 => exact HC146.out); rintro e w37 ⟨v149, rfl, ho0, hb⟩; refine ⟨_, rfl, ?_⟩; have n0_ := Aside0.mk (Kd.R_below (by (with_reducible repeat (first | apply Kd.R_alloc | apply Kd.R_drewN | apply Kd.R_drew)); exact HO_5.out) hb); have n1_ := Aside0.mk (Kd.R_lower ho0 (below_size (by repeat (first | (with_reducible first | exact HB.out | apply below_alloc | apply pw_below_drewN | apply below_drew1 | refine below_set ?_ GE136.out) | exact HB.out)))); have n2_ := Aside0.mk (blk_below (g := gb136) (o := .cells #[.int .i64 0, .int .i64 0, .slice none 0 0] 25 (0, 0)) (by (with_reducible repeat (first | refine blk_drewN ?_ _ | refine blk_drew ?_ | refine blk_alloc ?_ _)); exact BK136.out) hb); have n3_ := Aside0.mk (below_step (by repeat (first | (with_reducible first | exact HB.out | apply below_alloc | apply pw_below_drewN | apply below_drew1 | refine below_set ?_ GE136.out) | exact HB.out)) hb); clear HO_5; clear BK136; clear HB; have HO_5 := n0_; have HO150 := n1_; have BK136 := n2_; have HB := n3_; clear n0_ n1_ n2_ n3_; (try clear hb); (try clear hb2); (try clear hk); (try clear hi); (try clear ho0)))
                 have n0_ := Aside0.mk (Kd.R_drew HO_5.out)
                 have n1_ := Aside0.mk (Kd.R_drew HO150.out)
                 have n2_ := Aside0.mk (blk_drew BK136.out)
                 have n3_ := Aside0.mk (below_drew1 HB.out)
                 clear HO_5
                 clear HO150
                 clear BK136
                 clear HB
                 have HO_5 := n0_
                 have HO150 := n1_
                 have BK136 := n2_
                 have HB := n3_
                 clear n0_ n1_ n2_ n3_
                 have p151 : 0 ≤ (1 : Int) := (by omega)
                 have q151 : 1 < (t138.length : Int) := of_decide_eq_true (by first | (with_reducible assumption) | assumption)
                 obtain ⟨ad151, e151, hx151_0⟩ := Kd.at_int (Kd.R_reads' HO_5.out).2.2 1 p151 q151
                 obtain rfl : ad144 = ad151 := (by injection e151)
                 (try simp only [show (1 : Int).toNat = 1 from rfl, Nat.reduceMul, Nat.reduceEqDiff, Go.Addr.add, ↓reduceIte] at hx151_0)
                 have qi151 : (1 < t138.length) = True := eq_true (by omega)
                 (try rw [show ((1 : Int)).toNat = 1 from rfl] at hx151_0)
                 replace p151 := eq_true p151
                 replace q151 := eq_true q151
                 have p152 : 0 ≤ (3 : Int) := (by omega)
                 have q152 : 3 < (t138.length : Int) := of_decide_eq_true (by first | (with_reducible assumption) | assumption)
                 obtain ⟨ad152, e152, hx152_0⟩ := Kd.at_int (Kd.R_reads' HO_5.out).2.2 3 p152 q152
                 obtain rfl : ad144 = ad152 := (by injection e152)
                 (try simp only [show (3 : Int).toNat = 3 from rfl, Nat.reduceMul, Nat.reduceEqDiff, Go.Addr.add, ↓reduceIte] at hx152_0)
                 have qi152 : (3 < t138.length) = True := eq_true (by omega)
                 (try rw [show ((3 : Int)).toNat = 3 from rfl] at hx152_0)
                 replace p152 := eq_true p152
                 replace q152 := eq_true q152
                 obtain ⟨Ao40, co40, eo40⟩ := Kd.R_slice HO150.out
                 (first | subst eo40 | (injection eo40 with f1_ f2_ f3_; have f4_ := f1_.symm; have f5_ := f3_.symm; clear f1_ f2_ f3_; subst f4_; subst f5_))
                 have q39 : (16 : Int) ≤ ((t147.length : Int) : Int) := of_decide_eq_true (by first | (with_reducible assumption) | assumption)
                 obtain ⟨i039, hi039, _, hsz39, _⟩ := info_parts info5
                 have hroom39 : t147.length ≤ co40 := (Kd.R_reads' HO150.out).2.1
                 have hC39 : Kd.C (Kd.int .u8) _ Ao40 t147.length t147 := (Kd.R_reads' HO150.out).2.2
                 have hcut39 := cut_from (P := Try.prog) 23 5 .i64 Try.underlying23 hi039 1 hsz39 Ao40 t147.length co40 16 (by omega) q39
                 have hr39 := Kd.C_drop (m := (16 : Int).toNat) (c := co40) hC39 (by omega) hroom39
                 obtain ⟨A39, hA39⟩ : ∃ A1, A1 = (if co40 = (16 : Int).toNat then Ao40 else (Ao40 : Option Addr).map (·.add ((16 : Int).toNat * 1))) := ⟨_, rfl⟩
                 obtain ⟨c39, hc39⟩ : ∃ c1, c1 = co40 - (16 : Int).toNat := ⟨_, rfl⟩
                 have hy39 : y153.length = t147.length - (16 : Int).toNat := (by rw [Ny153.out, List.length_drop] <;> omega)
                 rw [show (t147).drop (16 : Int).toNat = y153 from Ny153.out.symm] at hr39
                 replace hr39 : Kd.C (Kd.int .u8) _ A39 y153.length y153 := (by rw [hA39]; exact hr39)
                 rw [← hy39, ← hA39, ← hc39] at hcut39
                 have HR156 := Aside0.mk hr39
                 have HC156 := Aside0.mk (show y153.length ≤ c39 from by rw [hy39, hc39]; exact Nat.sub_le_sub_right hroom39 _)
                 clear hr39 hC39 hroom39 hi039 hsz39 hc39
                 have KY39 := Aside0.mk hy39
                 have KA39 := Aside0.mk hA39
                 clear hy39 hA39
                 have KL39 := Aside0.mk (show 16 ≤ t147.length from by omega)
                 replace q39 := eq_true q39
                 refine start_ (n := 13) (S := fun w' => w'.cell? ⟨ad144.block, ad144.off + 1, none⟩ = some (.int .u64 (rd t138 1)) ∧ w'.cell? ⟨ad144.block, ad144.off + 3, none⟩ = some (.int .u64 (rd t138 3))) (ds := [12]) #[false, false, false, false, false, false, false, false, false, false, false, false, false] (by kernel_rfl) rfl rfl ⟨hx151_0, hx152_0⟩ (fun hHeld => ?_); refine with_tabW record_Read_p.tab12 record_Read_p.bits12 (fun HT_ HW_ => ?_)
                 generalize w37.drew = w38 at HO_5 HO150 BK136 HB HR156 hx151_0 hx152_0 hHeld ⊢
                 refine pure_ (i := 0) (N := some 56) (v := ?_) (a' := ?_) #[true, false, false, false, false, false, false, false, false, false, false, false, false] rfl rfl (any_of HT_.out (by kernel_rfl)) (fun _ _ _ h => h) (Or.inl ⟨by rfl, ?_⟩) ?_ ?_
                 rotate_left
                 ·intro w'
                  go_simp
                  with_reducible rfl
                 rotate_left
                 ·simp only [Act.put, Kx.sb, Kx.sz, Kx.ss, i64_w, i32_w]
                  rfl
                 refine pure_ (i := 1) (N := some 57) (v := ?_) (a' := ?_) #[true, true, false, false, false, false, false, false, false, false, false, false, false] rfl rfl (any_of HT_.out (by kernel_rfl)) (fun _ _ _ h => h) (Or.inl ⟨by rfl, ?_⟩) ?_ ?_
                 rotate_left
                 ·intro w'
                  go_simp
                  with_reducible rfl
                 rotate_left
                 ·simp only [Act.put, Kx.sb, Kx.sz, Kx.ss, i64_w, i32_w]
                  rfl
                 refine pure_ (i := 4) (N := some 60) (v := ?_) (a' := ?_) #[true, true, false, false, true, false, false, false, false, false, false, false, false] rfl rfl (any_of HT_.out (by kernel_rfl)) (fun _ _ _ h => h) (Or.inl ⟨by rfl, ?_⟩) ?_ ?_
                 rotate_left
                 ·intro w'
                  go_simp
                  with_reducible rfl
                 rotate_left
                 ·simp only [Act.put, Kx.sb, Kx.sz, Kx.ss, i64_w, i32_w]
                  rfl
                 refine pure_ (i := 5) (N := some 61) (v := ?_) (a' := ?_) #[true, true, false, false, true, true, false, false, false, false, false, false, false] rfl rfl (any_of HT_.out (by kernel_rfl)) (fun _ _ _ h => h) (Or.inl ⟨by rfl, ?_⟩) ?_ ?_
                 rotate_left
                 ·intro w'
                  go_simp
                  with_reducible rfl
                 rotate_left
                 ·simp only [Act.put, Kx.sb, Kx.sz, Kx.ss, i64_w, i32_w]
                  rfl
                 refine pure_ (i := 8) (N := some 64) (v := ?_) (a' := ?_) #[true, true, false, false, true, true, false, false, true, false, false, false, false] rfl rfl (any_of HT_.out (by kernel_rfl)) (fun _ _ _ h => h) (Or.inl ⟨by rfl, ?_⟩) ?_ ?_
                 rotate_left
                 ·intro w'
                  go_simp
                  with_reducible rfl
                 rotate_left
                 ·simp only [Act.put, Kx.sb, Kx.sz, Kx.ss, i64_w, i32_w]
                  rfl
                 refine pure_ (i := 9) (N := some 65) (v := ?_) (a' := ?_) #[true, true, false, false, true, true, false, false, true, true, false, false, false] rfl rfl (any_of HT_.out (by kernel_rfl)) (fun _ _ _ h => h) (Or.inl ⟨by rfl, ?_⟩) ?_ ?_
                 rotate_left
                 ·intro w'
                  go_simp
                  with_reducible rfl
                 rotate_left
                 ·simp only [Act.put, Kx.sb, Kx.sz, Kx.ss, i64_w, i32_w]
                  rfl
                 refine take_ (i := 2) (N := some 58) (v := ?_) (a' := ?_) #[true, true, true, false, true, true, false, false, true, true, false, false, false] rfl rfl (take_ofW HT_.out HW_.out (by kernel_rfl)) (fun _ _ _ h => h) (Or.inl ⟨by rfl, ?_⟩) hHeld ?_ ?_
                 rotate_left
                 ·rintro w' ⟨s0, s1⟩
                  go_simp
                  with_reducible rfl
                 rotate_left
                 ·simp only [Act.put, Kx.sb, Kx.sz, Kx.ss, i64_w, i32_w]
                  rfl
                 refine pure_ (i := 3) (N := some 59) (v := ?_) (a' := ?_) #[true, true, true, true, true, true, false, false, true, true, false, false, false] rfl rfl (any_of HT_.out (by kernel_rfl)) (fun _ _ _ h => h) (Or.inl ⟨by rfl, ?_⟩) ?_ ?_
                 rotate_left
                 ·intro w'
                  go_simp
                  with_reducible rfl
                 rotate_left
                 ·simp only [Act.put, Kx.sb, Kx.sz, Kx.ss, i64_w, i32_w]
                  rfl
                 refine take_ (i := 6) (N := some 62) (v := ?_) (a' := ?_) #[true, true, true, true, true, true, true, false, true, true, false, false, false] rfl rfl (take_ofW HT_.out HW_.out (by kernel_rfl)) (fun _ _ _ h => h) (Or.inl ⟨by rfl, ?_⟩) hHeld ?_ ?_
                 rotate_left
                 ·rintro w' ⟨s0, s1⟩
                  go_simp
                  with_reducible rfl
                 rotate_left
                 ·simp only [Act.put, Kx.sb, Kx.sz, Kx.ss, i64_w, i32_w]
                  rfl
                 refine pure_ (i := 7) (N := some 63) (v := ?_) (a' := ?_) #[true, true, true, true, true, true, true, true, true, true, false, false, false] rfl rfl (any_of HT_.out (by kernel_rfl)) (fun _ _ _ h => h) (Or.inl ⟨by rfl, ?_⟩) ?_ ?_
                 rotate_left
                 ·intro w'
                  go_simp
                  with_reducible rfl
                 rotate_left
                 ·simp only [Act.put, Kx.sb, Kx.sz, Kx.ss, i64_w, i32_w]
                  rfl
                 refine one_ (i := 10) (N := some 66) #[true, true, true, true, true, true, true, true, true, true, true, false, false] rfl rfl (one_of HT_.out (by kernel_rfl)) (by decide) (fun K hK => ?_)
                 refine goes_ Try.func56 (by kernel_rfl) rfl #[.slice A39 y153.length c39] (by rfl) rfl rfl (by (try simp only [List.map_toArray, List.map_cons, List.map_nil]); first | done | rfl | (simp only [List.length_drop, List.length_take]; rfl)) ?_
                 with_reducible refine (bytes_Clone.calls _ _ y153 t157 _ ?side1 ?side2 A33.out).mono ?_
                 (case side1 => repeat (first | exact (by repeat (first | (with_reducible exact HR156.out) | (with_reducible refine Kd.C_alloc ?_ _) | (with_reducible refine Kd.C_drewN ?_ _) | (with_reducible refine Kd.C_drew ?_) | exact HR156.out)) | (with_reducible refine Kd.C_alloc ?_ _) | (with_reducible refine Kd.C_drewN ?_ _) | (with_reducible refine Kd.C_drew ?_)))
                 (case side2 => exact HC156.out)
                 rintro e w41 ⟨v158, rfl, ho0, hb⟩
                 have HS0_ := (hb.cell (World.block_lt_of_cell? _ _ (hHeld.1))).trans (hHeld.1)
                 have HS1_ := (hb.cell (World.block_lt_of_cell? _ _ (hHeld.2))).trans (hHeld.2)
                 refine ⟨_, rfl, ?_⟩
                 have n0_ := Aside0.mk (Kd.R_below (by (with_reducible repeat (first | apply Kd.R_alloc | apply Kd.R_drewN | apply Kd.R_drew)); exact HO_5.out) hb)
                 have n1_ := Aside0.mk (Kd.R_elder' (by (with_reducible repeat (first | apply Kd.R_alloc | apply Kd.R_drewN | apply Kd.R_drew)); exact HO150.out) (Kd.R_base ho0) hb)
                 have n2_ := Aside0.mk (Kd.R_lower (Kd.R_new' ho0 (Kd.R_lt (by (with_reducible repeat (first | apply Kd.R_alloc | apply Kd.R_drewN | apply Kd.R_drew)); exact HO150.out))) (below_size (by repeat (first | (with_reducible first | exact HB.out | apply below_alloc | apply pw_below_drewN | apply below_drew1 | refine below_set ?_ GE136.out) | exact HB.out))))
                 have n3_ := Aside0.mk (blk_below (g := gb136) (o := .cells #[.int .i64 0, .int .i64 0, .slice none 0 0] 25 (0, 0)) (by (with_reducible repeat (first | refine blk_drewN ?_ _ | refine blk_drew ?_ | refine blk_alloc ?_ _)); exact BK136.out) hb)
                 have n4_ := Aside0.mk (Kd.C_below (by repeat (first | (with_reducible exact HR156.out) | (with_reducible refine Kd.C_alloc ?_ _) | (with_reducible refine Kd.C_drewN ?_ _) | (with_reducible refine Kd.C_drew ?_) | exact HR156.out)) hb)
                 have n5_ := Aside0.mk (below_step (by repeat (first | (with_reducible first | exact HB.out | apply below_alloc | apply pw_below_drewN | apply below_drew1 | refine below_set ?_ GE136.out) | exact HB.out)) hb)
                 clear HO_5
                 clear HO150
                 clear BK136
                 clear HR156
                 clear HB
                 have HO_5 := n0_
                 have HO150 := n1_
                 have HO159 := n2_
                 have BK136 := n3_
                 have HR156 := n4_
                 have HB := n5_
                 clear n0_ n1_ n2_ n3_ n4_ n5_
                 (try clear hb)
                 (try clear hb2)
                 (try clear hk)
                 (try clear hi)
                 (try clear ho0)
                 obtain ⟨Ao42, co42, eo42⟩ := Kd.R_slice HO159.out
                 (first | subst eo42 | (injection eo42 with f1_ f2_ f3_; have f4_ := f1_.symm; have f5_ := f3_.symm; clear f1_ f2_ f3_; subst f4_; subst f5_))
                 refine hK.out _ _ ⟨HS0_, HS1_⟩ (fun hHeld => ?_)
                 clear hK K
                 refine norm_ (a' := ?_) ?_ ?_
                 rotate_left
                 ·show Act.put _ (some 66) _ = _
                  simp only [Act.put, Kx.sb, Kx.sz, Kx.ss, i64_w, i32_w]
                  rfl
                 refine pure_ (i := 11) (N := some 67) (v := ?_) (a' := ?_) #[true, true, true, true, true, true, true, true, true, true, true, true, false] rfl rfl (any_of HT_.out (by kernel_rfl)) (fun _ _ _ h => h) (Or.inl ⟨by rfl, ?_⟩) ?_ ?_
                 rotate_left
                 ·intro w'
                  go_simp
                  with_reducible rfl
                 rotate_left
                 ·simp only [Act.put, Kx.sb, Kx.sz, Kx.ss, i64_w, i32_w]
                  rfl
                 refine last_ (i := 12) (N := none) #[true, true, true, true, true, true, true, true, true, true, true, true, true] rfl rfl (one_of HT_.out (by kernel_rfl)) (by decide) (fun K hK => ?_)
                 have hs43 : w41.cell? ⟨gb136, 0, none⟩ = some (.int .i64 0) := (blk_cell BK136.out 0).trans rfl
                 have hfs43 := blk_frozen BK136.out 0
                 have hs44 : w41.cell? ⟨gb136, 1, none⟩ = some (.int .i64 0) := (blk_cell BK136.out 1).trans rfl
                 have hfs44 := blk_frozen BK136.out 1
                 have hs45 : w41.cell? ⟨gb136, 2, none⟩ = some (.slice none 0 0) := (blk_cell BK136.out 2).trans rfl
                 have hfs45 := blk_frozen BK136.out 2
                 refine skip_ (w1 := ?_) (by rfl) rfl ?_ ?_
                 rotate_left
                 ·go_simp
                  rfl
                 refine hK.out _ _ ?_
                 clear hK K
                 refine done_ (done_of HT_.out (by kernel_rfl)) ?_
                 have hcz46_0 : w41.cell? ⟨gb136, 0, none⟩ = some (.int .i64 0) := (blk_cell BK136.out 0).trans rfl
                 have hcz46_1 : w41.cell? ⟨gb136, 1, none⟩ = some (.int .i64 0) := (blk_cell BK136.out 1).trans rfl
                 have hcz46_2 : w41.cell? ⟨gb136, 2, none⟩ = some (.slice none 0 0) := (blk_cell BK136.out 2).trans rfl
                 have hfz46_0 := blk_frozen BK136.out 0
                 have hfz46_1 := blk_frozen BK136.out 1
                 have hfz46_2 := blk_frozen BK136.out 2
                 try go_wp2_with (first | ((with_reducible refine gate_callee (f := 24) rfl ?_); refine goesL_ (some 69) rfl rfl Try.func24 (by kernel_rfl) rfl #[.agg #[.int .i64 (wrap64 (rd t138 1)), .int .i64 (wrap64 (rd t138 3)), .slice Ao42 t157.length co42]] rfl (by (try simp only [List.map_toArray, List.map_cons, List.map_nil]); first | done | rfl | (simp only [List.length_drop, List.length_take]; rfl)) ?_; (with_reducible refine (record_Check.calls (wrap64 (rd t138 1)) (wrap64 (rd t138 3)) _ _ t157 t160 _ ?side1 ?side2 A34.out).mono ?_); (case side1 => refine (Kd.R_reads' (e := 5) (base := w.heap.size) (ok := fun k_ => (True ∧ some k_ ≠ (.slice Ao40 t147.length co40 : Value).ownBlock)) (n := t157.length) (c := co42) ?_).2.2; exact (by (with_reducible repeat (first | apply Kd.R_alloc | apply Kd.R_drewN | apply Kd.R_drew)); exact (Kd.R_mono (Kd.R_far (p := ⟨gb136, 2, none⟩) (Kd.R_far (p := ⟨gb136, 1, none⟩) (Kd.R_far (p := ⟨gb136, 0, none⟩) (Kd.R_types HO159.out BK136.out (by decide)) (fun _ hk => hk.2) (.int .i64 (wrap64 (rd t138 1)))) (fun _ hk => hk.2) (.int .i64 (wrap64 (rd t138 3)))) (fun _ hk => hk.2) (.slice Ao42 t157.length co42)) (fun _ h_ => h_.1)))); (case side2 => exact (Kd.R_reads' HO159.out).2.1); rintro e w47 ⟨rfl, hb⟩; refine ⟨_, rfl, ?_⟩; have n0_ := Aside0.mk (Kd.R_below (by (with_reducible repeat (first | apply Kd.R_alloc | apply Kd.R_drewN | apply Kd.R_drew)); exact (Kd.R_mono (Kd.R_far (p := ⟨gb136, 2, none⟩) (Kd.R_far (p := ⟨gb136, 1, none⟩) (Kd.R_far (p := ⟨gb136, 0, none⟩) (Kd.R_types HO_5.out BK136.out (by decide)) (fun _ hk => hk.2) (.int .i64 (wrap64 (rd t138 1)))) (fun _ hk => hk.2) (.int .i64 (wrap64 (rd t138 3)))) (fun _ hk => hk.2) (.slice Ao42 t157.length co42)) (fun _ h_ => h_.1))) hb); have n1_ := Aside0.mk (Kd.R_below (by (with_reducible repeat (first | apply Kd.R_alloc | apply Kd.R_drewN | apply Kd.R_drew)); exact (Kd.R_mono (Kd.R_far (p := ⟨gb136, 2, none⟩) (Kd.R_far (p := ⟨gb136, 1, none⟩) (Kd.R_far (p := ⟨gb136, 0, none⟩) (Kd.R_types HO150.out BK136.out (by decide)) (fun _ hk => hk.2) (.int .i64 (wrap64 (rd t138 1)))) (fun _ hk => hk.2) (.int .i64 (wrap64 (rd t138 3)))) (fun _ hk => hk.2) (.slice Ao42 t157.length co42)) (fun _ h_ => h_.1))) hb); have n2_ := Aside0.mk (Kd.R_below (by (with_reducible repeat (first | apply Kd.R_alloc | apply Kd.R_drewN | apply Kd.R_drew)); exact (Kd.R_mono (Kd.R_far (p := ⟨gb136, 2, none⟩) (Kd.R_far (p := ⟨gb136, 1, none⟩) (Kd.R_far (p := ⟨gb136, 0, none⟩) (Kd.R_types HO159.out BK136.out (by decide)) (fun _ hk => hk.2) (.int .i64 (wrap64 (rd t138 1)))) (fun _ hk => hk.2) (.int .i64 (wrap64 (rd t138 3)))) (fun _ hk => hk.2) (.slice Ao42 t157.length co42)) (fun _ h_ => h_.1))) hb); have n3_ := Aside0.mk (blk_below (g := gb136) (o := .cells #[.int .i64 (wrap64 (rd t138 1)), .int .i64 (wrap64 (rd t138 3)), .slice Ao42 t157.length co42] 25 (0, 0)) (by (with_reducible repeat (first | refine blk_drewN ?_ _ | refine blk_drew ?_ | refine blk_alloc ?_ _)); refine blk_put (cs := #[.int .i64 (wrap64 (rd t138 1)), .int .i64 (wrap64 (rd t138 3)), .slice none 0 0]) ?_ 2 _ rfl; (with_reducible repeat (first | refine blk_drewN ?_ _ | refine blk_drew ?_ | refine blk_alloc ?_ _)); refine blk_put (cs := #[.int .i64 (wrap64 (rd t138 1)), .int .i64 0, .slice none 0 0]) ?_ 1 _ rfl; (with_reducible repeat (first | refine blk_drewN ?_ _ | refine blk_drew ?_ | refine blk_alloc ?_ _)); refine blk_put (cs := #[.int .i64 0, .int .i64 0, .slice none 0 0]) ?_ 0 _ rfl; (with_reducible repeat (first | refine blk_drewN ?_ _ | refine blk_drew ?_ | refine blk_alloc ?_ _)); exact BK136.out) hb); have n4_ := Aside0.mk (below_step (by repeat (first | (with_reducible first | exact HB.out | apply below_alloc | apply pw_below_drewN | apply below_drew1 | refine below_set ?_ GE136.out) | exact HB.out)) hb); clear HO_5; clear HO150; clear HO159; clear BK136; clear HB; have HO_5 := n0_; have HO150 := n1_; have HO159 := n2_; have BK136 := n3_; have HB := n4_; clear n0_ n1_ n2_ n3_ n4_; (try clear hb); (try clear hb2); (try clear hk); (try clear hi); have hcz48_0 : w47.cell? ⟨gb136, 0, none⟩ = some (.int .i64 (wrap64 (rd t138 1))) := (blk_cell BK136.out 0).trans rfl; have hcz48_1 : w47.cell? ⟨gb136, 1, none⟩ = some (.int .i64 (wrap64 (rd t138 3))) := (blk_cell BK136.out 1).trans rfl; have hcz48_2 : w47.cell? ⟨gb136, 2, none⟩ = some (.slice Ao42 t157.length co42) := (blk_cell BK136.out 2).trans rfl; have hfz48_0 := blk_frozen BK136.out 0; have hfz48_1 := blk_frozen BK136.out 1; have hfz48_2 := blk_frozen BK136.out 2))
                 refine bodyPost_ret (results_ctt rfl _ _ gb136 25 #[.int .i64 (wrap64 (rd t138 1)), .int .i64 (wrap64 (rd t138 3)), .slice Ao42 t157.length co42] (0, 0) _ rfl (by (with_reducible repeat (first | refine blk_drewN ?_ _ | refine blk_drew ?_ | refine blk_alloc ?_ _)); refine blk_put (cs := #[.int .i64 (wrap64 (rd t138 1)), .int .i64 (wrap64 (rd t138 3)), .slice Ao42 t157.length co42]) ?_ 2 _ rfl; (with_reducible repeat (first | refine blk_drewN ?_ _ | refine blk_drew ?_ | refine blk_alloc ?_ _)); refine blk_put (cs := #[.int .i64 (wrap64 (rd t138 1)), .int .i64 (wrap64 (rd t138 3)), .slice Ao42 t157.length co42]) ?_ 1 _ rfl; (with_reducible repeat (first | refine blk_drewN ?_ _ | refine blk_drew ?_ | refine blk_alloc ?_ _)); refine blk_put (cs := #[.int .i64 (wrap64 (rd t138 1)), .int .i64 (wrap64 (rd t138 3)), .slice Ao42 t157.length co42]) ?_ 0 _ rfl; (with_reducible repeat (first | refine blk_drewN ?_ _ | refine blk_drew ?_ | refine blk_alloc ?_ _)); exact BK136.out) Try.underlying25 rfl (by kernel_rfl)) rfl ?_
                 exact ⟨_, by first | rfl | (simp [errW_none, errW_some] <;> rfl) | (simp [*, errW_none, errW_some] <;> rfl), by (with_reducible repeat (first | apply Kd.R_alloc | apply Kd.R_drewN | apply Kd.R_drew)); exact Kd.R_mono (Kd.R_far (p := ⟨gb136, 2, none⟩) (Kd.R_far (p := ⟨gb136, 1, none⟩) (Kd.R_far (p := ⟨gb136, 0, none⟩) (Kd.R_types HO159.out BK136.out (by decide)) (fun _ hk => hk.2) (.int .i64 (wrap64 (rd t138 1)))) (fun _ hk => hk.2) (.int .i64 (wrap64 (rd t138 3)))) (fun _ hk => hk.2) (.slice Ao42 t157.length co42)) (fun _ hk => trivial), by repeat (first | (with_reducible first | exact HB.out | apply below_alloc | apply pw_below_drewN | apply below_drew1 | refine below_set ?_ GE136.out) | exact HB.out)⟩
                ·rw [if_neg c35] at H
                 have c35b0 : (t160 == 0) = false := beq_eq_false_iff_ne.mpr c35
                 have c35b1 : (t160 != 0) = true := bne_iff_ne.mpr c35
                 simp only [Option.some.injEq, Prod.mk.injEq] at H
                 obtain ⟨rfl, rfl, rfl, rfl, rfl⟩ := H
                 obtain ⟨i049, hi049, _, hsz49, _⟩ := info_parts info5
                 obtain ⟨hcut49, hA49, hC49⟩ := print_take_of (P := Try.prog) (Value.int .u8) 0 23 5 .i64 Try.underlying23 hi049 hsz49 A0 c0 l0 t145 (of_decide_eq_true (by first | (with_reducible assumption) | assumption)) (of_decide_eq_true (by first | (with_reducible assumption) | assumption)) HC0.out
                 have HR146 := Aside0.mk (Kd.C_of_reads (h1 := fun _ => rfl) (hA49 _ (Kd.reads_of_C HR0.out)))
                 have HC146 := Aside0.mk hC49
                 clear hA49 hC49 hi049 hsz49
                 try go_wp2_with (first | ((with_reducible refine gate_callee (f := 55) rfl ?_); refine goesL_ (some 50) rfl rfl Try.func55 (by kernel_rfl) rfl #[.slice A0 (l0.take (t145 : Int).toNat).length c0] rfl (by (try simp only [List.map_toArray, List.map_cons, List.map_nil]); first | done | (rw [show (l0.take (t145 : Int).toNat).length = t145.toNat from (by rw [List.length_take]; have h_ : (t145 : Int) ≤ (l0.length : Int) := of_decide_eq_true (by first | (with_reducible assumption) | assumption); omega)] <;> rfl) | rfl | (simp only [List.length_drop, List.length_take]; rfl)) ?_; (with_reducible refine (crc_Open.calls _ _ (l0.take (t145 : Int).toNat) t147 t148 _ ?side1 ?side2 A28.out).mono ?_); (case side1 => repeat (first | exact (Kd.C_below HR146.out HB.out) | (with_reducible refine Kd.C_alloc ?_ _) | (with_reducible refine Kd.C_drewN ?_ _) | (with_reducible refine Kd.C_drew ?_))); (case side2 => exact HC146.out); rintro e w50 ⟨v149, rfl, ho0, hb⟩; refine ⟨_, rfl, ?_⟩; have n0_ := Aside0.mk (Kd.R_below (by (with_reducible repeat (first | apply Kd.R_alloc | apply Kd.R_drewN | apply Kd.R_drew)); exact HO_5.out) hb); have n1_ := Aside0.mk (Kd.R_lower ho0 (below_size (by repeat (first | (with_reducible first | exact HB.out | apply below_alloc | apply pw_below_drewN | apply below_drew1 | refine below_set ?_ GE136.out) | exact HB.out)))); have n2_ := Aside0.mk (blk_below (g := gb136) (o := .cells #[.int .i64 0, .int .i64 0, .slice none 0 0] 25 (0, 0)) (by (with_reducible repeat (first | refine blk_drewN ?_ _ | refine blk_drew ?_ | refine blk_alloc ?_ _)); exact BK136.out) hb); have n3_ := Aside0.mk (below_step (by repeat (first | (with_reducible first | exact HB.out | apply below_alloc | apply pw_below_drewN | apply below_drew1 | refine below_set ?_ GE136.out) | exact HB.out)) hb); clear HO_5; clear BK136; clear HB; have HO_5 := n0_; have HO150 := n1_; have BK136 := n2_; have HB := n3_; clear n0_ n1_ n2_ n3_; (try clear hb); (try clear hb2); (try clear hk); (try clear hi); (try clear ho0)))
                 have n0_ := Aside0.mk (Kd.R_drew HO_5.out)
                 have n1_ := Aside0.mk (Kd.R_drew HO150.out)
                 have n2_ := Aside0.mk (blk_drew BK136.out)
                 have n3_ := Aside0.mk (below_drew1 HB.out)
                 clear HO_5
                 clear HO150
                 clear BK136
                 clear HB
                 have HO_5 := n0_
                 have HO150 := n1_
                 have BK136 := n2_
                 have HB := n3_
                 clear n0_ n1_ n2_ n3_
                 have p151 : 0 ≤ (1 : Int) := (by omega)
                 have q151 : 1 < (t138.length : Int) := of_decide_eq_true (by first | (with_reducible assumption) | assumption)
                 obtain ⟨ad151, e151, hx151_0⟩ := Kd.at_int (Kd.R_reads' HO_5.out).2.2 1 p151 q151
                 obtain rfl : ad144 = ad151 := (by injection e151)
                 (try simp only [show (1 : Int).toNat = 1 from rfl, Nat.reduceMul, Nat.reduceEqDiff, Go.Addr.add, ↓reduceIte] at hx151_0)
                 have qi151 : (1 < t138.length) = True := eq_true (by omega)
                 (try rw [show ((1 : Int)).toNat = 1 from rfl] at hx151_0)
                 replace p151 := eq_true p151
                 replace q151 := eq_true q151
                 have p152 : 0 ≤ (3 : Int) := (by omega)
                 have q152 : 3 < (t138.length : Int) := of_decide_eq_true (by first | (with_reducible assumption) | assumption)
                 obtain ⟨ad152, e152, hx152_0⟩ := Kd.at_int (Kd.R_reads' HO_5.out).2.2 3 p152 q152
                 obtain rfl : ad144 = ad152 := (by injection e152)
                 (try simp only [show (3 : Int).toNat = 3 from rfl, Nat.reduceMul, Nat.reduceEqDiff, Go.Addr.add, ↓reduceIte] at hx152_0)
                 have qi152 : (3 < t138.length) = True := eq_true (by omega)
                 (try rw [show ((3 : Int)).toNat = 3 from rfl] at hx152_0)
                 replace p152 := eq_true p152
                 replace q152 := eq_true q152
                 obtain ⟨Ao53, co53, eo53⟩ := Kd.R_slice HO150.out
                 (first | subst eo53 | (injection eo53 with f1_ f2_ f3_; have f4_ := f1_.symm; have f5_ := f3_.symm; clear f1_ f2_ f3_; subst f4_; subst f5_))
                 have q52 : (16 : Int) ≤ ((t147.length : Int) : Int) := of_decide_eq_true (by first | (with_reducible assumption) | assumption)
                 obtain ⟨i052, hi052, _, hsz52, _⟩ := info_parts info5
                 have hroom52 : t147.length ≤ co53 := (Kd.R_reads' HO150.out).2.1
                 have hC52 : Kd.C (Kd.int .u8) _ Ao53 t147.length t147 := (Kd.R_reads' HO150.out).2.2
                 have hcut52 := cut_from (P := Try.prog) 23 5 .i64 Try.underlying23 hi052 1 hsz52 Ao53 t147.length co53 16 (by omega) q52
                 have hr52 := Kd.C_drop (m := (16 : Int).toNat) (c := co53) hC52 (by omega) hroom52
                 obtain ⟨A52, hA52⟩ : ∃ A1, A1 = (if co53 = (16 : Int).toNat then Ao53 else (Ao53 : Option Addr).map (·.add ((16 : Int).toNat * 1))) := ⟨_, rfl⟩
                 obtain ⟨c52, hc52⟩ : ∃ c1, c1 = co53 - (16 : Int).toNat := ⟨_, rfl⟩
                 have hy52 : y153.length = t147.length - (16 : Int).toNat := (by rw [Ny153.out, List.length_drop] <;> omega)
                 rw [show (t147).drop (16 : Int).toNat = y153 from Ny153.out.symm] at hr52
                 replace hr52 : Kd.C (Kd.int .u8) _ A52 y153.length y153 := (by rw [hA52]; exact hr52)
                 rw [← hy52, ← hA52, ← hc52] at hcut52
                 have HR156 := Aside0.mk hr52
                 have HC156 := Aside0.mk (show y153.length ≤ c52 from by rw [hy52, hc52]; exact Nat.sub_le_sub_right hroom52 _)
                 clear hr52 hC52 hroom52 hi052 hsz52 hc52
                 have KY52 := Aside0.mk hy52
                 have KA52 := Aside0.mk hA52
                 clear hy52 hA52
                 have KL52 := Aside0.mk (show 16 ≤ t147.length from by omega)
                 replace q52 := eq_true q52
                 refine start_ (n := 13) (S := fun w' => w'.cell? ⟨ad144.block, ad144.off + 1, none⟩ = some (.int .u64 (rd t138 1)) ∧ w'.cell? ⟨ad144.block, ad144.off + 3, none⟩ = some (.int .u64 (rd t138 3))) (ds := [12]) #[false, false, false, false, false, false, false, false, false, false, false, false, false] (by kernel_rfl) rfl rfl ⟨hx151_0, hx152_0⟩ (fun hHeld => ?_); refine with_tabW record_Read_p.tab12 record_Read_p.bits12 (fun HT_ HW_ => ?_)
                 generalize w50.drew = w51 at HO_5 HO150 BK136 HB HR156 hx151_0 hx152_0 hHeld ⊢
                 refine pure_ (i := 0) (N := some 56) (v := ?_) (a' := ?_) #[true, false, false, false, false, false, false, false, false, false, false, false, false] rfl rfl (any_of HT_.out (by kernel_rfl)) (fun _ _ _ h => h) (Or.inl ⟨by rfl, ?_⟩) ?_ ?_
                 rotate_left
                 ·intro w'
                  go_simp
                  with_reducible rfl
                 rotate_left
                 ·simp only [Act.put, Kx.sb, Kx.sz, Kx.ss, i64_w, i32_w]
                  rfl
                 refine pure_ (i := 1) (N := some 57) (v := ?_) (a' := ?_) #[true, true, false, false, false, false, false, false, false, false, false, false, false] rfl rfl (any_of HT_.out (by kernel_rfl)) (fun _ _ _ h => h) (Or.inl ⟨by rfl, ?_⟩) ?_ ?_
                 rotate_left
                 ·intro w'
                  go_simp
                  with_reducible rfl
                 rotate_left
                 ·simp only [Act.put, Kx.sb, Kx.sz, Kx.ss, i64_w, i32_w]
                  rfl
                 refine pure_ (i := 4) (N := some 60) (v := ?_) (a' := ?_) #[true, true, false, false, true, false, false, false, false, false, false, false, false] rfl rfl (any_of HT_.out (by kernel_rfl)) (fun _ _ _ h => h) (Or.inl ⟨by rfl, ?_⟩) ?_ ?_
                 rotate_left
                 ·intro w'
                  go_simp
                  with_reducible rfl
                 rotate_left
                 ·simp only [Act.put, Kx.sb, Kx.sz, Kx.ss, i64_w, i32_w]
                  rfl
                 refine pure_ (i := 5) (N := some 61) (v := ?_) (a' := ?_) #[true, true, false, false, true, true, false, false, false, false, false, false, false] rfl rfl (any_of HT_.out (by kernel_rfl)) (fun _ _ _ h => h) (Or.inl ⟨by rfl, ?_⟩) ?_ ?_
                 rotate_left
                 ·intro w'
                  go_simp
                  with_reducible rfl
                 rotate_left
                 ·simp only [Act.put, Kx.sb, Kx.sz, Kx.ss, i64_w, i32_w]
                  rfl
                 refine pure_ (i := 8) (N := some 64) (v := ?_) (a' := ?_) #[true, true, false, false, true, true, false, false, true, false, false, false, false] rfl rfl (any_of HT_.out (by kernel_rfl)) (fun _ _ _ h => h) (Or.inl ⟨by rfl, ?_⟩) ?_ ?_
                 rotate_left
                 ·intro w'
                  go_simp
                  with_reducible rfl
                 rotate_left
                 ·simp only [Act.put, Kx.sb, Kx.sz, Kx.ss, i64_w, i32_w]
                  rfl
                 refine pure_ (i := 9) (N := some 65) (v := ?_) (a' := ?_) #[true, true, false, false, true, true, false, false, true, true, false, false, false] rfl rfl (any_of HT_.out (by kernel_rfl)) (fun _ _ _ h => h) (Or.inl ⟨by rfl, ?_⟩) ?_ ?_
                 rotate_left
                 ·intro w'
                  go_simp
                  with_reducible rfl
                 rotate_left
                 ·simp only [Act.put, Kx.sb, Kx.sz, Kx.ss, i64_w, i32_w]
                  rfl
                 refine take_ (i := 2) (N := some 58) (v := ?_) (a' := ?_) #[true, true, true, false, true, true, false, false, true, true, false, false, false] rfl rfl (take_ofW HT_.out HW_.out (by kernel_rfl)) (fun _ _ _ h => h) (Or.inl ⟨by rfl, ?_⟩) hHeld ?_ ?_
                 rotate_left
                 ·rintro w' ⟨s0, s1⟩
                  go_simp
                  with_reducible rfl
                 rotate_left
                 ·simp only [Act.put, Kx.sb, Kx.sz, Kx.ss, i64_w, i32_w]
                  rfl
                 refine pure_ (i := 3) (N := some 59) (v := ?_) (a' := ?_) #[true, true, true, true, true, true, false, false, true, true, false, false, false] rfl rfl (any_of HT_.out (by kernel_rfl)) (fun _ _ _ h => h) (Or.inl ⟨by rfl, ?_⟩) ?_ ?_
                 rotate_left
                 ·intro w'
                  go_simp
                  with_reducible rfl
                 rotate_left
                 ·simp only [Act.put, Kx.sb, Kx.sz, Kx.ss, i64_w, i32_w]
                  rfl
                 refine take_ (i := 6) (N := some 62) (v := ?_) (a' := ?_) #[true, true, true, true, true, true, true, false, true, true, false, false, false] rfl rfl (take_ofW HT_.out HW_.out (by kernel_rfl)) (fun _ _ _ h => h) (Or.inl ⟨by rfl, ?_⟩) hHeld ?_ ?_
                 rotate_left
                 ·rintro w' ⟨s0, s1⟩
                  go_simp
                  with_reducible rfl
                 rotate_left
                 ·simp only [Act.put, Kx.sb, Kx.sz, Kx.ss, i64_w, i32_w]
                  rfl
                 refine pure_ (i := 7) (N := some 63) (v := ?_) (a' := ?_) #[true, true, true, true, true, true, true, true, true, true, false, false, false] rfl rfl (any_of HT_.out (by kernel_rfl)) (fun _ _ _ h => h) (Or.inl ⟨by rfl, ?_⟩) ?_ ?_
                 rotate_left
                 ·intro w'
                  go_simp
                  with_reducible rfl
                 rotate_left
                 ·simp only [Act.put, Kx.sb, Kx.sz, Kx.ss, i64_w, i32_w]
                  rfl
                 refine one_ (i := 10) (N := some 66) #[true, true, true, true, true, true, true, true, true, true, true, false, false] rfl rfl (one_of HT_.out (by kernel_rfl)) (by decide) (fun K hK => ?_)
                 refine goes_ Try.func56 (by kernel_rfl) rfl #[.slice A52 y153.length c52] (by rfl) rfl rfl (by (try simp only [List.map_toArray, List.map_cons, List.map_nil]); first | done | rfl | (simp only [List.length_drop, List.length_take]; rfl)) ?_
                 with_reducible refine (bytes_Clone.calls _ _ y153 t157 _ ?side1 ?side2 A33.out).mono ?_
                 (case side1 => repeat (first | exact (by repeat (first | (with_reducible exact HR156.out) | (with_reducible refine Kd.C_alloc ?_ _) | (with_reducible refine Kd.C_drewN ?_ _) | (with_reducible refine Kd.C_drew ?_) | exact HR156.out)) | (with_reducible refine Kd.C_alloc ?_ _) | (with_reducible refine Kd.C_drewN ?_ _) | (with_reducible refine Kd.C_drew ?_)))
                 (case side2 => exact HC156.out)
                 rintro e w54 ⟨v158, rfl, ho0, hb⟩
                 have HS0_ := (hb.cell (World.block_lt_of_cell? _ _ (hHeld.1))).trans (hHeld.1)
                 have HS1_ := (hb.cell (World.block_lt_of_cell? _ _ (hHeld.2))).trans (hHeld.2)
                 refine ⟨_, rfl, ?_⟩
                 have n0_ := Aside0.mk (Kd.R_below (by (with_reducible repeat (first | apply Kd.R_alloc | apply Kd.R_drewN | apply Kd.R_drew)); exact HO_5.out) hb)
                 have n1_ := Aside0.mk (Kd.R_elder' (by (with_reducible repeat (first | apply Kd.R_alloc | apply Kd.R_drewN | apply Kd.R_drew)); exact HO150.out) (Kd.R_base ho0) hb)
                 have n2_ := Aside0.mk (Kd.R_lower (Kd.R_new' ho0 (Kd.R_lt (by (with_reducible repeat (first | apply Kd.R_alloc | apply Kd.R_drewN | apply Kd.R_drew)); exact HO150.out))) (below_size (by repeat (first | (with_reducible first | exact HB.out | apply below_alloc | apply pw_below_drewN | apply below_drew1 | refine below_set ?_ GE136.out) | exact HB.out))))
                 have n3_ := Aside0.mk (blk_below (g := gb136) (o := .cells #[.int .i64 0, .int .i64 0, .slice none 0 0] 25 (0, 0)) (by (with_reducible repeat (first | refine blk_drewN ?_ _ | refine blk_drew ?_ | refine blk_alloc ?_ _)); exact BK136.out) hb)
                 have n4_ := Aside0.mk (below_step (by repeat (first | (with_reducible first | exact HB.out | apply below_alloc | apply pw_below_drewN | apply below_drew1 | refine below_set ?_ GE136.out) | exact HB.out)) hb)
                 clear HO_5
                 clear HO150
                 clear BK136
                 clear HB
                 have HO_5 := n0_
                 have HO150 := n1_
                 have HO159 := n2_
                 have BK136 := n3_
                 have HB := n4_
                 clear n0_ n1_ n2_ n3_ n4_
                 (try clear hb)
                 (try clear hb2)
                 (try clear hk)
                 (try clear hi)
                 (try clear ho0)
                 obtain ⟨Ao55, co55, eo55⟩ := Kd.R_slice HO159.out
                 (first | subst eo55 | (injection eo55 with f1_ f2_ f3_; have f4_ := f1_.symm; have f5_ := f3_.symm; clear f1_ f2_ f3_; subst f4_; subst f5_))
                 refine hK.out _ _ ⟨HS0_, HS1_⟩ (fun hHeld => ?_)
                 clear hK K
                 refine norm_ (a' := ?_) ?_ ?_
                 rotate_left
                 ·show Act.put _ (some 66) _ = _
                  simp only [Act.put, Kx.sb, Kx.sz, Kx.ss, i64_w, i32_w]
                  rfl
                 refine pure_ (i := 11) (N := some 67) (v := ?_) (a' := ?_) #[true, true, true, true, true, true, true, true, true, true, true, true, false] rfl rfl (any_of HT_.out (by kernel_rfl)) (fun _ _ _ h => h) (Or.inl ⟨by rfl, ?_⟩) ?_ ?_
                 rotate_left
                 ·intro w'
                  go_simp
                  with_reducible rfl
                 rotate_left
                 ·simp only [Act.put, Kx.sb, Kx.sz, Kx.ss, i64_w, i32_w]
                  rfl
                 refine last_ (i := 12) (N := none) #[true, true, true, true, true, true, true, true, true, true, true, true, true] rfl rfl (one_of HT_.out (by kernel_rfl)) (by decide) (fun K hK => ?_)
                 have hs56 : w54.cell? ⟨gb136, 0, none⟩ = some (.int .i64 0) := (blk_cell BK136.out 0).trans rfl
                 have hfs56 := blk_frozen BK136.out 0
                 have hs57 : w54.cell? ⟨gb136, 1, none⟩ = some (.int .i64 0) := (blk_cell BK136.out 1).trans rfl
                 have hfs57 := blk_frozen BK136.out 1
                 have hs58 : w54.cell? ⟨gb136, 2, none⟩ = some (.slice none 0 0) := (blk_cell BK136.out 2).trans rfl
                 have hfs58 := blk_frozen BK136.out 2
                 refine skip_ (w1 := ?_) (by rfl) rfl ?_ ?_
                 rotate_left
                 ·go_simp
                  rfl
                 refine hK.out _ _ ?_
                 clear hK K
                 refine done_ (done_of HT_.out (by kernel_rfl)) ?_
                 have hcz59_0 : w54.cell? ⟨gb136, 0, none⟩ = some (.int .i64 0) := (blk_cell BK136.out 0).trans rfl
                 have hcz59_1 : w54.cell? ⟨gb136, 1, none⟩ = some (.int .i64 0) := (blk_cell BK136.out 1).trans rfl
                 have hcz59_2 : w54.cell? ⟨gb136, 2, none⟩ = some (.slice none 0 0) := (blk_cell BK136.out 2).trans rfl
                 have hfz59_0 := blk_frozen BK136.out 0
                 have hfz59_1 := blk_frozen BK136.out 1
                 have hfz59_2 := blk_frozen BK136.out 2
                 try go_wp2_with (first | ((with_reducible refine gate_callee (f := 24) rfl ?_); refine goesL_ (some 69) rfl rfl Try.func24 (by kernel_rfl) rfl #[.agg #[.int .i64 (wrap64 (rd t138 1)), .int .i64 (wrap64 (rd t138 3)), .slice Ao55 t157.length co55]] rfl (by (try simp only [List.map_toArray, List.map_cons, List.map_nil]); first | done | rfl | (simp only [List.length_drop, List.length_take]; rfl)) ?_; (with_reducible refine (record_Check.calls (wrap64 (rd t138 1)) (wrap64 (rd t138 3)) _ _ t157 t160 _ ?side1 ?side2 A34.out).mono ?_); (case side1 => refine (Kd.R_reads' (e := 5) (base := w.heap.size) (ok := fun k_ => (True ∧ some k_ ≠ (.slice Ao53 t147.length co53 : Value).ownBlock)) (n := t157.length) (c := co55) ?_).2.2; exact (by (with_reducible repeat (first | apply Kd.R_alloc | apply Kd.R_drewN | apply Kd.R_drew)); exact (Kd.R_mono (Kd.R_far (p := ⟨gb136, 2, none⟩) (Kd.R_far (p := ⟨gb136, 1, none⟩) (Kd.R_far (p := ⟨gb136, 0, none⟩) (Kd.R_types HO159.out BK136.out (by decide)) (fun _ hk => hk.2) (.int .i64 (wrap64 (rd t138 1)))) (fun _ hk => hk.2) (.int .i64 (wrap64 (rd t138 3)))) (fun _ hk => hk.2) (.slice Ao55 t157.length co55)) (fun _ h_ => h_.1)))); (case side2 => exact (Kd.R_reads' HO159.out).2.1); rintro e w60 ⟨rfl, hb⟩; refine ⟨_, rfl, ?_⟩; have n0_ := Aside0.mk (Kd.R_below (by (with_reducible repeat (first | apply Kd.R_alloc | apply Kd.R_drewN | apply Kd.R_drew)); exact (Kd.R_mono (Kd.R_far (p := ⟨gb136, 2, none⟩) (Kd.R_far (p := ⟨gb136, 1, none⟩) (Kd.R_far (p := ⟨gb136, 0, none⟩) (Kd.R_types HO_5.out BK136.out (by decide)) (fun _ hk => hk.2) (.int .i64 (wrap64 (rd t138 1)))) (fun _ hk => hk.2) (.int .i64 (wrap64 (rd t138 3)))) (fun _ hk => hk.2) (.slice Ao55 t157.length co55)) (fun _ h_ => h_.1))) hb); have n1_ := Aside0.mk (Kd.R_below (by (with_reducible repeat (first | apply Kd.R_alloc | apply Kd.R_drewN | apply Kd.R_drew)); exact (Kd.R_mono (Kd.R_far (p := ⟨gb136, 2, none⟩) (Kd.R_far (p := ⟨gb136, 1, none⟩) (Kd.R_far (p := ⟨gb136, 0, none⟩) (Kd.R_types HO150.out BK136.out (by decide)) (fun _ hk => hk.2) (.int .i64 (wrap64 (rd t138 1)))) (fun _ hk => hk.2) (.int .i64 (wrap64 (rd t138 3)))) (fun _ hk => hk.2) (.slice Ao55 t157.length co55)) (fun _ h_ => h_.1))) hb); have n2_ := Aside0.mk (Kd.R_below (by (with_reducible repeat (first | apply Kd.R_alloc | apply Kd.R_drewN | apply Kd.R_drew)); exact (Kd.R_mono (Kd.R_far (p := ⟨gb136, 2, none⟩) (Kd.R_far (p := ⟨gb136, 1, none⟩) (Kd.R_far (p := ⟨gb136, 0, none⟩) (Kd.R_types HO159.out BK136.out (by decide)) (fun _ hk => hk.2) (.int .i64 (wrap64 (rd t138 1)))) (fun _ hk => hk.2) (.int .i64 (wrap64 (rd t138 3)))) (fun _ hk => hk.2) (.slice Ao55 t157.length co55)) (fun _ h_ => h_.1))) hb); have n3_ := Aside0.mk (blk_below (g := gb136) (o := .cells #[.int .i64 (wrap64 (rd t138 1)), .int .i64 (wrap64 (rd t138 3)), .slice Ao55 t157.length co55] 25 (0, 0)) (by (with_reducible repeat (first | refine blk_drewN ?_ _ | refine blk_drew ?_ | refine blk_alloc ?_ _)); refine blk_put (cs := #[.int .i64 (wrap64 (rd t138 1)), .int .i64 (wrap64 (rd t138 3)), .slice none 0 0]) ?_ 2 _ rfl; (with_reducible repeat (first | refine blk_drewN ?_ _ | refine blk_drew ?_ | refine blk_alloc ?_ _)); refine blk_put (cs := #[.int .i64 (wrap64 (rd t138 1)), .int .i64 0, .slice none 0 0]) ?_ 1 _ rfl; (with_reducible repeat (first | refine blk_drewN ?_ _ | refine blk_drew ?_ | refine blk_alloc ?_ _)); refine blk_put (cs := #[.int .i64 0, .int .i64 0, .slice none 0 0]) ?_ 0 _ rfl; (with_reducible repeat (first | refine blk_drewN ?_ _ | refine blk_drew ?_ | refine blk_alloc ?_ _)); exact BK136.out) hb); have n4_ := Aside0.mk (below_step (by repeat (first | (with_reducible first | exact HB.out | apply below_alloc | apply pw_below_drewN | apply below_drew1 | refine below_set ?_ GE136.out) | exact HB.out)) hb); clear HO_5; clear HO150; clear HO159; clear BK136; clear HB; have HO_5 := n0_; have HO150 := n1_; have HO159 := n2_; have BK136 := n3_; have HB := n4_; clear n0_ n1_ n2_ n3_ n4_; (try clear hb); (try clear hb2); (try clear hk); (try clear hi); have hcz61_0 : w60.cell? ⟨gb136, 0, none⟩ = some (.int .i64 (wrap64 (rd t138 1))) := (blk_cell BK136.out 0).trans rfl; have hcz61_1 : w60.cell? ⟨gb136, 1, none⟩ = some (.int .i64 (wrap64 (rd t138 3))) := (blk_cell BK136.out 1).trans rfl; have hcz61_2 : w60.cell? ⟨gb136, 2, none⟩ = some (.slice Ao55 t157.length co55) := (blk_cell BK136.out 2).trans rfl; have hfz61_0 := blk_frozen BK136.out 0; have hfz61_1 := blk_frozen BK136.out 1; have hfz61_2 := blk_frozen BK136.out 2))
                 refine bodyPost_ret (results_ctt rfl _ _ gb136 25 #[.int .i64 0, .int .i64 0, .slice none 0 0] (0, 0) _ rfl (by (with_reducible repeat (first | refine blk_drewN ?_ _ | refine blk_drew ?_ | refine blk_alloc ?_ _)); refine blk_put (cs := #[.int .i64 0, .int .i64 0, .slice Ao55 t157.length co55]) ?_ 2 _ rfl; (with_reducible repeat (first | refine blk_drewN ?_ _ | refine blk_drew ?_ | refine blk_alloc ?_ _)); refine blk_put (cs := #[.int .i64 0, .int .i64 (wrap64 (rd t138 3)), .slice Ao55 t157.length co55]) ?_ 1 _ rfl; (with_reducible repeat (first | refine blk_drewN ?_ _ | refine blk_drew ?_ | refine blk_alloc ?_ _)); refine blk_put (cs := #[.int .i64 (wrap64 (rd t138 1)), .int .i64 (wrap64 (rd t138 3)), .slice Ao55 t157.length co55]) ?_ 0 _ rfl; (with_reducible repeat (first | refine blk_drewN ?_ _ | refine blk_drew ?_ | refine blk_alloc ?_ _)); exact BK136.out) Try.underlying25 rfl (by kernel_rfl)) rfl ?_
                 exact ⟨_, by first | rfl | (simp [errW_none, errW_some] <;> rfl) | (simp [*, errW_none, errW_some] <;> rfl), by first | exact Kd.R_nil _ _ _ _ _ | exact Kd.N_nil _ _ _ _ _ | exact Kd.V_nil _ _ _ _ _ | exact Kd.Q_nil _ _ _ _ _ | exact Kd.S_nil _ _ _ _ _, by repeat (first | (with_reducible first | exact HB.out | apply below_alloc | apply pw_below_drewN | apply below_drew1 | refine below_set ?_ GE136.out) | exact HB.out)⟩
               ·rw [if_neg c32] at H
                exact absurd H (by simp)
              ·rw [if_neg c31] at H
               exact absurd H (by simp)
             ·rw [if_neg c30] at H
              exact absurd H (by simp)
            ·rw [if_neg c29] at H
             have c29b0 : (t148 == 0) = false := beq_eq_false_iff_ne.mpr c29
             have c29b1 : (t148 != 0) = true := bne_iff_ne.mpr c29
             simp only [Option.some.injEq, Prod.mk.injEq] at H
             obtain ⟨rfl, rfl, rfl, rfl, rfl⟩ := H
             obtain ⟨i062, hi062, _, hsz62, _⟩ := info_parts info5
             obtain ⟨hcut62, hA62, hC62⟩ := print_take_of (P := Try.prog) (Value.int .u8) 0 23 5 .i64 Try.underlying23 hi062 hsz62 A0 c0 l0 t145 (of_decide_eq_true (by first | (with_reducible assumption) | assumption)) (of_decide_eq_true (by first | (with_reducible assumption) | assumption)) HC0.out
             have HR146 := Aside0.mk (Kd.C_of_reads (h1 := fun _ => rfl) (hA62 _ (Kd.reads_of_C HR0.out)))
             have HC146 := Aside0.mk hC62
             clear hA62 hC62 hi062 hsz62
             go_wp2_with (first | ((with_reducible refine gate_callee (f := 55) rfl ?_); refine goesL_ (some 50) rfl rfl Try.func55 (by kernel_rfl) rfl #[.slice A0 (l0.take (t145 : Int).toNat).length c0] rfl (by (try simp only [List.map_toArray, List.map_cons, List.map_nil]); first | done | (rw [show (l0.take (t145 : Int).toNat).length = t145.toNat from (by rw [List.length_take]; have h_ : (t145 : Int) ≤ (l0.length : Int) := of_decide_eq_true (by first | (with_reducible assumption) | assumption); omega)] <;> rfl) | rfl | (simp only [List.length_drop, List.length_take]; rfl)) ?_; (with_reducible refine (crc_Open.calls _ _ (l0.take (t145 : Int).toNat) t147 t148 _ ?side1 ?side2 A28.out).mono ?_); (case side1 => repeat (first | exact (Kd.C_below HR146.out HB.out) | (with_reducible refine Kd.C_alloc ?_ _) | (with_reducible refine Kd.C_drewN ?_ _) | (with_reducible refine Kd.C_drew ?_))); (case side2 => exact HC146.out); rintro e w63 ⟨v149, rfl, ho0, hb⟩; refine ⟨_, rfl, ?_⟩; have n0_ := Aside0.mk (Kd.R_below (by (with_reducible repeat (first | apply Kd.R_alloc | apply Kd.R_drewN | apply Kd.R_drew)); exact HO_5.out) hb); have n1_ := Aside0.mk (Kd.R_lower ho0 (below_size (by repeat (first | (with_reducible first | exact HB.out | apply below_alloc | apply pw_below_drewN | apply below_drew1 | refine below_set ?_ GE136.out) | exact HB.out)))); have n2_ := Aside0.mk (blk_below (g := gb136) (o := .cells #[.int .i64 0, .int .i64 0, .slice none 0 0] 25 (0, 0)) (by (with_reducible repeat (first | refine blk_drewN ?_ _ | refine blk_drew ?_ | refine blk_alloc ?_ _)); exact BK136.out) hb); have n3_ := Aside0.mk (below_step (by repeat (first | (with_reducible first | exact HB.out | apply below_alloc | apply pw_below_drewN | apply below_drew1 | refine below_set ?_ GE136.out) | exact HB.out)) hb); clear HO_5; clear BK136; clear HB; have HO_5 := n0_; have HO150 := n1_; have BK136 := n2_; have HB := n3_; clear n0_ n1_ n2_ n3_; (try clear hb); (try clear hb2); (try clear hk); (try clear hi); (try clear ho0); have hcz64_0 : w63.cell? ⟨gb136, 0, none⟩ = some (.int .i64 0) := (blk_cell BK136.out 0).trans rfl; have hcz64_1 : w63.cell? ⟨gb136, 1, none⟩ = some (.int .i64 0) := (blk_cell BK136.out 1).trans rfl; have hcz64_2 : w63.cell? ⟨gb136, 2, none⟩ = some (.slice none 0 0) := (blk_cell BK136.out 2).trans rfl; have hfz64_0 := blk_frozen BK136.out 0; have hfz64_1 := blk_frozen BK136.out 1; have hfz64_2 := blk_frozen BK136.out 2))
             refine bodyPost_ret (results_ctt rfl _ _ gb136 25 #[.int .i64 0, .int .i64 0, .slice none 0 0] (0, 0) _ rfl (by (with_reducible repeat (first | refine blk_drewN ?_ _ | refine blk_drew ?_ | refine blk_alloc ?_ _)); refine blk_put (cs := #[.int .i64 0, .int .i64 0, .slice none 0 0]) ?_ 2 _ rfl; (with_reducible repeat (first | refine blk_drewN ?_ _ | refine blk_drew ?_ | refine blk_alloc ?_ _)); refine blk_put (cs := #[.int .i64 0, .int .i64 0, .slice none 0 0]) ?_ 1 _ rfl; (with_reducible repeat (first | refine blk_drewN ?_ _ | refine blk_drew ?_ | refine blk_alloc ?_ _)); refine blk_put (cs := #[.int .i64 0, .int .i64 0, .slice none 0 0]) ?_ 0 _ rfl; (with_reducible repeat (first | refine blk_drewN ?_ _ | refine blk_drew ?_ | refine blk_alloc ?_ _)); exact BK136.out) Try.underlying25 rfl (by kernel_rfl)) rfl ?_
             exact ⟨_, by first | rfl | (simp [errW_none, errW_some] <;> rfl) | (simp [*, errW_none, errW_some] <;> rfl), by first | exact Kd.R_nil _ _ _ _ _ | exact Kd.N_nil _ _ _ _ _ | exact Kd.V_nil _ _ _ _ _ | exact Kd.Q_nil _ _ _ _ _ | exact Kd.S_nil _ _ _ _ _, by repeat (first | (with_reducible first | exact HB.out | apply below_alloc | apply pw_below_drewN | apply below_drew1 | refine below_set ?_ GE136.out) | exact HB.out)⟩
           ·rw [if_neg c27] at H
            exact absurd H (by simp)
          ·rw [if_neg c26] at H
           exact absurd H (by simp)
      ·rw [if_neg c19] at H
       exact absurd H (by simp)
  ·rw [if_neg c5] at H
   exact absurd H (by simp)
end Go.Proofs.Ytcemlfkboifncaa.PA
