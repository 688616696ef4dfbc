/- Functions of the program as Lean functions, and that the Go code comes to just their answers: no condition but that the function says so. (Written by a program of this workplace over the kit's print, with contracts by hand.) -/
import Derived.Test.YtcemlfkboifncaaPTx12
import Derived.Test.YtcemlfkboifncaaPTx49
import Derived.Test.YtcemlfkboifncaaPTx53
namespace Go.Proofs.Ytcemlfkboifncaa.PT
open Go.RowKit Go.Proofs.YtcemlfkboifncaaW.PrintWords Go.Proofs.YtcemlfkboifncaaW.PrintLast Go.Proofs.YtcemlfkboifncaaW.PrintMore
attribute [local go_sem] max2_int min2_int max_two min_two max_three min_three max_four min_four   -- for this text's walks alone
set_option linter.unusedVariables false
set_option linter.unusedSimpArgs false

/-! ### waggonerref05_Read_p: function 22 -/
def waggonerref05_Read_p.j0 : Nat → List Int → List Int → Int → Bool → Option (Int × Int × List Int × Int × Int)
 | 0, _, _, _, _ => none
 | k + 1, x0, x5, x7, x39 => if x39 = true then (some (0, 0, ([] : List Int), 0, 50)) else (if 1 < (x5.length : Int) then (if 3 < (x5.length : Int) then ((some (([] : List Int) : List Int)).bind fun y233 => (if 16 ≤ (wrap64 (x7 - 4)) then (if (wrap64 (x7 - 4)) ≤ (x0.length : Int) then (if y233.length + ((x0.take ((wrap64 (x7 - 4)) : Int).toNat).drop 16).length < 140737488355328 then ((some (y233 ++ ((x0.take ((wrap64 (x7 - 4)) : Int).toNat).drop 16) : List Int)).bind fun y237 => ((waggonerref05_Write.f (wrap64 (rd x5 1)) (wrap64 (rd x5 3)) y237).bind fun bt241 => (if bt241.2 = 0 then (if 0 ≤ x7 then (if x7 ≤ (x0.length : Int) then (if (strOfNums bt241.1).toList = (strOfNums (x0.take (x7 : Int).toNat)).toList then (some (wrap64 (rd x5 1), wrap64 (rd x5 3), y237, x7, 0)) else (some (0, 0, ([] : List Int), 0, 50))) else (none)) else (none)) else (some (0, 0, ([] : List Int), 0, 50))))) else (none)) else (none)) else (none))) else (none)) else (none))
def waggonerref05_Read_p.f (k : Nat) (l0 : List Int) : Option (Int × Int × List Int × Int × Int) := if (l0.length : Int) < 20 then (some (0, 0, ([] : List Int), 0, 50)) else (if 16 ≤ (l0.length : Int) then ((waggonerref01_Unpack.f (⟨#[119, 104, 104, 113]⟩ : ByteArray) (l0.take 16)).bind fun bt224 => (if 2 < (bt224.1.length : Int) then ((waggonerref05_Size.f (wrap64 (rd bt224.1 2))).bind fun t229 => (if t229 = 0 then (waggonerref05_Read_p.j0 k l0 bt224.1 t229 true) else (if (l0.length : Int) < t229 then (waggonerref05_Read_p.j0 k l0 bt224.1 t229 true) else (if 3 < (bt224.1.length : Int) then (waggonerref05_Read_p.j0 k l0 bt224.1 t229 (decide ((rd bt224.1 3) ≥ 4611686018427387904))) else (none))))) else (none))) else (none))
theorem waggonerref05_Read_p.mono_l : ∀ k, (∀ y0 y1 y2 y3, LeO (waggonerref05_Read_p.j0 k y0 y1 y2 y3) (waggonerref05_Read_p.j0 (k + 1) y0 y1 y2 y3))
 | 0 => fun _ _ _ _ r h => by simp [waggonerref05_Read_p.j0] at h
 | k + 1 => by
  have ih0 := waggonerref05_Read_p.mono_l k
  ·intro y0 y1 y2 y3
   unfold waggonerref05_Read_p.j0
   repeat' first
   | (with_reducible exact ih0 _ _ _ _)
   | (with_reducible exact LeO.refl _)
   | (with_reducible exact LeO.none _)
   | (with_reducible refine LeO.ite ?_ ?_)
   | (with_reducible refine LeO.bind ?_ (fun _ => ?_))
   | exact ih0 _ _ _ _
   | exact LeO.none _
   | refine LeO.ite ?_ ?_
   | refine LeO.bind ?_ (fun _ => ?_)
theorem waggonerref05_Read_p.mono : ∀ a0 k, LeO (waggonerref05_Read_p.f k a0) (waggonerref05_Read_p.f (k + 1) a0) := by
 intro a0 k
 have ih0 := waggonerref05_Read_p.mono_l k
 unfold waggonerref05_Read_p.f
 repeat' first
   | (with_reducible exact ih0 _ _ _ _)
   | (with_reducible exact LeO.refl _)
   | (with_reducible exact LeO.none _)
   | (with_reducible refine LeO.ite ?_ ?_)
   | (with_reducible refine LeO.bind ?_ (fun _ => ?_))
   | exact ih0 _ _ _ _
   | exact LeO.none _
   | refine LeO.ite ?_ ?_
   | refine LeO.bind ?_ (fun _ => ?_)
def waggonerref05_Read_p.T7 : Bool × List (List Nat × List Nat) := (true, [([], []), ([0], [0]), ([1], [1]), ([2], [2]), ([], []), ([4], [4]), ([5], [5]), ([6], [6]), ([], []), ([], []), ([], []), ([10], [10]), ([9, 11], [9, 11]), ([8, 12], [8, 12]), ([3, 7, 13], [3, 7, 13]), ([], []), ([15, 14, 13, 0, 1, 2, 3, 4, 5, 6, 7, 8, 9, 10, 11, 12, 13, 14, 15], [14, 15])])
def waggonerref05_Read_p.B7 : List Nat := [0, 1, 3, 7, 0, 16, 48, 112, 0, 0, 0, 1024, 3584, 7936, 16383, 0, 65535]
theorem waggonerref05_Read_p.tab7 : rtab .any (opsOf Try.f22 7) = waggonerref05_Read_p.T7 := by kernel_rfl
theorem waggonerref05_Read_p.bits7 : waitsOk waggonerref05_Read_p.T7.2 waggonerref05_Read_p.B7 = true := by kernel_rfl
def waggonerref05_Read_p.T9 : Bool × List (List Nat × List Nat) := (true, [([], []), ([0], [0]), ([1], [1]), ([2], [2]), ([3, 2], [2, 3]), ([2], [2]), ([2], [2]), ([5, 6, 2], [2, 5, 6]), ([7, 2], [2, 7]), ([4, 8, 2], [2, 4, 8]), ([2, 9], [2, 9])])
def waggonerref05_Read_p.B9 : List Nat := [0, 1, 3, 7, 15, 7, 7, 103, 231, 511, 1023]
theorem waggonerref05_Read_p.tab9 : rtab .any (opsOf Try.f22 9) = waggonerref05_Read_p.T9 := by kernel_rfl
theorem waggonerref05_Read_p.bits9 : waitsOk waggonerref05_Read_p.T9.2 waggonerref05_Read_p.B9 = true := by kernel_rfl
set_option maxHeartbeats 8000000 in
set_option maxRecDepth 100000 in
theorem waggonerref05_Read_p.calls (k : Nat) (A0 : Option Addr) (c0 : Nat) (l0 : List Int) (r1 : Int) (r2 : Int) (r3 : List Int) (r4 : Int) (r5 : Int) (w : World) (hr0 : Kd.C (Kd.int .u8) w A0 l0.length l0) (hc0 : l0.length ≤ c0) (h : waggonerref05_Read_p.f k l0 = some (r1, r2, r3, r4, r5)) :
  Calls Try.prog 22 #[.slice A0 l0.length c0] w fun e w' => ∃ v2_ : Value, e = .returned (.tuple #[.agg #[.int .i64 r1, .int .i64 r2, v2_], .int .i64 r4, .int .i64 r5]) ∧ Kd.R (Kd.int .u8) 5 w' w.heap.size (fun _ => True) v2_ r3 ∧ Below w.heap.size w w' := by
 have hu25 := Try.underlying25
 have HR0 := Aside0.mk hr0
 have HC0 := Aside0.mk hc0
 clear hr0 hc0
 have HB := Aside0.mk (Below.refl w.heap.size w)
 have H : (if (l0.length : Int) < 20 then (some (0, 0, ([] : List Int), 0, 50)) else (if 16 ≤ (l0.length : Int) then ((waggonerref01_Unpack.f (⟨#[119, 104, 104, 113]⟩ : ByteArray) (l0.take 16)).bind fun bt224 => (if 2 < (bt224.1.length : Int) then ((waggonerref05_Size.f (wrap64 (rd bt224.1 2))).bind fun t229 => (if t229 = 0 then (waggonerref05_Read_p.j0 k l0 bt224.1 t229 true) else (if (l0.length : Int) < t229 then (waggonerref05_Read_p.j0 k l0 bt224.1 t229 true) else (if 3 < (bt224.1.length : Int) then (waggonerref05_Read_p.j0 k l0 bt224.1 t229 (decide ((rd bt224.1 3) ≥ 4611686018427387904))) else (none))))) else (none))) else (none))) = some (r1, r2, r3, r4, r5) := h
 clear h
 by_cases c2 : (l0.length : Int) < 20
 ·rw [if_pos c2] at H
  have c2b0 : decide ((l0.length : Int) < 20) = true := decide_eq_true c2
  have c2b1 : decide (l0.length < 20) = true := decide_eq_true (by omega)
  clear c2
  simp only [Option.some.injEq, Prod.mk.injEq] at H
  obtain ⟨rfl, rfl, rfl, rfl, rfl⟩ := H
  go_enter Try.func22, Try.ntmps22
  go_wp2_with (first | ((with_reducible refine gate_dst (N := 2) rfl ?_); (try (refine gate_guard (by rfl) ?_; dsimp only)); refine box_event ?hg (N := 2) ?hd (cs := #[.int .i64 0, .int .i64 0, .slice none 0 0]) (t := 25) ?hr ?_; (case hd => rfl); (case hg => rfl); (case hr => first | (go_simp; done) | (go_simp; rfl)); intro gb222 hg w3 hbox hb; have n0_ := Aside0.mk (below_step (by repeat (first | (with_reducible first | exact HB.out | apply below_alloc | apply pw_below_drewN | apply below_drew1) | exact HB.out)) hb); have n1_ := Aside0.mk (hbox); have n2_ := Aside0.mk ((by rw [hg]; exact (below_size (by repeat (first | (with_reducible first | exact HB.out | apply below_alloc | apply pw_below_drewN | apply below_drew1) | exact HB.out))) : w.heap.size ≤ gb222)); have n3_ := Aside0.mk ((by rw [hg]; exact (below_size (by repeat (first | (with_reducible first | exact HB.out | apply below_alloc | apply pw_below_drewN | apply below_drew1) | exact HB.out))) : w.heap.size ≤ gb222)); clear HB; have HB := n0_; have BK222 := n1_; have GW222 := n2_; have GE222 := n3_; clear n0_ n1_ n2_ n3_; clear hb hbox hg; have hcz4_0 : w3.cell? ⟨gb222, 0, none⟩ = some (.int .i64 0) := (blk_cell BK222.out 0).trans rfl; have hcz4_1 : w3.cell? ⟨gb222, 1, none⟩ = some (.int .i64 0) := (blk_cell BK222.out 1).trans rfl; have hcz4_2 : w3.cell? ⟨gb222, 2, none⟩ = some (.slice none 0 0) := (blk_cell BK222.out 2).trans rfl; have hfz4_0 := blk_frozen BK222.out 0; have hfz4_1 := blk_frozen BK222.out 1; have hfz4_2 := blk_frozen BK222.out 2))
  refine bodyPost_ret (results_ctt rfl _ _ gb222 25 #[.int .i64 0, .int .i64 0, .slice none 0 0] (0, 0) _ rfl (by (with_reducible repeat (first | refine blk_drewN ?_ _ | refine blk_drew ?_ | refine blk_alloc ?_ _)); refine blk_put (cs := #[.int .i64 0, .int .i64 0, .slice none 0 0]) ?_ 2 _ rfl; (with_reducible repeat (first | refine blk_drewN ?_ _ | refine blk_drew ?_ | refine blk_alloc ?_ _)); refine blk_put (cs := #[.int .i64 0, .int .i64 0, .slice none 0 0]) ?_ 1 _ rfl; (with_reducible repeat (first | refine blk_drewN ?_ _ | refine blk_drew ?_ | refine blk_alloc ?_ _)); refine blk_put (cs := #[.int .i64 0, .int .i64 0, .slice none 0 0]) ?_ 0 _ rfl; (with_reducible repeat (first | refine blk_drewN ?_ _ | refine blk_drew ?_ | refine blk_alloc ?_ _)); exact BK222.out) Try.underlying25 rfl (by kernel_rfl)) rfl ?_
  exact ⟨_, by first | rfl | (simp [errW_none, errW_some] <;> rfl) | (simp [*, errW_none, errW_some] <;> rfl), by first | exact Kd.R_nil _ _ _ _ _ | exact Kd.N_nil _ _ _ _ _ | exact Kd.V_nil _ _ _ _ _ | exact Kd.Q_nil _ _ _ _ _ | exact Kd.S_nil _ _ _ _ _, by repeat (first | (with_reducible first | exact HB.out | apply below_alloc | apply pw_below_drewN | apply below_drew1 | refine below_set ?_ GE222.out) | exact HB.out)⟩
 ·rw [if_neg c2] at H
  have c2b0 : decide ((l0.length : Int) < 20) = false := decide_eq_false c2
  have c2b1 : decide (l0.length < 20) = false := decide_eq_false (by omega)
  clear c2
  by_cases c5 : 16 ≤ (l0.length : Int)
  ·rw [if_pos c5] at H
   have c5b0 := eq_true c5
   have c5b1 : decide (16 ≤ (l0.length : Int)) = true := decide_eq_true c5
   clear c5
   replace H := Option.bind_eq_some_iff.mp H
   obtain ⟨⟨t224, t227⟩, A60, H⟩ := H
   replace H : (if 2 < (t224.length : Int) then ((waggonerref05_Size.f (wrap64 (rd t224 2))).bind fun t229 => (if t229 = 0 then (waggonerref05_Read_p.j0 k l0 t224 t229 true) else (if (l0.length : Int) < t229 then (waggonerref05_Read_p.j0 k l0 t224 t229 true) else (if 3 < (t224.length : Int) then (waggonerref05_Read_p.j0 k l0 t224 t229 (decide ((rd t224 3) ≥ 4611686018427387904))) else (none))))) else (none)) = some (r1, r2, r3, r4, r5) := H
   have A6 := Aside0.mk A60
   clear A60
   by_cases c7 : 2 < (t224.length : Int)
   ·rw [if_pos c7] at H
    have c7b0 : decide (2 < (t224.length : Int)) = true := decide_eq_true c7
    have c7b1 : decide (2 < t224.length) = true := decide_eq_true (by omega)
    clear c7
    replace H := Option.bind_eq_some_iff.mp H
    obtain ⟨t229, A80, H⟩ := H
    replace H : (if t229 = 0 then (waggonerref05_Read_p.j0 k l0 t224 t229 true) else (if (l0.length : Int) < t229 then (waggonerref05_Read_p.j0 k l0 t224 t229 true) else (if 3 < (t224.length : Int) then (waggonerref05_Read_p.j0 k l0 t224 t229 (decide ((rd t224 3) ≥ 4611686018427387904))) else (none)))) = some (r1, r2, r3, r4, r5) := H
    have A8 := Aside0.mk A80
    clear A80
    have HC9 := Aside0.mk H
    clear H
    go_enter Try.func22, Try.ntmps22
    go_upto_region 5 with (first | ((with_reducible refine gate_dst (N := 2) rfl ?_); (try (refine gate_guard (by rfl) ?_; dsimp only)); refine box_event ?hg (N := 2) ?hd (cs := #[.int .i64 0, .int .i64 0, .slice none 0 0]) (t := 25) ?hr ?_; (case hd => rfl); (case hg => rfl); (case hr => first | (go_simp; done) | (go_simp; rfl)); intro gb222 hg w10 hbox hb; have n0_ := Aside0.mk (below_step (by repeat (first | (with_reducible first | exact HB.out | apply below_alloc | apply pw_below_drewN | apply below_drew1) | exact HB.out)) hb); have n1_ := Aside0.mk (hbox); have n2_ := Aside0.mk ((by rw [hg]; exact (below_size (by repeat (first | (with_reducible first | exact HB.out | apply below_alloc | apply pw_below_drewN | apply below_drew1) | exact HB.out))) : w.heap.size ≤ gb222)); have n3_ := Aside0.mk ((by rw [hg]; exact (below_size (by repeat (first | (with_reducible first | exact HB.out | apply below_alloc | apply pw_below_drewN | apply below_drew1) | exact HB.out))) : w.heap.size ≤ gb222)); clear HB; have HB := n0_; have BK222 := n1_; have GW222 := n2_; have GE222 := n3_; clear n0_ n1_ n2_ n3_; clear hb hbox hg; obtain ⟨i011, hi011, _, hsz11, _⟩ := info_parts info5; obtain ⟨hcut11, hA11, hC11⟩ := print_take_of (P := Try.prog) (Value.int .u8) 0 23 5 .i64 Try.underlying23 hi011 hsz11 A0 c0 l0 16 (by omega) (of_decide_eq_true (by first | (with_reducible assumption) | assumption)) HC0.out; have HR223 := Aside0.mk (Kd.C_of_reads (h1 := fun _ => rfl) (hA11 _ (Kd.reads_of_C HR0.out))); have HC223 := Aside0.mk hC11; clear hA11 hC11 hi011 hsz11) | ((with_reducible refine gate_callee (f := 57) rfl ?_); refine goesL_ (some 18) rfl rfl Try.func57 (by kernel_rfl) rfl #[.string (⟨#[119, 104, 104, 113]⟩ : ByteArray), .slice A0 (l0.take 16).length c0] rfl (by (try simp only [List.map_toArray, List.map_cons, List.map_nil]); first | done | (rw [show (l0.take 16).length = 16 from (by rw [List.length_take]; have h_ : (16 : Int) ≤ (l0.length : Int) := of_decide_eq_true (by first | (with_reducible assumption) | assumption); omega)] <;> rfl) | rfl | (simp only [List.length_drop, List.length_take]; rfl)) ?_; (with_reducible refine (waggonerref01_Unpack.calls (⟨#[119, 104, 104, 113]⟩ : ByteArray) (fun k_ => k_ < w.heap.size) _ _ (l0.take 16) t224 t227 _ ?side1 A6.out).mono ?_); (case side1 => exact Kd.V_mk HC223.out (Kd.F_below (Kd.C_F (Kd.heap_int .u8) HR223.out) (by repeat (first | (with_reducible first | exact HB.out | apply below_alloc | apply pw_below_drewN | apply below_drew1 | refine below_set ?_ GE222.out) | exact HB.out)))); rintro e w12 ⟨v225, rfl, ho0, hb⟩; refine ⟨_, rfl, ?_⟩; have n0_ := Aside0.mk (Kd.R_lower (Kd.R_mono (ok' := fun k_ => True) ho0 (fun _ hk_ => trivial)) (below_size (by repeat (first | (with_reducible first | exact HB.out | apply below_alloc | apply pw_below_drewN | apply below_drew1 | refine below_set ?_ GE222.out) | exact HB.out)))); have n1_ := Aside0.mk (blk_below (g := gb222) (o := .cells #[.int .i64 0, .int .i64 0, .slice none 0 0] 25 (0, 0)) (by (with_reducible repeat (first | refine blk_drewN ?_ _ | refine blk_drew ?_ | refine blk_alloc ?_ _)); exact BK222.out) hb); have n2_ := Aside0.mk (below_step (by repeat (first | (with_reducible first | exact HB.out | apply below_alloc | apply pw_below_drewN | apply below_drew1 | refine below_set ?_ GE222.out) | exact HB.out)) hb); clear BK222; clear HB; have HO226 := n0_; have BK222 := n1_; have HB := n2_; clear n0_ n1_ n2_; (try clear hb); (try clear hb2); (try clear hk); (try clear hi); (try clear ho0); obtain ⟨Ao13, co13, eo13⟩ := Kd.R_slice HO226.out; subst eo13; have p228 : 0 ≤ (2 : Int) := (by omega); have q228 : 2 < (t224.length : Int) := of_decide_eq_true (by first | (with_reducible assumption) | assumption); obtain ⟨ad228, e228, hx228_0⟩ := Kd.at_int (Kd.R_reads' HO226.out).2.2 2 p228 q228; cases e228; (try simp only [show (2 : Int).toNat = 2 from rfl, Nat.reduceMul, Nat.reduceEqDiff, Go.Addr.add, ↓reduceIte] at hx228_0); have qi228 : (2 < t224.length) = True := eq_true (by omega); (try rw [show ((2 : Int)).toNat = 2 from rfl] at hx228_0); replace p228 := eq_true p228; replace q228 := eq_true q228) | ((with_reducible refine gate_callee (f := 27) rfl ?_); refine goesL_ (some 25) rfl rfl Try.func27 (by kernel_rfl) rfl #[.int .i64 (wrap64 (rd t224 2))] rfl (by (try simp only [List.map_toArray, List.map_cons, List.map_nil]); first | done | rfl | (simp only [List.length_drop, List.length_take]; rfl)) ?_; (with_reducible refine (waggonerref05_Size.calls (wrap64 (rd t224 2)) t229 _ A8.out).mono ?_); rintro e w' ⟨rfl, ⟨nd, rfl⟩⟩; refine ⟨_, rfl, ?_⟩))
    (try simp only [Act.put, Kx.sb, Kx.sz, Kx.ss])
    go_cut [39] (fun v39 wc => ∃ (kq : Nat) (x39_8 : Bool), v39 = .bool x39_8 ∧ Aside0 (waggonerref05_Read_p.j0 kq l0 t224 t229 x39_8 = some (r1, r2, r3, r4, r5)) ∧ Aside0 (kq ≤ k) ∧ Aside0 (Kd.R (Kd.int .u64) 68 wc w.heap.size (fun _ => True) (.slice (some ad228) t224.length co13) t224) ∧ Aside0 (wc.heap[gb222]? = some (.cells #[.int .i64 0, .int .i64 0, (.slice none 0 0)] 25 (0, 0))) ∧ Aside0 (Below w.heap.size w wc))
    case first =>
     have H := HC9.out
     clear HC9
     by_cases c14 : t229 = 0
     ·rw [if_pos c14] at H
      have c14b0 : (t229 == 0) = true := beq_iff_eq.mpr c14
      have c14b1 : (t229 != 0) = false := bne_eq_false_iff_eq.mpr c14
      clear c14
      (first | rw [c14b0] | (simp only [i64_w, i32_w]; rw [c14b0]) | skip)
      have H' := Aside0.mk H
      clear H
      go_wp2
      go_meet
      case rel => exact ⟨_, (true), (by first | rfl | (simp; done) | (simp [*]; done)), H', ⟨by first | omega | exact Nat.le_refl _⟩, ⟨by (with_reducible repeat (first | apply Kd.R_alloc | apply Kd.R_drewN | apply Kd.R_drew)); exact HO226.out⟩, ⟨by (with_reducible repeat (first | refine blk_drewN ?_ _ | refine blk_drew ?_ | refine blk_alloc ?_ _)); exact BK222.out⟩, ⟨by repeat (first | (with_reducible first | exact HB.out | apply below_alloc | apply pw_below_drewN | apply below_drew1 | refine below_set ?_ GE222.out) | exact HB.out)⟩⟩
     ·rw [if_neg c14] at H
      have c14b0 : (t229 == 0) = false := beq_eq_false_iff_ne.mpr c14
      have c14b1 : (t229 != 0) = true := bne_iff_ne.mpr c14
      (first | rw [c14b0] | (simp only [i64_w, i32_w]; rw [c14b0]) | skip)
      by_cases c15 : (l0.length : Int) < t229
      ·rw [if_pos c15] at H
       have c15b0 : decide ((l0.length : Int) < t229) = true := decide_eq_true c15
       clear c15
       have H' := Aside0.mk H
       clear H
       go_wp2
       go_meet
       case rel => exact ⟨_, (true), (by first | rfl | (simp; done) | (simp [*]; done)), H', ⟨by first | omega | exact Nat.le_refl _⟩, ⟨by (with_reducible repeat (first | apply Kd.R_alloc | apply Kd.R_drewN | apply Kd.R_drew)); exact HO226.out⟩, ⟨by (with_reducible repeat (first | refine blk_drewN ?_ _ | refine blk_drew ?_ | refine blk_alloc ?_ _)); exact BK222.out⟩, ⟨by repeat (first | (with_reducible first | exact HB.out | apply below_alloc | apply pw_below_drewN | apply below_drew1 | refine below_set ?_ GE222.out) | exact HB.out)⟩⟩
      ·rw [if_neg c15] at H
       have c15b0 : decide ((l0.length : Int) < t229) = false := decide_eq_false c15
       clear c15
       by_cases c16 : 3 < (t224.length : Int)
       ·rw [if_pos c16] at H
        have c16b0 : decide (3 < (t224.length : Int)) = true := decide_eq_true c16
        have c16b1 : decide (3 < t224.length) = true := decide_eq_true (by omega)
        clear c16
        have H' := Aside0.mk H
        clear H
        have p230 : 0 ≤ (3 : Int) := (by omega)
        have q230 : 3 < (t224.length : Int) := of_decide_eq_true (by first | (with_reducible assumption) | assumption)
        obtain ⟨ad230, e230, hx230_0⟩ := Kd.at_int (Kd.R_reads' HO226.out).2.2 3 p230 q230
        obtain rfl : ad228 = ad230 := (by injection e230)
        (try simp only [show (3 : Int).toNat = 3 from rfl, Nat.reduceMul, Nat.reduceEqDiff, Go.Addr.add, ↓reduceIte] at hx230_0)
        have qi230 : (3 < t224.length) = True := eq_true (by omega)
        (try rw [show ((3 : Int)).toNat = 3 from rfl] at hx230_0)
        replace p230 := eq_true p230
        replace q230 := eq_true q230
        go_wp2
        go_meet
        case rel => exact ⟨_, (decide ((rd t224 3) ≥ 4611686018427387904)), (by first | rfl | (simp; done) | (simp [*]; done)), H', ⟨by first | omega | exact Nat.le_refl _⟩, ⟨by (with_reducible repeat (first | apply Kd.R_alloc | apply Kd.R_drewN | apply Kd.R_drew)); exact HO226.out⟩, ⟨by (with_reducible repeat (first | refine blk_drewN ?_ _ | refine blk_drew ?_ | refine blk_alloc ?_ _)); exact BK222.out⟩, ⟨by repeat (first | (with_reducible first | exact HB.out | apply below_alloc | apply pw_below_drewN | apply below_drew1 | refine below_set ?_ GE222.out) | exact HB.out)⟩⟩
       ·rw [if_neg c16] at H
        exact absurd H (by simp)
    case rest =>
     clear HC9
     try clear c1
     try clear c2
     try clear c2b0
     try clear c2b1
     try clear p2
     try clear q2
     try clear hx2
     try clear qi2
     try clear c5
     try clear c5b0
     try clear c5b1
     try clear p6
     try clear c7
     try clear c7b0
     try clear c7b1
     try clear c14
     try clear c14b0
     try clear c14b1
     try clear c15
     try clear c15b0
     try clear c16
     try clear c16b0
     try clear c16b1
     try clear hcz4_0
     try clear hcz4_1
     try clear hcz4_2
     try clear hfz4_0
     try clear hfz4_1
     try clear hfz4_2
     try clear hx228_0
     try clear hx230_0
     try clear p228
     try clear p230
     try clear q228
     try clear q230
     obtain ⟨kq, x39_8, rfl, HA, HJ8, HO_5, BK222, HB⟩ := hcut
     cases kq with
     | zero => exact absurd HA.out (by simp [waggonerref05_Read_p.j0])
     | succ kj8 =>
      have H := HA.out
      clear HA
      simp only [waggonerref05_Read_p.j0] at H
      by_cases c17 : x39_8 = true
      ·subst c17
       have H1 : (some (0, 0, ([] : List Int), 0, 50)) = some (r1, r2, r3, r4, r5) := by rw [if_pos rfl] at H <;> exact H
       clear H
       have H := H1
       clear H1
       simp only [Option.some.injEq, Prod.mk.injEq] at H
       obtain ⟨rfl, rfl, rfl, rfl, rfl⟩ := H
       have hcz18_0 : wc.cell? ⟨gb222, 0, none⟩ = some (.int .i64 0) := (blk_cell BK222.out 0).trans rfl
       have hcz18_1 : wc.cell? ⟨gb222, 1, none⟩ = some (.int .i64 0) := (blk_cell BK222.out 1).trans rfl
       have hcz18_2 : wc.cell? ⟨gb222, 2, none⟩ = some (.slice none 0 0) := (blk_cell BK222.out 2).trans rfl
       have hfz18_0 := blk_frozen BK222.out 0
       have hfz18_1 := blk_frozen BK222.out 1
       have hfz18_2 := blk_frozen BK222.out 2
       go_wp2
       refine bodyPost_ret (results_ctt rfl _ _ gb222 25 #[.int .i64 0, .int .i64 0, .slice none 0 0] (0, 0) _ rfl (by (with_reducible repeat (first | refine blk_drewN ?_ _ | refine blk_drew ?_ | refine blk_alloc ?_ _)); refine blk_put (cs := #[.int .i64 0, .int .i64 0, .slice none 0 0]) ?_ 2 _ rfl; (with_reducible repeat (first | refine blk_drewN ?_ _ | refine blk_drew ?_ | refine blk_alloc ?_ _)); refine blk_put (cs := #[.int .i64 0, .int .i64 0, .slice none 0 0]) ?_ 1 _ rfl; (with_reducible repeat (first | refine blk_drewN ?_ _ | refine blk_drew ?_ | refine blk_alloc ?_ _)); refine blk_put (cs := #[.int .i64 0, .int .i64 0, .slice none 0 0]) ?_ 0 _ rfl; (with_reducible repeat (first | refine blk_drewN ?_ _ | refine blk_drew ?_ | refine blk_alloc ?_ _)); exact BK222.out) Try.underlying25 rfl (by kernel_rfl)) rfl ?_
       exact ⟨_, by first | rfl | (simp [errW_none, errW_some] <;> rfl) | (simp [*, errW_none, errW_some] <;> rfl), by first | exact Kd.R_nil _ _ _ _ _ | exact Kd.N_nil _ _ _ _ _ | exact Kd.V_nil _ _ _ _ _ | exact Kd.Q_nil _ _ _ _ _ | exact Kd.S_nil _ _ _ _ _, by repeat (first | (with_reducible first | exact HB.out | apply below_alloc | apply pw_below_drewN | apply below_drew1 | refine below_set ?_ GE222.out) | exact HB.out)⟩
      ·replace c17 := Bool.eq_false_iff.mpr c17
       subst c17
       have H1 : (if 1 < (t224.length : Int) then (if 3 < (t224.length : Int) then ((some (([] : List Int) : List Int)).bind fun y233 => (if 16 ≤ (wrap64 (t229 - 4)) then (if (wrap64 (t229 - 4)) ≤ (l0.length : Int) then (if y233.length + ((l0.take ((wrap64 (t229 - 4)) : Int).toNat).drop 16).length < 140737488355328 then ((some (y233 ++ ((l0.take ((wrap64 (t229 - 4)) : Int).toNat).drop 16) : List Int)).bind fun y237 => ((waggonerref05_Write.f (wrap64 (rd t224 1)) (wrap64 (rd t224 3)) y237).bind fun bt241 => (if bt241.2 = 0 then (if 0 ≤ t229 then (if t229 ≤ (l0.length : Int) then (if (strOfNums bt241.1).toList = (strOfNums (l0.take (t229 : Int).toNat)).toList then (some (wrap64 (rd t224 1), wrap64 (rd t224 3), y237, t229, 0)) else (some (0, 0, ([] : List Int), 0, 50))) else (none)) else (none)) else (some (0, 0, ([] : List Int), 0, 50))))) else (none)) else (none)) else (none))) else (none)) else (none)) = some (r1, r2, r3, r4, r5) := by rw [if_neg (show ¬ (false = true) by decide)] at H <;> exact H
       clear H
       have H := H1
       clear H1
       by_cases c19 : 1 < (t224.length : Int)
       ·rw [if_pos c19] at H
        have c19b0 : decide (1 < (t224.length : Int)) = true := decide_eq_true c19
        have c19b1 : decide (1 < t224.length) = true := decide_eq_true (by omega)
        clear c19
        by_cases c20 : 3 < (t224.length : Int)
        ·rw [if_pos c20] at H
         have c20b0 : decide (3 < (t224.length : Int)) = true := decide_eq_true c20
         have c20b1 : decide (3 < t224.length) = true := decide_eq_true (by omega)
         clear c20
         obtain ⟨y233, hy233⟩ : ∃ y_ : List Int, y_ = (([] : List Int)) := ⟨_, rfl⟩
         replace H : (if 16 ≤ (wrap64 (t229 - 4)) then (if (wrap64 (t229 - 4)) ≤ (l0.length : Int) then (if y233.length + ((l0.take ((wrap64 (t229 - 4)) : Int).toNat).drop 16).length < 140737488355328 then ((some (y233 ++ ((l0.take ((wrap64 (t229 - 4)) : Int).toNat).drop 16) : List Int)).bind fun y237 => ((waggonerref05_Write.f (wrap64 (rd t224 1)) (wrap64 (rd t224 3)) y237).bind fun bt241 => (if bt241.2 = 0 then (if 0 ≤ t229 then (if t229 ≤ (l0.length : Int) then (if (strOfNums bt241.1).toList = (strOfNums (l0.take (t229 : Int).toNat)).toList then (some (wrap64 (rd t224 1), wrap64 (rd t224 3), y237, t229, 0)) else (some (0, 0, ([] : List Int), 0, 50))) else (none)) else (none)) else (some (0, 0, ([] : List Int), 0, 50))))) else (none)) else (none)) else (none)) = some (r1, r2, r3, r4, r5) := by first | (rw [hy233]; with_reducible exact H) | (have H2_ := (Option.bind_some _ _).symm.trans H; rw [hy233]; with_reducible exact H2_) | (have H2_ := (Option.bind_some _ _).symm.trans H; with_reducible exact H2_) | with_reducible exact H | (rw [hy233]; exact H) | exact H
         have Ny233 := Aside0.mk hy233
         clear hy233
         by_cases c21 : 16 ≤ (wrap64 (t229 - 4))
         ·rw [if_pos c21] at H
          have c21b0 := eq_true c21
          have c21b1 : decide (16 ≤ (wrap64 (t229 - 4))) = true := decide_eq_true c21
          clear c21
          by_cases c22 : (wrap64 (t229 - 4)) ≤ (l0.length : Int)
          ·rw [if_pos c22] at H
           have c22b0 := eq_true c22
           have c22b1 : decide ((wrap64 (t229 - 4)) ≤ (l0.length : Int)) = true := decide_eq_true c22
           clear c22
           by_cases c23 : y233.length + ((l0.take ((wrap64 (t229 - 4)) : Int).toNat).drop 16).length < 140737488355328
           ·rw [if_pos c23] at H
            have LMc23 := Aside0.mk c23
            clear c23
            obtain ⟨y237, hy237⟩ : ∃ y_ : List Int, y_ = (y233 ++ ((l0.take ((wrap64 (t229 - 4)) : Int).toNat).drop 16)) := ⟨_, rfl⟩
            replace H : ((waggonerref05_Write.f (wrap64 (rd t224 1)) (wrap64 (rd t224 3)) y237).bind fun bt241 => (if bt241.2 = 0 then (if 0 ≤ t229 then (if t229 ≤ (l0.length : Int) then (if (strOfNums bt241.1).toList = (strOfNums (l0.take (t229 : Int).toNat)).toList then (some (wrap64 (rd t224 1), wrap64 (rd t224 3), y237, t229, 0)) else (some (0, 0, ([] : List Int), 0, 50))) else (none)) else (none)) else (some (0, 0, ([] : List Int), 0, 50)))) = some (r1, r2, r3, r4, r5) := by first | (rw [hy237]; with_reducible exact H) | (have H2_ := (Option.bind_some _ _).symm.trans H; rw [hy237]; with_reducible exact H2_) | (have H2_ := (Option.bind_some _ _).symm.trans H; with_reducible exact H2_) | with_reducible exact H | (rw [hy237]; exact H) | exact H
            have Ny237 := Aside0.mk hy237
            clear hy237
            replace H := Option.bind_eq_some_iff.mp H
            obtain ⟨⟨t241, t244⟩, A240, H⟩ := H
            replace H : (if t244 = 0 then (if 0 ≤ t229 then (if t229 ≤ (l0.length : Int) then (if (strOfNums t241).toList = (strOfNums (l0.take (t229 : Int).toNat)).toList then (some (wrap64 (rd t224 1), wrap64 (rd t224 3), y237, t229, 0)) else (some (0, 0, ([] : List Int), 0, 50))) else (none)) else (none)) else (some (0, 0, ([] : List Int), 0, 50))) = some (r1, r2, r3, r4, r5) := H
            have A24 := Aside0.mk A240
            clear A240
            by_cases c25 : t244 = 0
            ·rw [if_pos c25] at H
             have c25b0 : (t244 == 0) = true := beq_iff_eq.mpr c25
             have c25b1 : (t244 != 0) = false := bne_eq_false_iff_eq.mpr c25
             clear c25
             by_cases c26 : 0 ≤ t229
             ·rw [if_pos c26] at H
              have c26b0 := eq_true c26
              have c26b1 : decide (0 ≤ t229) = true := decide_eq_true c26
              clear c26
              by_cases c27 : t229 ≤ (l0.length : Int)
              ·rw [if_pos c27] at H
               have c27b0 := eq_true c27
               have c27b1 : decide (t229 ≤ (l0.length : Int)) = true := decide_eq_true c27
               clear c27
               by_cases c28 : (strOfNums t241).toList = (strOfNums (l0.take (t229 : Int).toNat)).toList
               ·rw [if_pos c28] at H
                have c28b0 : ((strOfNums t241).toList == (strOfNums (l0.take (t229 : Int).toNat)).toList) = true := beq_iff_eq.mpr c28
                have c28b1 : ((strOfNums t241).toList != (strOfNums (l0.take (t229 : Int).toNat)).toList) = false := bne_eq_false_iff_eq.mpr c28
                clear c28
                simp only [Option.some.injEq, Prod.mk.injEq] at H
                obtain ⟨rfl, rfl, rfl, rfl, rfl⟩ := H
                try go_wp2
                have n0_ := Aside0.mk (Kd.R_drew HO_5.out)
                have n1_ := Aside0.mk (blk_drew BK222.out)
                have n2_ := Aside0.mk (below_drew1 HB.out)
                clear HO_5
                clear BK222
                clear HB
                have HO_5 := n0_
                have BK222 := n1_
                have HB := n2_
                clear n0_ n1_ n2_
                have p231 : 0 ≤ (1 : Int) := (by omega)
                have q231 : 1 < (t224.length : Int) := of_decide_eq_true (by first | (with_reducible assumption) | assumption)
                obtain ⟨ad231, e231, hx231_0⟩ := Kd.at_int (Kd.R_reads' HO_5.out).2.2 1 p231 q231
                obtain rfl : ad228 = ad231 := (by injection e231)
                (try simp only [show (1 : Int).toNat = 1 from rfl, Nat.reduceMul, Nat.reduceEqDiff, Go.Addr.add, ↓reduceIte] at hx231_0)
                have qi231 : (1 < t224.length) = True := eq_true (by omega)
                (try rw [show ((1 : Int)).toNat = 1 from rfl] at hx231_0)
                replace p231 := eq_true p231
                replace q231 := eq_true q231
                have p232 : 0 ≤ (3 : Int) := (by omega)
                have q232 : 3 < (t224.length : Int) := of_decide_eq_true (by first | (with_reducible assumption) | assumption)
                obtain ⟨ad232, e232, hx232_0⟩ := Kd.at_int (Kd.R_reads' HO_5.out).2.2 3 p232 q232
                obtain rfl : ad228 = ad232 := (by injection e232)
                (try simp only [show (3 : Int).toNat = 3 from rfl, Nat.reduceMul, Nat.reduceEqDiff, Go.Addr.add, ↓reduceIte] at hx232_0)
                have qi232 : (3 < t224.length) = True := eq_true (by omega)
                (try rw [show ((3 : Int)).toNat = 3 from rfl] at hx232_0)
                replace p232 := eq_true p232
                replace q232 := eq_true q232
                obtain ⟨i030, hi030, _, hsz30, _⟩ := info_parts info5
                obtain ⟨A30, hcut30, hA30, hC30⟩ := print_mid_of (P := Try.prog) (Value.int .u8) 0 23 5 .i64 .i64 Try.underlying23 hi030 hsz30 A0 c0 l0 16 (wrap64 (t229 - 4)) (by omega) (by first | omega | exact of_decide_eq_true (by first | (with_reducible assumption) | assumption)) (of_decide_eq_true (by first | (with_reducible assumption) | assumption)) HC0.out
                have HR236 := Aside0.mk (Kd.C_of_reads (h1 := fun _ => rfl) (hA30 _ (Kd.reads_of_C HR0.out)))
                have HC236 := Aside0.mk hC30
                clear hA30 hC30 hi030 hsz30
                refine start_ (n := 17) (S := fun w' => w'.cell? ⟨ad228.block, ad228.off + 1, none⟩ = some (.int .u64 (rd t224 1)) ∧ w'.cell? ⟨ad228.block, ad228.off + 3, none⟩ = some (.int .u64 (rd t224 3))) (ds := [16]) #[false, false, false, false, false, false, false, false, false, false, false, false, false, false, false, false, false] (by kernel_rfl) rfl rfl ⟨hx231_0, hx232_0⟩ (fun hHeld => ?_); refine with_tabW waggonerref05_Read_p.tab7 waggonerref05_Read_p.bits7 (fun HT_ HW_ => ?_)
                generalize wc.drew = w29 at HO_5 BK222 HB HR236 hx231_0 hx232_0 hHeld ⊢
                refine pure_ (i := 0) (N := some 41) (v := ?_) (a' := ?_) #[true, false, false, false, false, false, false, false, false, false, false, false, false, false, false, false, false] rfl rfl (any_of HT_.out (by kernel_rfl)) (fun _ _ _ h => h) (Or.inl ⟨by rfl, ?_⟩) ?_ ?_
                rotate_left
                ·intro w'
                 go_simp
                 with_reducible rfl
                rotate_left
                ·simp only [Act.put, Kx.sb, Kx.sz, Kx.ss, i64_w, i32_w]
                 rfl
                refine pure_ (i := 1) (N := some 42) (v := ?_) (a' := ?_) #[true, true, false, false, false, false, false, false, false, false, false, false, false, false, false, false, false] rfl rfl (any_of HT_.out (by kernel_rfl)) (fun _ _ _ h => h) (Or.inl ⟨by rfl, ?_⟩) ?_ ?_
                rotate_left
                ·intro w'
                 go_simp
                 with_reducible rfl
                rotate_left
                ·simp only [Act.put, Kx.sb, Kx.sz, Kx.ss, i64_w, i32_w]
                 rfl
                refine pure_ (i := 4) (N := some 45) (v := ?_) (a' := ?_) #[true, true, false, false, true, false, false, false, false, false, false, false, false, false, false, false, false] rfl rfl (any_of HT_.out (by kernel_rfl)) (fun _ _ _ h => h) (Or.inl ⟨by rfl, ?_⟩) ?_ ?_
                rotate_left
                ·intro w'
                 go_simp
                 with_reducible rfl
                rotate_left
                ·simp only [Act.put, Kx.sb, Kx.sz, Kx.ss, i64_w, i32_w]
                 rfl
                refine pure_ (i := 5) (N := some 46) (v := ?_) (a' := ?_) #[true, true, false, false, true, true, false, false, false, false, false, false, false, false, false, false, false] rfl rfl (any_of HT_.out (by kernel_rfl)) (fun _ _ _ h => h) (Or.inl ⟨by rfl, ?_⟩) ?_ ?_
                rotate_left
                ·intro w'
                 go_simp
                 with_reducible rfl
                rotate_left
                ·simp only [Act.put, Kx.sb, Kx.sz, Kx.ss, i64_w, i32_w]
                 rfl
                refine pure_ (i := 9) (N := some 50) (v := ?_) (a' := ?_) #[true, true, false, false, true, true, false, false, false, true, false, false, false, false, false, false, false] rfl rfl (any_of HT_.out (by kernel_rfl)) (fun _ _ _ h => h) (Or.inl ⟨by rfl, ?_⟩) ?_ ?_
                rotate_left
                ·intro w'
                 go_simp
                 with_reducible rfl
                rotate_left
                ·simp only [Act.put, Kx.sb, Kx.sz, Kx.ss, i64_w, i32_w]
                 rfl
                refine pure_ (i := 10) (N := some 51) (v := ?_) (a' := ?_) #[true, true, false, false, true, true, false, false, false, true, true, false, false, false, false, false, false] rfl rfl (any_of HT_.out (by kernel_rfl)) (fun _ _ _ h => h) (Or.inl ⟨by rfl, ?_⟩) ?_ ?_
                rotate_left
                ·intro w'
                 go_simp
                 with_reducible rfl
                rotate_left
                ·simp only [Act.put, Kx.sb, Kx.sz, Kx.ss, i64_w, i32_w]
                 rfl
                refine pure_ (i := 11) (N := some 52) (v := ?_) (a' := ?_) #[true, true, false, false, true, true, false, false, false, true, true, true, false, false, false, false, false] rfl rfl (any_of HT_.out (by kernel_rfl)) (fun _ _ _ h => h) (Or.inl ⟨by rfl, ?_⟩) ?_ ?_
                rotate_left
                ·intro w'
                 go_simp
                 with_reducible rfl
                rotate_left
                ·simp only [Act.put, Kx.sb, Kx.sz, Kx.ss, i64_w, i32_w]
                 rfl
                refine pure_ (i := 12) (N := some 53) (v := ?_) (a' := ?_) #[true, true, false, false, true, true, false, false, false, true, true, true, true, false, false, false, false] rfl rfl (any_of HT_.out (by kernel_rfl)) (fun _ _ _ h => h) (Or.inl ⟨by rfl, ?_⟩) ?_ ?_
                rotate_left
                ·intro w'
                 go_simp
                 with_reducible rfl
                rotate_left
                ·simp only [Act.put, Kx.sb, Kx.sz, Kx.ss, i64_w, i32_w]
                 rfl
                refine take_ (i := 2) (N := some 43) (v := ?_) (a' := ?_) #[true, true, true, false, true, true, false, false, false, true, true, true, true, false, false, false, false] rfl rfl (take_ofW HT_.out HW_.out (by kernel_rfl)) (fun _ _ _ h => h) (Or.inl ⟨by rfl, ?_⟩) hHeld ?_ ?_
                rotate_left
                ·rintro w' ⟨s0, s1⟩
                 go_simp
                 with_reducible rfl
                rotate_left
                ·simp only [Act.put, Kx.sb, Kx.sz, Kx.ss, i64_w, i32_w]
                 rfl
                refine pure_ (i := 3) (N := some 44) (v := ?_) (a' := ?_) #[true, true, true, true, true, true, false, false, false, true, true, true, true, false, false, false, false] rfl rfl (any_of HT_.out (by kernel_rfl)) (fun _ _ _ h => h) (Or.inl ⟨by rfl, ?_⟩) ?_ ?_
                rotate_left
                ·intro w'
                 go_simp
                 with_reducible rfl
                rotate_left
                ·simp only [Act.put, Kx.sb, Kx.sz, Kx.ss, i64_w, i32_w]
                 rfl
                refine take_ (i := 6) (N := some 47) (v := ?_) (a' := ?_) #[true, true, true, true, true, true, true, false, false, true, true, true, true, false, false, false, false] rfl rfl (take_ofW HT_.out HW_.out (by kernel_rfl)) (fun _ _ _ h => h) (Or.inl ⟨by rfl, ?_⟩) hHeld ?_ ?_
                rotate_left
                ·rintro w' ⟨s0, s1⟩
                 go_simp
                 with_reducible rfl
                rotate_left
                ·simp only [Act.put, Kx.sb, Kx.sz, Kx.ss, i64_w, i32_w]
                 rfl
                refine pure_ (i := 7) (N := some 48) (v := ?_) (a' := ?_) #[true, true, true, true, true, true, true, true, false, true, true, true, true, false, false, false, false] rfl rfl (any_of HT_.out (by kernel_rfl)) (fun _ _ _ h => h) (Or.inl ⟨by rfl, ?_⟩) ?_ ?_
                rotate_left
                ·intro w'
                 go_simp
                 with_reducible rfl
                rotate_left
                ·simp only [Act.put, Kx.sb, Kx.sz, Kx.ss, i64_w, i32_w]
                 rfl
                refine join_ (σ := Value × Value × Nat) 1 #[true, true, true, true, true, true, true, true, true, true, true, true, true, true, true, true, false] (fun s_ => [(49, s_.1), (54, s_.2.1), (8, .pointer (some ⟨s_.2.2, 0, none⟩)), (55, .agg #[.int .i64 (wrap64 (rd t224 1)), .int .i64 (wrap64 (rd t224 3)), s_.2.1])]) (fun s_ w' => (w'.cell? ⟨ad228.block, ad228.off + 1, none⟩ = some (.int .u64 (rd t224 1)) ∧ w'.cell? ⟨ad228.block, ad228.off + 3, none⟩ = some (.int .u64 (rd t224 3))) ∧ (Kd.R (Kd.int .u8) 5 w' w.heap.size (fun _ => True) s_.2.1 y237) ∧ (Kd.R (Kd.int .u64) 68 w' w.heap.size (fun _ => True) (.slice (some ad228) t224.length co13) t224) ∧ (w'.heap[gb222]? = some (.cells #[.int .i64 0, .int .i64 0, .slice none 0 0] 25 (0, 0))) ∧ (w'.heap[s_.2.2]? = some (.cells #[.int .i64 0, .int .i64 0, .slice none 0 0] 25 (0, 0))) ∧ (w.heap.size ≤ s_.2.2) ∧ (w.heap.size ≤ s_.2.2) ∧ (gb222 ≠ s_.2.2) ∧ (s_.2.2 ≠ gb222) ∧ (Below w.heap.size w w')) ?_ ?_
                rotate_left
                ·intro hCont
                 refine two_ (i := 8) (j := 15) (Ni := some 49) (Nj := some 8) #[true, true, true, true, true, true, true, true, true, true, true, true, true, false, false, false, false] #[true, true, true, true, true, true, true, true, false, true, true, true, true, false, false, true, false] rfl rfl rfl rfl (two_of HT_.out (by kernel_rfl)) (by decide) (by decide) (fun K hK => ?_) (fun K hK => ?_)
                 ·skip
                  refine Kd.R_lit_step (Kd.int .u8) _ 5 ?hg (N := 49) ?hd (xs := ([] : List Int)) (inner := []) (ok := fun _ => True) (okp := fun _ => True) ?hr ?hp (fun _ hk => hk) trivial (Below.refl _ _) (Nat.le_refl _) (by simp) ?_; (case hd => rfl); (case hg => rfl); (case hr => first | (go_simp; done) | (go_simp; rfl)); (case hp => exact (Reps.none _ _))
                  intro v234 w31 ho32 hb hg_ hnew_
                  have HS0_ := (hb.cell (World.block_lt_of_cell? _ _ (hHeld.1))).trans (hHeld.1)
                  have HS1_ := (hb.cell (World.block_lt_of_cell? _ _ (hHeld.2))).trans (hHeld.2)
                  clear hg_ hnew_
                  (first | rw [← Ny233.out] at ho32 | (simp only [Int.reduceToNat] at ho32; rw [← Ny233.out] at ho32))
                  have n0_ := Aside0.mk (Kd.R_below (by (with_reducible repeat (first | apply Kd.R_alloc | apply Kd.R_drewN | apply Kd.R_drew)); exact HO_5.out) hb)
                  have n1_ := Aside0.mk (Kd.R_lower ho32 (below_size (by repeat (first | (with_reducible first | exact HB.out | apply below_alloc | apply pw_below_drewN | apply below_drew1 | refine below_set ?_ GE222.out) | exact HB.out))))
                  have n2_ := Aside0.mk (blk_below (g := gb222) (o := .cells #[.int .i64 0, .int .i64 0, .slice none 0 0] 25 (0, 0)) (by (with_reducible repeat (first | refine blk_drewN ?_ _ | refine blk_drew ?_ | refine blk_alloc ?_ _)); exact BK222.out) hb)
                  have n3_ := Aside0.mk (below_step (by repeat (first | (with_reducible first | exact HB.out | apply below_alloc | apply pw_below_drewN | apply below_drew1 | refine below_set ?_ GE222.out) | exact HB.out)) hb)
                  clear HO_5
                  clear BK222
                  clear HB
                  have HO_5 := n0_
                  have HO235 := n1_
                  have BK222 := n2_
                  have HB := n3_
                  clear n0_ n1_ n2_ n3_
                  clear hb ho32
                  refine hK.out _ _ ⟨HS0_, HS1_⟩ (fun hHeld => ?_)
                  clear hK K
                  refine norm_ (a' := ?_) ?_ ?_
                  rotate_left
                  ·show Act.put _ (some 49) _ = _
                   simp only [Act.put, Kx.sb, Kx.sz, Kx.ss, i64_w, i32_w]
                   rfl
                  refine two_ (i := 13) (j := 15) (Ni := some 54) (Nj := some 8) #[true, true, true, true, true, true, true, true, true, true, true, true, true, true, false, false, false] #[true, true, true, true, true, true, true, true, true, true, true, true, true, false, false, true, false] rfl rfl rfl rfl (two_of HT_.out (by kernel_rfl)) (by decide) (by decide) (fun K hK => ?_) (fun K hK => ?_)
                  ·skip
                   refine Kd.R_append_rows_step (Kd.int .u8) (w0 := w) w.heap.size (by rfl) (.tmp 49) (.tmp 53) 23 5 (.int .u8 0) 1 rfl Try.underlying23 info5 rfl (by decide) (by omega) v234 y233 ((l0.take ((wrap64 (t229 - 4)) : Int).toNat).drop 16) _ _ _ (fun _ => True) (fun _ => False) rfl rfl ?aO ?aR (fun _ _ h => h) (fun _ h => h.elim) ?aF ?aB ?aS ?aL ?_
                   (case aR => first | (rw [← show ((l0.take ((wrap64 (t229 - 4)) : Int).toNat).drop 16).length = ((wrap64 (t229 - 4)).toNat - 16) from (by rw [List.length_drop, List.length_take]; have h_ : ((wrap64 (t229 - 4)) : Int) ≤ (l0.length : Int) := of_decide_eq_true (by first | (with_reducible assumption) | assumption); omega)]; repeat (first | exact (Kd.C_below HR236.out HB.out) | (with_reducible refine Kd.C_alloc ?_ _) | (with_reducible refine Kd.C_drewN ?_ _) | (with_reducible refine Kd.C_drew ?_))) | (repeat (first | exact (Kd.C_below HR236.out HB.out) | (with_reducible refine Kd.C_alloc ?_ _) | (with_reducible refine Kd.C_drewN ?_ _) | (with_reducible refine Kd.C_drew ?_))))
                   (case aB => exact (by repeat (first | (with_reducible first | exact HB.out | apply below_alloc | apply pw_below_drewN | apply below_drew1 | refine below_set ?_ GE222.out) | exact HB.out)))
                   (case aF => exact (fun _ _ => trivial))
                   (case aO => exact (by (with_reducible repeat (first | apply Kd.R_alloc | apply Kd.R_drewN | apply Kd.R_drew)); exact HO235.out))
                   (case aS => exact (below_size (by repeat (first | (with_reducible first | exact HB.out | apply below_alloc | apply pw_below_drewN | apply below_drew1 | refine below_set ?_ GE222.out) | exact HB.out))))
                   (case aL => have := LMc23.out; have hlx_ := (show ((l0.take ((wrap64 (t229 - 4)) : Int).toNat).drop 16).length = ((wrap64 (t229 - 4)).toNat - 16) from (by rw [List.length_drop, List.length_take]; have h_ : ((wrap64 (t229 - 4)) : Int) ≤ (l0.length : Int) := of_decide_eq_true (by first | (with_reducible assumption) | assumption); omega)); omega)
                   intro v238 w33 ho hb hg hat
                   have HN0_ := Go.Proofs.Ytcemlfkboifncaa.Kx.R_blk_ne HO_5.out HO235.out (by decide)
                   have HS0_ := cell_grown hg (hHeld.1) (by first | (rw [add_block]; exact HN0_) | (show some (Addr.add _ _).block ≠ _; rw [add_block]; exact HN0_) | exact HN0_)
                   have HN1_ := Go.Proofs.Ytcemlfkboifncaa.Kx.R_blk_ne HO_5.out HO235.out (by decide)
                   have HS1_ := cell_grown hg (hHeld.2) (by first | (rw [add_block]; exact HN1_) | (show some (Addr.add _ _).block ≠ _; rw [add_block]; exact HN1_) | exact HN1_)
                   rw [← Ny237.out] at ho
                   have n0_ := Aside0.mk (Kd.R_over' (by (with_reducible repeat (first | apply Kd.R_alloc | apply Kd.R_drewN | apply Kd.R_drew)); exact HO_5.out) (Kd.R_typed (by (with_reducible repeat (first | apply Kd.R_alloc | apply Kd.R_drewN | apply Kd.R_drew)); exact HO235.out)) (by decide) hg)
                   have n1_ := Aside0.mk (blk_grown (g := gb222) (o := .cells #[.int .i64 0, .int .i64 0, .slice none 0 0] 25 (0, 0)) (by (with_reducible repeat (first | refine blk_drewN ?_ _ | refine blk_drew ?_ | refine blk_alloc ?_ _)); exact BK222.out) hg (Kd.R_ne HO235.out BK222.out (by decide)))
                   have n2_ := Aside0.mk (hb)
                   have n3_ := Aside0.mk (ho)
                   clear HO_5
                   clear BK222
                   clear HB
                   clear HO235
                   have HO_5 := n0_
                   have BK222 := n1_
                   have HB := n2_
                   have HO239 := n3_
                   clear n0_ n1_ n2_ n3_
                   clear ho hb hg hat
                   obtain ⟨Ao34, co34, eo34⟩ := Kd.R_slice HO239.out
                   (first | subst eo34 | (injection eo34 with f1_ f2_ f3_; have f4_ := f1_.symm; have f5_ := f3_.symm; clear f1_ f2_ f3_; subst f4_; subst f5_))
                   refine hK.out _ _ ⟨HS0_, HS1_⟩ (fun hHeld => ?_)
                   clear hK K
                   refine norm_ (a' := ?_) ?_ ?_
                   rotate_left
                   ·show Act.put _ (some 54) _ = _
                    simp only [Act.put, Kx.sb, Kx.sz, Kx.ss, i64_w, i32_w]
                    rfl
                   refine pure_ (i := 14) (N := some 55) (v := ?_) (a' := ?_) #[true, true, true, true, true, true, true, true, true, true, true, true, true, true, true, false, false] rfl rfl (any_of HT_.out (by kernel_rfl)) (fun _ _ _ h => h) (Or.inl ⟨by rfl, ?_⟩) ?_ ?_
                   rotate_left
                   ·intro w'
                    go_simp
                    with_reducible rfl
                   rotate_left
                   ·simp only [Act.put, Kx.sb, Kx.sz, Kx.ss, i64_w, i32_w]
                    rfl
                   refine one_ (i := 15) (N := some 8) #[true, true, true, true, true, true, true, true, true, true, true, true, true, true, true, true, false] rfl rfl (one_of HT_.out (by kernel_rfl)) (by decide) (fun K hK => ?_)
                   refine box_step ?hg (N := 8) ?hd (cs := #[.int .i64 0, .int .i64 0, .slice none 0 0]) (t := 25) ?hr ?_; (case hd => rfl); (case hg => rfl); (case hr => first | (go_simp; done) | (go_simp; rfl))
                   intro gb240 hg w35 hbox hb
                   have HS0_ := (hb.cell (World.block_lt_of_cell? _ _ (hHeld.1))).trans (hHeld.1)
                   have HS1_ := (hb.cell (World.block_lt_of_cell? _ _ (hHeld.2))).trans (hHeld.2)
                   have n0_ := Aside0.mk (Kd.R_below (by (with_reducible repeat (first | apply Kd.R_alloc | apply Kd.R_drewN | apply Kd.R_drew)); exact HO_5.out) hb)
                   have n1_ := Aside0.mk (Kd.R_below (by (with_reducible repeat (first | apply Kd.R_alloc | apply Kd.R_drewN | apply Kd.R_drew)); exact HO239.out) hb)
                   have n2_ := Aside0.mk (blk_below (g := gb222) (o := .cells #[.int .i64 0, .int .i64 0, .slice none 0 0] 25 (0, 0)) (by (with_reducible repeat (first | refine blk_drewN ?_ _ | refine blk_drew ?_ | refine blk_alloc ?_ _)); exact BK222.out) hb)
                   have n3_ := Aside0.mk (below_step (by repeat (first | (with_reducible first | exact HB.out | apply below_alloc | apply pw_below_drewN | apply below_drew1 | refine below_set ?_ GE222.out) | exact HB.out)) hb)
                   have n4_ := Aside0.mk (hbox)
                   have n5_ := Aside0.mk ((by rw [hg]; exact (below_size (by repeat (first | (with_reducible first | exact HB.out | apply below_alloc | apply pw_below_drewN | apply below_drew1 | refine below_set ?_ GE222.out) | exact HB.out))) : w.heap.size ≤ gb240))
                   have n6_ := Aside0.mk ((by rw [hg]; exact (below_size (by repeat (first | (with_reducible first | exact HB.out | apply below_alloc | apply pw_below_drewN | apply below_drew1 | refine below_set ?_ GE222.out) | exact HB.out))) : w.heap.size ≤ gb240))
                   have n7_ := Aside0.mk ((by rw [hg]; exact Nat.ne_of_lt (blk_lt (g := gb222) (o := .cells #[.int .i64 0, .int .i64 0, .slice none 0 0] 25 (0, 0)) (by (with_reducible repeat (first | refine blk_drewN ?_ _ | refine blk_drew ?_ | refine blk_alloc ?_ _)); exact BK222.out)) : gb222 ≠ gb240))
                   have n8_ := Aside0.mk ((by rw [hg]; exact Nat.ne_of_gt (blk_lt (g := gb222) (o := .cells #[.int .i64 0, .int .i64 0, .slice none 0 0] 25 (0, 0)) (by (with_reducible repeat (first | refine blk_drewN ?_ _ | refine blk_drew ?_ | refine blk_alloc ?_ _)); exact BK222.out)) : gb240 ≠ gb222))
                   clear HO_5
                   clear HO239
                   clear BK222
                   clear HB
                   have HO_5 := n0_
                   have HO239 := n1_
                   have BK222 := n2_
                   have HB := n3_
                   have BK240 := n4_
                   have GW240 := n5_
                   have GE240 := n6_
                   have NB222_240 := n7_
                   have NB240_222 := n8_
                   clear n0_ n1_ n2_ n3_ n4_ n5_ n6_ n7_ n8_
                   clear hb hbox hg
                   refine hK.out _ _ ⟨HS0_, HS1_⟩ (fun hHeld => ?_)
                   clear hK K
                   refine norm_ (a' := ?_) ?_ ?_
                   rotate_left
                   ·show Act.put _ (some 8) _ = _
                    simp only [Act.put, Kx.sb, Kx.sz, Kx.ss, i64_w, i32_w]
                    rfl
                   exact norm_ (by simp only [putAll, Act.put, Kx.sb, Kx.sz, Kx.ss]) (hCont (v234, .slice Ao34 y237.length co34, gb240) _ ⟨hHeld, (by (with_reducible repeat (first | apply Kd.R_alloc | apply Kd.R_drewN | apply Kd.R_drew)); exact HO239.out), (by (with_reducible repeat (first | apply Kd.R_alloc | apply Kd.R_drewN | apply Kd.R_drew)); exact HO_5.out), (by (with_reducible repeat (first | refine blk_drewN ?_ _ | refine blk_drew ?_ | refine blk_alloc ?_ _)); exact BK222.out), (by (with_reducible repeat (first | refine blk_drewN ?_ _ | refine blk_drew ?_ | refine blk_alloc ?_ _)); exact BK240.out), GW240.out, GE240.out, NB222_240.out, NB240_222.out, (by repeat (first | (with_reducible first | exact HB.out | apply below_alloc | apply pw_below_drewN | apply below_drew1 | refine below_set ?_ GE222.out | refine below_set ?_ GE240.out) | exact HB.out))⟩)
                  ·skip
                   refine box_step ?hg (N := 8) ?hd (cs := #[.int .i64 0, .int .i64 0, .slice none 0 0]) (t := 25) ?hr ?_; (case hd => rfl); (case hg => rfl); (case hr => first | (go_simp; done) | (go_simp; rfl))
                   intro gb240 hg w33 hbox hb
                   have HS0_ := (hb.cell (World.block_lt_of_cell? _ _ (hHeld.1))).trans (hHeld.1)
                   have HS1_ := (hb.cell (World.block_lt_of_cell? _ _ (hHeld.2))).trans (hHeld.2)
                   have n0_ := Aside0.mk (Kd.R_below (by (with_reducible repeat (first | apply Kd.R_alloc | apply Kd.R_drewN | apply Kd.R_drew)); exact HO_5.out) hb)
                   have n1_ := Aside0.mk (Kd.R_below (by (with_reducible repeat (first | apply Kd.R_alloc | apply Kd.R_drewN | apply Kd.R_drew)); exact HO235.out) hb)
                   have n2_ := Aside0.mk (blk_below (g := gb222) (o := .cells #[.int .i64 0, .int .i64 0, .slice none 0 0] 25 (0, 0)) (by (with_reducible repeat (first | refine blk_drewN ?_ _ | refine blk_drew ?_ | refine blk_alloc ?_ _)); exact BK222.out) hb)
                   have n3_ := Aside0.mk (below_step (by repeat (first | (with_reducible first | exact HB.out | apply below_alloc | apply pw_below_drewN | apply below_drew1 | refine below_set ?_ GE222.out) | exact HB.out)) hb)
                   have n4_ := Aside0.mk (hbox)
                   have n5_ := Aside0.mk ((by rw [hg]; exact (below_size (by repeat (first | (with_reducible first | exact HB.out | apply below_alloc | apply pw_below_drewN | apply below_drew1 | refine below_set ?_ GE222.out) | exact HB.out))) : w.heap.size ≤ gb240))
                   have n6_ := Aside0.mk ((by rw [hg]; exact (below_size (by repeat (first | (with_reducible first | exact HB.out | apply below_alloc | apply pw_below_drewN | apply below_drew1 | refine below_set ?_ GE222.out) | exact HB.out))) : w.heap.size ≤ gb240))
                   have n7_ := Aside0.mk ((by rw [hg]; exact Nat.ne_of_lt (blk_lt (g := gb222) (o := .cells #[.int .i64 0, .int .i64 0, .slice none 0 0] 25 (0, 0)) (by (with_reducible repeat (first | refine blk_drewN ?_ _ | refine blk_drew ?_ | refine blk_alloc ?_ _)); exact BK222.out)) : gb222 ≠ gb240))
                   have n8_ := Aside0.mk ((by rw [hg]; exact Nat.ne_of_gt (blk_lt (g := gb222) (o := .cells #[.int .i64 0, .int .i64 0, .slice none 0 0] 25 (0, 0)) (by (with_reducible repeat (first | refine blk_drewN ?_ _ | refine blk_drew ?_ | refine blk_alloc ?_ _)); exact BK222.out)) : gb240 ≠ gb222))
                   clear HO_5
                   clear HO235
                   clear BK222
                   clear HB
                   have HO_5 := n0_
                   have HO235 := n1_
                   have BK222 := n2_
                   have HB := n3_
                   have BK240 := n4_
                   have GW240 := n5_
                   have GE240 := n6_
                   have NB222_240 := n7_
                   have NB240_222 := n8_
                   clear n0_ n1_ n2_ n3_ n4_ n5_ n6_ n7_ n8_
                   clear hb hbox hg
                   refine hK.out _ _ ⟨HS0_, HS1_⟩ (fun hHeld => ?_)
                   clear hK K
                   refine norm_ (a' := ?_) ?_ ?_
                   rotate_left
                   ·show Act.put _ (some 8) _ = _
                    simp only [Act.put, Kx.sb, Kx.sz, Kx.ss, i64_w, i32_w]
                    rfl
                   refine one_ (i := 13) (N := some 54) #[true, true, true, true, true, true, true, true, true, true, true, true, true, true, false, true, false] rfl rfl (one_of HT_.out (by kernel_rfl)) (by decide) (fun K hK => ?_)
                   refine Kd.R_append_rows_step (Kd.int .u8) (w0 := w) w.heap.size (by rfl) (.tmp 49) (.tmp 53) 23 5 (.int .u8 0) 1 rfl Try.underlying23 info5 rfl (by decide) (by omega) v234 y233 ((l0.take ((wrap64 (t229 - 4)) : Int).toNat).drop 16) _ _ _ (fun _ => True) (fun _ => False) rfl rfl ?aO ?aR (fun _ _ h => h) (fun _ h => h.elim) ?aF ?aB ?aS ?aL ?_
                   (case aR => first | (rw [← show ((l0.take ((wrap64 (t229 - 4)) : Int).toNat).drop 16).length = ((wrap64 (t229 - 4)).toNat - 16) from (by rw [List.length_drop, List.length_take]; have h_ : ((wrap64 (t229 - 4)) : Int) ≤ (l0.length : Int) := of_decide_eq_true (by first | (with_reducible assumption) | assumption); omega)]; repeat (first | exact (Kd.C_below HR236.out HB.out) | (with_reducible refine Kd.C_alloc ?_ _) | (with_reducible refine Kd.C_drewN ?_ _) | (with_reducible refine Kd.C_drew ?_))) | (repeat (first | exact (Kd.C_below HR236.out HB.out) | (with_reducible refine Kd.C_alloc ?_ _) | (with_reducible refine Kd.C_drewN ?_ _) | (with_reducible refine Kd.C_drew ?_))))
                   (case aB => exact (by repeat (first | (with_reducible first | exact HB.out | apply below_alloc | apply pw_below_drewN | apply below_drew1 | refine below_set ?_ GE222.out | refine below_set ?_ GE240.out) | exact HB.out)))
                   (case aF => exact (fun _ _ => trivial))
                   (case aO => exact (by (with_reducible repeat (first | apply Kd.R_alloc | apply Kd.R_drewN | apply Kd.R_drew)); exact HO235.out))
                   (case aS => exact (below_size (by repeat (first | (with_reducible first | exact HB.out | apply below_alloc | apply pw_below_drewN | apply below_drew1 | refine below_set ?_ GE222.out | refine below_set ?_ GE240.out) | exact HB.out))))
                   (case aL => have := LMc23.out; have hlx_ := (show ((l0.take ((wrap64 (t229 - 4)) : Int).toNat).drop 16).length = ((wrap64 (t229 - 4)).toNat - 16) from (by rw [List.length_drop, List.length_take]; have h_ : ((wrap64 (t229 - 4)) : Int) ≤ (l0.length : Int) := of_decide_eq_true (by first | (with_reducible assumption) | assumption); omega)); omega)
                   intro v238 w34 ho hb hg hat
                   have HN0_ := Go.Proofs.Ytcemlfkboifncaa.Kx.R_blk_ne HO_5.out HO235.out (by decide)
                   have HS0_ := cell_grown hg (hHeld.1) (by first | (rw [add_block]; exact HN0_) | (show some (Addr.add _ _).block ≠ _; rw [add_block]; exact HN0_) | exact HN0_)
                   have HN1_ := Go.Proofs.Ytcemlfkboifncaa.Kx.R_blk_ne HO_5.out HO235.out (by decide)
                   have HS1_ := cell_grown hg (hHeld.2) (by first | (rw [add_block]; exact HN1_) | (show some (Addr.add _ _).block ≠ _; rw [add_block]; exact HN1_) | exact HN1_)
                   rw [← Ny237.out] at ho
                   have n0_ := Aside0.mk (Kd.R_over' (by (with_reducible repeat (first | apply Kd.R_alloc | apply Kd.R_drewN | apply Kd.R_drew)); exact HO_5.out) (Kd.R_typed (by (with_reducible repeat (first | apply Kd.R_alloc | apply Kd.R_drewN | apply Kd.R_drew)); exact HO235.out)) (by decide) hg)
                   have n1_ := Aside0.mk (blk_grown (g := gb222) (o := .cells #[.int .i64 0, .int .i64 0, .slice none 0 0] 25 (0, 0)) (by (with_reducible repeat (first | refine blk_drewN ?_ _ | refine blk_drew ?_ | refine blk_alloc ?_ _)); exact BK222.out) hg (Kd.R_ne HO235.out BK222.out (by decide)))
                   have n2_ := Aside0.mk (blk_grown (g := gb240) (o := .cells #[.int .i64 0, .int .i64 0, .slice none 0 0] 25 (0, 0)) (by (with_reducible repeat (first | refine blk_drewN ?_ _ | refine blk_drew ?_ | refine blk_alloc ?_ _)); exact BK240.out) hg (Kd.R_ne HO235.out BK240.out (by decide)))
                   have n3_ := Aside0.mk (hb)
                   have n4_ := Aside0.mk (ho)
                   clear HO_5
                   clear BK222
                   clear BK240
                   clear HB
                   clear HO235
                   have HO_5 := n0_
                   have BK222 := n1_
                   have BK240 := n2_
                   have HB := n3_
                   have HO239 := n4_
                   clear n0_ n1_ n2_ n3_ n4_
                   clear ho hb hg hat
                   obtain ⟨Ao35, co35, eo35⟩ := Kd.R_slice HO239.out
                   (first | subst eo35 | (injection eo35 with f1_ f2_ f3_; have f4_ := f1_.symm; have f5_ := f3_.symm; clear f1_ f2_ f3_; subst f4_; subst f5_))
                   refine hK.out _ _ ⟨HS0_, HS1_⟩ (fun hHeld => ?_)
                   clear hK K
                   refine norm_ (a' := ?_) ?_ ?_
                   rotate_left
                   ·show Act.put _ (some 54) _ = _
                    simp only [Act.put, Kx.sb, Kx.sz, Kx.ss, i64_w, i32_w]
                    rfl
                   refine pure_ (i := 14) (N := some 55) (v := ?_) (a' := ?_) #[true, true, true, true, true, true, true, true, true, true, true, true, true, true, true, true, false] rfl rfl (any_of HT_.out (by kernel_rfl)) (fun _ _ _ h => h) (Or.inl ⟨by rfl, ?_⟩) ?_ ?_
                   rotate_left
                   ·intro w'
                    go_simp
                    with_reducible rfl
                   rotate_left
                   ·simp only [Act.put, Kx.sb, Kx.sz, Kx.ss, i64_w, i32_w]
                    rfl
                   exact norm_ (by simp only [putAll, Act.put, Kx.sb, Kx.sz, Kx.ss]) (hCont (v234, .slice Ao35 y237.length co35, gb240) _ ⟨hHeld, (by (with_reducible repeat (first | apply Kd.R_alloc | apply Kd.R_drewN | apply Kd.R_drew)); exact HO239.out), (by (with_reducible repeat (first | apply Kd.R_alloc | apply Kd.R_drewN | apply Kd.R_drew)); exact HO_5.out), (by (with_reducible repeat (first | refine blk_drewN ?_ _ | refine blk_drew ?_ | refine blk_alloc ?_ _)); exact BK222.out), (by (with_reducible repeat (first | refine blk_drewN ?_ _ | refine blk_drew ?_ | refine blk_alloc ?_ _)); exact BK240.out), GW240.out, GE240.out, NB222_240.out, NB240_222.out, (by repeat (first | (with_reducible first | exact HB.out | apply below_alloc | apply pw_below_drewN | apply below_drew1 | refine below_set ?_ GE222.out | refine below_set ?_ GE240.out) | exact HB.out))⟩)
                 ·skip
                  refine box_step ?hg (N := 8) ?hd (cs := #[.int .i64 0, .int .i64 0, .slice none 0 0]) (t := 25) ?hr ?_; (case hd => rfl); (case hg => rfl); (case hr => first | (go_simp; done) | (go_simp; rfl))
                  intro gb240 hg w31 hbox hb
                  have HS0_ := (hb.cell (World.block_lt_of_cell? _ _ (hHeld.1))).trans (hHeld.1)
                  have HS1_ := (hb.cell (World.block_lt_of_cell? _ _ (hHeld.2))).trans (hHeld.2)
                  have n0_ := Aside0.mk (Kd.R_below (by (with_reducible repeat (first | apply Kd.R_alloc | apply Kd.R_drewN | apply Kd.R_drew)); exact HO_5.out) hb)
                  have n1_ := Aside0.mk (blk_below (g := gb222) (o := .cells #[.int .i64 0, .int .i64 0, .slice none 0 0] 25 (0, 0)) (by (with_reducible repeat (first | refine blk_drewN ?_ _ | refine blk_drew ?_ | refine blk_alloc ?_ _)); exact BK222.out) hb)
                  have n2_ := Aside0.mk (below_step (by repeat (first | (with_reducible first | exact HB.out | apply below_alloc | apply pw_below_drewN | apply below_drew1 | refine below_set ?_ GE222.out) | exact HB.out)) hb)
                  have n3_ := Aside0.mk (hbox)
                  have n4_ := Aside0.mk ((by rw [hg]; exact (below_size (by repeat (first | (with_reducible first | exact HB.out | apply below_alloc | apply pw_below_drewN | apply below_drew1 | refine below_set ?_ GE222.out) | exact HB.out))) : w.heap.size ≤ gb240))
                  have n5_ := Aside0.mk ((by rw [hg]; exact (below_size (by repeat (first | (with_reducible first | exact HB.out | apply below_alloc | apply pw_below_drewN | apply below_drew1 | refine below_set ?_ GE222.out) | exact HB.out))) : w.heap.size ≤ gb240))
                  have n6_ := Aside0.mk ((by rw [hg]; exact Nat.ne_of_lt (blk_lt (g := gb222) (o := .cells #[.int .i64 0, .int .i64 0, .slice none 0 0] 25 (0, 0)) (by (with_reducible repeat (first | refine blk_drewN ?_ _ | refine blk_drew ?_ | refine blk_alloc ?_ _)); exact BK222.out)) : gb222 ≠ gb240))
                  have n7_ := Aside0.mk ((by rw [hg]; exact Nat.ne_of_gt (blk_lt (g := gb222) (o := .cells #[.int .i64 0, .int .i64 0, .slice none 0 0] 25 (0, 0)) (by (with_reducible repeat (first | refine blk_drewN ?_ _ | refine blk_drew ?_ | refine blk_alloc ?_ _)); exact BK222.out)) : gb240 ≠ gb222))
                  clear HO_5
                  clear BK222
                  clear HB
                  have HO_5 := n0_
                  have BK222 := n1_
                  have HB := n2_
                  have BK240 := n3_
                  have GW240 := n4_
                  have GE240 := n5_
                  have NB222_240 := n6_
                  have NB240_222 := n7_
                  clear n0_ n1_ n2_ n3_ n4_ n5_ n6_ n7_
                  clear hb hbox hg
                  refine hK.out _ _ ⟨HS0_, HS1_⟩ (fun hHeld => ?_)
                  clear hK K
                  refine norm_ (a' := ?_) ?_ ?_
                  rotate_left
                  ·show Act.put _ (some 8) _ = _
                   simp only [Act.put, Kx.sb, Kx.sz, Kx.ss, i64_w, i32_w]
                   rfl
                  refine one_ (i := 8) (N := some 49) #[true, true, true, true, true, true, true, true, true, true, true, true, true, false, false, true, false] rfl rfl (one_of HT_.out (by kernel_rfl)) (by decide) (fun K hK => ?_)
                  refine Kd.R_lit_step (Kd.int .u8) _ 5 ?hg (N := 49) ?hd (xs := ([] : List Int)) (inner := []) (ok := fun _ => True) (okp := fun _ => True) ?hr ?hp (fun _ hk => hk) trivial (Below.refl _ _) (Nat.le_refl _) (by simp) ?_; (case hd => rfl); (case hg => rfl); (case hr => first | (go_simp; done) | (go_simp; rfl)); (case hp => exact (Reps.none _ _))
                  intro v234 w32 ho33 hb hg_ hnew_
                  have HS0_ := (hb.cell (World.block_lt_of_cell? _ _ (hHeld.1))).trans (hHeld.1)
                  have HS1_ := (hb.cell (World.block_lt_of_cell? _ _ (hHeld.2))).trans (hHeld.2)
                  clear hg_ hnew_
                  (first | rw [← Ny233.out] at ho33 | (simp only [Int.reduceToNat] at ho33; rw [← Ny233.out] at ho33))
                  have n0_ := Aside0.mk (Kd.R_below (by (with_reducible repeat (first | apply Kd.R_alloc | apply Kd.R_drewN | apply Kd.R_drew)); exact HO_5.out) hb)
                  have n1_ := Aside0.mk (Kd.R_lower ho33 (below_size (by repeat (first | (with_reducible first | exact HB.out | apply below_alloc | apply pw_below_drewN | apply below_drew1 | refine below_set ?_ GE222.out | refine below_set ?_ GE240.out) | exact HB.out))))
                  have n2_ := Aside0.mk (blk_below (g := gb222) (o := .cells #[.int .i64 0, .int .i64 0, .slice none 0 0] 25 (0, 0)) (by (with_reducible repeat (first | refine blk_drewN ?_ _ | refine blk_drew ?_ | refine blk_alloc ?_ _)); exact BK222.out) hb)
                  have n3_ := Aside0.mk (blk_below (g := gb240) (o := .cells #[.int .i64 0, .int .i64 0, .slice none 0 0] 25 (0, 0)) (by (with_reducible repeat (first | refine blk_drewN ?_ _ | refine blk_drew ?_ | refine blk_alloc ?_ _)); exact BK240.out) hb)
                  have n4_ := Aside0.mk (below_step (by repeat (first | (with_reducible first | exact HB.out | apply below_alloc | apply pw_below_drewN | apply below_drew1 | refine below_set ?_ GE222.out | refine below_set ?_ GE240.out) | exact HB.out)) hb)
                  clear HO_5
                  clear BK222
                  clear BK240
                  clear HB
                  have HO_5 := n0_
                  have HO235 := n1_
                  have BK222 := n2_
                  have BK240 := n3_
                  have HB := n4_
                  clear n0_ n1_ n2_ n3_ n4_
                  clear hb ho33
                  refine hK.out _ _ ⟨HS0_, HS1_⟩ (fun hHeld => ?_)
                  clear hK K
                  refine norm_ (a' := ?_) ?_ ?_
                  rotate_left
                  ·show Act.put _ (some 49) _ = _
                   simp only [Act.put, Kx.sb, Kx.sz, Kx.ss, i64_w, i32_w]
                   rfl
                  refine one_ (i := 13) (N := some 54) #[true, true, true, true, true, true, true, true, true, true, true, true, true, true, false, true, false] rfl rfl (one_of HT_.out (by kernel_rfl)) (by decide) (fun K hK => ?_)
                  refine Kd.R_append_rows_step (Kd.int .u8) (w0 := w) w.heap.size (by rfl) (.tmp 49) (.tmp 53) 23 5 (.int .u8 0) 1 rfl Try.underlying23 info5 rfl (by decide) (by omega) v234 y233 ((l0.take ((wrap64 (t229 - 4)) : Int).toNat).drop 16) _ _ _ (fun _ => True) (fun _ => False) rfl rfl ?aO ?aR (fun _ _ h => h) (fun _ h => h.elim) ?aF ?aB ?aS ?aL ?_
                  (case aR => first | (rw [← show ((l0.take ((wrap64 (t229 - 4)) : Int).toNat).drop 16).length = ((wrap64 (t229 - 4)).toNat - 16) from (by rw [List.length_drop, List.length_take]; have h_ : ((wrap64 (t229 - 4)) : Int) ≤ (l0.length : Int) := of_decide_eq_true (by first | (with_reducible assumption) | assumption); omega)]; repeat (first | exact (Kd.C_below HR236.out HB.out) | (with_reducible refine Kd.C_alloc ?_ _) | (with_reducible refine Kd.C_drewN ?_ _) | (with_reducible refine Kd.C_drew ?_))) | (repeat (first | exact (Kd.C_below HR236.out HB.out) | (with_reducible refine Kd.C_alloc ?_ _) | (with_reducible refine Kd.C_drewN ?_ _) | (with_reducible refine Kd.C_drew ?_))))
                  (case aB => exact (by repeat (first | (with_reducible first | exact HB.out | apply below_alloc | apply pw_below_drewN | apply below_drew1 | refine below_set ?_ GE222.out | refine below_set ?_ GE240.out) | exact HB.out)))
                  (case aF => exact (fun _ _ => trivial))
                  (case aO => exact (by (with_reducible repeat (first | apply Kd.R_alloc | apply Kd.R_drewN | apply Kd.R_drew)); exact HO235.out))
                  (case aS => exact (below_size (by repeat (first | (with_reducible first | exact HB.out | apply below_alloc | apply pw_below_drewN | apply below_drew1 | refine below_set ?_ GE222.out | refine below_set ?_ GE240.out) | exact HB.out))))
                  (case aL => have := LMc23.out; have hlx_ := (show ((l0.take ((wrap64 (t229 - 4)) : Int).toNat).drop 16).length = ((wrap64 (t229 - 4)).toNat - 16) from (by rw [List.length_drop, List.length_take]; have h_ : ((wrap64 (t229 - 4)) : Int) ≤ (l0.length : Int) := of_decide_eq_true (by first | (with_reducible assumption) | assumption); omega)); omega)
                  intro v238 w34 ho hb hg hat
                  have HN0_ := Go.Proofs.Ytcemlfkboifncaa.Kx.R_blk_ne HO_5.out HO235.out (by decide)
                  have HS0_ := cell_grown hg (hHeld.1) (by first | (rw [add_block]; exact HN0_) | (show some (Addr.add _ _).block ≠ _; rw [add_block]; exact HN0_) | exact HN0_)
                  have HN1_ := Go.Proofs.Ytcemlfkboifncaa.Kx.R_blk_ne HO_5.out HO235.out (by decide)
                  have HS1_ := cell_grown hg (hHeld.2) (by first | (rw [add_block]; exact HN1_) | (show some (Addr.add _ _).block ≠ _; rw [add_block]; exact HN1_) | exact HN1_)
                  rw [← Ny237.out] at ho
                  have n0_ := Aside0.mk (Kd.R_over' (by (with_reducible repeat (first | apply Kd.R_alloc | apply Kd.R_drewN | apply Kd.R_drew)); exact HO_5.out) (Kd.R_typed (by (with_reducible repeat (first | apply Kd.R_alloc | apply Kd.R_drewN | apply Kd.R_drew)); exact HO235.out)) (by decide) hg)
                  have n1_ := Aside0.mk (blk_grown (g := gb222) (o := .cells #[.int .i64 0, .int .i64 0, .slice none 0 0] 25 (0, 0)) (by (with_reducible repeat (first | refine blk_drewN ?_ _ | refine blk_drew ?_ | refine blk_alloc ?_ _)); exact BK222.out) hg (Kd.R_ne HO235.out BK222.out (by decide)))
                  have n2_ := Aside0.mk (blk_grown (g := gb240) (o := .cells #[.int .i64 0, .int .i64 0, .slice none 0 0] 25 (0, 0)) (by (with_reducible repeat (first | refine blk_drewN ?_ _ | refine blk_drew ?_ | refine blk_alloc ?_ _)); exact BK240.out) hg (Kd.R_ne HO235.out BK240.out (by decide)))
                  have n3_ := Aside0.mk (hb)
                  have n4_ := Aside0.mk (ho)
                  clear HO_5
                  clear BK222
                  clear BK240
                  clear HB
                  clear HO235
                  have HO_5 := n0_
                  have BK222 := n1_
                  have BK240 := n2_
                  have HB := n3_
                  have HO239 := n4_
                  clear n0_ n1_ n2_ n3_ n4_
                  clear ho hb hg hat
                  obtain ⟨Ao35, co35, eo35⟩ := Kd.R_slice HO239.out
                  (first | subst eo35 | (injection eo35 with f1_ f2_ f3_; have f4_ := f1_.symm; have f5_ := f3_.symm; clear f1_ f2_ f3_; subst f4_; subst f5_))
                  refine hK.out _ _ ⟨HS0_, HS1_⟩ (fun hHeld => ?_)
                  clear hK K
                  refine norm_ (a' := ?_) ?_ ?_
                  rotate_left
                  ·show Act.put _ (some 54) _ = _
                   simp only [Act.put, Kx.sb, Kx.sz, Kx.ss, i64_w, i32_w]
                   rfl
                  refine pure_ (i := 14) (N := some 55) (v := ?_) (a' := ?_) #[true, true, true, true, true, true, true, true, true, true, true, true, true, true, true, true, false] rfl rfl (any_of HT_.out (by kernel_rfl)) (fun _ _ _ h => h) (Or.inl ⟨by rfl, ?_⟩) ?_ ?_
                  rotate_left
                  ·intro w'
                   go_simp
                   with_reducible rfl
                  rotate_left
                  ·simp only [Act.put, Kx.sb, Kx.sz, Kx.ss, i64_w, i32_w]
                   rfl
                  exact norm_ (by simp only [putAll, Act.put, Kx.sb, Kx.sz, Kx.ss]) (hCont (v234, .slice Ao35 y237.length co35, gb240) _ ⟨hHeld, (by (with_reducible repeat (first | apply Kd.R_alloc | apply Kd.R_drewN | apply Kd.R_drew)); exact HO239.out), (by (with_reducible repeat (first | apply Kd.R_alloc | apply Kd.R_drewN | apply Kd.R_drew)); exact HO_5.out), (by (with_reducible repeat (first | refine blk_drewN ?_ _ | refine blk_drew ?_ | refine blk_alloc ?_ _)); exact BK222.out), (by (with_reducible repeat (first | refine blk_drewN ?_ _ | refine blk_drew ?_ | refine blk_alloc ?_ _)); exact BK240.out), GW240.out, GE240.out, NB222_240.out, NB240_222.out, (by repeat (first | (with_reducible first | exact HB.out | apply below_alloc | apply pw_below_drewN | apply below_drew1 | refine below_set ?_ GE222.out | refine below_set ?_ GE240.out) | exact HB.out))⟩)
                rintro ⟨v234, v238, gb240⟩ w36 ⟨hS_, h0_, h1_, h2_, h3_, h4_, h5_, h6_, h7_, h8_⟩
                have n0_ : Aside0 (Kd.R (Kd.int .u8) 5 w36 w.heap.size (fun _ => True) v238 y237) := ⟨h0_⟩
                have n1_ : Aside0 (Kd.R (Kd.int .u64) 68 w36 w.heap.size (fun _ => True) (.slice (some ad228) t224.length co13) t224) := ⟨h1_⟩
                have n2_ : Aside0 (w36.heap[gb222]? = some (.cells #[.int .i64 0, .int .i64 0, .slice none 0 0] 25 (0, 0))) := ⟨h2_⟩
                have n3_ : Aside0 (w36.heap[gb240]? = some (.cells #[.int .i64 0, .int .i64 0, .slice none 0 0] 25 (0, 0))) := ⟨h3_⟩
                have n4_ : Aside0 (w.heap.size ≤ gb240) := ⟨h4_⟩
                have n5_ : Aside0 (w.heap.size ≤ gb240) := ⟨h5_⟩
                have n6_ : Aside0 (gb222 ≠ gb240) := ⟨h6_⟩
                have n7_ : Aside0 (gb240 ≠ gb222) := ⟨h7_⟩
                have n8_ : Aside0 (Below w.heap.size w w36) := ⟨h8_⟩
                clear HO_5
                clear BK222
                clear HB
                clear h0_ h1_ h2_ h3_ h4_ h5_ h6_ h7_ h8_
                have HO239 := n0_
                have HO_5 := n1_
                have BK222 := n2_
                have BK240 := n3_
                have GW240 := n4_
                have GE240 := n5_
                have NB222_240 := n6_
                have NB240_222 := n7_
                have HB := n8_
                clear n0_ n1_ n2_ n3_ n4_ n5_ n6_ n7_ n8_
                have hHeld : w36.cell? ⟨ad228.block, ad228.off + 1, none⟩ = some (.int .u64 (rd t224 1)) ∧ w36.cell? ⟨ad228.block, ad228.off + 3, none⟩ = some (.int .u64 (rd t224 3)) := hS_
                obtain ⟨Ao37, co37, eo37⟩ := Kd.R_slice HO239.out
                (first | subst eo37 | (injection eo37 with f1_ f2_ f3_; have f4_ := f1_.symm; have f5_ := f3_.symm; clear f1_ f2_ f3_; subst f4_; subst f5_))
                refine norm_ (a' := ?_) ?_ ?_
                rotate_left
                ·simp only [putAll, Act.put, Kx.sb, Kx.sz, Kx.ss]
                 rfl
                refine last_ (i := 16) (N := none) #[true, true, true, true, true, true, true, true, true, true, true, true, true, true, true, true, true] rfl rfl (one_of HT_.out (by kernel_rfl)) (by decide) (fun K hK => ?_)
                have hs38 : w36.cell? ⟨gb240, 0, none⟩ = some (.int .i64 0) := (blk_cell BK240.out 0).trans rfl
                have hfs38 := blk_frozen BK240.out 0
                have hns38_0 := NB222_240.out
                have hms38_0 := NB240_222.out
                have hs39 : w36.cell? ⟨gb240, 1, none⟩ = some (.int .i64 0) := (blk_cell BK240.out 1).trans rfl
                have hfs39 := blk_frozen BK240.out 1
                have hns39_0 := NB222_240.out
                have hms39_0 := NB240_222.out
                have hs40 : w36.cell? ⟨gb240, 2, none⟩ = some (.slice none 0 0) := (blk_cell BK240.out 2).trans rfl
                have hfs40 := blk_frozen BK240.out 2
                have hns40_0 := NB222_240.out
                have hms40_0 := NB240_222.out
                refine skip_ (w1 := ?_) (by rfl) rfl ?_ ?_
                rotate_left
                ·go_simp
                 rfl
                refine hK.out _ _ ?_
                clear hK K
                refine done_ (done_of HT_.out (by kernel_rfl)) ?_
                have hnb41 := NB240_222.out
                have hnc41 := NB222_240.out
                have hcz42_0 : w36.cell? ⟨gb240, 0, none⟩ = some (.int .i64 0) := (blk_cell BK240.out 0).trans rfl
                have hcz42_1 : w36.cell? ⟨gb240, 1, none⟩ = some (.int .i64 0) := (blk_cell BK240.out 1).trans rfl
                have hcz42_2 : w36.cell? ⟨gb240, 2, none⟩ = some (.slice none 0 0) := (blk_cell BK240.out 2).trans rfl
                have hfz42_0 := blk_frozen BK240.out 0
                have hfz42_1 := blk_frozen BK240.out 1
                have hfz42_2 := blk_frozen BK240.out 2
                try go_wp2_with (first | ((with_reducible refine gate_callee (f := 20) rfl ?_); refine goesL_ (some 58) rfl rfl Try.func20 (by kernel_rfl) rfl #[.agg #[.int .i64 (wrap64 (rd t224 1)), .int .i64 (wrap64 (rd t224 3)), .slice Ao37 y237.length co37]] rfl (by (try simp only [List.map_toArray, List.map_cons, List.map_nil]); first | done | rfl | (simp only [List.length_drop, List.length_take]; rfl)) ?_; (with_reducible refine (waggonerref05_Write.calls (wrap64 (rd t224 1)) (wrap64 (rd t224 3)) _ _ y237 t241 t244 _ ?side1 ?side2 A24.out).mono ?_); (case side1 => refine (Kd.R_reads' (e := 5) (base := w.heap.size) (ok := fun k_ => True) (n := y237.length) (c := co37) ?_).2.2; exact (by (with_reducible repeat (first | apply Kd.R_alloc | apply Kd.R_drewN | apply Kd.R_drew)); exact (Kd.R_mono (Kd.R_far (p := ⟨gb240, 2, none⟩) (Kd.R_far (p := ⟨gb240, 1, none⟩) (Kd.R_far (p := ⟨gb240, 0, none⟩) (Kd.R_types HO239.out BK240.out (by decide)) (fun _ hk => hk.2) (.int .i64 (wrap64 (rd t224 1)))) (fun _ hk => hk.2) (.int .i64 (wrap64 (rd t224 3)))) (fun _ hk => hk.2) (.slice Ao37 y237.length co37)) (fun _ h_ => h_.1)))); (case side2 => exact (Kd.R_reads' HO239.out).2.1); rintro e w43 ⟨v242, rfl, ho0, hb⟩; refine ⟨_, rfl, ?_⟩; have n0_ := Aside0.mk (Kd.R_below (by (with_reducible repeat (first | apply Kd.R_alloc | apply Kd.R_drewN | apply Kd.R_drew)); exact (Kd.R_mono (Kd.R_far (p := ⟨gb240, 2, none⟩) (Kd.R_far (p := ⟨gb240, 1, none⟩) (Kd.R_far (p := ⟨gb240, 0, none⟩) (Kd.R_types HO_5.out BK240.out (by decide)) (fun _ hk => hk.2) (.int .i64 (wrap64 (rd t224 1)))) (fun _ hk => hk.2) (.int .i64 (wrap64 (rd t224 3)))) (fun _ hk => hk.2) (.slice Ao37 y237.length co37)) (fun _ h_ => h_.1))) hb); have n1_ := Aside0.mk (Kd.R_elder' (by (with_reducible repeat (first | apply Kd.R_alloc | apply Kd.R_drewN | apply Kd.R_drew)); exact (Kd.R_mono (Kd.R_far (p := ⟨gb240, 2, none⟩) (Kd.R_far (p := ⟨gb240, 1, none⟩) (Kd.R_far (p := ⟨gb240, 0, none⟩) (Kd.R_types HO239.out BK240.out (by decide)) (fun _ hk => hk.2) (.int .i64 (wrap64 (rd t224 1)))) (fun _ hk => hk.2) (.int .i64 (wrap64 (rd t224 3)))) (fun _ hk => hk.2) (.slice Ao37 y237.length co37)) (fun _ h_ => h_.1))) (Kd.R_base ho0) hb); have n2_ := Aside0.mk (Kd.R_lower (Kd.R_new' ho0 (Kd.R_lt (by (with_reducible repeat (first | apply Kd.R_alloc | apply Kd.R_drewN | apply Kd.R_drew)); exact (Kd.R_mono (Kd.R_far (p := ⟨gb240, 2, none⟩) (Kd.R_far (p := ⟨gb240, 1, none⟩) (Kd.R_far (p := ⟨gb240, 0, none⟩) (Kd.R_types HO239.out BK240.out (by decide)) (fun _ hk => hk.2) (.int .i64 (wrap64 (rd t224 1)))) (fun _ hk => hk.2) (.int .i64 (wrap64 (rd t224 3)))) (fun _ hk => hk.2) (.slice Ao37 y237.length co37)) (fun _ h_ => h_.1))))) (below_size (by repeat (first | (with_reducible first | exact HB.out | apply below_alloc | apply pw_below_drewN | apply below_drew1 | refine below_set ?_ GE222.out | refine below_set ?_ GE240.out) | exact HB.out)))); have n3_ := Aside0.mk (blk_below (g := gb222) (o := .cells #[.int .i64 0, .int .i64 0, .slice none 0 0] 25 (0, 0)) (by (with_reducible repeat (first | refine blk_drewN ?_ _ | refine blk_drew ?_ | refine blk_alloc ?_ _)); refine blk_far ?_ NB222_240.out _; (with_reducible repeat (first | refine blk_drewN ?_ _ | refine blk_drew ?_ | refine blk_alloc ?_ _)); refine blk_far ?_ NB222_240.out _; (with_reducible repeat (first | refine blk_drewN ?_ _ | refine blk_drew ?_ | refine blk_alloc ?_ _)); refine blk_far ?_ NB222_240.out _; (with_reducible repeat (first | refine blk_drewN ?_ _ | refine blk_drew ?_ | refine blk_alloc ?_ _)); exact BK222.out) hb); have n4_ := Aside0.mk (blk_below (g := gb240) (o := .cells #[.int .i64 (wrap64 (rd t224 1)), .int .i64 (wrap64 (rd t224 3)), .slice Ao37 y237.length co37] 25 (0, 0)) (by (with_reducible repeat (first | refine blk_drewN ?_ _ | refine blk_drew ?_ | refine blk_alloc ?_ _)); refine blk_put (cs := #[.int .i64 (wrap64 (rd t224 1)), .int .i64 (wrap64 (rd t224 3)), .slice none 0 0]) ?_ 2 _ rfl; (with_reducible repeat (first | refine blk_drewN ?_ _ | refine blk_drew ?_ | refine blk_alloc ?_ _)); refine blk_put (cs := #[.int .i64 (wrap64 (rd t224 1)), .int .i64 0, .slice none 0 0]) ?_ 1 _ rfl; (with_reducible repeat (first | refine blk_drewN ?_ _ | refine blk_drew ?_ | refine blk_alloc ?_ _)); refine blk_put (cs := #[.int .i64 0, .int .i64 0, .slice none 0 0]) ?_ 0 _ rfl; (with_reducible repeat (first | refine blk_drewN ?_ _ | refine blk_drew ?_ | refine blk_alloc ?_ _)); exact BK240.out) hb); have n5_ := Aside0.mk (below_step (by repeat (first | (with_reducible first | exact HB.out | apply below_alloc | apply pw_below_drewN | apply below_drew1 | refine below_set ?_ GE222.out | refine below_set ?_ GE240.out) | exact HB.out)) hb); clear HO_5; clear HO239; clear BK222; clear BK240; clear HB; have HO_5 := n0_; have HO239 := n1_; have HO243 := n2_; have BK222 := n3_; have BK240 := n4_; have HB := n5_; clear n0_ n1_ n2_ n3_ n4_ n5_; (try clear hb); (try clear hb2); (try clear hk); (try clear hi); (try clear ho0)))
                have n0_ := Aside0.mk (Kd.R_drew HO_5.out)
                have n1_ := Aside0.mk (Kd.R_drew HO239.out)
                have n2_ := Aside0.mk (Kd.R_drew HO243.out)
                have n3_ := Aside0.mk (blk_drew BK222.out)
                have n4_ := Aside0.mk (blk_drew BK240.out)
                have n5_ := Aside0.mk (below_drew1 HB.out)
                clear HO_5
                clear HO239
                clear HO243
                clear BK222
                clear BK240
                clear HB
                have HO_5 := n0_
                have HO239 := n1_
                have HO243 := n2_
                have BK222 := n3_
                have BK240 := n4_
                have HB := n5_
                clear n0_ n1_ n2_ n3_ n4_ n5_
                obtain ⟨i045, hi045, _, hsz45, _⟩ := info_parts info5
                obtain ⟨hcut45, hA45, hC45⟩ := print_take_of (P := Try.prog) (Value.int .u8) 0 23 5 .i64 Try.underlying23 hi045 hsz45 A0 c0 l0 t229 (of_decide_eq_true (by first | (with_reducible assumption) | assumption)) (of_decide_eq_true (by first | (with_reducible assumption) | assumption)) HC0.out
                have HR245 := Aside0.mk (Kd.C_of_reads (h1 := fun _ => rfl) (hA45 _ (Kd.reads_of_C HR0.out)))
                have HC245 := Aside0.mk hC45
                clear hA45 hC45 hi045 hsz45
                refine start_ (n := 11) (S := fun w' => (convert 23 9 (v242)).run Try.prog w' = .ok (.string (strOfNums t241)) w' ∧ (convert 23 9 (.slice A0 t229.toNat c0)).run Try.prog w' = .ok (.string (strOfNums (l0.take (t229 : Int).toNat))) w') (ds := []) #[false, false, false, false, false, false, false, false, false, false, false] (by kernel_rfl) rfl rfl ⟨(own_string (P := Try.prog) Try.underlying23 Try.underlying5 Try.underlying9 (Kd.own_of_R HO243.out)), (by have h_ := (Kd.C_string (P := Try.prog) (A := A0) (c := c0) Try.underlying23 Try.underlying5 Try.underlying9 (Kd.C_below HR245.out HB.out)); rw [show (l0.take (t229 : Int).toNat).length = t229.toNat from (by rw [List.length_take]; have h_ : (t229 : Int) ≤ (l0.length : Int) := of_decide_eq_true (by first | (with_reducible assumption) | assumption); omega)] at h_; exact h_)⟩ (fun hHeld => ?_); refine with_tabW waggonerref05_Read_p.tab9 waggonerref05_Read_p.bits9 (fun HT_ HW_ => ?_)
                generalize w43.drew = w44 at HO_5 HO239 HO243 BK222 BK240 HB HR245 hHeld ⊢
                refine pure_ (i := 0) (N := some 61) (v := ?_) (a' := ?_) #[true, false, false, false, false, false, false, false, false, false, false] rfl rfl (any_of HT_.out (by kernel_rfl)) (fun _ _ _ h => h) (Or.inl ⟨by rfl, ?_⟩) ?_ ?_
                rotate_left
                ·intro w'
                 go_simp
                 with_reducible rfl
                rotate_left
                ·simp only [Act.put, Kx.sb, Kx.sz, Kx.ss, i64_w, i32_w]
                 rfl
                refine pure_ (i := 1) (N := some 62) (v := ?_) (a' := ?_) #[true, true, false, false, false, false, false, false, false, false, false] rfl rfl (any_of HT_.out (by kernel_rfl)) (fun _ _ _ h => h) (Or.inl ⟨by rfl, ?_⟩) ?_ ?_
                rotate_left
                ·intro w'
                 go_simp
                 with_reducible rfl
                rotate_left
                ·simp only [Act.put, Kx.sb, Kx.sz, Kx.ss, i64_w, i32_w]
                 rfl
                refine pure_ (i := 2) (N := some 63) (v := ?_) (a' := ?_) #[true, true, true, false, false, false, false, false, false, false, false] rfl rfl (any_of HT_.out (by kernel_rfl)) (fun _ _ _ h => h) (Or.inl ⟨by rfl, ?_⟩) ?_ ?_
                rotate_left
                ·intro w'
                 go_simp
                 with_reducible rfl
                rotate_left
                ·simp only [Act.put, Kx.sb, Kx.sz, Kx.ss, i64_w, i32_w]
                 rfl
                refine pure_ (i := 3) (N := some 64) (v := ?_) (a' := ?_) #[true, true, true, true, false, false, false, false, false, false, false] rfl rfl (any_of HT_.out (by kernel_rfl)) (fun _ _ _ h => h) (Or.inl ⟨by rfl, ?_⟩) ?_ ?_
                rotate_left
                ·intro w'
                 go_simp
                 with_reducible rfl
                rotate_left
                ·simp only [Act.put, Kx.sb, Kx.sz, Kx.ss, i64_w, i32_w]
                 rfl
                refine pure_ (i := 5) (N := some 66) (v := ?_) (a' := ?_) #[true, true, true, true, false, true, false, false, false, false, false] rfl rfl (any_of HT_.out (by kernel_rfl)) (fun _ _ _ h => h) (Or.inl ⟨by rfl, ?_⟩) ?_ ?_
                rotate_left
                ·intro w'
                 go_simp
                 with_reducible rfl
                rotate_left
                ·simp only [Act.put, Kx.sb, Kx.sz, Kx.ss, i64_w, i32_w]
                 rfl
                refine pure_ (i := 6) (N := some 67) (v := ?_) (a' := ?_) #[true, true, true, true, false, true, true, false, false, false, false] rfl rfl (any_of HT_.out (by kernel_rfl)) (fun _ _ _ h => h) (Or.inl ⟨by rfl, ?_⟩) ?_ ?_
                rotate_left
                ·intro w'
                 go_simp
                 with_reducible rfl
                rotate_left
                ·simp only [Act.put, Kx.sb, Kx.sz, Kx.ss, i64_w, i32_w]
                 rfl
                refine pure_ (i := 7) (N := some 68) (v := ?_) (a' := ?_) #[true, true, true, true, false, true, true, true, false, false, false] rfl rfl (any_of HT_.out (by kernel_rfl)) (fun _ _ _ h => h) (Or.inl ⟨by rfl, ?_⟩) ?_ ?_
                rotate_left
                ·intro w'
                 go_simp
                 with_reducible rfl
                rotate_left
                ·simp only [Act.put, Kx.sb, Kx.sz, Kx.ss, i64_w, i32_w]
                 rfl
                refine take_ (i := 4) (N := some 65) (v := ?_) (a' := ?_) #[true, true, true, true, true, true, true, true, false, false, false] rfl rfl (take_ofW HT_.out HW_.out (by kernel_rfl)) (fun _ _ _ h => h) (Or.inl ⟨by rfl, ?_⟩) hHeld ?_ ?_
                rotate_left
                ·rintro w' ⟨s0, s1⟩
                 go_simp
                 with_reducible rfl
                rotate_left
                ·simp only [Act.put, Kx.sb, Kx.sz, Kx.ss, i64_w, i32_w]
                 rfl
                refine take_ (i := 8) (N := some 69) (v := ?_) (a' := ?_) #[true, true, true, true, true, true, true, true, true, false, false] rfl rfl (take_ofW HT_.out HW_.out (by kernel_rfl)) (fun _ _ _ h => h) (Or.inl ⟨by rfl, ?_⟩) hHeld ?_ ?_
                rotate_left
                ·rintro w' ⟨s0, s1⟩
                 go_simp
                 with_reducible rfl
                rotate_left
                ·simp only [Act.put, Kx.sb, Kx.sz, Kx.ss, i64_w, i32_w]
                 rfl
                refine pure_ (i := 9) (N := some 70) (v := ?_) (a' := ?_) #[true, true, true, true, true, true, true, true, true, true, false] rfl rfl (any_of HT_.out (by kernel_rfl)) (fun _ _ _ h => h) (Or.inl ⟨by rfl, ?_⟩) ?_ ?_
                rotate_left
                ·intro w'
                 go_simp
                 with_reducible rfl
                rotate_left
                ·simp only [Act.put, Kx.sb, Kx.sz, Kx.ss, i64_w, i32_w]
                 rfl
                refine pure_ (i := 10) (N := some 71) (v := ?_) (a' := ?_) #[true, true, true, true, true, true, true, true, true, true, true] rfl rfl (any_of HT_.out (by kernel_rfl)) (fun _ _ _ h => h) (Or.inl ⟨by rfl, ?_⟩) ?_ ?_
                rotate_left
                ·intro w'
                 go_simp
                 with_reducible rfl
                rotate_left
                ·simp only [Act.put, Kx.sb, Kx.sz, Kx.ss, i64_w, i32_w]
                 rfl
                refine done_ (done_of HT_.out (by kernel_rfl)) ?_
                have hcz46_0 : w44.cell? ⟨gb240, 0, none⟩ = some (.int .i64 (wrap64 (rd t224 1))) := (blk_cell BK240.out 0).trans rfl
                have hcz46_1 : w44.cell? ⟨gb240, 1, none⟩ = some (.int .i64 (wrap64 (rd t224 3))) := (blk_cell BK240.out 1).trans rfl
                have hcz46_2 : w44.cell? ⟨gb240, 2, none⟩ = some (.slice Ao37 y237.length co37) := (blk_cell BK240.out 2).trans rfl
                have hfz46_0 := blk_frozen BK240.out 0
                have hfz46_1 := blk_frozen BK240.out 1
                have hfz46_2 := blk_frozen BK240.out 2
                have hcz47_0 : w44.cell? ⟨gb222, 0, none⟩ = some (.int .i64 0) := (blk_cell BK222.out 0).trans rfl
                have hcz47_1 : w44.cell? ⟨gb222, 1, none⟩ = some (.int .i64 0) := (blk_cell BK222.out 1).trans rfl
                have hcz47_2 : w44.cell? ⟨gb222, 2, none⟩ = some (.slice none 0 0) := (blk_cell BK222.out 2).trans rfl
                have hfz47_0 := blk_frozen BK222.out 0
                have hfz47_1 := blk_frozen BK222.out 1
                have hfz47_2 := blk_frozen BK222.out 2
                try go_wp2
                refine bodyPost_ret (results_ctt rfl _ _ gb222 25 #[.int .i64 (wrap64 (rd t224 1)), .int .i64 (wrap64 (rd t224 3)), .slice Ao37 y237.length co37] (0, 0) _ rfl (by (with_reducible repeat (first | refine blk_drewN ?_ _ | refine blk_drew ?_ | refine blk_alloc ?_ _)); refine blk_put (cs := #[.int .i64 (wrap64 (rd t224 1)), .int .i64 (wrap64 (rd t224 3)), .slice none 0 0]) ?_ 2 _ rfl; (with_reducible repeat (first | refine blk_drewN ?_ _ | refine blk_drew ?_ | refine blk_alloc ?_ _)); refine blk_put (cs := #[.int .i64 (wrap64 (rd t224 1)), .int .i64 0, .slice none 0 0]) ?_ 1 _ rfl; (with_reducible repeat (first | refine blk_drewN ?_ _ | refine blk_drew ?_ | refine blk_alloc ?_ _)); refine blk_put (cs := #[.int .i64 0, .int .i64 0, .slice none 0 0]) ?_ 0 _ rfl; (with_reducible repeat (first | refine blk_drewN ?_ _ | refine blk_drew ?_ | refine blk_alloc ?_ _)); exact BK222.out) Try.underlying25 rfl (by kernel_rfl)) rfl ?_
                exact ⟨_, by first | rfl | (simp [errW_none, errW_some] <;> rfl) | (simp [*, errW_none, errW_some] <;> rfl), by (with_reducible repeat (first | apply Kd.R_alloc | apply Kd.R_drewN | apply Kd.R_drew)); exact Kd.R_mono (Kd.R_far (p := ⟨gb222, 2, none⟩) (Kd.R_far (p := ⟨gb222, 1, none⟩) (Kd.R_far (p := ⟨gb222, 0, none⟩) (Kd.R_types HO239.out BK222.out (by decide)) (fun _ hk => hk.2) (.int .i64 (wrap64 (rd t224 1)))) (fun _ hk => hk.2) (.int .i64 (wrap64 (rd t224 3)))) (fun _ hk => hk.2) (.slice Ao37 y237.length co37)) (fun _ hk => trivial), by repeat (first | (with_reducible first | exact HB.out | apply below_alloc | apply pw_below_drewN | apply below_drew1 | refine below_set ?_ GE222.out | refine below_set ?_ GE240.out) | exact HB.out)⟩
               ·rw [if_neg c28] at H
                have c28b0 : ((strOfNums t241).toList == (strOfNums (l0.take (t229 : Int).toNat)).toList) = false := beq_eq_false_iff_ne.mpr c28
                have c28b1 : ((strOfNums t241).toList != (strOfNums (l0.take (t229 : Int).toNat)).toList) = true := bne_iff_ne.mpr c28
                simp only [Option.some.injEq, Prod.mk.injEq] at H
                obtain ⟨rfl, rfl, rfl, rfl, rfl⟩ := H
                try go_wp2
                have n0_ := Aside0.mk (Kd.R_drew HO_5.out)
                have n1_ := Aside0.mk (blk_drew BK222.out)
                have n2_ := Aside0.mk (below_drew1 HB.out)
                clear HO_5
                clear BK222
                clear HB
                have HO_5 := n0_
                have BK222 := n1_
                have HB := n2_
                clear n0_ n1_ n2_
                have p231 : 0 ≤ (1 : Int) := (by omega)
                have q231 : 1 < (t224.length : Int) := of_decide_eq_true (by first | (with_reducible assumption) | assumption)
                obtain ⟨ad231, e231, hx231_0⟩ := Kd.at_int (Kd.R_reads' HO_5.out).2.2 1 p231 q231
                obtain rfl : ad228 = ad231 := (by injection e231)
                (try simp only [show (1 : Int).toNat = 1 from rfl, Nat.reduceMul, Nat.reduceEqDiff, Go.Addr.add, ↓reduceIte] at hx231_0)
                have qi231 : (1 < t224.length) = True := eq_true (by omega)
                (try rw [show ((1 : Int)).toNat = 1 from rfl] at hx231_0)
                replace p231 := eq_true p231
                replace q231 := eq_true q231
                have p232 : 0 ≤ (3 : Int) := (by omega)
                have q232 : 3 < (t224.length : Int) := of_decide_eq_true (by first | (with_reducible assumption) | assumption)
                obtain ⟨ad232, e232, hx232_0⟩ := Kd.at_int (Kd.R_reads' HO_5.out).2.2 3 p232 q232
                obtain rfl : ad228 = ad232 := (by injection e232)
                (try simp only [show (3 : Int).toNat = 3 from rfl, Nat.reduceMul, Nat.reduceEqDiff, Go.Addr.add, ↓reduceIte] at hx232_0)
                have qi232 : (3 < t224.length) = True := eq_true (by omega)
                (try rw [show ((3 : Int)).toNat = 3 from rfl] at hx232_0)
                replace p232 := eq_true p232
                replace q232 := eq_true q232
                obtain ⟨i049, hi049, _, hsz49, _⟩ := info_parts info5
                obtain ⟨A49, hcut49, hA49, hC49⟩ := print_mid_of (P := Try.prog) (Value.int .u8) 0 23 5 .i64 .i64 Try.underlying23 hi049 hsz49 A0 c0 l0 16 (wrap64 (t229 - 4)) (by omega) (by first | omega | exact of_decide_eq_true (by first | (with_reducible assumption) | assumption)) (of_decide_eq_true (by first | (with_reducible assumption) | assumption)) HC0.out
                have HR236 := Aside0.mk (Kd.C_of_reads (h1 := fun _ => rfl) (hA49 _ (Kd.reads_of_C HR0.out)))
                have HC236 := Aside0.mk hC49
                clear hA49 hC49 hi049 hsz49
                refine start_ (n := 17) (S := fun w' => w'.cell? ⟨ad228.block, ad228.off + 1, none⟩ = some (.int .u64 (rd t224 1)) ∧ w'.cell? ⟨ad228.block, ad228.off + 3, none⟩ = some (.int .u64 (rd t224 3))) (ds := [16]) #[false, false, false, false, false, false, false, false, false, false, false, false, false, false, false, false, false] (by kernel_rfl) rfl rfl ⟨hx231_0, hx232_0⟩ (fun hHeld => ?_); refine with_tabW waggonerref05_Read_p.tab7 waggonerref05_Read_p.bits7 (fun HT_ HW_ => ?_)
                generalize wc.drew = w48 at HO_5 BK222 HB HR236 hx231_0 hx232_0 hHeld ⊢
                refine pure_ (i := 0) (N := some 41) (v := ?_) (a' := ?_) #[true, false, false, false, false, false, false, false, false, false, false, false, false, false, false, false, false] rfl rfl (any_of HT_.out (by kernel_rfl)) (fun _ _ _ h => h) (Or.inl ⟨by rfl, ?_⟩) ?_ ?_
                rotate_left
                ·intro w'
                 go_simp
                 with_reducible rfl
                rotate_left
                ·simp only [Act.put, Kx.sb, Kx.sz, Kx.ss, i64_w, i32_w]
                 rfl
                refine pure_ (i := 1) (N := some 42) (v := ?_) (a' := ?_) #[true, true, false, false, false, false, false, false, false, false, false, false, false, false, false, false, false] rfl rfl (any_of HT_.out (by kernel_rfl)) (fun _ _ _ h => h) (Or.inl ⟨by rfl, ?_⟩) ?_ ?_
                rotate_left
                ·intro w'
                 go_simp
                 with_reducible rfl
                rotate_left
                ·simp only [Act.put, Kx.sb, Kx.sz, Kx.ss, i64_w, i32_w]
                 rfl
                refine pure_ (i := 4) (N := some 45) (v := ?_) (a' := ?_) #[true, true, false, false, true, false, false, false, false, false, false, false, false, false, false, false, false] rfl rfl (any_of HT_.out (by kernel_rfl)) (fun _ _ _ h => h) (Or.inl ⟨by rfl, ?_⟩) ?_ ?_
                rotate_left
                ·intro w'
                 go_simp
                 with_reducible rfl
                rotate_left
                ·simp only [Act.put, Kx.sb, Kx.sz, Kx.ss, i64_w, i32_w]
                 rfl
                refine pure_ (i := 5) (N := some 46) (v := ?_) (a' := ?_) #[true, true, false, false, true, true, false, false, false, false, false, false, false, false, false, false, false] rfl rfl (any_of HT_.out (by kernel_rfl)) (fun _ _ _ h => h) (Or.inl ⟨by rfl, ?_⟩) ?_ ?_
                rotate_left
                ·intro w'
                 go_simp
                 with_reducible rfl
                rotate_left
                ·simp only [Act.put, Kx.sb, Kx.sz, Kx.ss, i64_w, i32_w]
                 rfl
                refine pure_ (i := 9) (N := some 50) (v := ?_) (a' := ?_) #[true, true, false, false, true, true, false, false, false, true, false, false, false, false, false, false, false] rfl rfl (any_of HT_.out (by kernel_rfl)) (fun _ _ _ h => h) (Or.inl ⟨by rfl, ?_⟩) ?_ ?_
                rotate_left
                ·intro w'
                 go_simp
                 with_reducible rfl
                rotate_left
                ·simp only [Act.put, Kx.sb, Kx.sz, Kx.ss, i64_w, i32_w]
                 rfl
                refine pure_ (i := 10) (N := some 51) (v := ?_) (a' := ?_) #[true, true, false, false, true, true, false, false, false, true, true, false, false, false, false, false, false] rfl rfl (any_of HT_.out (by kernel_rfl)) (fun _ _ _ h => h) (Or.inl ⟨by rfl, ?_⟩) ?_ ?_
                rotate_left
                ·intro w'
                 go_simp
                 with_reducible rfl
                rotate_left
                ·simp only [Act.put, Kx.sb, Kx.sz, Kx.ss, i64_w, i32_w]
                 rfl
                refine pure_ (i := 11) (N := some 52) (v := ?_) (a' := ?_) #[true, true, false, false, true, true, false, false, false, true, true, true, false, false, false, false, false] rfl rfl (any_of HT_.out (by kernel_rfl)) (fun _ _ _ h => h) (Or.inl ⟨by rfl, ?_⟩) ?_ ?_
                rotate_left
                ·intro w'
                 go_simp
                 with_reducible rfl
                rotate_left
                ·simp only [Act.put, Kx.sb, Kx.sz, Kx.ss, i64_w, i32_w]
                 rfl
                refine pure_ (i := 12) (N := some 53) (v := ?_) (a' := ?_) #[true, true, false, false, true, true, false, false, false, true, true, true, true, false, false, false, false] rfl rfl (any_of HT_.out (by kernel_rfl)) (fun _ _ _ h => h) (Or.inl ⟨by rfl, ?_⟩) ?_ ?_
                rotate_left
                ·intro w'
                 go_simp
                 with_reducible rfl
                rotate_left
                ·simp only [Act.put, Kx.sb, Kx.sz, Kx.ss, i64_w, i32_w]
                 rfl
                refine take_ (i := 2) (N := some 43) (v := ?_) (a' := ?_) #[true, true, true, false, true, true, false, false, false, true, true, true, true, false, false, false, false] rfl rfl (take_ofW HT_.out HW_.out (by kernel_rfl)) (fun _ _ _ h => h) (Or.inl ⟨by rfl, ?_⟩) hHeld ?_ ?_
                rotate_left
                ·rintro w' ⟨s0, s1⟩
                 go_simp
                 with_reducible rfl
                rotate_left
                ·simp only [Act.put, Kx.sb, Kx.sz, Kx.ss, i64_w, i32_w]
                 rfl
                refine pure_ (i := 3) (N := some 44) (v := ?_) (a' := ?_) #[true, true, true, true, true, true, false, false, false, true, true, true, true, false, false, false, false] rfl rfl (any_of HT_.out (by kernel_rfl)) (fun _ _ _ h => h) (Or.inl ⟨by rfl, ?_⟩) ?_ ?_
                rotate_left
                ·intro w'
                 go_simp
                 with_reducible rfl
                rotate_left
                ·simp only [Act.put, Kx.sb, Kx.sz, Kx.ss, i64_w, i32_w]
                 rfl
                refine take_ (i := 6) (N := some 47) (v := ?_) (a' := ?_) #[true, true, true, true, true, true, true, false, false, true, true, true, true, false, false, false, false] rfl rfl (take_ofW HT_.out HW_.out (by kernel_rfl)) (fun _ _ _ h => h) (Or.inl ⟨by rfl, ?_⟩) hHeld ?_ ?_
                rotate_left
                ·rintro w' ⟨s0, s1⟩
                 go_simp
                 with_reducible rfl
                rotate_left
                ·simp only [Act.put, Kx.sb, Kx.sz, Kx.ss, i64_w, i32_w]
                 rfl
                refine pure_ (i := 7) (N := some 48) (v := ?_) (a' := ?_) #[true, true, true, true, true, true, true, true, false, true, true, true, true, false, false, false, false] rfl rfl (any_of HT_.out (by kernel_rfl)) (fun _ _ _ h => h) (Or.inl ⟨by rfl, ?_⟩) ?_ ?_
                rotate_left
                ·intro w'
                 go_simp
                 with_reducible rfl
                rotate_left
                ·simp only [Act.put, Kx.sb, Kx.sz, Kx.ss, i64_w, i32_w]
                 rfl
                refine join_ (σ := Value × Value × Nat) 1 #[true, true, true, true, true, true, true, true, true, true, true, true, true, true, true, true, false] (fun s_ => [(49, s_.1), (54, s_.2.1), (8, .pointer (some ⟨s_.2.2, 0, none⟩)), (55, .agg #[.int .i64 (wrap64 (rd t224 1)), .int .i64 (wrap64 (rd t224 3)), s_.2.1])]) (fun s_ w' => (w'.cell? ⟨ad228.block, ad228.off + 1, none⟩ = some (.int .u64 (rd t224 1)) ∧ w'.cell? ⟨ad228.block, ad228.off + 3, none⟩ = some (.int .u64 (rd t224 3))) ∧ (Kd.R (Kd.int .u8) 5 w' w.heap.size (fun _ => True) s_.2.1 y237) ∧ (Kd.R (Kd.int .u64) 68 w' w.heap.size (fun _ => True) (.slice (some ad228) t224.length co13) t224) ∧ (w'.heap[gb222]? = some (.cells #[.int .i64 0, .int .i64 0, .slice none 0 0] 25 (0, 0))) ∧ (w'.heap[s_.2.2]? = some (.cells #[.int .i64 0, .int .i64 0, .slice none 0 0] 25 (0, 0))) ∧ (w.heap.size ≤ s_.2.2) ∧ (w.heap.size ≤ s_.2.2) ∧ (gb222 ≠ s_.2.2) ∧ (s_.2.2 ≠ gb222) ∧ (Below w.heap.size w w')) ?_ ?_
                rotate_left
                ·intro hCont
                 refine two_ (i := 8) (j := 15) (Ni := some 49) (Nj := some 8) #[true, true, true, true, true, true, true, true, true, true, true, true, true, false, false, false, false] #[true, true, true, true, true, true, true, true, false, true, true, true, true, false, false, true, false] rfl rfl rfl rfl (two_of HT_.out (by kernel_rfl)) (by decide) (by decide) (fun K hK => ?_) (fun K hK => ?_)
                 ·skip
                  refine Kd.R_lit_step (Kd.int .u8) _ 5 ?hg (N := 49) ?hd (xs := ([] : List Int)) (inner := []) (ok := fun _ => True) (okp := fun _ => True) ?hr ?hp (fun _ hk => hk) trivial (Below.refl _ _) (Nat.le_refl _) (by simp) ?_; (case hd => rfl); (case hg => rfl); (case hr => first | (go_simp; done) | (go_simp; rfl)); (case hp => exact (Reps.none _ _))
                  intro v234 w50 ho51 hb hg_ hnew_
                  have HS0_ := (hb.cell (World.block_lt_of_cell? _ _ (hHeld.1))).trans (hHeld.1)
                  have HS1_ := (hb.cell (World.block_lt_of_cell? _ _ (hHeld.2))).trans (hHeld.2)
                  clear hg_ hnew_
                  (first | rw [← Ny233.out] at ho51 | (simp only [Int.reduceToNat] at ho51; rw [← Ny233.out] at ho51))
                  have n0_ := Aside0.mk (Kd.R_below (by (with_reducible repeat (first | apply Kd.R_alloc | apply Kd.R_drewN | apply Kd.R_drew)); exact HO_5.out) hb)
                  have n1_ := Aside0.mk (Kd.R_lower ho51 (below_size (by repeat (first | (with_reducible first | exact HB.out | apply below_alloc | apply pw_below_drewN | apply below_drew1 | refine below_set ?_ GE222.out) | exact HB.out))))
                  have n2_ := Aside0.mk (blk_below (g := gb222) (o := .cells #[.int .i64 0, .int .i64 0, .slice none 0 0] 25 (0, 0)) (by (with_reducible repeat (first | refine blk_drewN ?_ _ | refine blk_drew ?_ | refine blk_alloc ?_ _)); exact BK222.out) hb)
                  have n3_ := Aside0.mk (below_step (by repeat (first | (with_reducible first | exact HB.out | apply below_alloc | apply pw_below_drewN | apply below_drew1 | refine below_set ?_ GE222.out) | exact HB.out)) hb)
                  clear HO_5
                  clear BK222
                  clear HB
                  have HO_5 := n0_
                  have HO235 := n1_
                  have BK222 := n2_
                  have HB := n3_
                  clear n0_ n1_ n2_ n3_
                  clear hb ho51
                  refine hK.out _ _ ⟨HS0_, HS1_⟩ (fun hHeld => ?_)
                  clear hK K
                  refine norm_ (a' := ?_) ?_ ?_
                  rotate_left
                  ·show Act.put _ (some 49) _ = _
                   simp only [Act.put, Kx.sb, Kx.sz, Kx.ss, i64_w, i32_w]
                   rfl
                  refine two_ (i := 13) (j := 15) (Ni := some 54) (Nj := some 8) #[true, true, true, true, true, true, true, true, true, true, true, true, true, true, false, false, false] #[true, true, true, true, true, true, true, true, true, true, true, true, true, false, false, true, false] rfl rfl rfl rfl (two_of HT_.out (by kernel_rfl)) (by decide) (by decide) (fun K hK => ?_) (fun K hK => ?_)
                  ·skip
                   refine Kd.R_append_rows_step (Kd.int .u8) (w0 := w) w.heap.size (by rfl) (.tmp 49) (.tmp 53) 23 5 (.int .u8 0) 1 rfl Try.underlying23 info5 rfl (by decide) (by omega) v234 y233 ((l0.take ((wrap64 (t229 - 4)) : Int).toNat).drop 16) _ _ _ (fun _ => True) (fun _ => False) rfl rfl ?aO ?aR (fun _ _ h => h) (fun _ h => h.elim) ?aF ?aB ?aS ?aL ?_
                   (case aR => first | (rw [← show ((l0.take ((wrap64 (t229 - 4)) : Int).toNat).drop 16).length = ((wrap64 (t229 - 4)).toNat - 16) from (by rw [List.length_drop, List.length_take]; have h_ : ((wrap64 (t229 - 4)) : Int) ≤ (l0.length : Int) := of_decide_eq_true (by first | (with_reducible assumption) | assumption); omega)]; repeat (first | exact (Kd.C_below HR236.out HB.out) | (with_reducible refine Kd.C_alloc ?_ _) | (with_reducible refine Kd.C_drewN ?_ _) | (with_reducible refine Kd.C_drew ?_))) | (repeat (first | exact (Kd.C_below HR236.out HB.out) | (with_reducible refine Kd.C_alloc ?_ _) | (with_reducible refine Kd.C_drewN ?_ _) | (with_reducible refine Kd.C_drew ?_))))
                   (case aB => exact (by repeat (first | (with_reducible first | exact HB.out | apply below_alloc | apply pw_below_drewN | apply below_drew1 | refine below_set ?_ GE222.out) | exact HB.out)))
                   (case aF => exact (fun _ _ => trivial))
                   (case aO => exact (by (with_reducible repeat (first | apply Kd.R_alloc | apply Kd.R_drewN | apply Kd.R_drew)); exact HO235.out))
                   (case aS => exact (below_size (by repeat (first | (with_reducible first | exact HB.out | apply below_alloc | apply pw_below_drewN | apply below_drew1 | refine below_set ?_ GE222.out) | exact HB.out))))
                   (case aL => have := LMc23.out; have hlx_ := (show ((l0.take ((wrap64 (t229 - 4)) : Int).toNat).drop 16).length = ((wrap64 (t229 - 4)).toNat - 16) from (by rw [List.length_drop, List.length_take]; have h_ : ((wrap64 (t229 - 4)) : Int) ≤ (l0.length : Int) := of_decide_eq_true (by first | (with_reducible assumption) | assumption); omega)); omega)
                   intro v238 w52 ho hb hg hat
                   have HN0_ := Go.Proofs.Ytcemlfkboifncaa.Kx.R_blk_ne HO_5.out HO235.out (by decide)
                   have HS0_ := cell_grown hg (hHeld.1) (by first | (rw [add_block]; exact HN0_) | (show some (Addr.add _ _).block ≠ _; rw [add_block]; exact HN0_) | exact HN0_)
                   have HN1_ := Go.Proofs.Ytcemlfkboifncaa.Kx.R_blk_ne HO_5.out HO235.out (by decide)
                   have HS1_ := cell_grown hg (hHeld.2) (by first | (rw [add_block]; exact HN1_) | (show some (Addr.add _ _).block ≠ _; rw [add_block]; exact HN1_) | exact HN1_)
                   rw [← Ny237.out] at ho
                   have n0_ := Aside0.mk (Kd.R_over' (by (with_reducible repeat (first | apply Kd.R_alloc | apply Kd.R_drewN | apply Kd.R_drew)); exact HO_5.out) (Kd.R_typed (by (with_reducible repeat (first | apply Kd.R_alloc | apply Kd.R_drewN | apply Kd.R_drew)); exact HO235.out)) (by decide) hg)
                   have n1_ := Aside0.mk (blk_grown (g := gb222) (o := .cells #[.int .i64 0, .int .i64 0, .slice none 0 0] 25 (0, 0)) (by (with_reducible repeat (first | refine blk_drewN ?_ _ | refine blk_drew ?_ | refine blk_alloc ?_ _)); exact BK222.out) hg (Kd.R_ne HO235.out BK222.out (by decide)))
                   have n2_ := Aside0.mk (hb)
                   have n3_ := Aside0.mk (ho)
                   clear HO_5
                   clear BK222
                   clear HB
                   clear HO235
                   have HO_5 := n0_
                   have BK222 := n1_
                   have HB := n2_
                   have HO239 := n3_
                   clear n0_ n1_ n2_ n3_
                   clear ho hb hg hat
                   obtain ⟨Ao53, co53, eo53⟩ := Kd.R_slice HO239.out
                   (first | subst eo53 | (injection eo53 with f1_ f2_ f3_; have f4_ := f1_.symm; have f5_ := f3_.symm; clear f1_ f2_ f3_; subst f4_; subst f5_))
                   refine hK.out _ _ ⟨HS0_, HS1_⟩ (fun hHeld => ?_)
                   clear hK K
                   refine norm_ (a' := ?_) ?_ ?_
                   rotate_left
                   ·show Act.put _ (some 54) _ = _
                    simp only [Act.put, Kx.sb, Kx.sz, Kx.ss, i64_w, i32_w]
                    rfl
                   refine pure_ (i := 14) (N := some 55) (v := ?_) (a' := ?_) #[true, true, true, true, true, true, true, true, true, true, true, true, true, true, true, false, false] rfl rfl (any_of HT_.out (by kernel_rfl)) (fun _ _ _ h => h) (Or.inl ⟨by rfl, ?_⟩) ?_ ?_
                   rotate_left
                   ·intro w'
                    go_simp
                    with_reducible rfl
                   rotate_left
                   ·simp only [Act.put, Kx.sb, Kx.sz, Kx.ss, i64_w, i32_w]
                    rfl
                   refine one_ (i := 15) (N := some 8) #[true, true, true, true, true, true, true, true, true, true, true, true, true, true, true, true, false] rfl rfl (one_of HT_.out (by kernel_rfl)) (by decide) (fun K hK => ?_)
                   refine box_step ?hg (N := 8) ?hd (cs := #[.int .i64 0, .int .i64 0, .slice none 0 0]) (t := 25) ?hr ?_; (case hd => rfl); (case hg => rfl); (case hr => first | (go_simp; done) | (go_simp; rfl))
                   intro gb240 hg w54 hbox hb
                   have HS0_ := (hb.cell (World.block_lt_of_cell? _ _ (hHeld.1))).trans (hHeld.1)
                   have HS1_ := (hb.cell (World.block_lt_of_cell? _ _ (hHeld.2))).trans (hHeld.2)
                   have n0_ := Aside0.mk (Kd.R_below (by (with_reducible repeat (first | apply Kd.R_alloc | apply Kd.R_drewN | apply Kd.R_drew)); exact HO_5.out) hb)
                   have n1_ := Aside0.mk (Kd.R_below (by (with_reducible repeat (first | apply Kd.R_alloc | apply Kd.R_drewN | apply Kd.R_drew)); exact HO239.out) hb)
                   have n2_ := Aside0.mk (blk_below (g := gb222) (o := .cells #[.int .i64 0, .int .i64 0, .slice none 0 0] 25 (0, 0)) (by (with_reducible repeat (first | refine blk_drewN ?_ _ | refine blk_drew ?_ | refine blk_alloc ?_ _)); exact BK222.out) hb)
                   have n3_ := Aside0.mk (below_step (by repeat (first | (with_reducible first | exact HB.out | apply below_alloc | apply pw_below_drewN | apply below_drew1 | refine below_set ?_ GE222.out) | exact HB.out)) hb)
                   have n4_ := Aside0.mk (hbox)
                   have n5_ := Aside0.mk ((by rw [hg]; exact (below_size (by repeat (first | (with_reducible first | exact HB.out | apply below_alloc | apply pw_below_drewN | apply below_drew1 | refine below_set ?_ GE222.out) | exact HB.out))) : w.heap.size ≤ gb240))
                   have n6_ := Aside0.mk ((by rw [hg]; exact (below_size (by repeat (first | (with_reducible first | exact HB.out | apply below_alloc | apply pw_below_drewN | apply below_drew1 | refine below_set ?_ GE222.out) | exact HB.out))) : w.heap.size ≤ gb240))
                   have n7_ := Aside0.mk ((by rw [hg]; exact Nat.ne_of_lt (blk_lt (g := gb222) (o := .cells #[.int .i64 0, .int .i64 0, .slice none 0 0] 25 (0, 0)) (by (with_reducible repeat (first | refine blk_drewN ?_ _ | refine blk_drew ?_ | refine blk_alloc ?_ _)); exact BK222.out)) : gb222 ≠ gb240))
                   have n8_ := Aside0.mk ((by rw [hg]; exact Nat.ne_of_gt (blk_lt (g := gb222) (o := .cells #[.int .i64 0, .int .i64 0, .slice none 0 0] 25 (0, 0)) (by (with_reducible repeat (first | refine blk_drewN ?_ _ | refine blk_drew ?_ | refine blk_alloc ?_ _)); exact BK222.out)) : gb240 ≠ gb222))
                   clear HO_5
                   clear HO239
                   clear BK222
                   clear HB
                   have HO_5 := n0_
                   have HO239 := n1_
                   have BK222 := n2_
                   have HB := n3_
                   have BK240 := n4_
                   have GW240 := n5_
                   have GE240 := n6_
                   have NB222_240 := n7_
                   have NB240_222 := n8_
                   clear n0_ n1_ n2_ n3_ n4_ n5_ n6_ n7_ n8_
                   clear hb hbox hg
                   refine hK.out _ _ ⟨HS0_, HS1_⟩ (fun hHeld => ?_)
                   clear hK K
                   refine norm_ (a' := ?_) ?_ ?_
                   rotate_left
                   ·show Act.put _ (some 8) _ = _
                    simp only [Act.put, Kx.sb, Kx.sz, Kx.ss, i64_w, i32_w]
                    rfl
                   exact norm_ (by simp only [putAll, Act.put, Kx.sb, Kx.sz, Kx.ss]) (hCont (v234, .slice Ao53 y237.length co53, gb240) _ ⟨hHeld, (by (with_reducible repeat (first | apply Kd.R_alloc | apply Kd.R_drewN | apply Kd.R_drew)); exact HO239.out), (by (with_reducible repeat (first | apply Kd.R_alloc | apply Kd.R_drewN | apply Kd.R_drew)); exact HO_5.out), (by (with_reducible repeat (first | refine blk_drewN ?_ _ | refine blk_drew ?_ | refine blk_alloc ?_ _)); exact BK222.out), (by (with_reducible repeat (first | refine blk_drewN ?_ _ | refine blk_drew ?_ | refine blk_alloc ?_ _)); exact BK240.out), GW240.out, GE240.out, NB222_240.out, NB240_222.out, (by repeat (first | (with_reducible first | exact HB.out | apply below_alloc | apply pw_below_drewN | apply below_drew1 | refine below_set ?_ GE222.out | refine below_set ?_ GE240.out) | exact HB.out))⟩)
                  ·skip
                   refine box_step ?hg (N := 8) ?hd (cs := #[.int .i64 0, .int .i64 0, .slice none 0 0]) (t := 25) ?hr ?_; (case hd => rfl); (case hg => rfl); (case hr => first | (go_simp; done) | (go_simp; rfl))
                   intro gb240 hg w52 hbox hb
                   have HS0_ := (hb.cell (World.block_lt_of_cell? _ _ (hHeld.1))).trans (hHeld.1)
                   have HS1_ := (hb.cell (World.block_lt_of_cell? _ _ (hHeld.2))).trans (hHeld.2)
                   have n0_ := Aside0.mk (Kd.R_below (by (with_reducible repeat (first | apply Kd.R_alloc | apply Kd.R_drewN | apply Kd.R_drew)); exact HO_5.out) hb)
                   have n1_ := Aside0.mk (Kd.R_below (by (with_reducible repeat (first | apply Kd.R_alloc | apply Kd.R_drewN | apply Kd.R_drew)); exact HO235.out) hb)
                   have n2_ := Aside0.mk (blk_below (g := gb222) (o := .cells #[.int .i64 0, .int .i64 0, .slice none 0 0] 25 (0, 0)) (by (with_reducible repeat (first | refine blk_drewN ?_ _ | refine blk_drew ?_ | refine blk_alloc ?_ _)); exact BK222.out) hb)
                   have n3_ := Aside0.mk (below_step (by repeat (first | (with_reducible first | exact HB.out | apply below_alloc | apply pw_below_drewN | apply below_drew1 | refine below_set ?_ GE222.out) | exact HB.out)) hb)
                   have n4_ := Aside0.mk (hbox)
                   have n5_ := Aside0.mk ((by rw [hg]; exact (below_size (by repeat (first | (with_reducible first | exact HB.out | apply below_alloc | apply pw_below_drewN | apply below_drew1 | refine below_set ?_ GE222.out) | exact HB.out))) : w.heap.size ≤ gb240))
                   have n6_ := Aside0.mk ((by rw [hg]; exact (below_size (by repeat (first | (with_reducible first | exact HB.out | apply below_alloc | apply pw_below_drewN | apply below_drew1 | refine below_set ?_ GE222.out) | exact HB.out))) : w.heap.size ≤ gb240))
                   have n7_ := Aside0.mk ((by rw [hg]; exact Nat.ne_of_lt (blk_lt (g := gb222) (o := .cells #[.int .i64 0, .int .i64 0, .slice none 0 0] 25 (0, 0)) (by (with_reducible repeat (first | refine blk_drewN ?_ _ | refine blk_drew ?_ | refine blk_alloc ?_ _)); exact BK222.out)) : gb222 ≠ gb240))
                   have n8_ := Aside0.mk ((by rw [hg]; exact Nat.ne_of_gt (blk_lt (g := gb222) (o := .cells #[.int .i64 0, .int .i64 0, .slice none 0 0] 25 (0, 0)) (by (with_reducible repeat (first | refine blk_drewN ?_ _ | refine blk_drew ?_ | refine blk_alloc ?_ _)); exact BK222.out)) : gb240 ≠ gb222))
                   clear HO_5
                   clear HO235
                   clear BK222
                   clear HB
                   have HO_5 := n0_
                   have HO235 := n1_
                   have BK222 := n2_
                   have HB := n3_
                   have BK240 := n4_
                   have GW240 := n5_
                   have GE240 := n6_
                   have NB222_240 := n7_
                   have NB240_222 := n8_
                   clear n0_ n1_ n2_ n3_ n4_ n5_ n6_ n7_ n8_
                   clear hb hbox hg
                   refine hK.out _ _ ⟨HS0_, HS1_⟩ (fun hHeld => ?_)
                   clear hK K
                   refine norm_ (a' := ?_) ?_ ?_
                   rotate_left
                   ·show Act.put _ (some 8) _ = _
                    simp only [Act.put, Kx.sb, Kx.sz, Kx.ss, i64_w, i32_w]
                    rfl
                   refine one_ (i := 13) (N := some 54) #[true, true, true, true, true, true, true, true, true, true, true, true, true, true, false, true, false] rfl rfl (one_of HT_.out (by kernel_rfl)) (by decide) (fun K hK => ?_)
                   refine Kd.R_append_rows_step (Kd.int .u8) (w0 := w) w.heap.size (by rfl) (.tmp 49) (.tmp 53) 23 5 (.int .u8 0) 1 rfl Try.underlying23 info5 rfl (by decide) (by omega) v234 y233 ((l0.take ((wrap64 (t229 - 4)) : Int).toNat).drop 16) _ _ _ (fun _ => True) (fun _ => False) rfl rfl ?aO ?aR (fun _ _ h => h) (fun _ h => h.elim) ?aF ?aB ?aS ?aL ?_
                   (case aR => first | (rw [← show ((l0.take ((wrap64 (t229 - 4)) : Int).toNat).drop 16).length = ((wrap64 (t229 - 4)).toNat - 16) from (by rw [List.length_drop, List.length_take]; have h_ : ((wrap64 (t229 - 4)) : Int) ≤ (l0.length : Int) := of_decide_eq_true (by first | (with_reducible assumption) | assumption); omega)]; repeat (first | exact (Kd.C_below HR236.out HB.out) | (with_reducible refine Kd.C_alloc ?_ _) | (with_reducible refine Kd.C_drewN ?_ _) | (with_reducible refine Kd.C_drew ?_))) | (repeat (first | exact (Kd.C_below HR236.out HB.out) | (with_reducible refine Kd.C_alloc ?_ _) | (with_reducible refine Kd.C_drewN ?_ _) | (with_reducible refine Kd.C_drew ?_))))
                   (case aB => exact (by repeat (first | (with_reducible first | exact HB.out | apply below_alloc | apply pw_below_drewN | apply below_drew1 | refine below_set ?_ GE222.out | refine below_set ?_ GE240.out) | exact HB.out)))
                   (case aF => exact (fun _ _ => trivial))
                   (case aO => exact (by (with_reducible repeat (first | apply Kd.R_alloc | apply Kd.R_drewN | apply Kd.R_drew)); exact HO235.out))
                   (case aS => exact (below_size (by repeat (first | (with_reducible first | exact HB.out | apply below_alloc | apply pw_below_drewN | apply below_drew1 | refine below_set ?_ GE222.out | refine below_set ?_ GE240.out) | exact HB.out))))
                   (case aL => have := LMc23.out; have hlx_ := (show ((l0.take ((wrap64 (t229 - 4)) : Int).toNat).drop 16).length = ((wrap64 (t229 - 4)).toNat - 16) from (by rw [List.length_drop, List.length_take]; have h_ : ((wrap64 (t229 - 4)) : Int) ≤ (l0.length : Int) := of_decide_eq_true (by first | (with_reducible assumption) | assumption); omega)); omega)
                   intro v238 w53 ho hb hg hat
                   have HN0_ := Go.Proofs.Ytcemlfkboifncaa.Kx.R_blk_ne HO_5.out HO235.out (by decide)
                   have HS0_ := cell_grown hg (hHeld.1) (by first | (rw [add_block]; exact HN0_) | (show some (Addr.add _ _).block ≠ _; rw [add_block]; exact HN0_) | exact HN0_)
                   have HN1_ := Go.Proofs.Ytcemlfkboifncaa.Kx.R_blk_ne HO_5.out HO235.out (by decide)
                   have HS1_ := cell_grown hg (hHeld.2) (by first | (rw [add_block]; exact HN1_) | (show some (Addr.add _ _).block ≠ _; rw [add_block]; exact HN1_) | exact HN1_)
                   rw [← Ny237.out] at ho
                   have n0_ := Aside0.mk (Kd.R_over' (by (with_reducible repeat (first | apply Kd.R_alloc | apply Kd.R_drewN | apply Kd.R_drew)); exact HO_5.out) (Kd.R_typed (by (with_reducible repeat (first | apply Kd.R_alloc | apply Kd.R_drewN | apply Kd.R_drew)); exact HO235.out)) (by decide) hg)
                   have n1_ := Aside0.mk (blk_grown (g := gb222) (o := .cells #[.int .i64 0, .int .i64 0, .slice none 0 0] 25 (0, 0)) (by (with_reducible repeat (first | refine blk_drewN ?_ _ | refine blk_drew ?_ | refine blk_alloc ?_ _)); exact BK222.out) hg (Kd.R_ne HO235.out BK222.out (by decide)))
                   have n2_ := Aside0.mk (blk_grown (g := gb240) (o := .cells #[.int .i64 0, .int .i64 0, .slice none 0 0] 25 (0, 0)) (by (with_reducible repeat (first | refine blk_drewN ?_ _ | refine blk_drew ?_ | refine blk_alloc ?_ _)); exact BK240.out) hg (Kd.R_ne HO235.out BK240.out (by decide)))
                   have n3_ := Aside0.mk (hb)
                   have n4_ := Aside0.mk (ho)
                   clear HO_5
                   clear BK222
                   clear BK240
                   clear HB
                   clear HO235
                   have HO_5 := n0_
                   have BK222 := n1_
                   have BK240 := n2_
                   have HB := n3_
                   have HO239 := n4_
                   clear n0_ n1_ n2_ n3_ n4_
                   clear ho hb hg hat
                   obtain ⟨Ao54, co54, eo54⟩ := Kd.R_slice HO239.out
                   (first | subst eo54 | (injection eo54 with f1_ f2_ f3_; have f4_ := f1_.symm; have f5_ := f3_.symm; clear f1_ f2_ f3_; subst f4_; subst f5_))
                   refine hK.out _ _ ⟨HS0_, HS1_⟩ (fun hHeld => ?_)
                   clear hK K
                   refine norm_ (a' := ?_) ?_ ?_
                   rotate_left
                   ·show Act.put _ (some 54) _ = _
                    simp only [Act.put, Kx.sb, Kx.sz, Kx.ss, i64_w, i32_w]
                    rfl
                   refine pure_ (i := 14) (N := some 55) (v := ?_) (a' := ?_) #[true, true, true, true, true, true, true, true, true, true, true, true, true, true, true, true, false] rfl rfl (any_of HT_.out (by kernel_rfl)) (fun _ _ _ h => h) (Or.inl ⟨by rfl, ?_⟩) ?_ ?_
                   rotate_left
                   ·intro w'
                    go_simp
                    with_reducible rfl
                   rotate_left
                   ·simp only [Act.put, Kx.sb, Kx.sz, Kx.ss, i64_w, i32_w]
                    rfl
                   exact norm_ (by simp only [putAll, Act.put, Kx.sb, Kx.sz, Kx.ss]) (hCont (v234, .slice Ao54 y237.length co54, gb240) _ ⟨hHeld, (by (with_reducible repeat (first | apply Kd.R_alloc | apply Kd.R_drewN | apply Kd.R_drew)); exact HO239.out), (by (with_reducible repeat (first | apply Kd.R_alloc | apply Kd.R_drewN | apply Kd.R_drew)); exact HO_5.out), (by (with_reducible repeat (first | refine blk_drewN ?_ _ | refine blk_drew ?_ | refine blk_alloc ?_ _)); exact BK222.out), (by (with_reducible repeat (first | refine blk_drewN ?_ _ | refine blk_drew ?_ | refine blk_alloc ?_ _)); exact BK240.out), GW240.out, GE240.out, NB222_240.out, NB240_222.out, (by repeat (first | (with_reducible first | exact HB.out | apply below_alloc | apply pw_below_drewN | apply below_drew1 | refine below_set ?_ GE222.out | refine below_set ?_ GE240.out) | exact HB.out))⟩)
                 ·skip
                  refine box_step ?hg (N := 8) ?hd (cs := #[.int .i64 0, .int .i64 0, .slice none 0 0]) (t := 25) ?hr ?_; (case hd => rfl); (case hg => rfl); (case hr => first | (go_simp; done) | (go_simp; rfl))
                  intro gb240 hg w50 hbox hb
                  have HS0_ := (hb.cell (World.block_lt_of_cell? _ _ (hHeld.1))).trans (hHeld.1)
                  have HS1_ := (hb.cell (World.block_lt_of_cell? _ _ (hHeld.2))).trans (hHeld.2)
                  have n0_ := Aside0.mk (Kd.R_below (by (with_reducible repeat (first | apply Kd.R_alloc | apply Kd.R_drewN | apply Kd.R_drew)); exact HO_5.out) hb)
                  have n1_ := Aside0.mk (blk_below (g := gb222) (o := .cells #[.int .i64 0, .int .i64 0, .slice none 0 0] 25 (0, 0)) (by (with_reducible repeat (first | refine blk_drewN ?_ _ | refine blk_drew ?_ | refine blk_alloc ?_ _)); exact BK222.out) hb)
                  have n2_ := Aside0.mk (below_step (by repeat (first | (with_reducible first | exact HB.out | apply below_alloc | apply pw_below_drewN | apply below_drew1 | refine below_set ?_ GE222.out) | exact HB.out)) hb)
                  have n3_ := Aside0.mk (hbox)
                  have n4_ := Aside0.mk ((by rw [hg]; exact (below_size (by repeat (first | (with_reducible first | exact HB.out | apply below_alloc | apply pw_below_drewN | apply below_drew1 | refine below_set ?_ GE222.out) | exact HB.out))) : w.heap.size ≤ gb240))
                  have n5_ := Aside0.mk ((by rw [hg]; exact (below_size (by repeat (first | (with_reducible first | exact HB.out | apply below_alloc | apply pw_below_drewN | apply below_drew1 | refine below_set ?_ GE222.out) | exact HB.out))) : w.heap.size ≤ gb240))
                  have n6_ := Aside0.mk ((by rw [hg]; exact Nat.ne_of_lt (blk_lt (g := gb222) (o := .cells #[.int .i64 0, .int .i64 0, .slice none 0 0] 25 (0, 0)) (by (with_reducible repeat (first | refine blk_drewN ?_ _ | refine blk_drew ?_ | refine blk_alloc ?_ _)); exact BK222.out)) : gb222 ≠ gb240))
                  have n7_ := Aside0.mk ((by rw [hg]; exact Nat.ne_of_gt (blk_lt (g := gb222) (o := .cells #[.int .i64 0, .int .i64 0, .slice none 0 0] 25 (0, 0)) (by (with_reducible repeat (first | refine blk_drewN ?_ _ | refine blk_drew ?_ | refine blk_alloc ?_ _)); exact BK222.out)) : gb240 ≠ gb222))
                  clear HO_5
                  clear BK222
                  clear HB
                  have HO_5 := n0_
                  have BK222 := n1_
                  have HB := n2_
                  have BK240 := n3_
                  have GW240 := n4_
                  have GE240 := n5_
                  have NB222_240 := n6_
                  have NB240_222 := n7_
                  clear n0_ n1_ n2_ n3_ n4_ n5_ n6_ n7_
                  clear hb hbox hg
                  refine hK.out _ _ ⟨HS0_, HS1_⟩ (fun hHeld => ?_)
                  clear hK K
                  refine norm_ (a' := ?_) ?_ ?_
                  rotate_left
                  ·show Act.put _ (some 8) _ = _
                   simp only [Act.put, Kx.sb, Kx.sz, Kx.ss, i64_w, i32_w]
                   rfl
                  refine one_ (i := 8) (N := some 49) #[true, true, true, true, true, true, true, true, true, true, true, true, true, false, false, true, false] rfl rfl (one_of HT_.out (by kernel_rfl)) (by decide) (fun K hK => ?_)
                  refine Kd.R_lit_step (Kd.int .u8) _ 5 ?hg (N := 49) ?hd (xs := ([] : List Int)) (inner := []) (ok := fun _ => True) (okp := fun _ => True) ?hr ?hp (fun _ hk => hk) trivial (Below.refl _ _) (Nat.le_refl _) (by simp) ?_; (case hd => rfl); (case hg => rfl); (case hr => first | (go_simp; done) | (go_simp; rfl)); (case hp => exact (Reps.none _ _))
                  intro v234 w51 ho52 hb hg_ hnew_
                  have HS0_ := (hb.cell (World.block_lt_of_cell? _ _ (hHeld.1))).trans (hHeld.1)
                  have HS1_ := (hb.cell (World.block_lt_of_cell? _ _ (hHeld.2))).trans (hHeld.2)
                  clear hg_ hnew_
                  (first | rw [← Ny233.out] at ho52 | (simp only [Int.reduceToNat] at ho52; rw [← Ny233.out] at ho52))
                  have n0_ := Aside0.mk (Kd.R_below (by (with_reducible repeat (first | apply Kd.R_alloc | apply Kd.R_drewN | apply Kd.R_drew)); exact HO_5.out) hb)
                  have n1_ := Aside0.mk (Kd.R_lower ho52 (below_size (by repeat (first | (with_reducible first | exact HB.out | apply below_alloc | apply pw_below_drewN | apply below_drew1 | refine below_set ?_ GE222.out | refine below_set ?_ GE240.out) | exact HB.out))))
                  have n2_ := Aside0.mk (blk_below (g := gb222) (o := .cells #[.int .i64 0, .int .i64 0, .slice none 0 0] 25 (0, 0)) (by (with_reducible repeat (first | refine blk_drewN ?_ _ | refine blk_drew ?_ | refine blk_alloc ?_ _)); exact BK222.out) hb)
                  have n3_ := Aside0.mk (blk_below (g := gb240) (o := .cells #[.int .i64 0, .int .i64 0, .slice none 0 0] 25 (0, 0)) (by (with_reducible repeat (first | refine blk_drewN ?_ _ | refine blk_drew ?_ | refine blk_alloc ?_ _)); exact BK240.out) hb)
                  have n4_ := Aside0.mk (below_step (by repeat (first | (with_reducible first | exact HB.out | apply below_alloc | apply pw_below_drewN | apply below_drew1 | refine below_set ?_ GE222.out | refine below_set ?_ GE240.out) | exact HB.out)) hb)
                  clear HO_5
                  clear BK222
                  clear BK240
                  clear HB
                  have HO_5 := n0_
                  have HO235 := n1_
                  have BK222 := n2_
                  have BK240 := n3_
                  have HB := n4_
                  clear n0_ n1_ n2_ n3_ n4_
                  clear hb ho52
                  refine hK.out _ _ ⟨HS0_, HS1_⟩ (fun hHeld => ?_)
                  clear hK K
                  refine norm_ (a' := ?_) ?_ ?_
                  rotate_left
                  ·show Act.put _ (some 49) _ = _
                   simp only [Act.put, Kx.sb, Kx.sz, Kx.ss, i64_w, i32_w]
                   rfl
                  refine one_ (i := 13) (N := some 54) #[true, true, true, true, true, true, true, true, true, true, true, true, true, true, false, true, false] rfl rfl (one_of HT_.out (by kernel_rfl)) (by decide) (fun K hK => ?_)
                  refine Kd.R_append_rows_step (Kd.int .u8) (w0 := w) w.heap.size (by rfl) (.tmp 49) (.tmp 53) 23 5 (.int .u8 0) 1 rfl Try.underlying23 info5 rfl (by decide) (by omega) v234 y233 ((l0.take ((wrap64 (t229 - 4)) : Int).toNat).drop 16) _ _ _ (fun _ => True) (fun _ => False) rfl rfl ?aO ?aR (fun _ _ h => h) (fun _ h => h.elim) ?aF ?aB ?aS ?aL ?_
                  (case aR => first | (rw [← show ((l0.take ((wrap64 (t229 - 4)) : Int).toNat).drop 16).length = ((wrap64 (t229 - 4)).toNat - 16) from (by rw [List.length_drop, List.length_take]; have h_ : ((wrap64 (t229 - 4)) : Int) ≤ (l0.length : Int) := of_decide_eq_true (by first | (with_reducible assumption) | assumption); omega)]; repeat (first | exact (Kd.C_below HR236.out HB.out) | (with_reducible refine Kd.C_alloc ?_ _) | (with_reducible refine Kd.C_drewN ?_ _) | (with_reducible refine Kd.C_drew ?_))) | (repeat (first | exact (Kd.C_below HR236.out HB.out) | (with_reducible refine Kd.C_alloc ?_ _) | (with_reducible refine Kd.C_drewN ?_ _) | (with_reducible refine Kd.C_drew ?_))))
                  (case aB => exact (by repeat (first | (with_reducible first | exact HB.out | apply below_alloc | apply pw_below_drewN | apply below_drew1 | refine below_set ?_ GE222.out | refine below_set ?_ GE240.out) | exact HB.out)))
                  (case aF => exact (fun _ _ => trivial))
                  (case aO => exact (by (with_reducible repeat (first | apply Kd.R_alloc | apply Kd.R_drewN | apply Kd.R_drew)); exact HO235.out))
                  (case aS => exact (below_size (by repeat (first | (with_reducible first | exact HB.out | apply below_alloc | apply pw_below_drewN | apply below_drew1 | refine below_set ?_ GE222.out | refine below_set ?_ GE240.out) | exact HB.out))))
                  (case aL => have := LMc23.out; have hlx_ := (show ((l0.take ((wrap64 (t229 - 4)) : Int).toNat).drop 16).length = ((wrap64 (t229 - 4)).toNat - 16) from (by rw [List.length_drop, List.length_take]; have h_ : ((wrap64 (t229 - 4)) : Int) ≤ (l0.length : Int) := of_decide_eq_true (by first | (with_reducible assumption) | assumption); omega)); omega)
                  intro v238 w53 ho hb hg hat
                  have HN0_ := Go.Proofs.Ytcemlfkboifncaa.Kx.R_blk_ne HO_5.out HO235.out (by decide)
                  have HS0_ := cell_grown hg (hHeld.1) (by first | (rw [add_block]; exact HN0_) | (show some (Addr.add _ _).block ≠ _; rw [add_block]; exact HN0_) | exact HN0_)
                  have HN1_ := Go.Proofs.Ytcemlfkboifncaa.Kx.R_blk_ne HO_5.out HO235.out (by decide)
                  have HS1_ := cell_grown hg (hHeld.2) (by first | (rw [add_block]; exact HN1_) | (show some (Addr.add _ _).block ≠ _; rw [add_block]; exact HN1_) | exact HN1_)
                  rw [← Ny237.out] at ho
                  have n0_ := Aside0.mk (Kd.R_over' (by (with_reducible repeat (first | apply Kd.R_alloc | apply Kd.R_drewN | apply Kd.R_drew)); exact HO_5.out) (Kd.R_typed (by (with_reducible repeat (first | apply Kd.R_alloc | apply Kd.R_drewN | apply Kd.R_drew)); exact HO235.out)) (by decide) hg)
                  have n1_ := Aside0.mk (blk_grown (g := gb222) (o := .cells #[.int .i64 0, .int .i64 0, .slice none 0 0] 25 (0, 0)) (by (with_reducible repeat (first | refine blk_drewN ?_ _ | refine blk_drew ?_ | refine blk_alloc ?_ _)); exact BK222.out) hg (Kd.R_ne HO235.out BK222.out (by decide)))
                  have n2_ := Aside0.mk (blk_grown (g := gb240) (o := .cells #[.int .i64 0, .int .i64 0, .slice none 0 0] 25 (0, 0)) (by (with_reducible repeat (first | refine blk_drewN ?_ _ | refine blk_drew ?_ | refine blk_alloc ?_ _)); exact BK240.out) hg (Kd.R_ne HO235.out BK240.out (by decide)))
                  have n3_ := Aside0.mk (hb)
                  have n4_ := Aside0.mk (ho)
                  clear HO_5
                  clear BK222
                  clear BK240
                  clear HB
                  clear HO235
                  have HO_5 := n0_
                  have BK222 := n1_
                  have BK240 := n2_
                  have HB := n3_
                  have HO239 := n4_
                  clear n0_ n1_ n2_ n3_ n4_
                  clear ho hb hg hat
                  obtain ⟨Ao54, co54, eo54⟩ := Kd.R_slice HO239.out
                  (first | subst eo54 | (injection eo54 with f1_ f2_ f3_; have f4_ := f1_.symm; have f5_ := f3_.symm; clear f1_ f2_ f3_; subst f4_; subst f5_))
                  refine hK.out _ _ ⟨HS0_, HS1_⟩ (fun hHeld => ?_)
                  clear hK K
                  refine norm_ (a' := ?_) ?_ ?_
                  rotate_left
                  ·show Act.put _ (some 54) _ = _
                   simp only [Act.put, Kx.sb, Kx.sz, Kx.ss, i64_w, i32_w]
                   rfl
                  refine pure_ (i := 14) (N := some 55) (v := ?_) (a' := ?_) #[true, true, true, true, true, true, true, true, true, true, true, true, true, true, true, true, false] rfl rfl (any_of HT_.out (by kernel_rfl)) (fun _ _ _ h => h) (Or.inl ⟨by rfl, ?_⟩) ?_ ?_
                  rotate_left
                  ·intro w'
                   go_simp
                   with_reducible rfl
                  rotate_left
                  ·simp only [Act.put, Kx.sb, Kx.sz, Kx.ss, i64_w, i32_w]
                   rfl
                  exact norm_ (by simp only [putAll, Act.put, Kx.sb, Kx.sz, Kx.ss]) (hCont (v234, .slice Ao54 y237.length co54, gb240) _ ⟨hHeld, (by (with_reducible repeat (first | apply Kd.R_alloc | apply Kd.R_drewN | apply Kd.R_drew)); exact HO239.out), (by (with_reducible repeat (first | apply Kd.R_alloc | apply Kd.R_drewN | apply Kd.R_drew)); exact HO_5.out), (by (with_reducible repeat (first | refine blk_drewN ?_ _ | refine blk_drew ?_ | refine blk_alloc ?_ _)); exact BK222.out), (by (with_reducible repeat (first | refine blk_drewN ?_ _ | refine blk_drew ?_ | refine blk_alloc ?_ _)); exact BK240.out), GW240.out, GE240.out, NB222_240.out, NB240_222.out, (by repeat (first | (with_reducible first | exact HB.out | apply below_alloc | apply pw_below_drewN | apply below_drew1 | refine below_set ?_ GE222.out | refine below_set ?_ GE240.out) | exact HB.out))⟩)
                rintro ⟨v234, v238, gb240⟩ w55 ⟨hS_, h0_, h1_, h2_, h3_, h4_, h5_, h6_, h7_, h8_⟩
                have n0_ : Aside0 (Kd.R (Kd.int .u8) 5 w55 w.heap.size (fun _ => True) v238 y237) := ⟨h0_⟩
                have n1_ : Aside0 (Kd.R (Kd.int .u64) 68 w55 w.heap.size (fun _ => True) (.slice (some ad228) t224.length co13) t224) := ⟨h1_⟩
                have n2_ : Aside0 (w55.heap[gb222]? = some (.cells #[.int .i64 0, .int .i64 0, .slice none 0 0] 25 (0, 0))) := ⟨h2_⟩
                have n3_ : Aside0 (w55.heap[gb240]? = some (.cells #[.int .i64 0, .int .i64 0, .slice none 0 0] 25 (0, 0))) := ⟨h3_⟩
                have n4_ : Aside0 (w.heap.size ≤ gb240) := ⟨h4_⟩
                have n5_ : Aside0 (w.heap.size ≤ gb240) := ⟨h5_⟩
                have n6_ : Aside0 (gb222 ≠ gb240) := ⟨h6_⟩
                have n7_ : Aside0 (gb240 ≠ gb222) := ⟨h7_⟩
                have n8_ : Aside0 (Below w.heap.size w w55) := ⟨h8_⟩
                clear HO_5
                clear BK222
                clear HB
                clear h0_ h1_ h2_ h3_ h4_ h5_ h6_ h7_ h8_
                have HO239 := n0_
                have HO_5 := n1_
                have BK222 := n2_
                have BK240 := n3_
                have GW240 := n4_
                have GE240 := n5_
                have NB222_240 := n6_
                have NB240_222 := n7_
                have HB := n8_
                clear n0_ n1_ n2_ n3_ n4_ n5_ n6_ n7_ n8_
                have hHeld : w55.cell? ⟨ad228.block, ad228.off + 1, none⟩ = some (.int .u64 (rd t224 1)) ∧ w55.cell? ⟨ad228.block, ad228.off + 3, none⟩ = some (.int .u64 (rd t224 3)) := hS_
                obtain ⟨Ao56, co56, eo56⟩ := Kd.R_slice HO239.out
                (first | subst eo56 | (injection eo56 with f1_ f2_ f3_; have f4_ := f1_.symm; have f5_ := f3_.symm; clear f1_ f2_ f3_; subst f4_; subst f5_))
                refine norm_ (a' := ?_) ?_ ?_
                rotate_left
                ·simp only [putAll, Act.put, Kx.sb, Kx.sz, Kx.ss]
                 rfl
                refine last_ (i := 16) (N := none) #[true, true, true, true, true, true, true, true, true, true, true, true, true, true, true, true, true] rfl rfl (one_of HT_.out (by kernel_rfl)) (by decide) (fun K hK => ?_)
                have hs57 : w55.cell? ⟨gb240, 0, none⟩ = some (.int .i64 0) := (blk_cell BK240.out 0).trans rfl
                have hfs57 := blk_frozen BK240.out 0
                have hns57_0 := NB222_240.out
                have hms57_0 := NB240_222.out
                have hs58 : w55.cell? ⟨gb240, 1, none⟩ = some (.int .i64 0) := (blk_cell BK240.out 1).trans rfl
                have hfs58 := blk_frozen BK240.out 1
                have hns58_0 := NB222_240.out
                have hms58_0 := NB240_222.out
                have hs59 : w55.cell? ⟨gb240, 2, none⟩ = some (.slice none 0 0) := (blk_cell BK240.out 2).trans rfl
                have hfs59 := blk_frozen BK240.out 2
                have hns59_0 := NB222_240.out
                have hms59_0 := NB240_222.out
                refine skip_ (w1 := ?_) (by rfl) rfl ?_ ?_
                rotate_left
                ·go_simp
                 rfl
                refine hK.out _ _ ?_
                clear hK K
                refine done_ (done_of HT_.out (by kernel_rfl)) ?_
                have hnb60 := NB240_222.out
                have hnc60 := NB222_240.out
                have hcz61_0 : w55.cell? ⟨gb240, 0, none⟩ = some (.int .i64 0) := (blk_cell BK240.out 0).trans rfl
                have hcz61_1 : w55.cell? ⟨gb240, 1, none⟩ = some (.int .i64 0) := (blk_cell BK240.out 1).trans rfl
                have hcz61_2 : w55.cell? ⟨gb240, 2, none⟩ = some (.slice none 0 0) := (blk_cell BK240.out 2).trans rfl
                have hfz61_0 := blk_frozen BK240.out 0
                have hfz61_1 := blk_frozen BK240.out 1
                have hfz61_2 := blk_frozen BK240.out 2
                try go_wp2_with (first | ((with_reducible refine gate_callee (f := 20) rfl ?_); refine goesL_ (some 58) rfl rfl Try.func20 (by kernel_rfl) rfl #[.agg #[.int .i64 (wrap64 (rd t224 1)), .int .i64 (wrap64 (rd t224 3)), .slice Ao56 y237.length co56]] rfl (by (try simp only [List.map_toArray, List.map_cons, List.map_nil]); first | done | rfl | (simp only [List.length_drop, List.length_take]; rfl)) ?_; (with_reducible refine (waggonerref05_Write.calls (wrap64 (rd t224 1)) (wrap64 (rd t224 3)) _ _ y237 t241 t244 _ ?side1 ?side2 A24.out).mono ?_); (case side1 => refine (Kd.R_reads' (e := 5) (base := w.heap.size) (ok := fun k_ => True) (n := y237.length) (c := co56) ?_).2.2; exact (by (with_reducible repeat (first | apply Kd.R_alloc | apply Kd.R_drewN | apply Kd.R_drew)); exact (Kd.R_mono (Kd.R_far (p := ⟨gb240, 2, none⟩) (Kd.R_far (p := ⟨gb240, 1, none⟩) (Kd.R_far (p := ⟨gb240, 0, none⟩) (Kd.R_types HO239.out BK240.out (by decide)) (fun _ hk => hk.2) (.int .i64 (wrap64 (rd t224 1)))) (fun _ hk => hk.2) (.int .i64 (wrap64 (rd t224 3)))) (fun _ hk => hk.2) (.slice Ao56 y237.length co56)) (fun _ h_ => h_.1)))); (case side2 => exact (Kd.R_reads' HO239.out).2.1); rintro e w62 ⟨v242, rfl, ho0, hb⟩; refine ⟨_, rfl, ?_⟩; have n0_ := Aside0.mk (Kd.R_below (by (with_reducible repeat (first | apply Kd.R_alloc | apply Kd.R_drewN | apply Kd.R_drew)); exact (Kd.R_mono (Kd.R_far (p := ⟨gb240, 2, none⟩) (Kd.R_far (p := ⟨gb240, 1, none⟩) (Kd.R_far (p := ⟨gb240, 0, none⟩) (Kd.R_types HO_5.out BK240.out (by decide)) (fun _ hk => hk.2) (.int .i64 (wrap64 (rd t224 1)))) (fun _ hk => hk.2) (.int .i64 (wrap64 (rd t224 3)))) (fun _ hk => hk.2) (.slice Ao56 y237.length co56)) (fun _ h_ => h_.1))) hb); have n1_ := Aside0.mk (Kd.R_elder' (by (with_reducible repeat (first | apply Kd.R_alloc | apply Kd.R_drewN | apply Kd.R_drew)); exact (Kd.R_mono (Kd.R_far (p := ⟨gb240, 2, none⟩) (Kd.R_far (p := ⟨gb240, 1, none⟩) (Kd.R_far (p := ⟨gb240, 0, none⟩) (Kd.R_types HO239.out BK240.out (by decide)) (fun _ hk => hk.2) (.int .i64 (wrap64 (rd t224 1)))) (fun _ hk => hk.2) (.int .i64 (wrap64 (rd t224 3)))) (fun _ hk => hk.2) (.slice Ao56 y237.length co56)) (fun _ h_ => h_.1))) (Kd.R_base ho0) hb); have n2_ := Aside0.mk (Kd.R_lower (Kd.R_new' ho0 (Kd.R_lt (by (with_reducible repeat (first | apply Kd.R_alloc | apply Kd.R_drewN | apply Kd.R_drew)); exact (Kd.R_mono (Kd.R_far (p := ⟨gb240, 2, none⟩) (Kd.R_far (p := ⟨gb240, 1, none⟩) (Kd.R_far (p := ⟨gb240, 0, none⟩) (Kd.R_types HO239.out BK240.out (by decide)) (fun _ hk => hk.2) (.int .i64 (wrap64 (rd t224 1)))) (fun _ hk => hk.2) (.int .i64 (wrap64 (rd t224 3)))) (fun _ hk => hk.2) (.slice Ao56 y237.length co56)) (fun _ h_ => h_.1))))) (below_size (by repeat (first | (with_reducible first | exact HB.out | apply below_alloc | apply pw_below_drewN | apply below_drew1 | refine below_set ?_ GE222.out | refine below_set ?_ GE240.out) | exact HB.out)))); have n3_ := Aside0.mk (blk_below (g := gb222) (o := .cells #[.int .i64 0, .int .i64 0, .slice none 0 0] 25 (0, 0)) (by (with_reducible repeat (first | refine blk_drewN ?_ _ | refine blk_drew ?_ | refine blk_alloc ?_ _)); refine blk_far ?_ NB222_240.out _; (with_reducible repeat (first | refine blk_drewN ?_ _ | refine blk_drew ?_ | refine blk_alloc ?_ _)); refine blk_far ?_ NB222_240.out _; (with_reducible repeat (first | refine blk_drewN ?_ _ | refine blk_drew ?_ | refine blk_alloc ?_ _)); refine blk_far ?_ NB222_240.out _; (with_reducible repeat (first | refine blk_drewN ?_ _ | refine blk_drew ?_ | refine blk_alloc ?_ _)); exact BK222.out) hb); have n4_ := Aside0.mk (blk_below (g := gb240) (o := .cells #[.int .i64 (wrap64 (rd t224 1)), .int .i64 (wrap64 (rd t224 3)), .slice Ao56 y237.length co56] 25 (0, 0)) (by (with_reducible repeat (first | refine blk_drewN ?_ _ | refine blk_drew ?_ | refine blk_alloc ?_ _)); refine blk_put (cs := #[.int .i64 (wrap64 (rd t224 1)), .int .i64 (wrap64 (rd t224 3)), .slice none 0 0]) ?_ 2 _ rfl; (with_reducible repeat (first | refine blk_drewN ?_ _ | refine blk_drew ?_ | refine blk_alloc ?_ _)); refine blk_put (cs := #[.int .i64 (wrap64 (rd t224 1)), .int .i64 0, .slice none 0 0]) ?_ 1 _ rfl; (with_reducible repeat (first | refine blk_drewN ?_ _ | refine blk_drew ?_ | refine blk_alloc ?_ _)); refine blk_put (cs := #[.int .i64 0, .int .i64 0, .slice none 0 0]) ?_ 0 _ rfl; (with_reducible repeat (first | refine blk_drewN ?_ _ | refine blk_drew ?_ | refine blk_alloc ?_ _)); exact BK240.out) hb); have n5_ := Aside0.mk (below_step (by repeat (first | (with_reducible first | exact HB.out | apply below_alloc | apply pw_below_drewN | apply below_drew1 | refine below_set ?_ GE222.out | refine below_set ?_ GE240.out) | exact HB.out)) hb); clear HO_5; clear HO239; clear BK222; clear BK240; clear HB; have HO_5 := n0_; have HO239 := n1_; have HO243 := n2_; have BK222 := n3_; have BK240 := n4_; have HB := n5_; clear n0_ n1_ n2_ n3_ n4_ n5_; (try clear hb); (try clear hb2); (try clear hk); (try clear hi); (try clear ho0)))
                have n0_ := Aside0.mk (Kd.R_drew HO_5.out)
                have n1_ := Aside0.mk (Kd.R_drew HO239.out)
                have n2_ := Aside0.mk (Kd.R_drew HO243.out)
                have n3_ := Aside0.mk (blk_drew BK222.out)
                have n4_ := Aside0.mk (blk_drew BK240.out)
                have n5_ := Aside0.mk (below_drew1 HB.out)
                clear HO_5
                clear HO239
                clear HO243
                clear BK222
                clear BK240
                clear HB
                have HO_5 := n0_
                have HO239 := n1_
                have HO243 := n2_
                have BK222 := n3_
                have BK240 := n4_
                have HB := n5_
                clear n0_ n1_ n2_ n3_ n4_ n5_
                obtain ⟨i064, hi064, _, hsz64, _⟩ := info_parts info5
                obtain ⟨hcut64, hA64, hC64⟩ := print_take_of (P := Try.prog) (Value.int .u8) 0 23 5 .i64 Try.underlying23 hi064 hsz64 A0 c0 l0 t229 (of_decide_eq_true (by first | (with_reducible assumption) | assumption)) (of_decide_eq_true (by first | (with_reducible assumption) | assumption)) HC0.out
                have HR245 := Aside0.mk (Kd.C_of_reads (h1 := fun _ => rfl) (hA64 _ (Kd.reads_of_C HR0.out)))
                have HC245 := Aside0.mk hC64
                clear hA64 hC64 hi064 hsz64
                refine start_ (n := 11) (S := fun w' => (convert 23 9 (v242)).run Try.prog w' = .ok (.string (strOfNums t241)) w' ∧ (convert 23 9 (.slice A0 t229.toNat c0)).run Try.prog w' = .ok (.string (strOfNums (l0.take (t229 : Int).toNat))) w') (ds := []) #[false, false, false, false, false, false, false, false, false, false, false] (by kernel_rfl) rfl rfl ⟨(own_string (P := Try.prog) Try.underlying23 Try.underlying5 Try.underlying9 (Kd.own_of_R HO243.out)), (by have h_ := (Kd.C_string (P := Try.prog) (A := A0) (c := c0) Try.underlying23 Try.underlying5 Try.underlying9 (Kd.C_below HR245.out HB.out)); rw [show (l0.take (t229 : Int).toNat).length = t229.toNat from (by rw [List.length_take]; have h_ : (t229 : Int) ≤ (l0.length : Int) := of_decide_eq_true (by first | (with_reducible assumption) | assumption); omega)] at h_; exact h_)⟩ (fun hHeld => ?_); refine with_tabW waggonerref05_Read_p.tab9 waggonerref05_Read_p.bits9 (fun HT_ HW_ => ?_)
                generalize w62.drew = w63 at HO_5 HO239 HO243 BK222 BK240 HB HR245 hHeld ⊢
                refine pure_ (i := 0) (N := some 61) (v := ?_) (a' := ?_) #[true, false, false, false, false, false, false, false, false, false, false] rfl rfl (any_of HT_.out (by kernel_rfl)) (fun _ _ _ h => h) (Or.inl ⟨by rfl, ?_⟩) ?_ ?_
                rotate_left
                ·intro w'
                 go_simp
                 with_reducible rfl
                rotate_left
                ·simp only [Act.put, Kx.sb, Kx.sz, Kx.ss, i64_w, i32_w]
                 rfl
                refine pure_ (i := 1) (N := some 62) (v := ?_) (a' := ?_) #[true, true, false, false, false, false, false, false, false, false, false] rfl rfl (any_of HT_.out (by kernel_rfl)) (fun _ _ _ h => h) (Or.inl ⟨by rfl, ?_⟩) ?_ ?_
                rotate_left
                ·intro w'
                 go_simp
                 with_reducible rfl
                rotate_left
                ·simp only [Act.put, Kx.sb, Kx.sz, Kx.ss, i64_w, i32_w]
                 rfl
                refine pure_ (i := 2) (N := some 63) (v := ?_) (a' := ?_) #[true, true, true, false, false, false, false, false, false, false, false] rfl rfl (any_of HT_.out (by kernel_rfl)) (fun _ _ _ h => h) (Or.inl ⟨by rfl, ?_⟩) ?_ ?_
                rotate_left
                ·intro w'
                 go_simp
                 with_reducible rfl
                rotate_left
                ·simp only [Act.put, Kx.sb, Kx.sz, Kx.ss, i64_w, i32_w]
                 rfl
                refine pure_ (i := 3) (N := some 64) (v := ?_) (a' := ?_) #[true, true, true, true, false, false, false, false, false, false, false] rfl rfl (any_of HT_.out (by kernel_rfl)) (fun _ _ _ h => h) (Or.inl ⟨by rfl, ?_⟩) ?_ ?_
                rotate_left
                ·intro w'
                 go_simp
                 with_reducible rfl
                rotate_left
                ·simp only [Act.put, Kx.sb, Kx.sz, Kx.ss, i64_w, i32_w]
                 rfl
                refine pure_ (i := 5) (N := some 66) (v := ?_) (a' := ?_) #[true, true, true, true, false, true, false, false, false, false, false] rfl rfl (any_of HT_.out (by kernel_rfl)) (fun _ _ _ h => h) (Or.inl ⟨by rfl, ?_⟩) ?_ ?_
                rotate_left
                ·intro w'
                 go_simp
                 with_reducible rfl
                rotate_left
                ·simp only [Act.put, Kx.sb, Kx.sz, Kx.ss, i64_w, i32_w]
                 rfl
                refine pure_ (i := 6) (N := some 67) (v := ?_) (a' := ?_) #[true, true, true, true, false, true, true, false, false, false, false] rfl rfl (any_of HT_.out (by kernel_rfl)) (fun _ _ _ h => h) (Or.inl ⟨by rfl, ?_⟩) ?_ ?_
                rotate_left
                ·intro w'
                 go_simp
                 with_reducible rfl
                rotate_left
                ·simp only [Act.put, Kx.sb, Kx.sz, Kx.ss, i64_w, i32_w]
                 rfl
                refine pure_ (i := 7) (N := some 68) (v := ?_) (a' := ?_) #[true, true, true, true, false, true, true, true, false, false, false] rfl rfl (any_of HT_.out (by kernel_rfl)) (fun _ _ _ h => h) (Or.inl ⟨by rfl, ?_⟩) ?_ ?_
                rotate_left
                ·intro w'
                 go_simp
                 with_reducible rfl
                rotate_left
                ·simp only [Act.put, Kx.sb, Kx.sz, Kx.ss, i64_w, i32_w]
                 rfl
                refine take_ (i := 4) (N := some 65) (v := ?_) (a' := ?_) #[true, true, true, true, true, true, true, true, false, false, false] rfl rfl (take_ofW HT_.out HW_.out (by kernel_rfl)) (fun _ _ _ h => h) (Or.inl ⟨by rfl, ?_⟩) hHeld ?_ ?_
                rotate_left
                ·rintro w' ⟨s0, s1⟩
                 go_simp
                 with_reducible rfl
                rotate_left
                ·simp only [Act.put, Kx.sb, Kx.sz, Kx.ss, i64_w, i32_w]
                 rfl
                refine take_ (i := 8) (N := some 69) (v := ?_) (a' := ?_) #[true, true, true, true, true, true, true, true, true, false, false] rfl rfl (take_ofW HT_.out HW_.out (by kernel_rfl)) (fun _ _ _ h => h) (Or.inl ⟨by rfl, ?_⟩) hHeld ?_ ?_
                rotate_left
                ·rintro w' ⟨s0, s1⟩
                 go_simp
                 with_reducible rfl
                rotate_left
                ·simp only [Act.put, Kx.sb, Kx.sz, Kx.ss, i64_w, i32_w]
                 rfl
                refine pure_ (i := 9) (N := some 70) (v := ?_) (a' := ?_) #[true, true, true, true, true, true, true, true, true, true, false] rfl rfl (any_of HT_.out (by kernel_rfl)) (fun _ _ _ h => h) (Or.inl ⟨by rfl, ?_⟩) ?_ ?_
                rotate_left
                ·intro w'
                 go_simp
                 with_reducible rfl
                rotate_left
                ·simp only [Act.put, Kx.sb, Kx.sz, Kx.ss, i64_w, i32_w]
                 rfl
                refine pure_ (i := 10) (N := some 71) (v := ?_) (a' := ?_) #[true, true, true, true, true, true, true, true, true, true, true] rfl rfl (any_of HT_.out (by kernel_rfl)) (fun _ _ _ h => h) (Or.inl ⟨by rfl, ?_⟩) ?_ ?_
                rotate_left
                ·intro w'
                 go_simp
                 with_reducible rfl
                rotate_left
                ·simp only [Act.put, Kx.sb, Kx.sz, Kx.ss, i64_w, i32_w]
                 rfl
                refine done_ (done_of HT_.out (by kernel_rfl)) ?_
                have hcz65_0 : w63.cell? ⟨gb222, 0, none⟩ = some (.int .i64 0) := (blk_cell BK222.out 0).trans rfl
                have hcz65_1 : w63.cell? ⟨gb222, 1, none⟩ = some (.int .i64 0) := (blk_cell BK222.out 1).trans rfl
                have hcz65_2 : w63.cell? ⟨gb222, 2, none⟩ = some (.slice none 0 0) := (blk_cell BK222.out 2).trans rfl
                have hfz65_0 := blk_frozen BK222.out 0
                have hfz65_1 := blk_frozen BK222.out 1
                have hfz65_2 := blk_frozen BK222.out 2
                try go_wp2
                refine bodyPost_ret (results_ctt rfl _ _ gb222 25 #[.int .i64 0, .int .i64 0, .slice none 0 0] (0, 0) _ rfl (by (with_reducible repeat (first | refine blk_drewN ?_ _ | refine blk_drew ?_ | refine blk_alloc ?_ _)); refine blk_put (cs := #[.int .i64 0, .int .i64 0, .slice none 0 0]) ?_ 2 _ rfl; (with_reducible repeat (first | refine blk_drewN ?_ _ | refine blk_drew ?_ | refine blk_alloc ?_ _)); refine blk_put (cs := #[.int .i64 0, .int .i64 0, .slice none 0 0]) ?_ 1 _ rfl; (with_reducible repeat (first | refine blk_drewN ?_ _ | refine blk_drew ?_ | refine blk_alloc ?_ _)); refine blk_put (cs := #[.int .i64 0, .int .i64 0, .slice none 0 0]) ?_ 0 _ rfl; (with_reducible repeat (first | refine blk_drewN ?_ _ | refine blk_drew ?_ | refine blk_alloc ?_ _)); exact BK222.out) Try.underlying25 rfl (by kernel_rfl)) rfl ?_
                exact ⟨_, by first | rfl | (simp [errW_none, errW_some] <;> rfl) | (simp [*, errW_none, errW_some] <;> rfl), by first | exact Kd.R_nil _ _ _ _ _ | exact Kd.N_nil _ _ _ _ _ | exact Kd.V_nil _ _ _ _ _ | exact Kd.Q_nil _ _ _ _ _ | exact Kd.S_nil _ _ _ _ _, by repeat (first | (with_reducible first | exact HB.out | apply below_alloc | apply pw_below_drewN | apply below_drew1 | refine below_set ?_ GE222.out | refine below_set ?_ GE240.out) | exact HB.out)⟩
              ·rw [if_neg c27] at H
               exact absurd H (by simp)
             ·rw [if_neg c26] at H
              exact absurd H (by simp)
            ·rw [if_neg c25] at H
             have c25b0 : (t244 == 0) = false := beq_eq_false_iff_ne.mpr c25
             have c25b1 : (t244 != 0) = true := bne_iff_ne.mpr c25
             simp only [Option.some.injEq, Prod.mk.injEq] at H
             obtain ⟨rfl, rfl, rfl, rfl, rfl⟩ := H
             try go_wp2
             have n0_ := Aside0.mk (Kd.R_drew HO_5.out)
             have n1_ := Aside0.mk (blk_drew BK222.out)
             have n2_ := Aside0.mk (below_drew1 HB.out)
             clear HO_5
             clear BK222
             clear HB
             have HO_5 := n0_
             have BK222 := n1_
             have HB := n2_
             clear n0_ n1_ n2_
             have p231 : 0 ≤ (1 : Int) := (by omega)
             have q231 : 1 < (t224.length : Int) := of_decide_eq_true (by first | (with_reducible assumption) | assumption)
             obtain ⟨ad231, e231, hx231_0⟩ := Kd.at_int (Kd.R_reads' HO_5.out).2.2 1 p231 q231
             obtain rfl : ad228 = ad231 := (by injection e231)
             (try simp only [show (1 : Int).toNat = 1 from rfl, Nat.reduceMul, Nat.reduceEqDiff, Go.Addr.add, ↓reduceIte] at hx231_0)
             have qi231 : (1 < t224.length) = True := eq_true (by omega)
             (try rw [show ((1 : Int)).toNat = 1 from rfl] at hx231_0)
             replace p231 := eq_true p231
             replace q231 := eq_true q231
             have p232 : 0 ≤ (3 : Int) := (by omega)
             have q232 : 3 < (t224.length : Int) := of_decide_eq_true (by first | (with_reducible assumption) | assumption)
             obtain ⟨ad232, e232, hx232_0⟩ := Kd.at_int (Kd.R_reads' HO_5.out).2.2 3 p232 q232
             obtain rfl : ad228 = ad232 := (by injection e232)
             (try simp only [show (3 : Int).toNat = 3 from rfl, Nat.reduceMul, Nat.reduceEqDiff, Go.Addr.add, ↓reduceIte] at hx232_0)
             have qi232 : (3 < t224.length) = True := eq_true (by omega)
             (try rw [show ((3 : Int)).toNat = 3 from rfl] at hx232_0)
             replace p232 := eq_true p232
             replace q232 := eq_true q232
             obtain ⟨i067, hi067, _, hsz67, _⟩ := info_parts info5
             obtain ⟨A67, hcut67, hA67, hC67⟩ := print_mid_of (P := Try.prog) (Value.int .u8) 0 23 5 .i64 .i64 Try.underlying23 hi067 hsz67 A0 c0 l0 16 (wrap64 (t229 - 4)) (by omega) (by first | omega | exact of_decide_eq_true (by first | (with_reducible assumption) | assumption)) (of_decide_eq_true (by first | (with_reducible assumption) | assumption)) HC0.out
             have HR236 := Aside0.mk (Kd.C_of_reads (h1 := fun _ => rfl) (hA67 _ (Kd.reads_of_C HR0.out)))
             have HC236 := Aside0.mk hC67
             clear hA67 hC67 hi067 hsz67
             refine start_ (n := 17) (S := fun w' => w'.cell? ⟨ad228.block, ad228.off + 1, none⟩ = some (.int .u64 (rd t224 1)) ∧ w'.cell? ⟨ad228.block, ad228.off + 3, none⟩ = some (.int .u64 (rd t224 3))) (ds := [16]) #[false, false, false, false, false, false, false, false, false, false, false, false, false, false, false, false, false] (by kernel_rfl) rfl rfl ⟨hx231_0, hx232_0⟩ (fun hHeld => ?_); refine with_tabW waggonerref05_Read_p.tab7 waggonerref05_Read_p.bits7 (fun HT_ HW_ => ?_)
             generalize wc.drew = w66 at HO_5 BK222 HB HR236 hx231_0 hx232_0 hHeld ⊢
             refine pure_ (i := 0) (N := some 41) (v := ?_) (a' := ?_) #[true, false, false, false, false, false, false, false, false, false, false, false, false, false, false, false, false] rfl rfl (any_of HT_.out (by kernel_rfl)) (fun _ _ _ h => h) (Or.inl ⟨by rfl, ?_⟩) ?_ ?_
             rotate_left
             ·intro w'
              go_simp
              with_reducible rfl
             rotate_left
             ·simp only [Act.put, Kx.sb, Kx.sz, Kx.ss, i64_w, i32_w]
              rfl
             refine pure_ (i := 1) (N := some 42) (v := ?_) (a' := ?_) #[true, true, false, false, false, false, false, false, false, false, false, false, false, false, false, false, false] rfl rfl (any_of HT_.out (by kernel_rfl)) (fun _ _ _ h => h) (Or.inl ⟨by rfl, ?_⟩) ?_ ?_
             rotate_left
             ·intro w'
              go_simp
              with_reducible rfl
             rotate_left
             ·simp only [Act.put, Kx.sb, Kx.sz, Kx.ss, i64_w, i32_w]
              rfl
             refine pure_ (i := 4) (N := some 45) (v := ?_) (a' := ?_) #[true, true, false, false, true, false, false, false, false, false, false, false, false, false, false, false, false] rfl rfl (any_of HT_.out (by kernel_rfl)) (fun _ _ _ h => h) (Or.inl ⟨by rfl, ?_⟩) ?_ ?_
             rotate_left
             ·intro w'
              go_simp
              with_reducible rfl
             rotate_left
             ·simp only [Act.put, Kx.sb, Kx.sz, Kx.ss, i64_w, i32_w]
              rfl
             refine pure_ (i := 5) (N := some 46) (v := ?_) (a' := ?_) #[true, true, false, false, true, true, false, false, false, false, false, false, false, false, false, false, false] rfl rfl (any_of HT_.out (by kernel_rfl)) (fun _ _ _ h => h) (Or.inl ⟨by rfl, ?_⟩) ?_ ?_
             rotate_left
             ·intro w'
              go_simp
              with_reducible rfl
             rotate_left
             ·simp only [Act.put, Kx.sb, Kx.sz, Kx.ss, i64_w, i32_w]
              rfl
             refine pure_ (i := 9) (N := some 50) (v := ?_) (a' := ?_) #[true, true, false, false, true, true, false, false, false, true, false, false, false, false, false, false, false] rfl rfl (any_of HT_.out (by kernel_rfl)) (fun _ _ _ h => h) (Or.inl ⟨by rfl, ?_⟩) ?_ ?_
             rotate_left
             ·intro w'
              go_simp
              with_reducible rfl
             rotate_left
             ·simp only [Act.put, Kx.sb, Kx.sz, Kx.ss, i64_w, i32_w]
              rfl
             refine pure_ (i := 10) (N := some 51) (v := ?_) (a' := ?_) #[true, true, false, false, true, true, false, false, false, true, true, false, false, false, false, false, false] rfl rfl (any_of HT_.out (by kernel_rfl)) (fun _ _ _ h => h) (Or.inl ⟨by rfl, ?_⟩) ?_ ?_
             rotate_left
             ·intro w'
              go_simp
              with_reducible rfl
             rotate_left
             ·simp only [Act.put, Kx.sb, Kx.sz, Kx.ss, i64_w, i32_w]
              rfl
             refine pure_ (i := 11) (N := some 52) (v := ?_) (a' := ?_) #[true, true, false, false, true, true, false, false, false, true, true, true, false, false, false, false, false] rfl rfl (any_of HT_.out (by kernel_rfl)) (fun _ _ _ h => h) (Or.inl ⟨by rfl, ?_⟩) ?_ ?_
             rotate_left
             ·intro w'
              go_simp
              with_reducible rfl
             rotate_left
             ·simp only [Act.put, Kx.sb, Kx.sz, Kx.ss, i64_w, i32_w]
              rfl
             refine pure_ (i := 12) (N := some 53) (v := ?_) (a' := ?_) #[true, true, false, false, true, true, false, false, false, true, true, true, true, false, false, false, false] rfl rfl (any_of HT_.out (by kernel_rfl)) (fun _ _ _ h => h) (Or.inl ⟨by rfl, ?_⟩) ?_ ?_
             rotate_left
             ·intro w'
              go_simp
              with_reducible rfl
             rotate_left
             ·simp only [Act.put, Kx.sb, Kx.sz, Kx.ss, i64_w, i32_w]
              rfl
             refine take_ (i := 2) (N := some 43) (v := ?_) (a' := ?_) #[true, true, true, false, true, true, false, false, false, true, true, true, true, false, false, false, false] rfl rfl (take_ofW HT_.out HW_.out (by kernel_rfl)) (fun _ _ _ h => h) (Or.inl ⟨by rfl, ?_⟩) hHeld ?_ ?_
             rotate_left
             ·rintro w' ⟨s0, s1⟩
              go_simp
              with_reducible rfl
             rotate_left
             ·simp only [Act.put, Kx.sb, Kx.sz, Kx.ss, i64_w, i32_w]
              rfl
             refine pure_ (i := 3) (N := some 44) (v := ?_) (a' := ?_) #[true, true, true, true, true, true, false, false, false, true, true, true, true, false, false, false, false] rfl rfl (any_of HT_.out (by kernel_rfl)) (fun _ _ _ h => h) (Or.inl ⟨by rfl, ?_⟩) ?_ ?_
             rotate_left
             ·intro w'
              go_simp
              with_reducible rfl
             rotate_left
             ·simp only [Act.put, Kx.sb, Kx.sz, Kx.ss, i64_w, i32_w]
              rfl
             refine take_ (i := 6) (N := some 47) (v := ?_) (a' := ?_) #[true, true, true, true, true, true, true, false, false, true, true, true, true, false, false, false, false] rfl rfl (take_ofW HT_.out HW_.out (by kernel_rfl)) (fun _ _ _ h => h) (Or.inl ⟨by rfl, ?_⟩) hHeld ?_ ?_
             rotate_left
             ·rintro w' ⟨s0, s1⟩
              go_simp
              with_reducible rfl
             rotate_left
             ·simp only [Act.put, Kx.sb, Kx.sz, Kx.ss, i64_w, i32_w]
              rfl
             refine pure_ (i := 7) (N := some 48) (v := ?_) (a' := ?_) #[true, true, true, true, true, true, true, true, false, true, true, true, true, false, false, false, false] rfl rfl (any_of HT_.out (by kernel_rfl)) (fun _ _ _ h => h) (Or.inl ⟨by rfl, ?_⟩) ?_ ?_
             rotate_left
             ·intro w'
              go_simp
              with_reducible rfl
             rotate_left
             ·simp only [Act.put, Kx.sb, Kx.sz, Kx.ss, i64_w, i32_w]
              rfl
             refine join_ (σ := Value × Value × Nat) 1 #[true, true, true, true, true, true, true, true, true, true, true, true, true, true, true, true, false] (fun s_ => [(49, s_.1), (54, s_.2.1), (8, .pointer (some ⟨s_.2.2, 0, none⟩)), (55, .agg #[.int .i64 (wrap64 (rd t224 1)), .int .i64 (wrap64 (rd t224 3)), s_.2.1])]) (fun s_ w' => (w'.cell? ⟨ad228.block, ad228.off + 1, none⟩ = some (.int .u64 (rd t224 1)) ∧ w'.cell? ⟨ad228.block, ad228.off + 3, none⟩ = some (.int .u64 (rd t224 3))) ∧ (Kd.R (Kd.int .u8) 5 w' w.heap.size (fun _ => True) s_.2.1 y237) ∧ (Kd.R (Kd.int .u64) 68 w' w.heap.size (fun _ => True) (.slice (some ad228) t224.length co13) t224) ∧ (w'.heap[gb222]? = some (.cells #[.int .i64 0, .int .i64 0, .slice none 0 0] 25 (0, 0))) ∧ (w'.heap[s_.2.2]? = some (.cells #[.int .i64 0, .int .i64 0, .slice none 0 0] 25 (0, 0))) ∧ (w.heap.size ≤ s_.2.2) ∧ (w.heap.size ≤ s_.2.2) ∧ (gb222 ≠ s_.2.2) ∧ (s_.2.2 ≠ gb222) ∧ (Below w.heap.size w w')) ?_ ?_
             rotate_left
             ·intro hCont
              refine two_ (i := 8) (j := 15) (Ni := some 49) (Nj := some 8) #[true, true, true, true, true, true, true, true, true, true, true, true, true, false, false, false, false] #[true, true, true, true, true, true, true, true, false, true, true, true, true, false, false, true, false] rfl rfl rfl rfl (two_of HT_.out (by kernel_rfl)) (by decide) (by decide) (fun K hK => ?_) (fun K hK => ?_)
              ·skip
               refine Kd.R_lit_step (Kd.int .u8) _ 5 ?hg (N := 49) ?hd (xs := ([] : List Int)) (inner := []) (ok := fun _ => True) (okp := fun _ => True) ?hr ?hp (fun _ hk => hk) trivial (Below.refl _ _) (Nat.le_refl _) (by simp) ?_; (case hd => rfl); (case hg => rfl); (case hr => first | (go_simp; done) | (go_simp; rfl)); (case hp => exact (Reps.none _ _))
               intro v234 w68 ho69 hb hg_ hnew_
               have HS0_ := (hb.cell (World.block_lt_of_cell? _ _ (hHeld.1))).trans (hHeld.1)
               have HS1_ := (hb.cell (World.block_lt_of_cell? _ _ (hHeld.2))).trans (hHeld.2)
               clear hg_ hnew_
               (first | rw [← Ny233.out] at ho69 | (simp only [Int.reduceToNat] at ho69; rw [← Ny233.out] at ho69))
               have n0_ := Aside0.mk (Kd.R_below (by (with_reducible repeat (first | apply Kd.R_alloc | apply Kd.R_drewN | apply Kd.R_drew)); exact HO_5.out) hb)
               have n1_ := Aside0.mk (Kd.R_lower ho69 (below_size (by repeat (first | (with_reducible first | exact HB.out | apply below_alloc | apply pw_below_drewN | apply below_drew1 | refine below_set ?_ GE222.out) | exact HB.out))))
               have n2_ := Aside0.mk (blk_below (g := gb222) (o := .cells #[.int .i64 0, .int .i64 0, .slice none 0 0] 25 (0, 0)) (by (with_reducible repeat (first | refine blk_drewN ?_ _ | refine blk_drew ?_ | refine blk_alloc ?_ _)); exact BK222.out) hb)
               have n3_ := Aside0.mk (below_step (by repeat (first | (with_reducible first | exact HB.out | apply below_alloc | apply pw_below_drewN | apply below_drew1 | refine below_set ?_ GE222.out) | exact HB.out)) hb)
               clear HO_5
               clear BK222
               clear HB
               have HO_5 := n0_
               have HO235 := n1_
               have BK222 := n2_
               have HB := n3_
               clear n0_ n1_ n2_ n3_
               clear hb ho69
               refine hK.out _ _ ⟨HS0_, HS1_⟩ (fun hHeld => ?_)
               clear hK K
               refine norm_ (a' := ?_) ?_ ?_
               rotate_left
               ·show Act.put _ (some 49) _ = _
                simp only [Act.put, Kx.sb, Kx.sz, Kx.ss, i64_w, i32_w]
                rfl
               refine two_ (i := 13) (j := 15) (Ni := some 54) (Nj := some 8) #[true, true, true, true, true, true, true, true, true, true, true, true, true, true, false, false, false] #[true, true, true, true, true, true, true, true, true, true, true, true, true, false, false, true, false] rfl rfl rfl rfl (two_of HT_.out (by kernel_rfl)) (by decide) (by decide) (fun K hK => ?_) (fun K hK => ?_)
               ·skip
                refine Kd.R_append_rows_step (Kd.int .u8) (w0 := w) w.heap.size (by rfl) (.tmp 49) (.tmp 53) 23 5 (.int .u8 0) 1 rfl Try.underlying23 info5 rfl (by decide) (by omega) v234 y233 ((l0.take ((wrap64 (t229 - 4)) : Int).toNat).drop 16) _ _ _ (fun _ => True) (fun _ => False) rfl rfl ?aO ?aR (fun _ _ h => h) (fun _ h => h.elim) ?aF ?aB ?aS ?aL ?_
                (case aR => first | (rw [← show ((l0.take ((wrap64 (t229 - 4)) : Int).toNat).drop 16).length = ((wrap64 (t229 - 4)).toNat - 16) from (by rw [List.length_drop, List.length_take]; have h_ : ((wrap64 (t229 - 4)) : Int) ≤ (l0.length : Int) := of_decide_eq_true (by first | (with_reducible assumption) | assumption); omega)]; repeat (first | exact (Kd.C_below HR236.out HB.out) | (with_reducible refine Kd.C_alloc ?_ _) | (with_reducible refine Kd.C_drewN ?_ _) | (with_reducible refine Kd.C_drew ?_))) | (repeat (first | exact (Kd.C_below HR236.out HB.out) | (with_reducible refine Kd.C_alloc ?_ _) | (with_reducible refine Kd.C_drewN ?_ _) | (with_reducible refine Kd.C_drew ?_))))
                (case aB => exact (by repeat (first | (with_reducible first | exact HB.out | apply below_alloc | apply pw_below_drewN | apply below_drew1 | refine below_set ?_ GE222.out) | exact HB.out)))
                (case aF => exact (fun _ _ => trivial))
                (case aO => exact (by (with_reducible repeat (first | apply Kd.R_alloc | apply Kd.R_drewN | apply Kd.R_drew)); exact HO235.out))
                (case aS => exact (below_size (by repeat (first | (with_reducible first | exact HB.out | apply below_alloc | apply pw_below_drewN | apply below_drew1 | refine below_set ?_ GE222.out) | exact HB.out))))
                (case aL => have := LMc23.out; have hlx_ := (show ((l0.take ((wrap64 (t229 - 4)) : Int).toNat).drop 16).length = ((wrap64 (t229 - 4)).toNat - 16) from (by rw [List.length_drop, List.length_take]; have h_ : ((wrap64 (t229 - 4)) : Int) ≤ (l0.length : Int) := of_decide_eq_true (by first | (with_reducible assumption) | assumption); omega)); omega)
                intro v238 w70 ho hb hg hat
                have HN0_ := Go.Proofs.Ytcemlfkboifncaa.Kx.R_blk_ne HO_5.out HO235.out (by decide)
                have HS0_ := cell_grown hg (hHeld.1) (by first | (rw [add_block]; exact HN0_) | (show some (Addr.add _ _).block ≠ _; rw [add_block]; exact HN0_) | exact HN0_)
                have HN1_ := Go.Proofs.Ytcemlfkboifncaa.Kx.R_blk_ne HO_5.out HO235.out (by decide)
                have HS1_ := cell_grown hg (hHeld.2) (by first | (rw [add_block]; exact HN1_) | (show some (Addr.add _ _).block ≠ _; rw [add_block]; exact HN1_) | exact HN1_)
                rw [← Ny237.out] at ho
                have n0_ := Aside0.mk (Kd.R_over' (by (with_reducible repeat (first | apply Kd.R_alloc | apply Kd.R_drewN | apply Kd.R_drew)); exact HO_5.out) (Kd.R_typed (by (with_reducible repeat (first | apply Kd.R_alloc | apply Kd.R_drewN | apply Kd.R_drew)); exact HO235.out)) (by decide) hg)
                have n1_ := Aside0.mk (blk_grown (g := gb222) (o := .cells #[.int .i64 0, .int .i64 0, .slice none 0 0] 25 (0, 0)) (by (with_reducible repeat (first | refine blk_drewN ?_ _ | refine blk_drew ?_ | refine blk_alloc ?_ _)); exact BK222.out) hg (Kd.R_ne HO235.out BK222.out (by decide)))
                have n2_ := Aside0.mk (hb)
                have n3_ := Aside0.mk (ho)
                clear HO_5
                clear BK222
                clear HB
                clear HO235
                have HO_5 := n0_
                have BK222 := n1_
                have HB := n2_
                have HO239 := n3_
                clear n0_ n1_ n2_ n3_
                clear ho hb hg hat
                obtain ⟨Ao71, co71, eo71⟩ := Kd.R_slice HO239.out
                (first | subst eo71 | (injection eo71 with f1_ f2_ f3_; have f4_ := f1_.symm; have f5_ := f3_.symm; clear f1_ f2_ f3_; subst f4_; subst f5_))
                refine hK.out _ _ ⟨HS0_, HS1_⟩ (fun hHeld => ?_)
                clear hK K
                refine norm_ (a' := ?_) ?_ ?_
                rotate_left
                ·show Act.put _ (some 54) _ = _
                 simp only [Act.put, Kx.sb, Kx.sz, Kx.ss, i64_w, i32_w]
                 rfl
                refine pure_ (i := 14) (N := some 55) (v := ?_) (a' := ?_) #[true, true, true, true, true, true, true, true, true, true, true, true, true, true, true, false, false] rfl rfl (any_of HT_.out (by kernel_rfl)) (fun _ _ _ h => h) (Or.inl ⟨by rfl, ?_⟩) ?_ ?_
                rotate_left
                ·intro w'
                 go_simp
                 with_reducible rfl
                rotate_left
                ·simp only [Act.put, Kx.sb, Kx.sz, Kx.ss, i64_w, i32_w]
                 rfl
                refine one_ (i := 15) (N := some 8) #[true, true, true, true, true, true, true, true, true, true, true, true, true, true, true, true, false] rfl rfl (one_of HT_.out (by kernel_rfl)) (by decide) (fun K hK => ?_)
                refine box_step ?hg (N := 8) ?hd (cs := #[.int .i64 0, .int .i64 0, .slice none 0 0]) (t := 25) ?hr ?_; (case hd => rfl); (case hg => rfl); (case hr => first | (go_simp; done) | (go_simp; rfl))
                intro gb240 hg w72 hbox hb
                have HS0_ := (hb.cell (World.block_lt_of_cell? _ _ (hHeld.1))).trans (hHeld.1)
                have HS1_ := (hb.cell (World.block_lt_of_cell? _ _ (hHeld.2))).trans (hHeld.2)
                have n0_ := Aside0.mk (Kd.R_below (by (with_reducible repeat (first | apply Kd.R_alloc | apply Kd.R_drewN | apply Kd.R_drew)); exact HO_5.out) hb)
                have n1_ := Aside0.mk (Kd.R_below (by (with_reducible repeat (first | apply Kd.R_alloc | apply Kd.R_drewN | apply Kd.R_drew)); exact HO239.out) hb)
                have n2_ := Aside0.mk (blk_below (g := gb222) (o := .cells #[.int .i64 0, .int .i64 0, .slice none 0 0] 25 (0, 0)) (by (with_reducible repeat (first | refine blk_drewN ?_ _ | refine blk_drew ?_ | refine blk_alloc ?_ _)); exact BK222.out) hb)
                have n3_ := Aside0.mk (below_step (by repeat (first | (with_reducible first | exact HB.out | apply below_alloc | apply pw_below_drewN | apply below_drew1 | refine below_set ?_ GE222.out) | exact HB.out)) hb)
                have n4_ := Aside0.mk (hbox)
                have n5_ := Aside0.mk ((by rw [hg]; exact (below_size (by repeat (first | (with_reducible first | exact HB.out | apply below_alloc | apply pw_below_drewN | apply below_drew1 | refine below_set ?_ GE222.out) | exact HB.out))) : w.heap.size ≤ gb240))
                have n6_ := Aside0.mk ((by rw [hg]; exact (below_size (by repeat (first | (with_reducible first | exact HB.out | apply below_alloc | apply pw_below_drewN | apply below_drew1 | refine below_set ?_ GE222.out) | exact HB.out))) : w.heap.size ≤ gb240))
                have n7_ := Aside0.mk ((by rw [hg]; exact Nat.ne_of_lt (blk_lt (g := gb222) (o := .cells #[.int .i64 0, .int .i64 0, .slice none 0 0] 25 (0, 0)) (by (with_reducible repeat (first | refine blk_drewN ?_ _ | refine blk_drew ?_ | refine blk_alloc ?_ _)); exact BK222.out)) : gb222 ≠ gb240))
                have n8_ := Aside0.mk ((by rw [hg]; exact Nat.ne_of_gt (blk_lt (g := gb222) (o := .cells #[.int .i64 0, .int .i64 0, .slice none 0 0] 25 (0, 0)) (by (with_reducible repeat (first | refine blk_drewN ?_ _ | refine blk_drew ?_ | refine blk_alloc ?_ _)); exact BK222.out)) : gb240 ≠ gb222))
                clear HO_5
                clear HO239
                clear BK222
                clear HB
                have HO_5 := n0_
                have HO239 := n1_
                have BK222 := n2_
                have HB := n3_
                have BK240 := n4_
                have GW240 := n5_
                have GE240 := n6_
                have NB222_240 := n7_
                have NB240_222 := n8_
                clear n0_ n1_ n2_ n3_ n4_ n5_ n6_ n7_ n8_
                clear hb hbox hg
                refine hK.out _ _ ⟨HS0_, HS1_⟩ (fun hHeld => ?_)
                clear hK K
                refine norm_ (a' := ?_) ?_ ?_
                rotate_left
                ·show Act.put _ (some 8) _ = _
                 simp only [Act.put, Kx.sb, Kx.sz, Kx.ss, i64_w, i32_w]
                 rfl
                exact norm_ (by simp only [putAll, Act.put, Kx.sb, Kx.sz, Kx.ss]) (hCont (v234, .slice Ao71 y237.length co71, gb240) _ ⟨hHeld, (by (with_reducible repeat (first | apply Kd.R_alloc | apply Kd.R_drewN | apply Kd.R_drew)); exact HO239.out), (by (with_reducible repeat (first | apply Kd.R_alloc | apply Kd.R_drewN | apply Kd.R_drew)); exact HO_5.out), (by (with_reducible repeat (first | refine blk_drewN ?_ _ | refine blk_drew ?_ | refine blk_alloc ?_ _)); exact BK222.out), (by (with_reducible repeat (first | refine blk_drewN ?_ _ | refine blk_drew ?_ | refine blk_alloc ?_ _)); exact BK240.out), GW240.out, GE240.out, NB222_240.out, NB240_222.out, (by repeat (first | (with_reducible first | exact HB.out | apply below_alloc | apply pw_below_drewN | apply below_drew1 | refine below_set ?_ GE222.out | refine below_set ?_ GE240.out) | exact HB.out))⟩)
               ·skip
                refine box_step ?hg (N := 8) ?hd (cs := #[.int .i64 0, .int .i64 0, .slice none 0 0]) (t := 25) ?hr ?_; (case hd => rfl); (case hg => rfl); (case hr => first | (go_simp; done) | (go_simp; rfl))
                intro gb240 hg w70 hbox hb
                have HS0_ := (hb.cell (World.block_lt_of_cell? _ _ (hHeld.1))).trans (hHeld.1)
                have HS1_ := (hb.cell (World.block_lt_of_cell? _ _ (hHeld.2))).trans (hHeld.2)
                have n0_ := Aside0.mk (Kd.R_below (by (with_reducible repeat (first | apply Kd.R_alloc | apply Kd.R_drewN | apply Kd.R_drew)); exact HO_5.out) hb)
                have n1_ := Aside0.mk (Kd.R_below (by (with_reducible repeat (first | apply Kd.R_alloc | apply Kd.R_drewN | apply Kd.R_drew)); exact HO235.out) hb)
                have n2_ := Aside0.mk (blk_below (g := gb222) (o := .cells #[.int .i64 0, .int .i64 0, .slice none 0 0] 25 (0, 0)) (by (with_reducible repeat (first | refine blk_drewN ?_ _ | refine blk_drew ?_ | refine blk_alloc ?_ _)); exact BK222.out) hb)
                have n3_ := Aside0.mk (below_step (by repeat (first | (with_reducible first | exact HB.out | apply below_alloc | apply pw_below_drewN | apply below_drew1 | refine below_set ?_ GE222.out) | exact HB.out)) hb)
                have n4_ := Aside0.mk (hbox)
                have n5_ := Aside0.mk ((by rw [hg]; exact (below_size (by repeat (first | (with_reducible first | exact HB.out | apply below_alloc | apply pw_below_drewN | apply below_drew1 | refine below_set ?_ GE222.out) | exact HB.out))) : w.heap.size ≤ gb240))
                have n6_ := Aside0.mk ((by rw [hg]; exact (below_size (by repeat (first | (with_reducible first | exact HB.out | apply below_alloc | apply pw_below_drewN | apply below_drew1 | refine below_set ?_ GE222.out) | exact HB.out))) : w.heap.size ≤ gb240))
                have n7_ := Aside0.mk ((by rw [hg]; exact Nat.ne_of_lt (blk_lt (g := gb222) (o := .cells #[.int .i64 0, .int .i64 0, .slice none 0 0] 25 (0, 0)) (by (with_reducible repeat (first | refine blk_drewN ?_ _ | refine blk_drew ?_ | refine blk_alloc ?_ _)); exact BK222.out)) : gb222 ≠ gb240))
                have n8_ := Aside0.mk ((by rw [hg]; exact Nat.ne_of_gt (blk_lt (g := gb222) (o := .cells #[.int .i64 0, .int .i64 0, .slice none 0 0] 25 (0, 0)) (by (with_reducible repeat (first | refine blk_drewN ?_ _ | refine blk_drew ?_ | refine blk_alloc ?_ _)); exact BK222.out)) : gb240 ≠ gb222))
                clear HO_5
                clear HO235
                clear BK222
                clear HB
                have HO_5 := n0_
                have HO235 := n1_
                have BK222 := n2_
                have HB := n3_
                have BK240 := n4_
                have GW240 := n5_
                have GE240 := n6_
                have NB222_240 := n7_
                have NB240_222 := n8_
                clear n0_ n1_ n2_ n3_ n4_ n5_ n6_ n7_ n8_
                clear hb hbox hg
                refine hK.out _ _ ⟨HS0_, HS1_⟩ (fun hHeld => ?_)
                clear hK K
                refine norm_ (a' := ?_) ?_ ?_
                rotate_left
                ·show Act.put _ (some 8) _ = _
                 simp only [Act.put, Kx.sb, Kx.sz, Kx.ss, i64_w, i32_w]
                 rfl
                refine one_ (i := 13) (N := some 54) #[true, true, true, true, true, true, true, true, true, true, true, true, true, true, false, true, false] rfl rfl (one_of HT_.out (by kernel_rfl)) (by decide) (fun K hK => ?_)
                refine Kd.R_append_rows_step (Kd.int .u8) (w0 := w) w.heap.size (by rfl) (.tmp 49) (.tmp 53) 23 5 (.int .u8 0) 1 rfl Try.underlying23 info5 rfl (by decide) (by omega) v234 y233 ((l0.take ((wrap64 (t229 - 4)) : Int).toNat).drop 16) _ _ _ (fun _ => True) (fun _ => False) rfl rfl ?aO ?aR (fun _ _ h => h) (fun _ h => h.elim) ?aF ?aB ?aS ?aL ?_
                (case aR => first | (rw [← show ((l0.take ((wrap64 (t229 - 4)) : Int).toNat).drop 16).length = ((wrap64 (t229 - 4)).toNat - 16) from (by rw [List.length_drop, List.length_take]; have h_ : ((wrap64 (t229 - 4)) : Int) ≤ (l0.length : Int) := of_decide_eq_true (by first | (with_reducible assumption) | assumption); omega)]; repeat (first | exact (Kd.C_below HR236.out HB.out) | (with_reducible refine Kd.C_alloc ?_ _) | (with_reducible refine Kd.C_drewN ?_ _) | (with_reducible refine Kd.C_drew ?_))) | (repeat (first | exact (Kd.C_below HR236.out HB.out) | (with_reducible refine Kd.C_alloc ?_ _) | (with_reducible refine Kd.C_drewN ?_ _) | (with_reducible refine Kd.C_drew ?_))))
                (case aB => exact (by repeat (first | (with_reducible first | exact HB.out | apply below_alloc | apply pw_below_drewN | apply below_drew1 | refine below_set ?_ GE222.out | refine below_set ?_ GE240.out) | exact HB.out)))
                (case aF => exact (fun _ _ => trivial))
                (case aO => exact (by (with_reducible repeat (first | apply Kd.R_alloc | apply Kd.R_drewN | apply Kd.R_drew)); exact HO235.out))
                (case aS => exact (below_size (by repeat (first | (with_reducible first | exact HB.out | apply below_alloc | apply pw_below_drewN | apply below_drew1 | refine below_set ?_ GE222.out | refine below_set ?_ GE240.out) | exact HB.out))))
                (case aL => have := LMc23.out; have hlx_ := (show ((l0.take ((wrap64 (t229 - 4)) : Int).toNat).drop 16).length = ((wrap64 (t229 - 4)).toNat - 16) from (by rw [List.length_drop, List.length_take]; have h_ : ((wrap64 (t229 - 4)) : Int) ≤ (l0.length : Int) := of_decide_eq_true (by first | (with_reducible assumption) | assumption); omega)); omega)
                intro v238 w71 ho hb hg hat
                have HN0_ := Go.Proofs.Ytcemlfkboifncaa.Kx.R_blk_ne HO_5.out HO235.out (by decide)
                have HS0_ := cell_grown hg (hHeld.1) (by first | (rw [add_block]; exact HN0_) | (show some (Addr.add _ _).block ≠ _; rw [add_block]; exact HN0_) | exact HN0_)
                have HN1_ := Go.Proofs.Ytcemlfkboifncaa.Kx.R_blk_ne HO_5.out HO235.out (by decide)
                have HS1_ := cell_grown hg (hHeld.2) (by first | (rw [add_block]; exact HN1_) | (show some (Addr.add _ _).block ≠ _; rw [add_block]; exact HN1_) | exact HN1_)
                rw [← Ny237.out] at ho
                have n0_ := Aside0.mk (Kd.R_over' (by (with_reducible repeat (first | apply Kd.R_alloc | apply Kd.R_drewN | apply Kd.R_drew)); exact HO_5.out) (Kd.R_typed (by (with_reducible repeat (first | apply Kd.R_alloc | apply Kd.R_drewN | apply Kd.R_drew)); exact HO235.out)) (by decide) hg)
                have n1_ := Aside0.mk (blk_grown (g := gb222) (o := .cells #[.int .i64 0, .int .i64 0, .slice none 0 0] 25 (0, 0)) (by (with_reducible repeat (first | refine blk_drewN ?_ _ | refine blk_drew ?_ | refine blk_alloc ?_ _)); exact BK222.out) hg (Kd.R_ne HO235.out BK222.out (by decide)))
                have n2_ := Aside0.mk (blk_grown (g := gb240) (o := .cells #[.int .i64 0, .int .i64 0, .slice none 0 0] 25 (0, 0)) (by (with_reducible repeat (first | refine blk_drewN ?_ _ | refine blk_drew ?_ | refine blk_alloc ?_ _)); exact BK240.out) hg (Kd.R_ne HO235.out BK240.out (by decide)))
                have n3_ := Aside0.mk (hb)
                have n4_ := Aside0.mk (ho)
                clear HO_5
                clear BK222
                clear BK240
                clear HB
                clear HO235
                have HO_5 := n0_
                have BK222 := n1_
                have BK240 := n2_
                have HB := n3_
                have HO239 := n4_
                clear n0_ n1_ n2_ n3_ n4_
                clear ho hb hg hat
                obtain ⟨Ao72, co72, eo72⟩ := Kd.R_slice HO239.out
                (first | subst eo72 | (injection eo72 with f1_ f2_ f3_; have f4_ := f1_.symm; have f5_ := f3_.symm; clear f1_ f2_ f3_; subst f4_; subst f5_))
                refine hK.out _ _ ⟨HS0_, HS1_⟩ (fun hHeld => ?_)
                clear hK K
                refine norm_ (a' := ?_) ?_ ?_
                rotate_left
                ·show Act.put _ (some 54) _ = _
                 simp only [Act.put, Kx.sb, Kx.sz, Kx.ss, i64_w, i32_w]
                 rfl
                refine pure_ (i := 14) (N := some 55) (v := ?_) (a' := ?_) #[true, true, true, true, true, true, true, true, true, true, true, true, true, true, true, true, false] rfl rfl (any_of HT_.out (by kernel_rfl)) (fun _ _ _ h => h) (Or.inl ⟨by rfl, ?_⟩) ?_ ?_
                rotate_left
                ·intro w'
                 go_simp
                 with_reducible rfl
                rotate_left
                ·simp only [Act.put, Kx.sb, Kx.sz, Kx.ss, i64_w, i32_w]
                 rfl
                exact norm_ (by simp only [putAll, Act.put, Kx.sb, Kx.sz, Kx.ss]) (hCont (v234, .slice Ao72 y237.length co72, gb240) _ ⟨hHeld, (by (with_reducible repeat (first | apply Kd.R_alloc | apply Kd.R_drewN | apply Kd.R_drew)); exact HO239.out), (by (with_reducible repeat (first | apply Kd.R_alloc | apply Kd.R_drewN | apply Kd.R_drew)); exact HO_5.out), (by (with_reducible repeat (first | refine blk_drewN ?_ _ | refine blk_drew ?_ | refine blk_alloc ?_ _)); exact BK222.out), (by (with_reducible repeat (first | refine blk_drewN ?_ _ | refine blk_drew ?_ | refine blk_alloc ?_ _)); exact BK240.out), GW240.out, GE240.out, NB222_240.out, NB240_222.out, (by repeat (first | (with_reducible first | exact HB.out | apply below_alloc | apply pw_below_drewN | apply below_drew1 | refine below_set ?_ GE222.out | refine below_set ?_ GE240.out) | exact HB.out))⟩)
              ·skip
               refine box_step ?hg (N := 8) ?hd (cs := #[.int .i64 0, .int .i64 0, .slice none 0 0]) (t := 25) ?hr ?_; (case hd => rfl); (case hg => rfl); (case hr => first | (go_simp; done) | (go_simp; rfl))
               intro gb240 hg w68 hbox hb
               have HS0_ := (hb.cell (World.block_lt_of_cell? _ _ (hHeld.1))).trans (hHeld.1)
               have HS1_ := (hb.cell (World.block_lt_of_cell? _ _ (hHeld.2))).trans (hHeld.2)
               have n0_ := Aside0.mk (Kd.R_below (by (with_reducible repeat (first | apply Kd.R_alloc | apply Kd.R_drewN | apply Kd.R_drew)); exact HO_5.out) hb)
               have n1_ := Aside0.mk (blk_below (g := gb222) (o := .cells #[.int .i64 0, .int .i64 0, .slice none 0 0] 25 (0, 0)) (by (with_reducible repeat (first | refine blk_drewN ?_ _ | refine blk_drew ?_ | refine blk_alloc ?_ _)); exact BK222.out) hb)
               have n2_ := Aside0.mk (below_step (by repeat (first | (with_reducible first | exact HB.out | apply below_alloc | apply pw_below_drewN | apply below_drew1 | refine below_set ?_ GE222.out) | exact HB.out)) hb)
               have n3_ := Aside0.mk (hbox)
               have n4_ := Aside0.mk ((by rw [hg]; exact (below_size (by repeat (first | (with_reducible first | exact HB.out | apply below_alloc | apply pw_below_drewN | apply below_drew1 | refine below_set ?_ GE222.out) | exact HB.out))) : w.heap.size ≤ gb240))
               have n5_ := Aside0.mk ((by rw [hg]; exact (below_size (by repeat (first | (with_reducible first | exact HB.out | apply below_alloc | apply pw_below_drewN | apply below_drew1 | refine below_set ?_ GE222.out) | exact HB.out))) : w.heap.size ≤ gb240))
               have n6_ := Aside0.mk ((by rw [hg]; exact Nat.ne_of_lt (blk_lt (g := gb222) (o := .cells #[.int .i64 0, .int .i64 0, .slice none 0 0] 25 (0, 0)) (by (with_reducible repeat (first | refine blk_drewN ?_ _ | refine blk_drew ?_ | refine blk_alloc ?_ _)); exact BK222.out)) : gb222 ≠ gb240))
               have n7_ := Aside0.mk ((by rw [hg]; exact Nat.ne_of_gt (blk_lt (g := gb222) (o := .cells #[.int .i64 0, .int .i64 0, .slice none 0 0] 25 (0, 0)) (by (with_reducible repeat (first | refine blk_drewN ?_ _ | refine blk_drew ?_ | refine blk_alloc ?_ _)); exact BK222.out)) : gb240 ≠ gb222))
               clear HO_5
               clear BK222
               clear HB
               have HO_5 := n0_
               have BK222 := n1_
               have HB := n2_
               have BK240 := n3_
               have GW240 := n4_
               have GE240 := n5_
               have NB222_240 := n6_
               have NB240_222 := n7_
               clear n0_ n1_ n2_ n3_ n4_ n5_ n6_ n7_
               clear hb hbox hg
               refine hK.out _ _ ⟨HS0_, HS1_⟩ (fun hHeld => ?_)
               clear hK K
               refine norm_ (a' := ?_) ?_ ?_
               rotate_left
               ·show Act.put _ (some 8) _ = _
                simp only [Act.put, Kx.sb, Kx.sz, Kx.ss, i64_w, i32_w]
                rfl
               refine one_ (i := 8) (N := some 49) #[true, true, true, true, true, true, true, true, true, true, true, true, true, false, false, true, false] rfl rfl (one_of HT_.out (by kernel_rfl)) (by decide) (fun K hK => ?_)
               refine Kd.R_lit_step (Kd.int .u8) _ 5 ?hg (N := 49) ?hd (xs := ([] : List Int)) (inner := []) (ok := fun _ => True) (okp := fun _ => True) ?hr ?hp (fun _ hk => hk) trivial (Below.refl _ _) (Nat.le_refl _) (by simp) ?_; (case hd => rfl); (case hg => rfl); (case hr => first | (go_simp; done) | (go_simp; rfl)); (case hp => exact (Reps.none _ _))
               intro v234 w69 ho70 hb hg_ hnew_
               have HS0_ := (hb.cell (World.block_lt_of_cell? _ _ (hHeld.1))).trans (hHeld.1)
               have HS1_ := (hb.cell (World.block_lt_of_cell? _ _ (hHeld.2))).trans (hHeld.2)
               clear hg_ hnew_
               (first | rw [← Ny233.out] at ho70 | (simp only [Int.reduceToNat] at ho70; rw [← Ny233.out] at ho70))
               have n0_ := Aside0.mk (Kd.R_below (by (with_reducible repeat (first | apply Kd.R_alloc | apply Kd.R_drewN | apply Kd.R_drew)); exact HO_5.out) hb)
               have n1_ := Aside0.mk (Kd.R_lower ho70 (below_size (by repeat (first | (with_reducible first | exact HB.out | apply below_alloc | apply pw_below_drewN | apply below_drew1 | refine below_set ?_ GE222.out | refine below_set ?_ GE240.out) | exact HB.out))))
               have n2_ := Aside0.mk (blk_below (g := gb222) (o := .cells #[.int .i64 0, .int .i64 0, .slice none 0 0] 25 (0, 0)) (by (with_reducible repeat (first | refine blk_drewN ?_ _ | refine blk_drew ?_ | refine blk_alloc ?_ _)); exact BK222.out) hb)
               have n3_ := Aside0.mk (blk_below (g := gb240) (o := .cells #[.int .i64 0, .int .i64 0, .slice none 0 0] 25 (0, 0)) (by (with_reducible repeat (first | refine blk_drewN ?_ _ | refine blk_drew ?_ | refine blk_alloc ?_ _)); exact BK240.out) hb)
               have n4_ := Aside0.mk (below_step (by repeat (first | (with_reducible first | exact HB.out | apply below_alloc | apply pw_below_drewN | apply below_drew1 | refine below_set ?_ GE222.out | refine below_set ?_ GE240.out) | exact HB.out)) hb)
               clear HO_5
               clear BK222
               clear BK240
               clear HB
               have HO_5 := n0_
               have HO235 := n1_
               have BK222 := n2_
               have BK240 := n3_
               have HB := n4_
               clear n0_ n1_ n2_ n3_ n4_
               clear hb ho70
               refine hK.out _ _ ⟨HS0_, HS1_⟩ (fun hHeld => ?_)
               clear hK K
               refine norm_ (a' := ?_) ?_ ?_
               rotate_left
               ·show Act.put _ (some 49) _ = _
                simp only [Act.put, Kx.sb, Kx.sz, Kx.ss, i64_w, i32_w]
                rfl
               refine one_ (i := 13) (N := some 54) #[true, true, true, true, true, true, true, true, true, true, true, true, true, true, false, true, false] rfl rfl (one_of HT_.out (by kernel_rfl)) (by decide) (fun K hK => ?_)
               refine Kd.R_append_rows_step (Kd.int .u8) (w0 := w) w.heap.size (by rfl) (.tmp 49) (.tmp 53) 23 5 (.int .u8 0) 1 rfl Try.underlying23 info5 rfl (by decide) (by omega) v234 y233 ((l0.take ((wrap64 (t229 - 4)) : Int).toNat).drop 16) _ _ _ (fun _ => True) (fun _ => False) rfl rfl ?aO ?aR (fun _ _ h => h) (fun _ h => h.elim) ?aF ?aB ?aS ?aL ?_
               (case aR => first | (rw [← show ((l0.take ((wrap64 (t229 - 4)) : Int).toNat).drop 16).length = ((wrap64 (t229 - 4)).toNat - 16) from (by rw [List.length_drop, List.length_take]; have h_ : ((wrap64 (t229 - 4)) : Int) ≤ (l0.length : Int) := of_decide_eq_true (by first | (with_reducible assumption) | assumption); omega)]; repeat (first | exact (Kd.C_below HR236.out HB.out) | (with_reducible refine Kd.C_alloc ?_ _) | (with_reducible refine Kd.C_drewN ?_ _) | (with_reducible refine Kd.C_drew ?_))) | (repeat (first | exact (Kd.C_below HR236.out HB.out) | (with_reducible refine Kd.C_alloc ?_ _) | (with_reducible refine Kd.C_drewN ?_ _) | (with_reducible refine Kd.C_drew ?_))))
               (case aB => exact (by repeat (first | (with_reducible first | exact HB.out | apply below_alloc | apply pw_below_drewN | apply below_drew1 | refine below_set ?_ GE222.out | refine below_set ?_ GE240.out) | exact HB.out)))
               (case aF => exact (fun _ _ => trivial))
               (case aO => exact (by (with_reducible repeat (first | apply Kd.R_alloc | apply Kd.R_drewN | apply Kd.R_drew)); exact HO235.out))
               (case aS => exact (below_size (by repeat (first | (with_reducible first | exact HB.out | apply below_alloc | apply pw_below_drewN | apply below_drew1 | refine below_set ?_ GE222.out | refine below_set ?_ GE240.out) | exact HB.out))))
               (case aL => have := LMc23.out; have hlx_ := (show ((l0.take ((wrap64 (t229 - 4)) : Int).toNat).drop 16).length = ((wrap64 (t229 - 4)).toNat - 16) from (by rw [List.length_drop, List.length_take]; have h_ : ((wrap64 (t229 - 4)) : Int) ≤ (l0.length : Int) := of_decide_eq_true (by first | (with_reducible assumption) | assumption); omega)); omega)
               intro v238 w71 ho hb hg hat
               have HN0_ := Go.Proofs.Ytcemlfkboifncaa.Kx.R_blk_ne HO_5.out HO235.out (by decide)
               have HS0_ := cell_grown hg (hHeld.1) (by first | (rw [add_block]; exact HN0_) | (show some (Addr.add _ _).block ≠ _; rw [add_block]; exact HN0_) | exact HN0_)
               have HN1_ := Go.Proofs.Ytcemlfkboifncaa.Kx.R_blk_ne HO_5.out HO235.out (by decide)
               have HS1_ := cell_grown hg (hHeld.2) (by first | (rw [add_block]; exact HN1_) | (show some (Addr.add _ _).block ≠ _; rw [add_block]; exact HN1_) | exact HN1_)
               rw [← Ny237.out] at ho
               have n0_ := Aside0.mk (Kd.R_over' (by (with_reducible repeat (first | apply Kd.R_alloc | apply Kd.R_drewN | apply Kd.R_drew)); exact HO_5.out) (Kd.R_typed (by (with_reducible repeat (first | apply Kd.R_alloc | apply Kd.R_drewN | apply Kd.R_drew)); exact HO235.out)) (by decide) hg)
               have n1_ := Aside0.mk (blk_grown (g := gb222) (o := .cells #[.int .i64 0, .int .i64 0, .slice none 0 0] 25 (0, 0)) (by (with_reducible repeat (first | refine blk_drewN ?_ _ | refine blk_drew ?_ | refine blk_alloc ?_ _)); exact BK222.out) hg (Kd.R_ne HO235.out BK222.out (by decide)))
               have n2_ := Aside0.mk (blk_grown (g := gb240) (o := .cells #[.int .i64 0, .int .i64 0, .slice none 0 0] 25 (0, 0)) (by (with_reducible repeat (first | refine blk_drewN ?_ _ | refine blk_drew ?_ | refine blk_alloc ?_ _)); exact BK240.out) hg (Kd.R_ne HO235.out BK240.out (by decide)))
               have n3_ := Aside0.mk (hb)
               have n4_ := Aside0.mk (ho)
               clear HO_5
               clear BK222
               clear BK240
               clear HB
               clear HO235
               have HO_5 := n0_
               have BK222 := n1_
               have BK240 := n2_
               have HB := n3_
               have HO239 := n4_
               clear n0_ n1_ n2_ n3_ n4_
               clear ho hb hg hat
               obtain ⟨Ao72, co72, eo72⟩ := Kd.R_slice HO239.out
               (first | subst eo72 | (injection eo72 with f1_ f2_ f3_; have f4_ := f1_.symm; have f5_ := f3_.symm; clear f1_ f2_ f3_; subst f4_; subst f5_))
               refine hK.out _ _ ⟨HS0_, HS1_⟩ (fun hHeld => ?_)
               clear hK K
               refine norm_ (a' := ?_) ?_ ?_
               rotate_left
               ·show Act.put _ (some 54) _ = _
                simp only [Act.put, Kx.sb, Kx.sz, Kx.ss, i64_w, i32_w]
                rfl
               refine pure_ (i := 14) (N := some 55) (v := ?_) (a' := ?_) #[true, true, true, true, true, true, true, true, true, true, true, true, true, true, true, true, false] rfl rfl (any_of HT_.out (by kernel_rfl)) (fun _ _ _ h => h) (Or.inl ⟨by rfl, ?_⟩) ?_ ?_
               rotate_left
               ·intro w'
                go_simp
                with_reducible rfl
               rotate_left
               ·simp only [Act.put, Kx.sb, Kx.sz, Kx.ss, i64_w, i32_w]
                rfl
               exact norm_ (by simp only [putAll, Act.put, Kx.sb, Kx.sz, Kx.ss]) (hCont (v234, .slice Ao72 y237.length co72, gb240) _ ⟨hHeld, (by (with_reducible repeat (first | apply Kd.R_alloc | apply Kd.R_drewN | apply Kd.R_drew)); exact HO239.out), (by (with_reducible repeat (first | apply Kd.R_alloc | apply Kd.R_drewN | apply Kd.R_drew)); exact HO_5.out), (by (with_reducible repeat (first | refine blk_drewN ?_ _ | refine blk_drew ?_ | refine blk_alloc ?_ _)); exact BK222.out), (by (with_reducible repeat (first | refine blk_drewN ?_ _ | refine blk_drew ?_ | refine blk_alloc ?_ _)); exact BK240.out), GW240.out, GE240.out, NB222_240.out, NB240_222.out, (by repeat (first | (with_reducible first | exact HB.out | apply below_alloc | apply pw_below_drewN | apply below_drew1 | refine below_set ?_ GE222.out | refine below_set ?_ GE240.out) | exact HB.out))⟩)
             rintro ⟨v234, v238, gb240⟩ w73 ⟨hS_, h0_, h1_, h2_, h3_, h4_, h5_, h6_, h7_, h8_⟩
             have n0_ : Aside0 (Kd.R (Kd.int .u8) 5 w73 w.heap.size (fun _ => True) v238 y237) := ⟨h0_⟩
             have n1_ : Aside0 (Kd.R (Kd.int .u64) 68 w73 w.heap.size (fun _ => True) (.slice (some ad228) t224.length co13) t224) := ⟨h1_⟩
             have n2_ : Aside0 (w73.heap[gb222]? = some (.cells #[.int .i64 0, .int .i64 0, .slice none 0 0] 25 (0, 0))) := ⟨h2_⟩
             have n3_ : Aside0 (w73.heap[gb240]? = some (.cells #[.int .i64 0, .int .i64 0, .slice none 0 0] 25 (0, 0))) := ⟨h3_⟩
             have n4_ : Aside0 (w.heap.size ≤ gb240) := ⟨h4_⟩
             have n5_ : Aside0 (w.heap.size ≤ gb240) := ⟨h5_⟩
             have n6_ : Aside0 (gb222 ≠ gb240) := ⟨h6_⟩
             have n7_ : Aside0 (gb240 ≠ gb222) := ⟨h7_⟩
             have n8_ : Aside0 (Below w.heap.size w w73) := ⟨h8_⟩
             clear HO_5
             clear BK222
             clear HB
             clear h0_ h1_ h2_ h3_ h4_ h5_ h6_ h7_ h8_
             have HO239 := n0_
             have HO_5 := n1_
             have BK222 := n2_
             have BK240 := n3_
             have GW240 := n4_
             have GE240 := n5_
             have NB222_240 := n6_
             have NB240_222 := n7_
             have HB := n8_
             clear n0_ n1_ n2_ n3_ n4_ n5_ n6_ n7_ n8_
             have hHeld : w73.cell? ⟨ad228.block, ad228.off + 1, none⟩ = some (.int .u64 (rd t224 1)) ∧ w73.cell? ⟨ad228.block, ad228.off + 3, none⟩ = some (.int .u64 (rd t224 3)) := hS_
             obtain ⟨Ao74, co74, eo74⟩ := Kd.R_slice HO239.out
             (first | subst eo74 | (injection eo74 with f1_ f2_ f3_; have f4_ := f1_.symm; have f5_ := f3_.symm; clear f1_ f2_ f3_; subst f4_; subst f5_))
             refine norm_ (a' := ?_) ?_ ?_
             rotate_left
             ·simp only [putAll, Act.put, Kx.sb, Kx.sz, Kx.ss]
              rfl
             refine last_ (i := 16) (N := none) #[true, true, true, true, true, true, true, true, true, true, true, true, true, true, true, true, true] rfl rfl (one_of HT_.out (by kernel_rfl)) (by decide) (fun K hK => ?_)
             have hs75 : w73.cell? ⟨gb240, 0, none⟩ = some (.int .i64 0) := (blk_cell BK240.out 0).trans rfl
             have hfs75 := blk_frozen BK240.out 0
             have hns75_0 := NB222_240.out
             have hms75_0 := NB240_222.out
             have hs76 : w73.cell? ⟨gb240, 1, none⟩ = some (.int .i64 0) := (blk_cell BK240.out 1).trans rfl
             have hfs76 := blk_frozen BK240.out 1
             have hns76_0 := NB222_240.out
             have hms76_0 := NB240_222.out
             have hs77 : w73.cell? ⟨gb240, 2, none⟩ = some (.slice none 0 0) := (blk_cell BK240.out 2).trans rfl
             have hfs77 := blk_frozen BK240.out 2
             have hns77_0 := NB222_240.out
             have hms77_0 := NB240_222.out
             refine skip_ (w1 := ?_) (by rfl) rfl ?_ ?_
             rotate_left
             ·go_simp
              rfl
             refine hK.out _ _ ?_
             clear hK K
             refine done_ (done_of HT_.out (by kernel_rfl)) ?_
             have hnb78 := NB240_222.out
             have hnc78 := NB222_240.out
             have hcz79_0 : w73.cell? ⟨gb240, 0, none⟩ = some (.int .i64 0) := (blk_cell BK240.out 0).trans rfl
             have hcz79_1 : w73.cell? ⟨gb240, 1, none⟩ = some (.int .i64 0) := (blk_cell BK240.out 1).trans rfl
             have hcz79_2 : w73.cell? ⟨gb240, 2, none⟩ = some (.slice none 0 0) := (blk_cell BK240.out 2).trans rfl
             have hfz79_0 := blk_frozen BK240.out 0
             have hfz79_1 := blk_frozen BK240.out 1
             have hfz79_2 := blk_frozen BK240.out 2
             try go_wp2_with (first | ((with_reducible refine gate_callee (f := 20) rfl ?_); refine goesL_ (some 58) rfl rfl Try.func20 (by kernel_rfl) rfl #[.agg #[.int .i64 (wrap64 (rd t224 1)), .int .i64 (wrap64 (rd t224 3)), .slice Ao74 y237.length co74]] rfl (by (try simp only [List.map_toArray, List.map_cons, List.map_nil]); first | done | rfl | (simp only [List.length_drop, List.length_take]; rfl)) ?_; (with_reducible refine (waggonerref05_Write.calls (wrap64 (rd t224 1)) (wrap64 (rd t224 3)) _ _ y237 t241 t244 _ ?side1 ?side2 A24.out).mono ?_); (case side1 => refine (Kd.R_reads' (e := 5) (base := w.heap.size) (ok := fun k_ => True) (n := y237.length) (c := co74) ?_).2.2; exact (by (with_reducible repeat (first | apply Kd.R_alloc | apply Kd.R_drewN | apply Kd.R_drew)); exact (Kd.R_mono (Kd.R_far (p := ⟨gb240, 2, none⟩) (Kd.R_far (p := ⟨gb240, 1, none⟩) (Kd.R_far (p := ⟨gb240, 0, none⟩) (Kd.R_types HO239.out BK240.out (by decide)) (fun _ hk => hk.2) (.int .i64 (wrap64 (rd t224 1)))) (fun _ hk => hk.2) (.int .i64 (wrap64 (rd t224 3)))) (fun _ hk => hk.2) (.slice Ao74 y237.length co74)) (fun _ h_ => h_.1)))); (case side2 => exact (Kd.R_reads' HO239.out).2.1); rintro e w80 ⟨v242, rfl, ho0, hb⟩; refine ⟨_, rfl, ?_⟩; have n0_ := Aside0.mk (Kd.R_below (by (with_reducible repeat (first | apply Kd.R_alloc | apply Kd.R_drewN | apply Kd.R_drew)); exact (Kd.R_mono (Kd.R_far (p := ⟨gb240, 2, none⟩) (Kd.R_far (p := ⟨gb240, 1, none⟩) (Kd.R_far (p := ⟨gb240, 0, none⟩) (Kd.R_types HO_5.out BK240.out (by decide)) (fun _ hk => hk.2) (.int .i64 (wrap64 (rd t224 1)))) (fun _ hk => hk.2) (.int .i64 (wrap64 (rd t224 3)))) (fun _ hk => hk.2) (.slice Ao74 y237.length co74)) (fun _ h_ => h_.1))) hb); have n1_ := Aside0.mk (Kd.R_elder' (by (with_reducible repeat (first | apply Kd.R_alloc | apply Kd.R_drewN | apply Kd.R_drew)); exact (Kd.R_mono (Kd.R_far (p := ⟨gb240, 2, none⟩) (Kd.R_far (p := ⟨gb240, 1, none⟩) (Kd.R_far (p := ⟨gb240, 0, none⟩) (Kd.R_types HO239.out BK240.out (by decide)) (fun _ hk => hk.2) (.int .i64 (wrap64 (rd t224 1)))) (fun _ hk => hk.2) (.int .i64 (wrap64 (rd t224 3)))) (fun _ hk => hk.2) (.slice Ao74 y237.length co74)) (fun _ h_ => h_.1))) (Kd.R_base ho0) hb); have n2_ := Aside0.mk (Kd.R_lower (Kd.R_new' ho0 (Kd.R_lt (by (with_reducible repeat (first | apply Kd.R_alloc | apply Kd.R_drewN | apply Kd.R_drew)); exact (Kd.R_mono (Kd.R_far (p := ⟨gb240, 2, none⟩) (Kd.R_far (p := ⟨gb240, 1, none⟩) (Kd.R_far (p := ⟨gb240, 0, none⟩) (Kd.R_types HO239.out BK240.out (by decide)) (fun _ hk => hk.2) (.int .i64 (wrap64 (rd t224 1)))) (fun _ hk => hk.2) (.int .i64 (wrap64 (rd t224 3)))) (fun _ hk => hk.2) (.slice Ao74 y237.length co74)) (fun _ h_ => h_.1))))) (below_size (by repeat (first | (with_reducible first | exact HB.out | apply below_alloc | apply pw_below_drewN | apply below_drew1 | refine below_set ?_ GE222.out | refine below_set ?_ GE240.out) | exact HB.out)))); have n3_ := Aside0.mk (blk_below (g := gb222) (o := .cells #[.int .i64 0, .int .i64 0, .slice none 0 0] 25 (0, 0)) (by (with_reducible repeat (first | refine blk_drewN ?_ _ | refine blk_drew ?_ | refine blk_alloc ?_ _)); refine blk_far ?_ NB222_240.out _; (with_reducible repeat (first | refine blk_drewN ?_ _ | refine blk_drew ?_ | refine blk_alloc ?_ _)); refine blk_far ?_ NB222_240.out _; (with_reducible repeat (first | refine blk_drewN ?_ _ | refine blk_drew ?_ | refine blk_alloc ?_ _)); refine blk_far ?_ NB222_240.out _; (with_reducible repeat (first | refine blk_drewN ?_ _ | refine blk_drew ?_ | refine blk_alloc ?_ _)); exact BK222.out) hb); have n4_ := Aside0.mk (blk_below (g := gb240) (o := .cells #[.int .i64 (wrap64 (rd t224 1)), .int .i64 (wrap64 (rd t224 3)), .slice Ao74 y237.length co74] 25 (0, 0)) (by (with_reducible repeat (first | refine blk_drewN ?_ _ | refine blk_drew ?_ | refine blk_alloc ?_ _)); refine blk_put (cs := #[.int .i64 (wrap64 (rd t224 1)), .int .i64 (wrap64 (rd t224 3)), .slice none 0 0]) ?_ 2 _ rfl; (with_reducible repeat (first | refine blk_drewN ?_ _ | refine blk_drew ?_ | refine blk_alloc ?_ _)); refine blk_put (cs := #[.int .i64 (wrap64 (rd t224 1)), .int .i64 0, .slice none 0 0]) ?_ 1 _ rfl; (with_reducible repeat (first | refine blk_drewN ?_ _ | refine blk_drew ?_ | refine blk_alloc ?_ _)); refine blk_put (cs := #[.int .i64 0, .int .i64 0, .slice none 0 0]) ?_ 0 _ rfl; (with_reducible repeat (first | refine blk_drewN ?_ _ | refine blk_drew ?_ | refine blk_alloc ?_ _)); exact BK240.out) hb); have n5_ := Aside0.mk (below_step (by repeat (first | (with_reducible first | exact HB.out | apply below_alloc | apply pw_below_drewN | apply below_drew1 | refine below_set ?_ GE222.out | refine below_set ?_ GE240.out) | exact HB.out)) hb); clear HO_5; clear HO239; clear BK222; clear BK240; clear HB; have HO_5 := n0_; have HO239 := n1_; have HO243 := n2_; have BK222 := n3_; have BK240 := n4_; have HB := n5_; clear n0_ n1_ n2_ n3_ n4_ n5_; (try clear hb); (try clear hb2); (try clear hk); (try clear hi); (try clear ho0)))
             have n0_ := Aside0.mk (Kd.R_drew HO_5.out)
             have n1_ := Aside0.mk (Kd.R_drew HO239.out)
             have n2_ := Aside0.mk (Kd.R_drew HO243.out)
             have n3_ := Aside0.mk (blk_drew BK222.out)
             have n4_ := Aside0.mk (blk_drew BK240.out)
             have n5_ := Aside0.mk (below_drew1 HB.out)
             clear HO_5
             clear HO239
             clear HO243
             clear BK222
             clear BK240
             clear HB
             have HO_5 := n0_
             have HO239 := n1_
             have HO243 := n2_
             have BK222 := n3_
             have BK240 := n4_
             have HB := n5_
             clear n0_ n1_ n2_ n3_ n4_ n5_
             refine start_ (n := 11) (S := fun w' => True) (ds := []) #[false, false, false, false, false, false, false, false, false, false, false] (by kernel_rfl) rfl rfl trivial (fun hHeld => ?_); refine with_tabW waggonerref05_Read_p.tab9 waggonerref05_Read_p.bits9 (fun HT_ HW_ => ?_)
             generalize w80.drew = w81 at HO_5 HO239 HO243 BK222 BK240 HB hHeld ⊢
             refine pure_ (i := 0) (N := some 61) (v := ?_) (a' := ?_) #[true, false, false, false, false, false, false, false, false, false, false] rfl rfl (any_of HT_.out (by kernel_rfl)) (fun _ _ _ h => h) (Or.inl ⟨by rfl, ?_⟩) ?_ ?_
             rotate_left
             ·intro w'
              go_simp
              with_reducible rfl
             rotate_left
             ·simp only [Act.put, Kx.sb, Kx.sz, Kx.ss, i64_w, i32_w]
              rfl
             refine pure_ (i := 1) (N := some 62) (v := ?_) (a' := ?_) #[true, true, false, false, false, false, false, false, false, false, false] rfl rfl (any_of HT_.out (by kernel_rfl)) (fun _ _ _ h => h) (Or.inl ⟨by rfl, ?_⟩) ?_ ?_
             rotate_left
             ·intro w'
              go_simp
              with_reducible rfl
             rotate_left
             ·simp only [Act.put, Kx.sb, Kx.sz, Kx.ss, i64_w, i32_w]
              rfl
             refine pure_ (i := 2) (N := some 63) (v := ?_) (a' := ?_) #[true, true, true, false, false, false, false, false, false, false, false] rfl rfl (any_of HT_.out (by kernel_rfl)) (fun _ _ _ h => h) (Or.inl ⟨by rfl, ?_⟩) ?_ ?_
             rotate_left
             ·intro w'
              go_simp
              with_reducible rfl
             rotate_left
             ·simp only [Act.put, Kx.sb, Kx.sz, Kx.ss, i64_w, i32_w]
              rfl
             refine pure_ (i := 3) (N := some 64) (v := undef) (a' := ?_) #[true, true, true, true, false, false, false, false, false, false, false] rfl rfl (any_of HT_.out (by kernel_rfl)) (fun _ _ _ h => h) (Or.inr ⟨by rfl, rfl⟩) ?_ ?_
             rotate_left
             ·simp only [Act.put, Kx.sb, Kx.sz, Kx.ss, i64_w, i32_w]
              rfl
             refine pure_ (i := 4) (N := some 65) (v := undef) (a' := ?_) #[true, true, true, true, true, false, false, false, false, false, false] rfl rfl (any_of HT_.out (by kernel_rfl)) (fun _ _ _ h => h) (Or.inr ⟨by rfl, rfl⟩) ?_ ?_
             rotate_left
             ·simp only [Act.put, Kx.sb, Kx.sz, Kx.ss, i64_w, i32_w]
              rfl
             refine pure_ (i := 5) (N := some 66) (v := undef) (a' := ?_) #[true, true, true, true, true, true, false, false, false, false, false] rfl rfl (any_of HT_.out (by kernel_rfl)) (fun _ _ _ h => h) (Or.inr ⟨by rfl, rfl⟩) ?_ ?_
             rotate_left
             ·simp only [Act.put, Kx.sb, Kx.sz, Kx.ss, i64_w, i32_w]
              rfl
             refine pure_ (i := 6) (N := some 67) (v := undef) (a' := ?_) #[true, true, true, true, true, true, true, false, false, false, false] rfl rfl (any_of HT_.out (by kernel_rfl)) (fun _ _ _ h => h) (Or.inr ⟨by rfl, rfl⟩) ?_ ?_
             rotate_left
             ·simp only [Act.put, Kx.sb, Kx.sz, Kx.ss, i64_w, i32_w]
              rfl
             refine pure_ (i := 7) (N := some 68) (v := undef) (a' := ?_) #[true, true, true, true, true, true, true, true, false, false, false] rfl rfl (any_of HT_.out (by kernel_rfl)) (fun _ _ _ h => h) (Or.inr ⟨by rfl, rfl⟩) ?_ ?_
             rotate_left
             ·simp only [Act.put, Kx.sb, Kx.sz, Kx.ss, i64_w, i32_w]
              rfl
             refine pure_ (i := 8) (N := some 69) (v := undef) (a' := ?_) #[true, true, true, true, true, true, true, true, true, false, false] rfl rfl (any_of HT_.out (by kernel_rfl)) (fun _ _ _ h => h) (Or.inr ⟨by rfl, rfl⟩) ?_ ?_
             rotate_left
             ·simp only [Act.put, Kx.sb, Kx.sz, Kx.ss, i64_w, i32_w]
              rfl
             refine pure_ (i := 9) (N := some 70) (v := undef) (a' := ?_) #[true, true, true, true, true, true, true, true, true, true, false] rfl rfl (any_of HT_.out (by kernel_rfl)) (fun _ _ _ h => h) (Or.inr ⟨by rfl, rfl⟩) ?_ ?_
             rotate_left
             ·simp only [Act.put, Kx.sb, Kx.sz, Kx.ss, i64_w, i32_w]
              rfl
             refine pure_ (i := 10) (N := some 71) (v := ?_) (a' := ?_) #[true, true, true, true, true, true, true, true, true, true, true] rfl rfl (any_of HT_.out (by kernel_rfl)) (fun _ _ _ h => h) (Or.inl ⟨by rfl, ?_⟩) ?_ ?_
             rotate_left
             ·intro w'
              go_simp
              with_reducible rfl
             rotate_left
             ·simp only [Act.put, Kx.sb, Kx.sz, Kx.ss, i64_w, i32_w]
              rfl
             refine done_ (done_of HT_.out (by kernel_rfl)) ?_
             have hcz82_0 : w81.cell? ⟨gb222, 0, none⟩ = some (.int .i64 0) := (blk_cell BK222.out 0).trans rfl
             have hcz82_1 : w81.cell? ⟨gb222, 1, none⟩ = some (.int .i64 0) := (blk_cell BK222.out 1).trans rfl
             have hcz82_2 : w81.cell? ⟨gb222, 2, none⟩ = some (.slice none 0 0) := (blk_cell BK222.out 2).trans rfl
             have hfz82_0 := blk_frozen BK222.out 0
             have hfz82_1 := blk_frozen BK222.out 1
             have hfz82_2 := blk_frozen BK222.out 2
             try go_wp2
             refine bodyPost_ret (results_ctt rfl _ _ gb222 25 #[.int .i64 0, .int .i64 0, .slice none 0 0] (0, 0) _ rfl (by (with_reducible repeat (first | refine blk_drewN ?_ _ | refine blk_drew ?_ | refine blk_alloc ?_ _)); refine blk_put (cs := #[.int .i64 0, .int .i64 0, .slice none 0 0]) ?_ 2 _ rfl; (with_reducible repeat (first | refine blk_drewN ?_ _ | refine blk_drew ?_ | refine blk_alloc ?_ _)); refine blk_put (cs := #[.int .i64 0, .int .i64 0, .slice none 0 0]) ?_ 1 _ rfl; (with_reducible repeat (first | refine blk_drewN ?_ _ | refine blk_drew ?_ | refine blk_alloc ?_ _)); refine blk_put (cs := #[.int .i64 0, .int .i64 0, .slice none 0 0]) ?_ 0 _ rfl; (with_reducible repeat (first | refine blk_drewN ?_ _ | refine blk_drew ?_ | refine blk_alloc ?_ _)); exact BK222.out) Try.underlying25 rfl (by kernel_rfl)) rfl ?_
             exact ⟨_, by first | rfl | (simp [errW_none, errW_some] <;> rfl) | (simp [*, errW_none, errW_some] <;> rfl), by first | exact Kd.R_nil _ _ _ _ _ | exact Kd.N_nil _ _ _ _ _ | exact Kd.V_nil _ _ _ _ _ | exact Kd.Q_nil _ _ _ _ _ | exact Kd.S_nil _ _ _ _ _, by repeat (first | (with_reducible first | exact HB.out | apply below_alloc | apply pw_below_drewN | apply below_drew1 | refine below_set ?_ GE222.out | refine below_set ?_ GE240.out) | exact HB.out)⟩
           ·rw [if_neg c23] at H
            exact absurd H (by simp)
          ·rw [if_neg c22] at H
           exact absurd H (by simp)
         ·rw [if_neg c21] at H
          exact absurd H (by simp)
        ·rw [if_neg c20] at H
         exact absurd H (by simp)
       ·rw [if_neg c19] at H
        exact absurd H (by simp)
   ·rw [if_neg c7] at H
    exact absurd H (by simp)
  ·rw [if_neg c5] at H
   exact absurd H (by simp)
end Go.Proofs.Ytcemlfkboifncaa.PT
