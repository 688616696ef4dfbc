/- Words and walks that this claim names, of those that the kit's print and programs of this workplace have printed. -/
import Derived.Test.YtcemlfkboifncaaZPPPx14
import Derived.Test.YtcemlfkboifncaaZPPPx15
namespace Go.Proofs.Ytcemlfkboifncaa.PP
open Go.RowKit Go.Proofs.YtcemlfkboifncaaW.PrintWords Go.Proofs.YtcemlfkboifncaaW.PrintLast Go.Proofs.YtcemlfkboifncaaW.PrintMore
attribute [local go_sem] max2_int min2_int max_two min_two max_three min_three max_four min_four
set_option linter.unusedVariables false
set_option linter.unusedSimpArgs false
def extent_Check.f (a0_0 a0_1 a0_2 a0_3 : Int) (l0_4 : List Int) : Option Bool := some (Pl.extOk a0_0 a0_1 a0_2 a0_3 l0_4)
theorem extent_Check.tells_p (a0_0 a0_1 a0_2 a0_3 : Int) (l0_4 : List Int) : extent_Check_p.f a0_0 a0_1 a0_2 a0_3 l0_4 = some (Pl.extOk a0_0 a0_1 a0_2 a0_3 l0_4) := by
 unfold extent_Check_p.f extent_within.f extent_data.f Pl.extOk
 by_cases h0 : a0_0 ≥ 0
 rotate_left
 ·rw [if_neg h0, Option.bind_some, if_neg (by decide), decide_eq_false (by omega)]
 rw [if_pos h0, Option.bind_some]
 by_cases h1 : a0_0 ≤ 64
 rotate_left
 ·rw [decide_eq_false h1, if_neg (by decide), decide_eq_false (by omega)]
 rw [decide_eq_true h1, if_pos rfl]
 have hw : wrap64 (64 - a0_0) = 64 - a0_0 := by unfold wrap64; omega
 rw [hw]
 by_cases h2 : a0_1 ≥ 1
 rotate_left
 ·rw [if_neg h2, Option.bind_some, if_neg (by decide), decide_eq_false (by omega)]
 rw [if_pos h2, Option.bind_some]
 by_cases h3 : a0_1 ≤ 64 - a0_0
 rotate_left
 ·rw [decide_eq_false h3, if_neg (by decide), decide_eq_false (by omega)]
 rw [decide_eq_true h3, if_pos rfl]
 by_cases h4 : a0_2 ≥ 0
 rotate_left
 ·rw [if_neg h4, Option.bind_some, if_neg (by decide), decide_eq_false (by omega)]
 rw [if_pos h4, Option.bind_some]
 by_cases h5 : a0_2 ≤ 2
 rotate_left
 ·rw [decide_eq_false h5, if_neg (by decide), decide_eq_false (by omega)]
 rw [decide_eq_true h5, if_pos rfl]
 by_cases h6 : a0_3 ≥ 0
 rotate_left
 ·rw [if_neg h6, Option.bind_some, if_neg (by decide), decide_eq_false (by omega)]
 rw [if_pos h6, Option.bind_some]
 by_cases h7 : a0_3 ≤ 2147483647
 rotate_left
 ·rw [decide_eq_false h7, if_neg (by decide), decide_eq_false (by omega)]
 rw [decide_eq_true h7, if_pos rfl]
 have hw2 : wrap64 (a0_1 * 32) = a0_1 * 32 := by unfold wrap64; omega
 rw [hw2]
 have e : (if a0_2 = 2 then some (a0_1 * 32) else some 0) = some (if a0_2 = 2 then a0_1 * 32 else 0) := by split <;> rfl
 rw [e, Option.bind_some, Option.some.injEq, Bool.eq_iff_iff, beq_iff_eq, decide_eq_true_eq]
 constructor
 ·intro h; exact ⟨h0, h1, h2, h3, h4, h5, h6, h7, h⟩
 ·intro h; exact h.2.2.2.2.2.2.2.2
theorem extent_Check.tells (a0_0 a0_1 a0_2 a0_3 : Int) (l0_4 : List Int) : extent_Check.f a0_0 a0_1 a0_2 a0_3 l0_4 = some (Pl.extOk a0_0 a0_1 a0_2 a0_3 l0_4) := rfl
theorem extent_Check.closes {a0_0 a0_1 a0_2 a0_3 : Int} {l0_4 : List Int} {r : Bool} (h : extent_Check.f a0_0 a0_1 a0_2 a0_3 l0_4 = some r) : extent_Check_p.f a0_0 a0_1 a0_2 a0_3 l0_4 = some r := (extent_Check.tells_p a0_0 a0_1 a0_2 a0_3 l0_4).trans h
theorem extent_Check.calls (a0_0 : Int) (a0_1 : Int) (a0_2 : Int) (a0_3 : Int) (A0_4 : Option Addr) (c0_4 : Nat) (l0_4 : List Int) (r : Bool) (w : World) (hr0_4 : Kd.C (Kd.int .u8) w A0_4 l0_4.length l0_4) (hc0_4 : l0_4.length ≤ c0_4) (h : extent_Check.f a0_0 a0_1 a0_2 a0_3 l0_4 = some r) :
  Calls Try.prog 38 #[.agg #[.int .i64 a0_0, .int .i64 a0_1, .int .i64 a0_2, .int .i64 a0_3, .slice A0_4 l0_4.length c0_4]] w fun e w' => e = .returned (.bool r) ∧ Below w.heap.size w w' :=
 extent_Check_p.calls a0_0 a0_1 a0_2 a0_3 A0_4 c0_4 l0_4 r w hr0_4 hc0_4 (extent_Check.closes h)
def extent_Bytes.f (a0_0 : Int) (a0_1 : Int) (a0_2 : Int) (a0_3 : Int) (l0_4 : List Int) : Option (List Int) := some (Pl.extBytes a0_0 a0_1 a0_2 a0_3 l0_4)
set_option maxHeartbeats 2000000 in
theorem extent_Bytes.calls (a0_0 : Int) (a0_1 : Int) (a0_2 : Int) (a0_3 : Int) (A0_4 : Option Addr) (c0_4 : Nat) (l0_4 : List Int) (r : List Int) (w : World) (hr0_4 : Kd.C (Kd.int .u8) w A0_4 l0_4.length l0_4) (hc0_4 : l0_4.length ≤ c0_4) (h : extent_Bytes.f a0_0 a0_1 a0_2 a0_3 l0_4 = some r) :
  Calls Try.prog 40 #[.agg #[.int .i64 a0_0, .int .i64 a0_1, .int .i64 a0_2, .int .i64 a0_3, .slice A0_4 l0_4.length c0_4]] w fun e w' => ∃ v0_ : Value, e = .returned (v0_) ∧ Kd.R (Kd.int .u8) 5 w' w.heap.size (fun _ => True) v0_ r ∧ Below w.heap.size w w' := by
 have hu := Try.underlying46
 have HR0_4 := Aside0.mk hr0_4
 have HC0_4 := Aside0.mk hc0_4
 clear hr0_4 hc0_4
 have HB := Aside0.mk (Below.refl w.heap.size w)
 obtain rfl := Option.some.inj h
 clear h
 by_cases ho : Pl.extOk a0_0 a0_1 a0_2 a0_3 l0_4 = true
 ·obtain ⟨p0, p1, p2, p3, p4, p5, p6, p7, p8⟩ := Pl.extOk_iff.1 ho
  have hle : (l0_4.length : Int) ≤ a0_1 * 32 := by rw [p8]; split <;> omega
  obtain ⟨n, hn⟩ : ∃ n : Nat, (n : Int) = a0_1 * 32 := ⟨(a0_1 * 32).toNat, by omega⟩
  have hw : (IntKind.i64.wrap (a0_1 * 32)) = (n : Int) := by rw [i64_w]; unfold wrap64; omega
  have hw2 : wrap64 (a0_1 * 32) = (n : Int) := by unfold wrap64; omega
  have hn2 : n ≤ 2048 := by omega
  have N1 := Aside0.mk hn2
  have N2 := Aside0.mk (show l0_4.length ≤ n by omega)
  have hr : Pl.extBytes a0_0 a0_1 a0_2 a0_3 l0_4 = l0_4 ++ List.replicate (n - l0_4.length) 0 := by
   unfold Pl.extBytes
   rw [if_pos ho, show (a0_1 * 32).toNat = n by omega]
  rw [hr]
  have A2 := Aside0.mk ((extent_Check.tells a0_0 a0_1 a0_2 a0_3 l0_4).trans (congrArg some ho))
  clear ho p0 p1 p2 p3 p4 p5 p6 p7 p8 hle hn hn2 hr
  go_enter Try.func40, Try.ntmps40
  go_wp2_with (first | ((with_reducible refine gate_dst (N := 1) rfl ?_); refine box_event ?hg (N := 1) ?hd (cs := #[.int .i64 a0_0, .int .i64 a0_1, .int .i64 a0_2, .int .i64 a0_3, .slice A0_4 l0_4.length c0_4]) (t := 46) ?hr ?_; (case hd => rfl); (case hg => rfl); (case hr => first | (go_simp; done) | (go_simp; rfl)); intro gb256 hg w17 hbox hb; have n0_ := Aside0.mk (below_step HB.out hb); have n1_ := Aside0.mk (hbox); have n3_ := Aside0.mk ((by rw [hg]; exact (below_size HB.out)) : w.heap.size ≤ gb256); clear HB; have HB := n0_; have BK256 := n1_; have GE256 := n3_; clear n0_ n1_ n3_; clear hb hbox hg; have hcz18_0 : w17.cell? ⟨gb256, 0, none⟩ = some (.int .i64 a0_0) := (blk_cell BK256.out 0).trans rfl; have hcz18_1 : w17.cell? ⟨gb256, 1, none⟩ = some (.int .i64 a0_1) := (blk_cell BK256.out 1).trans rfl; have hcz18_2 : w17.cell? ⟨gb256, 2, none⟩ = some (.int .i64 a0_2) := (blk_cell BK256.out 2).trans rfl; have hcz18_3 : w17.cell? ⟨gb256, 3, none⟩ = some (.int .i64 a0_3) := (blk_cell BK256.out 3).trans rfl; have hcz18_4 : w17.cell? ⟨gb256, 4, none⟩ = some (.slice A0_4 l0_4.length c0_4) := (blk_cell BK256.out 4).trans rfl) | ((with_reducible refine gate_callee (f := 38) rfl ?_); refine goesL_ (some 5) rfl rfl Try.func38 (by kernel_rfl) rfl #[.agg #[.int .i64 a0_0, .int .i64 a0_1, .int .i64 a0_2, .int .i64 a0_3, .slice A0_4 l0_4.length c0_4]] rfl (by (try simp only [List.map_toArray, List.map_cons, List.map_nil]); first | done | rfl) ?_; (with_reducible refine (extent_Check.calls a0_0 a0_1 a0_2 a0_3 _ _ l0_4 true _ ?side1 ?side2 A2.out).mono ?_); (case side1 => exact (Kd.C_below HR0_4.out HB.out)); (case side2 => exact HC0_4.out); rintro e w19 ⟨rfl, hb⟩; refine ⟨_, rfl, ?_⟩; have n0_ := Aside0.mk (blk_below BK256.out hb); have n1_ := Aside0.mk (below_step HB.out hb); clear BK256; clear HB; have BK256 := n0_; have HB := n1_; clear n0_ n1_; clear hb; have hcz20_0 : w19.cell? ⟨gb256, 0, none⟩ = some (.int .i64 a0_0) := (blk_cell BK256.out 0).trans rfl; have hcz20_1 : w19.cell? ⟨gb256, 1, none⟩ = some (.int .i64 a0_1) := (blk_cell BK256.out 1).trans rfl; have hcz20_2 : w19.cell? ⟨gb256, 2, none⟩ = some (.int .i64 a0_2) := (blk_cell BK256.out 2).trans rfl; have hcz20_3 : w19.cell? ⟨gb256, 3, none⟩ = some (.int .i64 a0_3) := (blk_cell BK256.out 3).trans rfl; have hcz20_4 : w19.cell? ⟨gb256, 4, none⟩ = some (.slice A0_4 l0_4.length c0_4) := (blk_cell BK256.out 4).trans rfl) | ((with_reducible refine gate_dst (N := 10) rfl ?_); refine Kd.R_make (Kd.int .u8) _ 5 rfl (N := 10) rfl 23 _ _ rfl (n : Int) rfl rfl Try.underlying23 (.int .u8 0) 1 info5 rfl (by decide) (by omega) 0 (ok := fun _ => True) (okp := fun _ => True) rfl (fun _ hk => hk) trivial (by omega) (by have := N1.out; omega) (Below.refl _ _) (Nat.le_refl _) ?_; intro v265 w21 ho22 hb hg_ hnew_; clear hg_ hnew_; rw [Int.toNat_natCast] at ho22; have n0_ := Aside0.mk (Kd.R_lower ho22 (below_size HB.out)); have n1_ := Aside0.mk (blk_below BK256.out hb); have n2_ := Aside0.mk (below_step HB.out hb); clear BK256; clear HB; have HO266 := n0_; have BK256 := n1_; have HB := n2_; clear n0_ n1_ n2_; clear hb ho22; have hcz30_4 : w21.cell? ⟨gb256, 4, none⟩ = some (.slice A0_4 l0_4.length c0_4) := (blk_cell BK256.out 4).trans rfl) | ((with_reducible refine gate_builtin (b := .copy) (xs := #[.tmp 11, .tmp 13]) rfl ?_); refine Kd.R_copy (d := 0) (w0 := w) w.heap.size rfl (.tmp 11) (.tmp 13) 23 23 5 rfl Try.underlying23 (by kernel_rfl) v265 (List.replicate n 0) l0_4 A0_4 l0_4.length c0_4 (fun _ => True) rfl rfl HO266.out (Kd.C_below HR0_4.out HB.out) HB.out (below_size HB.out) ?_; intro w31 ho hb hg; have n0_ := Aside0.mk ho; have n1_ := Aside0.mk hb; clear HB HO266; have HO266 := n0_; have HB := n1_; clear n0_ n1_ ho hb hg))
  go_ret
  have hr := HO266.out
  rw [List.length_replicate, Nat.min_eq_left N2.out, List.take_length, List.drop_replicate] at hr
  exact ⟨_, rfl, hr, HB.out⟩
 ·rw [show Pl.extBytes a0_0 a0_1 a0_2 a0_3 l0_4 = [] from if_neg ho]
  have A2 := Aside0.mk ((extent_Check.tells a0_0 a0_1 a0_2 a0_3 l0_4).trans (congrArg some (Bool.eq_false_iff.2 ho)))
  clear ho
  go_enter Try.func40, Try.ntmps40
  go_wp2_with (first | ((with_reducible refine gate_dst (N := 1) rfl ?_); refine box_event ?hg (N := 1) ?hd (cs := #[.int .i64 a0_0, .int .i64 a0_1, .int .i64 a0_2, .int .i64 a0_3, .slice A0_4 l0_4.length c0_4]) (t := 46) ?hr ?_; (case hd => rfl); (case hg => rfl); (case hr => first | (go_simp; done) | (go_simp; rfl)); intro gb256 hg w17 hbox hb; have n0_ := Aside0.mk (below_step HB.out hb); have n1_ := Aside0.mk (hbox); clear HB; have HB := n0_; have BK256 := n1_; clear n0_ n1_; clear hb hbox hg; have hcz18_0 : w17.cell? ⟨gb256, 0, none⟩ = some (.int .i64 a0_0) := (blk_cell BK256.out 0).trans rfl; have hcz18_1 : w17.cell? ⟨gb256, 1, none⟩ = some (.int .i64 a0_1) := (blk_cell BK256.out 1).trans rfl; have hcz18_2 : w17.cell? ⟨gb256, 2, none⟩ = some (.int .i64 a0_2) := (blk_cell BK256.out 2).trans rfl; have hcz18_3 : w17.cell? ⟨gb256, 3, none⟩ = some (.int .i64 a0_3) := (blk_cell BK256.out 3).trans rfl; have hcz18_4 : w17.cell? ⟨gb256, 4, none⟩ = some (.slice A0_4 l0_4.length c0_4) := (blk_cell BK256.out 4).trans rfl) | ((with_reducible refine gate_callee (f := 38) rfl ?_); refine goesL_ (some 5) rfl rfl Try.func38 (by kernel_rfl) rfl #[.agg #[.int .i64 a0_0, .int .i64 a0_1, .int .i64 a0_2, .int .i64 a0_3, .slice A0_4 l0_4.length c0_4]] rfl (by (try simp only [List.map_toArray, List.map_cons, List.map_nil]); first | done | rfl) ?_; (with_reducible refine (extent_Check.calls a0_0 a0_1 a0_2 a0_3 _ _ l0_4 false _ ?side1 ?side2 A2.out).mono ?_); (case side1 => exact (Kd.C_below HR0_4.out HB.out)); (case side2 => exact HC0_4.out); rintro e w19 ⟨rfl, hb⟩; refine ⟨_, rfl, ?_⟩; have n1_ := Aside0.mk (below_step HB.out hb); clear HB; have HB := n1_; clear n1_; clear hb))
  go_ret
  exact ⟨_, rfl, Kd.R_nil _ _ _ _ _, HB.out⟩
def extent_Cut_p.j0 : Nat → Int → Int → Bool → Int → Int → Int → Int → List Int → Option (Int × Int × Int × Int × List Int × Bool)
 | 0, _, _, _, _, _, _, _, _ => none
 | k + 1, x1, x2, x23, x115000, x115001, x115002, x115003, x115004 => if x23 = true then (some (0, 0, 0, 0, ([] : List Int), false)) else (if (mx x115000 x1) ≥ (mn (wrap64 (x115000 + x115001)) (wrap64 (x1 + x2))) then (some (0, 0, 0, 0, ([] : List Int), false)) else (if x115002 = 2 then (if 0 ≤ (wrap64 ((wrap64 ((mx x115000 x1) - x115000)) * 32)) then (if (wrap64 ((wrap64 ((mx x115000 x1) - x115000)) * 32)) ≤ (wrap64 ((wrap64 ((mn (wrap64 (x115000 + x115001)) (wrap64 (x1 + x2))) - x115000)) * 32)) then (if (wrap64 ((wrap64 ((mn (wrap64 (x115000 + x115001)) (wrap64 (x1 + x2))) - x115000)) * 32)) ≤ (x115004.length : Int) then ((bytes_Clone.f ((x115004.take ((wrap64 ((wrap64 ((mn (wrap64 (x115000 + x115001)) (wrap64 (x1 + x2))) - x115000)) * 32)) : Int).toNat).drop ((wrap64 ((wrap64 ((mx x115000 x1) - x115000)) * 32)) : Int).toNat)).bind fun t120 => (some (mx x115000 x1, wrap64 ((mn (wrap64 (x115000 + x115001)) (wrap64 (x1 + x2))) - (mx x115000 x1)), x115002, x115003, t120, true))) else (none)) else (none)) else (none)) else (some (mx x115000 x1, wrap64 ((mn (wrap64 (x115000 + x115001)) (wrap64 (x1 + x2))) - (mx x115000 x1)), x115002, x115003, ([] : List Int), true))))
def extent_Cut_p.f (k : Nat) (a0_0 : Int) (a0_1 : Int) (a0_2 : Int) (a0_3 : Int) (l0_4 : List Int) (a1 : Int) (a2 : Int) : Option (Int × Int × Int × Int × List Int × Bool) := (extent_Check.f a0_0 a0_1 a0_2 a0_3 l0_4).bind fun t116 => (if t116 = true then ((extent_within.f a1 0 64).bind fun t117 => (if t117 = true then ((extent_within.f a2 0 64).bind fun t118 => (extent_Cut_p.j0 k a1 a2 (!t118) a0_0 a0_1 a0_2 a0_3 l0_4)) else (extent_Cut_p.j0 k a1 a2 true a0_0 a0_1 a0_2 a0_3 l0_4))) else (extent_Cut_p.j0 k a1 a2 true a0_0 a0_1 a0_2 a0_3 l0_4))
set_option maxHeartbeats 8000000 in
set_option maxRecDepth 100000 in
theorem extent_Cut_p.calls (k : Nat) (a0_0 : Int) (a0_1 : Int) (a0_2 : Int) (a0_3 : Int) (A0_4 : Option Addr) (c0_4 : Nat) (l0_4 : List Int) (a1 : Int) (a2 : Int) (r1 : Int) (r2 : Int) (r3 : Int) (r4 : Int) (r5 : List Int) (r6 : Bool) (w : World) (hr0_4 : Kd.C (Kd.int .u8) w A0_4 l0_4.length l0_4) (hc0_4 : l0_4.length ≤ c0_4) (h : extent_Cut_p.f k a0_0 a0_1 a0_2 a0_3 l0_4 a1 a2 = some (r1, r2, r3, r4, r5, r6)) :
  Calls Try.prog 33 #[.agg #[.int .i64 a0_0, .int .i64 a0_1, .int .i64 a0_2, .int .i64 a0_3, .slice A0_4 l0_4.length c0_4], .int .i64 a1, .int .i64 a2] w fun e w' => ∃ v4_ : Value, e = .returned (.tuple #[.agg #[.int .i64 r1, .int .i64 r2, .int .i64 r3, .int .i64 r4, v4_], .bool r6]) ∧ Kd.R (Kd.int .u8) 5 w' w.heap.size (fun _ => True) v4_ r5 ∧ Below w.heap.size w w' := by
 have hu46 := Try.underlying46
 have HR0_4 := Aside0.mk hr0_4
 have HC0_4 := Aside0.mk hc0_4
 clear hr0_4 hc0_4
 have HB := Aside0.mk (Below.refl w.heap.size w)
 have H : ((extent_Check.f a0_0 a0_1 a0_2 a0_3 l0_4).bind fun t116 => (if t116 = true then ((extent_within.f a1 0 64).bind fun t117 => (if t117 = true then ((extent_within.f a2 0 64).bind fun t118 => (extent_Cut_p.j0 k a1 a2 (!t118) a0_0 a0_1 a0_2 a0_3 l0_4)) else (extent_Cut_p.j0 k a1 a2 true a0_0 a0_1 a0_2 a0_3 l0_4))) else (extent_Cut_p.j0 k a1 a2 true a0_0 a0_1 a0_2 a0_3 l0_4))) = some (r1, r2, r3, r4, r5, r6) := h
 clear h
 have HC4 := Aside0.mk H
 clear H
 go_enter Try.func33, Try.ntmps33
 go_upto_region 1 with (first | ((with_reducible refine gate_dst (N := 3) rfl ?_); refine box_event ?hg (N := 3) ?hd (cs := #[.int .i64 a0_0, .int .i64 a0_1, .int .i64 a0_2, .int .i64 a0_3, .slice A0_4 l0_4.length c0_4]) (t := 46) ?hr ?_; (case hd => rfl); (case hg => rfl); (case hr => first | (go_simp; done) | (go_simp; rfl)); intro gb114 hg w5 hbox hb; have n0_ := Aside0.mk (below_step (by repeat (first | (with_reducible first | exact HB.out | apply below_alloc | apply pw_below_drewN | apply below_drew1) | exact HB.out)) hb); have n1_ := Aside0.mk (hbox); have n2_ := Aside0.mk ((by rw [hg]; exact (below_size (by repeat (first | (with_reducible first | exact HB.out | apply below_alloc | apply pw_below_drewN | apply below_drew1) | exact HB.out))) : w.heap.size ≤ gb114)); have n3_ := Aside0.mk ((by rw [hg]; exact (below_size (by repeat (first | (with_reducible first | exact HB.out | apply below_alloc | apply pw_below_drewN | apply below_drew1) | exact HB.out))) : w.heap.size ≤ gb114)); clear HB; have HB := n0_; have BK114 := n1_; have GW114 := n2_; have GE114 := n3_; clear n0_ n1_ n2_ n3_; clear hb hbox hg) | ((with_reducible refine gate_dst (N := 6) rfl ?_); refine box_event ?hg (N := 6) ?hd (cs := #[.int .i64 0, .int .i64 0, .int .i64 0, .int .i64 0, .slice none 0 0]) (t := 46) ?hr ?_; (case hd => rfl); (case hg => rfl); (case hr => first | (go_simp; done) | (go_simp; rfl)); intro gb115 hg w6 hbox hb; have n0_ := Aside0.mk (blk_below (g := gb114) (o := .cells #[.int .i64 a0_0, .int .i64 a0_1, .int .i64 a0_2, .int .i64 a0_3, .slice A0_4 l0_4.length c0_4] 46 (0, 0)) (by (with_reducible repeat (first | refine blk_drewN ?_ _ | refine blk_drew ?_ | refine blk_alloc ?_ _)); exact BK114.out) hb); have n1_ := Aside0.mk (below_step (by repeat (first | (with_reducible first | exact HB.out | apply below_alloc | apply pw_below_drewN | apply below_drew1 | refine below_set ?_ GE114.out) | exact HB.out)) hb); have n2_ := Aside0.mk (hbox); have n3_ := Aside0.mk ((by rw [hg]; exact (below_size (by repeat (first | (with_reducible first | exact HB.out | apply below_alloc | apply pw_below_drewN | apply below_drew1 | refine below_set ?_ GE114.out) | exact HB.out))) : w.heap.size ≤ gb115)); have n4_ := Aside0.mk ((by rw [hg]; exact (below_size (by repeat (first | (with_reducible first | exact HB.out | apply below_alloc | apply pw_below_drewN | apply below_drew1 | refine below_set ?_ GE114.out) | exact HB.out))) : w.heap.size ≤ gb115)); have n5_ := Aside0.mk ((by rw [hg]; exact Nat.ne_of_lt (blk_lt (g := gb114) (o := .cells #[.int .i64 a0_0, .int .i64 a0_1, .int .i64 a0_2, .int .i64 a0_3, .slice A0_4 l0_4.length c0_4] 46 (0, 0)) (by (with_reducible repeat (first | refine blk_drewN ?_ _ | refine blk_drew ?_ | refine blk_alloc ?_ _)); exact BK114.out)) : gb114 ≠ gb115)); have n6_ := Aside0.mk ((by rw [hg]; exact Nat.ne_of_gt (blk_lt (g := gb114) (o := .cells #[.int .i64 a0_0, .int .i64 a0_1, .int .i64 a0_2, .int .i64 a0_3, .slice A0_4 l0_4.length c0_4] 46 (0, 0)) (by (with_reducible repeat (first | refine blk_drewN ?_ _ | refine blk_drew ?_ | refine blk_alloc ?_ _)); exact BK114.out)) : gb115 ≠ gb114)); clear BK114; clear HB; have BK114 := n0_; have HB := n1_; have BK115 := n2_; have GW115 := n3_; have GE115 := n4_; have NB114_115 := n5_; have NB115_114 := n6_; clear n0_ n1_ n2_ n3_ n4_ n5_ n6_; clear hb hbox hg))
 repeat (go_quiet (first | ((with_reducible refine gate_dst (N := 3) rfl ?_); refine box_event ?hg (N := 3) ?hd (cs := #[.int .i64 a0_0, .int .i64 a0_1, .int .i64 a0_2, .int .i64 a0_3, .slice A0_4 l0_4.length c0_4]) (t := 46) ?hr ?_; (case hd => rfl); (case hg => rfl); (case hr => first | (go_simp; done) | (go_simp; rfl)); intro gb114 hg w5 hbox hb; have n0_ := Aside0.mk (below_step (by repeat (first | (with_reducible first | exact HB.out | apply below_alloc | apply pw_below_drewN | apply below_drew1) | exact HB.out)) hb); have n1_ := Aside0.mk (hbox); have n2_ := Aside0.mk ((by rw [hg]; exact (below_size (by repeat (first | (with_reducible first | exact HB.out | apply below_alloc | apply pw_below_drewN | apply below_drew1) | exact HB.out))) : w.heap.size ≤ gb114)); have n3_ := Aside0.mk ((by rw [hg]; exact (below_size (by repeat (first | (with_reducible first | exact HB.out | apply below_alloc | apply pw_below_drewN | apply below_drew1) | exact HB.out))) : w.heap.size ≤ gb114)); clear HB; have HB := n0_; have BK114 := n1_; have GW114 := n2_; have GE114 := n3_; clear n0_ n1_ n2_ n3_; clear hb hbox hg) | ((with_reducible refine gate_dst (N := 6) rfl ?_); refine box_event ?hg (N := 6) ?hd (cs := #[.int .i64 0, .int .i64 0, .int .i64 0, .int .i64 0, .slice none 0 0]) (t := 46) ?hr ?_; (case hd => rfl); (case hg => rfl); (case hr => first | (go_simp; done) | (go_simp; rfl)); intro gb115 hg w6 hbox hb; have n0_ := Aside0.mk (blk_below (g := gb114) (o := .cells #[.int .i64 a0_0, .int .i64 a0_1, .int .i64 a0_2, .int .i64 a0_3, .slice A0_4 l0_4.length c0_4] 46 (0, 0)) (by (with_reducible repeat (first | refine blk_drewN ?_ _ | refine blk_drew ?_ | refine blk_alloc ?_ _)); exact BK114.out) hb); have n1_ := Aside0.mk (below_step (by repeat (first | (with_reducible first | exact HB.out | apply below_alloc | apply pw_below_drewN | apply below_drew1 | refine below_set ?_ GE114.out) | exact HB.out)) hb); have n2_ := Aside0.mk (hbox); have n3_ := Aside0.mk ((by rw [hg]; exact (below_size (by repeat (first | (with_reducible first | exact HB.out | apply below_alloc | apply pw_below_drewN | apply below_drew1 | refine below_set ?_ GE114.out) | exact HB.out))) : w.heap.size ≤ gb115)); have n4_ := Aside0.mk ((by rw [hg]; exact (below_size (by repeat (first | (with_reducible first | exact HB.out | apply below_alloc | apply pw_below_drewN | apply below_drew1 | refine below_set ?_ GE114.out) | exact HB.out))) : w.heap.size ≤ gb115)); have n5_ := Aside0.mk ((by rw [hg]; exact Nat.ne_of_lt (blk_lt (g := gb114) (o := .cells #[.int .i64 a0_0, .int .i64 a0_1, .int .i64 a0_2, .int .i64 a0_3, .slice A0_4 l0_4.length c0_4] 46 (0, 0)) (by (with_reducible repeat (first | refine blk_drewN ?_ _ | refine blk_drew ?_ | refine blk_alloc ?_ _)); exact BK114.out)) : gb114 ≠ gb115)); have n6_ := Aside0.mk ((by rw [hg]; exact Nat.ne_of_gt (blk_lt (g := gb114) (o := .cells #[.int .i64 a0_0, .int .i64 a0_1, .int .i64 a0_2, .int .i64 a0_3, .slice A0_4 l0_4.length c0_4] 46 (0, 0)) (by (with_reducible repeat (first | refine blk_drewN ?_ _ | refine blk_drew ?_ | refine blk_alloc ?_ _)); exact BK114.out)) : gb115 ≠ gb114)); clear BK114; clear HB; have BK114 := n0_; have HB := n1_; have BK115 := n2_; have GW115 := n3_; have GE115 := n4_; have NB114_115 := n5_; have NB115_114 := n6_; clear n0_ n1_ n2_ n3_ n4_ n5_ n6_; clear hb hbox hg)); go_upto_region 1 with (first | ((with_reducible refine gate_dst (N := 3) rfl ?_); refine box_event ?hg (N := 3) ?hd (cs := #[.int .i64 a0_0, .int .i64 a0_1, .int .i64 a0_2, .int .i64 a0_3, .slice A0_4 l0_4.length c0_4]) (t := 46) ?hr ?_; (case hd => rfl); (case hg => rfl); (case hr => first | (go_simp; done) | (go_simp; rfl)); intro gb114 hg w5 hbox hb; have n0_ := Aside0.mk (below_step (by repeat (first | (with_reducible first | exact HB.out | apply below_alloc | apply pw_below_drewN | apply below_drew1) | exact HB.out)) hb); have n1_ := Aside0.mk (hbox); have n2_ := Aside0.mk ((by rw [hg]; exact (below_size (by repeat (first | (with_reducible first | exact HB.out | apply below_alloc | apply pw_below_drewN | apply below_drew1) | exact HB.out))) : w.heap.size ≤ gb114)); have n3_ := Aside0.mk ((by rw [hg]; exact (below_size (by repeat (first | (with_reducible first | exact HB.out | apply below_alloc | apply pw_below_drewN | apply below_drew1) | exact HB.out))) : w.heap.size ≤ gb114)); clear HB; have HB := n0_; have BK114 := n1_; have GW114 := n2_; have GE114 := n3_; clear n0_ n1_ n2_ n3_; clear hb hbox hg) | ((with_reducible refine gate_dst (N := 6) rfl ?_); refine box_event ?hg (N := 6) ?hd (cs := #[.int .i64 0, .int .i64 0, .int .i64 0, .int .i64 0, .slice none 0 0]) (t := 46) ?hr ?_; (case hd => rfl); (case hg => rfl); (case hr => first | (go_simp; done) | (go_simp; rfl)); intro gb115 hg w6 hbox hb; have n0_ := Aside0.mk (blk_below (g := gb114) (o := .cells #[.int .i64 a0_0, .int .i64 a0_1, .int .i64 a0_2, .int .i64 a0_3, .slice A0_4 l0_4.length c0_4] 46 (0, 0)) (by (with_reducible repeat (first | refine blk_drewN ?_ _ | refine blk_drew ?_ | refine blk_alloc ?_ _)); exact BK114.out) hb); have n1_ := Aside0.mk (below_step (by repeat (first | (with_reducible first | exact HB.out | apply below_alloc | apply pw_below_drewN | apply below_drew1 | refine below_set ?_ GE114.out) | exact HB.out)) hb); have n2_ := Aside0.mk (hbox); have n3_ := Aside0.mk ((by rw [hg]; exact (below_size (by repeat (first | (with_reducible first | exact HB.out | apply below_alloc | apply pw_below_drewN | apply below_drew1 | refine below_set ?_ GE114.out) | exact HB.out))) : w.heap.size ≤ gb115)); have n4_ := Aside0.mk ((by rw [hg]; exact (below_size (by repeat (first | (with_reducible first | exact HB.out | apply below_alloc | apply pw_below_drewN | apply below_drew1 | refine below_set ?_ GE114.out) | exact HB.out))) : w.heap.size ≤ gb115)); have n5_ := Aside0.mk ((by rw [hg]; exact Nat.ne_of_lt (blk_lt (g := gb114) (o := .cells #[.int .i64 a0_0, .int .i64 a0_1, .int .i64 a0_2, .int .i64 a0_3, .slice A0_4 l0_4.length c0_4] 46 (0, 0)) (by (with_reducible repeat (first | refine blk_drewN ?_ _ | refine blk_drew ?_ | refine blk_alloc ?_ _)); exact BK114.out)) : gb114 ≠ gb115)); have n6_ := Aside0.mk ((by rw [hg]; exact Nat.ne_of_gt (blk_lt (g := gb114) (o := .cells #[.int .i64 a0_0, .int .i64 a0_1, .int .i64 a0_2, .int .i64 a0_3, .slice A0_4 l0_4.length c0_4] 46 (0, 0)) (by (with_reducible repeat (first | refine blk_drewN ?_ _ | refine blk_drew ?_ | refine blk_alloc ?_ _)); exact BK114.out)) : gb115 ≠ gb114)); clear BK114; clear HB; have BK114 := n0_; have HB := n1_; have BK115 := n2_; have GW115 := n3_; have GE115 := n4_; have NB114_115 := n5_; have NB115_114 := n6_; clear n0_ n1_ n2_ n3_ n4_ n5_ n6_; clear hb hbox hg)))
 (try simp only [Act.put, Kx.sb, Kx.sz, Kx.ss])
 go_cut [23] (fun v23 wc => ∃ (kq : Nat) (x23_3 : Bool), v23 = .bool x23_3 ∧ Aside0 (extent_Cut_p.j0 kq a1 a2 x23_3 a0_0 a0_1 a0_2 a0_3 l0_4 = some (r1, r2, r3, r4, r5, r6)) ∧ Aside0 (kq ≤ k) ∧ Aside0 (wc.heap[gb114]? = some (.cells #[.int .i64 a0_0, .int .i64 a0_1, .int .i64 a0_2, .int .i64 a0_3, (.slice A0_4 l0_4.length c0_4)] 46 (0, 0))) ∧ Aside0 (wc.heap[gb115]? = some (.cells #[.int .i64 0, .int .i64 0, .int .i64 0, .int .i64 0, (.slice none 0 0)] 46 (0, 0))) ∧ Aside0 (Below w.heap.size w wc))
 case first =>
  have H := HC4.out
  clear HC4
  replace H := Option.bind_eq_some_iff.mp H
  obtain ⟨t116, A70, H⟩ := H
  replace H : (if t116 = true then ((extent_within.f a1 0 64).bind fun t117 => (if t117 = true then ((extent_within.f a2 0 64).bind fun t118 => (extent_Cut_p.j0 k a1 a2 (!t118) a0_0 a0_1 a0_2 a0_3 l0_4)) else (extent_Cut_p.j0 k a1 a2 true a0_0 a0_1 a0_2 a0_3 l0_4))) else (extent_Cut_p.j0 k a1 a2 true a0_0 a0_1 a0_2 a0_3 l0_4)) = some (r1, r2, r3, r4, r5, r6) := H
  have A7 := Aside0.mk A70
  clear A70
  by_cases c8 : t116 = true
  ·subst c8
   have H1 : ((extent_within.f a1 0 64).bind fun t117 => (if t117 = true then ((extent_within.f a2 0 64).bind fun t118 => (extent_Cut_p.j0 k a1 a2 (!t118) a0_0 a0_1 a0_2 a0_3 l0_4)) else (extent_Cut_p.j0 k a1 a2 true a0_0 a0_1 a0_2 a0_3 l0_4))) = some (r1, r2, r3, r4, r5, r6) := by rw [if_pos rfl] at H <;> exact H
   clear H
   have H := H1
   clear H1
   replace H := Option.bind_eq_some_iff.mp H
   obtain ⟨t117, A90, H⟩ := H
   replace H : (if t117 = true then ((extent_within.f a2 0 64).bind fun t118 => (extent_Cut_p.j0 k a1 a2 (!t118) a0_0 a0_1 a0_2 a0_3 l0_4)) else (extent_Cut_p.j0 k a1 a2 true a0_0 a0_1 a0_2 a0_3 l0_4)) = some (r1, r2, r3, r4, r5, r6) := H
   have A9 := Aside0.mk A90
   clear A90
   by_cases c10 : t117 = true
   ·subst c10
    have H1 : ((extent_within.f a2 0 64).bind fun t118 => (extent_Cut_p.j0 k a1 a2 (!t118) a0_0 a0_1 a0_2 a0_3 l0_4)) = some (r1, r2, r3, r4, r5, r6) := by rw [if_pos rfl] at H <;> exact H
    clear H
    have H := H1
    clear H1
    replace H := Option.bind_eq_some_iff.mp H
    obtain ⟨t118, A110, H⟩ := H
    replace H : (extent_Cut_p.j0 k a1 a2 (!t118) a0_0 a0_1 a0_2 a0_3 l0_4) = some (r1, r2, r3, r4, r5, r6) := H
    have A11 := Aside0.mk A110
    clear A110
    have H' := Aside0.mk H
    clear H
    have hnb12 := NB114_115.out
    have hnc12 := NB115_114.out
    have hcz13_0 : w6.cell? ⟨gb114, 0, none⟩ = some (.int .i64 a0_0) := (blk_cell BK114.out 0).trans rfl
    have hcz13_1 : w6.cell? ⟨gb114, 1, none⟩ = some (.int .i64 a0_1) := (blk_cell BK114.out 1).trans rfl
    have hcz13_2 : w6.cell? ⟨gb114, 2, none⟩ = some (.int .i64 a0_2) := (blk_cell BK114.out 2).trans rfl
    have hcz13_3 : w6.cell? ⟨gb114, 3, none⟩ = some (.int .i64 a0_3) := (blk_cell BK114.out 3).trans rfl
    have hcz13_4 : w6.cell? ⟨gb114, 4, none⟩ = some (.slice A0_4 l0_4.length c0_4) := (blk_cell BK114.out 4).trans rfl
    have hfz13_0 := blk_frozen BK114.out 0
    have hfz13_1 := blk_frozen BK114.out 1
    have hfz13_2 := blk_frozen BK114.out 2
    have hfz13_3 := blk_frozen BK114.out 3
    have hfz13_4 := blk_frozen BK114.out 4
    go_wp2_with (first | (go_at_call 38; (with_reducible refine (extent_Check.calls a0_0 a0_1 a0_2 a0_3 _ _ l0_4 true _ ?side1 ?side2 A7.out).mono ?_); (case side1 => repeat (first | exact (Kd.C_below HR0_4.out HB.out) | (with_reducible refine Kd.C_alloc ?_ _) | (with_reducible refine Kd.C_drewN ?_ _) | (with_reducible refine Kd.C_drew ?_))); (case side2 => exact HC0_4.out); rintro e w14 ⟨rfl, hb⟩; have n0_ := Aside0.mk (blk_below (g := gb114) (o := .cells #[.int .i64 a0_0, .int .i64 a0_1, .int .i64 a0_2, .int .i64 a0_3, .slice A0_4 l0_4.length c0_4] 46 (0, 0)) (by (with_reducible repeat (first | refine blk_drewN ?_ _ | refine blk_drew ?_ | refine blk_alloc ?_ _)); exact BK114.out) hb); have n1_ := Aside0.mk (blk_below (g := gb115) (o := .cells #[.int .i64 0, .int .i64 0, .int .i64 0, .int .i64 0, .slice none 0 0] 46 (0, 0)) (by (with_reducible repeat (first | refine blk_drewN ?_ _ | refine blk_drew ?_ | refine blk_alloc ?_ _)); exact BK115.out) hb); have n2_ := Aside0.mk (below_step (by repeat (first | (with_reducible first | exact HB.out | apply below_alloc | apply pw_below_drewN | apply below_drew1 | refine below_set ?_ GE114.out | refine below_set ?_ GE115.out) | exact HB.out)) hb); clear BK114; clear BK115; clear HB; have BK114 := n0_; have BK115 := n1_; have HB := n2_; clear n0_ n1_ n2_; (try clear hb); (try clear hb2); (try clear hk); (try clear hi)) | (go_at_call 59; (with_reducible refine (extent_within.calls a1 0 64 true _ A9.out).mono ?_); rintro e w' ⟨rfl, ⟨nd, rfl⟩⟩; (try first | exact ⟨rfl, _, World.drewN_drewN _ _ _⟩ | exact ⟨rfl, _, Eq.trans (World.drewN_drewN _ _ _) (congrArg (World.drewN _) (Nat.add_assoc _ _ _))⟩)) | (go_at_call 59; (with_reducible refine (extent_within.calls a2 0 64 t118 _ A11.out).mono ?_); rintro e w' ⟨rfl, ⟨nd, rfl⟩⟩; (try first | exact ⟨rfl, _, World.drewN_drewN _ _ _⟩ | exact ⟨rfl, _, Eq.trans (World.drewN_drewN _ _ _) (congrArg (World.drewN _) (Nat.add_assoc _ _ _))⟩)))
    repeat (go_quiet (first | (go_at_call 38; (with_reducible refine (extent_Check.calls a0_0 a0_1 a0_2 a0_3 _ _ l0_4 true _ ?side1 ?side2 A7.out).mono ?_); (case side1 => repeat (first | exact (Kd.C_below HR0_4.out HB.out) | (with_reducible refine Kd.C_alloc ?_ _) | (with_reducible refine Kd.C_drewN ?_ _) | (with_reducible refine Kd.C_drew ?_))); (case side2 => exact HC0_4.out); rintro e w14 ⟨rfl, hb⟩; have n0_ := Aside0.mk (blk_below (g := gb114) (o := .cells #[.int .i64 a0_0, .int .i64 a0_1, .int .i64 a0_2, .int .i64 a0_3, .slice A0_4 l0_4.length c0_4] 46 (0, 0)) (by (with_reducible repeat (first | refine blk_drewN ?_ _ | refine blk_drew ?_ | refine blk_alloc ?_ _)); exact BK114.out) hb); have n1_ := Aside0.mk (blk_below (g := gb115) (o := .cells #[.int .i64 0, .int .i64 0, .int .i64 0, .int .i64 0, .slice none 0 0] 46 (0, 0)) (by (with_reducible repeat (first | refine blk_drewN ?_ _ | refine blk_drew ?_ | refine blk_alloc ?_ _)); exact BK115.out) hb); have n2_ := Aside0.mk (below_step (by repeat (first | (with_reducible first | exact HB.out | apply below_alloc | apply pw_below_drewN | apply below_drew1 | refine below_set ?_ GE114.out | refine below_set ?_ GE115.out) | exact HB.out)) hb); clear BK114; clear BK115; clear HB; have BK114 := n0_; have BK115 := n1_; have HB := n2_; clear n0_ n1_ n2_; (try clear hb); (try clear hb2); (try clear hk); (try clear hi)) | (go_at_call 59; (with_reducible refine (extent_within.calls a1 0 64 true _ A9.out).mono ?_); rintro e w' ⟨rfl, ⟨nd, rfl⟩⟩; (try first | exact ⟨rfl, _, World.drewN_drewN _ _ _⟩ | exact ⟨rfl, _, Eq.trans (World.drewN_drewN _ _ _) (congrArg (World.drewN _) (Nat.add_assoc _ _ _))⟩)) | (go_at_call 59; (with_reducible refine (extent_within.calls a2 0 64 t118 _ A11.out).mono ?_); rintro e w' ⟨rfl, ⟨nd, rfl⟩⟩; (try first | exact ⟨rfl, _, World.drewN_drewN _ _ _⟩ | exact ⟨rfl, _, Eq.trans (World.drewN_drewN _ _ _) (congrArg (World.drewN _) (Nat.add_assoc _ _ _))⟩))); try go_wp2_with (first | (go_at_call 38; (with_reducible refine (extent_Check.calls a0_0 a0_1 a0_2 a0_3 _ _ l0_4 true _ ?side1 ?side2 A7.out).mono ?_); (case side1 => repeat (first | exact (Kd.C_below HR0_4.out HB.out) | (with_reducible refine Kd.C_alloc ?_ _) | (with_reducible refine Kd.C_drewN ?_ _) | (with_reducible refine Kd.C_drew ?_))); (case side2 => exact HC0_4.out); rintro e w14 ⟨rfl, hb⟩; have n0_ := Aside0.mk (blk_below (g := gb114) (o := .cells #[.int .i64 a0_0, .int .i64 a0_1, .int .i64 a0_2, .int .i64 a0_3, .slice A0_4 l0_4.length c0_4] 46 (0, 0)) (by (with_reducible repeat (first | refine blk_drewN ?_ _ | refine blk_drew ?_ | refine blk_alloc ?_ _)); exact BK114.out) hb); have n1_ := Aside0.mk (blk_below (g := gb115) (o := .cells #[.int .i64 0, .int .i64 0, .int .i64 0, .int .i64 0, .slice none 0 0] 46 (0, 0)) (by (with_reducible repeat (first | refine blk_drewN ?_ _ | refine blk_drew ?_ | refine blk_alloc ?_ _)); exact BK115.out) hb); have n2_ := Aside0.mk (below_step (by repeat (first | (with_reducible first | exact HB.out | apply below_alloc | apply pw_below_drewN | apply below_drew1 | refine below_set ?_ GE114.out | refine below_set ?_ GE115.out) | exact HB.out)) hb); clear BK114; clear BK115; clear HB; have BK114 := n0_; have BK115 := n1_; have HB := n2_; clear n0_ n1_ n2_; (try clear hb); (try clear hb2); (try clear hk); (try clear hi)) | (go_at_call 59; (with_reducible refine (extent_within.calls a1 0 64 true _ A9.out).mono ?_); rintro e w' ⟨rfl, ⟨nd, rfl⟩⟩; (try first | exact ⟨rfl, _, World.drewN_drewN _ _ _⟩ | exact ⟨rfl, _, Eq.trans (World.drewN_drewN _ _ _) (congrArg (World.drewN _) (Nat.add_assoc _ _ _))⟩)) | (go_at_call 59; (with_reducible refine (extent_within.calls a2 0 64 t118 _ A11.out).mono ?_); rintro e w' ⟨rfl, ⟨nd, rfl⟩⟩; (try first | exact ⟨rfl, _, World.drewN_drewN _ _ _⟩ | exact ⟨rfl, _, Eq.trans (World.drewN_drewN _ _ _) (congrArg (World.drewN _) (Nat.add_assoc _ _ _))⟩))))
    go_meet
    case rel => exact ⟨_, (!t118), (by first | rfl | (simp; done) | (simp [*]; done)), H', ⟨by first | omega | exact Nat.le_refl _⟩, ⟨by (with_reducible repeat (first | refine blk_drewN ?_ _ | refine blk_drew ?_ | refine blk_alloc ?_ _)); exact BK114.out⟩, ⟨by (with_reducible repeat (first | refine blk_drewN ?_ _ | refine blk_drew ?_ | refine blk_alloc ?_ _)); exact BK115.out⟩, ⟨by repeat (first | (with_reducible first | exact HB.out | apply below_alloc | apply pw_below_drewN | apply below_drew1 | refine below_set ?_ GE114.out | refine below_set ?_ GE115.out) | exact HB.out)⟩⟩
   ·replace c10 := Bool.eq_false_iff.mpr c10
    subst c10
    have H1 : (extent_Cut_p.j0 k a1 a2 true a0_0 a0_1 a0_2 a0_3 l0_4) = some (r1, r2, r3, r4, r5, r6) := by rw [if_neg (show ¬ (false = true) by decide)] at H <;> exact H
    clear H
    have H := H1
    clear H1
    have H' := Aside0.mk H
    clear H
    have hnb15 := NB114_115.out
    have hnc15 := NB115_114.out
    have hcz16_0 : w6.cell? ⟨gb114, 0, none⟩ = some (.int .i64 a0_0) := (blk_cell BK114.out 0).trans rfl
    have hcz16_1 : w6.cell? ⟨gb114, 1, none⟩ = some (.int .i64 a0_1) := (blk_cell BK114.out 1).trans rfl
    have hcz16_2 : w6.cell? ⟨gb114, 2, none⟩ = some (.int .i64 a0_2) := (blk_cell BK114.out 2).trans rfl
    have hcz16_3 : w6.cell? ⟨gb114, 3, none⟩ = some (.int .i64 a0_3) := (blk_cell BK114.out 3).trans rfl
    have hcz16_4 : w6.cell? ⟨gb114, 4, none⟩ = some (.slice A0_4 l0_4.length c0_4) := (blk_cell BK114.out 4).trans rfl
    have hfz16_0 := blk_frozen BK114.out 0
    have hfz16_1 := blk_frozen BK114.out 1
    have hfz16_2 := blk_frozen BK114.out 2
    have hfz16_3 := blk_frozen BK114.out 3
    have hfz16_4 := blk_frozen BK114.out 4
    go_wp2_with (first | (go_at_call 38; (with_reducible refine (extent_Check.calls a0_0 a0_1 a0_2 a0_3 _ _ l0_4 true _ ?side1 ?side2 A7.out).mono ?_); (case side1 => repeat (first | exact (Kd.C_below HR0_4.out HB.out) | (with_reducible refine Kd.C_alloc ?_ _) | (with_reducible refine Kd.C_drewN ?_ _) | (with_reducible refine Kd.C_drew ?_))); (case side2 => exact HC0_4.out); rintro e w17 ⟨rfl, hb⟩; have n0_ := Aside0.mk (blk_below (g := gb114) (o := .cells #[.int .i64 a0_0, .int .i64 a0_1, .int .i64 a0_2, .int .i64 a0_3, .slice A0_4 l0_4.length c0_4] 46 (0, 0)) (by (with_reducible repeat (first | refine blk_drewN ?_ _ | refine blk_drew ?_ | refine blk_alloc ?_ _)); exact BK114.out) hb); have n1_ := Aside0.mk (blk_below (g := gb115) (o := .cells #[.int .i64 0, .int .i64 0, .int .i64 0, .int .i64 0, .slice none 0 0] 46 (0, 0)) (by (with_reducible repeat (first | refine blk_drewN ?_ _ | refine blk_drew ?_ | refine blk_alloc ?_ _)); exact BK115.out) hb); have n2_ := Aside0.mk (below_step (by repeat (first | (with_reducible first | exact HB.out | apply below_alloc | apply pw_below_drewN | apply below_drew1 | refine below_set ?_ GE114.out | refine below_set ?_ GE115.out) | exact HB.out)) hb); clear BK114; clear BK115; clear HB; have BK114 := n0_; have BK115 := n1_; have HB := n2_; clear n0_ n1_ n2_; (try clear hb); (try clear hb2); (try clear hk); (try clear hi)) | (go_at_call 59; (with_reducible refine (extent_within.calls a1 0 64 false _ A9.out).mono ?_); rintro e w' ⟨rfl, ⟨nd, rfl⟩⟩; (try first | exact ⟨rfl, _, World.drewN_drewN _ _ _⟩ | exact ⟨rfl, _, Eq.trans (World.drewN_drewN _ _ _) (congrArg (World.drewN _) (Nat.add_assoc _ _ _))⟩)))
    repeat (go_quiet (first | (go_at_call 38; (with_reducible refine (extent_Check.calls a0_0 a0_1 a0_2 a0_3 _ _ l0_4 true _ ?side1 ?side2 A7.out).mono ?_); (case side1 => repeat (first | exact (Kd.C_below HR0_4.out HB.out) | (with_reducible refine Kd.C_alloc ?_ _) | (with_reducible refine Kd.C_drewN ?_ _) | (with_reducible refine Kd.C_drew ?_))); (case side2 => exact HC0_4.out); rintro e w17 ⟨rfl, hb⟩; have n0_ := Aside0.mk (blk_below (g := gb114) (o := .cells #[.int .i64 a0_0, .int .i64 a0_1, .int .i64 a0_2, .int .i64 a0_3, .slice A0_4 l0_4.length c0_4] 46 (0, 0)) (by (with_reducible repeat (first | refine blk_drewN ?_ _ | refine blk_drew ?_ | refine blk_alloc ?_ _)); exact BK114.out) hb); have n1_ := Aside0.mk (blk_below (g := gb115) (o := .cells #[.int .i64 0, .int .i64 0, .int .i64 0, .int .i64 0, .slice none 0 0] 46 (0, 0)) (by (with_reducible repeat (first | refine blk_drewN ?_ _ | refine blk_drew ?_ | refine blk_alloc ?_ _)); exact BK115.out) hb); have n2_ := Aside0.mk (below_step (by repeat (first | (with_reducible first | exact HB.out | apply below_alloc | apply pw_below_drewN | apply below_drew1 | refine below_set ?_ GE114.out | refine below_set ?_ GE115.out) | exact HB.out)) hb); clear BK114; clear BK115; clear HB; have BK114 := n0_; have BK115 := n1_; have HB := n2_; clear n0_ n1_ n2_; (try clear hb); (try clear hb2); (try clear hk); (try clear hi)) | (go_at_call 59; (with_reducible refine (extent_within.calls a1 0 64 false _ A9.out).mono ?_); rintro e w' ⟨rfl, ⟨nd, rfl⟩⟩; (try first | exact ⟨rfl, _, World.drewN_drewN _ _ _⟩ | exact ⟨rfl, _, Eq.trans (World.drewN_drewN _ _ _) (congrArg (World.drewN _) (Nat.add_assoc _ _ _))⟩))); try go_wp2_with (first | (go_at_call 38; (with_reducible refine (extent_Check.calls a0_0 a0_1 a0_2 a0_3 _ _ l0_4 true _ ?side1 ?side2 A7.out).mono ?_); (case side1 => repeat (first | exact (Kd.C_below HR0_4.out HB.out) | (with_reducible refine Kd.C_alloc ?_ _) | (with_reducible refine Kd.C_drewN ?_ _) | (with_reducible refine Kd.C_drew ?_))); (case side2 => exact HC0_4.out); rintro e w17 ⟨rfl, hb⟩; have n0_ := Aside0.mk (blk_below (g := gb114) (o := .cells #[.int .i64 a0_0, .int .i64 a0_1, .int .i64 a0_2, .int .i64 a0_3, .slice A0_4 l0_4.length c0_4] 46 (0, 0)) (by (with_reducible repeat (first | refine blk_drewN ?_ _ | refine blk_drew ?_ | refine blk_alloc ?_ _)); exact BK114.out) hb); have n1_ := Aside0.mk (blk_below (g := gb115) (o := .cells #[.int .i64 0, .int .i64 0, .int .i64 0, .int .i64 0, .slice none 0 0] 46 (0, 0)) (by (with_reducible repeat (first | refine blk_drewN ?_ _ | refine blk_drew ?_ | refine blk_alloc ?_ _)); exact BK115.out) hb); have n2_ := Aside0.mk (below_step (by repeat (first | (with_reducible first | exact HB.out | apply below_alloc | apply pw_below_drewN | apply below_drew1 | refine below_set ?_ GE114.out | refine below_set ?_ GE115.out) | exact HB.out)) hb); clear BK114; clear BK115; clear HB; have BK114 := n0_; have BK115 := n1_; have HB := n2_; clear n0_ n1_ n2_; (try clear hb); (try clear hb2); (try clear hk); (try clear hi)) | (go_at_call 59; (with_reducible refine (extent_within.calls a1 0 64 false _ A9.out).mono ?_); rintro e w' ⟨rfl, ⟨nd, rfl⟩⟩; (try first | exact ⟨rfl, _, World.drewN_drewN _ _ _⟩ | exact ⟨rfl, _, Eq.trans (World.drewN_drewN _ _ _) (congrArg (World.drewN _) (Nat.add_assoc _ _ _))⟩))))
    go_meet
    case rel => exact ⟨_, (true), (by first | rfl | (simp; done) | (simp [*]; done)), H', ⟨by first | omega | exact Nat.le_refl _⟩, ⟨by (with_reducible repeat (first | refine blk_drewN ?_ _ | refine blk_drew ?_ | refine blk_alloc ?_ _)); exact BK114.out⟩, ⟨by (with_reducible repeat (first | refine blk_drewN ?_ _ | refine blk_drew ?_ | refine blk_alloc ?_ _)); exact BK115.out⟩, ⟨by repeat (first | (with_reducible first | exact HB.out | apply below_alloc | apply pw_below_drewN | apply below_drew1 | refine below_set ?_ GE114.out | refine below_set ?_ GE115.out) | exact HB.out)⟩⟩
  ·replace c8 := Bool.eq_false_iff.mpr c8
   subst c8
   have H1 : (extent_Cut_p.j0 k a1 a2 true a0_0 a0_1 a0_2 a0_3 l0_4) = some (r1, r2, r3, r4, r5, r6) := by rw [if_neg (show ¬ (false = true) by decide)] at H <;> exact H
   clear H
   have H := H1
   clear H1
   have H' := Aside0.mk H
   clear H
   have hnb18 := NB114_115.out
   have hnc18 := NB115_114.out
   have hcz19_0 : w6.cell? ⟨gb114, 0, none⟩ = some (.int .i64 a0_0) := (blk_cell BK114.out 0).trans rfl
   have hcz19_1 : w6.cell? ⟨gb114, 1, none⟩ = some (.int .i64 a0_1) := (blk_cell BK114.out 1).trans rfl
   have hcz19_2 : w6.cell? ⟨gb114, 2, none⟩ = some (.int .i64 a0_2) := (blk_cell BK114.out 2).trans rfl
   have hcz19_3 : w6.cell? ⟨gb114, 3, none⟩ = some (.int .i64 a0_3) := (blk_cell BK114.out 3).trans rfl
   have hcz19_4 : w6.cell? ⟨gb114, 4, none⟩ = some (.slice A0_4 l0_4.length c0_4) := (blk_cell BK114.out 4).trans rfl
   have hfz19_0 := blk_frozen BK114.out 0
   have hfz19_1 := blk_frozen BK114.out 1
   have hfz19_2 := blk_frozen BK114.out 2
   have hfz19_3 := blk_frozen BK114.out 3
   have hfz19_4 := blk_frozen BK114.out 4
   go_wp2_with (first | (go_at_call 38; (with_reducible refine (extent_Check.calls a0_0 a0_1 a0_2 a0_3 _ _ l0_4 false _ ?side1 ?side2 A7.out).mono ?_); (case side1 => repeat (first | exact (Kd.C_below HR0_4.out HB.out) | (with_reducible refine Kd.C_alloc ?_ _) | (with_reducible refine Kd.C_drewN ?_ _) | (with_reducible refine Kd.C_drew ?_))); (case side2 => exact HC0_4.out); rintro e w20 ⟨rfl, hb⟩; have n0_ := Aside0.mk (blk_below (g := gb114) (o := .cells #[.int .i64 a0_0, .int .i64 a0_1, .int .i64 a0_2, .int .i64 a0_3, .slice A0_4 l0_4.length c0_4] 46 (0, 0)) (by (with_reducible repeat (first | refine blk_drewN ?_ _ | refine blk_drew ?_ | refine blk_alloc ?_ _)); exact BK114.out) hb); have n1_ := Aside0.mk (blk_below (g := gb115) (o := .cells #[.int .i64 0, .int .i64 0, .int .i64 0, .int .i64 0, .slice none 0 0] 46 (0, 0)) (by (with_reducible repeat (first | refine blk_drewN ?_ _ | refine blk_drew ?_ | refine blk_alloc ?_ _)); exact BK115.out) hb); have n2_ := Aside0.mk (below_step (by repeat (first | (with_reducible first | exact HB.out | apply below_alloc | apply pw_below_drewN | apply below_drew1 | refine below_set ?_ GE114.out | refine below_set ?_ GE115.out) | exact HB.out)) hb); clear BK114; clear BK115; clear HB; have BK114 := n0_; have BK115 := n1_; have HB := n2_; clear n0_ n1_ n2_; (try clear hb); (try clear hb2); (try clear hk); (try clear hi)))
   repeat (go_quiet (first | (go_at_call 38; (with_reducible refine (extent_Check.calls a0_0 a0_1 a0_2 a0_3 _ _ l0_4 false _ ?side1 ?side2 A7.out).mono ?_); (case side1 => repeat (first | exact (Kd.C_below HR0_4.out HB.out) | (with_reducible refine Kd.C_alloc ?_ _) | (with_reducible refine Kd.C_drewN ?_ _) | (with_reducible refine Kd.C_drew ?_))); (case side2 => exact HC0_4.out); rintro e w20 ⟨rfl, hb⟩; have n0_ := Aside0.mk (blk_below (g := gb114) (o := .cells #[.int .i64 a0_0, .int .i64 a0_1, .int .i64 a0_2, .int .i64 a0_3, .slice A0_4 l0_4.length c0_4] 46 (0, 0)) (by (with_reducible repeat (first | refine blk_drewN ?_ _ | refine blk_drew ?_ | refine blk_alloc ?_ _)); exact BK114.out) hb); have n1_ := Aside0.mk (blk_below (g := gb115) (o := .cells #[.int .i64 0, .int .i64 0, .int .i64 0, .int .i64 0, .slice none 0 0] 46 (0, 0)) (by (with_reducible repeat (first | refine blk_drewN ?_ _ | refine blk_drew ?_ | refine blk_alloc ?_ _)); exact BK115.out) hb); have n2_ := Aside0.mk (below_step (by repeat (first | (with_reducible first | exact HB.out | apply below_alloc | apply pw_below_drewN | apply below_drew1 | refine below_set ?_ GE114.out | refine below_set ?_ GE115.out) | exact HB.out)) hb); clear BK114; clear BK115; clear HB; have BK114 := n0_; have BK115 := n1_; have HB := n2_; clear n0_ n1_ n2_; (try clear hb); (try clear hb2); (try clear hk); (try clear hi))); try go_wp2_with (first | (go_at_call 38; (with_reducible refine (extent_Check.calls a0_0 a0_1 a0_2 a0_3 _ _ l0_4 false _ ?side1 ?side2 A7.out).mono ?_); (case side1 => repeat (first | exact (Kd.C_below HR0_4.out HB.out) | (with_reducible refine Kd.C_alloc ?_ _) | (with_reducible refine Kd.C_drewN ?_ _) | (with_reducible refine Kd.C_drew ?_))); (case side2 => exact HC0_4.out); rintro e w20 ⟨rfl, hb⟩; have n0_ := Aside0.mk (blk_below (g := gb114) (o := .cells #[.int .i64 a0_0, .int .i64 a0_1, .int .i64 a0_2, .int .i64 a0_3, .slice A0_4 l0_4.length c0_4] 46 (0, 0)) (by (with_reducible repeat (first | refine blk_drewN ?_ _ | refine blk_drew ?_ | refine blk_alloc ?_ _)); exact BK114.out) hb); have n1_ := Aside0.mk (blk_below (g := gb115) (o := .cells #[.int .i64 0, .int .i64 0, .int .i64 0, .int .i64 0, .slice none 0 0] 46 (0, 0)) (by (with_reducible repeat (first | refine blk_drewN ?_ _ | refine blk_drew ?_ | refine blk_alloc ?_ _)); exact BK115.out) hb); have n2_ := Aside0.mk (below_step (by repeat (first | (with_reducible first | exact HB.out | apply below_alloc | apply pw_below_drewN | apply below_drew1 | refine below_set ?_ GE114.out | refine below_set ?_ GE115.out) | exact HB.out)) hb); clear BK114; clear BK115; clear HB; have BK114 := n0_; have BK115 := n1_; have HB := n2_; clear n0_ n1_ n2_; (try clear hb); (try clear hb2); (try clear hk); (try clear hi))))
   go_meet
   case rel => exact ⟨_, (true), (by first | rfl | (simp; done) | (simp [*]; done)), H', ⟨by first | omega | exact Nat.le_refl _⟩, ⟨by (with_reducible repeat (first | refine blk_drewN ?_ _ | refine blk_drew ?_ | refine blk_alloc ?_ _)); exact BK114.out⟩, ⟨by (with_reducible repeat (first | refine blk_drewN ?_ _ | refine blk_drew ?_ | refine blk_alloc ?_ _)); exact BK115.out⟩, ⟨by repeat (first | (with_reducible first | exact HB.out | apply below_alloc | apply pw_below_drewN | apply below_drew1 | refine below_set ?_ GE114.out | refine below_set ?_ GE115.out) | exact HB.out)⟩⟩
 case rest =>
  clear HC4
  try clear c1
  try clear p2
  try clear c3
  try clear c8
  try clear c10
  try clear c12
  try clear c15
  try clear c18
  try clear hcz13_0
  try clear hcz13_1
  try clear hcz13_2
  try clear hcz13_3
  try clear hcz13_4
  try clear hcz16_0
  try clear hcz16_1
  try clear hcz16_2
  try clear hcz16_3
  try clear hcz16_4
  try clear hcz19_0
  try clear hcz19_1
  try clear hcz19_2
  try clear hcz19_3
  try clear hcz19_4
  try clear hfz13_0
  try clear hfz13_1
  try clear hfz13_2
  try clear hfz13_3
  try clear hfz13_4
  try clear hfz16_0
  try clear hfz16_1
  try clear hfz16_2
  try clear hfz16_3
  try clear hfz16_4
  try clear hfz19_0
  try clear hfz19_1
  try clear hfz19_2
  try clear hfz19_3
  try clear hfz19_4
  obtain ⟨kq, x23_3, rfl, HA, HJ3, BK114, BK115, HB⟩ := hcut
  cases kq with
  | zero => exact absurd HA.out (by simp [extent_Cut_p.j0])
  | succ kj3 =>
   have H := HA.out
   clear HA
   simp only [extent_Cut_p.j0] at H
   by_cases c21 : x23_3 = true
   ·subst c21
    have H1 : (some (0, 0, 0, 0, ([] : List Int), false)) = some (r1, r2, r3, r4, r5, r6) := by rw [if_pos rfl] at H <;> exact H
    clear H
    have H := H1
    clear H1
    simp only [Option.some.injEq, Prod.mk.injEq] at H
    obtain ⟨rfl, rfl, rfl, rfl, rfl, rfl⟩ := H
    have hnb22 := NB115_114.out
    have hnc22 := NB114_115.out
    have hcz23_0 : wc.cell? ⟨gb115, 0, none⟩ = some (.int .i64 0) := (blk_cell BK115.out 0).trans rfl
    have hcz23_1 : wc.cell? ⟨gb115, 1, none⟩ = some (.int .i64 0) := (blk_cell BK115.out 1).trans rfl
    have hcz23_2 : wc.cell? ⟨gb115, 2, none⟩ = some (.int .i64 0) := (blk_cell BK115.out 2).trans rfl
    have hcz23_3 : wc.cell? ⟨gb115, 3, none⟩ = some (.int .i64 0) := (blk_cell BK115.out 3).trans rfl
    have hcz23_4 : wc.cell? ⟨gb115, 4, none⟩ = some (.slice none 0 0) := (blk_cell BK115.out 4).trans rfl
    have hfz23_0 := blk_frozen BK115.out 0
    have hfz23_1 := blk_frozen BK115.out 1
    have hfz23_2 := blk_frozen BK115.out 2
    have hfz23_3 := blk_frozen BK115.out 3
    have hfz23_4 := blk_frozen BK115.out 4
    go_wp2
    repeat (go_quiet (fail); try go_wp2)
    refine bodyPost_ret (results_ct rfl _ _ gb115 46 #[.int .i64 0, .int .i64 0, .int .i64 0, .int .i64 0, .slice none 0 0] (0, 0) _ rfl (by (with_reducible repeat (first | refine blk_drewN ?_ _ | refine blk_drew ?_ | refine blk_alloc ?_ _)); refine blk_put (cs := #[.int .i64 0, .int .i64 0, .int .i64 0, .int .i64 0, .slice none 0 0]) ?_ 4 _ rfl; (with_reducible repeat (first | refine blk_drewN ?_ _ | refine blk_drew ?_ | refine blk_alloc ?_ _)); refine blk_put (cs := #[.int .i64 0, .int .i64 0, .int .i64 0, .int .i64 0, .slice none 0 0]) ?_ 3 _ rfl; (with_reducible repeat (first | refine blk_drewN ?_ _ | refine blk_drew ?_ | refine blk_alloc ?_ _)); refine blk_put (cs := #[.int .i64 0, .int .i64 0, .int .i64 0, .int .i64 0, .slice none 0 0]) ?_ 2 _ rfl; (with_reducible repeat (first | refine blk_drewN ?_ _ | refine blk_drew ?_ | refine blk_alloc ?_ _)); refine blk_put (cs := #[.int .i64 0, .int .i64 0, .int .i64 0, .int .i64 0, .slice none 0 0]) ?_ 1 _ rfl; (with_reducible repeat (first | refine blk_drewN ?_ _ | refine blk_drew ?_ | refine blk_alloc ?_ _)); refine blk_put (cs := #[.int .i64 0, .int .i64 0, .int .i64 0, .int .i64 0, .slice none 0 0]) ?_ 0 _ rfl; (with_reducible repeat (first | refine blk_drewN ?_ _ | refine blk_drew ?_ | refine blk_alloc ?_ _)); exact BK115.out) Try.underlying46 rfl (by kernel_rfl)) rfl ?_
    exact ⟨_, by first | rfl | (simp [errW_none, errW_some] <;> rfl) | (simp [*, errW_none, errW_some] <;> rfl), by first | exact Kd.R_nil _ _ _ _ _ | exact Kd.N_nil _ _ _ _ _ | exact Kd.V_nil _ _ _ _ _ | exact Kd.Q_nil _ _ _ _ _ | exact Kd.S_nil _ _ _ _ _, by repeat (first | (with_reducible first | exact HB.out | apply below_alloc | apply pw_below_drewN | apply below_drew1 | refine below_set ?_ GE114.out | refine below_set ?_ GE115.out) | exact HB.out)⟩
   ·replace c21 := Bool.eq_false_iff.mpr c21
    subst c21
    have H1 : (if (mx a0_0 a1) ≥ (mn (wrap64 (a0_0 + a0_1)) (wrap64 (a1 + a2))) then (some (0, 0, 0, 0, ([] : List Int), false)) else (if a0_2 = 2 then (if 0 ≤ (wrap64 ((wrap64 ((mx a0_0 a1) - a0_0)) * 32)) then (if (wrap64 ((wrap64 ((mx a0_0 a1) - a0_0)) * 32)) ≤ (wrap64 ((wrap64 ((mn (wrap64 (a0_0 + a0_1)) (wrap64 (a1 + a2))) - a0_0)) * 32)) then (if (wrap64 ((wrap64 ((mn (wrap64 (a0_0 + a0_1)) (wrap64 (a1 + a2))) - a0_0)) * 32)) ≤ (l0_4.length : Int) then ((bytes_Clone.f ((l0_4.take ((wrap64 ((wrap64 ((mn (wrap64 (a0_0 + a0_1)) (wrap64 (a1 + a2))) - a0_0)) * 32)) : Int).toNat).drop ((wrap64 ((wrap64 ((mx a0_0 a1) - a0_0)) * 32)) : Int).toNat)).bind fun t120 => (some (mx a0_0 a1, wrap64 ((mn (wrap64 (a0_0 + a0_1)) (wrap64 (a1 + a2))) - (mx a0_0 a1)), a0_2, a0_3, t120, true))) else (none)) else (none)) else (none)) else (some (mx a0_0 a1, wrap64 ((mn (wrap64 (a0_0 + a0_1)) (wrap64 (a1 + a2))) - (mx a0_0 a1)), a0_2, a0_3, ([] : List Int), true)))) = some (r1, r2, r3, r4, r5, r6) := by rw [if_neg (show ¬ (false = true) by decide)] at H <;> exact H
    clear H
    have H := H1
    clear H1
    obtain ⟨ji24, hji24⟩ : ∃ j_ : Int, (mx a0_0 a1) = j_ := ⟨_, rfl⟩
    replace H : (if (ji24) ≥ (mn (wrap64 (a0_0 + a0_1)) (wrap64 (a1 + a2))) then (some (0, 0, 0, 0, ([] : List Int), false)) else (if a0_2 = 2 then (if 0 ≤ (wrap64 ((wrap64 ((ji24) - a0_0)) * 32)) then (if (wrap64 ((wrap64 ((ji24) - a0_0)) * 32)) ≤ (wrap64 ((wrap64 ((mn (wrap64 (a0_0 + a0_1)) (wrap64 (a1 + a2))) - a0_0)) * 32)) then (if (wrap64 ((wrap64 ((mn (wrap64 (a0_0 + a0_1)) (wrap64 (a1 + a2))) - a0_0)) * 32)) ≤ (l0_4.length : Int) then ((bytes_Clone.f ((l0_4.take ((wrap64 ((wrap64 ((mn (wrap64 (a0_0 + a0_1)) (wrap64 (a1 + a2))) - a0_0)) * 32)) : Int).toNat).drop ((wrap64 ((wrap64 ((ji24) - a0_0)) * 32)) : Int).toNat)).bind fun t120 => (some (ji24, wrap64 ((mn (wrap64 (a0_0 + a0_1)) (wrap64 (a1 + a2))) - (ji24)), a0_2, a0_3, t120, true))) else (none)) else (none)) else (none)) else (some (ji24, wrap64 ((mn (wrap64 (a0_0 + a0_1)) (wrap64 (a1 + a2))) - (ji24)), a0_2, a0_3, ([] : List Int), true)))) = some (r1, r2, r3, r4, r5, r6) := by first | (rw [hji24] at H; exact H) | (simp only [hji24] at H ⊢; exact H)
    have hji24_ : (if a0_0 < a1 then a1 else a0_0) = ji24 := hji24
    obtain ⟨ji25, hji25⟩ : ∃ j_ : Int, (mn (wrap64 (a0_0 + a0_1)) (wrap64 (a1 + a2))) = j_ := ⟨_, rfl⟩
    replace H : (if (ji24) ≥ (ji25) then (some (0, 0, 0, 0, ([] : List Int), false)) else (if a0_2 = 2 then (if 0 ≤ (wrap64 ((wrap64 ((ji24) - a0_0)) * 32)) then (if (wrap64 ((wrap64 ((ji24) - a0_0)) * 32)) ≤ (wrap64 ((wrap64 ((ji25) - a0_0)) * 32)) then (if (wrap64 ((wrap64 ((ji25) - a0_0)) * 32)) ≤ (l0_4.length : Int) then ((bytes_Clone.f ((l0_4.take ((wrap64 ((wrap64 ((ji25) - a0_0)) * 32)) : Int).toNat).drop ((wrap64 ((wrap64 ((ji24) - a0_0)) * 32)) : Int).toNat)).bind fun t120 => (some (ji24, wrap64 ((ji25) - (ji24)), a0_2, a0_3, t120, true))) else (none)) else (none)) else (none)) else (some (ji24, wrap64 ((ji25) - (ji24)), a0_2, a0_3, ([] : List Int), true)))) = some (r1, r2, r3, r4, r5, r6) := by first | (rw [hji25] at H; exact H) | (simp only [hji25] at H ⊢; exact H)
    have hji25_ : (if (wrap64 (a1 + a2)) < (wrap64 (a0_0 + a0_1)) then (wrap64 (a1 + a2)) else (wrap64 (a0_0 + a0_1))) = ji25 := hji25
    by_cases c26 : (ji24) ≥ (ji25)
    ·rw [if_pos c26] at H
     have c26b0 : decide ((ji25) ≤ (ji24)) = true := decide_eq_true c26
     clear c26
     simp only [Option.some.injEq, Prod.mk.injEq] at H
     obtain ⟨rfl, rfl, rfl, rfl, rfl, rfl⟩ := H
     have hnb27 := NB114_115.out
     have hnc27 := NB115_114.out
     have hcz28_0 : wc.cell? ⟨gb114, 0, none⟩ = some (.int .i64 a0_0) := (blk_cell BK114.out 0).trans rfl
     have hcz28_1 : wc.cell? ⟨gb114, 1, none⟩ = some (.int .i64 a0_1) := (blk_cell BK114.out 1).trans rfl
     have hcz28_2 : wc.cell? ⟨gb114, 2, none⟩ = some (.int .i64 a0_2) := (blk_cell BK114.out 2).trans rfl
     have hcz28_3 : wc.cell? ⟨gb114, 3, none⟩ = some (.int .i64 a0_3) := (blk_cell BK114.out 3).trans rfl
     have hcz28_4 : wc.cell? ⟨gb114, 4, none⟩ = some (.slice A0_4 l0_4.length c0_4) := (blk_cell BK114.out 4).trans rfl
     have hfz28_0 := blk_frozen BK114.out 0
     have hfz28_1 := blk_frozen BK114.out 1
     have hfz28_2 := blk_frozen BK114.out 2
     have hfz28_3 := blk_frozen BK114.out 3
     have hfz28_4 := blk_frozen BK114.out 4
     have hcz29_0 : wc.cell? ⟨gb115, 0, none⟩ = some (.int .i64 0) := (blk_cell BK115.out 0).trans rfl
     have hcz29_1 : wc.cell? ⟨gb115, 1, none⟩ = some (.int .i64 0) := (blk_cell BK115.out 1).trans rfl
     have hcz29_2 : wc.cell? ⟨gb115, 2, none⟩ = some (.int .i64 0) := (blk_cell BK115.out 2).trans rfl
     have hcz29_3 : wc.cell? ⟨gb115, 3, none⟩ = some (.int .i64 0) := (blk_cell BK115.out 3).trans rfl
     have hcz29_4 : wc.cell? ⟨gb115, 4, none⟩ = some (.slice none 0 0) := (blk_cell BK115.out 4).trans rfl
     have hfz29_0 := blk_frozen BK115.out 0
     have hfz29_1 := blk_frozen BK115.out 1
     have hfz29_2 := blk_frozen BK115.out 2
     have hfz29_3 := blk_frozen BK115.out 3
     have hfz29_4 := blk_frozen BK115.out 4
     go_wp2
     repeat (go_quiet (fail); try go_wp2)
     refine bodyPost_ret (results_ct rfl _ _ gb115 46 #[.int .i64 0, .int .i64 0, .int .i64 0, .int .i64 0, .slice none 0 0] (0, 0) _ rfl (by (with_reducible repeat (first | refine blk_drewN ?_ _ | refine blk_drew ?_ | refine blk_alloc ?_ _)); refine blk_put (cs := #[.int .i64 0, .int .i64 0, .int .i64 0, .int .i64 0, .slice none 0 0]) ?_ 4 _ rfl; (with_reducible repeat (first | refine blk_drewN ?_ _ | refine blk_drew ?_ | refine blk_alloc ?_ _)); refine blk_put (cs := #[.int .i64 0, .int .i64 0, .int .i64 0, .int .i64 0, .slice none 0 0]) ?_ 3 _ rfl; (with_reducible repeat (first | refine blk_drewN ?_ _ | refine blk_drew ?_ | refine blk_alloc ?_ _)); refine blk_put (cs := #[.int .i64 0, .int .i64 0, .int .i64 0, .int .i64 0, .slice none 0 0]) ?_ 2 _ rfl; (with_reducible repeat (first | refine blk_drewN ?_ _ | refine blk_drew ?_ | refine blk_alloc ?_ _)); refine blk_put (cs := #[.int .i64 0, .int .i64 0, .int .i64 0, .int .i64 0, .slice none 0 0]) ?_ 1 _ rfl; (with_reducible repeat (first | refine blk_drewN ?_ _ | refine blk_drew ?_ | refine blk_alloc ?_ _)); refine blk_put (cs := #[.int .i64 0, .int .i64 0, .int .i64 0, .int .i64 0, .slice none 0 0]) ?_ 0 _ rfl; (with_reducible repeat (first | refine blk_drewN ?_ _ | refine blk_drew ?_ | refine blk_alloc ?_ _)); exact BK115.out) Try.underlying46 rfl (by kernel_rfl)) rfl ?_
     exact ⟨_, by first | rfl | (simp [errW_none, errW_some] <;> rfl) | (simp only [← hji24, ← hji25]; first | rfl | (simp [errW_none, errW_some] <;> rfl)) | (simp [*, errW_none, errW_some] <;> rfl), by first | exact Kd.R_nil _ _ _ _ _ | exact Kd.N_nil _ _ _ _ _ | exact Kd.V_nil _ _ _ _ _ | exact Kd.Q_nil _ _ _ _ _ | exact Kd.S_nil _ _ _ _ _, by repeat (first | (with_reducible first | exact HB.out | apply below_alloc | apply pw_below_drewN | apply below_drew1 | refine below_set ?_ GE114.out | refine below_set ?_ GE115.out) | exact HB.out)⟩
    ·rw [if_neg c26] at H
     have c26b0 : decide ((ji25) ≤ (ji24)) = false := decide_eq_false c26
     clear c26
     by_cases c30 : a0_2 = 2
     ·rw [if_pos c30] at H
      have c30b0 : (a0_2 == 2) = true := beq_iff_eq.mpr c30
      have c30b1 : (a0_2 != 2) = false := bne_eq_false_iff_eq.mpr c30
      clear c30
      obtain ⟨ji31, hji31⟩ : ∃ j_ : Int, (wrap64 ((wrap64 ((ji24) - a0_0)) * 32)) = j_ := ⟨_, rfl⟩
      replace H : (if 0 ≤ (ji31) then (if (ji31) ≤ (wrap64 ((wrap64 ((ji25) - a0_0)) * 32)) then (if (wrap64 ((wrap64 ((ji25) - a0_0)) * 32)) ≤ (l0_4.length : Int) then ((bytes_Clone.f ((l0_4.take ((wrap64 ((wrap64 ((ji25) - a0_0)) * 32)) : Int).toNat).drop ((ji31) : Int).toNat)).bind fun t120 => (some (ji24, wrap64 ((ji25) - (ji24)), a0_2, a0_3, t120, true))) else (none)) else (none)) else (none)) = some (r1, r2, r3, r4, r5, r6) := by first | (rw [hji31] at H; exact H) | (simp only [hji31] at H ⊢; exact H)
      have hji31w : (IntKind.i64.wrap ((wrap64 ((ji24) - a0_0)) * 32)) = ji31 := (i64_w _).trans hji31
      by_cases c32 : 0 ≤ (ji31)
      ·rw [if_pos c32] at H
       have c32b0 := eq_true c32
       have c32b1 : decide (0 ≤ (ji31)) = true := decide_eq_true c32
       clear c32
       by_cases c33 : (ji31) ≤ (wrap64 ((wrap64 ((ji25) - a0_0)) * 32))
       ·rw [if_pos c33] at H
        have c33b0 := eq_true c33
        have c33b1 : decide ((ji31) ≤ (wrap64 ((wrap64 ((ji25) - a0_0)) * 32))) = true := decide_eq_true c33
        clear c33
        by_cases c34 : (wrap64 ((wrap64 ((ji25) - a0_0)) * 32)) ≤ (l0_4.length : Int)
        ·rw [if_pos c34] at H
         have c34b0 := eq_true c34
         have c34b1 : decide ((wrap64 ((wrap64 ((ji25) - a0_0)) * 32)) ≤ (l0_4.length : Int)) = true := decide_eq_true c34
         clear c34
         replace H := Option.bind_eq_some_iff.mp H
         obtain ⟨t120, A350, H⟩ := H
         replace H : (some (ji24, wrap64 ((ji25) - (ji24)), a0_2, a0_3, t120, true)) = some (r1, r2, r3, r4, r5, r6) := H
         have A35 := Aside0.mk A350
         clear A350
         simp only [Option.some.injEq, Prod.mk.injEq] at H
         obtain ⟨rfl, rfl, rfl, rfl, rfl, rfl⟩ := H
         have hnb36 := NB114_115.out
         have hnc36 := NB115_114.out
         have hcz37_0 : wc.cell? ⟨gb114, 0, none⟩ = some (.int .i64 a0_0) := (blk_cell BK114.out 0).trans rfl
         have hcz37_1 : wc.cell? ⟨gb114, 1, none⟩ = some (.int .i64 a0_1) := (blk_cell BK114.out 1).trans rfl
         have hcz37_2 : wc.cell? ⟨gb114, 2, none⟩ = some (.int .i64 a0_2) := (blk_cell BK114.out 2).trans rfl
         have hcz37_3 : wc.cell? ⟨gb114, 3, none⟩ = some (.int .i64 a0_3) := (blk_cell BK114.out 3).trans rfl
         have hcz37_4 : wc.cell? ⟨gb114, 4, none⟩ = some (.slice A0_4 l0_4.length c0_4) := (blk_cell BK114.out 4).trans rfl
         have hfz37_0 := blk_frozen BK114.out 0
         have hfz37_1 := blk_frozen BK114.out 1
         have hfz37_2 := blk_frozen BK114.out 2
         have hfz37_3 := blk_frozen BK114.out 3
         have hfz37_4 := blk_frozen BK114.out 4
         obtain ⟨i038, hi038, _, hsz38, _⟩ := info_parts info5
         obtain ⟨A38, hcut38, hA38, hC38⟩ := print_mid_of (P := Try.prog) (Value.int .u8) 0 23 5 .i64 .i64 Try.underlying23 hi038 hsz38 A0_4 c0_4 l0_4 (ji31) (wrap64 ((wrap64 ((ji25) - a0_0)) * 32)) (of_decide_eq_true (by first | (with_reducible assumption) | assumption)) (by first | omega | exact of_decide_eq_true (by first | (with_reducible assumption) | assumption)) (of_decide_eq_true (by first | (with_reducible assumption) | assumption)) HC0_4.out
         have HR119 := Aside0.mk (Kd.C_of_reads (h1 := fun _ => rfl) (hA38 _ (Kd.reads_of_C HR0_4.out)))
         have HC119 := Aside0.mk hC38
         clear hA38 hC38 hi038 hsz38
         obtain ⟨m38, hm38⟩ : ∃ m_, m_ = ((l0_4.take ((wrap64 ((wrap64 ((ji25) - a0_0)) * 32)) : Int).toNat).drop ((ji31) : Int).toNat) := ⟨_, rfl⟩
         have n_ := A35.out
         rw [← hm38] at n_
         clear A35
         have A35 := Aside0.mk n_
         clear n_
         have n_ := HR119.out
         rw [← hm38] at n_
         clear HR119
         have HR119 := Aside0.mk n_
         clear n_
         have n_ := HC119.out
         rw [← hm38] at n_
         clear HC119
         have HC119 := Aside0.mk n_
         clear n_
         rw [← hm38] at hcut38
         clear hm38
         go_wp2_with (first | (go_at_call 56; (with_reducible refine (bytes_Clone.calls _ _ m38 t120 _ ?side1 ?side2 A35.out).mono ?_); (case side1 => exact Kd.C_below HR119.out (by repeat (first | (with_reducible first | exact HB.out | apply below_alloc | apply pw_below_drewN | apply below_drew1 | refine below_set ?_ GE114.out | refine below_set ?_ GE115.out) | exact HB.out))); (case side2 => exact HC119.out); rintro e w39 ⟨v121, rfl, ho0, hb⟩; have n0_ := Aside0.mk (Kd.R_lower ho0 (below_size (by repeat (first | (with_reducible first | exact HB.out | apply below_alloc | apply pw_below_drewN | apply below_drew1 | refine below_set ?_ GE114.out | refine below_set ?_ GE115.out) | exact HB.out)))); have n1_ := Aside0.mk (blk_below (g := gb114) (o := .cells #[.int .i64 a0_0, .int .i64 a0_1, .int .i64 a0_2, .int .i64 a0_3, .slice none 0 0] 46 (0, 0)) (by (with_reducible repeat (first | refine blk_drewN ?_ _ | refine blk_drew ?_ | refine blk_alloc ?_ _)); refine blk_put (cs := #[.int .i64 a0_0, .int .i64 a0_1, .int .i64 a0_2, .int .i64 a0_3, .slice A0_4 l0_4.length c0_4]) ?_ 4 _ rfl; (with_reducible repeat (first | refine blk_drewN ?_ _ | refine blk_drew ?_ | refine blk_alloc ?_ _)); exact BK114.out) hb); have n2_ := Aside0.mk (blk_below (g := gb115) (o := .cells #[.int .i64 0, .int .i64 0, .int .i64 0, .int .i64 0, .slice none 0 0] 46 (0, 0)) (by (with_reducible repeat (first | refine blk_drewN ?_ _ | refine blk_drew ?_ | refine blk_alloc ?_ _)); refine blk_far ?_ NB115_114.out _; (with_reducible repeat (first | refine blk_drewN ?_ _ | refine blk_drew ?_ | refine blk_alloc ?_ _)); exact BK115.out) hb); have n3_ := Aside0.mk (below_step (by repeat (first | (with_reducible first | exact HB.out | apply below_alloc | apply pw_below_drewN | apply below_drew1 | refine below_set ?_ GE114.out | refine below_set ?_ GE115.out) | exact HB.out)) hb); clear BK114; clear BK115; clear HB; have HO122 := n0_; have BK114 := n1_; have BK115 := n2_; have HB := n3_; clear n0_ n1_ n2_ n3_; (try clear hb); (try clear hb2); (try clear hk); (try clear hi); (try clear ho0); obtain ⟨Ao40, co40, eo40⟩ := Kd.R_slice HO122.out; subst eo40; have hcz41_0 : w39.cell? ⟨gb114, 0, none⟩ = some (.int .i64 a0_0) := (blk_cell BK114.out 0).trans rfl; have hcz41_1 : w39.cell? ⟨gb114, 1, none⟩ = some (.int .i64 a0_1) := (blk_cell BK114.out 1).trans rfl; have hcz41_2 : w39.cell? ⟨gb114, 2, none⟩ = some (.int .i64 a0_2) := (blk_cell BK114.out 2).trans rfl; have hcz41_3 : w39.cell? ⟨gb114, 3, none⟩ = some (.int .i64 a0_3) := (blk_cell BK114.out 3).trans rfl; have hcz41_4 : w39.cell? ⟨gb114, 4, none⟩ = some (.slice none 0 0) := (blk_cell BK114.out 4).trans rfl; have hfz41_0 := blk_frozen BK114.out 0; have hfz41_1 := blk_frozen BK114.out 1; have hfz41_2 := blk_frozen BK114.out 2; have hfz41_3 := blk_frozen BK114.out 3; have hfz41_4 := blk_frozen BK114.out 4; have hcz42_0 : w39.cell? ⟨gb115, 0, none⟩ = some (.int .i64 0) := (blk_cell BK115.out 0).trans rfl; have hcz42_1 : w39.cell? ⟨gb115, 1, none⟩ = some (.int .i64 0) := (blk_cell BK115.out 1).trans rfl; have hcz42_2 : w39.cell? ⟨gb115, 2, none⟩ = some (.int .i64 0) := (blk_cell BK115.out 2).trans rfl; have hcz42_3 : w39.cell? ⟨gb115, 3, none⟩ = some (.int .i64 0) := (blk_cell BK115.out 3).trans rfl; have hcz42_4 : w39.cell? ⟨gb115, 4, none⟩ = some (.slice none 0 0) := (blk_cell BK115.out 4).trans rfl; have hfz42_0 := blk_frozen BK115.out 0; have hfz42_1 := blk_frozen BK115.out 1; have hfz42_2 := blk_frozen BK115.out 2; have hfz42_3 := blk_frozen BK115.out 3; have hfz42_4 := blk_frozen BK115.out 4))
         repeat (go_quiet (first | (go_at_call 56; (with_reducible refine (bytes_Clone.calls _ _ m38 t120 _ ?side1 ?side2 A35.out).mono ?_); (case side1 => exact Kd.C_below HR119.out (by repeat (first | (with_reducible first | exact HB.out | apply below_alloc | apply pw_below_drewN | apply below_drew1 | refine below_set ?_ GE114.out | refine below_set ?_ GE115.out) | exact HB.out))); (case side2 => exact HC119.out); rintro e w39 ⟨v121, rfl, ho0, hb⟩; have n0_ := Aside0.mk (Kd.R_lower ho0 (below_size (by repeat (first | (with_reducible first | exact HB.out | apply below_alloc | apply pw_below_drewN | apply below_drew1 | refine below_set ?_ GE114.out | refine below_set ?_ GE115.out) | exact HB.out)))); have n1_ := Aside0.mk (blk_below (g := gb114) (o := .cells #[.int .i64 a0_0, .int .i64 a0_1, .int .i64 a0_2, .int .i64 a0_3, .slice none 0 0] 46 (0, 0)) (by (with_reducible repeat (first | refine blk_drewN ?_ _ | refine blk_drew ?_ | refine blk_alloc ?_ _)); refine blk_put (cs := #[.int .i64 a0_0, .int .i64 a0_1, .int .i64 a0_2, .int .i64 a0_3, .slice A0_4 l0_4.length c0_4]) ?_ 4 _ rfl; (with_reducible repeat (first | refine blk_drewN ?_ _ | refine blk_drew ?_ | refine blk_alloc ?_ _)); exact BK114.out) hb); have n2_ := Aside0.mk (blk_below (g := gb115) (o := .cells #[.int .i64 0, .int .i64 0, .int .i64 0, .int .i64 0, .slice none 0 0] 46 (0, 0)) (by (with_reducible repeat (first | refine blk_drewN ?_ _ | refine blk_drew ?_ | refine blk_alloc ?_ _)); refine blk_far ?_ NB115_114.out _; (with_reducible repeat (first | refine blk_drewN ?_ _ | refine blk_drew ?_ | refine blk_alloc ?_ _)); exact BK115.out) hb); have n3_ := Aside0.mk (below_step (by repeat (first | (with_reducible first | exact HB.out | apply below_alloc | apply pw_below_drewN | apply below_drew1 | refine below_set ?_ GE114.out | refine below_set ?_ GE115.out) | exact HB.out)) hb); clear BK114; clear BK115; clear HB; have HO122 := n0_; have BK114 := n1_; have BK115 := n2_; have HB := n3_; clear n0_ n1_ n2_ n3_; (try clear hb); (try clear hb2); (try clear hk); (try clear hi); (try clear ho0); obtain ⟨Ao40, co40, eo40⟩ := Kd.R_slice HO122.out; subst eo40; have hcz41_0 : w39.cell? ⟨gb114, 0, none⟩ = some (.int .i64 a0_0) := (blk_cell BK114.out 0).trans rfl; have hcz41_1 : w39.cell? ⟨gb114, 1, none⟩ = some (.int .i64 a0_1) := (blk_cell BK114.out 1).trans rfl; have hcz41_2 : w39.cell? ⟨gb114, 2, none⟩ = some (.int .i64 a0_2) := (blk_cell BK114.out 2).trans rfl; have hcz41_3 : w39.cell? ⟨gb114, 3, none⟩ = some (.int .i64 a0_3) := (blk_cell BK114.out 3).trans rfl; have hcz41_4 : w39.cell? ⟨gb114, 4, none⟩ = some (.slice none 0 0) := (blk_cell BK114.out 4).trans rfl; have hfz41_0 := blk_frozen BK114.out 0; have hfz41_1 := blk_frozen BK114.out 1; have hfz41_2 := blk_frozen BK114.out 2; have hfz41_3 := blk_frozen BK114.out 3; have hfz41_4 := blk_frozen BK114.out 4; have hcz42_0 : w39.cell? ⟨gb115, 0, none⟩ = some (.int .i64 0) := (blk_cell BK115.out 0).trans rfl; have hcz42_1 : w39.cell? ⟨gb115, 1, none⟩ = some (.int .i64 0) := (blk_cell BK115.out 1).trans rfl; have hcz42_2 : w39.cell? ⟨gb115, 2, none⟩ = some (.int .i64 0) := (blk_cell BK115.out 2).trans rfl; have hcz42_3 : w39.cell? ⟨gb115, 3, none⟩ = some (.int .i64 0) := (blk_cell BK115.out 3).trans rfl; have hcz42_4 : w39.cell? ⟨gb115, 4, none⟩ = some (.slice none 0 0) := (blk_cell BK115.out 4).trans rfl; have hfz42_0 := blk_frozen BK115.out 0; have hfz42_1 := blk_frozen BK115.out 1; have hfz42_2 := blk_frozen BK115.out 2; have hfz42_3 := blk_frozen BK115.out 3; have hfz42_4 := blk_frozen BK115.out 4)); try go_wp2_with (first | (go_at_call 56; (with_reducible refine (bytes_Clone.calls _ _ m38 t120 _ ?side1 ?side2 A35.out).mono ?_); (case side1 => exact Kd.C_below HR119.out (by repeat (first | (with_reducible first | exact HB.out | apply below_alloc | apply pw_below_drewN | apply below_drew1 | refine below_set ?_ GE114.out | refine below_set ?_ GE115.out) | exact HB.out))); (case side2 => exact HC119.out); rintro e w39 ⟨v121, rfl, ho0, hb⟩; have n0_ := Aside0.mk (Kd.R_lower ho0 (below_size (by repeat (first | (with_reducible first | exact HB.out | apply below_alloc | apply pw_below_drewN | apply below_drew1 | refine below_set ?_ GE114.out | refine below_set ?_ GE115.out) | exact HB.out)))); have n1_ := Aside0.mk (blk_below (g := gb114) (o := .cells #[.int .i64 a0_0, .int .i64 a0_1, .int .i64 a0_2, .int .i64 a0_3, .slice none 0 0] 46 (0, 0)) (by (with_reducible repeat (first | refine blk_drewN ?_ _ | refine blk_drew ?_ | refine blk_alloc ?_ _)); refine blk_put (cs := #[.int .i64 a0_0, .int .i64 a0_1, .int .i64 a0_2, .int .i64 a0_3, .slice A0_4 l0_4.length c0_4]) ?_ 4 _ rfl; (with_reducible repeat (first | refine blk_drewN ?_ _ | refine blk_drew ?_ | refine blk_alloc ?_ _)); exact BK114.out) hb); have n2_ := Aside0.mk (blk_below (g := gb115) (o := .cells #[.int .i64 0, .int .i64 0, .int .i64 0, .int .i64 0, .slice none 0 0] 46 (0, 0)) (by (with_reducible repeat (first | refine blk_drewN ?_ _ | refine blk_drew ?_ | refine blk_alloc ?_ _)); refine blk_far ?_ NB115_114.out _; (with_reducible repeat (first | refine blk_drewN ?_ _ | refine blk_drew ?_ | refine blk_alloc ?_ _)); exact BK115.out) hb); have n3_ := Aside0.mk (below_step (by repeat (first | (with_reducible first | exact HB.out | apply below_alloc | apply pw_below_drewN | apply below_drew1 | refine below_set ?_ GE114.out | refine below_set ?_ GE115.out) | exact HB.out)) hb); clear BK114; clear BK115; clear HB; have HO122 := n0_; have BK114 := n1_; have BK115 := n2_; have HB := n3_; clear n0_ n1_ n2_ n3_; (try clear hb); (try clear hb2); (try clear hk); (try clear hi); (try clear ho0); obtain ⟨Ao40, co40, eo40⟩ := Kd.R_slice HO122.out; subst eo40; have hcz41_0 : w39.cell? ⟨gb114, 0, none⟩ = some (.int .i64 a0_0) := (blk_cell BK114.out 0).trans rfl; have hcz41_1 : w39.cell? ⟨gb114, 1, none⟩ = some (.int .i64 a0_1) := (blk_cell BK114.out 1).trans rfl; have hcz41_2 : w39.cell? ⟨gb114, 2, none⟩ = some (.int .i64 a0_2) := (blk_cell BK114.out 2).trans rfl; have hcz41_3 : w39.cell? ⟨gb114, 3, none⟩ = some (.int .i64 a0_3) := (blk_cell BK114.out 3).trans rfl; have hcz41_4 : w39.cell? ⟨gb114, 4, none⟩ = some (.slice none 0 0) := (blk_cell BK114.out 4).trans rfl; have hfz41_0 := blk_frozen BK114.out 0; have hfz41_1 := blk_frozen BK114.out 1; have hfz41_2 := blk_frozen BK114.out 2; have hfz41_3 := blk_frozen BK114.out 3; have hfz41_4 := blk_frozen BK114.out 4; have hcz42_0 : w39.cell? ⟨gb115, 0, none⟩ = some (.int .i64 0) := (blk_cell BK115.out 0).trans rfl; have hcz42_1 : w39.cell? ⟨gb115, 1, none⟩ = some (.int .i64 0) := (blk_cell BK115.out 1).trans rfl; have hcz42_2 : w39.cell? ⟨gb115, 2, none⟩ = some (.int .i64 0) := (blk_cell BK115.out 2).trans rfl; have hcz42_3 : w39.cell? ⟨gb115, 3, none⟩ = some (.int .i64 0) := (blk_cell BK115.out 3).trans rfl; have hcz42_4 : w39.cell? ⟨gb115, 4, none⟩ = some (.slice none 0 0) := (blk_cell BK115.out 4).trans rfl; have hfz42_0 := blk_frozen BK115.out 0; have hfz42_1 := blk_frozen BK115.out 1; have hfz42_2 := blk_frozen BK115.out 2; have hfz42_3 := blk_frozen BK115.out 3; have hfz42_4 := blk_frozen BK115.out 4)))
         refine bodyPost_ret (results_ct rfl _ _ gb115 46 #[.int .i64 ji24, .int .i64 (wrap64 ((ji25) - (ji24))), .int .i64 a0_2, .int .i64 a0_3, .slice Ao40 t120.length co40] (0, 0) _ rfl (by (with_reducible repeat (first | refine blk_drewN ?_ _ | refine blk_drew ?_ | refine blk_alloc ?_ _)); refine blk_put (cs := #[.int .i64 ji24, .int .i64 (wrap64 ((ji25) - (ji24))), .int .i64 a0_2, .int .i64 a0_3, .slice none 0 0]) ?_ 4 _ rfl; (with_reducible repeat (first | refine blk_drewN ?_ _ | refine blk_drew ?_ | refine blk_alloc ?_ _)); refine blk_put (cs := #[.int .i64 ji24, .int .i64 (wrap64 ((ji25) - (ji24))), .int .i64 a0_2, .int .i64 0, .slice none 0 0]) ?_ 3 _ rfl; (with_reducible repeat (first | refine blk_drewN ?_ _ | refine blk_drew ?_ | refine blk_alloc ?_ _)); refine blk_put (cs := #[.int .i64 ji24, .int .i64 (wrap64 ((ji25) - (ji24))), .int .i64 0, .int .i64 0, .slice none 0 0]) ?_ 2 _ rfl; (with_reducible repeat (first | refine blk_drewN ?_ _ | refine blk_drew ?_ | refine blk_alloc ?_ _)); refine blk_put (cs := #[.int .i64 ji24, .int .i64 0, .int .i64 0, .int .i64 0, .slice none 0 0]) ?_ 1 _ rfl; (with_reducible repeat (first | refine blk_drewN ?_ _ | refine blk_drew ?_ | refine blk_alloc ?_ _)); refine blk_put (cs := #[.int .i64 0, .int .i64 0, .int .i64 0, .int .i64 0, .slice none 0 0]) ?_ 0 _ rfl; (with_reducible repeat (first | refine blk_drewN ?_ _ | refine blk_drew ?_ | refine blk_alloc ?_ _)); refine blk_far ?_ NB115_114.out _; (with_reducible repeat (first | refine blk_drewN ?_ _ | refine blk_drew ?_ | refine blk_alloc ?_ _)); refine blk_far ?_ NB115_114.out _; (with_reducible repeat (first | refine blk_drewN ?_ _ | refine blk_drew ?_ | refine blk_alloc ?_ _)); refine blk_far ?_ NB115_114.out _; (with_reducible repeat (first | refine blk_drewN ?_ _ | refine blk_drew ?_ | refine blk_alloc ?_ _)); exact BK115.out) Try.underlying46 rfl (by kernel_rfl)) rfl ?_
         exact ⟨_, by first | rfl | (simp [errW_none, errW_some] <;> rfl) | (simp only [← hji24, ← hji25, ← hji31]; first | rfl | (simp [errW_none, errW_some] <;> rfl)) | (simp [*, errW_none, errW_some] <;> rfl), by (with_reducible repeat (first | apply Kd.R_alloc | apply Kd.R_drewN | apply Kd.R_drew)); exact Kd.R_mono (Kd.R_far (p := ⟨gb115, 4, none⟩) (Kd.R_far (p := ⟨gb115, 3, none⟩) (Kd.R_far (p := ⟨gb115, 2, none⟩) (Kd.R_far (p := ⟨gb115, 1, none⟩) (Kd.R_far (p := ⟨gb115, 0, none⟩) (Kd.R_far (p := ⟨gb114, 1, none⟩) (Kd.R_far (p := ⟨gb114, 0, none⟩) (Kd.R_far (p := ⟨gb114, 4, none⟩) (Kd.R_types (Kd.R_types HO122.out BK114.out (by decide)) BK115.out (by decide)) (fun _ hk => hk.1.2) (.slice Ao40 t120.length co40)) (fun _ hk => hk.1.2) (.int .i64 ji24)) (fun _ hk => hk.1.2) (.int .i64 (wrap64 ((ji25) - (ji24))))) (fun _ hk => hk.2) (.int .i64 ji24)) (fun _ hk => hk.2) (.int .i64 (wrap64 ((ji25) - (ji24))))) (fun _ hk => hk.2) (.int .i64 a0_2)) (fun _ hk => hk.2) (.int .i64 a0_3)) (fun _ hk => hk.2) (.slice Ao40 t120.length co40)) (fun _ hk => trivial), by repeat (first | (with_reducible first | exact HB.out | apply below_alloc | apply pw_below_drewN | apply below_drew1 | refine below_set ?_ GE114.out | refine below_set ?_ GE115.out) | exact HB.out)⟩
        ·rw [if_neg c34] at H
         exact absurd H (by simp)
       ·rw [if_neg c33] at H
        exact absurd H (by simp)
      ·rw [if_neg c32] at H
       exact absurd H (by simp)
     ·rw [if_neg c30] at H
      have c30b0 : (a0_2 == 2) = false := beq_eq_false_iff_ne.mpr c30
      have c30b1 : (a0_2 != 2) = true := bne_iff_ne.mpr c30
      simp only [Option.some.injEq, Prod.mk.injEq] at H
      obtain ⟨rfl, rfl, rfl, rfl, rfl, rfl⟩ := H
      have hnb43 := NB114_115.out
      have hnc43 := NB115_114.out
      have hcz44_0 : wc.cell? ⟨gb114, 0, none⟩ = some (.int .i64 a0_0) := (blk_cell BK114.out 0).trans rfl
      have hcz44_1 : wc.cell? ⟨gb114, 1, none⟩ = some (.int .i64 a0_1) := (blk_cell BK114.out 1).trans rfl
      have hcz44_2 : wc.cell? ⟨gb114, 2, none⟩ = some (.int .i64 a0_2) := (blk_cell BK114.out 2).trans rfl
      have hcz44_3 : wc.cell? ⟨gb114, 3, none⟩ = some (.int .i64 a0_3) := (blk_cell BK114.out 3).trans rfl
      have hcz44_4 : wc.cell? ⟨gb114, 4, none⟩ = some (.slice A0_4 l0_4.length c0_4) := (blk_cell BK114.out 4).trans rfl
      have hfz44_0 := blk_frozen BK114.out 0
      have hfz44_1 := blk_frozen BK114.out 1
      have hfz44_2 := blk_frozen BK114.out 2
      have hfz44_3 := blk_frozen BK114.out 3
      have hfz44_4 := blk_frozen BK114.out 4
      have hcz45_0 : wc.cell? ⟨gb115, 0, none⟩ = some (.int .i64 0) := (blk_cell BK115.out 0).trans rfl
      have hcz45_1 : wc.cell? ⟨gb115, 1, none⟩ = some (.int .i64 0) := (blk_cell BK115.out 1).trans rfl
      have hcz45_2 : wc.cell? ⟨gb115, 2, none⟩ = some (.int .i64 0) := (blk_cell BK115.out 2).trans rfl
      have hcz45_3 : wc.cell? ⟨gb115, 3, none⟩ = some (.int .i64 0) := (blk_cell BK115.out 3).trans rfl
      have hcz45_4 : wc.cell? ⟨gb115, 4, none⟩ = some (.slice none 0 0) := (blk_cell BK115.out 4).trans rfl
      have hfz45_0 := blk_frozen BK115.out 0
      have hfz45_1 := blk_frozen BK115.out 1
      have hfz45_2 := blk_frozen BK115.out 2
      have hfz45_3 := blk_frozen BK115.out 3
      have hfz45_4 := blk_frozen BK115.out 4
      go_wp2
      repeat (go_quiet (fail); try go_wp2)
      refine bodyPost_ret (results_ct rfl _ _ gb115 46 #[.int .i64 ji24, .int .i64 (wrap64 ((ji25) - (ji24))), .int .i64 a0_2, .int .i64 a0_3, .slice none 0 0] (0, 0) _ rfl (by (with_reducible repeat (first | refine blk_drewN ?_ _ | refine blk_drew ?_ | refine blk_alloc ?_ _)); refine blk_put (cs := #[.int .i64 ji24, .int .i64 (wrap64 ((ji25) - (ji24))), .int .i64 a0_2, .int .i64 a0_3, .slice none 0 0]) ?_ 4 _ rfl; (with_reducible repeat (first | refine blk_drewN ?_ _ | refine blk_drew ?_ | refine blk_alloc ?_ _)); refine blk_put (cs := #[.int .i64 ji24, .int .i64 (wrap64 ((ji25) - (ji24))), .int .i64 a0_2, .int .i64 0, .slice none 0 0]) ?_ 3 _ rfl; (with_reducible repeat (first | refine blk_drewN ?_ _ | refine blk_drew ?_ | refine blk_alloc ?_ _)); refine blk_put (cs := #[.int .i64 ji24, .int .i64 (wrap64 ((ji25) - (ji24))), .int .i64 0, .int .i64 0, .slice none 0 0]) ?_ 2 _ rfl; (with_reducible repeat (first | refine blk_drewN ?_ _ | refine blk_drew ?_ | refine blk_alloc ?_ _)); refine blk_put (cs := #[.int .i64 ji24, .int .i64 0, .int .i64 0, .int .i64 0, .slice none 0 0]) ?_ 1 _ rfl; (with_reducible repeat (first | refine blk_drewN ?_ _ | refine blk_drew ?_ | refine blk_alloc ?_ _)); refine blk_put (cs := #[.int .i64 0, .int .i64 0, .int .i64 0, .int .i64 0, .slice none 0 0]) ?_ 0 _ rfl; (with_reducible repeat (first | refine blk_drewN ?_ _ | refine blk_drew ?_ | refine blk_alloc ?_ _)); refine blk_far ?_ NB115_114.out _; (with_reducible repeat (first | refine blk_drewN ?_ _ | refine blk_drew ?_ | refine blk_alloc ?_ _)); refine blk_far ?_ NB115_114.out _; (with_reducible repeat (first | refine blk_drewN ?_ _ | refine blk_drew ?_ | refine blk_alloc ?_ _)); refine blk_far ?_ NB115_114.out _; (with_reducible repeat (first | refine blk_drewN ?_ _ | refine blk_drew ?_ | refine blk_alloc ?_ _)); exact BK115.out) Try.underlying46 rfl (by kernel_rfl)) rfl ?_
      exact ⟨_, by first | rfl | (simp [errW_none, errW_some] <;> rfl) | (simp only [← hji24, ← hji25]; first | rfl | (simp [errW_none, errW_some] <;> rfl)) | (simp [*, errW_none, errW_some] <;> rfl), by first | exact Kd.R_nil _ _ _ _ _ | exact Kd.N_nil _ _ _ _ _ | exact Kd.V_nil _ _ _ _ _ | exact Kd.Q_nil _ _ _ _ _ | exact Kd.S_nil _ _ _ _ _, by repeat (first | (with_reducible first | exact HB.out | apply below_alloc | apply pw_below_drewN | apply below_drew1 | refine below_set ?_ GE114.out | refine below_set ?_ GE115.out) | exact HB.out)⟩
def extent_Cut.f (a0_0 a0_1 a0_2 a0_3 : Int) (l0_4 : List Int) (a1 a2 : Int) : Option (Int × Int × Int × Int × List Int × Bool) := some (Pl.cutS a0_0 a0_1 a0_2 a0_3 l0_4 a1 a2)
theorem extent_Cut.closes {a0_0 a0_1 a0_2 a0_3 : Int} {l0_4 : List Int} {a1 a2 : Int} {r : Int × Int × Int × Int × List Int × Bool} (h : extent_Cut.f a0_0 a0_1 a0_2 a0_3 l0_4 a1 a2 = some r) : extent_Cut_p.f 1 a0_0 a0_1 a0_2 a0_3 l0_4 a1 a2 = some r := by
 rw [← h]
 have out : extent_Cut_p.j0 1 a1 a2 true a0_0 a0_1 a0_2 a0_3 l0_4 = some (0, 0, 0, 0, [], false) := by
  simp only [extent_Cut_p.j0]
  rw [if_pos trivial]
 unfold extent_Cut_p.f extent_Cut.f extent_Check.f extent_within.f
 rw [Option.bind_some, Pl.cutS]
 by_cases h0 : Pl.extOk a0_0 a0_1 a0_2 a0_3 l0_4 = true
 rotate_left
 ·rw [if_neg h0, if_neg (fun hh => h0 hh.1)]; exact out
 rw [if_pos h0]
 by_cases h1 : a1 ≥ 0
 rotate_left
 ·rw [if_neg h1, Option.bind_some, if_neg (by decide), if_neg (fun hh => h1 hh.2.1)]; exact out
 rw [if_pos h1, Option.bind_some]
 by_cases h2 : a1 ≤ 64
 rotate_left
 ·rw [decide_eq_false h2, if_neg (by decide), if_neg (fun hh => h2 hh.2.2.1)]; exact out
 rw [decide_eq_true h2, if_pos rfl]
 by_cases h3 : a2 ≥ 0
 rotate_left
 ·rw [if_neg h3, Option.bind_some, if_neg (fun hh => h3 hh.2.2.2.1)]; exact out
 rw [if_pos h3, Option.bind_some]
 by_cases h4 : a2 ≤ 64
 rotate_left
 ·rw [decide_eq_false h4, if_neg (fun hh => h4 hh.2.2.2.2.1)]; exact out
 rw [decide_eq_true h4]
 have q := Pl.extOk_iff.1 h0
 have e1 : mx a0_0 a1 = max a0_0 a1 := by unfold mx; omega
 have e2 : mn (wrap64 (a0_0 + a0_1)) (wrap64 (a1 + a2)) = min (a0_0 + a0_1) (a1 + a2) := by unfold mn wrap64; omega
 have e3 : wrap64 (wrap64 (max a0_0 a1 - a0_0) * 32) = (max a0_0 a1 - a0_0) * 32 := by unfold wrap64; omega
 have e4 : wrap64 (wrap64 (min (a0_0 + a0_1) (a1 + a2) - a0_0) * 32) = (min (a0_0 + a0_1) (a1 + a2) - a0_0) * 32 := by unfold wrap64; omega
 have e5 : wrap64 (min (a0_0 + a0_1) (a1 + a2) - max a0_0 a1) = min (a0_0 + a0_1) (a1 + a2) - max a0_0 a1 := by unfold wrap64; omega
 simp only [extent_Cut_p.j0]
 rw [if_neg (by decide), e1, e2, e3, e4, e5]
 by_cases h5 : max a0_0 a1 ≥ min (a0_0 + a0_1) (a1 + a2)
 ·rw [if_pos h5, if_neg (fun hh => absurd hh.2.2.2.2.2 (by omega))]
 have hc : Pl.extOk a0_0 a0_1 a0_2 a0_3 l0_4 = true ∧ 0 ≤ a1 ∧ a1 ≤ 64 ∧ 0 ≤ a2 ∧ a2 ≤ 64 ∧ max a0_0 a1 < min (a0_0 + a0_1) (a1 + a2) := ⟨h0, h1, h2, h3, h4, by omega⟩
 rw [if_neg h5, if_pos hc]
 by_cases h6 : a0_2 = 2
 ·have q9 := q.2.2.2.2.2.2.2.2
  rw [if_pos h6] at q9
  rw [if_pos h6, if_pos (by omega), if_pos (by omega), if_pos (by omega), if_pos h6]
  unfold bytes_Clone.f
  rw [if_pos (by rw [List.length_drop, List.length_take]; omega), Option.bind_some]
 ·rw [if_neg h6, if_neg h6]
theorem extent_Cut.calls (a0_0 : Int) (a0_1 : Int) (a0_2 : Int) (a0_3 : Int) (A0_4 : Option Addr) (c0_4 : Nat) (l0_4 : List Int) (a1 : Int) (a2 : Int) (r1 : Int) (r2 : Int) (r3 : Int) (r4 : Int) (r5 : List Int) (r6 : Bool) (w : World) (hr0_4 : Kd.C (Kd.int .u8) w A0_4 l0_4.length l0_4) (hc0_4 : l0_4.length ≤ c0_4) (h : extent_Cut.f a0_0 a0_1 a0_2 a0_3 l0_4 a1 a2 = some (r1, r2, r3, r4, r5, r6)) :
  Calls Try.prog 33 #[.agg #[.int .i64 a0_0, .int .i64 a0_1, .int .i64 a0_2, .int .i64 a0_3, .slice A0_4 l0_4.length c0_4], .int .i64 a1, .int .i64 a2] w fun e w' => ∃ v4_ : Value, e = .returned (.tuple #[.agg #[.int .i64 r1, .int .i64 r2, .int .i64 r3, .int .i64 r4, v4_], .bool r6]) ∧ Kd.R (Kd.int .u8) 5 w' w.heap.size (fun _ => True) v4_ r5 ∧ Below w.heap.size w w' :=
 extent_Cut_p.calls 1 a0_0 a0_1 a0_2 a0_3 A0_4 c0_4 l0_4 a1 a2 r1 r2 r3 r4 r5 r6 w hr0_4 hc0_4 (extent_Cut.closes h)
end Go.Proofs.Ytcemlfkboifncaa.PP
