/- Words and walks that this claim names, of those that the kit's print and programs of this workplace have printed. -/
import Derived.Test.YtmgohkffphogdaaZUCz
import Derived.Test.YtmgohkffphogdaaZUPUx15
import Derived.Test.YtmgohkffphogdaaZUPUx57
import Derived.Test.YtmgohkffphogdaaZUPUx59
namespace Go.Proofs.Ytmgohkffphogdaa.PU
open Go.Proofs.Ytmgohkffphogdaa Go.RowKit Go.Proofs.YtmgohkffphogdaaW.PrintWords Go.Proofs.YtmgohkffphogdaaW.PrintLast Go.Proofs.YtmgohkffphogdaaW.PrintMore
attribute [local go_sem] max2_int min2_int max_two min_two max_three min_three max_four min_four
set_option linter.unusedVariables false
set_option linter.unusedSimpArgs false
def waggonerref10_Write_p.f (a0_0 : Int) (a0_1 : Int) (a0_2 : Int) (a0_3 : Int) (l0_4 : List Int) (l0_5 : List (S39)) : Option (List Int × Int) := (waggonerref10_Check.f a0_0 a0_1 a0_2 a0_3 l0_4 l0_5).bind fun t287 => (if t287 = true then ((waggonerref01_Pack.f (⟨#[98, 98, 98, 119, 104]⟩ : ByteArray) (([IntKind.u64.wrap (a0_0), IntKind.u64.wrap (a0_1), IntKind.u64.wrap (a0_2), IntKind.u64.wrap (a0_3), IntKind.u64.wrap ((l0_4.length : Int))] : List Int))).bind fun bt291 => (if bt291.1.length + l0_4.length < 140737488355328 then ((some (bt291.1 ++ l0_4 : List Int)).bind fun y295 => (if a0_0 = 8 then ((waggonerref07_Write.f l0_5).bind fun bt298 => (if y295.length + bt298.1.length < 140737488355328 then (some ((y295 ++ bt298.1), 0)) else (none))) else (some (y295, 0)))) else (none))) else (some (([] : List Int), 100)))
set_option maxHeartbeats 8000000 in
set_option maxRecDepth 100000 in
theorem waggonerref10_Write_p.calls (a0_0 : Int) (a0_1 : Int) (a0_2 : Int) (a0_3 : Int) (A0_4 : Option Addr) (c0_4 : Nat) (l0_4 : List Int) (A0_5 : Option Addr) (c0_5 : Nat) (l0_5 : List (S39)) (r1 : List Int) (r2 : Int) (w : World) (hr0_4 : Kd.C (Kd.int .u8) w A0_4 l0_4.length l0_4) (hc0_4 : l0_4.length ≤ c0_4) (hr0_5 : Kd.C k39 w A0_5 l0_5.length l0_5) (hc0_5 : l0_5.length ≤ c0_5) (h : waggonerref10_Write_p.f a0_0 a0_1 a0_2 a0_3 l0_4 l0_5 = some (r1, r2)) :
  Calls Try.prog 12 #[.agg #[.int .i64 a0_0, .int .i64 a0_1, .int .i64 a0_2, .int .i64 a0_3, .slice A0_4 l0_4.length c0_4, .slice A0_5 l0_5.length c0_5]] w fun e w' => ∃ v0_ : Value, e = .returned (.tuple #[v0_, .int .i64 r2]) ∧ Kd.R (Kd.int .u8) 5 w' w.heap.size (fun _ => True) v0_ r1 ∧ Below w.heap.size w w' := by
 have hu26 := Try.underlying26
 have HR0_4 := Aside0.mk hr0_4
 have HC0_4 := Aside0.mk hc0_4
 clear hr0_4 hc0_4
 have HR0_5 := Aside0.mk hr0_5
 have HC0_5 := Aside0.mk hc0_5
 clear hr0_5 hc0_5
 have HB := Aside0.mk (Below.refl w.heap.size w)
 have H : ((waggonerref10_Check.f a0_0 a0_1 a0_2 a0_3 l0_4 l0_5).bind fun t287 => (if t287 = true then ((waggonerref01_Pack.f (⟨#[98, 98, 98, 119, 104]⟩ : ByteArray) (([IntKind.u64.wrap (a0_0), IntKind.u64.wrap (a0_1), IntKind.u64.wrap (a0_2), IntKind.u64.wrap (a0_3), IntKind.u64.wrap ((l0_4.length : Int))] : List Int))).bind fun bt291 => (if bt291.1.length + l0_4.length < 140737488355328 then ((some (bt291.1 ++ l0_4 : List Int)).bind fun y295 => (if a0_0 = 8 then ((waggonerref07_Write.f l0_5).bind fun bt298 => (if y295.length + bt298.1.length < 140737488355328 then (some ((y295 ++ bt298.1), 0)) else (none))) else (some (y295, 0)))) else (none))) else (some (([] : List Int), 100)))) = some (r1, r2) := h
 clear h
 replace H := Option.bind_eq_some_iff.mp H
 obtain ⟨t287, A20, H⟩ := H
 (try dsimp only at H)
 have A2 := Aside0.mk A20
 clear A20
 by_cases c3 : t287 = true
 ·subst c3
  rw [if_pos rfl] at H
  obtain ⟨y288, hy288⟩ : ∃ y_ : List Int, y_ = (([IntKind.u64.wrap (a0_0), IntKind.u64.wrap (a0_1), IntKind.u64.wrap (a0_2), IntKind.u64.wrap (a0_3), IntKind.u64.wrap ((l0_4.length : Int))] : List Int)) := ⟨_, rfl⟩
  replace H : ((waggonerref01_Pack.f (⟨#[98, 98, 98, 119, 104]⟩ : ByteArray) y288).bind fun bt291 => (if bt291.1.length + l0_4.length < 140737488355328 then ((some (bt291.1 ++ l0_4 : List Int)).bind fun y295 => (if a0_0 = 8 then ((waggonerref07_Write.f l0_5).bind fun bt298 => (if y295.length + bt298.1.length < 140737488355328 then (some ((y295 ++ bt298.1), 0)) else (none))) else (some (y295, 0)))) else (none))) = some (r1, r2) := by first | (rw [hy288]; with_reducible exact H) | (have H2_ := (Option.bind_some _ _).symm.trans H; rw [hy288]; with_reducible exact H2_) | (have H2_ := (Option.bind_some _ _).symm.trans H; with_reducible exact H2_) | with_reducible exact H | (rw [hy288]; exact H) | exact H
  have Ny288 := Aside0.mk hy288
  clear hy288
  replace H := Option.bind_eq_some_iff.mp H
  obtain ⟨⟨t291, t292⟩, A40, H⟩ := H
  (try dsimp only at H)
  have A4 := Aside0.mk A40
  clear A40
  by_cases c5 : t291.length + l0_4.length < 140737488355328
  ·rw [if_pos c5] at H
   have LMc5 := Aside0.mk c5
   clear c5
   obtain ⟨y295, hy295⟩ : ∃ y_ : List Int, y_ = (t291 ++ l0_4) := ⟨_, rfl⟩
   replace H : (if a0_0 = 8 then ((waggonerref07_Write.f l0_5).bind fun bt298 => (if y295.length + bt298.1.length < 140737488355328 then (some ((y295 ++ bt298.1), 0)) else (none))) else (some (y295, 0))) = some (r1, r2) := by first | (rw [hy295]; with_reducible exact H) | (have H2_ := (Option.bind_some _ _).symm.trans H; rw [hy295]; with_reducible exact H2_) | (have H2_ := (Option.bind_some _ _).symm.trans H; with_reducible exact H2_) | with_reducible exact H | (rw [hy295]; exact H) | exact H
   have Ny295 := Aside0.mk hy295
   clear hy295
   by_cases c6 : a0_0 = 8
   ·rw [if_pos c6] at H
    have c6b0 : (a0_0 == 8) = true := beq_iff_eq.mpr c6
    have c6b1 : (a0_0 != 8) = false := bne_eq_false_iff_eq.mpr c6
    clear c6
    replace H := Option.bind_eq_some_iff.mp H
    obtain ⟨⟨t298, t299⟩, A70, H⟩ := H
    (try dsimp only at H)
    have A7 := Aside0.mk A70
    clear A70
    by_cases c8 : y295.length + t298.length < 140737488355328
    ·rw [if_pos c8] at H
     have LMc8 := Aside0.mk c8
     clear c8
     obtain ⟨y302, hy302⟩ : ∃ y_ : List Int, y_ = (y295 ++ t298) := ⟨_, rfl⟩
     replace H : (some (y302, 0)) = some (r1, r2) := by first | (rw [hy302]; with_reducible exact H) | (have H2_ := (Option.bind_some _ _).symm.trans H; rw [hy302]; with_reducible exact H2_) | (have H2_ := (Option.bind_some _ _).symm.trans H; with_reducible exact H2_) | with_reducible exact H | (rw [hy302]; exact H) | exact H
     have Ny302 := Aside0.mk hy302
     clear hy302
     simp only [Option.some.injEq, Prod.mk.injEq] at H
     obtain ⟨rfl, rfl⟩ := H
     go_enter Try.func12, Try.ntmps12
     go_wp2_with (first | ((with_reducible refine gate_dst (N := 1) rfl ?_); refine Cz.bx (N := 1) #[.int .i64 a0_0, .int .i64 a0_1, .int .i64 a0_2, .int .i64 a0_3, .slice A0_4 l0_4.length c0_4, .slice A0_5 l0_5.length c0_5] 26 ?_; intro gb286 hg w9 hbox hb; have BK286 := Aside0.mk (hbox); have GW286 := Aside0.mk ((Cz.gs hg : w.heap.size ≤ gb286)); have GE286 := GW286; replace HB := Cz.bs (w := w) hb; clear hb hbox hg; obtain ⟨z10_0, z10_1, z10_2, z10_3, z10_4, z10_5, y10_0, y10_1, y10_2, y10_3, y10_4, y10_5⟩ := Cz.d6 BK286) | ((with_reducible refine gate_callee (f := 17) rfl ?_); refine Cz.gL (N := (some 10)) Try.func17 #[.agg #[.int .i64 a0_0, .int .i64 a0_1, .int .i64 a0_2, .int .i64 a0_3, .slice A0_4 l0_4.length c0_4, .slice A0_5 l0_5.length c0_5]] ?_; (with_reducible refine (waggonerref10_Check.calls a0_0 a0_1 a0_2 a0_3 _ _ l0_4 _ _ l0_5 true _ ?side1 ?side2 ?side3 ?side4 A2.out).mono ?_); (case side1 => exact Cz.cb HR0_4); (case side2 => exact HC0_4.out); (case side3 => exact Cz.cb HR0_5); (case side4 => exact HC0_5.out); rintro e w11 ⟨rfl, hb⟩; refine ⟨_, rfl, ?_⟩; replace BK286 := Cz.bk BK286 hb; replace HB := Cz.bs (w := w) hb; (try clear hb); obtain ⟨z12_0, z12_1, z12_2, z12_3, z12_4, z12_5, y12_0, y12_1, y12_2, y12_3, y12_4, y12_5⟩ := Cz.d6 BK286) | ((with_reducible refine gate_dst (N := 30) rfl ?_); refine Kd.R_lit (Kd.int .u64) _ 44 ?hg (N := 30) ?hd (xs := ([IntKind.u64.wrap (a0_0), IntKind.u64.wrap (a0_1), IntKind.u64.wrap (a0_2), IntKind.u64.wrap (a0_3), IntKind.u64.wrap ((l0_4.length : Int))] : List Int)) (inner := [.int .u64 (IntKind.u64.wrap (a0_0)), .int .u64 (IntKind.u64.wrap (a0_1)), .int .u64 (IntKind.u64.wrap (a0_2)), .int .u64 (IntKind.u64.wrap (a0_3)), .int .u64 (IntKind.u64.wrap ((l0_4.length : Int)))]) (ok := fun _ => True) (okp := fun _ => True) ?hr ?hp (fun _ hk => hk) trivial (Below.refl _ _) (Nat.le_refl _) (by simp) ?_; (case hd => rfl); (case hg => rfl); (case hr => first | (go_simp; done) | (go_simp; rfl)); (case hp => exact (Reps.one (show Kd.M (Kd.int .u64) _ _ _ (IntKind.u64.wrap (a0_0)) [.int .u64 (IntKind.u64.wrap (a0_0))] from rfl) (Reps.one (show Kd.M (Kd.int .u64) _ _ _ (IntKind.u64.wrap (a0_1)) [.int .u64 (IntKind.u64.wrap (a0_1))] from rfl) (Reps.one (show Kd.M (Kd.int .u64) _ _ _ (IntKind.u64.wrap (a0_2)) [.int .u64 (IntKind.u64.wrap (a0_2))] from rfl) (Reps.one (show Kd.M (Kd.int .u64) _ _ _ (IntKind.u64.wrap (a0_3)) [.int .u64 (IntKind.u64.wrap (a0_3))] from rfl) (Reps.one (show Kd.M (Kd.int .u64) _ _ _ (IntKind.u64.wrap ((l0_4.length : Int))) [.int .u64 (IntKind.u64.wrap ((l0_4.length : Int)))] from rfl) (Reps.none _ _))))))); intro v289 w13 ho14 hb hg_ hnew_; clear hg_ hnew_; (first | rw [← Ny288.out] at ho14 | (simp only [Int.reduceToNat] at ho14; rw [← Ny288.out] at ho14)); have HO290 := Aside0.mk (Kd.R_lower ho14 (below_size (Cz.bl (w := w)))); replace BK286 := Cz.bk BK286 hb; replace HB := Cz.bs (w := w) hb; clear hb ho14; obtain ⟨Ao15, co15, eo15⟩ := Kd.R_slice HO290.out; subst eo15) | ((with_reducible refine gate_callee (f := 22) rfl ?_); refine Cz.gL (N := (some 31)) Try.func22 #[.string (⟨#[98, 98, 98, 119, 104]⟩ : ByteArray), .slice Ao15 y288.length co15] ?_; (with_reducible refine (waggonerref01_Pack.calls (⟨#[98, 98, 98, 119, 104]⟩ : ByteArray) _ _ y288 t291 t292 _ ?side1 ?side2 A4.out).mono ?_); (case side1 => repeat (first | exact (Kd.R_reads' HO290.out).2.2 | (with_reducible refine Kd.C_alloc ?_ _) | (with_reducible refine Kd.C_drewN ?_ _) | (with_reducible refine Kd.C_drew ?_))); (case side2 => exact (Kd.R_reads' HO290.out).2.1); rintro e w16 ⟨v293, rfl, ho0, hb⟩; refine ⟨_, rfl, ?_⟩; have HO294 := Aside0.mk (Kd.R_lower ho0 (below_size (Cz.bl (w := w)))); replace HO290 := Cz.rb HO290 hb; replace BK286 := Cz.bk BK286 hb; replace HB := Cz.bs (w := w) hb; (try clear hb); (try clear ho0); obtain ⟨z17_0, z17_1, z17_2, z17_3, z17_4, z17_5, y17_0, y17_1, y17_2, y17_3, y17_4, y17_5⟩ := Cz.d6 BK286) | ((with_reducible refine gate_builtin (b := .append) (xs := #[.tmp 34, .tmp 36]) rfl ?_); at_builtin; refine Kd.R_append_rows (Kd.int .u8) (w0 := w) w.heap.size rfl (.tmp 34) (.tmp 36) 23 5 (.int .u8 0) 1 rfl Try.underlying23 info5 rfl (by decide) (by omega) v293 t291 l0_4 _ _ _ (fun _ => True) (fun _ => False) rfl rfl ?aO ?aR (fun _ _ h => h) (fun _ h => h.elim) ?aF ?aB ?aS ?aL ?_; (case aR => exact Cz.cb HR0_4); (case aB => exact (Cz.bl (w := w))); (case aF => exact (fun _ _ => trivial)); (case aO => exact (by (with_reducible repeat (first | apply Kd.R_alloc | apply Kd.R_drewN | apply Kd.R_drew)); exact HO294.out)); (case aS => exact (below_size (Cz.bl (w := w)))); (case aL => have := LMc5.out; omega); intro v296 w18 ho hb hg hat; rw [← Ny295.out] at ho; have HO297 := Aside0.mk (ho); replace BK286 := Cz.bw BK286 hg (Kd.R_ne HO294.out BK286.out (by decide)); replace HO290 := Aside0.mk (Kd.R_over' (by (with_reducible repeat (first | apply Kd.R_alloc | apply Kd.R_drewN | apply Kd.R_drew)); exact HO290.out) (Kd.R_typed (by (with_reducible repeat (first | apply Kd.R_alloc | apply Kd.R_drewN | apply Kd.R_drew)); exact HO294.out)) (by decide) hg); replace HB := Aside0.mk (hb); clear HO294; clear ho hb hg hat; obtain ⟨z19_0, z19_1, z19_2, z19_3, z19_4, z19_5, y19_0, y19_1, y19_2, y19_3, y19_4, y19_5⟩ := Cz.d6 BK286) | ((with_reducible refine gate_callee (f := 23) rfl ?_); refine Cz.gL (N := (some 44)) Try.func23 #[.slice A0_5 l0_5.length c0_5] ?_; (with_reducible refine (waggonerref07_Write.calls _ _ l0_5 t298 t299 _ ?side1 ?side2 A7.out).mono ?_); (case side1 => exact Cz.cb HR0_5); (case side2 => exact HC0_5.out); rintro e w20 ⟨v300, rfl, ho0, hb⟩; refine ⟨_, rfl, ?_⟩; have HO301 := Aside0.mk (Kd.R_lower (Kd.R_new' ho0 (Kd.R_lt (by (with_reducible repeat (first | apply Kd.R_alloc | apply Kd.R_drewN | apply Kd.R_drew)); exact HO297.out))) (below_size (Cz.bl (w := w)))); replace HO290 := Cz.rb HO290 hb; replace HO297 := Aside0.mk (Kd.R_elder' (Cz.rq HO297) (Kd.R_base ho0) hb); replace BK286 := Cz.bk BK286 hb; replace HB := Cz.bs (w := w) hb; (try clear hb); (try clear ho0); obtain ⟨Ao22, co22, eo22⟩ := Kd.R_slice HO301.out; subst eo22) | ((with_reducible refine gate_builtin (b := .append) (xs := #[.tmp 47, .tmp 48]) rfl ?_); at_builtin; refine Kd.R_append_rows (Kd.int .u8) (w0 := w) w.heap.size rfl (.tmp 47) (.tmp 48) 23 5 (.int .u8 0) 1 rfl Try.underlying23 info5 rfl (by decide) (by omega) v296 y295 t298 _ _ _ (fun k_ => some k_ ≠ (.slice Ao22 t298.length co22 : Value).ownBlock) (fun _ => False) rfl rfl ?aO ?aR (fun _ _ h => h) (fun _ h => h.elim) ?aF ?aB ?aS ?aL ?_; (case aR => repeat (first | exact (Kd.R_reads' HO301.out).2.2 | (with_reducible refine Kd.C_alloc ?_ _) | (with_reducible refine Kd.C_drewN ?_ _) | (with_reducible refine Kd.C_drew ?_))); (case aB => exact (Cz.bl (w := w))); (case aF => exact (fun k_ hk => Kd.fresh' (Kd.R_lt (by (with_reducible repeat (first | apply Kd.R_alloc | apply Kd.R_drewN | apply Kd.R_drew)); exact HO301.out)) k_ hk)); (case aO => exact (by (with_reducible repeat (first | apply Kd.R_alloc | apply Kd.R_drewN | apply Kd.R_drew)); exact Kd.R_mono HO297.out (fun _ hk => hk.2))); (case aS => exact (below_size (Cz.bl (w := w)))); (case aL => have := LMc8.out; omega); intro v303 w21 ho hb hg hat; rw [← Ny302.out] at ho; have HO304 := Aside0.mk (ho); replace BK286 := Cz.bw BK286 hg (Kd.R_ne HO297.out BK286.out (by decide)); replace HO290 := Aside0.mk (Kd.R_over' (by (with_reducible repeat (first | apply Kd.R_alloc | apply Kd.R_drewN | apply Kd.R_drew)); exact HO290.out) (Kd.R_typed (by (with_reducible repeat (first | apply Kd.R_alloc | apply Kd.R_drewN | apply Kd.R_drew)); exact HO297.out)) (by decide) hg); replace HO301 := Aside0.mk (Kd.R_after (ok := (fun _ => True)) (by (with_reducible repeat (first | apply Kd.R_alloc | apply Kd.R_drewN | apply Kd.R_drew)); exact HO301.out) hg hat); replace HB := Aside0.mk (hb); clear HO297; clear ho hb hg hat))
     go_ret2
     exact ⟨_, Cz.er, by (with_reducible repeat (first | apply Kd.R_alloc | apply Kd.R_drewN | apply Kd.R_drew)); exact Kd.R_mono HO304.out (fun _ hk => trivial), Cz.bl (w := w)⟩
    ·rw [if_neg c8] at H
     exact absurd H (by simp)
   ·rw [if_neg c6] at H
    have c6b0 : (a0_0 == 8) = false := beq_eq_false_iff_ne.mpr c6
    have c6b1 : (a0_0 != 8) = true := bne_iff_ne.mpr c6
    simp only [Option.some.injEq, Prod.mk.injEq] at H
    obtain ⟨rfl, rfl⟩ := H
    go_enter Try.func12, Try.ntmps12
    go_wp2_with (first | ((with_reducible refine gate_dst (N := 1) rfl ?_); refine Cz.bx (N := 1) #[.int .i64 a0_0, .int .i64 a0_1, .int .i64 a0_2, .int .i64 a0_3, .slice A0_4 l0_4.length c0_4, .slice A0_5 l0_5.length c0_5] 26 ?_; intro gb286 hg w23 hbox hb; have BK286 := Aside0.mk (hbox); have GW286 := Aside0.mk ((Cz.gs hg : w.heap.size ≤ gb286)); have GE286 := GW286; replace HB := Cz.bs (w := w) hb; clear hb hbox hg; obtain ⟨z24_0, z24_1, z24_2, z24_3, z24_4, z24_5, y24_0, y24_1, y24_2, y24_3, y24_4, y24_5⟩ := Cz.d6 BK286) | ((with_reducible refine gate_callee (f := 17) rfl ?_); refine Cz.gL (N := (some 10)) Try.func17 #[.agg #[.int .i64 a0_0, .int .i64 a0_1, .int .i64 a0_2, .int .i64 a0_3, .slice A0_4 l0_4.length c0_4, .slice A0_5 l0_5.length c0_5]] ?_; (with_reducible refine (waggonerref10_Check.calls a0_0 a0_1 a0_2 a0_3 _ _ l0_4 _ _ l0_5 true _ ?side1 ?side2 ?side3 ?side4 A2.out).mono ?_); (case side1 => exact Cz.cb HR0_4); (case side2 => exact HC0_4.out); (case side3 => exact Cz.cb HR0_5); (case side4 => exact HC0_5.out); rintro e w25 ⟨rfl, hb⟩; refine ⟨_, rfl, ?_⟩; replace BK286 := Cz.bk BK286 hb; replace HB := Cz.bs (w := w) hb; (try clear hb); obtain ⟨z26_0, z26_1, z26_2, z26_3, z26_4, z26_5, y26_0, y26_1, y26_2, y26_3, y26_4, y26_5⟩ := Cz.d6 BK286) | ((with_reducible refine gate_dst (N := 30) rfl ?_); refine Kd.R_lit (Kd.int .u64) _ 44 ?hg (N := 30) ?hd (xs := ([IntKind.u64.wrap (a0_0), IntKind.u64.wrap (a0_1), IntKind.u64.wrap (a0_2), IntKind.u64.wrap (a0_3), IntKind.u64.wrap ((l0_4.length : Int))] : List Int)) (inner := [.int .u64 (IntKind.u64.wrap (a0_0)), .int .u64 (IntKind.u64.wrap (a0_1)), .int .u64 (IntKind.u64.wrap (a0_2)), .int .u64 (IntKind.u64.wrap (a0_3)), .int .u64 (IntKind.u64.wrap ((l0_4.length : Int)))]) (ok := fun _ => True) (okp := fun _ => True) ?hr ?hp (fun _ hk => hk) trivial (Below.refl _ _) (Nat.le_refl _) (by simp) ?_; (case hd => rfl); (case hg => rfl); (case hr => first | (go_simp; done) | (go_simp; rfl)); (case hp => exact (Reps.one (show Kd.M (Kd.int .u64) _ _ _ (IntKind.u64.wrap (a0_0)) [.int .u64 (IntKind.u64.wrap (a0_0))] from rfl) (Reps.one (show Kd.M (Kd.int .u64) _ _ _ (IntKind.u64.wrap (a0_1)) [.int .u64 (IntKind.u64.wrap (a0_1))] from rfl) (Reps.one (show Kd.M (Kd.int .u64) _ _ _ (IntKind.u64.wrap (a0_2)) [.int .u64 (IntKind.u64.wrap (a0_2))] from rfl) (Reps.one (show Kd.M (Kd.int .u64) _ _ _ (IntKind.u64.wrap (a0_3)) [.int .u64 (IntKind.u64.wrap (a0_3))] from rfl) (Reps.one (show Kd.M (Kd.int .u64) _ _ _ (IntKind.u64.wrap ((l0_4.length : Int))) [.int .u64 (IntKind.u64.wrap ((l0_4.length : Int)))] from rfl) (Reps.none _ _))))))); intro v289 w27 ho28 hb hg_ hnew_; clear hg_ hnew_; (first | rw [← Ny288.out] at ho28 | (simp only [Int.reduceToNat] at ho28; rw [← Ny288.out] at ho28)); have HO290 := Aside0.mk (Kd.R_lower ho28 (below_size (Cz.bl (w := w)))); replace BK286 := Cz.bk BK286 hb; replace HB := Cz.bs (w := w) hb; clear hb ho28; obtain ⟨Ao29, co29, eo29⟩ := Kd.R_slice HO290.out; subst eo29) | ((with_reducible refine gate_callee (f := 22) rfl ?_); refine Cz.gL (N := (some 31)) Try.func22 #[.string (⟨#[98, 98, 98, 119, 104]⟩ : ByteArray), .slice Ao29 y288.length co29] ?_; (with_reducible refine (waggonerref01_Pack.calls (⟨#[98, 98, 98, 119, 104]⟩ : ByteArray) _ _ y288 t291 t292 _ ?side1 ?side2 A4.out).mono ?_); (case side1 => repeat (first | exact (Kd.R_reads' HO290.out).2.2 | (with_reducible refine Kd.C_alloc ?_ _) | (with_reducible refine Kd.C_drewN ?_ _) | (with_reducible refine Kd.C_drew ?_))); (case side2 => exact (Kd.R_reads' HO290.out).2.1); rintro e w30 ⟨v293, rfl, ho0, hb⟩; refine ⟨_, rfl, ?_⟩; have HO294 := Aside0.mk (Kd.R_lower ho0 (below_size (Cz.bl (w := w)))); replace HO290 := Cz.rb HO290 hb; replace BK286 := Cz.bk BK286 hb; replace HB := Cz.bs (w := w) hb; (try clear hb); (try clear ho0); obtain ⟨z31_0, z31_1, z31_2, z31_3, z31_4, z31_5, y31_0, y31_1, y31_2, y31_3, y31_4, y31_5⟩ := Cz.d6 BK286) | ((with_reducible refine gate_builtin (b := .append) (xs := #[.tmp 34, .tmp 36]) rfl ?_); at_builtin; refine Kd.R_append_rows (Kd.int .u8) (w0 := w) w.heap.size rfl (.tmp 34) (.tmp 36) 23 5 (.int .u8 0) 1 rfl Try.underlying23 info5 rfl (by decide) (by omega) v293 t291 l0_4 _ _ _ (fun _ => True) (fun _ => False) rfl rfl ?aO ?aR (fun _ _ h => h) (fun _ h => h.elim) ?aF ?aB ?aS ?aL ?_; (case aR => exact Cz.cb HR0_4); (case aB => exact (Cz.bl (w := w))); (case aF => exact (fun _ _ => trivial)); (case aO => exact (by (with_reducible repeat (first | apply Kd.R_alloc | apply Kd.R_drewN | apply Kd.R_drew)); exact HO294.out)); (case aS => exact (below_size (Cz.bl (w := w)))); (case aL => have := LMc5.out; omega); intro v296 w32 ho hb hg hat; rw [← Ny295.out] at ho; have HO297 := Aside0.mk (ho); replace BK286 := Cz.bw BK286 hg (Kd.R_ne HO294.out BK286.out (by decide)); replace HO290 := Aside0.mk (Kd.R_over' (by (with_reducible repeat (first | apply Kd.R_alloc | apply Kd.R_drewN | apply Kd.R_drew)); exact HO290.out) (Kd.R_typed (by (with_reducible repeat (first | apply Kd.R_alloc | apply Kd.R_drewN | apply Kd.R_drew)); exact HO294.out)) (by decide) hg); replace HB := Aside0.mk (hb); clear HO294; clear ho hb hg hat; obtain ⟨z33_0, z33_1, z33_2, z33_3, z33_4, z33_5, y33_0, y33_1, y33_2, y33_3, y33_4, y33_5⟩ := Cz.d6 BK286))
    go_ret2
    exact ⟨_, Cz.er, Cz.rh, Cz.bl (w := w)⟩
  ·rw [if_neg c5] at H
   exact absurd H (by simp)
 ·replace c3 := Bool.eq_false_iff.mpr c3
  subst c3
  rw [if_neg (show ¬ (false = true) by decide)] at H
  simp only [Option.some.injEq, Prod.mk.injEq] at H
  obtain ⟨rfl, rfl⟩ := H
  go_enter Try.func12, Try.ntmps12
  go_wp2_with (first | ((with_reducible refine gate_dst (N := 1) rfl ?_); refine Cz.bx (N := 1) #[.int .i64 a0_0, .int .i64 a0_1, .int .i64 a0_2, .int .i64 a0_3, .slice A0_4 l0_4.length c0_4, .slice A0_5 l0_5.length c0_5] 26 ?_; intro gb286 hg w34 hbox hb; have BK286 := Aside0.mk (hbox); have GW286 := Aside0.mk ((Cz.gs hg : w.heap.size ≤ gb286)); have GE286 := GW286; replace HB := Cz.bs (w := w) hb; clear hb hbox hg; obtain ⟨z35_0, z35_1, z35_2, z35_3, z35_4, z35_5, y35_0, y35_1, y35_2, y35_3, y35_4, y35_5⟩ := Cz.d6 BK286) | ((with_reducible refine gate_callee (f := 17) rfl ?_); refine Cz.gL (N := (some 10)) Try.func17 #[.agg #[.int .i64 a0_0, .int .i64 a0_1, .int .i64 a0_2, .int .i64 a0_3, .slice A0_4 l0_4.length c0_4, .slice A0_5 l0_5.length c0_5]] ?_; (with_reducible refine (waggonerref10_Check.calls a0_0 a0_1 a0_2 a0_3 _ _ l0_4 _ _ l0_5 false _ ?side1 ?side2 ?side3 ?side4 A2.out).mono ?_); (case side1 => exact Cz.cb HR0_4); (case side2 => exact HC0_4.out); (case side3 => exact Cz.cb HR0_5); (case side4 => exact HC0_5.out); rintro e w36 ⟨rfl, hb⟩; refine ⟨_, rfl, ?_⟩; replace BK286 := Cz.bk BK286 hb; replace HB := Cz.bs (w := w) hb; (try clear hb)))
  go_ret2
  exact ⟨_, Cz.er, by first | exact Kd.R_nil _ _ _ _ _ | exact Kd.N_nil _ _ _ _ _ | exact Kd.V_nil _ _ _ _ _ | exact Kd.Q_nil _ _ _ _ _ | exact Kd.S_nil _ _ _ _ _, Cz.bl (w := w)⟩
def waggonerref10_Write.f (a0_0 a0_1 a0_2 a0_3 : Int) (l0_4 : List Int) (l0_5 : List S39) : Option (List Int × Int) := some (Pl.chwriteS a0_0 a0_1 a0_2 a0_3 l0_4 (l0_5.map toE))
theorem waggonerref10_Write.closes {a0_0 a0_1 a0_2 a0_3 : Int} {l0_4 : List Int} {l0_5 : List S39} {r : List Int × Int} (h : waggonerref10_Write.f a0_0 a0_1 a0_2 a0_3 l0_4 l0_5 = some r) : waggonerref10_Write_p.f a0_0 a0_1 a0_2 a0_3 l0_4 l0_5 = some r := by
 rw [← h]
 unfold waggonerref10_Write_p.f waggonerref10_Write.f
 rw [waggonerref10_Check.f, Option.bind_some, Pl.chwriteS]
 by_cases ho : Pl.chOk a0_0 a0_1 a0_2 a0_3 l0_4 (l0_5.map toE) = true
 rotate_left
 ·rw [if_neg ho, if_neg ho]
 obtain ⟨hk, ha, hn, hi, hd, hl⟩ := Pl.chOk_lt ho
 have hall := Pl.chOk_all ho
 have hp : waggonerref01_Pack.f (⟨#[98, 98, 98, 119, 104]⟩ : ByteArray) [IntKind.u64.wrap a0_0, IntKind.u64.wrap a0_1, IntKind.u64.wrap a0_2, IntKind.u64.wrap a0_3, IntKind.u64.wrap (l0_4.length : Int)] = some (Pl.chHead a0_0 a0_1 a0_2 a0_3 (l0_4.length : Int), 0) := by
  rw [show IntKind.u64.wrap a0_0 = a0_0 by rw [IntKind.wrap_u64]; omega, show IntKind.u64.wrap a0_1 = a0_1 by rw [IntKind.wrap_u64]; omega, show IntKind.u64.wrap a0_2 = a0_2 by rw [IntKind.wrap_u64]; omega, show IntKind.u64.wrap a0_3 = a0_3 by rw [IntKind.wrap_u64]; omega, show IntKind.u64.wrap (l0_4.length : Int) = (l0_4.length : Int) by rw [IntKind.wrap_u64]; omega]
  unfold waggonerref01_Pack.f
  rw [if_pos ⟨Pl.u64B_iff.2 (by
   intro x hx
   simp only [List.mem_cons, List.not_mem_nil, or_false] at hx
   omega), by decide⟩, show Pl.fb (⟨#[98, 98, 98, 119, 104]⟩ : ByteArray) = Pl.chForm from by kernel_rfl, Pl.packS_some (Pl.packP_chg hk.2 ha.2 hn.2 hi.2 (by omega))]
 rw [if_pos ho, if_pos ho, hp, Option.bind_some]
 dsimp only
 rw [if_pos (by rw [Pl.chHead_length]; omega), Option.bind_some, Pl.chW]
 by_cases hk8 : a0_0 = 8
 ·have hle := Pl.extsW_le hall
  rw [if_pos hk8, if_pos hk8, waggonerref07_Write.f, Option.bind_some, Pl.ewriteS, if_pos hall]
  dsimp only
  rw [if_pos (by rw [List.length_append, Pl.chHead_length]; omega), List.append_assoc]
 ·rw [if_neg hk8, if_neg hk8, List.append_nil]
theorem waggonerref10_Write.calls (a0_0 : Int) (a0_1 : Int) (a0_2 : Int) (a0_3 : Int) (A0_4 : Option Addr) (c0_4 : Nat) (l0_4 : List Int) (A0_5 : Option Addr) (c0_5 : Nat) (l0_5 : List (S39)) (r1 : List Int) (r2 : Int) (w : World) (hr0_4 : Kd.C (Kd.int .u8) w A0_4 l0_4.length l0_4) (hc0_4 : l0_4.length ≤ c0_4) (hr0_5 : Kd.C k39 w A0_5 l0_5.length l0_5) (hc0_5 : l0_5.length ≤ c0_5) (h : waggonerref10_Write.f a0_0 a0_1 a0_2 a0_3 l0_4 l0_5 = some (r1, r2)) :
  Calls Try.prog 12 #[.agg #[.int .i64 a0_0, .int .i64 a0_1, .int .i64 a0_2, .int .i64 a0_3, .slice A0_4 l0_4.length c0_4, .slice A0_5 l0_5.length c0_5]] w fun e w' => ∃ v0_ : Value, e = .returned (.tuple #[v0_, .int .i64 r2]) ∧ Kd.R (Kd.int .u8) 5 w' w.heap.size (fun _ => True) v0_ r1 ∧ Below w.heap.size w w' :=
 waggonerref10_Write_p.calls a0_0 a0_1 a0_2 a0_3 A0_4 c0_4 l0_4 A0_5 c0_5 l0_5 r1 r2 w hr0_4 hc0_4 hr0_5 hc0_5 (waggonerref10_Write.closes h)
mutual
def waggonerref01_Take_p.j0 : Nat → List Int → Int → Bool → Option (Int × List Int × Int)
 | 0, _, _, _ => none
 | k + 1, x0, x1, x19 => if x19 = true then (some (0, ([] : List Int), 10)) else (waggonerref01_Take_p.l0 k x0 x1 0 (wrap64 (x1 - 1)))
def waggonerref01_Take_p.l0 : Nat → List Int → Int → Int → Int → Option (Int × List Int × Int)
 | 0, _, _, _, _ => none
 | k + 1, x0, x1, x8, x9 => if x9 ≥ 0 then (if 0 ≤ x9 then (if x9 < (x0.length : Int) then (waggonerref01_Take_p.l0 k x0 x1 (IntKind.u64.wrap ((IntKind.u64.wrap (x8 * 256)) + (IntKind.u64.wrap (rd x0 x9)))) (wrap64 (x9 - 1))) else (none)) else (none)) else ((some (([] : List Int) : List Int)).bind fun y307 => (if 0 ≤ x1 then (if x1 ≤ (x0.length : Int) then (if y307.length + (x0.drop (x1 : Int).toNat).length < 140737488355328 then (some (x8, (y307 ++ (x0.drop (x1 : Int).toNat)), 0)) else (none)) else (none)) else (none)))
end
def waggonerref01_Take_p.f (k : Nat) (l0 : List Int) (a1 : Int) : Option (Int × List Int × Int) := (waggonerref01_may.f a1).bind fun t305 => (if t305 = true then (waggonerref01_Take_p.j0 k l0 a1 (decide ((l0.length : Int) < a1))) else (waggonerref01_Take_p.j0 k l0 a1 true))
set_option maxHeartbeats 8000000 in
set_option maxRecDepth 100000 in
theorem waggonerref01_Take_p.calls (k : Nat) (A0 : Option Addr) (c0 : Nat) (l0 : List Int) (a1 : Int) (r1 : Int) (r2 : List Int) (r3 : Int) (w : World) (hr0 : Kd.C (Kd.int .u8) w A0 l0.length l0) (hc0 : l0.length ≤ c0) (h : waggonerref01_Take_p.f k l0 a1 = some (r1, r2, r3)) :
  Calls Try.prog 43 #[.slice A0 l0.length c0, .int .i64 a1] w fun e w' => ∃ v1_ : Value, e = .returned (.tuple #[.int .u64 r1, v1_, .int .i64 r3]) ∧ Kd.R (Kd.int .u8) 5 w' w.heap.size (fun _ => True) v1_ r2 ∧ Below w.heap.size w w' := by
 have HR0 := Aside0.mk hr0
 have HC0 := Aside0.mk hc0
 clear hr0 hc0
 have HB := Aside0.mk (Below.refl w.heap.size w)
 have H : ((waggonerref01_may.f a1).bind fun t305 => (if t305 = true then (waggonerref01_Take_p.j0 k l0 a1 (decide ((l0.length : Int) < a1))) else (waggonerref01_Take_p.j0 k l0 a1 true))) = some (r1, r2, r3) := h
 clear h
 replace H := Option.bind_eq_some_iff.mp H
 obtain ⟨t305, A30, H⟩ := H
 (try dsimp only at H)
 have A3 := Aside0.mk A30
 clear A30
 have HC4 := Aside0.mk H
 clear H
 go_enter Try.func43, Try.ntmps43
 go_upto_region 2 with (first | ((with_reducible refine gate_callee (f := 51) rfl ?_); refine Cz.gL (N := (some 11)) Try.func51 #[.int .i64 a1] ?_; (with_reducible refine (waggonerref01_may.calls a1 t305 _ A3.out).mono ?_); rintro e w' ⟨rfl, ⟨nd, rfl⟩⟩; refine ⟨_, rfl, ?_⟩))
 (try simp only [Act.put, Kx.sb, Kx.sz, Kx.ss])
 go_cut [19] (fun v19 wc => ∃ (kq : Nat) (x19_3 : Bool), v19 = .bool x19_3 ∧ Aside0 (waggonerref01_Take_p.j0 kq l0 a1 x19_3 = some (r1, r2, r3)) ∧ Aside0 (kq ≤ k) ∧ Aside0 (Below w.heap.size w wc))
 case first =>
  have H := HC4.out
  clear HC4
  by_cases c5 : t305 = true
  ·subst c5
   rw [if_pos rfl] at H
   have H' := Aside0.mk H
   clear H
   go_wp2
   go_meet
   case rel => exact ⟨_, (decide ((l0.length : Int) < a1)), Cz.si, H', ⟨by first | omega | exact Nat.le_refl _⟩, ⟨Cz.bl (w := w)⟩⟩
  ·replace c5 := Bool.eq_false_iff.mpr c5
   subst c5
   rw [if_neg (show ¬ (false = true) by decide)] at H
   have H' := Aside0.mk H
   clear H
   go_wp2
   go_meet
   case rel => exact ⟨_, (true), Cz.si, H', ⟨by first | omega | exact Nat.le_refl _⟩, ⟨Cz.bl (w := w)⟩⟩
 case rest =>
  clear HC4
  try clear p2
  try clear c4
  try clear c5
  obtain ⟨kq, x19_3, rfl, HA, HJ3, HB⟩ := hcut
  cases kq with
  | zero => exact absurd HA.out (by simp [waggonerref01_Take_p.j0])
  | succ kj3 =>
   have H := HA.out
   clear HA
   simp only [waggonerref01_Take_p.j0] at H
   by_cases c6 : x19_3 = true
   ·subst c6
    rw [if_pos rfl] at H
    simp only [Option.some.injEq, Prod.mk.injEq] at H
    obtain ⟨rfl, rfl, rfl⟩ := H
    go_wp2
    go_ret3
    exact ⟨_, Cz.er, by first | exact Kd.R_nil _ _ _ _ _ | exact Kd.N_nil _ _ _ _ _ | exact Kd.V_nil _ _ _ _ _ | exact Kd.Q_nil _ _ _ _ _ | exact Kd.S_nil _ _ _ _ _, Cz.bl (w := w)⟩
   ·replace c6 := Bool.eq_false_iff.mpr c6
    subst c6
    rw [if_neg (show ¬ (false = true) by decide)] at H
    have H' := Aside0.mk H
    clear H
    go_wp2
    go_loopg [8, 9] kj3 (fun kq v8 v9 w' => ∃ (x8_2 : Int) (x9_2 : Int), v8 = .int .u64 x8_2 ∧ v9 = .int .i64 x9_2 ∧ Aside0 (waggonerref01_Take_p.l0 kq l0 a1 x8_2 x9_2 = some (r1, r2, r3)) ∧ Aside0 (kq ≤ kj3) ∧ Aside0 (Below w.heap.size w w'))
    case atStart => exact ⟨(0), (wrap64 (a1 - 1)), Cz.si, Cz.si, H', ⟨Nat.le_refl _⟩, ⟨Cz.bl (w := w)⟩⟩
    case round =>
     clear H'
     try clear p2 p2
     try clear c4
     try clear c5
     try clear c6
     try clear p6
     obtain ⟨x8_2, x9_2, rfl, rfl, HA, HK2, HB⟩ := hrel
     cases gk with
     | zero => exact absurd HA.out (by simp [waggonerref01_Take_p.l0])
     | succ k2 =>
      have H := HA.out
      clear HA
      simp only [waggonerref01_Take_p.l0] at H
      by_cases c7 : x9_2 ≥ 0
      ·rw [if_pos c7] at H
       have c7b0 : decide (0 ≤ x9_2) = true := decide_eq_true c7
       clear c7
       by_cases c8 : 0 ≤ x9_2
       ·rw [if_pos c8] at H
        have c8b0 : decide (0 ≤ x9_2) = true := decide_eq_true c8
        clear c8
        by_cases c9 : x9_2 < (l0.length : Int)
        ·rw [if_pos c9] at H
         have c9b0 : decide (x9_2 < (l0.length : Int)) = true := decide_eq_true c9
         clear c9
         have H' := Aside0.mk H
         clear H
         have p306 : 0 ≤ (x9_2 : Int) := of_decide_eq_true (by first | (with_reducible assumption) | assumption)
         have q306 : x9_2 < (l0.length : Int) := of_decide_eq_true (by first | (with_reducible assumption) | assumption)
         obtain ⟨ad306, e306, hx306_0⟩ := Kd.at_int HR0.out x9_2 p306 q306
         cases e306
         replace hx306_0 := (HB.out.cell (World.block_lt_of_cell? w _ hx306_0)).trans hx306_0
         replace p306 := eq_true p306
         replace q306 := eq_true q306
         go_wp2
         go_roundg k2
         case measure => have := HJ3.out; have := HK2.out; omega
         case rel => exact ⟨(IntKind.u64.wrap ((IntKind.u64.wrap (x8_2 * 256)) + (IntKind.u64.wrap (rd l0 x9_2)))), (wrap64 (x9_2 - 1)), Cz.si, Cz.si, H', ⟨by have := HJ3.out; have := HK2.out; omega⟩, ⟨Cz.bl (w := w)⟩⟩
        ·rw [if_neg c9] at H
         exact absurd H (by simp)
       ·rw [if_neg c8] at H
        exact absurd H (by simp)
      ·rw [if_neg c7] at H
       have c7b0 : decide (0 ≤ x9_2) = false := decide_eq_false c7
       clear c7
       obtain ⟨y307, hy307⟩ : ∃ y_ : List Int, y_ = (([] : List Int)) := ⟨_, rfl⟩
       replace H : (if 0 ≤ a1 then (if a1 ≤ (l0.length : Int) then (if y307.length + (l0.drop (a1 : Int).toNat).length < 140737488355328 then (some (x8_2, (y307 ++ (l0.drop (a1 : Int).toNat)), 0)) else (none)) else (none)) else (none)) = some (r1, r2, r3) := by first | (rw [hy307]; with_reducible exact H) | (have H2_ := (Option.bind_some _ _).symm.trans H; rw [hy307]; with_reducible exact H2_) | (have H2_ := (Option.bind_some _ _).symm.trans H; with_reducible exact H2_) | with_reducible exact H | (rw [hy307]; exact H) | exact H
       have Ny307 := Aside0.mk hy307
       clear hy307
       by_cases c10 : 0 ≤ a1
       ·rw [if_pos c10] at H
        have c10b0 := eq_true c10
        have c10b1 : decide (0 ≤ a1) = true := decide_eq_true c10
        clear c10
        by_cases c11 : a1 ≤ (l0.length : Int)
        ·rw [if_pos c11] at H
         have c11b0 := eq_true c11
         have c11b1 : decide (a1 ≤ (l0.length : Int)) = true := decide_eq_true c11
         clear c11
         by_cases c12 : y307.length + (l0.drop (a1 : Int).toNat).length < 140737488355328
         ·rw [if_pos c12] at H
          have LMc12 := Aside0.mk c12
          clear c12
          obtain ⟨y311, hy311⟩ : ∃ y_ : List Int, y_ = (y307 ++ (l0.drop (a1 : Int).toNat)) := ⟨_, rfl⟩
          replace H : (some (x8_2, y311, 0)) = some (r1, r2, r3) := by first | (rw [hy311]; with_reducible exact H) | (have H2_ := (Option.bind_some _ _).symm.trans H; rw [hy311]; with_reducible exact H2_) | (have H2_ := (Option.bind_some _ _).symm.trans H; with_reducible exact H2_) | with_reducible exact H | (rw [hy311]; exact H) | exact H
          have Ny311 := Aside0.mk hy311
          clear hy311
          simp only [Option.some.injEq, Prod.mk.injEq] at H
          obtain ⟨rfl, rfl, rfl⟩ := H
          go_wp2_with (first | ((with_reducible refine gate_dst (N := 35) rfl ?_); (try (refine gate_guard (by rfl) ?_; dsimp only)); refine Kd.R_lit (Kd.int .u8) _ 5 ?hg (N := 35) ?hd (xs := ([] : List Int)) (inner := []) (ok := fun _ => True) (okp := fun _ => True) ?hr ?hp (fun _ hk => hk) trivial (Below.refl _ _) (Nat.le_refl _) (by simp) ?_; (case hd => rfl); (case hg => rfl); (case hr => first | (go_simp; done) | (go_simp; rfl)); (case hp => exact (Reps.none _ _)); intro v308 w13 ho14 hb hg_ hnew_; clear hg_ hnew_; (first | rw [← Ny307.out] at ho14 | (simp only [Int.reduceToNat] at ho14; rw [← Ny307.out] at ho14)); have HO309 := Aside0.mk (Kd.R_lower ho14 (below_size (Cz.bl (w := w)))); replace HB := Cz.bs (w := w) hb; clear hb ho14; obtain ⟨i015, hi015, _, hsz15, _⟩ := info_parts info5; obtain ⟨A15, hcut15, hA15, hC15⟩ := print_drop_of (P := Try.prog) (Value.int .u8) 0 23 5 .i64 Try.underlying23 hi015 hsz15 A0 c0 l0 a1 (of_decide_eq_true (by first | (with_reducible assumption) | assumption)) (of_decide_eq_true (by first | (with_reducible assumption) | assumption)) HC0.out; have HR310 := Aside0.mk (Kd.C_of_reads (h1 := fun _ => rfl) (hA15 _ (Kd.reads_of_C HR0.out))); have HC310 := Aside0.mk hC15; clear hA15 hC15 hi015 hsz15) | ((with_reducible refine gate_builtin (b := .append) (xs := #[.tmp 35, .tmp 38]) rfl ?_); (try (refine gate_guard (by rfl) ?_; dsimp only)); at_builtin; refine Kd.R_append_rows (Kd.int .u8) (w0 := w) w.heap.size rfl (.tmp 35) (.tmp 38) 23 5 (.int .u8 0) 1 rfl Try.underlying23 info5 rfl (by decide) (by omega) v308 y307 (l0.drop (a1 : Int).toNat) _ _ _ (fun _ => True) (fun _ => False) rfl rfl ?aO ?aR (fun _ _ h => h) (fun _ h => h.elim) ?aF ?aB ?aS ?aL ?_; (case aR => first | (rw [← show (l0.drop (a1 : Int).toNat).length = (l0.length - a1.toNat) from List.length_drop]; exact Cz.cb HR310) | (exact Cz.cb HR310)); (case aB => exact (Cz.bl (w := w))); (case aF => exact (fun _ _ => trivial)); (case aO => exact (by (with_reducible repeat (first | apply Kd.R_alloc | apply Kd.R_drewN | apply Kd.R_drew)); exact HO309.out)); (case aS => exact (below_size (Cz.bl (w := w)))); (case aL => have := LMc12.out; have hlx_ := (show (l0.drop (a1 : Int).toNat).length = (l0.length - a1.toNat) from List.length_drop); omega); intro v312 w16 ho hb hg hat; rw [← Ny311.out] at ho; have HO313 := Aside0.mk (ho); replace HB := Aside0.mk (hb); clear HO309; clear ho hb hg hat))
          go_ret3
          exact ⟨_, Cz.er, Cz.rh, Cz.bl (w := w)⟩
         ·rw [if_neg c12] at H
          exact absurd H (by simp)
        ·rw [if_neg c11] at H
         exact absurd H (by simp)
       ·rw [if_neg c10] at H
        exact absurd H (by simp)
def waggonerref01_Take.f (l0 : List Int) (a1 : Int) : Option (Int × List Int × Int) := if Pl.byteB l0 = true ∧ l0.length < 70368744177664 then some (Pl.takeS l0 a1) else none
theorem waggonerref01_Take.may (s : Int) : waggonerref01_may.f s = some (Pl.okS s) := by
 unfold waggonerref01_may.f Pl.okS
 by_cases h1 : s = 1
 ·subst h1; rfl
 by_cases h2 : s = 2
 ·subst h2; rfl
 by_cases h4 : s = 4
 ·subst h4; rfl
 by_cases h8 : s = 8
 ·subst h8; rfl
 simp [h1, h2, h4, h8]
theorem waggonerref01_Take.grow (l : List Int) (hb : Pl.byteB l = true) (s j : Nat) (hs : s ≤ l.length) (hj : j < s) (hs8 : s ≤ 8) : ∃ b : Nat, b < 256 ∧ rd l (j : Int) = (b : Int) ∧ Pl.leN (Pl.nats ((l.take s).drop (j + 1))) < 72057594037927936 ∧ Pl.leN (Pl.nats ((l.take s).drop j)) = 256 * Pl.leN (Pl.nats ((l.take s).drop (j + 1))) + b := by
 have hn : ∀ j, Pl.nats ((l.take s).drop j) = ((Pl.nats l).take s).drop j := fun j => by unfold Pl.nats; rw [List.map_drop, List.map_take]
 have hB : Pl.Bytes (Pl.nats l) := Pl.byteB_bytes hb
 have hjl : j < ((Pl.nats l).take s).length := by rw [List.length_take, Pl.nats_length]; omega
 have hjn : j < (Pl.nats l).length := by rw [Pl.nats_length]; omega
 have hlt : Pl.leN (((Pl.nats l).take s).drop (j + 1)) < 72057594037927936 := by
  have h1 := Pl.leN_lt (((Pl.nats l).take s).drop (j + 1)) (fun x hx => hB x (List.mem_of_mem_take (List.mem_of_mem_drop hx)))
  have h2 : 2 ^ (8 * (((Pl.nats l).take s).drop (j + 1)).length) ≤ 2 ^ 56 := Nat.pow_le_pow_right (by decide) (by rw [List.length_drop, List.length_take]; omega)
  exact Nat.lt_of_lt_of_le h1 h2
 refine ⟨(Pl.nats l)[j]'hjn, hB _ (List.getElem_mem _), ?_, by rw [hn]; exact hlt, ?_⟩
 ·exact Kx.rd_nats hb j hjn
 ·rw [hn, hn, List.drop_eq_getElem_cons hjl, Pl.leN, List.getElem_take]
theorem waggonerref01_Take.loop (l : List Int) (hb : Pl.byteB l = true) (s : Nat) (hs : s ≤ l.length) (hs8 : s ≤ 8) (hl : l.length < 70368744177664) : ∀ (j k : Nat), j ≤ s → j < k →
  waggonerref01_Take_p.l0 k l (s : Int) ((Pl.leN (Pl.nats ((l.take s).drop j)) : Nat) : Int) ((j : Int) - 1) = some (((Pl.leN (Pl.nats (l.take s)) : Nat) : Int), l.drop s, 0)
 | 0, k, hj, hk => by
  obtain ⟨k, rfl⟩ : ∃ m, k = m + 1 := ⟨k - 1, by omega⟩
  simp only [waggonerref01_Take_p.l0]
  rw [if_neg (by omega), Option.bind_some, if_pos (by omega), if_pos (by omega), Int.toNat_natCast, if_pos (by rw [List.length_drop, List.length_nil]; omega), List.nil_append, List.drop_zero]
 | j + 1, k, hj, hk => by
  obtain ⟨k, rfl⟩ : ∃ m, k = m + 1 := ⟨k - 1, by omega⟩
  obtain ⟨b, hb8, hr, hlt, hgo⟩ := waggonerref01_Take.grow l hb s j hs (by omega) hs8
  have ih := waggonerref01_Take.loop l hb s hs hs8 hl j k (by omega) (by omega)
  rw [hgo] at ih
  obtain ⟨x, hx⟩ : ∃ x, x = Pl.leN (Pl.nats ((l.take s).drop (j + 1))) := ⟨_, rfl⟩
  rw [← hx] at ih hlt ⊢
  simp only [waggonerref01_Take_p.l0]
  rw [show ((j + 1 : Nat) : Int) - 1 = (j : Int) from by omega, if_pos (by omega), if_pos (by omega), if_pos (by omega), hr, IntKind.wrap_u64, IntKind.wrap_u64, IntKind.wrap_u64,
   show ((x : Int) * 256 % 18446744073709551616 + (b : Int) % 18446744073709551616) % 18446744073709551616 = ((256 * x + b : Nat) : Int) from by omega, show wrap64 ((j : Int) - 1) = (j : Int) - 1 from by unfold wrap64; omega]
  exact ih
theorem waggonerref01_Take.tells {l0 : List Int} {a1 : Int} {r : Int × List Int × Int} (h : waggonerref01_Take.f l0 a1 = some r) : waggonerref01_Take_p.f 12 l0 a1 = some r := by
 unfold waggonerref01_Take.f at h
 split at h
 case isFalse => cases h
 rename_i hh
 obtain ⟨h0, h1⟩ := hh
 obtain rfl := Option.some.inj h
 unfold waggonerref01_Take_p.f
 rw [waggonerref01_Take.may, Option.bind_some]
 unfold Pl.takeS
 by_cases hs : Pl.okS a1 = true
 ·obtain ⟨s, rfl⟩ := Int.eq_ofNat_of_zero_le (show 0 ≤ a1 from by rcases Pl.okS_iff.1 hs with h | h | h | h <;> omega)
  have hs8 : s ≤ 8 := by rcases Pl.okS_iff.1 hs with h | h | h | h <;> omega
  rw [if_pos hs]
  simp only [waggonerref01_Take_p.j0]
  by_cases hl : (l0.length : Int) < (s : Int)
  ·rw [decide_eq_true hl, if_pos rfl, if_neg (by omega)]
  ·rw [decide_eq_false hl, if_neg (by decide), if_pos ⟨hs, by omega⟩, Int.toNat_natCast, show wrap64 ((s : Int) - 1) = (s : Int) - 1 from by unfold wrap64; omega]
   have h := waggonerref01_Take.loop l0 h0 s (by omega) hs8 h1 s 11 (by omega) (by omega)
   rw [show (l0.take s).drop s = [] from by rw [List.drop_eq_nil_iff, List.length_take]; omega] at h
   exact h
 ·rw [if_neg hs, if_neg (fun h => hs h.1)]
  simp only [waggonerref01_Take_p.j0]
  rfl
theorem waggonerref01_Take.calls (A0 : Option Addr) (c0 : Nat) (l0 : List Int) (a1 : Int) (r1 : Int) (r2 : List Int) (r3 : Int) (w : World) (hr0 : Kd.C (Kd.int .u8) w A0 l0.length l0) (hc0 : l0.length ≤ c0) (h : waggonerref01_Take.f l0 a1 = some (r1, r2, r3)) :
  Calls Try.prog 43 #[.slice A0 l0.length c0, .int .i64 a1] w fun e w' => ∃ v1_ : Value, e = .returned (.tuple #[.int .u64 r1, v1_, .int .i64 r3]) ∧ Kd.R (Kd.int .u8) 5 w' w.heap.size (fun _ => True) v1_ r2 ∧ Below w.heap.size w w' :=
 waggonerref01_Take_p.calls 12 A0 c0 l0 a1 r1 r2 r3 w hr0 hc0 (waggonerref01_Take.tells h)
def waggonerref01_Unpack_p.l0 : Nat → ByteArray → List Int → List Int → Int → Option (List Int × Int)
 | 0, _, _, _, _ => none
 | k + 1, x0, x1, x6, x7 => if x7 < (x0.size : Int) then (if 0 ≤ x7 then ((waggonerref01_size.f (bt x0 x7)).bind fun t314 => ((waggonerref01_Take.f x1 t314).bind fun bt315 => (if bt315.2.2 = 0 then (if x6.length < 17592186044416 then (waggonerref01_Unpack_p.l0 k x0 bt315.2.1 (x6 ++ [bt315.1]) (wrap64 (x7 + 1))) else (none)) else (some (([] : List Int), 10))))) else (none)) else (if (x1.length : Int) > 0 then (some (([] : List Int), 10)) else (some (x6, 0)))
def waggonerref01_Unpack_p.f (k : Nat) (a0 : ByteArray) (l1 : List Int) : Option (List Int × Int) := waggonerref01_Unpack_p.l0 k a0 l1 ([] : List Int) 0
set_option maxHeartbeats 8000000 in
set_option maxRecDepth 100000 in
theorem waggonerref01_Unpack_p.calls (k : Nat) (a0 : ByteArray) (P1_ : Nat → Prop) (A1 : Option Addr) (c1 : Nat) (l1 : List Int) (r1 : List Int) (r2 : Int) (w : World) (hs1 : Kd.V (Kd.int .u8) 5 w w.heap.size (fun k_ => P1_ k_) (.slice A1 l1.length c1) l1) (h : waggonerref01_Unpack_p.f k a0 l1 = some (r1, r2)) :
  Calls Try.prog 27 #[.string a0, .slice A1 l1.length c1] w fun e w' => ∃ v0_ : Value, e = .returned (.tuple #[v0_, .int .i64 r2]) ∧ Kd.R (Kd.int .u64) 44 w' w.heap.size (fun k_ => (w.heap.size ≤ k_)) v0_ r1 ∧ Below w.heap.size w w' := by
 have HO1 := Aside0.mk (show Kd.V (Kd.int .u8) 5 w w.heap.size (fun k_ => (P1_ k_ ∨ w.heap.size ≤ k_)) (.slice A1 l1.length c1) l1 from Kd.V_mono hs1 (fun k_ hk => .inl hk))
 have HB := Aside0.mk (Below.refl w.heap.size w)
 have H : (waggonerref01_Unpack_p.l0 k a0 l1 ([] : List Int) 0) = some (r1, r2) := h
 clear h
 have H' := Aside0.mk H
 clear H
 go_enter Try.func27, Try.ntmps27
 go_wp2
 go_loopg [1, 6, 7] k (fun kq v1 v6 v7 w' => ∃ (x1_1 : List Int) (x6_1 : List Int) (x7_1 : Int), v7 = .int .i64 x7_1 ∧ Aside0 (waggonerref01_Unpack_p.l0 kq a0 x1_1 x6_1 x7_1 = some (r1, r2)) ∧ Aside0 (kq ≤ k) ∧ Aside0 (Kd.V (Kd.int .u8) 5 w' w.heap.size (fun k_ => (P1_ k_ ∨ w.heap.size ≤ k_) ∧ some k_ ≠ (v6 : Value).ownBlock) v1 x1_1) ∧ Aside0 (Kd.R (Kd.int .u64) 44 w' w.heap.size (fun k_ => (w.heap.size ≤ k_)) v6 x6_1) ∧ Aside0 (Below w.heap.size w w'))
 case atStart => exact ⟨(l1), (([] : List Int)), (0), Cz.si, H', ⟨Nat.le_refl _⟩, ⟨by (with_reducible repeat (first | apply Kd.V_alloc | apply Kd.V_drewN | apply Kd.V_drew)); exact Kd.V_mono HO1.out (fun _ hk => ⟨hk, (by simp [Value.ownBlock])⟩)⟩, ⟨by first | exact Kd.R_nil _ _ _ _ _ | exact Kd.N_nil _ _ _ _ _ | exact Kd.V_nil _ _ _ _ _ | exact Kd.Q_nil _ _ _ _ _ | exact Kd.S_nil _ _ _ _ _⟩, ⟨Cz.bl (w := w)⟩⟩
 case round =>
  clear H'
  try clear c1
  try clear c2
  try clear p2
  obtain ⟨x1_1, x6_1, x7_1, rfl, HA, HK1, HO_1, HO_6, HB⟩ := hrel
  cases gk with
  | zero => exact absurd HA.out (by simp [waggonerref01_Unpack_p.l0])
  | succ k1 =>
   have H := HA.out
   clear HA
   simp only [waggonerref01_Unpack_p.l0] at H
   by_cases c3 : x7_1 < (a0.size : Int)
   ·rw [if_pos c3] at H
    have c3b0 : decide (x7_1 < (a0.size : Int)) = true := decide_eq_true c3
    clear c3
    by_cases c4 : 0 ≤ x7_1
    ·rw [if_pos c4] at H
     have c4b0 : decide (0 ≤ x7_1) = true := decide_eq_true c4
     clear c4
     replace H := Option.bind_eq_some_iff.mp H
     obtain ⟨t314, A60, H⟩ := H
     (try dsimp only at H)
     have A6 := Aside0.mk A60
     clear A60
     replace H := Option.bind_eq_some_iff.mp H
     obtain ⟨⟨t315, t316, t317⟩, A70, H⟩ := H
     (try dsimp only at H)
     have A7 := Aside0.mk A70
     clear A70
     by_cases c8 : t317 = 0
     ·rw [if_pos c8] at H
      have c8b0 : (t317 == 0) = true := beq_iff_eq.mpr c8
      have c8b1 : (t317 != 0) = false := bne_eq_false_iff_eq.mpr c8
      clear c8
      by_cases c9 : x6_1.length < 17592186044416
      ·rw [if_pos c9] at H
       have LMc9 := Aside0.mk c9
       clear c9
       obtain ⟨y320, hy320⟩ : ∃ y_ : List Int, y_ = (x6_1 ++ [t315]) := ⟨_, rfl⟩
       replace H : (waggonerref01_Unpack_p.l0 k1 a0 t316 y320 (wrap64 (x7_1 + 1))) = some (r1, r2) := by first | (rw [hy320]; with_reducible exact H) | (have H2_ := (Option.bind_some _ _).symm.trans H; rw [hy320]; with_reducible exact H2_) | (have H2_ := (Option.bind_some _ _).symm.trans H; with_reducible exact H2_) | with_reducible exact H | (rw [hy320]; exact H) | exact H
       have Ny320 := Aside0.mk hy320
       clear hy320
       have H' := Aside0.mk H
       clear H
       have p5 : 0 ≤ (x7_1 : Int) := of_decide_eq_true (by first | (with_reducible assumption) | assumption)
       have q5 : x7_1 < (a0.size : Int) := of_decide_eq_true (by first | (with_reducible assumption) | assumption)
       have hx5 := bt_at a0 x7_1
       replace p5 := eq_true p5
       replace q5 := eq_true q5
       go_wp2_with (first | ((with_reducible refine gate_callee (f := 38) rfl ?_); refine Cz.gL (N := (some 22)) Try.func38 #[.int .u8 (bt a0 x7_1)] ?_; (with_reducible refine (waggonerref01_size.calls (bt a0 x7_1) t314 _ A6.out).mono ?_); rintro e w' ⟨rfl, ⟨nd, rfl⟩⟩; refine ⟨_, rfl, ?_⟩; obtain ⟨Ao10, co10, eo10⟩ := Kd.V_slice HO_1.out; subst eo10) | ((with_reducible refine gate_callee (f := 43) rfl ?_); refine Cz.gL (N := (some 23)) Try.func43 #[.slice Ao10 x1_1.length co10, .int .i64 t314] ?_; (with_reducible refine (waggonerref01_Take.calls _ _ x1_1 t314 t315 t316 t317 _ ?side1 ?side2 A7.out).mono ?_); (case side1 => repeat (first | exact (Kd.V_reads' HO_1.out).2.2 | (with_reducible refine Kd.C_alloc ?_ _) | (with_reducible refine Kd.C_drewN ?_ _) | (with_reducible refine Kd.C_drew ?_))); (case side2 => exact (Kd.V_reads' HO_1.out).2.1); rintro e w11 ⟨v318, rfl, ho0, hb⟩; refine ⟨_, rfl, ?_⟩; have HO319 := Aside0.mk (Kd.R_lower (Kd.R_newM (M := fun k_ => (w.heap.size ≤ k_)) ho0 (below_size (Cz.bl (w := w))) (fun k_ h_ => h_)) (below_size (Cz.bl (w := w)))); replace HO_1 := Aside0.mk (Kd.V_elder' (by (with_reducible repeat (first | apply Kd.V_alloc | apply Kd.V_drewN | apply Kd.V_drew)); exact HO_1.out) (Kd.R_base ho0) hb); replace HO_6 := Cz.rb HO_6 hb; replace HB := Cz.bs (w := w) hb; (try clear hb); (try clear ho0)) | ((with_reducible refine gate_builtin (b := .append) (xs := #[.tmp 29, .tmp 31]) rfl ?_); at_builtin; refine Kd.R_append (Kd.int .u64) (w0 := w) w.heap.size rfl (.tmp 29) (.tmp 31) 47 44 (.int .u64 0) 8 rfl Try.underlying47 info44 rfl (by decide) (by omega) u6 x6_1 t315 [.int .u64 t315] (fun k_ => (w.heap.size ≤ k_)) (fun _ => False) rfl rfl ?aP (fun _ hk => hk.elim) ?aF ?aO ?aB ?aS ?aL ?_; (case aP => exact rfl); (case aB => exact (Cz.bl (w := w))); (case aF => exact (fun k_ hk => (Nat.le_trans (below_size (Cz.bl (w := w))) hk))); (case aO => exact (by (with_reducible repeat (first | apply Kd.R_alloc | apply Kd.R_drewN | apply Kd.R_drew)); exact HO_6.out)); (case aS => exact (below_size (Cz.bl (w := w)))); (case aL => have := LMc9.out; omega); intro v321 w12 ho hb hg hat; rw [← Ny320.out] at ho; have HO322 := Aside0.mk (ho); replace HO_1 := Aside0.mk (Kd.V_afterv (ok := (fun k_ => (P1_ k_ ∨ w.heap.size ≤ k_) ∧ some k_ ≠ (v318 : Value).ownBlock)) (by (with_reducible repeat (first | apply Kd.V_alloc | apply Kd.V_drewN | apply Kd.V_drew)); exact Kd.V_mono HO_1.out (fun _ hk => ⟨⟨hk.1.1, hk.2⟩, hk.1.2⟩)) hg hat); replace HO319 := Aside0.mk (Kd.R_over' (by (with_reducible repeat (first | apply Kd.R_alloc | apply Kd.R_drewN | apply Kd.R_drew)); exact HO319.out) (Kd.R_typed (by (with_reducible repeat (first | apply Kd.R_alloc | apply Kd.R_drewN | apply Kd.R_drew)); exact HO_6.out)) (by decide) hg); replace HB := Aside0.mk (hb); clear HO_6; clear ho hb hg hat))
       go_roundg k1
       case measure => have := HK1.out; omega
       case rel => exact ⟨(t316), (y320), (wrap64 (x7_1 + 1)), Cz.si, H', ⟨by have := HK1.out; omega⟩, ⟨Kd.V_mono (Kd.R_V (by (with_reducible repeat (first | apply Kd.R_alloc | apply Kd.R_drewN | apply Kd.R_drew)); exact Kd.R_apart' HO319.out (Kd.R_typed HO322.out) (by decide))) (fun k_ hk => by first | exact ⟨(.inr (hk.1.1)), hk.2⟩ | exact ⟨(.inr (hk.1)), hk.2⟩ | exact (.inr (hk)))⟩, ⟨by (with_reducible repeat (first | apply Kd.R_alloc | apply Kd.R_drewN | apply Kd.R_drew)); exact HO322.out⟩, ⟨Cz.bl (w := w)⟩⟩
      ·rw [if_neg c9] at H
       exact absurd H (by simp)
     ·rw [if_neg c8] at H
      have c8b0 : (t317 == 0) = false := beq_eq_false_iff_ne.mpr c8
      have c8b1 : (t317 != 0) = true := bne_iff_ne.mpr c8
      simp only [Option.some.injEq, Prod.mk.injEq] at H
      obtain ⟨rfl, rfl⟩ := H
      have p5 : 0 ≤ (x7_1 : Int) := of_decide_eq_true (by first | (with_reducible assumption) | assumption)
      have q5 : x7_1 < (a0.size : Int) := of_decide_eq_true (by first | (with_reducible assumption) | assumption)
      have hx5 := bt_at a0 x7_1
      replace p5 := eq_true p5
      replace q5 := eq_true q5
      go_wp2_with (first | ((with_reducible refine gate_callee (f := 38) rfl ?_); refine Cz.gL (N := (some 22)) Try.func38 #[.int .u8 (bt a0 x7_1)] ?_; (with_reducible refine (waggonerref01_size.calls (bt a0 x7_1) t314 _ A6.out).mono ?_); rintro e w' ⟨rfl, ⟨nd, rfl⟩⟩; refine ⟨_, rfl, ?_⟩; obtain ⟨Ao13, co13, eo13⟩ := Kd.V_slice HO_1.out; subst eo13) | ((with_reducible refine gate_callee (f := 43) rfl ?_); refine Cz.gL (N := (some 23)) Try.func43 #[.slice Ao13 x1_1.length co13, .int .i64 t314] ?_; (with_reducible refine (waggonerref01_Take.calls _ _ x1_1 t314 t315 t316 t317 _ ?side1 ?side2 A7.out).mono ?_); (case side1 => repeat (first | exact (Kd.V_reads' HO_1.out).2.2 | (with_reducible refine Kd.C_alloc ?_ _) | (with_reducible refine Kd.C_drewN ?_ _) | (with_reducible refine Kd.C_drew ?_))); (case side2 => exact (Kd.V_reads' HO_1.out).2.1); rintro e w14 ⟨v318, rfl, ho0, hb⟩; refine ⟨_, rfl, ?_⟩; have HO319 := Aside0.mk (Kd.R_lower (Kd.R_newM (M := fun k_ => (w.heap.size ≤ k_)) ho0 (below_size (Cz.bl (w := w))) (fun k_ h_ => h_)) (below_size (Cz.bl (w := w)))); replace HO_1 := Aside0.mk (Kd.V_elder' (by (with_reducible repeat (first | apply Kd.V_alloc | apply Kd.V_drewN | apply Kd.V_drew)); exact HO_1.out) (Kd.R_base ho0) hb); replace HO_6 := Cz.rb HO_6 hb; replace HB := Cz.bs (w := w) hb; (try clear hb); (try clear ho0)))
      go_ret2
      exact ⟨_, Cz.er, by first | exact Kd.R_nil _ _ _ _ _ | exact Kd.N_nil _ _ _ _ _ | exact Kd.V_nil _ _ _ _ _ | exact Kd.Q_nil _ _ _ _ _ | exact Kd.S_nil _ _ _ _ _, Cz.bl (w := w)⟩
    ·rw [if_neg c4] at H
     exact absurd H (by simp)
   ·rw [if_neg c3] at H
    have c3b0 : decide (x7_1 < (a0.size : Int)) = false := decide_eq_false c3
    clear c3
    by_cases c15 : (x1_1.length : Int) > 0
    ·rw [if_pos c15] at H
     have c15b0 : decide (0 < (x1_1.length : Int)) = true := decide_eq_true c15
     have c15b1 : decide (0 < x1_1.length) = true := decide_eq_true (by omega)
     clear c15
     simp only [Option.some.injEq, Prod.mk.injEq] at H
     obtain ⟨rfl, rfl⟩ := H
     obtain ⟨Ao16, co16, eo16⟩ := Kd.V_slice HO_1.out
     subst eo16
     go_wp2
     go_ret2
     exact ⟨_, Cz.er, by first | exact Kd.R_nil _ _ _ _ _ | exact Kd.N_nil _ _ _ _ _ | exact Kd.V_nil _ _ _ _ _ | exact Kd.Q_nil _ _ _ _ _ | exact Kd.S_nil _ _ _ _ _, Cz.bl (w := w)⟩
    ·rw [if_neg c15] at H
     have c15b0 : decide (0 < (x1_1.length : Int)) = false := decide_eq_false c15
     have c15b1 : decide (0 < x1_1.length) = false := decide_eq_false (by omega)
     clear c15
     simp only [Option.some.injEq, Prod.mk.injEq] at H
     obtain ⟨rfl, rfl⟩ := H
     obtain ⟨Ao17, co17, eo17⟩ := Kd.V_slice HO_1.out
     subst eo17
     go_wp2
     go_ret2
     exact ⟨_, Cz.er, Cz.rh, Cz.bl (w := w)⟩
theorem waggonerref01_Unpack.size (c : Int) : waggonerref01_size.f c = some (Pl.letS c) := by
 unfold waggonerref01_size.f Pl.letS
 repeat' split
 all_goals rfl
theorem waggonerref01_Unpack.atBt (s : ByteArray) (i : Nat) (h : i < s.size) : bt s (i : Int) = (Pl.fb s)[i]'(by rw [Pl.fb_length]; exact h) := by
 unfold bt
 rw [dif_pos (by rw [Int.toNat_natCast]; exact h)]
 simp only [Pl.fb, List.getElem_map, Int.toNat_natCast]
 rfl
def waggonerref01_Unpack.f (a0 : ByteArray) (l1 : List Int) : Option (List Int × Int) := if Pl.byteB l1 = true ∧ l1.length < 70368744177664 ∧ a0.size < 2147483648 then some (Pl.unpackS (Pl.fb a0) l1) else none
theorem waggonerref01_Unpack.drop {b : List Int} (h : Pl.byteB b = true) (n : Nat) : Pl.byteB (b.drop n) = true := by
 rw [Pl.byteB_iff] at h ⊢
 exact fun x hx => h x (List.mem_of_mem_drop hx)
theorem waggonerref01_Unpack.loop (s : ByteArray) (hs : s.size < 2147483648) : ∀ (d k i : Nat) (b out : List Int), Pl.byteB b = true → b.length < 70368744177664 → i + d = s.size → d < k → out.length ≤ i →
  waggonerref01_Unpack_p.l0 k s b out (i : Int) = some (Pl.unpackGo out ((Pl.fb s).drop i) b)
 | 0, k, i, b, out, hb, hbl, hi, hk, ho => by
  obtain ⟨k, rfl⟩ : ∃ m, k = m + 1 := ⟨k - 1, by omega⟩
  simp only [waggonerref01_Unpack_p.l0]
  rw [if_neg (by omega), List.drop_eq_nil_of_le (by rw [Pl.fb_length]; omega), Pl.unpackGo]
  cases b with
  | nil => rfl
  | cons x b => rw [if_pos (by rw [List.length_cons]; omega), if_neg (by simp)]
 | d + 1, k, i, b, out, hb, hbl, hi, hk, ho => by
  obtain ⟨k, rfl⟩ : ∃ m, k = m + 1 := ⟨k - 1, by omega⟩
  have hif : i < (Pl.fb s).length := by rw [Pl.fb_length]; omega
  simp only [waggonerref01_Unpack_p.l0]
  rw [if_pos (by omega), if_pos (by omega), waggonerref01_Unpack.atBt s i (by omega), waggonerref01_Unpack.size, Option.bind_some]
  rw [List.drop_eq_getElem_cons hif, Pl.unpackGo]
  unfold waggonerref01_Take.f
  rw [if_pos ⟨hb, hbl⟩, Option.bind_some]
  unfold Pl.takeS
  by_cases hf : Pl.okS (Pl.letS ((Pl.fb s)[i]'hif)) = true ∧ Pl.letS ((Pl.fb s)[i]'hif) ≤ b.length
  ·rw [if_pos hf, if_pos hf]
   rw [if_pos rfl, if_pos (by omega), show wrap64 ((i : Int) + 1) = ((i + 1 : Nat) : Int) from by unfold wrap64; omega]
   exact waggonerref01_Unpack.loop s hs d k (i + 1) _ _ (waggonerref01_Unpack.drop hb _) (by rw [List.length_drop]; omega) (by omega) (by omega) (by rw [List.length_append, List.length_singleton]; omega)
  ·rw [if_neg hf, if_neg hf]
   rfl
theorem waggonerref01_Unpack.tells {a0 : ByteArray} {l1 : List Int} {r : List Int × Int} (h : waggonerref01_Unpack.f a0 l1 = some r) : waggonerref01_Unpack_p.f (a0.size + 1) a0 l1 = some r := by
 unfold waggonerref01_Unpack.f at h
 split at h
 case isFalse => cases h
 rename_i hh
 obtain ⟨h0, h1, h2⟩ := hh
 obtain rfl := Option.some.inj h
 unfold waggonerref01_Unpack_p.f Pl.unpackS
 exact waggonerref01_Unpack.loop a0 h2 a0.size (a0.size + 1) 0 l1 [] h0 h1 (by omega) (by omega) (by simp)
theorem waggonerref01_Unpack.calls (a0 : ByteArray) (P1_ : Nat → Prop) (A1 : Option Addr) (c1 : Nat) (l1 : List Int) (r1 : List Int) (r2 : Int) (w : World) (hs1 : Kd.V (Kd.int .u8) 5 w w.heap.size (fun k_ => P1_ k_) (.slice A1 l1.length c1) l1) (h : waggonerref01_Unpack.f a0 l1 = some (r1, r2)) :
  Calls Try.prog 27 #[.string a0, .slice A1 l1.length c1] w fun e w' => ∃ v0_ : Value, e = .returned (.tuple #[v0_, .int .i64 r2]) ∧ Kd.R (Kd.int .u64) 44 w' w.heap.size (fun k_ => (w.heap.size ≤ k_)) v0_ r1 ∧ Below w.heap.size w w' :=
 waggonerref01_Unpack_p.calls (a0.size + 1) a0 P1_ A1 c1 l1 r1 r2 w hs1 (waggonerref01_Unpack.tells h)
end Go.Proofs.Ytmgohkffphogdaa.PU
