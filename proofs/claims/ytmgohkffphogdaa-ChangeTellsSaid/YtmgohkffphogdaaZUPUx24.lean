/- Words and walks that this claim names, of those that the kit's print and programs of this workplace have printed. -/
import Derived.Test.YtmgohkffphogdaaZUCz
import Derived.Test.YtmgohkffphogdaaZUPUx15
import Derived.Test.YtmgohkffphogdaaZUPUx23
namespace Go.Proofs.Ytmgohkffphogdaa.PU
open Go.Proofs.Ytmgohkffphogdaa Go.RowKit Go.Proofs.YtmgohkffphogdaaW.PrintWords Go.Proofs.YtmgohkffphogdaaW.PrintLast Go.Proofs.YtmgohkffphogdaaW.PrintMore
attribute [local go_sem] max2_int min2_int max_two min_two max_three min_three max_four min_four
set_option linter.unusedVariables false
set_option linter.unusedSimpArgs false
set_option maxHeartbeats 4000000 in
set_option maxRecDepth 2000000 in
theorem change_Check.c1 (a n i : Int) (A4 : Option Addr) (c4 : Nat) (d : List Int) (A5 : Option Addr) (c5 : Nat) (l : List S39) (w : World) (hr4 : Kd.C (Kd.int .u8) w A4 d.length d) (hc4 : d.length ≤ c4) (hr5 : Kd.C k39 w A5 l.length l) (hc5 : l.length ≤ c5) (hn0 : -9223372036854775808 ≤ n) (hn1 : n < 9223372036854775808) (hll : l.length < 1073741824) (hdl : d.length < 1073741824) : Calls Try.prog 16 #[.agg #[.int .i64 1, .int .i64 a, .int .i64 n, .int .i64 i, .slice A4 d.length c4, .slice A5 l.length c5]] w fun e w' => e = .returned (.bool (Pl.chOk 1 a n i d (l.map toE))) ∧ Below w.heap.size w w' := by
 have hu26 := Try.underlying26
 have HR4 := Aside0.mk hr4
 have HC4 := Aside0.mk hc4
 have HR5 := Aside0.mk hr5
 have HC5 := Aside0.mk hc5
 have HB := Aside0.mk (Below.refl w.heap.size w)
 clear hr4 hc4 hr5 hc5
 have b1 : change_within.f 1 1 8 = some true := by rfl
 have B1 := Aside0.mk b1
 clear b1
 have hix1 : ∀ w : World, (Instr.index 58 (.agg #[.bool false, .bool false, .bool false, .nilFunc, .bool true, .bool false, .bool false, .func (.func 47) #[] #[], .bool true, .bool false, .bool false, .func (.func 45) #[] #[], .bool true, .bool false, .bool false, .func (.func 45) #[] #[], .bool false, .bool true, .bool false, .func (.func 45) #[] #[], .bool false, .bool true, .bool false, .func (.func 45) #[] #[], .bool false, .bool false, .bool false, .func (.func 46) #[] #[], .bool false, .bool false, .bool false, .func (.func 45) #[] #[], .bool false, .bool true, .bool true, .func (.func 45) #[] #[]]) (.int .i64 1)).run Try.prog w = .ok (.agg #[.bool true, .bool false, .bool false, .func (.func 47) #[] #[]]) w := fun _ => by kernel_rfl
 have N0 := Aside0.mk hn0
 have N1 := Aside0.mk hn1
 have LL := Aside0.mk hll
 have DL := Aside0.mk hdl
 clear hn0 hn1 hll hdl
 go_enter Try.func16, Try.ntmps16
 go_upto_region 4 with (first | ((with_reducible refine gate_dst (N := 1) rfl ?_); refine Cz.bx (N := 1) #[.int .i64 1, .int .i64 a, .int .i64 n, .int .i64 i, .slice A4 d.length c4, .slice A5 l.length c5] 26 ?_; intro gc hg w1 hbox hb; have BKc := Aside0.mk hbox; have GC := Aside0.mk (show w.heap.size ≤ gc by rw [hg]; exact Nat.le_refl _); replace HB := Cz.bs (w := w) hb; clear hb hbox hg; obtain ⟨j0, j1, j2, j3, j4, j5⟩ := Cz.c6 BKc) | (go_at_call 30; refine (change_within.calls _ _ _ true _ B1.out).mono ?_; rintro e w2 ⟨rfl, hd⟩; have hb := hd.below; clear hd; replace BKc := Cz.bk BKc hb; replace HB := Cz.bs (w := w) hb; clear hb; clear j0 j1 j2 j3 j4 j5))
 go_cut [3] (fun v3 wc => ∃ gk : Nat, v3 = .pointer (some ⟨gk, 0, none⟩) ∧ Aside0 (wc.heap[gk]? = some (.cells #[.bool true, .bool false, .bool false, .func (.func 47) #[] #[]] 57 (0, 0))) ∧ Aside0 (gk ≠ gc) ∧ Aside0 (w.heap.size ≤ gk) ∧ Aside0 (wc.heap[gc]? = some (.cells #[.int .i64 1, .int .i64 a, .int .i64 n, .int .i64 i, .slice A4 d.length c4, .slice A5 l.length c5] 26 (0, 0))) ∧ Aside0 (Below w.heap.size w wc))
 case first =>
  replace BKc := Aside0.mk (blk_drew BKc.out)
  replace HB := Aside0.mk (below_drew HB.out)
  refine start_ (n := 6) (S := fun w' => w'.cell? ⟨gc, 0, none⟩ = some (.int .i64 1)) (ds := []) #[false, false, false, false, false, false] (by kernel_rfl) rfl rfl (((blk_cell BKc.out 0).trans rfl)) (fun hHeld => ?_)
  generalize w2.drew = wd at HB BKc hHeld ⊢
  refine Cz.rP 1 11 ?_
  refine take_ (i := 2) (N := some 12) (v := ?_) (a' := ?_) #[false, true, true, false, false, false] rfl rfl (by kernel_rfl) (fun _ _ _ h => h) (Or.inl ⟨by rfl, ?_⟩) hHeld ?_ ?_
  rotate_left
  ·intro w' s0
   go_simp
   with_reducible rfl
  rotate_left
  ·simp only [Act.put, Kx.sb, Kx.sz, Kx.ss, i64_w, i32_w]
   rfl
  refine two_ (i := 0) (j := 4) (Ni := some 10) (Nj := some 3) #[true, true, true, false, false, false] #[false, true, true, false, true, false] rfl rfl rfl rfl (by kernel_rfl) (by decide) (by decide) (fun K hK => ?_) (fun K hK => ?_)
  ·skip
   refine goes_ Try.func31 (by kernel_rfl) rfl #[] (by rfl) rfl rfl (by simp) ?_
   refine (change_kinds.calls _).mono ?_
   rintro e wk0 ⟨rfl, hb⟩
   refine ⟨_, rfl, ?_⟩
   replace BKc := Cz.bk BKc hb
   replace HB := Cz.bs (w := w) hb
   clear hb
   refine hK.out _ _ (((blk_cell BKc.out 0).trans rfl)) (fun hHeld => ?_)
   clear hK K
   refine norm_ (a' := ?_) ?_ ?_
   rotate_left
   ·show Act.put _ (some 10) _ = _
    simp only [Act.put, Kx.sb, Kx.sz, Kx.ss, i64_w, i32_w]
    rfl
   refine take_ (i := 3) (N := some 13) (v := ?_) (a' := ?_) #[true, true, true, true, false, false] rfl rfl (by kernel_rfl) (fun _ _ _ h => h) (Or.inl ⟨by rfl, ?_⟩) hHeld ?_ ?_
   rotate_left
   ·intro w' s0
    go_simp
    with_reducible rfl
   rotate_left
   ·simp only [Act.put, Kx.sb, Kx.sz, Kx.ss, i64_w, i32_w]
    rfl
   refine Cz.rO (N := some 3) 4 (fun K hK => ?_)
   refine value_ (w1 := ?_) (v := ?_) (by rfl) rfl ?_ ?_
   rotate_left 2
   ·go_simp
    constructor
    ·rfl
    ·rfl
   have BKk := Aside0.mk (blk_new wk0 (.cells #[.bool false, .bool false, .bool false, .nilFunc] 57))
   have GK := Aside0.mk (show w.heap.size ≤ wk0.heap.size from below_size HB.out)
   have NE := Aside0.mk (Nat.ne_of_gt (blk_lt BKc.out))
   replace BKc := Aside0.mk (blk_alloc BKc.out (.cells #[.bool false, .bool false, .bool false, .nilFunc] 57))
   replace HB := Aside0.mk (below_alloc HB.out (.cells #[.bool false, .bool false, .bool false, .nilFunc] 57))
   generalize wk0.alloc (.cells #[.bool false, .bool false, .bool false, .nilFunc] 57) = wa1 at BKk HB BKc ⊢
   generalize wk0.heap.size = gk at BKk GK NE ⊢
   refine hK.out _ _ (((blk_cell BKc.out 0).trans rfl)) (fun hHeld => ?_)
   clear hK K
   refine norm_ (a' := ?_) ?_ ?_
   rotate_left
   ·show Act.put _ (some 3) _ = _
    simp only [Act.put, Kx.sb, Kx.sz, Kx.ss, i64_w, i32_w]
    rfl
   refine Cz.rO (N := none) 5 (fun K hK => ?_)
   obtain ⟨zk0, zk1, zk2, zk3, zf0, zf1, zf2, zf3⟩ := Cz.d4 BKk
   refine skip_ (w1 := ?_) (by rfl) rfl ?_ ?_
   rotate_left
   ·go_simp
    rfl
   refine hK.out _ _ (((blk_cell (blk_far (blk_far (blk_far (blk_far BKc.out (p := ⟨gk, 0, none⟩) NE.out.symm _) (p := ⟨gk, 1, none⟩) NE.out.symm _) (p := ⟨gk, 2, none⟩) NE.out.symm _) (p := ⟨gk, 3, none⟩) NE.out.symm _) 0).trans rfl)) (fun hHeld => ?_)
   clear hK K
   have n_BKk : Aside0 (((((wa1.setCell ⟨gk, 0, none⟩ (.bool true)).setCell ⟨gk, 1, none⟩ (.bool false)).setCell ⟨gk, 2, none⟩ (.bool false)).setCell ⟨gk, 3, none⟩ (.func (.func 47) #[] #[])).heap[gk]? = some (.cells #[.bool true, .bool false, .bool false, .func (.func 47) #[] #[]] 57 (0, 0))) := ⟨(blk_put (cs := #[.bool true, .bool false, .bool false, .nilFunc]) (blk_put (cs := #[.bool true, .bool false, .bool false, .nilFunc]) (blk_put (cs := #[.bool true, .bool false, .bool false, .nilFunc]) (blk_put (cs := #[.bool false, .bool false, .bool false, .nilFunc]) BKk.out 0 (.bool true) rfl) 1 (.bool false) rfl) 2 (.bool false) rfl) 3 (.func (.func 47) #[] #[]) rfl)⟩
   have n_BKc := Aside0.mk (show ((((wa1.setCell ⟨gk, 0, none⟩ (.bool true)).setCell ⟨gk, 1, none⟩ (.bool false)).setCell ⟨gk, 2, none⟩ (.bool false)).setCell ⟨gk, 3, none⟩ (.func (.func 47) #[] #[])).heap[gc]? = _ from (blk_far (blk_far (blk_far (blk_far BKc.out (p := ⟨gk, 0, none⟩) NE.out.symm _) (p := ⟨gk, 1, none⟩) NE.out.symm _) (p := ⟨gk, 2, none⟩) NE.out.symm _) (p := ⟨gk, 3, none⟩) NE.out.symm _))
   have n_HB := Aside0.mk (show Below w.heap.size w ((((wa1.setCell ⟨gk, 0, none⟩ (.bool true)).setCell ⟨gk, 1, none⟩ (.bool false)).setCell ⟨gk, 2, none⟩ (.bool false)).setCell ⟨gk, 3, none⟩ (.func (.func 47) #[] #[])) from (below_set (below_set (below_set (below_set HB.out GK.out) GK.out) GK.out) GK.out))
   clear BKk BKc HB zk0 zk1 zk2 zk3 zf0 zf1 zf2 zf3
   have BKk := n_BKk
   have BKc := n_BKc
   have HB := n_HB
   clear n_BKk n_BKc n_HB
   generalize ((((wa1.setCell ⟨gk, 0, none⟩ (.bool true)).setCell ⟨gk, 1, none⟩ (.bool false)).setCell ⟨gk, 2, none⟩ (.bool false)).setCell ⟨gk, 3, none⟩ (.func (.func 47) #[] #[])) = ws2 at BKk BKc HB hHeld ⊢
   refine done_ (by kernel_rfl) ?_
   clear hHeld
   simp only [Exit.then]
   go_step
   go_meet
   case rel => exact ⟨gk, rfl, BKk, NE, GK, BKc, HB⟩
  ·skip
   refine value_ (w1 := ?_) (v := ?_) (by rfl) rfl ?_ ?_
   rotate_left 2
   ·go_simp
    constructor
    ·rfl
    ·rfl
   have BKk := Aside0.mk (blk_new wd (.cells #[.bool false, .bool false, .bool false, .nilFunc] 57))
   have GK := Aside0.mk (show w.heap.size ≤ wd.heap.size from below_size HB.out)
   have NE := Aside0.mk (Nat.ne_of_gt (blk_lt BKc.out))
   replace BKc := Aside0.mk (blk_alloc BKc.out (.cells #[.bool false, .bool false, .bool false, .nilFunc] 57))
   replace HB := Aside0.mk (below_alloc HB.out (.cells #[.bool false, .bool false, .bool false, .nilFunc] 57))
   generalize wd.alloc (.cells #[.bool false, .bool false, .bool false, .nilFunc] 57) = wa0 at BKk HB BKc ⊢
   generalize wd.heap.size = gk at BKk GK NE ⊢
   refine hK.out _ _ (((blk_cell BKc.out 0).trans rfl)) (fun hHeld => ?_)
   clear hK K
   refine norm_ (a' := ?_) ?_ ?_
   rotate_left
   ·show Act.put _ (some 3) _ = _
    simp only [Act.put, Kx.sb, Kx.sz, Kx.ss, i64_w, i32_w]
    rfl
   refine Cz.rO (N := some 10) 0 (fun K hK => ?_)
   refine goes_ Try.func31 (by kernel_rfl) rfl #[] (by rfl) rfl rfl (by simp) ?_
   refine (change_kinds.calls _).mono ?_
   rintro e wk1 ⟨rfl, hb⟩
   refine ⟨_, rfl, ?_⟩
   replace BKc := Cz.bk BKc hb
   replace BKk := Cz.bk BKk hb
   replace HB := Cz.bs (w := w) hb
   clear hb
   refine hK.out _ _ (((blk_cell BKc.out 0).trans rfl)) (fun hHeld => ?_)
   clear hK K
   refine norm_ (a' := ?_) ?_ ?_
   rotate_left
   ·show Act.put _ (some 10) _ = _
    simp only [Act.put, Kx.sb, Kx.sz, Kx.ss, i64_w, i32_w]
    rfl
   refine take_ (i := 3) (N := some 13) (v := ?_) (a' := ?_) #[true, true, true, true, true, false] rfl rfl (by kernel_rfl) (fun _ _ _ h => h) (Or.inl ⟨by rfl, ?_⟩) hHeld ?_ ?_
   rotate_left
   ·intro w' s0
    go_simp
    with_reducible rfl
   rotate_left
   ·simp only [Act.put, Kx.sb, Kx.sz, Kx.ss, i64_w, i32_w]
    rfl
   refine Cz.rO (N := none) 5 (fun K hK => ?_)
   obtain ⟨zk0, zk1, zk2, zk3, zf0, zf1, zf2, zf3⟩ := Cz.d4 BKk
   refine skip_ (w1 := ?_) (by rfl) rfl ?_ ?_
   rotate_left
   ·go_simp
    rfl
   refine hK.out _ _ (((blk_cell (blk_far (blk_far (blk_far (blk_far BKc.out (p := ⟨gk, 0, none⟩) NE.out.symm _) (p := ⟨gk, 1, none⟩) NE.out.symm _) (p := ⟨gk, 2, none⟩) NE.out.symm _) (p := ⟨gk, 3, none⟩) NE.out.symm _) 0).trans rfl)) (fun hHeld => ?_)
   clear hK K
   have n_BKk : Aside0 (((((wk1.setCell ⟨gk, 0, none⟩ (.bool true)).setCell ⟨gk, 1, none⟩ (.bool false)).setCell ⟨gk, 2, none⟩ (.bool false)).setCell ⟨gk, 3, none⟩ (.func (.func 47) #[] #[])).heap[gk]? = some (.cells #[.bool true, .bool false, .bool false, .func (.func 47) #[] #[]] 57 (0, 0))) := ⟨(blk_put (cs := #[.bool true, .bool false, .bool false, .nilFunc]) (blk_put (cs := #[.bool true, .bool false, .bool false, .nilFunc]) (blk_put (cs := #[.bool true, .bool false, .bool false, .nilFunc]) (blk_put (cs := #[.bool false, .bool false, .bool false, .nilFunc]) BKk.out 0 (.bool true) rfl) 1 (.bool false) rfl) 2 (.bool false) rfl) 3 (.func (.func 47) #[] #[]) rfl)⟩
   have n_BKc := Aside0.mk (show ((((wk1.setCell ⟨gk, 0, none⟩ (.bool true)).setCell ⟨gk, 1, none⟩ (.bool false)).setCell ⟨gk, 2, none⟩ (.bool false)).setCell ⟨gk, 3, none⟩ (.func (.func 47) #[] #[])).heap[gc]? = _ from (blk_far (blk_far (blk_far (blk_far BKc.out (p := ⟨gk, 0, none⟩) NE.out.symm _) (p := ⟨gk, 1, none⟩) NE.out.symm _) (p := ⟨gk, 2, none⟩) NE.out.symm _) (p := ⟨gk, 3, none⟩) NE.out.symm _))
   have n_HB := Aside0.mk (show Below w.heap.size w ((((wk1.setCell ⟨gk, 0, none⟩ (.bool true)).setCell ⟨gk, 1, none⟩ (.bool false)).setCell ⟨gk, 2, none⟩ (.bool false)).setCell ⟨gk, 3, none⟩ (.func (.func 47) #[] #[])) from (below_set (below_set (below_set (below_set HB.out GK.out) GK.out) GK.out) GK.out))
   clear BKk BKc HB zk0 zk1 zk2 zk3 zf0 zf1 zf2 zf3
   have BKk := n_BKk
   have BKc := n_BKc
   have HB := n_HB
   clear n_BKk n_BKc n_HB
   generalize ((((wk1.setCell ⟨gk, 0, none⟩ (.bool true)).setCell ⟨gk, 1, none⟩ (.bool false)).setCell ⟨gk, 2, none⟩ (.bool false)).setCell ⟨gk, 3, none⟩ (.func (.func 47) #[] #[])) = ws2 at BKk BKc HB hHeld ⊢
   refine done_ (by kernel_rfl) ?_
   clear hHeld
   simp only [Exit.then]
   go_step
   go_meet
   case rel => exact ⟨gk, rfl, BKk, NE, GK, BKc, HB⟩
 case rest =>
  clear BKc HB
  obtain ⟨gk, rfl, BKk, NE, GK, BKc, HB⟩ := hcut
  obtain ⟨o0, o1, o2, o3, o4, o5⟩ := Cz.c6 BKc
  obtain ⟨m0, m1, m2, m3⟩ := Cz.c4 BKk
  by_cases ha : a = 0
  ·have ta : (a == 0) = true := beq_iff_eq.mpr ha
   have HA := Aside0.mk ha
   clear ha
   by_cases hn : n = 0
   ·have tn : (n == 0) = true := beq_iff_eq.mpr hn
    have HN := Aside0.mk hn
    clear hn
    by_cases h1 : 0 ≤ a ∧ a ≤ 64
    ·have H1 := Aside0.mk h1
     clear h1
     have F1 : Aside0 (change_within.f a 0 (64) = some true) := ⟨by have q0 := H1.out; unfold change_within.f; rw [if_pos (by omega), decide_eq_true (by omega)]⟩
     by_cases h2 : 1 ≤ n ∧ n ≤ 64 - a
     ·have H2 := Aside0.mk h2
      clear h2
      have F2 : Aside0 (change_within.f n 1 (64 - a) = some true) := ⟨by have q0 := H2.out; unfold change_within.f; rw [if_pos (by omega), decide_eq_true (by omega)]⟩
      have F3 : Aside0 (change_within.f n 1 (wrap64 (64 - a)) = some true) := ⟨by rw [show wrap64 (64 - a) = 64 - a by (have := H1.out; unfold wrap64; omega)]; exact F2.out⟩
      have F4 : Aside0 (change_within.f n 1 (IntKind.i64.wrap (64 - a)) = some true) := ⟨by rw [i64_w]; exact F3.out⟩
      have BB : Aside0 (Pl.blocksB a n = true) := ⟨by unfold Pl.blocksB; have := H1.out; have := H2.out; simp; omega⟩
      by_cases h3 : i = 0
      ·have ti : (i == 0) = true := beq_iff_eq.mpr h3
       have H3 := Aside0.mk h3
       clear h3
       by_cases h4 : (d.length : Int) = n * 32
       ·have HD : Aside0 (change_kinds_3.f 1 a n i d l = some true) := ⟨by unfold change_kinds_3.f; rw [h4, show wrap64 (n * 32) = n * 32 by (have := H1.out; have := H2.out; unfold wrap64; omega)]; simp⟩
        have H4 := Aside0.mk h4
        clear h4
        by_cases h5 : l.length = 0
        ·have t51 : (l.length == 0) = true := by rw [h5]; rfl
         have t52 : ((l.length : Int) == 0) = true := by rw [h5]; rfl
         have H5 := Aside0.mk h5
         clear h5
         have E := Aside0.mk (show Pl.chOk 1 a n i d (l.map toE) = true by rw [Pl.chOk_1]; simp [BB.out, H3.out, H4.out, H5.out])
         go_wp2_with (first | (go_at_call 30; (with_reducible show Calls _ _ #[.int .i64 a, .int .i64 0, _] _ _); refine (change_within.calls _ _ _ true _ ?hW).mono ?_; (case hW => first | exact F1.out); rintro e wa1 ⟨rfl, hd⟩; have hb := hd.below; clear hd; clear o0 o1 o2 o3 o4 o5 m0 m1 m2 m3; replace BKc := Cz.bk BKc hb; replace BKk := Cz.bk BKk hb; replace HB := Cz.bs (w := w) hb; clear hb; obtain ⟨o0, o1, o2, o3, o4, o5⟩ := Cz.c6 BKc; obtain ⟨m0, m1, m2, m3⟩ := Cz.c4 BKk) | (go_at_call 30; (with_reducible show Calls _ _ #[.int .i64 n, .int .i64 1, _] _ _); refine (change_within.calls _ _ _ true _ ?hW).mono ?_; (case hW => first | exact F2.out | exact F3.out | exact F4.out); rintro e wb1 ⟨rfl, hd⟩; have hb := hd.below; clear hd; clear o0 o1 o2 o3 o4 o5 m0 m1 m2 m3; replace BKc := Cz.bk BKc hb; replace BKk := Cz.bk BKk hb; replace HB := Cz.bs (w := w) hb; clear hb; obtain ⟨o0, o1, o2, o3, o4, o5⟩ := Cz.c6 BKc; obtain ⟨m0, m1, m2, m3⟩ := Cz.c4 BKk) | (go_at_call 47; refine (change_kinds_3.calls 1 a n i _ _ d _ _ l true _ (Kd.C_below HR4.out HB.out) HC4.out (Kd.C_below HR5.out HB.out) HC5.out HD.out).mono ?_; rintro e wd1 ⟨rfl, hb⟩; clear o0 o1 o2 o3 o4 o5 m0 m1 m2 m3; replace BKc := Cz.bk BKc hb; replace BKk := Cz.bk BKk hb; replace HB := Cz.bs (w := w) hb; clear hb; obtain ⟨o0, o1, o2, o3, o4, o5⟩ := Cz.c6 BKc; obtain ⟨m0, m1, m2, m3⟩ := Cz.c4 BKk))
         go_ret
         exact ⟨by rw [E.out]; rfl, HB.out⟩
        ·have t51 : (l.length == 0) = false := beq_eq_false_iff_ne.mpr h5
         have t52 : ((l.length : Int) == 0) = false := beq_eq_false_iff_ne.mpr (by omega)
         have t53 : (l.length = 0) = False := eq_false h5
         have H5 := Aside0.mk h5
         clear h5
         have HF : Aside0 (change_follows.f l = some (Pl.folS (l.map toE))) := ⟨change_follows.tells LL.out⟩
         have E := Aside0.mk (show Pl.chOk 1 a n i d (l.map toE) = false by rw [Pl.chOk_1]; simp [BB.out, H3.out, H4.out, H5.out])
         go_wp2_with (first | (go_at_call 30; (with_reducible show Calls _ _ #[.int .i64 a, .int .i64 0, _] _ _); refine (change_within.calls _ _ _ true _ ?hW).mono ?_; (case hW => first | exact F1.out); rintro e wa1 ⟨rfl, hd⟩; have hb := hd.below; clear hd; clear o0 o1 o2 o3 o4 o5 m0 m1 m2 m3; replace BKc := Cz.bk BKc hb; replace BKk := Cz.bk BKk hb; replace HB := Cz.bs (w := w) hb; clear hb; obtain ⟨o0, o1, o2, o3, o4, o5⟩ := Cz.c6 BKc; obtain ⟨m0, m1, m2, m3⟩ := Cz.c4 BKk) | (go_at_call 30; (with_reducible show Calls _ _ #[.int .i64 n, .int .i64 1, _] _ _); refine (change_within.calls _ _ _ true _ ?hW).mono ?_; (case hW => first | exact F2.out | exact F3.out | exact F4.out); rintro e wb1 ⟨rfl, hd⟩; have hb := hd.below; clear hd; clear o0 o1 o2 o3 o4 o5 m0 m1 m2 m3; replace BKc := Cz.bk BKc hb; replace BKk := Cz.bk BKk hb; replace HB := Cz.bs (w := w) hb; clear hb; obtain ⟨o0, o1, o2, o3, o4, o5⟩ := Cz.c6 BKc; obtain ⟨m0, m1, m2, m3⟩ := Cz.c4 BKk) | (go_at_call 47; refine (change_kinds_3.calls 1 a n i _ _ d _ _ l true _ (Kd.C_below HR4.out HB.out) HC4.out (Kd.C_below HR5.out HB.out) HC5.out HD.out).mono ?_; rintro e wd1 ⟨rfl, hb⟩; clear o0 o1 o2 o3 o4 o5 m0 m1 m2 m3; replace BKc := Cz.bk BKc hb; replace BKk := Cz.bk BKk hb; replace HB := Cz.bs (w := w) hb; clear hb; obtain ⟨o0, o1, o2, o3, o4, o5⟩ := Cz.c6 BKc; obtain ⟨m0, m1, m2, m3⟩ := Cz.c4 BKk))
         go_ret
         exact ⟨by rw [E.out]; rfl, HB.out⟩
       ·have HD : Aside0 (change_kinds_3.f 1 a n i d l = some false) := ⟨by unfold change_kinds_3.f; rw [show wrap64 (n * 32) = n * 32 by (have := H1.out; have := H2.out; unfold wrap64; omega), show ((d.length : Int) == n * 32) = false from beq_eq_false_iff_ne.mpr h4]⟩
        have H4 := Aside0.mk h4
        clear h4
        have E := Aside0.mk (show Pl.chOk 1 a n i d (l.map toE) = false by rw [Pl.chOk_1]; simp [BB.out, H3.out, H4.out])
        go_wp2_with (first | (go_at_call 30; (with_reducible show Calls _ _ #[.int .i64 a, .int .i64 0, _] _ _); refine (change_within.calls _ _ _ true _ ?hW).mono ?_; (case hW => first | exact F1.out); rintro e wa1 ⟨rfl, hd⟩; have hb := hd.below; clear hd; clear o0 o1 o2 o3 o4 o5 m0 m1 m2 m3; replace BKc := Cz.bk BKc hb; replace BKk := Cz.bk BKk hb; replace HB := Cz.bs (w := w) hb; clear hb; obtain ⟨o0, o1, o2, o3, o4, o5⟩ := Cz.c6 BKc; obtain ⟨m0, m1, m2, m3⟩ := Cz.c4 BKk) | (go_at_call 30; (with_reducible show Calls _ _ #[.int .i64 n, .int .i64 1, _] _ _); refine (change_within.calls _ _ _ true _ ?hW).mono ?_; (case hW => first | exact F2.out | exact F3.out | exact F4.out); rintro e wb1 ⟨rfl, hd⟩; have hb := hd.below; clear hd; clear o0 o1 o2 o3 o4 o5 m0 m1 m2 m3; replace BKc := Cz.bk BKc hb; replace BKk := Cz.bk BKk hb; replace HB := Cz.bs (w := w) hb; clear hb; obtain ⟨o0, o1, o2, o3, o4, o5⟩ := Cz.c6 BKc; obtain ⟨m0, m1, m2, m3⟩ := Cz.c4 BKk) | (go_at_call 47; refine (change_kinds_3.calls 1 a n i _ _ d _ _ l false _ (Kd.C_below HR4.out HB.out) HC4.out (Kd.C_below HR5.out HB.out) HC5.out HD.out).mono ?_; rintro e wd1 ⟨rfl, hb⟩; clear o0 o1 o2 o3 o4 o5 m0 m1 m2 m3; replace BKc := Cz.bk BKc hb; replace BKk := Cz.bk BKk hb; replace HB := Cz.bs (w := w) hb; clear hb; obtain ⟨o0, o1, o2, o3, o4, o5⟩ := Cz.c6 BKc; obtain ⟨m0, m1, m2, m3⟩ := Cz.c4 BKk))
        go_ret
        exact ⟨by rw [E.out]; rfl, HB.out⟩
      ·have ti : (i == 0) = false := beq_eq_false_iff_ne.mpr h3
       have H3 := Aside0.mk h3
       clear h3
       have E := Aside0.mk (show Pl.chOk 1 a n i d (l.map toE) = false by rw [Pl.chOk_1]; simp [BB.out, H3.out])
       go_wp2_with (first | (go_at_call 30; (with_reducible show Calls _ _ #[.int .i64 a, .int .i64 0, _] _ _); refine (change_within.calls _ _ _ true _ ?hW).mono ?_; (case hW => first | exact F1.out); rintro e wa1 ⟨rfl, hd⟩; have hb := hd.below; clear hd; clear o0 o1 o2 o3 o4 o5 m0 m1 m2 m3; replace BKc := Cz.bk BKc hb; replace BKk := Cz.bk BKk hb; replace HB := Cz.bs (w := w) hb; clear hb; obtain ⟨o0, o1, o2, o3, o4, o5⟩ := Cz.c6 BKc; obtain ⟨m0, m1, m2, m3⟩ := Cz.c4 BKk) | (go_at_call 30; (with_reducible show Calls _ _ #[.int .i64 n, .int .i64 1, _] _ _); refine (change_within.calls _ _ _ true _ ?hW).mono ?_; (case hW => first | exact F2.out | exact F3.out | exact F4.out); rintro e wb1 ⟨rfl, hd⟩; have hb := hd.below; clear hd; clear o0 o1 o2 o3 o4 o5 m0 m1 m2 m3; replace BKc := Cz.bk BKc hb; replace BKk := Cz.bk BKk hb; replace HB := Cz.bs (w := w) hb; clear hb; obtain ⟨o0, o1, o2, o3, o4, o5⟩ := Cz.c6 BKc; obtain ⟨m0, m1, m2, m3⟩ := Cz.c4 BKk))
       go_ret
       exact ⟨by rw [E.out]; rfl, HB.out⟩
     ·have H2 := Aside0.mk h2
      clear h2
      have F2 : Aside0 (change_within.f n 1 (64 - a) = some false) := ⟨by have q0 := H2.out; unfold change_within.f; by_cases q : n ≥ 1 <;> first | (rw [if_pos q, decide_eq_false (by omega)]; done) | (rw [if_neg q]; done)⟩
      have F3 : Aside0 (change_within.f n 1 (wrap64 (64 - a)) = some false) := ⟨by rw [show wrap64 (64 - a) = 64 - a by (have := H1.out; unfold wrap64; omega)]; exact F2.out⟩
      have F4 : Aside0 (change_within.f n 1 (IntKind.i64.wrap (64 - a)) = some false) := ⟨by rw [i64_w]; exact F3.out⟩
      have BB : Aside0 (Pl.blocksB a n = false) := ⟨by unfold Pl.blocksB; have := H2.out; simp; omega⟩
      have E := Aside0.mk (show Pl.chOk 1 a n i d (l.map toE) = false by rw [Pl.chOk_1]; simp [BB.out])
      go_wp2_with (first | (go_at_call 30; (with_reducible show Calls _ _ #[.int .i64 a, .int .i64 0, _] _ _); refine (change_within.calls _ _ _ true _ ?hW).mono ?_; (case hW => first | exact F1.out); rintro e wa1 ⟨rfl, hd⟩; have hb := hd.below; clear hd; clear o0 o1 o2 o3 o4 o5 m0 m1 m2 m3; replace BKc := Cz.bk BKc hb; replace BKk := Cz.bk BKk hb; replace HB := Cz.bs (w := w) hb; clear hb; obtain ⟨o0, o1, o2, o3, o4, o5⟩ := Cz.c6 BKc; obtain ⟨m0, m1, m2, m3⟩ := Cz.c4 BKk) | (go_at_call 30; (with_reducible show Calls _ _ #[.int .i64 n, .int .i64 1, _] _ _); refine (change_within.calls _ _ _ false _ ?hW).mono ?_; (case hW => first | exact F2.out | exact F3.out | exact F4.out); rintro e wb1 ⟨rfl, hd⟩; have hb := hd.below; clear hd; clear o0 o1 o2 o3 o4 o5 m0 m1 m2 m3; replace BKc := Cz.bk BKc hb; replace BKk := Cz.bk BKk hb; replace HB := Cz.bs (w := w) hb; clear hb; obtain ⟨o0, o1, o2, o3, o4, o5⟩ := Cz.c6 BKc; obtain ⟨m0, m1, m2, m3⟩ := Cz.c4 BKk))
      go_ret
      exact ⟨by rw [E.out]; rfl, HB.out⟩
    ·have H1 := Aside0.mk h1
     clear h1
     have F1 : Aside0 (change_within.f a 0 64 = some false) := ⟨by have q0 := H1.out; unfold change_within.f; by_cases q : a ≥ 0 <;> first | (rw [if_pos q, decide_eq_false (by omega)]; done) | (rw [if_neg q]; done)⟩
     have BB : Aside0 (Pl.blocksB a n = false) := ⟨by unfold Pl.blocksB; have := H1.out; simp; omega⟩
     have E := Aside0.mk (show Pl.chOk 1 a n i d (l.map toE) = false by rw [Pl.chOk_1]; simp [BB.out])
     go_wp2_with (first | (go_at_call 30; (with_reducible show Calls _ _ #[.int .i64 a, .int .i64 0, _] _ _); refine (change_within.calls _ _ _ false _ ?hW).mono ?_; (case hW => first | exact F1.out); rintro e wa1 ⟨rfl, hd⟩; have hb := hd.below; clear hd; clear o0 o1 o2 o3 o4 o5 m0 m1 m2 m3; replace BKc := Cz.bk BKc hb; replace BKk := Cz.bk BKk hb; replace HB := Cz.bs (w := w) hb; clear hb; obtain ⟨o0, o1, o2, o3, o4, o5⟩ := Cz.c6 BKc; obtain ⟨m0, m1, m2, m3⟩ := Cz.c4 BKk))
     go_ret
     exact ⟨by rw [E.out]; rfl, HB.out⟩
   ·have tn : (n == 0) = false := beq_eq_false_iff_ne.mpr hn
    have HN := Aside0.mk hn
    clear hn
    by_cases h1 : 0 ≤ a ∧ a ≤ 64
    ·have H1 := Aside0.mk h1
     clear h1
     have F1 : Aside0 (change_within.f a 0 (64) = some true) := ⟨by have q0 := H1.out; unfold change_within.f; rw [if_pos (by omega), decide_eq_true (by omega)]⟩
     by_cases h2 : 1 ≤ n ∧ n ≤ 64 - a
     ·have H2 := Aside0.mk h2
      clear h2
      have F2 : Aside0 (change_within.f n 1 (64 - a) = some true) := ⟨by have q0 := H2.out; unfold change_within.f; rw [if_pos (by omega), decide_eq_true (by omega)]⟩
      have F3 : Aside0 (change_within.f n 1 (wrap64 (64 - a)) = some true) := ⟨by rw [show wrap64 (64 - a) = 64 - a by (have := H1.out; unfold wrap64; omega)]; exact F2.out⟩
      have F4 : Aside0 (change_within.f n 1 (IntKind.i64.wrap (64 - a)) = some true) := ⟨by rw [i64_w]; exact F3.out⟩
      have BB : Aside0 (Pl.blocksB a n = true) := ⟨by unfold Pl.blocksB; have := H1.out; have := H2.out; simp; omega⟩
      by_cases h3 : i = 0
      ·have ti : (i == 0) = true := beq_iff_eq.mpr h3
       have H3 := Aside0.mk h3
       clear h3
       by_cases h4 : (d.length : Int) = n * 32
       ·have HD : Aside0 (change_kinds_3.f 1 a n i d l = some true) := ⟨by unfold change_kinds_3.f; rw [h4, show wrap64 (n * 32) = n * 32 by (have := H1.out; have := H2.out; unfold wrap64; omega)]; simp⟩
        have H4 := Aside0.mk h4
        clear h4
        by_cases h5 : l.length = 0
        ·have t51 : (l.length == 0) = true := by rw [h5]; rfl
         have t52 : ((l.length : Int) == 0) = true := by rw [h5]; rfl
         have H5 := Aside0.mk h5
         clear h5
         have E := Aside0.mk (show Pl.chOk 1 a n i d (l.map toE) = true by rw [Pl.chOk_1]; simp [BB.out, H3.out, H4.out, H5.out])
         go_wp2_with (first | (go_at_call 30; (with_reducible show Calls _ _ #[.int .i64 a, .int .i64 0, _] _ _); refine (change_within.calls _ _ _ true _ ?hW).mono ?_; (case hW => first | exact F1.out); rintro e wa1 ⟨rfl, hd⟩; have hb := hd.below; clear hd; clear o0 o1 o2 o3 o4 o5 m0 m1 m2 m3; replace BKc := Cz.bk BKc hb; replace BKk := Cz.bk BKk hb; replace HB := Cz.bs (w := w) hb; clear hb; obtain ⟨o0, o1, o2, o3, o4, o5⟩ := Cz.c6 BKc; obtain ⟨m0, m1, m2, m3⟩ := Cz.c4 BKk) | (go_at_call 30; (with_reducible show Calls _ _ #[.int .i64 n, .int .i64 1, _] _ _); refine (change_within.calls _ _ _ true _ ?hW).mono ?_; (case hW => first | exact F2.out | exact F3.out | exact F4.out); rintro e wb1 ⟨rfl, hd⟩; have hb := hd.below; clear hd; clear o0 o1 o2 o3 o4 o5 m0 m1 m2 m3; replace BKc := Cz.bk BKc hb; replace BKk := Cz.bk BKk hb; replace HB := Cz.bs (w := w) hb; clear hb; obtain ⟨o0, o1, o2, o3, o4, o5⟩ := Cz.c6 BKc; obtain ⟨m0, m1, m2, m3⟩ := Cz.c4 BKk) | (go_at_call 47; refine (change_kinds_3.calls 1 a n i _ _ d _ _ l true _ (Kd.C_below HR4.out HB.out) HC4.out (Kd.C_below HR5.out HB.out) HC5.out HD.out).mono ?_; rintro e wd1 ⟨rfl, hb⟩; clear o0 o1 o2 o3 o4 o5 m0 m1 m2 m3; replace BKc := Cz.bk BKc hb; replace BKk := Cz.bk BKk hb; replace HB := Cz.bs (w := w) hb; clear hb; obtain ⟨o0, o1, o2, o3, o4, o5⟩ := Cz.c6 BKc; obtain ⟨m0, m1, m2, m3⟩ := Cz.c4 BKk))
         go_ret
         exact ⟨by rw [E.out]; rfl, HB.out⟩
        ·have t51 : (l.length == 0) = false := beq_eq_false_iff_ne.mpr h5
         have t52 : ((l.length : Int) == 0) = false := beq_eq_false_iff_ne.mpr (by omega)
         have t53 : (l.length = 0) = False := eq_false h5
         have H5 := Aside0.mk h5
         clear h5
         have HF : Aside0 (change_follows.f l = some (Pl.folS (l.map toE))) := ⟨change_follows.tells LL.out⟩
         have E := Aside0.mk (show Pl.chOk 1 a n i d (l.map toE) = false by rw [Pl.chOk_1]; simp [BB.out, H3.out, H4.out, H5.out])
         go_wp2_with (first | (go_at_call 30; (with_reducible show Calls _ _ #[.int .i64 a, .int .i64 0, _] _ _); refine (change_within.calls _ _ _ true _ ?hW).mono ?_; (case hW => first | exact F1.out); rintro e wa1 ⟨rfl, hd⟩; have hb := hd.below; clear hd; clear o0 o1 o2 o3 o4 o5 m0 m1 m2 m3; replace BKc := Cz.bk BKc hb; replace BKk := Cz.bk BKk hb; replace HB := Cz.bs (w := w) hb; clear hb; obtain ⟨o0, o1, o2, o3, o4, o5⟩ := Cz.c6 BKc; obtain ⟨m0, m1, m2, m3⟩ := Cz.c4 BKk) | (go_at_call 30; (with_reducible show Calls _ _ #[.int .i64 n, .int .i64 1, _] _ _); refine (change_within.calls _ _ _ true _ ?hW).mono ?_; (case hW => first | exact F2.out | exact F3.out | exact F4.out); rintro e wb1 ⟨rfl, hd⟩; have hb := hd.below; clear hd; clear o0 o1 o2 o3 o4 o5 m0 m1 m2 m3; replace BKc := Cz.bk BKc hb; replace BKk := Cz.bk BKk hb; replace HB := Cz.bs (w := w) hb; clear hb; obtain ⟨o0, o1, o2, o3, o4, o5⟩ := Cz.c6 BKc; obtain ⟨m0, m1, m2, m3⟩ := Cz.c4 BKk) | (go_at_call 47; refine (change_kinds_3.calls 1 a n i _ _ d _ _ l true _ (Kd.C_below HR4.out HB.out) HC4.out (Kd.C_below HR5.out HB.out) HC5.out HD.out).mono ?_; rintro e wd1 ⟨rfl, hb⟩; clear o0 o1 o2 o3 o4 o5 m0 m1 m2 m3; replace BKc := Cz.bk BKc hb; replace BKk := Cz.bk BKk hb; replace HB := Cz.bs (w := w) hb; clear hb; obtain ⟨o0, o1, o2, o3, o4, o5⟩ := Cz.c6 BKc; obtain ⟨m0, m1, m2, m3⟩ := Cz.c4 BKk))
         go_ret
         exact ⟨by rw [E.out]; rfl, HB.out⟩
       ·have HD : Aside0 (change_kinds_3.f 1 a n i d l = some false) := ⟨by unfold change_kinds_3.f; rw [show wrap64 (n * 32) = n * 32 by (have := H1.out; have := H2.out; unfold wrap64; omega), show ((d.length : Int) == n * 32) = false from beq_eq_false_iff_ne.mpr h4]⟩
        have H4 := Aside0.mk h4
        clear h4
        have E := Aside0.mk (show Pl.chOk 1 a n i d (l.map toE) = false by rw [Pl.chOk_1]; simp [BB.out, H3.out, H4.out])
        go_wp2_with (first | (go_at_call 30; (with_reducible show Calls _ _ #[.int .i64 a, .int .i64 0, _] _ _); refine (change_within.calls _ _ _ true _ ?hW).mono ?_; (case hW => first | exact F1.out); rintro e wa1 ⟨rfl, hd⟩; have hb := hd.below; clear hd; clear o0 o1 o2 o3 o4 o5 m0 m1 m2 m3; replace BKc := Cz.bk BKc hb; replace BKk := Cz.bk BKk hb; replace HB := Cz.bs (w := w) hb; clear hb; obtain ⟨o0, o1, o2, o3, o4, o5⟩ := Cz.c6 BKc; obtain ⟨m0, m1, m2, m3⟩ := Cz.c4 BKk) | (go_at_call 30; (with_reducible show Calls _ _ #[.int .i64 n, .int .i64 1, _] _ _); refine (change_within.calls _ _ _ true _ ?hW).mono ?_; (case hW => first | exact F2.out | exact F3.out | exact F4.out); rintro e wb1 ⟨rfl, hd⟩; have hb := hd.below; clear hd; clear o0 o1 o2 o3 o4 o5 m0 m1 m2 m3; replace BKc := Cz.bk BKc hb; replace BKk := Cz.bk BKk hb; replace HB := Cz.bs (w := w) hb; clear hb; obtain ⟨o0, o1, o2, o3, o4, o5⟩ := Cz.c6 BKc; obtain ⟨m0, m1, m2, m3⟩ := Cz.c4 BKk) | (go_at_call 47; refine (change_kinds_3.calls 1 a n i _ _ d _ _ l false _ (Kd.C_below HR4.out HB.out) HC4.out (Kd.C_below HR5.out HB.out) HC5.out HD.out).mono ?_; rintro e wd1 ⟨rfl, hb⟩; clear o0 o1 o2 o3 o4 o5 m0 m1 m2 m3; replace BKc := Cz.bk BKc hb; replace BKk := Cz.bk BKk hb; replace HB := Cz.bs (w := w) hb; clear hb; obtain ⟨o0, o1, o2, o3, o4, o5⟩ := Cz.c6 BKc; obtain ⟨m0, m1, m2, m3⟩ := Cz.c4 BKk))
        go_ret
        exact ⟨by rw [E.out]; rfl, HB.out⟩
      ·have ti : (i == 0) = false := beq_eq_false_iff_ne.mpr h3
       have H3 := Aside0.mk h3
       clear h3
       have E := Aside0.mk (show Pl.chOk 1 a n i d (l.map toE) = false by rw [Pl.chOk_1]; simp [BB.out, H3.out])
       go_wp2_with (first | (go_at_call 30; (with_reducible show Calls _ _ #[.int .i64 a, .int .i64 0, _] _ _); refine (change_within.calls _ _ _ true _ ?hW).mono ?_; (case hW => first | exact F1.out); rintro e wa1 ⟨rfl, hd⟩; have hb := hd.below; clear hd; clear o0 o1 o2 o3 o4 o5 m0 m1 m2 m3; replace BKc := Cz.bk BKc hb; replace BKk := Cz.bk BKk hb; replace HB := Cz.bs (w := w) hb; clear hb; obtain ⟨o0, o1, o2, o3, o4, o5⟩ := Cz.c6 BKc; obtain ⟨m0, m1, m2, m3⟩ := Cz.c4 BKk) | (go_at_call 30; (with_reducible show Calls _ _ #[.int .i64 n, .int .i64 1, _] _ _); refine (change_within.calls _ _ _ true _ ?hW).mono ?_; (case hW => first | exact F2.out | exact F3.out | exact F4.out); rintro e wb1 ⟨rfl, hd⟩; have hb := hd.below; clear hd; clear o0 o1 o2 o3 o4 o5 m0 m1 m2 m3; replace BKc := Cz.bk BKc hb; replace BKk := Cz.bk BKk hb; replace HB := Cz.bs (w := w) hb; clear hb; obtain ⟨o0, o1, o2, o3, o4, o5⟩ := Cz.c6 BKc; obtain ⟨m0, m1, m2, m3⟩ := Cz.c4 BKk))
       go_ret
       exact ⟨by rw [E.out]; rfl, HB.out⟩
     ·have H2 := Aside0.mk h2
      clear h2
      have F2 : Aside0 (change_within.f n 1 (64 - a) = some false) := ⟨by have q0 := H2.out; unfold change_within.f; by_cases q : n ≥ 1 <;> first | (rw [if_pos q, decide_eq_false (by omega)]; done) | (rw [if_neg q]; done)⟩
      have F3 : Aside0 (change_within.f n 1 (wrap64 (64 - a)) = some false) := ⟨by rw [show wrap64 (64 - a) = 64 - a by (have := H1.out; unfold wrap64; omega)]; exact F2.out⟩
      have F4 : Aside0 (change_within.f n 1 (IntKind.i64.wrap (64 - a)) = some false) := ⟨by rw [i64_w]; exact F3.out⟩
      have BB : Aside0 (Pl.blocksB a n = false) := ⟨by unfold Pl.blocksB; have := H2.out; simp; omega⟩
      have E := Aside0.mk (show Pl.chOk 1 a n i d (l.map toE) = false by rw [Pl.chOk_1]; simp [BB.out])
      go_wp2_with (first | (go_at_call 30; (with_reducible show Calls _ _ #[.int .i64 a, .int .i64 0, _] _ _); refine (change_within.calls _ _ _ true _ ?hW).mono ?_; (case hW => first | exact F1.out); rintro e wa1 ⟨rfl, hd⟩; have hb := hd.below; clear hd; clear o0 o1 o2 o3 o4 o5 m0 m1 m2 m3; replace BKc := Cz.bk BKc hb; replace BKk := Cz.bk BKk hb; replace HB := Cz.bs (w := w) hb; clear hb; obtain ⟨o0, o1, o2, o3, o4, o5⟩ := Cz.c6 BKc; obtain ⟨m0, m1, m2, m3⟩ := Cz.c4 BKk) | (go_at_call 30; (with_reducible show Calls _ _ #[.int .i64 n, .int .i64 1, _] _ _); refine (change_within.calls _ _ _ false _ ?hW).mono ?_; (case hW => first | exact F2.out | exact F3.out | exact F4.out); rintro e wb1 ⟨rfl, hd⟩; have hb := hd.below; clear hd; clear o0 o1 o2 o3 o4 o5 m0 m1 m2 m3; replace BKc := Cz.bk BKc hb; replace BKk := Cz.bk BKk hb; replace HB := Cz.bs (w := w) hb; clear hb; obtain ⟨o0, o1, o2, o3, o4, o5⟩ := Cz.c6 BKc; obtain ⟨m0, m1, m2, m3⟩ := Cz.c4 BKk))
      go_ret
      exact ⟨by rw [E.out]; rfl, HB.out⟩
    ·have H1 := Aside0.mk h1
     clear h1
     have F1 : Aside0 (change_within.f a 0 64 = some false) := ⟨by have q0 := H1.out; unfold change_within.f; by_cases q : a ≥ 0 <;> first | (rw [if_pos q, decide_eq_false (by omega)]; done) | (rw [if_neg q]; done)⟩
     have BB : Aside0 (Pl.blocksB a n = false) := ⟨by unfold Pl.blocksB; have := H1.out; simp; omega⟩
     have E := Aside0.mk (show Pl.chOk 1 a n i d (l.map toE) = false by rw [Pl.chOk_1]; simp [BB.out])
     go_wp2_with (first | (go_at_call 30; (with_reducible show Calls _ _ #[.int .i64 a, .int .i64 0, _] _ _); refine (change_within.calls _ _ _ false _ ?hW).mono ?_; (case hW => first | exact F1.out); rintro e wa1 ⟨rfl, hd⟩; have hb := hd.below; clear hd; clear o0 o1 o2 o3 o4 o5 m0 m1 m2 m3; replace BKc := Cz.bk BKc hb; replace BKk := Cz.bk BKk hb; replace HB := Cz.bs (w := w) hb; clear hb; obtain ⟨o0, o1, o2, o3, o4, o5⟩ := Cz.c6 BKc; obtain ⟨m0, m1, m2, m3⟩ := Cz.c4 BKk))
     go_ret
     exact ⟨by rw [E.out]; rfl, HB.out⟩
  ·have ta : (a == 0) = false := beq_eq_false_iff_ne.mpr ha
   have HA := Aside0.mk ha
   clear ha
   by_cases h1 : 0 ≤ a ∧ a ≤ 64
   ·have H1 := Aside0.mk h1
    clear h1
    have F1 : Aside0 (change_within.f a 0 (64) = some true) := ⟨by have q0 := H1.out; unfold change_within.f; rw [if_pos (by omega), decide_eq_true (by omega)]⟩
    by_cases h2 : 1 ≤ n ∧ n ≤ 64 - a
    ·have H2 := Aside0.mk h2
     clear h2
     have F2 : Aside0 (change_within.f n 1 (64 - a) = some true) := ⟨by have q0 := H2.out; unfold change_within.f; rw [if_pos (by omega), decide_eq_true (by omega)]⟩
     have F3 : Aside0 (change_within.f n 1 (wrap64 (64 - a)) = some true) := ⟨by rw [show wrap64 (64 - a) = 64 - a by (have := H1.out; unfold wrap64; omega)]; exact F2.out⟩
     have F4 : Aside0 (change_within.f n 1 (IntKind.i64.wrap (64 - a)) = some true) := ⟨by rw [i64_w]; exact F3.out⟩
     have BB : Aside0 (Pl.blocksB a n = true) := ⟨by unfold Pl.blocksB; have := H1.out; have := H2.out; simp; omega⟩
     by_cases h3 : i = 0
     ·have ti : (i == 0) = true := beq_iff_eq.mpr h3
      have H3 := Aside0.mk h3
      clear h3
      by_cases h4 : (d.length : Int) = n * 32
      ·have HD : Aside0 (change_kinds_3.f 1 a n i d l = some true) := ⟨by unfold change_kinds_3.f; rw [h4, show wrap64 (n * 32) = n * 32 by (have := H1.out; have := H2.out; unfold wrap64; omega)]; simp⟩
       have H4 := Aside0.mk h4
       clear h4
       by_cases h5 : l.length = 0
       ·have t51 : (l.length == 0) = true := by rw [h5]; rfl
        have t52 : ((l.length : Int) == 0) = true := by rw [h5]; rfl
        have H5 := Aside0.mk h5
        clear h5
        have E := Aside0.mk (show Pl.chOk 1 a n i d (l.map toE) = true by rw [Pl.chOk_1]; simp [BB.out, H3.out, H4.out, H5.out])
        go_wp2_with (first | (go_at_call 30; (with_reducible show Calls _ _ #[.int .i64 a, .int .i64 0, _] _ _); refine (change_within.calls _ _ _ true _ ?hW).mono ?_; (case hW => first | exact F1.out); rintro e wa1 ⟨rfl, hd⟩; have hb := hd.below; clear hd; clear o0 o1 o2 o3 o4 o5 m0 m1 m2 m3; replace BKc := Cz.bk BKc hb; replace BKk := Cz.bk BKk hb; replace HB := Cz.bs (w := w) hb; clear hb; obtain ⟨o0, o1, o2, o3, o4, o5⟩ := Cz.c6 BKc; obtain ⟨m0, m1, m2, m3⟩ := Cz.c4 BKk) | (go_at_call 30; (with_reducible show Calls _ _ #[.int .i64 n, .int .i64 1, _] _ _); refine (change_within.calls _ _ _ true _ ?hW).mono ?_; (case hW => first | exact F2.out | exact F3.out | exact F4.out); rintro e wb1 ⟨rfl, hd⟩; have hb := hd.below; clear hd; clear o0 o1 o2 o3 o4 o5 m0 m1 m2 m3; replace BKc := Cz.bk BKc hb; replace BKk := Cz.bk BKk hb; replace HB := Cz.bs (w := w) hb; clear hb; obtain ⟨o0, o1, o2, o3, o4, o5⟩ := Cz.c6 BKc; obtain ⟨m0, m1, m2, m3⟩ := Cz.c4 BKk) | (go_at_call 47; refine (change_kinds_3.calls 1 a n i _ _ d _ _ l true _ (Kd.C_below HR4.out HB.out) HC4.out (Kd.C_below HR5.out HB.out) HC5.out HD.out).mono ?_; rintro e wd1 ⟨rfl, hb⟩; clear o0 o1 o2 o3 o4 o5 m0 m1 m2 m3; replace BKc := Cz.bk BKc hb; replace BKk := Cz.bk BKk hb; replace HB := Cz.bs (w := w) hb; clear hb; obtain ⟨o0, o1, o2, o3, o4, o5⟩ := Cz.c6 BKc; obtain ⟨m0, m1, m2, m3⟩ := Cz.c4 BKk))
        go_ret
        exact ⟨by rw [E.out]; rfl, HB.out⟩
       ·have t51 : (l.length == 0) = false := beq_eq_false_iff_ne.mpr h5
        have t52 : ((l.length : Int) == 0) = false := beq_eq_false_iff_ne.mpr (by omega)
        have t53 : (l.length = 0) = False := eq_false h5
        have H5 := Aside0.mk h5
        clear h5
        have HF : Aside0 (change_follows.f l = some (Pl.folS (l.map toE))) := ⟨change_follows.tells LL.out⟩
        have E := Aside0.mk (show Pl.chOk 1 a n i d (l.map toE) = false by rw [Pl.chOk_1]; simp [BB.out, H3.out, H4.out, H5.out])
        go_wp2_with (first | (go_at_call 30; (with_reducible show Calls _ _ #[.int .i64 a, .int .i64 0, _] _ _); refine (change_within.calls _ _ _ true _ ?hW).mono ?_; (case hW => first | exact F1.out); rintro e wa1 ⟨rfl, hd⟩; have hb := hd.below; clear hd; clear o0 o1 o2 o3 o4 o5 m0 m1 m2 m3; replace BKc := Cz.bk BKc hb; replace BKk := Cz.bk BKk hb; replace HB := Cz.bs (w := w) hb; clear hb; obtain ⟨o0, o1, o2, o3, o4, o5⟩ := Cz.c6 BKc; obtain ⟨m0, m1, m2, m3⟩ := Cz.c4 BKk) | (go_at_call 30; (with_reducible show Calls _ _ #[.int .i64 n, .int .i64 1, _] _ _); refine (change_within.calls _ _ _ true _ ?hW).mono ?_; (case hW => first | exact F2.out | exact F3.out | exact F4.out); rintro e wb1 ⟨rfl, hd⟩; have hb := hd.below; clear hd; clear o0 o1 o2 o3 o4 o5 m0 m1 m2 m3; replace BKc := Cz.bk BKc hb; replace BKk := Cz.bk BKk hb; replace HB := Cz.bs (w := w) hb; clear hb; obtain ⟨o0, o1, o2, o3, o4, o5⟩ := Cz.c6 BKc; obtain ⟨m0, m1, m2, m3⟩ := Cz.c4 BKk) | (go_at_call 47; refine (change_kinds_3.calls 1 a n i _ _ d _ _ l true _ (Kd.C_below HR4.out HB.out) HC4.out (Kd.C_below HR5.out HB.out) HC5.out HD.out).mono ?_; rintro e wd1 ⟨rfl, hb⟩; clear o0 o1 o2 o3 o4 o5 m0 m1 m2 m3; replace BKc := Cz.bk BKc hb; replace BKk := Cz.bk BKk hb; replace HB := Cz.bs (w := w) hb; clear hb; obtain ⟨o0, o1, o2, o3, o4, o5⟩ := Cz.c6 BKc; obtain ⟨m0, m1, m2, m3⟩ := Cz.c4 BKk))
        go_ret
        exact ⟨by rw [E.out]; rfl, HB.out⟩
      ·have HD : Aside0 (change_kinds_3.f 1 a n i d l = some false) := ⟨by unfold change_kinds_3.f; rw [show wrap64 (n * 32) = n * 32 by (have := H1.out; have := H2.out; unfold wrap64; omega), show ((d.length : Int) == n * 32) = false from beq_eq_false_iff_ne.mpr h4]⟩
       have H4 := Aside0.mk h4
       clear h4
       have E := Aside0.mk (show Pl.chOk 1 a n i d (l.map toE) = false by rw [Pl.chOk_1]; simp [BB.out, H3.out, H4.out])
       go_wp2_with (first | (go_at_call 30; (with_reducible show Calls _ _ #[.int .i64 a, .int .i64 0, _] _ _); refine (change_within.calls _ _ _ true _ ?hW).mono ?_; (case hW => first | exact F1.out); rintro e wa1 ⟨rfl, hd⟩; have hb := hd.below; clear hd; clear o0 o1 o2 o3 o4 o5 m0 m1 m2 m3; replace BKc := Cz.bk BKc hb; replace BKk := Cz.bk BKk hb; replace HB := Cz.bs (w := w) hb; clear hb; obtain ⟨o0, o1, o2, o3, o4, o5⟩ := Cz.c6 BKc; obtain ⟨m0, m1, m2, m3⟩ := Cz.c4 BKk) | (go_at_call 30; (with_reducible show Calls _ _ #[.int .i64 n, .int .i64 1, _] _ _); refine (change_within.calls _ _ _ true _ ?hW).mono ?_; (case hW => first | exact F2.out | exact F3.out | exact F4.out); rintro e wb1 ⟨rfl, hd⟩; have hb := hd.below; clear hd; clear o0 o1 o2 o3 o4 o5 m0 m1 m2 m3; replace BKc := Cz.bk BKc hb; replace BKk := Cz.bk BKk hb; replace HB := Cz.bs (w := w) hb; clear hb; obtain ⟨o0, o1, o2, o3, o4, o5⟩ := Cz.c6 BKc; obtain ⟨m0, m1, m2, m3⟩ := Cz.c4 BKk) | (go_at_call 47; refine (change_kinds_3.calls 1 a n i _ _ d _ _ l false _ (Kd.C_below HR4.out HB.out) HC4.out (Kd.C_below HR5.out HB.out) HC5.out HD.out).mono ?_; rintro e wd1 ⟨rfl, hb⟩; clear o0 o1 o2 o3 o4 o5 m0 m1 m2 m3; replace BKc := Cz.bk BKc hb; replace BKk := Cz.bk BKk hb; replace HB := Cz.bs (w := w) hb; clear hb; obtain ⟨o0, o1, o2, o3, o4, o5⟩ := Cz.c6 BKc; obtain ⟨m0, m1, m2, m3⟩ := Cz.c4 BKk))
       go_ret
       exact ⟨by rw [E.out]; rfl, HB.out⟩
     ·have ti : (i == 0) = false := beq_eq_false_iff_ne.mpr h3
      have H3 := Aside0.mk h3
      clear h3
      have E := Aside0.mk (show Pl.chOk 1 a n i d (l.map toE) = false by rw [Pl.chOk_1]; simp [BB.out, H3.out])
      go_wp2_with (first | (go_at_call 30; (with_reducible show Calls _ _ #[.int .i64 a, .int .i64 0, _] _ _); refine (change_within.calls _ _ _ true _ ?hW).mono ?_; (case hW => first | exact F1.out); rintro e wa1 ⟨rfl, hd⟩; have hb := hd.below; clear hd; clear o0 o1 o2 o3 o4 o5 m0 m1 m2 m3; replace BKc := Cz.bk BKc hb; replace BKk := Cz.bk BKk hb; replace HB := Cz.bs (w := w) hb; clear hb; obtain ⟨o0, o1, o2, o3, o4, o5⟩ := Cz.c6 BKc; obtain ⟨m0, m1, m2, m3⟩ := Cz.c4 BKk) | (go_at_call 30; (with_reducible show Calls _ _ #[.int .i64 n, .int .i64 1, _] _ _); refine (change_within.calls _ _ _ true _ ?hW).mono ?_; (case hW => first | exact F2.out | exact F3.out | exact F4.out); rintro e wb1 ⟨rfl, hd⟩; have hb := hd.below; clear hd; clear o0 o1 o2 o3 o4 o5 m0 m1 m2 m3; replace BKc := Cz.bk BKc hb; replace BKk := Cz.bk BKk hb; replace HB := Cz.bs (w := w) hb; clear hb; obtain ⟨o0, o1, o2, o3, o4, o5⟩ := Cz.c6 BKc; obtain ⟨m0, m1, m2, m3⟩ := Cz.c4 BKk))
      go_ret
      exact ⟨by rw [E.out]; rfl, HB.out⟩
    ·have H2 := Aside0.mk h2
     clear h2
     have F2 : Aside0 (change_within.f n 1 (64 - a) = some false) := ⟨by have q0 := H2.out; unfold change_within.f; by_cases q : n ≥ 1 <;> first | (rw [if_pos q, decide_eq_false (by omega)]; done) | (rw [if_neg q]; done)⟩
     have F3 : Aside0 (change_within.f n 1 (wrap64 (64 - a)) = some false) := ⟨by rw [show wrap64 (64 - a) = 64 - a by (have := H1.out; unfold wrap64; omega)]; exact F2.out⟩
     have F4 : Aside0 (change_within.f n 1 (IntKind.i64.wrap (64 - a)) = some false) := ⟨by rw [i64_w]; exact F3.out⟩
     have BB : Aside0 (Pl.blocksB a n = false) := ⟨by unfold Pl.blocksB; have := H2.out; simp; omega⟩
     have E := Aside0.mk (show Pl.chOk 1 a n i d (l.map toE) = false by rw [Pl.chOk_1]; simp [BB.out])
     go_wp2_with (first | (go_at_call 30; (with_reducible show Calls _ _ #[.int .i64 a, .int .i64 0, _] _ _); refine (change_within.calls _ _ _ true _ ?hW).mono ?_; (case hW => first | exact F1.out); rintro e wa1 ⟨rfl, hd⟩; have hb := hd.below; clear hd; clear o0 o1 o2 o3 o4 o5 m0 m1 m2 m3; replace BKc := Cz.bk BKc hb; replace BKk := Cz.bk BKk hb; replace HB := Cz.bs (w := w) hb; clear hb; obtain ⟨o0, o1, o2, o3, o4, o5⟩ := Cz.c6 BKc; obtain ⟨m0, m1, m2, m3⟩ := Cz.c4 BKk) | (go_at_call 30; (with_reducible show Calls _ _ #[.int .i64 n, .int .i64 1, _] _ _); refine (change_within.calls _ _ _ false _ ?hW).mono ?_; (case hW => first | exact F2.out | exact F3.out | exact F4.out); rintro e wb1 ⟨rfl, hd⟩; have hb := hd.below; clear hd; clear o0 o1 o2 o3 o4 o5 m0 m1 m2 m3; replace BKc := Cz.bk BKc hb; replace BKk := Cz.bk BKk hb; replace HB := Cz.bs (w := w) hb; clear hb; obtain ⟨o0, o1, o2, o3, o4, o5⟩ := Cz.c6 BKc; obtain ⟨m0, m1, m2, m3⟩ := Cz.c4 BKk))
     go_ret
     exact ⟨by rw [E.out]; rfl, HB.out⟩
   ·have H1 := Aside0.mk h1
    clear h1
    have F1 : Aside0 (change_within.f a 0 64 = some false) := ⟨by have q0 := H1.out; unfold change_within.f; by_cases q : a ≥ 0 <;> first | (rw [if_pos q, decide_eq_false (by omega)]; done) | (rw [if_neg q]; done)⟩
    have BB : Aside0 (Pl.blocksB a n = false) := ⟨by unfold Pl.blocksB; have := H1.out; simp; omega⟩
    have E := Aside0.mk (show Pl.chOk 1 a n i d (l.map toE) = false by rw [Pl.chOk_1]; simp [BB.out])
    go_wp2_with (first | (go_at_call 30; (with_reducible show Calls _ _ #[.int .i64 a, .int .i64 0, _] _ _); refine (change_within.calls _ _ _ false _ ?hW).mono ?_; (case hW => first | exact F1.out); rintro e wa1 ⟨rfl, hd⟩; have hb := hd.below; clear hd; clear o0 o1 o2 o3 o4 o5 m0 m1 m2 m3; replace BKc := Cz.bk BKc hb; replace BKk := Cz.bk BKk hb; replace HB := Cz.bs (w := w) hb; clear hb; obtain ⟨o0, o1, o2, o3, o4, o5⟩ := Cz.c6 BKc; obtain ⟨m0, m1, m2, m3⟩ := Cz.c4 BKk))
    go_ret
    exact ⟨by rw [E.out]; rfl, HB.out⟩
set_option maxHeartbeats 4000000 in
set_option maxRecDepth 2000000 in
theorem change_Check.c2 (k : Int) (hk : k = 2 ∨ k = 3) (a n i : Int) (A4 : Option Addr) (c4 : Nat) (d : List Int) (A5 : Option Addr) (c5 : Nat) (l : List S39) (w : World) (hr4 : Kd.C (Kd.int .u8) w A4 d.length d) (hc4 : d.length ≤ c4) (hr5 : Kd.C k39 w A5 l.length l) (hc5 : l.length ≤ c5) (hn0 : -9223372036854775808 ≤ n) (hn1 : n < 9223372036854775808) (hll : l.length < 1073741824) (hdl : d.length < 1073741824) : Calls Try.prog 16 #[.agg #[.int .i64 k, .int .i64 a, .int .i64 n, .int .i64 i, .slice A4 d.length c4, .slice A5 l.length c5]] w fun e w' => e = .returned (.bool (Pl.chOk k a n i d (l.map toE))) ∧ Below w.heap.size w w' := by
 have hu26 := Try.underlying26
 have HR4 := Aside0.mk hr4
 have HC4 := Aside0.mk hc4
 have HR5 := Aside0.mk hr5
 have HC5 := Aside0.mk hc5
 have HB := Aside0.mk (Below.refl w.heap.size w)
 clear hr4 hc4 hr5 hc5
 have b1 : change_within.f k 1 8 = some true := by rcases hk with rfl | rfl <;> rfl
 have B1 := Aside0.mk b1
 clear b1
 have hix2 : ∀ w : World, (Instr.index 58 (.agg #[.bool false, .bool false, .bool false, .nilFunc, .bool true, .bool false, .bool false, .func (.func 47) #[] #[], .bool true, .bool false, .bool false, .func (.func 45) #[] #[], .bool true, .bool false, .bool false, .func (.func 45) #[] #[], .bool false, .bool true, .bool false, .func (.func 45) #[] #[], .bool false, .bool true, .bool false, .func (.func 45) #[] #[], .bool false, .bool false, .bool false, .func (.func 46) #[] #[], .bool false, .bool false, .bool false, .func (.func 45) #[] #[], .bool false, .bool true, .bool true, .func (.func 45) #[] #[]]) (.int .i64 2)).run Try.prog w = .ok (.agg #[.bool true, .bool false, .bool false, .func (.func 45) #[] #[]]) w := fun _ => by kernel_rfl
 have hix3 : ∀ w : World, (Instr.index 58 (.agg #[.bool false, .bool false, .bool false, .nilFunc, .bool true, .bool false, .bool false, .func (.func 47) #[] #[], .bool true, .bool false, .bool false, .func (.func 45) #[] #[], .bool true, .bool false, .bool false, .func (.func 45) #[] #[], .bool false, .bool true, .bool false, .func (.func 45) #[] #[], .bool false, .bool true, .bool false, .func (.func 45) #[] #[], .bool false, .bool false, .bool false, .func (.func 46) #[] #[], .bool false, .bool false, .bool false, .func (.func 45) #[] #[], .bool false, .bool true, .bool true, .func (.func 45) #[] #[]]) (.int .i64 3)).run Try.prog w = .ok (.agg #[.bool true, .bool false, .bool false, .func (.func 45) #[] #[]]) w := fun _ => by kernel_rfl
 have HK := Aside0.mk hk
 clear hk
 have N0 := Aside0.mk hn0
 have N1 := Aside0.mk hn1
 have LL := Aside0.mk hll
 have DL := Aside0.mk hdl
 clear hn0 hn1 hll hdl
 go_enter Try.func16, Try.ntmps16
 go_upto_region 4 with (first | ((with_reducible refine gate_dst (N := 1) rfl ?_); refine Cz.bx (N := 1) #[.int .i64 k, .int .i64 a, .int .i64 n, .int .i64 i, .slice A4 d.length c4, .slice A5 l.length c5] 26 ?_; intro gc hg w1 hbox hb; have BKc := Aside0.mk hbox; have GC := Aside0.mk (show w.heap.size ≤ gc by rw [hg]; exact Nat.le_refl _); replace HB := Cz.bs (w := w) hb; clear hb hbox hg; obtain ⟨j0, j1, j2, j3, j4, j5⟩ := Cz.c6 BKc) | (go_at_call 30; refine (change_within.calls _ _ _ true _ B1.out).mono ?_; rintro e w2 ⟨rfl, hd⟩; have hb := hd.below; clear hd; replace BKc := Cz.bk BKc hb; replace HB := Cz.bs (w := w) hb; clear hb; clear j0 j1 j2 j3 j4 j5))
 go_cut [3] (fun v3 wc => ∃ gk : Nat, v3 = .pointer (some ⟨gk, 0, none⟩) ∧ Aside0 (wc.heap[gk]? = some (.cells #[.bool true, .bool false, .bool false, .func (.func 45) #[] #[]] 57 (0, 0))) ∧ Aside0 (gk ≠ gc) ∧ Aside0 (w.heap.size ≤ gk) ∧ Aside0 (wc.heap[gc]? = some (.cells #[.int .i64 k, .int .i64 a, .int .i64 n, .int .i64 i, .slice A4 d.length c4, .slice A5 l.length c5] 26 (0, 0))) ∧ Aside0 (Below w.heap.size w wc))
 case first =>
  rcases HK.out with rfl | rfl
  ·skip
   replace BKc := Aside0.mk (blk_drew BKc.out)
   replace HB := Aside0.mk (below_drew HB.out)
   refine start_ (n := 6) (S := fun w' => w'.cell? ⟨gc, 0, none⟩ = some (.int .i64 2)) (ds := []) #[false, false, false, false, false, false] (by kernel_rfl) rfl rfl (((blk_cell BKc.out 0).trans rfl)) (fun hHeld => ?_)
   generalize w2.drew = wd at HB BKc hHeld ⊢
   refine Cz.rP 1 11 ?_
   refine take_ (i := 2) (N := some 12) (v := ?_) (a' := ?_) #[false, true, true, false, false, false] rfl rfl (by kernel_rfl) (fun _ _ _ h => h) (Or.inl ⟨by rfl, ?_⟩) hHeld ?_ ?_
   rotate_left
   ·intro w' s0
    go_simp
    with_reducible rfl
   rotate_left
   ·simp only [Act.put, Kx.sb, Kx.sz, Kx.ss, i64_w, i32_w]
    rfl
   refine two_ (i := 0) (j := 4) (Ni := some 10) (Nj := some 3) #[true, true, true, false, false, false] #[false, true, true, false, true, false] rfl rfl rfl rfl (by kernel_rfl) (by decide) (by decide) (fun K hK => ?_) (fun K hK => ?_)
   ·skip
    refine goes_ Try.func31 (by kernel_rfl) rfl #[] (by rfl) rfl rfl (by simp) ?_
    refine (change_kinds.calls _).mono ?_
    rintro e wk0 ⟨rfl, hb⟩
    refine ⟨_, rfl, ?_⟩
    replace BKc := Cz.bk BKc hb
    replace HB := Cz.bs (w := w) hb
    clear hb
    refine hK.out _ _ (((blk_cell BKc.out 0).trans rfl)) (fun hHeld => ?_)
    clear hK K
    refine norm_ (a' := ?_) ?_ ?_
    rotate_left
    ·show Act.put _ (some 10) _ = _
     simp only [Act.put, Kx.sb, Kx.sz, Kx.ss, i64_w, i32_w]
     rfl
    refine take_ (i := 3) (N := some 13) (v := ?_) (a' := ?_) #[true, true, true, true, false, false] rfl rfl (by kernel_rfl) (fun _ _ _ h => h) (Or.inl ⟨by rfl, ?_⟩) hHeld ?_ ?_
    rotate_left
    ·intro w' s0
     go_simp
     with_reducible rfl
    rotate_left
    ·simp only [Act.put, Kx.sb, Kx.sz, Kx.ss, i64_w, i32_w]
     rfl
    refine Cz.rO (N := some 3) 4 (fun K hK => ?_)
    refine value_ (w1 := ?_) (v := ?_) (by rfl) rfl ?_ ?_
    rotate_left 2
    ·go_simp
     constructor
     ·rfl
     ·rfl
    have BKk := Aside0.mk (blk_new wk0 (.cells #[.bool false, .bool false, .bool false, .nilFunc] 57))
    have GK := Aside0.mk (show w.heap.size ≤ wk0.heap.size from below_size HB.out)
    have NE := Aside0.mk (Nat.ne_of_gt (blk_lt BKc.out))
    replace BKc := Aside0.mk (blk_alloc BKc.out (.cells #[.bool false, .bool false, .bool false, .nilFunc] 57))
    replace HB := Aside0.mk (below_alloc HB.out (.cells #[.bool false, .bool false, .bool false, .nilFunc] 57))
    generalize wk0.alloc (.cells #[.bool false, .bool false, .bool false, .nilFunc] 57) = wa1 at BKk HB BKc ⊢
    generalize wk0.heap.size = gk at BKk GK NE ⊢
    refine hK.out _ _ (((blk_cell BKc.out 0).trans rfl)) (fun hHeld => ?_)
    clear hK K
    refine norm_ (a' := ?_) ?_ ?_
    rotate_left
    ·show Act.put _ (some 3) _ = _
     simp only [Act.put, Kx.sb, Kx.sz, Kx.ss, i64_w, i32_w]
     rfl
    refine Cz.rO (N := none) 5 (fun K hK => ?_)
    obtain ⟨zk0, zk1, zk2, zk3, zf0, zf1, zf2, zf3⟩ := Cz.d4 BKk
    refine skip_ (w1 := ?_) (by rfl) rfl ?_ ?_
    rotate_left
    ·go_simp
     rfl
    refine hK.out _ _ (((blk_cell (blk_far (blk_far (blk_far (blk_far BKc.out (p := ⟨gk, 0, none⟩) NE.out.symm _) (p := ⟨gk, 1, none⟩) NE.out.symm _) (p := ⟨gk, 2, none⟩) NE.out.symm _) (p := ⟨gk, 3, none⟩) NE.out.symm _) 0).trans rfl)) (fun hHeld => ?_)
    clear hK K
    have n_BKk : Aside0 (((((wa1.setCell ⟨gk, 0, none⟩ (.bool true)).setCell ⟨gk, 1, none⟩ (.bool false)).setCell ⟨gk, 2, none⟩ (.bool false)).setCell ⟨gk, 3, none⟩ (.func (.func 45) #[] #[])).heap[gk]? = some (.cells #[.bool true, .bool false, .bool false, .func (.func 45) #[] #[]] 57 (0, 0))) := ⟨(blk_put (cs := #[.bool true, .bool false, .bool false, .nilFunc]) (blk_put (cs := #[.bool true, .bool false, .bool false, .nilFunc]) (blk_put (cs := #[.bool true, .bool false, .bool false, .nilFunc]) (blk_put (cs := #[.bool false, .bool false, .bool false, .nilFunc]) BKk.out 0 (.bool true) rfl) 1 (.bool false) rfl) 2 (.bool false) rfl) 3 (.func (.func 45) #[] #[]) rfl)⟩
    have n_BKc := Aside0.mk (show ((((wa1.setCell ⟨gk, 0, none⟩ (.bool true)).setCell ⟨gk, 1, none⟩ (.bool false)).setCell ⟨gk, 2, none⟩ (.bool false)).setCell ⟨gk, 3, none⟩ (.func (.func 45) #[] #[])).heap[gc]? = _ from (blk_far (blk_far (blk_far (blk_far BKc.out (p := ⟨gk, 0, none⟩) NE.out.symm _) (p := ⟨gk, 1, none⟩) NE.out.symm _) (p := ⟨gk, 2, none⟩) NE.out.symm _) (p := ⟨gk, 3, none⟩) NE.out.symm _))
    have n_HB := Aside0.mk (show Below w.heap.size w ((((wa1.setCell ⟨gk, 0, none⟩ (.bool true)).setCell ⟨gk, 1, none⟩ (.bool false)).setCell ⟨gk, 2, none⟩ (.bool false)).setCell ⟨gk, 3, none⟩ (.func (.func 45) #[] #[])) from (below_set (below_set (below_set (below_set HB.out GK.out) GK.out) GK.out) GK.out))
    clear BKk BKc HB zk0 zk1 zk2 zk3 zf0 zf1 zf2 zf3
    have BKk := n_BKk
    have BKc := n_BKc
    have HB := n_HB
    clear n_BKk n_BKc n_HB
    generalize ((((wa1.setCell ⟨gk, 0, none⟩ (.bool true)).setCell ⟨gk, 1, none⟩ (.bool false)).setCell ⟨gk, 2, none⟩ (.bool false)).setCell ⟨gk, 3, none⟩ (.func (.func 45) #[] #[])) = ws2 at BKk BKc HB hHeld ⊢
    refine done_ (by kernel_rfl) ?_
    clear hHeld
    simp only [Exit.then]
    go_step
    go_meet
    case rel => exact ⟨gk, rfl, BKk, NE, GK, BKc, HB⟩
   ·skip
    refine value_ (w1 := ?_) (v := ?_) (by rfl) rfl ?_ ?_
    rotate_left 2
    ·go_simp
     constructor
     ·rfl
     ·rfl
    have BKk := Aside0.mk (blk_new wd (.cells #[.bool false, .bool false, .bool false, .nilFunc] 57))
    have GK := Aside0.mk (show w.heap.size ≤ wd.heap.size from below_size HB.out)
    have NE := Aside0.mk (Nat.ne_of_gt (blk_lt BKc.out))
    replace BKc := Aside0.mk (blk_alloc BKc.out (.cells #[.bool false, .bool false, .bool false, .nilFunc] 57))
    replace HB := Aside0.mk (below_alloc HB.out (.cells #[.bool false, .bool false, .bool false, .nilFunc] 57))
    generalize wd.alloc (.cells #[.bool false, .bool false, .bool false, .nilFunc] 57) = wa0 at BKk HB BKc ⊢
    generalize wd.heap.size = gk at BKk GK NE ⊢
    refine hK.out _ _ (((blk_cell BKc.out 0).trans rfl)) (fun hHeld => ?_)
    clear hK K
    refine norm_ (a' := ?_) ?_ ?_
    rotate_left
    ·show Act.put _ (some 3) _ = _
     simp only [Act.put, Kx.sb, Kx.sz, Kx.ss, i64_w, i32_w]
     rfl
    refine Cz.rO (N := some 10) 0 (fun K hK => ?_)
    refine goes_ Try.func31 (by kernel_rfl) rfl #[] (by rfl) rfl rfl (by simp) ?_
    refine (change_kinds.calls _).mono ?_
    rintro e wk1 ⟨rfl, hb⟩
    refine ⟨_, rfl, ?_⟩
    replace BKc := Cz.bk BKc hb
    replace BKk := Cz.bk BKk hb
    replace HB := Cz.bs (w := w) hb
    clear hb
    refine hK.out _ _ (((blk_cell BKc.out 0).trans rfl)) (fun hHeld => ?_)
    clear hK K
    refine norm_ (a' := ?_) ?_ ?_
    rotate_left
    ·show Act.put _ (some 10) _ = _
     simp only [Act.put, Kx.sb, Kx.sz, Kx.ss, i64_w, i32_w]
     rfl
    refine take_ (i := 3) (N := some 13) (v := ?_) (a' := ?_) #[true, true, true, true, true, false] rfl rfl (by kernel_rfl) (fun _ _ _ h => h) (Or.inl ⟨by rfl, ?_⟩) hHeld ?_ ?_
    rotate_left
    ·intro w' s0
     go_simp
     with_reducible rfl
    rotate_left
    ·simp only [Act.put, Kx.sb, Kx.sz, Kx.ss, i64_w, i32_w]
     rfl
    refine Cz.rO (N := none) 5 (fun K hK => ?_)
    obtain ⟨zk0, zk1, zk2, zk3, zf0, zf1, zf2, zf3⟩ := Cz.d4 BKk
    refine skip_ (w1 := ?_) (by rfl) rfl ?_ ?_
    rotate_left
    ·go_simp
     rfl
    refine hK.out _ _ (((blk_cell (blk_far (blk_far (blk_far (blk_far BKc.out (p := ⟨gk, 0, none⟩) NE.out.symm _) (p := ⟨gk, 1, none⟩) NE.out.symm _) (p := ⟨gk, 2, none⟩) NE.out.symm _) (p := ⟨gk, 3, none⟩) NE.out.symm _) 0).trans rfl)) (fun hHeld => ?_)
    clear hK K
    have n_BKk : Aside0 (((((wk1.setCell ⟨gk, 0, none⟩ (.bool true)).setCell ⟨gk, 1, none⟩ (.bool false)).setCell ⟨gk, 2, none⟩ (.bool false)).setCell ⟨gk, 3, none⟩ (.func (.func 45) #[] #[])).heap[gk]? = some (.cells #[.bool true, .bool false, .bool false, .func (.func 45) #[] #[]] 57 (0, 0))) := ⟨(blk_put (cs := #[.bool true, .bool false, .bool false, .nilFunc]) (blk_put (cs := #[.bool true, .bool false, .bool false, .nilFunc]) (blk_put (cs := #[.bool true, .bool false, .bool false, .nilFunc]) (blk_put (cs := #[.bool false, .bool false, .bool false, .nilFunc]) BKk.out 0 (.bool true) rfl) 1 (.bool false) rfl) 2 (.bool false) rfl) 3 (.func (.func 45) #[] #[]) rfl)⟩
    have n_BKc := Aside0.mk (show ((((wk1.setCell ⟨gk, 0, none⟩ (.bool true)).setCell ⟨gk, 1, none⟩ (.bool false)).setCell ⟨gk, 2, none⟩ (.bool false)).setCell ⟨gk, 3, none⟩ (.func (.func 45) #[] #[])).heap[gc]? = _ from (blk_far (blk_far (blk_far (blk_far BKc.out (p := ⟨gk, 0, none⟩) NE.out.symm _) (p := ⟨gk, 1, none⟩) NE.out.symm _) (p := ⟨gk, 2, none⟩) NE.out.symm _) (p := ⟨gk, 3, none⟩) NE.out.symm _))
    have n_HB := Aside0.mk (show Below w.heap.size w ((((wk1.setCell ⟨gk, 0, none⟩ (.bool true)).setCell ⟨gk, 1, none⟩ (.bool false)).setCell ⟨gk, 2, none⟩ (.bool false)).setCell ⟨gk, 3, none⟩ (.func (.func 45) #[] #[])) from (below_set (below_set (below_set (below_set HB.out GK.out) GK.out) GK.out) GK.out))
    clear BKk BKc HB zk0 zk1 zk2 zk3 zf0 zf1 zf2 zf3
    have BKk := n_BKk
    have BKc := n_BKc
    have HB := n_HB
    clear n_BKk n_BKc n_HB
    generalize ((((wk1.setCell ⟨gk, 0, none⟩ (.bool true)).setCell ⟨gk, 1, none⟩ (.bool false)).setCell ⟨gk, 2, none⟩ (.bool false)).setCell ⟨gk, 3, none⟩ (.func (.func 45) #[] #[])) = ws2 at BKk BKc HB hHeld ⊢
    refine done_ (by kernel_rfl) ?_
    clear hHeld
    simp only [Exit.then]
    go_step
    go_meet
    case rel => exact ⟨gk, rfl, BKk, NE, GK, BKc, HB⟩
  ·skip
   replace BKc := Aside0.mk (blk_drew BKc.out)
   replace HB := Aside0.mk (below_drew HB.out)
   refine start_ (n := 6) (S := fun w' => w'.cell? ⟨gc, 0, none⟩ = some (.int .i64 3)) (ds := []) #[false, false, false, false, false, false] (by kernel_rfl) rfl rfl (((blk_cell BKc.out 0).trans rfl)) (fun hHeld => ?_)
   generalize w2.drew = wd at HB BKc hHeld ⊢
   refine Cz.rP 1 11 ?_
   refine take_ (i := 2) (N := some 12) (v := ?_) (a' := ?_) #[false, true, true, false, false, false] rfl rfl (by kernel_rfl) (fun _ _ _ h => h) (Or.inl ⟨by rfl, ?_⟩) hHeld ?_ ?_
   rotate_left
   ·intro w' s0
    go_simp
    with_reducible rfl
   rotate_left
   ·simp only [Act.put, Kx.sb, Kx.sz, Kx.ss, i64_w, i32_w]
    rfl
   refine two_ (i := 0) (j := 4) (Ni := some 10) (Nj := some 3) #[true, true, true, false, false, false] #[false, true, true, false, true, false] rfl rfl rfl rfl (by kernel_rfl) (by decide) (by decide) (fun K hK => ?_) (fun K hK => ?_)
   ·skip
    refine goes_ Try.func31 (by kernel_rfl) rfl #[] (by rfl) rfl rfl (by simp) ?_
    refine (change_kinds.calls _).mono ?_
    rintro e wk0 ⟨rfl, hb⟩
    refine ⟨_, rfl, ?_⟩
    replace BKc := Cz.bk BKc hb
    replace HB := Cz.bs (w := w) hb
    clear hb
    refine hK.out _ _ (((blk_cell BKc.out 0).trans rfl)) (fun hHeld => ?_)
    clear hK K
    refine norm_ (a' := ?_) ?_ ?_
    rotate_left
    ·show Act.put _ (some 10) _ = _
     simp only [Act.put, Kx.sb, Kx.sz, Kx.ss, i64_w, i32_w]
     rfl
    refine take_ (i := 3) (N := some 13) (v := ?_) (a' := ?_) #[true, true, true, true, false, false] rfl rfl (by kernel_rfl) (fun _ _ _ h => h) (Or.inl ⟨by rfl, ?_⟩) hHeld ?_ ?_
    rotate_left
    ·intro w' s0
     go_simp
     with_reducible rfl
    rotate_left
    ·simp only [Act.put, Kx.sb, Kx.sz, Kx.ss, i64_w, i32_w]
     rfl
    refine Cz.rO (N := some 3) 4 (fun K hK => ?_)
    refine value_ (w1 := ?_) (v := ?_) (by rfl) rfl ?_ ?_
    rotate_left 2
    ·go_simp
     constructor
     ·rfl
     ·rfl
    have BKk := Aside0.mk (blk_new wk0 (.cells #[.bool false, .bool false, .bool false, .nilFunc] 57))
    have GK := Aside0.mk (show w.heap.size ≤ wk0.heap.size from below_size HB.out)
    have NE := Aside0.mk (Nat.ne_of_gt (blk_lt BKc.out))
    replace BKc := Aside0.mk (blk_alloc BKc.out (.cells #[.bool false, .bool false, .bool false, .nilFunc] 57))
    replace HB := Aside0.mk (below_alloc HB.out (.cells #[.bool false, .bool false, .bool false, .nilFunc] 57))
    generalize wk0.alloc (.cells #[.bool false, .bool false, .bool false, .nilFunc] 57) = wa1 at BKk HB BKc ⊢
    generalize wk0.heap.size = gk at BKk GK NE ⊢
    refine hK.out _ _ (((blk_cell BKc.out 0).trans rfl)) (fun hHeld => ?_)
    clear hK K
    refine norm_ (a' := ?_) ?_ ?_
    rotate_left
    ·show Act.put _ (some 3) _ = _
     simp only [Act.put, Kx.sb, Kx.sz, Kx.ss, i64_w, i32_w]
     rfl
    refine Cz.rO (N := none) 5 (fun K hK => ?_)
    obtain ⟨zk0, zk1, zk2, zk3, zf0, zf1, zf2, zf3⟩ := Cz.d4 BKk
    refine skip_ (w1 := ?_) (by rfl) rfl ?_ ?_
    rotate_left
    ·go_simp
     rfl
    refine hK.out _ _ (((blk_cell (blk_far (blk_far (blk_far (blk_far BKc.out (p := ⟨gk, 0, none⟩) NE.out.symm _) (p := ⟨gk, 1, none⟩) NE.out.symm _) (p := ⟨gk, 2, none⟩) NE.out.symm _) (p := ⟨gk, 3, none⟩) NE.out.symm _) 0).trans rfl)) (fun hHeld => ?_)
    clear hK K
    have n_BKk : Aside0 (((((wa1.setCell ⟨gk, 0, none⟩ (.bool true)).setCell ⟨gk, 1, none⟩ (.bool false)).setCell ⟨gk, 2, none⟩ (.bool false)).setCell ⟨gk, 3, none⟩ (.func (.func 45) #[] #[])).heap[gk]? = some (.cells #[.bool true, .bool false, .bool false, .func (.func 45) #[] #[]] 57 (0, 0))) := ⟨(blk_put (cs := #[.bool true, .bool false, .bool false, .nilFunc]) (blk_put (cs := #[.bool true, .bool false, .bool false, .nilFunc]) (blk_put (cs := #[.bool true, .bool false, .bool false, .nilFunc]) (blk_put (cs := #[.bool false, .bool false, .bool false, .nilFunc]) BKk.out 0 (.bool true) rfl) 1 (.bool false) rfl) 2 (.bool false) rfl) 3 (.func (.func 45) #[] #[]) rfl)⟩
    have n_BKc := Aside0.mk (show ((((wa1.setCell ⟨gk, 0, none⟩ (.bool true)).setCell ⟨gk, 1, none⟩ (.bool false)).setCell ⟨gk, 2, none⟩ (.bool false)).setCell ⟨gk, 3, none⟩ (.func (.func 45) #[] #[])).heap[gc]? = _ from (blk_far (blk_far (blk_far (blk_far BKc.out (p := ⟨gk, 0, none⟩) NE.out.symm _) (p := ⟨gk, 1, none⟩) NE.out.symm _) (p := ⟨gk, 2, none⟩) NE.out.symm _) (p := ⟨gk, 3, none⟩) NE.out.symm _))
    have n_HB := Aside0.mk (show Below w.heap.size w ((((wa1.setCell ⟨gk, 0, none⟩ (.bool true)).setCell ⟨gk, 1, none⟩ (.bool false)).setCell ⟨gk, 2, none⟩ (.bool false)).setCell ⟨gk, 3, none⟩ (.func (.func 45) #[] #[])) from (below_set (below_set (below_set (below_set HB.out GK.out) GK.out) GK.out) GK.out))
    clear BKk BKc HB zk0 zk1 zk2 zk3 zf0 zf1 zf2 zf3
    have BKk := n_BKk
    have BKc := n_BKc
    have HB := n_HB
    clear n_BKk n_BKc n_HB
    generalize ((((wa1.setCell ⟨gk, 0, none⟩ (.bool true)).setCell ⟨gk, 1, none⟩ (.bool false)).setCell ⟨gk, 2, none⟩ (.bool false)).setCell ⟨gk, 3, none⟩ (.func (.func 45) #[] #[])) = ws2 at BKk BKc HB hHeld ⊢
    refine done_ (by kernel_rfl) ?_
    clear hHeld
    simp only [Exit.then]
    go_step
    go_meet
    case rel => exact ⟨gk, rfl, BKk, NE, GK, BKc, HB⟩
   ·skip
    refine value_ (w1 := ?_) (v := ?_) (by rfl) rfl ?_ ?_
    rotate_left 2
    ·go_simp
     constructor
     ·rfl
     ·rfl
    have BKk := Aside0.mk (blk_new wd (.cells #[.bool false, .bool false, .bool false, .nilFunc] 57))
    have GK := Aside0.mk (show w.heap.size ≤ wd.heap.size from below_size HB.out)
    have NE := Aside0.mk (Nat.ne_of_gt (blk_lt BKc.out))
    replace BKc := Aside0.mk (blk_alloc BKc.out (.cells #[.bool false, .bool false, .bool false, .nilFunc] 57))
    replace HB := Aside0.mk (below_alloc HB.out (.cells #[.bool false, .bool false, .bool false, .nilFunc] 57))
    generalize wd.alloc (.cells #[.bool false, .bool false, .bool false, .nilFunc] 57) = wa0 at BKk HB BKc ⊢
    generalize wd.heap.size = gk at BKk GK NE ⊢
    refine hK.out _ _ (((blk_cell BKc.out 0).trans rfl)) (fun hHeld => ?_)
    clear hK K
    refine norm_ (a' := ?_) ?_ ?_
    rotate_left
    ·show Act.put _ (some 3) _ = _
     simp only [Act.put, Kx.sb, Kx.sz, Kx.ss, i64_w, i32_w]
     rfl
    refine Cz.rO (N := some 10) 0 (fun K hK => ?_)
    refine goes_ Try.func31 (by kernel_rfl) rfl #[] (by rfl) rfl rfl (by simp) ?_
    refine (change_kinds.calls _).mono ?_
    rintro e wk1 ⟨rfl, hb⟩
    refine ⟨_, rfl, ?_⟩
    replace BKc := Cz.bk BKc hb
    replace BKk := Cz.bk BKk hb
    replace HB := Cz.bs (w := w) hb
    clear hb
    refine hK.out _ _ (((blk_cell BKc.out 0).trans rfl)) (fun hHeld => ?_)
    clear hK K
    refine norm_ (a' := ?_) ?_ ?_
    rotate_left
    ·show Act.put _ (some 10) _ = _
     simp only [Act.put, Kx.sb, Kx.sz, Kx.ss, i64_w, i32_w]
     rfl
    refine take_ (i := 3) (N := some 13) (v := ?_) (a' := ?_) #[true, true, true, true, true, false] rfl rfl (by kernel_rfl) (fun _ _ _ h => h) (Or.inl ⟨by rfl, ?_⟩) hHeld ?_ ?_
    rotate_left
    ·intro w' s0
     go_simp
     with_reducible rfl
    rotate_left
    ·simp only [Act.put, Kx.sb, Kx.sz, Kx.ss, i64_w, i32_w]
     rfl
    refine Cz.rO (N := none) 5 (fun K hK => ?_)
    obtain ⟨zk0, zk1, zk2, zk3, zf0, zf1, zf2, zf3⟩ := Cz.d4 BKk
    refine skip_ (w1 := ?_) (by rfl) rfl ?_ ?_
    rotate_left
    ·go_simp
     rfl
    refine hK.out _ _ (((blk_cell (blk_far (blk_far (blk_far (blk_far BKc.out (p := ⟨gk, 0, none⟩) NE.out.symm _) (p := ⟨gk, 1, none⟩) NE.out.symm _) (p := ⟨gk, 2, none⟩) NE.out.symm _) (p := ⟨gk, 3, none⟩) NE.out.symm _) 0).trans rfl)) (fun hHeld => ?_)
    clear hK K
    have n_BKk : Aside0 (((((wk1.setCell ⟨gk, 0, none⟩ (.bool true)).setCell ⟨gk, 1, none⟩ (.bool false)).setCell ⟨gk, 2, none⟩ (.bool false)).setCell ⟨gk, 3, none⟩ (.func (.func 45) #[] #[])).heap[gk]? = some (.cells #[.bool true, .bool false, .bool false, .func (.func 45) #[] #[]] 57 (0, 0))) := ⟨(blk_put (cs := #[.bool true, .bool false, .bool false, .nilFunc]) (blk_put (cs := #[.bool true, .bool false, .bool false, .nilFunc]) (blk_put (cs := #[.bool true, .bool false, .bool false, .nilFunc]) (blk_put (cs := #[.bool false, .bool false, .bool false, .nilFunc]) BKk.out 0 (.bool true) rfl) 1 (.bool false) rfl) 2 (.bool false) rfl) 3 (.func (.func 45) #[] #[]) rfl)⟩
    have n_BKc := Aside0.mk (show ((((wk1.setCell ⟨gk, 0, none⟩ (.bool true)).setCell ⟨gk, 1, none⟩ (.bool false)).setCell ⟨gk, 2, none⟩ (.bool false)).setCell ⟨gk, 3, none⟩ (.func (.func 45) #[] #[])).heap[gc]? = _ from (blk_far (blk_far (blk_far (blk_far BKc.out (p := ⟨gk, 0, none⟩) NE.out.symm _) (p := ⟨gk, 1, none⟩) NE.out.symm _) (p := ⟨gk, 2, none⟩) NE.out.symm _) (p := ⟨gk, 3, none⟩) NE.out.symm _))
    have n_HB := Aside0.mk (show Below w.heap.size w ((((wk1.setCell ⟨gk, 0, none⟩ (.bool true)).setCell ⟨gk, 1, none⟩ (.bool false)).setCell ⟨gk, 2, none⟩ (.bool false)).setCell ⟨gk, 3, none⟩ (.func (.func 45) #[] #[])) from (below_set (below_set (below_set (below_set HB.out GK.out) GK.out) GK.out) GK.out))
    clear BKk BKc HB zk0 zk1 zk2 zk3 zf0 zf1 zf2 zf3
    have BKk := n_BKk
    have BKc := n_BKc
    have HB := n_HB
    clear n_BKk n_BKc n_HB
    generalize ((((wk1.setCell ⟨gk, 0, none⟩ (.bool true)).setCell ⟨gk, 1, none⟩ (.bool false)).setCell ⟨gk, 2, none⟩ (.bool false)).setCell ⟨gk, 3, none⟩ (.func (.func 45) #[] #[])) = ws2 at BKk BKc HB hHeld ⊢
    refine done_ (by kernel_rfl) ?_
    clear hHeld
    simp only [Exit.then]
    go_step
    go_meet
    case rel => exact ⟨gk, rfl, BKk, NE, GK, BKc, HB⟩
 case rest =>
  clear BKc HB
  obtain ⟨gk, rfl, BKk, NE, GK, BKc, HB⟩ := hcut
  obtain ⟨o0, o1, o2, o3, o4, o5⟩ := Cz.c6 BKc
  obtain ⟨m0, m1, m2, m3⟩ := Cz.c4 BKk
  by_cases ha : a = 0
  ·have ta : (a == 0) = true := beq_iff_eq.mpr ha
   have HA := Aside0.mk ha
   clear ha
   by_cases hn : n = 0
   ·have tn : (n == 0) = true := beq_iff_eq.mpr hn
    have HN := Aside0.mk hn
    clear hn
    by_cases h1 : 0 ≤ a ∧ a ≤ 64
    ·have H1 := Aside0.mk h1
     clear h1
     have F1 : Aside0 (change_within.f a 0 (64) = some true) := ⟨by have q0 := H1.out; unfold change_within.f; rw [if_pos (by omega), decide_eq_true (by omega)]⟩
     by_cases h2 : 1 ≤ n ∧ n ≤ 64 - a
     ·have H2 := Aside0.mk h2
      clear h2
      have F2 : Aside0 (change_within.f n 1 (64 - a) = some true) := ⟨by have q0 := H2.out; unfold change_within.f; rw [if_pos (by omega), decide_eq_true (by omega)]⟩
      have F3 : Aside0 (change_within.f n 1 (wrap64 (64 - a)) = some true) := ⟨by rw [show wrap64 (64 - a) = 64 - a by (have := H1.out; unfold wrap64; omega)]; exact F2.out⟩
      have F4 : Aside0 (change_within.f n 1 (IntKind.i64.wrap (64 - a)) = some true) := ⟨by rw [i64_w]; exact F3.out⟩
      have BB : Aside0 (Pl.blocksB a n = true) := ⟨by unfold Pl.blocksB; have := H1.out; have := H2.out; simp; omega⟩
      by_cases h3 : i = 0
      ·have ti : (i == 0) = true := beq_iff_eq.mpr h3
       have H3 := Aside0.mk h3
       clear h3
       by_cases h4 : d.length = 0
       ·have HD : Aside0 (change_kinds_1.f k a n i d l = some true) := ⟨by unfold change_kinds_1.f; rw [h4]; rfl⟩
        have H4 := Aside0.mk h4
        clear h4
        by_cases h5 : l.length = 0
        ·have t51 : (l.length == 0) = true := by rw [h5]; rfl
         have t52 : ((l.length : Int) == 0) = true := by rw [h5]; rfl
         have H5 := Aside0.mk h5
         clear h5
         have E := Aside0.mk (show Pl.chOk k a n i d (l.map toE) = true by rw [Pl.chOk_2 HK.out]; simp [BB.out, H3.out, H4.out, H5.out])
         go_wp2_with (first | (go_at_call 30; (with_reducible show Calls _ _ #[.int .i64 a, .int .i64 0, _] _ _); refine (change_within.calls _ _ _ true _ ?hW).mono ?_; (case hW => first | exact F1.out); rintro e wa1 ⟨rfl, hd⟩; have hb := hd.below; clear hd; clear o0 o1 o2 o3 o4 o5 m0 m1 m2 m3; replace BKc := Cz.bk BKc hb; replace BKk := Cz.bk BKk hb; replace HB := Cz.bs (w := w) hb; clear hb; obtain ⟨o0, o1, o2, o3, o4, o5⟩ := Cz.c6 BKc; obtain ⟨m0, m1, m2, m3⟩ := Cz.c4 BKk) | (go_at_call 30; (with_reducible show Calls _ _ #[.int .i64 n, .int .i64 1, _] _ _); refine (change_within.calls _ _ _ true _ ?hW).mono ?_; (case hW => first | exact F2.out | exact F3.out | exact F4.out); rintro e wb1 ⟨rfl, hd⟩; have hb := hd.below; clear hd; clear o0 o1 o2 o3 o4 o5 m0 m1 m2 m3; replace BKc := Cz.bk BKc hb; replace BKk := Cz.bk BKk hb; replace HB := Cz.bs (w := w) hb; clear hb; obtain ⟨o0, o1, o2, o3, o4, o5⟩ := Cz.c6 BKc; obtain ⟨m0, m1, m2, m3⟩ := Cz.c4 BKk) | (go_at_call 45; refine (change_kinds_1.calls k a n i _ _ d _ _ l true _ (Kd.C_below HR4.out HB.out) HC4.out (Kd.C_below HR5.out HB.out) HC5.out HD.out).mono ?_; rintro e wd1 ⟨rfl, hb⟩; clear o0 o1 o2 o3 o4 o5 m0 m1 m2 m3; replace BKc := Cz.bk BKc hb; replace BKk := Cz.bk BKk hb; replace HB := Cz.bs (w := w) hb; clear hb; obtain ⟨o0, o1, o2, o3, o4, o5⟩ := Cz.c6 BKc; obtain ⟨m0, m1, m2, m3⟩ := Cz.c4 BKk))
         go_ret
         exact ⟨by rw [E.out]; rfl, HB.out⟩
        ·have t51 : (l.length == 0) = false := beq_eq_false_iff_ne.mpr h5
         have t52 : ((l.length : Int) == 0) = false := beq_eq_false_iff_ne.mpr (by omega)
         have t53 : (l.length = 0) = False := eq_false h5
         have H5 := Aside0.mk h5
         clear h5
         have HF : Aside0 (change_follows.f l = some (Pl.folS (l.map toE))) := ⟨change_follows.tells LL.out⟩
         have E := Aside0.mk (show Pl.chOk k a n i d (l.map toE) = false by rw [Pl.chOk_2 HK.out]; simp [BB.out, H3.out, H4.out, H5.out])
         go_wp2_with (first | (go_at_call 30; (with_reducible show Calls _ _ #[.int .i64 a, .int .i64 0, _] _ _); refine (change_within.calls _ _ _ true _ ?hW).mono ?_; (case hW => first | exact F1.out); rintro e wa1 ⟨rfl, hd⟩; have hb := hd.below; clear hd; clear o0 o1 o2 o3 o4 o5 m0 m1 m2 m3; replace BKc := Cz.bk BKc hb; replace BKk := Cz.bk BKk hb; replace HB := Cz.bs (w := w) hb; clear hb; obtain ⟨o0, o1, o2, o3, o4, o5⟩ := Cz.c6 BKc; obtain ⟨m0, m1, m2, m3⟩ := Cz.c4 BKk) | (go_at_call 30; (with_reducible show Calls _ _ #[.int .i64 n, .int .i64 1, _] _ _); refine (change_within.calls _ _ _ true _ ?hW).mono ?_; (case hW => first | exact F2.out | exact F3.out | exact F4.out); rintro e wb1 ⟨rfl, hd⟩; have hb := hd.below; clear hd; clear o0 o1 o2 o3 o4 o5 m0 m1 m2 m3; replace BKc := Cz.bk BKc hb; replace BKk := Cz.bk BKk hb; replace HB := Cz.bs (w := w) hb; clear hb; obtain ⟨o0, o1, o2, o3, o4, o5⟩ := Cz.c6 BKc; obtain ⟨m0, m1, m2, m3⟩ := Cz.c4 BKk) | (go_at_call 45; refine (change_kinds_1.calls k a n i _ _ d _ _ l true _ (Kd.C_below HR4.out HB.out) HC4.out (Kd.C_below HR5.out HB.out) HC5.out HD.out).mono ?_; rintro e wd1 ⟨rfl, hb⟩; clear o0 o1 o2 o3 o4 o5 m0 m1 m2 m3; replace BKc := Cz.bk BKc hb; replace BKk := Cz.bk BKk hb; replace HB := Cz.bs (w := w) hb; clear hb; obtain ⟨o0, o1, o2, o3, o4, o5⟩ := Cz.c6 BKc; obtain ⟨m0, m1, m2, m3⟩ := Cz.c4 BKk))
         go_ret
         exact ⟨by rw [E.out]; rfl, HB.out⟩
       ·have HD : Aside0 (change_kinds_1.f k a n i d l = some false) := ⟨by unfold change_kinds_1.f; rw [show ((d.length : Int) == 0) = false from beq_eq_false_iff_ne.mpr (by omega)]⟩
        have H4 := Aside0.mk h4
        clear h4
        have E := Aside0.mk (show Pl.chOk k a n i d (l.map toE) = false by rw [Pl.chOk_2 HK.out]; simp [BB.out, H3.out, H4.out])
        go_wp2_with (first | (go_at_call 30; (with_reducible show Calls _ _ #[.int .i64 a, .int .i64 0, _] _ _); refine (change_within.calls _ _ _ true _ ?hW).mono ?_; (case hW => first | exact F1.out); rintro e wa1 ⟨rfl, hd⟩; have hb := hd.below; clear hd; clear o0 o1 o2 o3 o4 o5 m0 m1 m2 m3; replace BKc := Cz.bk BKc hb; replace BKk := Cz.bk BKk hb; replace HB := Cz.bs (w := w) hb; clear hb; obtain ⟨o0, o1, o2, o3, o4, o5⟩ := Cz.c6 BKc; obtain ⟨m0, m1, m2, m3⟩ := Cz.c4 BKk) | (go_at_call 30; (with_reducible show Calls _ _ #[.int .i64 n, .int .i64 1, _] _ _); refine (change_within.calls _ _ _ true _ ?hW).mono ?_; (case hW => first | exact F2.out | exact F3.out | exact F4.out); rintro e wb1 ⟨rfl, hd⟩; have hb := hd.below; clear hd; clear o0 o1 o2 o3 o4 o5 m0 m1 m2 m3; replace BKc := Cz.bk BKc hb; replace BKk := Cz.bk BKk hb; replace HB := Cz.bs (w := w) hb; clear hb; obtain ⟨o0, o1, o2, o3, o4, o5⟩ := Cz.c6 BKc; obtain ⟨m0, m1, m2, m3⟩ := Cz.c4 BKk) | (go_at_call 45; refine (change_kinds_1.calls k a n i _ _ d _ _ l false _ (Kd.C_below HR4.out HB.out) HC4.out (Kd.C_below HR5.out HB.out) HC5.out HD.out).mono ?_; rintro e wd1 ⟨rfl, hb⟩; clear o0 o1 o2 o3 o4 o5 m0 m1 m2 m3; replace BKc := Cz.bk BKc hb; replace BKk := Cz.bk BKk hb; replace HB := Cz.bs (w := w) hb; clear hb; obtain ⟨o0, o1, o2, o3, o4, o5⟩ := Cz.c6 BKc; obtain ⟨m0, m1, m2, m3⟩ := Cz.c4 BKk))
        go_ret
        exact ⟨by rw [E.out]; rfl, HB.out⟩
      ·have ti : (i == 0) = false := beq_eq_false_iff_ne.mpr h3
       have H3 := Aside0.mk h3
       clear h3
       have E := Aside0.mk (show Pl.chOk k a n i d (l.map toE) = false by rw [Pl.chOk_2 HK.out]; simp [BB.out, H3.out])
       go_wp2_with (first | (go_at_call 30; (with_reducible show Calls _ _ #[.int .i64 a, .int .i64 0, _] _ _); refine (change_within.calls _ _ _ true _ ?hW).mono ?_; (case hW => first | exact F1.out); rintro e wa1 ⟨rfl, hd⟩; have hb := hd.below; clear hd; clear o0 o1 o2 o3 o4 o5 m0 m1 m2 m3; replace BKc := Cz.bk BKc hb; replace BKk := Cz.bk BKk hb; replace HB := Cz.bs (w := w) hb; clear hb; obtain ⟨o0, o1, o2, o3, o4, o5⟩ := Cz.c6 BKc; obtain ⟨m0, m1, m2, m3⟩ := Cz.c4 BKk) | (go_at_call 30; (with_reducible show Calls _ _ #[.int .i64 n, .int .i64 1, _] _ _); refine (change_within.calls _ _ _ true _ ?hW).mono ?_; (case hW => first | exact F2.out | exact F3.out | exact F4.out); rintro e wb1 ⟨rfl, hd⟩; have hb := hd.below; clear hd; clear o0 o1 o2 o3 o4 o5 m0 m1 m2 m3; replace BKc := Cz.bk BKc hb; replace BKk := Cz.bk BKk hb; replace HB := Cz.bs (w := w) hb; clear hb; obtain ⟨o0, o1, o2, o3, o4, o5⟩ := Cz.c6 BKc; obtain ⟨m0, m1, m2, m3⟩ := Cz.c4 BKk))
       go_ret
       exact ⟨by rw [E.out]; rfl, HB.out⟩
     ·have H2 := Aside0.mk h2
      clear h2
      have F2 : Aside0 (change_within.f n 1 (64 - a) = some false) := ⟨by have q0 := H2.out; unfold change_within.f; by_cases q : n ≥ 1 <;> first | (rw [if_pos q, decide_eq_false (by omega)]; done) | (rw [if_neg q]; done)⟩
      have F3 : Aside0 (change_within.f n 1 (wrap64 (64 - a)) = some false) := ⟨by rw [show wrap64 (64 - a) = 64 - a by (have := H1.out; unfold wrap64; omega)]; exact F2.out⟩
      have F4 : Aside0 (change_within.f n 1 (IntKind.i64.wrap (64 - a)) = some false) := ⟨by rw [i64_w]; exact F3.out⟩
      have BB : Aside0 (Pl.blocksB a n = false) := ⟨by unfold Pl.blocksB; have := H2.out; simp; omega⟩
      have E := Aside0.mk (show Pl.chOk k a n i d (l.map toE) = false by rw [Pl.chOk_2 HK.out]; simp [BB.out])
      go_wp2_with (first | (go_at_call 30; (with_reducible show Calls _ _ #[.int .i64 a, .int .i64 0, _] _ _); refine (change_within.calls _ _ _ true _ ?hW).mono ?_; (case hW => first | exact F1.out); rintro e wa1 ⟨rfl, hd⟩; have hb := hd.below; clear hd; clear o0 o1 o2 o3 o4 o5 m0 m1 m2 m3; replace BKc := Cz.bk BKc hb; replace BKk := Cz.bk BKk hb; replace HB := Cz.bs (w := w) hb; clear hb; obtain ⟨o0, o1, o2, o3, o4, o5⟩ := Cz.c6 BKc; obtain ⟨m0, m1, m2, m3⟩ := Cz.c4 BKk) | (go_at_call 30; (with_reducible show Calls _ _ #[.int .i64 n, .int .i64 1, _] _ _); refine (change_within.calls _ _ _ false _ ?hW).mono ?_; (case hW => first | exact F2.out | exact F3.out | exact F4.out); rintro e wb1 ⟨rfl, hd⟩; have hb := hd.below; clear hd; clear o0 o1 o2 o3 o4 o5 m0 m1 m2 m3; replace BKc := Cz.bk BKc hb; replace BKk := Cz.bk BKk hb; replace HB := Cz.bs (w := w) hb; clear hb; obtain ⟨o0, o1, o2, o3, o4, o5⟩ := Cz.c6 BKc; obtain ⟨m0, m1, m2, m3⟩ := Cz.c4 BKk))
      go_ret
      exact ⟨by rw [E.out]; rfl, HB.out⟩
    ·have H1 := Aside0.mk h1
     clear h1
     have F1 : Aside0 (change_within.f a 0 64 = some false) := ⟨by have q0 := H1.out; unfold change_within.f; by_cases q : a ≥ 0 <;> first | (rw [if_pos q, decide_eq_false (by omega)]; done) | (rw [if_neg q]; done)⟩
     have BB : Aside0 (Pl.blocksB a n = false) := ⟨by unfold Pl.blocksB; have := H1.out; simp; omega⟩
     have E := Aside0.mk (show Pl.chOk k a n i d (l.map toE) = false by rw [Pl.chOk_2 HK.out]; simp [BB.out])
     go_wp2_with (first | (go_at_call 30; (with_reducible show Calls _ _ #[.int .i64 a, .int .i64 0, _] _ _); refine (change_within.calls _ _ _ false _ ?hW).mono ?_; (case hW => first | exact F1.out); rintro e wa1 ⟨rfl, hd⟩; have hb := hd.below; clear hd; clear o0 o1 o2 o3 o4 o5 m0 m1 m2 m3; replace BKc := Cz.bk BKc hb; replace BKk := Cz.bk BKk hb; replace HB := Cz.bs (w := w) hb; clear hb; obtain ⟨o0, o1, o2, o3, o4, o5⟩ := Cz.c6 BKc; obtain ⟨m0, m1, m2, m3⟩ := Cz.c4 BKk))
     go_ret
     exact ⟨by rw [E.out]; rfl, HB.out⟩
   ·have tn : (n == 0) = false := beq_eq_false_iff_ne.mpr hn
    have HN := Aside0.mk hn
    clear hn
    by_cases h1 : 0 ≤ a ∧ a ≤ 64
    ·have H1 := Aside0.mk h1
     clear h1
     have F1 : Aside0 (change_within.f a 0 (64) = some true) := ⟨by have q0 := H1.out; unfold change_within.f; rw [if_pos (by omega), decide_eq_true (by omega)]⟩
     by_cases h2 : 1 ≤ n ∧ n ≤ 64 - a
     ·have H2 := Aside0.mk h2
      clear h2
      have F2 : Aside0 (change_within.f n 1 (64 - a) = some true) := ⟨by have q0 := H2.out; unfold change_within.f; rw [if_pos (by omega), decide_eq_true (by omega)]⟩
      have F3 : Aside0 (change_within.f n 1 (wrap64 (64 - a)) = some true) := ⟨by rw [show wrap64 (64 - a) = 64 - a by (have := H1.out; unfold wrap64; omega)]; exact F2.out⟩
      have F4 : Aside0 (change_within.f n 1 (IntKind.i64.wrap (64 - a)) = some true) := ⟨by rw [i64_w]; exact F3.out⟩
      have BB : Aside0 (Pl.blocksB a n = true) := ⟨by unfold Pl.blocksB; have := H1.out; have := H2.out; simp; omega⟩
      by_cases h3 : i = 0
      ·have ti : (i == 0) = true := beq_iff_eq.mpr h3
       have H3 := Aside0.mk h3
       clear h3
       by_cases h4 : d.length = 0
       ·have HD : Aside0 (change_kinds_1.f k a n i d l = some true) := ⟨by unfold change_kinds_1.f; rw [h4]; rfl⟩
        have H4 := Aside0.mk h4
        clear h4
        by_cases h5 : l.length = 0
        ·have t51 : (l.length == 0) = true := by rw [h5]; rfl
         have t52 : ((l.length : Int) == 0) = true := by rw [h5]; rfl
         have H5 := Aside0.mk h5
         clear h5
         have E := Aside0.mk (show Pl.chOk k a n i d (l.map toE) = true by rw [Pl.chOk_2 HK.out]; simp [BB.out, H3.out, H4.out, H5.out])
         go_wp2_with (first | (go_at_call 30; (with_reducible show Calls _ _ #[.int .i64 a, .int .i64 0, _] _ _); refine (change_within.calls _ _ _ true _ ?hW).mono ?_; (case hW => first | exact F1.out); rintro e wa1 ⟨rfl, hd⟩; have hb := hd.below; clear hd; clear o0 o1 o2 o3 o4 o5 m0 m1 m2 m3; replace BKc := Cz.bk BKc hb; replace BKk := Cz.bk BKk hb; replace HB := Cz.bs (w := w) hb; clear hb; obtain ⟨o0, o1, o2, o3, o4, o5⟩ := Cz.c6 BKc; obtain ⟨m0, m1, m2, m3⟩ := Cz.c4 BKk) | (go_at_call 30; (with_reducible show Calls _ _ #[.int .i64 n, .int .i64 1, _] _ _); refine (change_within.calls _ _ _ true _ ?hW).mono ?_; (case hW => first | exact F2.out | exact F3.out | exact F4.out); rintro e wb1 ⟨rfl, hd⟩; have hb := hd.below; clear hd; clear o0 o1 o2 o3 o4 o5 m0 m1 m2 m3; replace BKc := Cz.bk BKc hb; replace BKk := Cz.bk BKk hb; replace HB := Cz.bs (w := w) hb; clear hb; obtain ⟨o0, o1, o2, o3, o4, o5⟩ := Cz.c6 BKc; obtain ⟨m0, m1, m2, m3⟩ := Cz.c4 BKk) | (go_at_call 45; refine (change_kinds_1.calls k a n i _ _ d _ _ l true _ (Kd.C_below HR4.out HB.out) HC4.out (Kd.C_below HR5.out HB.out) HC5.out HD.out).mono ?_; rintro e wd1 ⟨rfl, hb⟩; clear o0 o1 o2 o3 o4 o5 m0 m1 m2 m3; replace BKc := Cz.bk BKc hb; replace BKk := Cz.bk BKk hb; replace HB := Cz.bs (w := w) hb; clear hb; obtain ⟨o0, o1, o2, o3, o4, o5⟩ := Cz.c6 BKc; obtain ⟨m0, m1, m2, m3⟩ := Cz.c4 BKk))
         go_ret
         exact ⟨by rw [E.out]; rfl, HB.out⟩
        ·have t51 : (l.length == 0) = false := beq_eq_false_iff_ne.mpr h5
         have t52 : ((l.length : Int) == 0) = false := beq_eq_false_iff_ne.mpr (by omega)
         have t53 : (l.length = 0) = False := eq_false h5
         have H5 := Aside0.mk h5
         clear h5
         have HF : Aside0 (change_follows.f l = some (Pl.folS (l.map toE))) := ⟨change_follows.tells LL.out⟩
         have E := Aside0.mk (show Pl.chOk k a n i d (l.map toE) = false by rw [Pl.chOk_2 HK.out]; simp [BB.out, H3.out, H4.out, H5.out])
         go_wp2_with (first | (go_at_call 30; (with_reducible show Calls _ _ #[.int .i64 a, .int .i64 0, _] _ _); refine (change_within.calls _ _ _ true _ ?hW).mono ?_; (case hW => first | exact F1.out); rintro e wa1 ⟨rfl, hd⟩; have hb := hd.below; clear hd; clear o0 o1 o2 o3 o4 o5 m0 m1 m2 m3; replace BKc := Cz.bk BKc hb; replace BKk := Cz.bk BKk hb; replace HB := Cz.bs (w := w) hb; clear hb; obtain ⟨o0, o1, o2, o3, o4, o5⟩ := Cz.c6 BKc; obtain ⟨m0, m1, m2, m3⟩ := Cz.c4 BKk) | (go_at_call 30; (with_reducible show Calls _ _ #[.int .i64 n, .int .i64 1, _] _ _); refine (change_within.calls _ _ _ true _ ?hW).mono ?_; (case hW => first | exact F2.out | exact F3.out | exact F4.out); rintro e wb1 ⟨rfl, hd⟩; have hb := hd.below; clear hd; clear o0 o1 o2 o3 o4 o5 m0 m1 m2 m3; replace BKc := Cz.bk BKc hb; replace BKk := Cz.bk BKk hb; replace HB := Cz.bs (w := w) hb; clear hb; obtain ⟨o0, o1, o2, o3, o4, o5⟩ := Cz.c6 BKc; obtain ⟨m0, m1, m2, m3⟩ := Cz.c4 BKk) | (go_at_call 45; refine (change_kinds_1.calls k a n i _ _ d _ _ l true _ (Kd.C_below HR4.out HB.out) HC4.out (Kd.C_below HR5.out HB.out) HC5.out HD.out).mono ?_; rintro e wd1 ⟨rfl, hb⟩; clear o0 o1 o2 o3 o4 o5 m0 m1 m2 m3; replace BKc := Cz.bk BKc hb; replace BKk := Cz.bk BKk hb; replace HB := Cz.bs (w := w) hb; clear hb; obtain ⟨o0, o1, o2, o3, o4, o5⟩ := Cz.c6 BKc; obtain ⟨m0, m1, m2, m3⟩ := Cz.c4 BKk))
         go_ret
         exact ⟨by rw [E.out]; rfl, HB.out⟩
       ·have HD : Aside0 (change_kinds_1.f k a n i d l = some false) := ⟨by unfold change_kinds_1.f; rw [show ((d.length : Int) == 0) = false from beq_eq_false_iff_ne.mpr (by omega)]⟩
        have H4 := Aside0.mk h4
        clear h4
        have E := Aside0.mk (show Pl.chOk k a n i d (l.map toE) = false by rw [Pl.chOk_2 HK.out]; simp [BB.out, H3.out, H4.out])
        go_wp2_with (first | (go_at_call 30; (with_reducible show Calls _ _ #[.int .i64 a, .int .i64 0, _] _ _); refine (change_within.calls _ _ _ true _ ?hW).mono ?_; (case hW => first | exact F1.out); rintro e wa1 ⟨rfl, hd⟩; have hb := hd.below; clear hd; clear o0 o1 o2 o3 o4 o5 m0 m1 m2 m3; replace BKc := Cz.bk BKc hb; replace BKk := Cz.bk BKk hb; replace HB := Cz.bs (w := w) hb; clear hb; obtain ⟨o0, o1, o2, o3, o4, o5⟩ := Cz.c6 BKc; obtain ⟨m0, m1, m2, m3⟩ := Cz.c4 BKk) | (go_at_call 30; (with_reducible show Calls _ _ #[.int .i64 n, .int .i64 1, _] _ _); refine (change_within.calls _ _ _ true _ ?hW).mono ?_; (case hW => first | exact F2.out | exact F3.out | exact F4.out); rintro e wb1 ⟨rfl, hd⟩; have hb := hd.below; clear hd; clear o0 o1 o2 o3 o4 o5 m0 m1 m2 m3; replace BKc := Cz.bk BKc hb; replace BKk := Cz.bk BKk hb; replace HB := Cz.bs (w := w) hb; clear hb; obtain ⟨o0, o1, o2, o3, o4, o5⟩ := Cz.c6 BKc; obtain ⟨m0, m1, m2, m3⟩ := Cz.c4 BKk) | (go_at_call 45; refine (change_kinds_1.calls k a n i _ _ d _ _ l false _ (Kd.C_below HR4.out HB.out) HC4.out (Kd.C_below HR5.out HB.out) HC5.out HD.out).mono ?_; rintro e wd1 ⟨rfl, hb⟩; clear o0 o1 o2 o3 o4 o5 m0 m1 m2 m3; replace BKc := Cz.bk BKc hb; replace BKk := Cz.bk BKk hb; replace HB := Cz.bs (w := w) hb; clear hb; obtain ⟨o0, o1, o2, o3, o4, o5⟩ := Cz.c6 BKc; obtain ⟨m0, m1, m2, m3⟩ := Cz.c4 BKk))
        go_ret
        exact ⟨by rw [E.out]; rfl, HB.out⟩
      ·have ti : (i == 0) = false := beq_eq_false_iff_ne.mpr h3
       have H3 := Aside0.mk h3
       clear h3
       have E := Aside0.mk (show Pl.chOk k a n i d (l.map toE) = false by rw [Pl.chOk_2 HK.out]; simp [BB.out, H3.out])
       go_wp2_with (first | (go_at_call 30; (with_reducible show Calls _ _ #[.int .i64 a, .int .i64 0, _] _ _); refine (change_within.calls _ _ _ true _ ?hW).mono ?_; (case hW => first | exact F1.out); rintro e wa1 ⟨rfl, hd⟩; have hb := hd.below; clear hd; clear o0 o1 o2 o3 o4 o5 m0 m1 m2 m3; replace BKc := Cz.bk BKc hb; replace BKk := Cz.bk BKk hb; replace HB := Cz.bs (w := w) hb; clear hb; obtain ⟨o0, o1, o2, o3, o4, o5⟩ := Cz.c6 BKc; obtain ⟨m0, m1, m2, m3⟩ := Cz.c4 BKk) | (go_at_call 30; (with_reducible show Calls _ _ #[.int .i64 n, .int .i64 1, _] _ _); refine (change_within.calls _ _ _ true _ ?hW).mono ?_; (case hW => first | exact F2.out | exact F3.out | exact F4.out); rintro e wb1 ⟨rfl, hd⟩; have hb := hd.below; clear hd; clear o0 o1 o2 o3 o4 o5 m0 m1 m2 m3; replace BKc := Cz.bk BKc hb; replace BKk := Cz.bk BKk hb; replace HB := Cz.bs (w := w) hb; clear hb; obtain ⟨o0, o1, o2, o3, o4, o5⟩ := Cz.c6 BKc; obtain ⟨m0, m1, m2, m3⟩ := Cz.c4 BKk))
       go_ret
       exact ⟨by rw [E.out]; rfl, HB.out⟩
     ·have H2 := Aside0.mk h2
      clear h2
      have F2 : Aside0 (change_within.f n 1 (64 - a) = some false) := ⟨by have q0 := H2.out; unfold change_within.f; by_cases q : n ≥ 1 <;> first | (rw [if_pos q, decide_eq_false (by omega)]; done) | (rw [if_neg q]; done)⟩
      have F3 : Aside0 (change_within.f n 1 (wrap64 (64 - a)) = some false) := ⟨by rw [show wrap64 (64 - a) = 64 - a by (have := H1.out; unfold wrap64; omega)]; exact F2.out⟩
      have F4 : Aside0 (change_within.f n 1 (IntKind.i64.wrap (64 - a)) = some false) := ⟨by rw [i64_w]; exact F3.out⟩
      have BB : Aside0 (Pl.blocksB a n = false) := ⟨by unfold Pl.blocksB; have := H2.out; simp; omega⟩
      have E := Aside0.mk (show Pl.chOk k a n i d (l.map toE) = false by rw [Pl.chOk_2 HK.out]; simp [BB.out])
      go_wp2_with (first | (go_at_call 30; (with_reducible show Calls _ _ #[.int .i64 a, .int .i64 0, _] _ _); refine (change_within.calls _ _ _ true _ ?hW).mono ?_; (case hW => first | exact F1.out); rintro e wa1 ⟨rfl, hd⟩; have hb := hd.below; clear hd; clear o0 o1 o2 o3 o4 o5 m0 m1 m2 m3; replace BKc := Cz.bk BKc hb; replace BKk := Cz.bk BKk hb; replace HB := Cz.bs (w := w) hb; clear hb; obtain ⟨o0, o1, o2, o3, o4, o5⟩ := Cz.c6 BKc; obtain ⟨m0, m1, m2, m3⟩ := Cz.c4 BKk) | (go_at_call 30; (with_reducible show Calls _ _ #[.int .i64 n, .int .i64 1, _] _ _); refine (change_within.calls _ _ _ false _ ?hW).mono ?_; (case hW => first | exact F2.out | exact F3.out | exact F4.out); rintro e wb1 ⟨rfl, hd⟩; have hb := hd.below; clear hd; clear o0 o1 o2 o3 o4 o5 m0 m1 m2 m3; replace BKc := Cz.bk BKc hb; replace BKk := Cz.bk BKk hb; replace HB := Cz.bs (w := w) hb; clear hb; obtain ⟨o0, o1, o2, o3, o4, o5⟩ := Cz.c6 BKc; obtain ⟨m0, m1, m2, m3⟩ := Cz.c4 BKk))
      go_ret
      exact ⟨by rw [E.out]; rfl, HB.out⟩
    ·have H1 := Aside0.mk h1
     clear h1
     have F1 : Aside0 (change_within.f a 0 64 = some false) := ⟨by have q0 := H1.out; unfold change_within.f; by_cases q : a ≥ 0 <;> first | (rw [if_pos q, decide_eq_false (by omega)]; done) | (rw [if_neg q]; done)⟩
     have BB : Aside0 (Pl.blocksB a n = false) := ⟨by unfold Pl.blocksB; have := H1.out; simp; omega⟩
     have E := Aside0.mk (show Pl.chOk k a n i d (l.map toE) = false by rw [Pl.chOk_2 HK.out]; simp [BB.out])
     go_wp2_with (first | (go_at_call 30; (with_reducible show Calls _ _ #[.int .i64 a, .int .i64 0, _] _ _); refine (change_within.calls _ _ _ false _ ?hW).mono ?_; (case hW => first | exact F1.out); rintro e wa1 ⟨rfl, hd⟩; have hb := hd.below; clear hd; clear o0 o1 o2 o3 o4 o5 m0 m1 m2 m3; replace BKc := Cz.bk BKc hb; replace BKk := Cz.bk BKk hb; replace HB := Cz.bs (w := w) hb; clear hb; obtain ⟨o0, o1, o2, o3, o4, o5⟩ := Cz.c6 BKc; obtain ⟨m0, m1, m2, m3⟩ := Cz.c4 BKk))
     go_ret
     exact ⟨by rw [E.out]; rfl, HB.out⟩
  ·have ta : (a == 0) = false := beq_eq_false_iff_ne.mpr ha
   have HA := Aside0.mk ha
   clear ha
   by_cases h1 : 0 ≤ a ∧ a ≤ 64
   ·have H1 := Aside0.mk h1
    clear h1
    have F1 : Aside0 (change_within.f a 0 (64) = some true) := ⟨by have q0 := H1.out; unfold change_within.f; rw [if_pos (by omega), decide_eq_true (by omega)]⟩
    by_cases h2 : 1 ≤ n ∧ n ≤ 64 - a
    ·have H2 := Aside0.mk h2
     clear h2
     have F2 : Aside0 (change_within.f n 1 (64 - a) = some true) := ⟨by have q0 := H2.out; unfold change_within.f; rw [if_pos (by omega), decide_eq_true (by omega)]⟩
     have F3 : Aside0 (change_within.f n 1 (wrap64 (64 - a)) = some true) := ⟨by rw [show wrap64 (64 - a) = 64 - a by (have := H1.out; unfold wrap64; omega)]; exact F2.out⟩
     have F4 : Aside0 (change_within.f n 1 (IntKind.i64.wrap (64 - a)) = some true) := ⟨by rw [i64_w]; exact F3.out⟩
     have BB : Aside0 (Pl.blocksB a n = true) := ⟨by unfold Pl.blocksB; have := H1.out; have := H2.out; simp; omega⟩
     by_cases h3 : i = 0
     ·have ti : (i == 0) = true := beq_iff_eq.mpr h3
      have H3 := Aside0.mk h3
      clear h3
      by_cases h4 : d.length = 0
      ·have HD : Aside0 (change_kinds_1.f k a n i d l = some true) := ⟨by unfold change_kinds_1.f; rw [h4]; rfl⟩
       have H4 := Aside0.mk h4
       clear h4
       by_cases h5 : l.length = 0
       ·have t51 : (l.length == 0) = true := by rw [h5]; rfl
        have t52 : ((l.length : Int) == 0) = true := by rw [h5]; rfl
        have H5 := Aside0.mk h5
        clear h5
        have E := Aside0.mk (show Pl.chOk k a n i d (l.map toE) = true by rw [Pl.chOk_2 HK.out]; simp [BB.out, H3.out, H4.out, H5.out])
        go_wp2_with (first | (go_at_call 30; (with_reducible show Calls _ _ #[.int .i64 a, .int .i64 0, _] _ _); refine (change_within.calls _ _ _ true _ ?hW).mono ?_; (case hW => first | exact F1.out); rintro e wa1 ⟨rfl, hd⟩; have hb := hd.below; clear hd; clear o0 o1 o2 o3 o4 o5 m0 m1 m2 m3; replace BKc := Cz.bk BKc hb; replace BKk := Cz.bk BKk hb; replace HB := Cz.bs (w := w) hb; clear hb; obtain ⟨o0, o1, o2, o3, o4, o5⟩ := Cz.c6 BKc; obtain ⟨m0, m1, m2, m3⟩ := Cz.c4 BKk) | (go_at_call 30; (with_reducible show Calls _ _ #[.int .i64 n, .int .i64 1, _] _ _); refine (change_within.calls _ _ _ true _ ?hW).mono ?_; (case hW => first | exact F2.out | exact F3.out | exact F4.out); rintro e wb1 ⟨rfl, hd⟩; have hb := hd.below; clear hd; clear o0 o1 o2 o3 o4 o5 m0 m1 m2 m3; replace BKc := Cz.bk BKc hb; replace BKk := Cz.bk BKk hb; replace HB := Cz.bs (w := w) hb; clear hb; obtain ⟨o0, o1, o2, o3, o4, o5⟩ := Cz.c6 BKc; obtain ⟨m0, m1, m2, m3⟩ := Cz.c4 BKk) | (go_at_call 45; refine (change_kinds_1.calls k a n i _ _ d _ _ l true _ (Kd.C_below HR4.out HB.out) HC4.out (Kd.C_below HR5.out HB.out) HC5.out HD.out).mono ?_; rintro e wd1 ⟨rfl, hb⟩; clear o0 o1 o2 o3 o4 o5 m0 m1 m2 m3; replace BKc := Cz.bk BKc hb; replace BKk := Cz.bk BKk hb; replace HB := Cz.bs (w := w) hb; clear hb; obtain ⟨o0, o1, o2, o3, o4, o5⟩ := Cz.c6 BKc; obtain ⟨m0, m1, m2, m3⟩ := Cz.c4 BKk))
        go_ret
        exact ⟨by rw [E.out]; rfl, HB.out⟩
       ·have t51 : (l.length == 0) = false := beq_eq_false_iff_ne.mpr h5
        have t52 : ((l.length : Int) == 0) = false := beq_eq_false_iff_ne.mpr (by omega)
        have t53 : (l.length = 0) = False := eq_false h5
        have H5 := Aside0.mk h5
        clear h5
        have HF : Aside0 (change_follows.f l = some (Pl.folS (l.map toE))) := ⟨change_follows.tells LL.out⟩
        have E := Aside0.mk (show Pl.chOk k a n i d (l.map toE) = false by rw [Pl.chOk_2 HK.out]; simp [BB.out, H3.out, H4.out, H5.out])
        go_wp2_with (first | (go_at_call 30; (with_reducible show Calls _ _ #[.int .i64 a, .int .i64 0, _] _ _); refine (change_within.calls _ _ _ true _ ?hW).mono ?_; (case hW => first | exact F1.out); rintro e wa1 ⟨rfl, hd⟩; have hb := hd.below; clear hd; clear o0 o1 o2 o3 o4 o5 m0 m1 m2 m3; replace BKc := Cz.bk BKc hb; replace BKk := Cz.bk BKk hb; replace HB := Cz.bs (w := w) hb; clear hb; obtain ⟨o0, o1, o2, o3, o4, o5⟩ := Cz.c6 BKc; obtain ⟨m0, m1, m2, m3⟩ := Cz.c4 BKk) | (go_at_call 30; (with_reducible show Calls _ _ #[.int .i64 n, .int .i64 1, _] _ _); refine (change_within.calls _ _ _ true _ ?hW).mono ?_; (case hW => first | exact F2.out | exact F3.out | exact F4.out); rintro e wb1 ⟨rfl, hd⟩; have hb := hd.below; clear hd; clear o0 o1 o2 o3 o4 o5 m0 m1 m2 m3; replace BKc := Cz.bk BKc hb; replace BKk := Cz.bk BKk hb; replace HB := Cz.bs (w := w) hb; clear hb; obtain ⟨o0, o1, o2, o3, o4, o5⟩ := Cz.c6 BKc; obtain ⟨m0, m1, m2, m3⟩ := Cz.c4 BKk) | (go_at_call 45; refine (change_kinds_1.calls k a n i _ _ d _ _ l true _ (Kd.C_below HR4.out HB.out) HC4.out (Kd.C_below HR5.out HB.out) HC5.out HD.out).mono ?_; rintro e wd1 ⟨rfl, hb⟩; clear o0 o1 o2 o3 o4 o5 m0 m1 m2 m3; replace BKc := Cz.bk BKc hb; replace BKk := Cz.bk BKk hb; replace HB := Cz.bs (w := w) hb; clear hb; obtain ⟨o0, o1, o2, o3, o4, o5⟩ := Cz.c6 BKc; obtain ⟨m0, m1, m2, m3⟩ := Cz.c4 BKk))
        go_ret
        exact ⟨by rw [E.out]; rfl, HB.out⟩
      ·have HD : Aside0 (change_kinds_1.f k a n i d l = some false) := ⟨by unfold change_kinds_1.f; rw [show ((d.length : Int) == 0) = false from beq_eq_false_iff_ne.mpr (by omega)]⟩
       have H4 := Aside0.mk h4
       clear h4
       have E := Aside0.mk (show Pl.chOk k a n i d (l.map toE) = false by rw [Pl.chOk_2 HK.out]; simp [BB.out, H3.out, H4.out])
       go_wp2_with (first | (go_at_call 30; (with_reducible show Calls _ _ #[.int .i64 a, .int .i64 0, _] _ _); refine (change_within.calls _ _ _ true _ ?hW).mono ?_; (case hW => first | exact F1.out); rintro e wa1 ⟨rfl, hd⟩; have hb := hd.below; clear hd; clear o0 o1 o2 o3 o4 o5 m0 m1 m2 m3; replace BKc := Cz.bk BKc hb; replace BKk := Cz.bk BKk hb; replace HB := Cz.bs (w := w) hb; clear hb; obtain ⟨o0, o1, o2, o3, o4, o5⟩ := Cz.c6 BKc; obtain ⟨m0, m1, m2, m3⟩ := Cz.c4 BKk) | (go_at_call 30; (with_reducible show Calls _ _ #[.int .i64 n, .int .i64 1, _] _ _); refine (change_within.calls _ _ _ true _ ?hW).mono ?_; (case hW => first | exact F2.out | exact F3.out | exact F4.out); rintro e wb1 ⟨rfl, hd⟩; have hb := hd.below; clear hd; clear o0 o1 o2 o3 o4 o5 m0 m1 m2 m3; replace BKc := Cz.bk BKc hb; replace BKk := Cz.bk BKk hb; replace HB := Cz.bs (w := w) hb; clear hb; obtain ⟨o0, o1, o2, o3, o4, o5⟩ := Cz.c6 BKc; obtain ⟨m0, m1, m2, m3⟩ := Cz.c4 BKk) | (go_at_call 45; refine (change_kinds_1.calls k a n i _ _ d _ _ l false _ (Kd.C_below HR4.out HB.out) HC4.out (Kd.C_below HR5.out HB.out) HC5.out HD.out).mono ?_; rintro e wd1 ⟨rfl, hb⟩; clear o0 o1 o2 o3 o4 o5 m0 m1 m2 m3; replace BKc := Cz.bk BKc hb; replace BKk := Cz.bk BKk hb; replace HB := Cz.bs (w := w) hb; clear hb; obtain ⟨o0, o1, o2, o3, o4, o5⟩ := Cz.c6 BKc; obtain ⟨m0, m1, m2, m3⟩ := Cz.c4 BKk))
       go_ret
       exact ⟨by rw [E.out]; rfl, HB.out⟩
     ·have ti : (i == 0) = false := beq_eq_false_iff_ne.mpr h3
      have H3 := Aside0.mk h3
      clear h3
      have E := Aside0.mk (show Pl.chOk k a n i d (l.map toE) = false by rw [Pl.chOk_2 HK.out]; simp [BB.out, H3.out])
      go_wp2_with (first | (go_at_call 30; (with_reducible show Calls _ _ #[.int .i64 a, .int .i64 0, _] _ _); refine (change_within.calls _ _ _ true _ ?hW).mono ?_; (case hW => first | exact F1.out); rintro e wa1 ⟨rfl, hd⟩; have hb := hd.below; clear hd; clear o0 o1 o2 o3 o4 o5 m0 m1 m2 m3; replace BKc := Cz.bk BKc hb; replace BKk := Cz.bk BKk hb; replace HB := Cz.bs (w := w) hb; clear hb; obtain ⟨o0, o1, o2, o3, o4, o5⟩ := Cz.c6 BKc; obtain ⟨m0, m1, m2, m3⟩ := Cz.c4 BKk) | (go_at_call 30; (with_reducible show Calls _ _ #[.int .i64 n, .int .i64 1, _] _ _); refine (change_within.calls _ _ _ true _ ?hW).mono ?_; (case hW => first | exact F2.out | exact F3.out | exact F4.out); rintro e wb1 ⟨rfl, hd⟩; have hb := hd.below; clear hd; clear o0 o1 o2 o3 o4 o5 m0 m1 m2 m3; replace BKc := Cz.bk BKc hb; replace BKk := Cz.bk BKk hb; replace HB := Cz.bs (w := w) hb; clear hb; obtain ⟨o0, o1, o2, o3, o4, o5⟩ := Cz.c6 BKc; obtain ⟨m0, m1, m2, m3⟩ := Cz.c4 BKk))
      go_ret
      exact ⟨by rw [E.out]; rfl, HB.out⟩
    ·have H2 := Aside0.mk h2
     clear h2
     have F2 : Aside0 (change_within.f n 1 (64 - a) = some false) := ⟨by have q0 := H2.out; unfold change_within.f; by_cases q : n ≥ 1 <;> first | (rw [if_pos q, decide_eq_false (by omega)]; done) | (rw [if_neg q]; done)⟩
     have F3 : Aside0 (change_within.f n 1 (wrap64 (64 - a)) = some false) := ⟨by rw [show wrap64 (64 - a) = 64 - a by (have := H1.out; unfold wrap64; omega)]; exact F2.out⟩
     have F4 : Aside0 (change_within.f n 1 (IntKind.i64.wrap (64 - a)) = some false) := ⟨by rw [i64_w]; exact F3.out⟩
     have BB : Aside0 (Pl.blocksB a n = false) := ⟨by unfold Pl.blocksB; have := H2.out; simp; omega⟩
     have E := Aside0.mk (show Pl.chOk k a n i d (l.map toE) = false by rw [Pl.chOk_2 HK.out]; simp [BB.out])
     go_wp2_with (first | (go_at_call 30; (with_reducible show Calls _ _ #[.int .i64 a, .int .i64 0, _] _ _); refine (change_within.calls _ _ _ true _ ?hW).mono ?_; (case hW => first | exact F1.out); rintro e wa1 ⟨rfl, hd⟩; have hb := hd.below; clear hd; clear o0 o1 o2 o3 o4 o5 m0 m1 m2 m3; replace BKc := Cz.bk BKc hb; replace BKk := Cz.bk BKk hb; replace HB := Cz.bs (w := w) hb; clear hb; obtain ⟨o0, o1, o2, o3, o4, o5⟩ := Cz.c6 BKc; obtain ⟨m0, m1, m2, m3⟩ := Cz.c4 BKk) | (go_at_call 30; (with_reducible show Calls _ _ #[.int .i64 n, .int .i64 1, _] _ _); refine (change_within.calls _ _ _ false _ ?hW).mono ?_; (case hW => first | exact F2.out | exact F3.out | exact F4.out); rintro e wb1 ⟨rfl, hd⟩; have hb := hd.below; clear hd; clear o0 o1 o2 o3 o4 o5 m0 m1 m2 m3; replace BKc := Cz.bk BKc hb; replace BKk := Cz.bk BKk hb; replace HB := Cz.bs (w := w) hb; clear hb; obtain ⟨o0, o1, o2, o3, o4, o5⟩ := Cz.c6 BKc; obtain ⟨m0, m1, m2, m3⟩ := Cz.c4 BKk))
     go_ret
     exact ⟨by rw [E.out]; rfl, HB.out⟩
   ·have H1 := Aside0.mk h1
    clear h1
    have F1 : Aside0 (change_within.f a 0 64 = some false) := ⟨by have q0 := H1.out; unfold change_within.f; by_cases q : a ≥ 0 <;> first | (rw [if_pos q, decide_eq_false (by omega)]; done) | (rw [if_neg q]; done)⟩
    have BB : Aside0 (Pl.blocksB a n = false) := ⟨by unfold Pl.blocksB; have := H1.out; simp; omega⟩
    have E := Aside0.mk (show Pl.chOk k a n i d (l.map toE) = false by rw [Pl.chOk_2 HK.out]; simp [BB.out])
    go_wp2_with (first | (go_at_call 30; (with_reducible show Calls _ _ #[.int .i64 a, .int .i64 0, _] _ _); refine (change_within.calls _ _ _ false _ ?hW).mono ?_; (case hW => first | exact F1.out); rintro e wa1 ⟨rfl, hd⟩; have hb := hd.below; clear hd; clear o0 o1 o2 o3 o4 o5 m0 m1 m2 m3; replace BKc := Cz.bk BKc hb; replace BKk := Cz.bk BKk hb; replace HB := Cz.bs (w := w) hb; clear hb; obtain ⟨o0, o1, o2, o3, o4, o5⟩ := Cz.c6 BKc; obtain ⟨m0, m1, m2, m3⟩ := Cz.c4 BKk))
    go_ret
    exact ⟨by rw [E.out]; rfl, HB.out⟩
set_option maxHeartbeats 4000000 in
set_option maxRecDepth 2000000 in
theorem change_Check.c4 (k : Int) (hk : k = 4 ∨ k = 5) (a n i : Int) (A4 : Option Addr) (c4 : Nat) (d : List Int) (A5 : Option Addr) (c5 : Nat) (l : List S39) (w : World) (hr4 : Kd.C (Kd.int .u8) w A4 d.length d) (hc4 : d.length ≤ c4) (hr5 : Kd.C k39 w A5 l.length l) (hc5 : l.length ≤ c5) (hn0 : -9223372036854775808 ≤ n) (hn1 : n < 9223372036854775808) (hll : l.length < 1073741824) (hdl : d.length < 1073741824) : Calls Try.prog 16 #[.agg #[.int .i64 k, .int .i64 a, .int .i64 n, .int .i64 i, .slice A4 d.length c4, .slice A5 l.length c5]] w fun e w' => e = .returned (.bool (Pl.chOk k a n i d (l.map toE))) ∧ Below w.heap.size w w' := by
 have hu26 := Try.underlying26
 have HR4 := Aside0.mk hr4
 have HC4 := Aside0.mk hc4
 have HR5 := Aside0.mk hr5
 have HC5 := Aside0.mk hc5
 have HB := Aside0.mk (Below.refl w.heap.size w)
 clear hr4 hc4 hr5 hc5
 have b1 : change_within.f k 1 8 = some true := by rcases hk with rfl | rfl <;> rfl
 have B1 := Aside0.mk b1
 clear b1
 have hix4 : ∀ w : World, (Instr.index 58 (.agg #[.bool false, .bool false, .bool false, .nilFunc, .bool true, .bool false, .bool false, .func (.func 47) #[] #[], .bool true, .bool false, .bool false, .func (.func 45) #[] #[], .bool true, .bool false, .bool false, .func (.func 45) #[] #[], .bool false, .bool true, .bool false, .func (.func 45) #[] #[], .bool false, .bool true, .bool false, .func (.func 45) #[] #[], .bool false, .bool false, .bool false, .func (.func 46) #[] #[], .bool false, .bool false, .bool false, .func (.func 45) #[] #[], .bool false, .bool true, .bool true, .func (.func 45) #[] #[]]) (.int .i64 4)).run Try.prog w = .ok (.agg #[.bool false, .bool true, .bool false, .func (.func 45) #[] #[]]) w := fun _ => by kernel_rfl
 have hix5 : ∀ w : World, (Instr.index 58 (.agg #[.bool false, .bool false, .bool false, .nilFunc, .bool true, .bool false, .bool false, .func (.func 47) #[] #[], .bool true, .bool false, .bool false, .func (.func 45) #[] #[], .bool true, .bool false, .bool false, .func (.func 45) #[] #[], .bool false, .bool true, .bool false, .func (.func 45) #[] #[], .bool false, .bool true, .bool false, .func (.func 45) #[] #[], .bool false, .bool false, .bool false, .func (.func 46) #[] #[], .bool false, .bool false, .bool false, .func (.func 45) #[] #[], .bool false, .bool true, .bool true, .func (.func 45) #[] #[]]) (.int .i64 5)).run Try.prog w = .ok (.agg #[.bool false, .bool true, .bool false, .func (.func 45) #[] #[]]) w := fun _ => by kernel_rfl
 have HK := Aside0.mk hk
 clear hk
 have N0 := Aside0.mk hn0
 have N1 := Aside0.mk hn1
 have LL := Aside0.mk hll
 have DL := Aside0.mk hdl
 clear hn0 hn1 hll hdl
 go_enter Try.func16, Try.ntmps16
 go_upto_region 4 with (first | ((with_reducible refine gate_dst (N := 1) rfl ?_); refine Cz.bx (N := 1) #[.int .i64 k, .int .i64 a, .int .i64 n, .int .i64 i, .slice A4 d.length c4, .slice A5 l.length c5] 26 ?_; intro gc hg w1 hbox hb; have BKc := Aside0.mk hbox; have GC := Aside0.mk (show w.heap.size ≤ gc by rw [hg]; exact Nat.le_refl _); replace HB := Cz.bs (w := w) hb; clear hb hbox hg; obtain ⟨j0, j1, j2, j3, j4, j5⟩ := Cz.c6 BKc) | (go_at_call 30; refine (change_within.calls _ _ _ true _ B1.out).mono ?_; rintro e w2 ⟨rfl, hd⟩; have hb := hd.below; clear hd; replace BKc := Cz.bk BKc hb; replace HB := Cz.bs (w := w) hb; clear hb; clear j0 j1 j2 j3 j4 j5))
 go_cut [3] (fun v3 wc => ∃ gk : Nat, v3 = .pointer (some ⟨gk, 0, none⟩) ∧ Aside0 (wc.heap[gk]? = some (.cells #[.bool false, .bool true, .bool false, .func (.func 45) #[] #[]] 57 (0, 0))) ∧ Aside0 (gk ≠ gc) ∧ Aside0 (w.heap.size ≤ gk) ∧ Aside0 (wc.heap[gc]? = some (.cells #[.int .i64 k, .int .i64 a, .int .i64 n, .int .i64 i, .slice A4 d.length c4, .slice A5 l.length c5] 26 (0, 0))) ∧ Aside0 (Below w.heap.size w wc))
 case first =>
  rcases HK.out with rfl | rfl
  ·skip
   replace BKc := Aside0.mk (blk_drew BKc.out)
   replace HB := Aside0.mk (below_drew HB.out)
   refine start_ (n := 6) (S := fun w' => w'.cell? ⟨gc, 0, none⟩ = some (.int .i64 4)) (ds := []) #[false, false, false, false, false, false] (by kernel_rfl) rfl rfl (((blk_cell BKc.out 0).trans rfl)) (fun hHeld => ?_)
   generalize w2.drew = wd at HB BKc hHeld ⊢
   refine Cz.rP 1 11 ?_
   refine take_ (i := 2) (N := some 12) (v := ?_) (a' := ?_) #[false, true, true, false, false, false] rfl rfl (by kernel_rfl) (fun _ _ _ h => h) (Or.inl ⟨by rfl, ?_⟩) hHeld ?_ ?_
   rotate_left
   ·intro w' s0
    go_simp
    with_reducible rfl
   rotate_left
   ·simp only [Act.put, Kx.sb, Kx.sz, Kx.ss, i64_w, i32_w]
    rfl
   refine two_ (i := 0) (j := 4) (Ni := some 10) (Nj := some 3) #[true, true, true, false, false, false] #[false, true, true, false, true, false] rfl rfl rfl rfl (by kernel_rfl) (by decide) (by decide) (fun K hK => ?_) (fun K hK => ?_)
   ·skip
    refine goes_ Try.func31 (by kernel_rfl) rfl #[] (by rfl) rfl rfl (by simp) ?_
    refine (change_kinds.calls _).mono ?_
    rintro e wk0 ⟨rfl, hb⟩
    refine ⟨_, rfl, ?_⟩
    replace BKc := Cz.bk BKc hb
    replace HB := Cz.bs (w := w) hb
    clear hb
    refine hK.out _ _ (((blk_cell BKc.out 0).trans rfl)) (fun hHeld => ?_)
    clear hK K
    refine norm_ (a' := ?_) ?_ ?_
    rotate_left
    ·show Act.put _ (some 10) _ = _
     simp only [Act.put, Kx.sb, Kx.sz, Kx.ss, i64_w, i32_w]
     rfl
    refine take_ (i := 3) (N := some 13) (v := ?_) (a' := ?_) #[true, true, true, true, false, false] rfl rfl (by kernel_rfl) (fun _ _ _ h => h) (Or.inl ⟨by rfl, ?_⟩) hHeld ?_ ?_
    rotate_left
    ·intro w' s0
     go_simp
     with_reducible rfl
    rotate_left
    ·simp only [Act.put, Kx.sb, Kx.sz, Kx.ss, i64_w, i32_w]
     rfl
    refine Cz.rO (N := some 3) 4 (fun K hK => ?_)
    refine value_ (w1 := ?_) (v := ?_) (by rfl) rfl ?_ ?_
    rotate_left 2
    ·go_simp
     constructor
     ·rfl
     ·rfl
    have BKk := Aside0.mk (blk_new wk0 (.cells #[.bool false, .bool false, .bool false, .nilFunc] 57))
    have GK := Aside0.mk (show w.heap.size ≤ wk0.heap.size from below_size HB.out)
    have NE := Aside0.mk (Nat.ne_of_gt (blk_lt BKc.out))
    replace BKc := Aside0.mk (blk_alloc BKc.out (.cells #[.bool false, .bool false, .bool false, .nilFunc] 57))
    replace HB := Aside0.mk (below_alloc HB.out (.cells #[.bool false, .bool false, .bool false, .nilFunc] 57))
    generalize wk0.alloc (.cells #[.bool false, .bool false, .bool false, .nilFunc] 57) = wa1 at BKk HB BKc ⊢
    generalize wk0.heap.size = gk at BKk GK NE ⊢
    refine hK.out _ _ (((blk_cell BKc.out 0).trans rfl)) (fun hHeld => ?_)
    clear hK K
    refine norm_ (a' := ?_) ?_ ?_
    rotate_left
    ·show Act.put _ (some 3) _ = _
     simp only [Act.put, Kx.sb, Kx.sz, Kx.ss, i64_w, i32_w]
     rfl
    refine Cz.rO (N := none) 5 (fun K hK => ?_)
    obtain ⟨zk0, zk1, zk2, zk3, zf0, zf1, zf2, zf3⟩ := Cz.d4 BKk
    refine skip_ (w1 := ?_) (by rfl) rfl ?_ ?_
    rotate_left
    ·go_simp
     rfl
    refine hK.out _ _ (((blk_cell (blk_far (blk_far (blk_far (blk_far BKc.out (p := ⟨gk, 0, none⟩) NE.out.symm _) (p := ⟨gk, 1, none⟩) NE.out.symm _) (p := ⟨gk, 2, none⟩) NE.out.symm _) (p := ⟨gk, 3, none⟩) NE.out.symm _) 0).trans rfl)) (fun hHeld => ?_)
    clear hK K
    have n_BKk : Aside0 (((((wa1.setCell ⟨gk, 0, none⟩ (.bool false)).setCell ⟨gk, 1, none⟩ (.bool true)).setCell ⟨gk, 2, none⟩ (.bool false)).setCell ⟨gk, 3, none⟩ (.func (.func 45) #[] #[])).heap[gk]? = some (.cells #[.bool false, .bool true, .bool false, .func (.func 45) #[] #[]] 57 (0, 0))) := ⟨(blk_put (cs := #[.bool false, .bool true, .bool false, .nilFunc]) (blk_put (cs := #[.bool false, .bool true, .bool false, .nilFunc]) (blk_put (cs := #[.bool false, .bool false, .bool false, .nilFunc]) (blk_put (cs := #[.bool false, .bool false, .bool false, .nilFunc]) BKk.out 0 (.bool false) rfl) 1 (.bool true) rfl) 2 (.bool false) rfl) 3 (.func (.func 45) #[] #[]) rfl)⟩
    have n_BKc := Aside0.mk (show ((((wa1.setCell ⟨gk, 0, none⟩ (.bool false)).setCell ⟨gk, 1, none⟩ (.bool true)).setCell ⟨gk, 2, none⟩ (.bool false)).setCell ⟨gk, 3, none⟩ (.func (.func 45) #[] #[])).heap[gc]? = _ from (blk_far (blk_far (blk_far (blk_far BKc.out (p := ⟨gk, 0, none⟩) NE.out.symm _) (p := ⟨gk, 1, none⟩) NE.out.symm _) (p := ⟨gk, 2, none⟩) NE.out.symm _) (p := ⟨gk, 3, none⟩) NE.out.symm _))
    have n_HB := Aside0.mk (show Below w.heap.size w ((((wa1.setCell ⟨gk, 0, none⟩ (.bool false)).setCell ⟨gk, 1, none⟩ (.bool true)).setCell ⟨gk, 2, none⟩ (.bool false)).setCell ⟨gk, 3, none⟩ (.func (.func 45) #[] #[])) from (below_set (below_set (below_set (below_set HB.out GK.out) GK.out) GK.out) GK.out))
    clear BKk BKc HB zk0 zk1 zk2 zk3 zf0 zf1 zf2 zf3
    have BKk := n_BKk
    have BKc := n_BKc
    have HB := n_HB
    clear n_BKk n_BKc n_HB
    generalize ((((wa1.setCell ⟨gk, 0, none⟩ (.bool false)).setCell ⟨gk, 1, none⟩ (.bool true)).setCell ⟨gk, 2, none⟩ (.bool false)).setCell ⟨gk, 3, none⟩ (.func (.func 45) #[] #[])) = ws2 at BKk BKc HB hHeld ⊢
    refine done_ (by kernel_rfl) ?_
    clear hHeld
    simp only [Exit.then]
    go_step
    go_meet
    case rel => exact ⟨gk, rfl, BKk, NE, GK, BKc, HB⟩
   ·skip
    refine value_ (w1 := ?_) (v := ?_) (by rfl) rfl ?_ ?_
    rotate_left 2
    ·go_simp
     constructor
     ·rfl
     ·rfl
    have BKk := Aside0.mk (blk_new wd (.cells #[.bool false, .bool false, .bool false, .nilFunc] 57))
    have GK := Aside0.mk (show w.heap.size ≤ wd.heap.size from below_size HB.out)
    have NE := Aside0.mk (Nat.ne_of_gt (blk_lt BKc.out))
    replace BKc := Aside0.mk (blk_alloc BKc.out (.cells #[.bool false, .bool false, .bool false, .nilFunc] 57))
    replace HB := Aside0.mk (below_alloc HB.out (.cells #[.bool false, .bool false, .bool false, .nilFunc] 57))
    generalize wd.alloc (.cells #[.bool false, .bool false, .bool false, .nilFunc] 57) = wa0 at BKk HB BKc ⊢
    generalize wd.heap.size = gk at BKk GK NE ⊢
    refine hK.out _ _ (((blk_cell BKc.out 0).trans rfl)) (fun hHeld => ?_)
    clear hK K
    refine norm_ (a' := ?_) ?_ ?_
    rotate_left
    ·show Act.put _ (some 3) _ = _
     simp only [Act.put, Kx.sb, Kx.sz, Kx.ss, i64_w, i32_w]
     rfl
    refine Cz.rO (N := some 10) 0 (fun K hK => ?_)
    refine goes_ Try.func31 (by kernel_rfl) rfl #[] (by rfl) rfl rfl (by simp) ?_
    refine (change_kinds.calls _).mono ?_
    rintro e wk1 ⟨rfl, hb⟩
    refine ⟨_, rfl, ?_⟩
    replace BKc := Cz.bk BKc hb
    replace BKk := Cz.bk BKk hb
    replace HB := Cz.bs (w := w) hb
    clear hb
    refine hK.out _ _ (((blk_cell BKc.out 0).trans rfl)) (fun hHeld => ?_)
    clear hK K
    refine norm_ (a' := ?_) ?_ ?_
    rotate_left
    ·show Act.put _ (some 10) _ = _
     simp only [Act.put, Kx.sb, Kx.sz, Kx.ss, i64_w, i32_w]
     rfl
    refine take_ (i := 3) (N := some 13) (v := ?_) (a' := ?_) #[true, true, true, true, true, false] rfl rfl (by kernel_rfl) (fun _ _ _ h => h) (Or.inl ⟨by rfl, ?_⟩) hHeld ?_ ?_
    rotate_left
    ·intro w' s0
     go_simp
     with_reducible rfl
    rotate_left
    ·simp only [Act.put, Kx.sb, Kx.sz, Kx.ss, i64_w, i32_w]
     rfl
    refine Cz.rO (N := none) 5 (fun K hK => ?_)
    obtain ⟨zk0, zk1, zk2, zk3, zf0, zf1, zf2, zf3⟩ := Cz.d4 BKk
    refine skip_ (w1 := ?_) (by rfl) rfl ?_ ?_
    rotate_left
    ·go_simp
     rfl
    refine hK.out _ _ (((blk_cell (blk_far (blk_far (blk_far (blk_far BKc.out (p := ⟨gk, 0, none⟩) NE.out.symm _) (p := ⟨gk, 1, none⟩) NE.out.symm _) (p := ⟨gk, 2, none⟩) NE.out.symm _) (p := ⟨gk, 3, none⟩) NE.out.symm _) 0).trans rfl)) (fun hHeld => ?_)
    clear hK K
    have n_BKk : Aside0 (((((wk1.setCell ⟨gk, 0, none⟩ (.bool false)).setCell ⟨gk, 1, none⟩ (.bool true)).setCell ⟨gk, 2, none⟩ (.bool false)).setCell ⟨gk, 3, none⟩ (.func (.func 45) #[] #[])).heap[gk]? = some (.cells #[.bool false, .bool true, .bool false, .func (.func 45) #[] #[]] 57 (0, 0))) := ⟨(blk_put (cs := #[.bool false, .bool true, .bool false, .nilFunc]) (blk_put (cs := #[.bool false, .bool true, .bool false, .nilFunc]) (blk_put (cs := #[.bool false, .bool false, .bool false, .nilFunc]) (blk_put (cs := #[.bool false, .bool false, .bool false, .nilFunc]) BKk.out 0 (.bool false) rfl) 1 (.bool true) rfl) 2 (.bool false) rfl) 3 (.func (.func 45) #[] #[]) rfl)⟩
    have n_BKc := Aside0.mk (show ((((wk1.setCell ⟨gk, 0, none⟩ (.bool false)).setCell ⟨gk, 1, none⟩ (.bool true)).setCell ⟨gk, 2, none⟩ (.bool false)).setCell ⟨gk, 3, none⟩ (.func (.func 45) #[] #[])).heap[gc]? = _ from (blk_far (blk_far (blk_far (blk_far BKc.out (p := ⟨gk, 0, none⟩) NE.out.symm _) (p := ⟨gk, 1, none⟩) NE.out.symm _) (p := ⟨gk, 2, none⟩) NE.out.symm _) (p := ⟨gk, 3, none⟩) NE.out.symm _))
    have n_HB := Aside0.mk (show Below w.heap.size w ((((wk1.setCell ⟨gk, 0, none⟩ (.bool false)).setCell ⟨gk, 1, none⟩ (.bool true)).setCell ⟨gk, 2, none⟩ (.bool false)).setCell ⟨gk, 3, none⟩ (.func (.func 45) #[] #[])) from (below_set (below_set (below_set (below_set HB.out GK.out) GK.out) GK.out) GK.out))
    clear BKk BKc HB zk0 zk1 zk2 zk3 zf0 zf1 zf2 zf3
    have BKk := n_BKk
    have BKc := n_BKc
    have HB := n_HB
    clear n_BKk n_BKc n_HB
    generalize ((((wk1.setCell ⟨gk, 0, none⟩ (.bool false)).setCell ⟨gk, 1, none⟩ (.bool true)).setCell ⟨gk, 2, none⟩ (.bool false)).setCell ⟨gk, 3, none⟩ (.func (.func 45) #[] #[])) = ws2 at BKk BKc HB hHeld ⊢
    refine done_ (by kernel_rfl) ?_
    clear hHeld
    simp only [Exit.then]
    go_step
    go_meet
    case rel => exact ⟨gk, rfl, BKk, NE, GK, BKc, HB⟩
  ·skip
   replace BKc := Aside0.mk (blk_drew BKc.out)
   replace HB := Aside0.mk (below_drew HB.out)
   refine start_ (n := 6) (S := fun w' => w'.cell? ⟨gc, 0, none⟩ = some (.int .i64 5)) (ds := []) #[false, false, false, false, false, false] (by kernel_rfl) rfl rfl (((blk_cell BKc.out 0).trans rfl)) (fun hHeld => ?_)
   generalize w2.drew = wd at HB BKc hHeld ⊢
   refine Cz.rP 1 11 ?_
   refine take_ (i := 2) (N := some 12) (v := ?_) (a' := ?_) #[false, true, true, false, false, false] rfl rfl (by kernel_rfl) (fun _ _ _ h => h) (Or.inl ⟨by rfl, ?_⟩) hHeld ?_ ?_
   rotate_left
   ·intro w' s0
    go_simp
    with_reducible rfl
   rotate_left
   ·simp only [Act.put, Kx.sb, Kx.sz, Kx.ss, i64_w, i32_w]
    rfl
   refine two_ (i := 0) (j := 4) (Ni := some 10) (Nj := some 3) #[true, true, true, false, false, false] #[false, true, true, false, true, false] rfl rfl rfl rfl (by kernel_rfl) (by decide) (by decide) (fun K hK => ?_) (fun K hK => ?_)
   ·skip
    refine goes_ Try.func31 (by kernel_rfl) rfl #[] (by rfl) rfl rfl (by simp) ?_
    refine (change_kinds.calls _).mono ?_
    rintro e wk0 ⟨rfl, hb⟩
    refine ⟨_, rfl, ?_⟩
    replace BKc := Cz.bk BKc hb
    replace HB := Cz.bs (w := w) hb
    clear hb
    refine hK.out _ _ (((blk_cell BKc.out 0).trans rfl)) (fun hHeld => ?_)
    clear hK K
    refine norm_ (a' := ?_) ?_ ?_
    rotate_left
    ·show Act.put _ (some 10) _ = _
     simp only [Act.put, Kx.sb, Kx.sz, Kx.ss, i64_w, i32_w]
     rfl
    refine take_ (i := 3) (N := some 13) (v := ?_) (a' := ?_) #[true, true, true, true, false, false] rfl rfl (by kernel_rfl) (fun _ _ _ h => h) (Or.inl ⟨by rfl, ?_⟩) hHeld ?_ ?_
    rotate_left
    ·intro w' s0
     go_simp
     with_reducible rfl
    rotate_left
    ·simp only [Act.put, Kx.sb, Kx.sz, Kx.ss, i64_w, i32_w]
     rfl
    refine Cz.rO (N := some 3) 4 (fun K hK => ?_)
    refine value_ (w1 := ?_) (v := ?_) (by rfl) rfl ?_ ?_
    rotate_left 2
    ·go_simp
     constructor
     ·rfl
     ·rfl
    have BKk := Aside0.mk (blk_new wk0 (.cells #[.bool false, .bool false, .bool false, .nilFunc] 57))
    have GK := Aside0.mk (show w.heap.size ≤ wk0.heap.size from below_size HB.out)
    have NE := Aside0.mk (Nat.ne_of_gt (blk_lt BKc.out))
    replace BKc := Aside0.mk (blk_alloc BKc.out (.cells #[.bool false, .bool false, .bool false, .nilFunc] 57))
    replace HB := Aside0.mk (below_alloc HB.out (.cells #[.bool false, .bool false, .bool false, .nilFunc] 57))
    generalize wk0.alloc (.cells #[.bool false, .bool false, .bool false, .nilFunc] 57) = wa1 at BKk HB BKc ⊢
    generalize wk0.heap.size = gk at BKk GK NE ⊢
    refine hK.out _ _ (((blk_cell BKc.out 0).trans rfl)) (fun hHeld => ?_)
    clear hK K
    refine norm_ (a' := ?_) ?_ ?_
    rotate_left
    ·show Act.put _ (some 3) _ = _
     simp only [Act.put, Kx.sb, Kx.sz, Kx.ss, i64_w, i32_w]
     rfl
    refine Cz.rO (N := none) 5 (fun K hK => ?_)
    obtain ⟨zk0, zk1, zk2, zk3, zf0, zf1, zf2, zf3⟩ := Cz.d4 BKk
    refine skip_ (w1 := ?_) (by rfl) rfl ?_ ?_
    rotate_left
    ·go_simp
     rfl
    refine hK.out _ _ (((blk_cell (blk_far (blk_far (blk_far (blk_far BKc.out (p := ⟨gk, 0, none⟩) NE.out.symm _) (p := ⟨gk, 1, none⟩) NE.out.symm _) (p := ⟨gk, 2, none⟩) NE.out.symm _) (p := ⟨gk, 3, none⟩) NE.out.symm _) 0).trans rfl)) (fun hHeld => ?_)
    clear hK K
    have n_BKk : Aside0 (((((wa1.setCell ⟨gk, 0, none⟩ (.bool false)).setCell ⟨gk, 1, none⟩ (.bool true)).setCell ⟨gk, 2, none⟩ (.bool false)).setCell ⟨gk, 3, none⟩ (.func (.func 45) #[] #[])).heap[gk]? = some (.cells #[.bool false, .bool true, .bool false, .func (.func 45) #[] #[]] 57 (0, 0))) := ⟨(blk_put (cs := #[.bool false, .bool true, .bool false, .nilFunc]) (blk_put (cs := #[.bool false, .bool true, .bool false, .nilFunc]) (blk_put (cs := #[.bool false, .bool false, .bool false, .nilFunc]) (blk_put (cs := #[.bool false, .bool false, .bool false, .nilFunc]) BKk.out 0 (.bool false) rfl) 1 (.bool true) rfl) 2 (.bool false) rfl) 3 (.func (.func 45) #[] #[]) rfl)⟩
    have n_BKc := Aside0.mk (show ((((wa1.setCell ⟨gk, 0, none⟩ (.bool false)).setCell ⟨gk, 1, none⟩ (.bool true)).setCell ⟨gk, 2, none⟩ (.bool false)).setCell ⟨gk, 3, none⟩ (.func (.func 45) #[] #[])).heap[gc]? = _ from (blk_far (blk_far (blk_far (blk_far BKc.out (p := ⟨gk, 0, none⟩) NE.out.symm _) (p := ⟨gk, 1, none⟩) NE.out.symm _) (p := ⟨gk, 2, none⟩) NE.out.symm _) (p := ⟨gk, 3, none⟩) NE.out.symm _))
    have n_HB := Aside0.mk (show Below w.heap.size w ((((wa1.setCell ⟨gk, 0, none⟩ (.bool false)).setCell ⟨gk, 1, none⟩ (.bool true)).setCell ⟨gk, 2, none⟩ (.bool false)).setCell ⟨gk, 3, none⟩ (.func (.func 45) #[] #[])) from (below_set (below_set (below_set (below_set HB.out GK.out) GK.out) GK.out) GK.out))
    clear BKk BKc HB zk0 zk1 zk2 zk3 zf0 zf1 zf2 zf3
    have BKk := n_BKk
    have BKc := n_BKc
    have HB := n_HB
    clear n_BKk n_BKc n_HB
    generalize ((((wa1.setCell ⟨gk, 0, none⟩ (.bool false)).setCell ⟨gk, 1, none⟩ (.bool true)).setCell ⟨gk, 2, none⟩ (.bool false)).setCell ⟨gk, 3, none⟩ (.func (.func 45) #[] #[])) = ws2 at BKk BKc HB hHeld ⊢
    refine done_ (by kernel_rfl) ?_
    clear hHeld
    simp only [Exit.then]
    go_step
    go_meet
    case rel => exact ⟨gk, rfl, BKk, NE, GK, BKc, HB⟩
   ·skip
    refine value_ (w1 := ?_) (v := ?_) (by rfl) rfl ?_ ?_
    rotate_left 2
    ·go_simp
     constructor
     ·rfl
     ·rfl
    have BKk := Aside0.mk (blk_new wd (.cells #[.bool false, .bool false, .bool false, .nilFunc] 57))
    have GK := Aside0.mk (show w.heap.size ≤ wd.heap.size from below_size HB.out)
    have NE := Aside0.mk (Nat.ne_of_gt (blk_lt BKc.out))
    replace BKc := Aside0.mk (blk_alloc BKc.out (.cells #[.bool false, .bool false, .bool false, .nilFunc] 57))
    replace HB := Aside0.mk (below_alloc HB.out (.cells #[.bool false, .bool false, .bool false, .nilFunc] 57))
    generalize wd.alloc (.cells #[.bool false, .bool false, .bool false, .nilFunc] 57) = wa0 at BKk HB BKc ⊢
    generalize wd.heap.size = gk at BKk GK NE ⊢
    refine hK.out _ _ (((blk_cell BKc.out 0).trans rfl)) (fun hHeld => ?_)
    clear hK K
    refine norm_ (a' := ?_) ?_ ?_
    rotate_left
    ·show Act.put _ (some 3) _ = _
     simp only [Act.put, Kx.sb, Kx.sz, Kx.ss, i64_w, i32_w]
     rfl
    refine Cz.rO (N := some 10) 0 (fun K hK => ?_)
    refine goes_ Try.func31 (by kernel_rfl) rfl #[] (by rfl) rfl rfl (by simp) ?_
    refine (change_kinds.calls _).mono ?_
    rintro e wk1 ⟨rfl, hb⟩
    refine ⟨_, rfl, ?_⟩
    replace BKc := Cz.bk BKc hb
    replace BKk := Cz.bk BKk hb
    replace HB := Cz.bs (w := w) hb
    clear hb
    refine hK.out _ _ (((blk_cell BKc.out 0).trans rfl)) (fun hHeld => ?_)
    clear hK K
    refine norm_ (a' := ?_) ?_ ?_
    rotate_left
    ·show Act.put _ (some 10) _ = _
     simp only [Act.put, Kx.sb, Kx.sz, Kx.ss, i64_w, i32_w]
     rfl
    refine take_ (i := 3) (N := some 13) (v := ?_) (a' := ?_) #[true, true, true, true, true, false] rfl rfl (by kernel_rfl) (fun _ _ _ h => h) (Or.inl ⟨by rfl, ?_⟩) hHeld ?_ ?_
    rotate_left
    ·intro w' s0
     go_simp
     with_reducible rfl
    rotate_left
    ·simp only [Act.put, Kx.sb, Kx.sz, Kx.ss, i64_w, i32_w]
     rfl
    refine Cz.rO (N := none) 5 (fun K hK => ?_)
    obtain ⟨zk0, zk1, zk2, zk3, zf0, zf1, zf2, zf3⟩ := Cz.d4 BKk
    refine skip_ (w1 := ?_) (by rfl) rfl ?_ ?_
    rotate_left
    ·go_simp
     rfl
    refine hK.out _ _ (((blk_cell (blk_far (blk_far (blk_far (blk_far BKc.out (p := ⟨gk, 0, none⟩) NE.out.symm _) (p := ⟨gk, 1, none⟩) NE.out.symm _) (p := ⟨gk, 2, none⟩) NE.out.symm _) (p := ⟨gk, 3, none⟩) NE.out.symm _) 0).trans rfl)) (fun hHeld => ?_)
    clear hK K
    have n_BKk : Aside0 (((((wk1.setCell ⟨gk, 0, none⟩ (.bool false)).setCell ⟨gk, 1, none⟩ (.bool true)).setCell ⟨gk, 2, none⟩ (.bool false)).setCell ⟨gk, 3, none⟩ (.func (.func 45) #[] #[])).heap[gk]? = some (.cells #[.bool false, .bool true, .bool false, .func (.func 45) #[] #[]] 57 (0, 0))) := ⟨(blk_put (cs := #[.bool false, .bool true, .bool false, .nilFunc]) (blk_put (cs := #[.bool false, .bool true, .bool false, .nilFunc]) (blk_put (cs := #[.bool false, .bool false, .bool false, .nilFunc]) (blk_put (cs := #[.bool false, .bool false, .bool false, .nilFunc]) BKk.out 0 (.bool false) rfl) 1 (.bool true) rfl) 2 (.bool false) rfl) 3 (.func (.func 45) #[] #[]) rfl)⟩
    have n_BKc := Aside0.mk (show ((((wk1.setCell ⟨gk, 0, none⟩ (.bool false)).setCell ⟨gk, 1, none⟩ (.bool true)).setCell ⟨gk, 2, none⟩ (.bool false)).setCell ⟨gk, 3, none⟩ (.func (.func 45) #[] #[])).heap[gc]? = _ from (blk_far (blk_far (blk_far (blk_far BKc.out (p := ⟨gk, 0, none⟩) NE.out.symm _) (p := ⟨gk, 1, none⟩) NE.out.symm _) (p := ⟨gk, 2, none⟩) NE.out.symm _) (p := ⟨gk, 3, none⟩) NE.out.symm _))
    have n_HB := Aside0.mk (show Below w.heap.size w ((((wk1.setCell ⟨gk, 0, none⟩ (.bool false)).setCell ⟨gk, 1, none⟩ (.bool true)).setCell ⟨gk, 2, none⟩ (.bool false)).setCell ⟨gk, 3, none⟩ (.func (.func 45) #[] #[])) from (below_set (below_set (below_set (below_set HB.out GK.out) GK.out) GK.out) GK.out))
    clear BKk BKc HB zk0 zk1 zk2 zk3 zf0 zf1 zf2 zf3
    have BKk := n_BKk
    have BKc := n_BKc
    have HB := n_HB
    clear n_BKk n_BKc n_HB
    generalize ((((wk1.setCell ⟨gk, 0, none⟩ (.bool false)).setCell ⟨gk, 1, none⟩ (.bool true)).setCell ⟨gk, 2, none⟩ (.bool false)).setCell ⟨gk, 3, none⟩ (.func (.func 45) #[] #[])) = ws2 at BKk BKc HB hHeld ⊢
    refine done_ (by kernel_rfl) ?_
    clear hHeld
    simp only [Exit.then]
    go_step
    go_meet
    case rel => exact ⟨gk, rfl, BKk, NE, GK, BKc, HB⟩
 case rest =>
  clear BKc HB
  obtain ⟨gk, rfl, BKk, NE, GK, BKc, HB⟩ := hcut
  obtain ⟨o0, o1, o2, o3, o4, o5⟩ := Cz.c6 BKc
  obtain ⟨m0, m1, m2, m3⟩ := Cz.c4 BKk
  by_cases h3 : 1 ≤ i ∧ i ≤ 2147483647
  ·have F5 : Aside0 (change_within.f i 1 2147483647 = some true) := ⟨by unfold change_within.f; rw [if_pos (by omega), decide_eq_true (by omega)]⟩
   have H3 : Aside0 (Pl.idB i = true) := ⟨by unfold Pl.idB; simp; omega⟩
   have H0 := Aside0.mk h3
   clear h3
   by_cases ha : a = 0
   ·have ta : (a == 0) = true := beq_iff_eq.mpr ha
    have HA := Aside0.mk ha
    clear ha
    by_cases hn : n = 0
    ·have tn : (n == 0) = true := beq_iff_eq.mpr hn
     have HN := Aside0.mk hn
     clear hn
     have ZZ : Aside0 (decide (a = 0 ∧ n = 0) = true) := ⟨decide_eq_true ⟨HA.out, HN.out⟩⟩
     by_cases h4 : d.length = 0
     ·have HD : Aside0 (change_kinds_1.f k a n i d l = some true) := ⟨by unfold change_kinds_1.f; rw [h4]; rfl⟩
      have H4 := Aside0.mk h4
      clear h4
      by_cases h5 : l.length = 0
      ·have t51 : (l.length == 0) = true := by rw [h5]; rfl
       have t52 : ((l.length : Int) == 0) = true := by rw [h5]; rfl
       have H5 := Aside0.mk h5
       clear h5
       have E := Aside0.mk (show Pl.chOk k a n i d (l.map toE) = true by rw [Pl.chOk_4 HK.out]; simp [ZZ.out, H3.out, H4.out, H5.out])
       go_wp2_with (first | (go_at_call 30; (with_reducible show Calls _ _ #[.int .i64 i, .int .i64 1, _] _ _); refine (change_within.calls _ _ _ true _ ?hW).mono ?_; (case hW => first | exact F5.out); rintro e wi1 ⟨rfl, hd⟩; have hb := hd.below; clear hd; clear o0 o1 o2 o3 o4 o5 m0 m1 m2 m3; replace BKc := Cz.bk BKc hb; replace BKk := Cz.bk BKk hb; replace HB := Cz.bs (w := w) hb; clear hb; obtain ⟨o0, o1, o2, o3, o4, o5⟩ := Cz.c6 BKc; obtain ⟨m0, m1, m2, m3⟩ := Cz.c4 BKk) | (go_at_call 45; refine (change_kinds_1.calls k a n i _ _ d _ _ l true _ (Kd.C_below HR4.out HB.out) HC4.out (Kd.C_below HR5.out HB.out) HC5.out HD.out).mono ?_; rintro e wd1 ⟨rfl, hb⟩; clear o0 o1 o2 o3 o4 o5 m0 m1 m2 m3; replace BKc := Cz.bk BKc hb; replace BKk := Cz.bk BKk hb; replace HB := Cz.bs (w := w) hb; clear hb; obtain ⟨o0, o1, o2, o3, o4, o5⟩ := Cz.c6 BKc; obtain ⟨m0, m1, m2, m3⟩ := Cz.c4 BKk))
       go_ret
       exact ⟨by rw [E.out]; rfl, HB.out⟩
      ·have t51 : (l.length == 0) = false := beq_eq_false_iff_ne.mpr h5
       have t52 : ((l.length : Int) == 0) = false := beq_eq_false_iff_ne.mpr (by omega)
       have t53 : (l.length = 0) = False := eq_false h5
       have H5 := Aside0.mk h5
       clear h5
       have HF : Aside0 (change_follows.f l = some (Pl.folS (l.map toE))) := ⟨change_follows.tells LL.out⟩
       have E := Aside0.mk (show Pl.chOk k a n i d (l.map toE) = false by rw [Pl.chOk_4 HK.out]; simp [ZZ.out, H3.out, H4.out, H5.out])
       go_wp2_with (first | (go_at_call 30; (with_reducible show Calls _ _ #[.int .i64 i, .int .i64 1, _] _ _); refine (change_within.calls _ _ _ true _ ?hW).mono ?_; (case hW => first | exact F5.out); rintro e wi1 ⟨rfl, hd⟩; have hb := hd.below; clear hd; clear o0 o1 o2 o3 o4 o5 m0 m1 m2 m3; replace BKc := Cz.bk BKc hb; replace BKk := Cz.bk BKk hb; replace HB := Cz.bs (w := w) hb; clear hb; obtain ⟨o0, o1, o2, o3, o4, o5⟩ := Cz.c6 BKc; obtain ⟨m0, m1, m2, m3⟩ := Cz.c4 BKk) | (go_at_call 45; refine (change_kinds_1.calls k a n i _ _ d _ _ l true _ (Kd.C_below HR4.out HB.out) HC4.out (Kd.C_below HR5.out HB.out) HC5.out HD.out).mono ?_; rintro e wd1 ⟨rfl, hb⟩; clear o0 o1 o2 o3 o4 o5 m0 m1 m2 m3; replace BKc := Cz.bk BKc hb; replace BKk := Cz.bk BKk hb; replace HB := Cz.bs (w := w) hb; clear hb; obtain ⟨o0, o1, o2, o3, o4, o5⟩ := Cz.c6 BKc; obtain ⟨m0, m1, m2, m3⟩ := Cz.c4 BKk))
       go_ret
       exact ⟨by rw [E.out]; rfl, HB.out⟩
     ·have HD : Aside0 (change_kinds_1.f k a n i d l = some false) := ⟨by unfold change_kinds_1.f; rw [show ((d.length : Int) == 0) = false from beq_eq_false_iff_ne.mpr (by omega)]⟩
      have H4 := Aside0.mk h4
      clear h4
      have E := Aside0.mk (show Pl.chOk k a n i d (l.map toE) = false by rw [Pl.chOk_4 HK.out]; simp [ZZ.out, H3.out, H4.out])
      go_wp2_with (first | (go_at_call 30; (with_reducible show Calls _ _ #[.int .i64 i, .int .i64 1, _] _ _); refine (change_within.calls _ _ _ true _ ?hW).mono ?_; (case hW => first | exact F5.out); rintro e wi1 ⟨rfl, hd⟩; have hb := hd.below; clear hd; clear o0 o1 o2 o3 o4 o5 m0 m1 m2 m3; replace BKc := Cz.bk BKc hb; replace BKk := Cz.bk BKk hb; replace HB := Cz.bs (w := w) hb; clear hb; obtain ⟨o0, o1, o2, o3, o4, o5⟩ := Cz.c6 BKc; obtain ⟨m0, m1, m2, m3⟩ := Cz.c4 BKk) | (go_at_call 45; refine (change_kinds_1.calls k a n i _ _ d _ _ l false _ (Kd.C_below HR4.out HB.out) HC4.out (Kd.C_below HR5.out HB.out) HC5.out HD.out).mono ?_; rintro e wd1 ⟨rfl, hb⟩; clear o0 o1 o2 o3 o4 o5 m0 m1 m2 m3; replace BKc := Cz.bk BKc hb; replace BKk := Cz.bk BKk hb; replace HB := Cz.bs (w := w) hb; clear hb; obtain ⟨o0, o1, o2, o3, o4, o5⟩ := Cz.c6 BKc; obtain ⟨m0, m1, m2, m3⟩ := Cz.c4 BKk))
      go_ret
      exact ⟨by rw [E.out]; rfl, HB.out⟩
    ·have tn : (n == 0) = false := beq_eq_false_iff_ne.mpr hn
     have HN := Aside0.mk hn
     clear hn
     have ZZ : Aside0 (decide (a = 0 ∧ n = 0) = false) := ⟨decide_eq_false (fun q => HN.out q.2)⟩
     have E := Aside0.mk (show Pl.chOk k a n i d (l.map toE) = false by rw [Pl.chOk_4 HK.out]; rw [ZZ.out]; rfl)
     go_wp2_with (first | (go_at_call 30; (with_reducible show Calls _ _ #[.int .i64 i, .int .i64 1, _] _ _); refine (change_within.calls _ _ _ true _ ?hW).mono ?_; (case hW => first | exact F5.out); rintro e wi1 ⟨rfl, hd⟩; have hb := hd.below; clear hd; clear o0 o1 o2 o3 o4 o5 m0 m1 m2 m3; replace BKc := Cz.bk BKc hb; replace BKk := Cz.bk BKk hb; replace HB := Cz.bs (w := w) hb; clear hb; obtain ⟨o0, o1, o2, o3, o4, o5⟩ := Cz.c6 BKc; obtain ⟨m0, m1, m2, m3⟩ := Cz.c4 BKk))
     go_ret
     exact ⟨by rw [E.out]; rfl, HB.out⟩
   ·have ta : (a == 0) = false := beq_eq_false_iff_ne.mpr ha
    have HA := Aside0.mk ha
    clear ha
    have ZZ : Aside0 (decide (a = 0 ∧ n = 0) = false) := ⟨decide_eq_false (fun q => HA.out q.1)⟩
    have E := Aside0.mk (show Pl.chOk k a n i d (l.map toE) = false by rw [Pl.chOk_4 HK.out]; rw [ZZ.out]; rfl)
    go_wp2_with (first | (go_at_call 30; (with_reducible show Calls _ _ #[.int .i64 i, .int .i64 1, _] _ _); refine (change_within.calls _ _ _ true _ ?hW).mono ?_; (case hW => first | exact F5.out); rintro e wi1 ⟨rfl, hd⟩; have hb := hd.below; clear hd; clear o0 o1 o2 o3 o4 o5 m0 m1 m2 m3; replace BKc := Cz.bk BKc hb; replace BKk := Cz.bk BKk hb; replace HB := Cz.bs (w := w) hb; clear hb; obtain ⟨o0, o1, o2, o3, o4, o5⟩ := Cz.c6 BKc; obtain ⟨m0, m1, m2, m3⟩ := Cz.c4 BKk))
    go_ret
    exact ⟨by rw [E.out]; rfl, HB.out⟩
  ·have F5 : Aside0 (change_within.f i 1 2147483647 = some false) := ⟨by unfold change_within.f; by_cases q : i ≥ 1 <;> first | (rw [if_pos q, decide_eq_false (by omega)]; done) | (rw [if_neg q]; done)⟩
   have H3 : Aside0 (Pl.idB i = false) := ⟨by unfold Pl.idB; simp; omega⟩
   have H0 := Aside0.mk h3
   clear h3
   by_cases ha : a = 0
   ·have ta : (a == 0) = true := beq_iff_eq.mpr ha
    have HA := Aside0.mk ha
    clear ha
    by_cases hn : n = 0
    ·have tn : (n == 0) = true := beq_iff_eq.mpr hn
     have HN := Aside0.mk hn
     clear hn
     have ZZ : Aside0 (decide (a = 0 ∧ n = 0) = true) := ⟨decide_eq_true ⟨HA.out, HN.out⟩⟩
     have E := Aside0.mk (show Pl.chOk k a n i d (l.map toE) = false by rw [Pl.chOk_4 HK.out]; simp [ZZ.out, H3.out])
     go_wp2_with (first | (go_at_call 30; (with_reducible show Calls _ _ #[.int .i64 i, .int .i64 1, _] _ _); refine (change_within.calls _ _ _ false _ ?hW).mono ?_; (case hW => first | exact F5.out); rintro e wi1 ⟨rfl, hd⟩; have hb := hd.below; clear hd; clear o0 o1 o2 o3 o4 o5 m0 m1 m2 m3; replace BKc := Cz.bk BKc hb; replace BKk := Cz.bk BKk hb; replace HB := Cz.bs (w := w) hb; clear hb; obtain ⟨o0, o1, o2, o3, o4, o5⟩ := Cz.c6 BKc; obtain ⟨m0, m1, m2, m3⟩ := Cz.c4 BKk))
     go_ret
     exact ⟨by rw [E.out]; rfl, HB.out⟩
    ·have tn : (n == 0) = false := beq_eq_false_iff_ne.mpr hn
     have HN := Aside0.mk hn
     clear hn
     have ZZ : Aside0 (decide (a = 0 ∧ n = 0) = false) := ⟨decide_eq_false (fun q => HN.out q.2)⟩
     have E := Aside0.mk (show Pl.chOk k a n i d (l.map toE) = false by rw [Pl.chOk_4 HK.out]; rw [ZZ.out]; rfl)
     go_wp2_with (first | (go_at_call 30; (with_reducible show Calls _ _ #[.int .i64 i, .int .i64 1, _] _ _); refine (change_within.calls _ _ _ false _ ?hW).mono ?_; (case hW => first | exact F5.out); rintro e wi1 ⟨rfl, hd⟩; have hb := hd.below; clear hd; clear o0 o1 o2 o3 o4 o5 m0 m1 m2 m3; replace BKc := Cz.bk BKc hb; replace BKk := Cz.bk BKk hb; replace HB := Cz.bs (w := w) hb; clear hb; obtain ⟨o0, o1, o2, o3, o4, o5⟩ := Cz.c6 BKc; obtain ⟨m0, m1, m2, m3⟩ := Cz.c4 BKk))
     go_ret
     exact ⟨by rw [E.out]; rfl, HB.out⟩
   ·have ta : (a == 0) = false := beq_eq_false_iff_ne.mpr ha
    have HA := Aside0.mk ha
    clear ha
    have ZZ : Aside0 (decide (a = 0 ∧ n = 0) = false) := ⟨decide_eq_false (fun q => HA.out q.1)⟩
    have E := Aside0.mk (show Pl.chOk k a n i d (l.map toE) = false by rw [Pl.chOk_4 HK.out]; rw [ZZ.out]; rfl)
    go_wp2_with (first | (go_at_call 30; (with_reducible show Calls _ _ #[.int .i64 i, .int .i64 1, _] _ _); refine (change_within.calls _ _ _ false _ ?hW).mono ?_; (case hW => first | exact F5.out); rintro e wi1 ⟨rfl, hd⟩; have hb := hd.below; clear hd; clear o0 o1 o2 o3 o4 o5 m0 m1 m2 m3; replace BKc := Cz.bk BKc hb; replace BKk := Cz.bk BKk hb; replace HB := Cz.bs (w := w) hb; clear hb; obtain ⟨o0, o1, o2, o3, o4, o5⟩ := Cz.c6 BKc; obtain ⟨m0, m1, m2, m3⟩ := Cz.c4 BKk))
    go_ret
    exact ⟨by rw [E.out]; rfl, HB.out⟩
set_option maxHeartbeats 4000000 in
set_option maxRecDepth 2000000 in
theorem change_Check.c6 (a n i : Int) (A4 : Option Addr) (c4 : Nat) (d : List Int) (A5 : Option Addr) (c5 : Nat) (l : List S39) (w : World) (hr4 : Kd.C (Kd.int .u8) w A4 d.length d) (hc4 : d.length ≤ c4) (hr5 : Kd.C k39 w A5 l.length l) (hc5 : l.length ≤ c5) (hn0 : -9223372036854775808 ≤ n) (hn1 : n < 9223372036854775808) (hll : l.length < 1073741824) (hdl : d.length < 1073741824) : Calls Try.prog 16 #[.agg #[.int .i64 6, .int .i64 a, .int .i64 n, .int .i64 i, .slice A4 d.length c4, .slice A5 l.length c5]] w fun e w' => e = .returned (.bool (Pl.chOk 6 a n i d (l.map toE))) ∧ Below w.heap.size w w' := by
 have hu26 := Try.underlying26
 have HR4 := Aside0.mk hr4
 have HC4 := Aside0.mk hc4
 have HR5 := Aside0.mk hr5
 have HC5 := Aside0.mk hc5
 have HB := Aside0.mk (Below.refl w.heap.size w)
 clear hr4 hc4 hr5 hc5
 have b1 : change_within.f 6 1 8 = some true := by rfl
 have B1 := Aside0.mk b1
 clear b1
 have hix6 : ∀ w : World, (Instr.index 58 (.agg #[.bool false, .bool false, .bool false, .nilFunc, .bool true, .bool false, .bool false, .func (.func 47) #[] #[], .bool true, .bool false, .bool false, .func (.func 45) #[] #[], .bool true, .bool false, .bool false, .func (.func 45) #[] #[], .bool false, .bool true, .bool false, .func (.func 45) #[] #[], .bool false, .bool true, .bool false, .func (.func 45) #[] #[], .bool false, .bool false, .bool false, .func (.func 46) #[] #[], .bool false, .bool false, .bool false, .func (.func 45) #[] #[], .bool false, .bool true, .bool true, .func (.func 45) #[] #[]]) (.int .i64 6)).run Try.prog w = .ok (.agg #[.bool false, .bool false, .bool false, .func (.func 46) #[] #[]]) w := fun _ => by kernel_rfl
 have N0 := Aside0.mk hn0
 have N1 := Aside0.mk hn1
 have LL := Aside0.mk hll
 have DL := Aside0.mk hdl
 clear hn0 hn1 hll hdl
 go_enter Try.func16, Try.ntmps16
 go_upto_region 4 with (first | ((with_reducible refine gate_dst (N := 1) rfl ?_); refine Cz.bx (N := 1) #[.int .i64 6, .int .i64 a, .int .i64 n, .int .i64 i, .slice A4 d.length c4, .slice A5 l.length c5] 26 ?_; intro gc hg w1 hbox hb; have BKc := Aside0.mk hbox; have GC := Aside0.mk (show w.heap.size ≤ gc by rw [hg]; exact Nat.le_refl _); replace HB := Cz.bs (w := w) hb; clear hb hbox hg; obtain ⟨j0, j1, j2, j3, j4, j5⟩ := Cz.c6 BKc) | (go_at_call 30; refine (change_within.calls _ _ _ true _ B1.out).mono ?_; rintro e w2 ⟨rfl, hd⟩; have hb := hd.below; clear hd; replace BKc := Cz.bk BKc hb; replace HB := Cz.bs (w := w) hb; clear hb; clear j0 j1 j2 j3 j4 j5))
 go_cut [3] (fun v3 wc => ∃ gk : Nat, v3 = .pointer (some ⟨gk, 0, none⟩) ∧ Aside0 (wc.heap[gk]? = some (.cells #[.bool false, .bool false, .bool false, .func (.func 46) #[] #[]] 57 (0, 0))) ∧ Aside0 (gk ≠ gc) ∧ Aside0 (w.heap.size ≤ gk) ∧ Aside0 (wc.heap[gc]? = some (.cells #[.int .i64 6, .int .i64 a, .int .i64 n, .int .i64 i, .slice A4 d.length c4, .slice A5 l.length c5] 26 (0, 0))) ∧ Aside0 (Below w.heap.size w wc))
 case first =>
  replace BKc := Aside0.mk (blk_drew BKc.out)
  replace HB := Aside0.mk (below_drew HB.out)
  refine start_ (n := 6) (S := fun w' => w'.cell? ⟨gc, 0, none⟩ = some (.int .i64 6)) (ds := []) #[false, false, false, false, false, false] (by kernel_rfl) rfl rfl (((blk_cell BKc.out 0).trans rfl)) (fun hHeld => ?_)
  generalize w2.drew = wd at HB BKc hHeld ⊢
  refine Cz.rP 1 11 ?_
  refine take_ (i := 2) (N := some 12) (v := ?_) (a' := ?_) #[false, true, true, false, false, false] rfl rfl (by kernel_rfl) (fun _ _ _ h => h) (Or.inl ⟨by rfl, ?_⟩) hHeld ?_ ?_
  rotate_left
  ·intro w' s0
   go_simp
   with_reducible rfl
  rotate_left
  ·simp only [Act.put, Kx.sb, Kx.sz, Kx.ss, i64_w, i32_w]
   rfl
  refine two_ (i := 0) (j := 4) (Ni := some 10) (Nj := some 3) #[true, true, true, false, false, false] #[false, true, true, false, true, false] rfl rfl rfl rfl (by kernel_rfl) (by decide) (by decide) (fun K hK => ?_) (fun K hK => ?_)
  ·skip
   refine goes_ Try.func31 (by kernel_rfl) rfl #[] (by rfl) rfl rfl (by simp) ?_
   refine (change_kinds.calls _).mono ?_
   rintro e wk0 ⟨rfl, hb⟩
   refine ⟨_, rfl, ?_⟩
   replace BKc := Cz.bk BKc hb
   replace HB := Cz.bs (w := w) hb
   clear hb
   refine hK.out _ _ (((blk_cell BKc.out 0).trans rfl)) (fun hHeld => ?_)
   clear hK K
   refine norm_ (a' := ?_) ?_ ?_
   rotate_left
   ·show Act.put _ (some 10) _ = _
    simp only [Act.put, Kx.sb, Kx.sz, Kx.ss, i64_w, i32_w]
    rfl
   refine take_ (i := 3) (N := some 13) (v := ?_) (a' := ?_) #[true, true, true, true, false, false] rfl rfl (by kernel_rfl) (fun _ _ _ h => h) (Or.inl ⟨by rfl, ?_⟩) hHeld ?_ ?_
   rotate_left
   ·intro w' s0
    go_simp
    with_reducible rfl
   rotate_left
   ·simp only [Act.put, Kx.sb, Kx.sz, Kx.ss, i64_w, i32_w]
    rfl
   refine Cz.rO (N := some 3) 4 (fun K hK => ?_)
   refine value_ (w1 := ?_) (v := ?_) (by rfl) rfl ?_ ?_
   rotate_left 2
   ·go_simp
    constructor
    ·rfl
    ·rfl
   have BKk := Aside0.mk (blk_new wk0 (.cells #[.bool false, .bool false, .bool false, .nilFunc] 57))
   have GK := Aside0.mk (show w.heap.size ≤ wk0.heap.size from below_size HB.out)
   have NE := Aside0.mk (Nat.ne_of_gt (blk_lt BKc.out))
   replace BKc := Aside0.mk (blk_alloc BKc.out (.cells #[.bool false, .bool false, .bool false, .nilFunc] 57))
   replace HB := Aside0.mk (below_alloc HB.out (.cells #[.bool false, .bool false, .bool false, .nilFunc] 57))
   generalize wk0.alloc (.cells #[.bool false, .bool false, .bool false, .nilFunc] 57) = wa1 at BKk HB BKc ⊢
   generalize wk0.heap.size = gk at BKk GK NE ⊢
   refine hK.out _ _ (((blk_cell BKc.out 0).trans rfl)) (fun hHeld => ?_)
   clear hK K
   refine norm_ (a' := ?_) ?_ ?_
   rotate_left
   ·show Act.put _ (some 3) _ = _
    simp only [Act.put, Kx.sb, Kx.sz, Kx.ss, i64_w, i32_w]
    rfl
   refine Cz.rO (N := none) 5 (fun K hK => ?_)
   obtain ⟨zk0, zk1, zk2, zk3, zf0, zf1, zf2, zf3⟩ := Cz.d4 BKk
   refine skip_ (w1 := ?_) (by rfl) rfl ?_ ?_
   rotate_left
   ·go_simp
    rfl
   refine hK.out _ _ (((blk_cell (blk_far (blk_far (blk_far (blk_far BKc.out (p := ⟨gk, 0, none⟩) NE.out.symm _) (p := ⟨gk, 1, none⟩) NE.out.symm _) (p := ⟨gk, 2, none⟩) NE.out.symm _) (p := ⟨gk, 3, none⟩) NE.out.symm _) 0).trans rfl)) (fun hHeld => ?_)
   clear hK K
   have n_BKk : Aside0 (((((wa1.setCell ⟨gk, 0, none⟩ (.bool false)).setCell ⟨gk, 1, none⟩ (.bool false)).setCell ⟨gk, 2, none⟩ (.bool false)).setCell ⟨gk, 3, none⟩ (.func (.func 46) #[] #[])).heap[gk]? = some (.cells #[.bool false, .bool false, .bool false, .func (.func 46) #[] #[]] 57 (0, 0))) := ⟨(blk_put (cs := #[.bool false, .bool false, .bool false, .nilFunc]) (blk_put (cs := #[.bool false, .bool false, .bool false, .nilFunc]) (blk_put (cs := #[.bool false, .bool false, .bool false, .nilFunc]) (blk_put (cs := #[.bool false, .bool false, .bool false, .nilFunc]) BKk.out 0 (.bool false) rfl) 1 (.bool false) rfl) 2 (.bool false) rfl) 3 (.func (.func 46) #[] #[]) rfl)⟩
   have n_BKc := Aside0.mk (show ((((wa1.setCell ⟨gk, 0, none⟩ (.bool false)).setCell ⟨gk, 1, none⟩ (.bool false)).setCell ⟨gk, 2, none⟩ (.bool false)).setCell ⟨gk, 3, none⟩ (.func (.func 46) #[] #[])).heap[gc]? = _ from (blk_far (blk_far (blk_far (blk_far BKc.out (p := ⟨gk, 0, none⟩) NE.out.symm _) (p := ⟨gk, 1, none⟩) NE.out.symm _) (p := ⟨gk, 2, none⟩) NE.out.symm _) (p := ⟨gk, 3, none⟩) NE.out.symm _))
   have n_HB := Aside0.mk (show Below w.heap.size w ((((wa1.setCell ⟨gk, 0, none⟩ (.bool false)).setCell ⟨gk, 1, none⟩ (.bool false)).setCell ⟨gk, 2, none⟩ (.bool false)).setCell ⟨gk, 3, none⟩ (.func (.func 46) #[] #[])) from (below_set (below_set (below_set (below_set HB.out GK.out) GK.out) GK.out) GK.out))
   clear BKk BKc HB zk0 zk1 zk2 zk3 zf0 zf1 zf2 zf3
   have BKk := n_BKk
   have BKc := n_BKc
   have HB := n_HB
   clear n_BKk n_BKc n_HB
   generalize ((((wa1.setCell ⟨gk, 0, none⟩ (.bool false)).setCell ⟨gk, 1, none⟩ (.bool false)).setCell ⟨gk, 2, none⟩ (.bool false)).setCell ⟨gk, 3, none⟩ (.func (.func 46) #[] #[])) = ws2 at BKk BKc HB hHeld ⊢
   refine done_ (by kernel_rfl) ?_
   clear hHeld
   simp only [Exit.then]
   go_step
   go_meet
   case rel => exact ⟨gk, rfl, BKk, NE, GK, BKc, HB⟩
  ·skip
   refine value_ (w1 := ?_) (v := ?_) (by rfl) rfl ?_ ?_
   rotate_left 2
   ·go_simp
    constructor
    ·rfl
    ·rfl
   have BKk := Aside0.mk (blk_new wd (.cells #[.bool false, .bool false, .bool false, .nilFunc] 57))
   have GK := Aside0.mk (show w.heap.size ≤ wd.heap.size from below_size HB.out)
   have NE := Aside0.mk (Nat.ne_of_gt (blk_lt BKc.out))
   replace BKc := Aside0.mk (blk_alloc BKc.out (.cells #[.bool false, .bool false, .bool false, .nilFunc] 57))
   replace HB := Aside0.mk (below_alloc HB.out (.cells #[.bool false, .bool false, .bool false, .nilFunc] 57))
   generalize wd.alloc (.cells #[.bool false, .bool false, .bool false, .nilFunc] 57) = wa0 at BKk HB BKc ⊢
   generalize wd.heap.size = gk at BKk GK NE ⊢
   refine hK.out _ _ (((blk_cell BKc.out 0).trans rfl)) (fun hHeld => ?_)
   clear hK K
   refine norm_ (a' := ?_) ?_ ?_
   rotate_left
   ·show Act.put _ (some 3) _ = _
    simp only [Act.put, Kx.sb, Kx.sz, Kx.ss, i64_w, i32_w]
    rfl
   refine Cz.rO (N := some 10) 0 (fun K hK => ?_)
   refine goes_ Try.func31 (by kernel_rfl) rfl #[] (by rfl) rfl rfl (by simp) ?_
   refine (change_kinds.calls _).mono ?_
   rintro e wk1 ⟨rfl, hb⟩
   refine ⟨_, rfl, ?_⟩
   replace BKc := Cz.bk BKc hb
   replace BKk := Cz.bk BKk hb
   replace HB := Cz.bs (w := w) hb
   clear hb
   refine hK.out _ _ (((blk_cell BKc.out 0).trans rfl)) (fun hHeld => ?_)
   clear hK K
   refine norm_ (a' := ?_) ?_ ?_
   rotate_left
   ·show Act.put _ (some 10) _ = _
    simp only [Act.put, Kx.sb, Kx.sz, Kx.ss, i64_w, i32_w]
    rfl
   refine take_ (i := 3) (N := some 13) (v := ?_) (a' := ?_) #[true, true, true, true, true, false] rfl rfl (by kernel_rfl) (fun _ _ _ h => h) (Or.inl ⟨by rfl, ?_⟩) hHeld ?_ ?_
   rotate_left
   ·intro w' s0
    go_simp
    with_reducible rfl
   rotate_left
   ·simp only [Act.put, Kx.sb, Kx.sz, Kx.ss, i64_w, i32_w]
    rfl
   refine Cz.rO (N := none) 5 (fun K hK => ?_)
   obtain ⟨zk0, zk1, zk2, zk3, zf0, zf1, zf2, zf3⟩ := Cz.d4 BKk
   refine skip_ (w1 := ?_) (by rfl) rfl ?_ ?_
   rotate_left
   ·go_simp
    rfl
   refine hK.out _ _ (((blk_cell (blk_far (blk_far (blk_far (blk_far BKc.out (p := ⟨gk, 0, none⟩) NE.out.symm _) (p := ⟨gk, 1, none⟩) NE.out.symm _) (p := ⟨gk, 2, none⟩) NE.out.symm _) (p := ⟨gk, 3, none⟩) NE.out.symm _) 0).trans rfl)) (fun hHeld => ?_)
   clear hK K
   have n_BKk : Aside0 (((((wk1.setCell ⟨gk, 0, none⟩ (.bool false)).setCell ⟨gk, 1, none⟩ (.bool false)).setCell ⟨gk, 2, none⟩ (.bool false)).setCell ⟨gk, 3, none⟩ (.func (.func 46) #[] #[])).heap[gk]? = some (.cells #[.bool false, .bool false, .bool false, .func (.func 46) #[] #[]] 57 (0, 0))) := ⟨(blk_put (cs := #[.bool false, .bool false, .bool false, .nilFunc]) (blk_put (cs := #[.bool false, .bool false, .bool false, .nilFunc]) (blk_put (cs := #[.bool false, .bool false, .bool false, .nilFunc]) (blk_put (cs := #[.bool false, .bool false, .bool false, .nilFunc]) BKk.out 0 (.bool false) rfl) 1 (.bool false) rfl) 2 (.bool false) rfl) 3 (.func (.func 46) #[] #[]) rfl)⟩
   have n_BKc := Aside0.mk (show ((((wk1.setCell ⟨gk, 0, none⟩ (.bool false)).setCell ⟨gk, 1, none⟩ (.bool false)).setCell ⟨gk, 2, none⟩ (.bool false)).setCell ⟨gk, 3, none⟩ (.func (.func 46) #[] #[])).heap[gc]? = _ from (blk_far (blk_far (blk_far (blk_far BKc.out (p := ⟨gk, 0, none⟩) NE.out.symm _) (p := ⟨gk, 1, none⟩) NE.out.symm _) (p := ⟨gk, 2, none⟩) NE.out.symm _) (p := ⟨gk, 3, none⟩) NE.out.symm _))
   have n_HB := Aside0.mk (show Below w.heap.size w ((((wk1.setCell ⟨gk, 0, none⟩ (.bool false)).setCell ⟨gk, 1, none⟩ (.bool false)).setCell ⟨gk, 2, none⟩ (.bool false)).setCell ⟨gk, 3, none⟩ (.func (.func 46) #[] #[])) from (below_set (below_set (below_set (below_set HB.out GK.out) GK.out) GK.out) GK.out))
   clear BKk BKc HB zk0 zk1 zk2 zk3 zf0 zf1 zf2 zf3
   have BKk := n_BKk
   have BKc := n_BKc
   have HB := n_HB
   clear n_BKk n_BKc n_HB
   generalize ((((wk1.setCell ⟨gk, 0, none⟩ (.bool false)).setCell ⟨gk, 1, none⟩ (.bool false)).setCell ⟨gk, 2, none⟩ (.bool false)).setCell ⟨gk, 3, none⟩ (.func (.func 46) #[] #[])) = ws2 at BKk BKc HB hHeld ⊢
   refine done_ (by kernel_rfl) ?_
   clear hHeld
   simp only [Exit.then]
   go_step
   go_meet
   case rel => exact ⟨gk, rfl, BKk, NE, GK, BKc, HB⟩
 case rest =>
  clear BKc HB
  obtain ⟨gk, rfl, BKk, NE, GK, BKc, HB⟩ := hcut
  obtain ⟨o0, o1, o2, o3, o4, o5⟩ := Cz.c6 BKc
  obtain ⟨m0, m1, m2, m3⟩ := Cz.c4 BKk
  by_cases h3 : i = 0
  ·have ti : (i == 0) = true := beq_iff_eq.mpr h3
   have H3 := Aside0.mk h3
   clear h3
   by_cases ha : a = 0
   ·have ta : (a == 0) = true := beq_iff_eq.mpr ha
    have HA := Aside0.mk ha
    clear ha
    by_cases hn : n = 0
    ·have tn : (n == 0) = true := beq_iff_eq.mpr hn
     have HN := Aside0.mk hn
     clear hn
     have ZZ : Aside0 (decide (a = 0 ∧ n = 0) = true) := ⟨decide_eq_true ⟨HA.out, HN.out⟩⟩
     by_cases h4 : 1 ≤ d.length ∧ d.length ≤ 1000
     ·have HD : Aside0 (change_kinds_2.f 6 a n i d l = some true) := ⟨by unfold change_kinds_2.f change_within.f; rw [if_pos (by omega), decide_eq_true (by omega)]; rfl⟩
      have H4 := Aside0.mk h4
      clear h4
      by_cases h5 : l.length = 0
      ·have t51 : (l.length == 0) = true := by rw [h5]; rfl
       have t52 : ((l.length : Int) == 0) = true := by rw [h5]; rfl
       have H5 := Aside0.mk h5
       clear h5
       have E := Aside0.mk (show Pl.chOk 6 a n i d (l.map toE) = true by rw [Pl.chOk_6]; simp [ZZ.out, H3.out, H4.out, H5.out])
       go_wp2_with (first | (go_at_call 46; refine (change_kinds_2.calls 6 a n i _ _ d _ _ l true _ (Kd.C_below HR4.out HB.out) HC4.out (Kd.C_below HR5.out HB.out) HC5.out HD.out).mono ?_; rintro e wd1 ⟨rfl, hb⟩; clear o0 o1 o2 o3 o4 o5 m0 m1 m2 m3; replace BKc := Cz.bk BKc hb; replace BKk := Cz.bk BKk hb; replace HB := Cz.bs (w := w) hb; clear hb; obtain ⟨o0, o1, o2, o3, o4, o5⟩ := Cz.c6 BKc; obtain ⟨m0, m1, m2, m3⟩ := Cz.c4 BKk))
       go_ret
       exact ⟨by rw [E.out]; rfl, HB.out⟩
      ·have t51 : (l.length == 0) = false := beq_eq_false_iff_ne.mpr h5
       have t52 : ((l.length : Int) == 0) = false := beq_eq_false_iff_ne.mpr (by omega)
       have t53 : (l.length = 0) = False := eq_false h5
       have H5 := Aside0.mk h5
       clear h5
       have HF : Aside0 (change_follows.f l = some (Pl.folS (l.map toE))) := ⟨change_follows.tells LL.out⟩
       have E := Aside0.mk (show Pl.chOk 6 a n i d (l.map toE) = false by rw [Pl.chOk_6]; simp [ZZ.out, H3.out, H4.out, H5.out])
       go_wp2_with (first | (go_at_call 46; refine (change_kinds_2.calls 6 a n i _ _ d _ _ l true _ (Kd.C_below HR4.out HB.out) HC4.out (Kd.C_below HR5.out HB.out) HC5.out HD.out).mono ?_; rintro e wd1 ⟨rfl, hb⟩; clear o0 o1 o2 o3 o4 o5 m0 m1 m2 m3; replace BKc := Cz.bk BKc hb; replace BKk := Cz.bk BKk hb; replace HB := Cz.bs (w := w) hb; clear hb; obtain ⟨o0, o1, o2, o3, o4, o5⟩ := Cz.c6 BKc; obtain ⟨m0, m1, m2, m3⟩ := Cz.c4 BKk))
       go_ret
       exact ⟨by rw [E.out]; rfl, HB.out⟩
     ·have HD : Aside0 (change_kinds_2.f 6 a n i d l = some false) := ⟨by unfold change_kinds_2.f change_within.f; by_cases q : (d.length : Int) ≥ 1 <;> first | (rw [if_pos q, decide_eq_false (by omega)]; rfl; done) | (rw [if_neg q]; rfl; done)⟩
      have H4 := Aside0.mk h4
      clear h4
      have E := Aside0.mk (show Pl.chOk 6 a n i d (l.map toE) = false by rw [Pl.chOk_6]; simp [ZZ.out, H3.out, H4.out])
      go_wp2_with (first | (go_at_call 46; refine (change_kinds_2.calls 6 a n i _ _ d _ _ l false _ (Kd.C_below HR4.out HB.out) HC4.out (Kd.C_below HR5.out HB.out) HC5.out HD.out).mono ?_; rintro e wd1 ⟨rfl, hb⟩; clear o0 o1 o2 o3 o4 o5 m0 m1 m2 m3; replace BKc := Cz.bk BKc hb; replace BKk := Cz.bk BKk hb; replace HB := Cz.bs (w := w) hb; clear hb; obtain ⟨o0, o1, o2, o3, o4, o5⟩ := Cz.c6 BKc; obtain ⟨m0, m1, m2, m3⟩ := Cz.c4 BKk))
      go_ret
      exact ⟨by rw [E.out]; rfl, HB.out⟩
    ·have tn : (n == 0) = false := beq_eq_false_iff_ne.mpr hn
     have HN := Aside0.mk hn
     clear hn
     have ZZ : Aside0 (decide (a = 0 ∧ n = 0) = false) := ⟨decide_eq_false (fun q => HN.out q.2)⟩
     have E := Aside0.mk (show Pl.chOk 6 a n i d (l.map toE) = false by rw [Pl.chOk_6]; rw [ZZ.out]; rfl)
     go_wp2_with fail
     go_ret
     exact ⟨by rw [E.out]; rfl, HB.out⟩
   ·have ta : (a == 0) = false := beq_eq_false_iff_ne.mpr ha
    have HA := Aside0.mk ha
    clear ha
    have ZZ : Aside0 (decide (a = 0 ∧ n = 0) = false) := ⟨decide_eq_false (fun q => HA.out q.1)⟩
    have E := Aside0.mk (show Pl.chOk 6 a n i d (l.map toE) = false by rw [Pl.chOk_6]; rw [ZZ.out]; rfl)
    go_wp2_with fail
    go_ret
    exact ⟨by rw [E.out]; rfl, HB.out⟩
  ·have ti : (i == 0) = false := beq_eq_false_iff_ne.mpr h3
   have H3 := Aside0.mk h3
   clear h3
   by_cases ha : a = 0
   ·have ta : (a == 0) = true := beq_iff_eq.mpr ha
    have HA := Aside0.mk ha
    clear ha
    by_cases hn : n = 0
    ·have tn : (n == 0) = true := beq_iff_eq.mpr hn
     have HN := Aside0.mk hn
     clear hn
     have ZZ : Aside0 (decide (a = 0 ∧ n = 0) = true) := ⟨decide_eq_true ⟨HA.out, HN.out⟩⟩
     have E := Aside0.mk (show Pl.chOk 6 a n i d (l.map toE) = false by rw [Pl.chOk_6]; simp [ZZ.out, H3.out])
     go_wp2_with fail
     go_ret
     exact ⟨by rw [E.out]; rfl, HB.out⟩
    ·have tn : (n == 0) = false := beq_eq_false_iff_ne.mpr hn
     have HN := Aside0.mk hn
     clear hn
     have ZZ : Aside0 (decide (a = 0 ∧ n = 0) = false) := ⟨decide_eq_false (fun q => HN.out q.2)⟩
     have E := Aside0.mk (show Pl.chOk 6 a n i d (l.map toE) = false by rw [Pl.chOk_6]; rw [ZZ.out]; rfl)
     go_wp2_with fail
     go_ret
     exact ⟨by rw [E.out]; rfl, HB.out⟩
   ·have ta : (a == 0) = false := beq_eq_false_iff_ne.mpr ha
    have HA := Aside0.mk ha
    clear ha
    have ZZ : Aside0 (decide (a = 0 ∧ n = 0) = false) := ⟨decide_eq_false (fun q => HA.out q.1)⟩
    have E := Aside0.mk (show Pl.chOk 6 a n i d (l.map toE) = false by rw [Pl.chOk_6]; rw [ZZ.out]; rfl)
    go_wp2_with fail
    go_ret
    exact ⟨by rw [E.out]; rfl, HB.out⟩
set_option maxHeartbeats 4000000 in
set_option maxRecDepth 2000000 in
theorem change_Check.c7 (a n i : Int) (A4 : Option Addr) (c4 : Nat) (d : List Int) (A5 : Option Addr) (c5 : Nat) (l : List S39) (w : World) (hr4 : Kd.C (Kd.int .u8) w A4 d.length d) (hc4 : d.length ≤ c4) (hr5 : Kd.C k39 w A5 l.length l) (hc5 : l.length ≤ c5) (hn0 : -9223372036854775808 ≤ n) (hn1 : n < 9223372036854775808) (hll : l.length < 1073741824) (hdl : d.length < 1073741824) : Calls Try.prog 16 #[.agg #[.int .i64 7, .int .i64 a, .int .i64 n, .int .i64 i, .slice A4 d.length c4, .slice A5 l.length c5]] w fun e w' => e = .returned (.bool (Pl.chOk 7 a n i d (l.map toE))) ∧ Below w.heap.size w w' := by
 have hu26 := Try.underlying26
 have HR4 := Aside0.mk hr4
 have HC4 := Aside0.mk hc4
 have HR5 := Aside0.mk hr5
 have HC5 := Aside0.mk hc5
 have HB := Aside0.mk (Below.refl w.heap.size w)
 clear hr4 hc4 hr5 hc5
 have b1 : change_within.f 7 1 8 = some true := by rfl
 have B1 := Aside0.mk b1
 clear b1
 have hix7 : ∀ w : World, (Instr.index 58 (.agg #[.bool false, .bool false, .bool false, .nilFunc, .bool true, .bool false, .bool false, .func (.func 47) #[] #[], .bool true, .bool false, .bool false, .func (.func 45) #[] #[], .bool true, .bool false, .bool false, .func (.func 45) #[] #[], .bool false, .bool true, .bool false, .func (.func 45) #[] #[], .bool false, .bool true, .bool false, .func (.func 45) #[] #[], .bool false, .bool false, .bool false, .func (.func 46) #[] #[], .bool false, .bool false, .bool false, .func (.func 45) #[] #[], .bool false, .bool true, .bool true, .func (.func 45) #[] #[]]) (.int .i64 7)).run Try.prog w = .ok (.agg #[.bool false, .bool false, .bool false, .func (.func 45) #[] #[]]) w := fun _ => by kernel_rfl
 have N0 := Aside0.mk hn0
 have N1 := Aside0.mk hn1
 have LL := Aside0.mk hll
 have DL := Aside0.mk hdl
 clear hn0 hn1 hll hdl
 go_enter Try.func16, Try.ntmps16
 go_upto_region 4 with (first | ((with_reducible refine gate_dst (N := 1) rfl ?_); refine Cz.bx (N := 1) #[.int .i64 7, .int .i64 a, .int .i64 n, .int .i64 i, .slice A4 d.length c4, .slice A5 l.length c5] 26 ?_; intro gc hg w1 hbox hb; have BKc := Aside0.mk hbox; have GC := Aside0.mk (show w.heap.size ≤ gc by rw [hg]; exact Nat.le_refl _); replace HB := Cz.bs (w := w) hb; clear hb hbox hg; obtain ⟨j0, j1, j2, j3, j4, j5⟩ := Cz.c6 BKc) | (go_at_call 30; refine (change_within.calls _ _ _ true _ B1.out).mono ?_; rintro e w2 ⟨rfl, hd⟩; have hb := hd.below; clear hd; replace BKc := Cz.bk BKc hb; replace HB := Cz.bs (w := w) hb; clear hb; clear j0 j1 j2 j3 j4 j5))
 go_cut [3] (fun v3 wc => ∃ gk : Nat, v3 = .pointer (some ⟨gk, 0, none⟩) ∧ Aside0 (wc.heap[gk]? = some (.cells #[.bool false, .bool false, .bool false, .func (.func 45) #[] #[]] 57 (0, 0))) ∧ Aside0 (gk ≠ gc) ∧ Aside0 (w.heap.size ≤ gk) ∧ Aside0 (wc.heap[gc]? = some (.cells #[.int .i64 7, .int .i64 a, .int .i64 n, .int .i64 i, .slice A4 d.length c4, .slice A5 l.length c5] 26 (0, 0))) ∧ Aside0 (Below w.heap.size w wc))
 case first =>
  replace BKc := Aside0.mk (blk_drew BKc.out)
  replace HB := Aside0.mk (below_drew HB.out)
  refine start_ (n := 6) (S := fun w' => w'.cell? ⟨gc, 0, none⟩ = some (.int .i64 7)) (ds := []) #[false, false, false, false, false, false] (by kernel_rfl) rfl rfl (((blk_cell BKc.out 0).trans rfl)) (fun hHeld => ?_)
  generalize w2.drew = wd at HB BKc hHeld ⊢
  refine Cz.rP 1 11 ?_
  refine take_ (i := 2) (N := some 12) (v := ?_) (a' := ?_) #[false, true, true, false, false, false] rfl rfl (by kernel_rfl) (fun _ _ _ h => h) (Or.inl ⟨by rfl, ?_⟩) hHeld ?_ ?_
  rotate_left
  ·intro w' s0
   go_simp
   with_reducible rfl
  rotate_left
  ·simp only [Act.put, Kx.sb, Kx.sz, Kx.ss, i64_w, i32_w]
   rfl
  refine two_ (i := 0) (j := 4) (Ni := some 10) (Nj := some 3) #[true, true, true, false, false, false] #[false, true, true, false, true, false] rfl rfl rfl rfl (by kernel_rfl) (by decide) (by decide) (fun K hK => ?_) (fun K hK => ?_)
  ·skip
   refine goes_ Try.func31 (by kernel_rfl) rfl #[] (by rfl) rfl rfl (by simp) ?_
   refine (change_kinds.calls _).mono ?_
   rintro e wk0 ⟨rfl, hb⟩
   refine ⟨_, rfl, ?_⟩
   replace BKc := Cz.bk BKc hb
   replace HB := Cz.bs (w := w) hb
   clear hb
   refine hK.out _ _ (((blk_cell BKc.out 0).trans rfl)) (fun hHeld => ?_)
   clear hK K
   refine norm_ (a' := ?_) ?_ ?_
   rotate_left
   ·show Act.put _ (some 10) _ = _
    simp only [Act.put, Kx.sb, Kx.sz, Kx.ss, i64_w, i32_w]
    rfl
   refine take_ (i := 3) (N := some 13) (v := ?_) (a' := ?_) #[true, true, true, true, false, false] rfl rfl (by kernel_rfl) (fun _ _ _ h => h) (Or.inl ⟨by rfl, ?_⟩) hHeld ?_ ?_
   rotate_left
   ·intro w' s0
    go_simp
    with_reducible rfl
   rotate_left
   ·simp only [Act.put, Kx.sb, Kx.sz, Kx.ss, i64_w, i32_w]
    rfl
   refine Cz.rO (N := some 3) 4 (fun K hK => ?_)
   refine value_ (w1 := ?_) (v := ?_) (by rfl) rfl ?_ ?_
   rotate_left 2
   ·go_simp
    constructor
    ·rfl
    ·rfl
   have BKk := Aside0.mk (blk_new wk0 (.cells #[.bool false, .bool false, .bool false, .nilFunc] 57))
   have GK := Aside0.mk (show w.heap.size ≤ wk0.heap.size from below_size HB.out)
   have NE := Aside0.mk (Nat.ne_of_gt (blk_lt BKc.out))
   replace BKc := Aside0.mk (blk_alloc BKc.out (.cells #[.bool false, .bool false, .bool false, .nilFunc] 57))
   replace HB := Aside0.mk (below_alloc HB.out (.cells #[.bool false, .bool false, .bool false, .nilFunc] 57))
   generalize wk0.alloc (.cells #[.bool false, .bool false, .bool false, .nilFunc] 57) = wa1 at BKk HB BKc ⊢
   generalize wk0.heap.size = gk at BKk GK NE ⊢
   refine hK.out _ _ (((blk_cell BKc.out 0).trans rfl)) (fun hHeld => ?_)
   clear hK K
   refine norm_ (a' := ?_) ?_ ?_
   rotate_left
   ·show Act.put _ (some 3) _ = _
    simp only [Act.put, Kx.sb, Kx.sz, Kx.ss, i64_w, i32_w]
    rfl
   refine Cz.rO (N := none) 5 (fun K hK => ?_)
   obtain ⟨zk0, zk1, zk2, zk3, zf0, zf1, zf2, zf3⟩ := Cz.d4 BKk
   refine skip_ (w1 := ?_) (by rfl) rfl ?_ ?_
   rotate_left
   ·go_simp
    rfl
   refine hK.out _ _ (((blk_cell (blk_far (blk_far (blk_far (blk_far BKc.out (p := ⟨gk, 0, none⟩) NE.out.symm _) (p := ⟨gk, 1, none⟩) NE.out.symm _) (p := ⟨gk, 2, none⟩) NE.out.symm _) (p := ⟨gk, 3, none⟩) NE.out.symm _) 0).trans rfl)) (fun hHeld => ?_)
   clear hK K
   have n_BKk : Aside0 (((((wa1.setCell ⟨gk, 0, none⟩ (.bool false)).setCell ⟨gk, 1, none⟩ (.bool false)).setCell ⟨gk, 2, none⟩ (.bool false)).setCell ⟨gk, 3, none⟩ (.func (.func 45) #[] #[])).heap[gk]? = some (.cells #[.bool false, .bool false, .bool false, .func (.func 45) #[] #[]] 57 (0, 0))) := ⟨(blk_put (cs := #[.bool false, .bool false, .bool false, .nilFunc]) (blk_put (cs := #[.bool false, .bool false, .bool false, .nilFunc]) (blk_put (cs := #[.bool false, .bool false, .bool false, .nilFunc]) (blk_put (cs := #[.bool false, .bool false, .bool false, .nilFunc]) BKk.out 0 (.bool false) rfl) 1 (.bool false) rfl) 2 (.bool false) rfl) 3 (.func (.func 45) #[] #[]) rfl)⟩
   have n_BKc := Aside0.mk (show ((((wa1.setCell ⟨gk, 0, none⟩ (.bool false)).setCell ⟨gk, 1, none⟩ (.bool false)).setCell ⟨gk, 2, none⟩ (.bool false)).setCell ⟨gk, 3, none⟩ (.func (.func 45) #[] #[])).heap[gc]? = _ from (blk_far (blk_far (blk_far (blk_far BKc.out (p := ⟨gk, 0, none⟩) NE.out.symm _) (p := ⟨gk, 1, none⟩) NE.out.symm _) (p := ⟨gk, 2, none⟩) NE.out.symm _) (p := ⟨gk, 3, none⟩) NE.out.symm _))
   have n_HB := Aside0.mk (show Below w.heap.size w ((((wa1.setCell ⟨gk, 0, none⟩ (.bool false)).setCell ⟨gk, 1, none⟩ (.bool false)).setCell ⟨gk, 2, none⟩ (.bool false)).setCell ⟨gk, 3, none⟩ (.func (.func 45) #[] #[])) from (below_set (below_set (below_set (below_set HB.out GK.out) GK.out) GK.out) GK.out))
   clear BKk BKc HB zk0 zk1 zk2 zk3 zf0 zf1 zf2 zf3
   have BKk := n_BKk
   have BKc := n_BKc
   have HB := n_HB
   clear n_BKk n_BKc n_HB
   generalize ((((wa1.setCell ⟨gk, 0, none⟩ (.bool false)).setCell ⟨gk, 1, none⟩ (.bool false)).setCell ⟨gk, 2, none⟩ (.bool false)).setCell ⟨gk, 3, none⟩ (.func (.func 45) #[] #[])) = ws2 at BKk BKc HB hHeld ⊢
   refine done_ (by kernel_rfl) ?_
   clear hHeld
   simp only [Exit.then]
   go_step
   go_meet
   case rel => exact ⟨gk, rfl, BKk, NE, GK, BKc, HB⟩
  ·skip
   refine value_ (w1 := ?_) (v := ?_) (by rfl) rfl ?_ ?_
   rotate_left 2
   ·go_simp
    constructor
    ·rfl
    ·rfl
   have BKk := Aside0.mk (blk_new wd (.cells #[.bool false, .bool false, .bool false, .nilFunc] 57))
   have GK := Aside0.mk (show w.heap.size ≤ wd.heap.size from below_size HB.out)
   have NE := Aside0.mk (Nat.ne_of_gt (blk_lt BKc.out))
   replace BKc := Aside0.mk (blk_alloc BKc.out (.cells #[.bool false, .bool false, .bool false, .nilFunc] 57))
   replace HB := Aside0.mk (below_alloc HB.out (.cells #[.bool false, .bool false, .bool false, .nilFunc] 57))
   generalize wd.alloc (.cells #[.bool false, .bool false, .bool false, .nilFunc] 57) = wa0 at BKk HB BKc ⊢
   generalize wd.heap.size = gk at BKk GK NE ⊢
   refine hK.out _ _ (((blk_cell BKc.out 0).trans rfl)) (fun hHeld => ?_)
   clear hK K
   refine norm_ (a' := ?_) ?_ ?_
   rotate_left
   ·show Act.put _ (some 3) _ = _
    simp only [Act.put, Kx.sb, Kx.sz, Kx.ss, i64_w, i32_w]
    rfl
   refine Cz.rO (N := some 10) 0 (fun K hK => ?_)
   refine goes_ Try.func31 (by kernel_rfl) rfl #[] (by rfl) rfl rfl (by simp) ?_
   refine (change_kinds.calls _).mono ?_
   rintro e wk1 ⟨rfl, hb⟩
   refine ⟨_, rfl, ?_⟩
   replace BKc := Cz.bk BKc hb
   replace BKk := Cz.bk BKk hb
   replace HB := Cz.bs (w := w) hb
   clear hb
   refine hK.out _ _ (((blk_cell BKc.out 0).trans rfl)) (fun hHeld => ?_)
   clear hK K
   refine norm_ (a' := ?_) ?_ ?_
   rotate_left
   ·show Act.put _ (some 10) _ = _
    simp only [Act.put, Kx.sb, Kx.sz, Kx.ss, i64_w, i32_w]
    rfl
   refine take_ (i := 3) (N := some 13) (v := ?_) (a' := ?_) #[true, true, true, true, true, false] rfl rfl (by kernel_rfl) (fun _ _ _ h => h) (Or.inl ⟨by rfl, ?_⟩) hHeld ?_ ?_
   rotate_left
   ·intro w' s0
    go_simp
    with_reducible rfl
   rotate_left
   ·simp only [Act.put, Kx.sb, Kx.sz, Kx.ss, i64_w, i32_w]
    rfl
   refine Cz.rO (N := none) 5 (fun K hK => ?_)
   obtain ⟨zk0, zk1, zk2, zk3, zf0, zf1, zf2, zf3⟩ := Cz.d4 BKk
   refine skip_ (w1 := ?_) (by rfl) rfl ?_ ?_
   rotate_left
   ·go_simp
    rfl
   refine hK.out _ _ (((blk_cell (blk_far (blk_far (blk_far (blk_far BKc.out (p := ⟨gk, 0, none⟩) NE.out.symm _) (p := ⟨gk, 1, none⟩) NE.out.symm _) (p := ⟨gk, 2, none⟩) NE.out.symm _) (p := ⟨gk, 3, none⟩) NE.out.symm _) 0).trans rfl)) (fun hHeld => ?_)
   clear hK K
   have n_BKk : Aside0 (((((wk1.setCell ⟨gk, 0, none⟩ (.bool false)).setCell ⟨gk, 1, none⟩ (.bool false)).setCell ⟨gk, 2, none⟩ (.bool false)).setCell ⟨gk, 3, none⟩ (.func (.func 45) #[] #[])).heap[gk]? = some (.cells #[.bool false, .bool false, .bool false, .func (.func 45) #[] #[]] 57 (0, 0))) := ⟨(blk_put (cs := #[.bool false, .bool false, .bool false, .nilFunc]) (blk_put (cs := #[.bool false, .bool false, .bool false, .nilFunc]) (blk_put (cs := #[.bool false, .bool false, .bool false, .nilFunc]) (blk_put (cs := #[.bool false, .bool false, .bool false, .nilFunc]) BKk.out 0 (.bool false) rfl) 1 (.bool false) rfl) 2 (.bool false) rfl) 3 (.func (.func 45) #[] #[]) rfl)⟩
   have n_BKc := Aside0.mk (show ((((wk1.setCell ⟨gk, 0, none⟩ (.bool false)).setCell ⟨gk, 1, none⟩ (.bool false)).setCell ⟨gk, 2, none⟩ (.bool false)).setCell ⟨gk, 3, none⟩ (.func (.func 45) #[] #[])).heap[gc]? = _ from (blk_far (blk_far (blk_far (blk_far BKc.out (p := ⟨gk, 0, none⟩) NE.out.symm _) (p := ⟨gk, 1, none⟩) NE.out.symm _) (p := ⟨gk, 2, none⟩) NE.out.symm _) (p := ⟨gk, 3, none⟩) NE.out.symm _))
   have n_HB := Aside0.mk (show Below w.heap.size w ((((wk1.setCell ⟨gk, 0, none⟩ (.bool false)).setCell ⟨gk, 1, none⟩ (.bool false)).setCell ⟨gk, 2, none⟩ (.bool false)).setCell ⟨gk, 3, none⟩ (.func (.func 45) #[] #[])) from (below_set (below_set (below_set (below_set HB.out GK.out) GK.out) GK.out) GK.out))
   clear BKk BKc HB zk0 zk1 zk2 zk3 zf0 zf1 zf2 zf3
   have BKk := n_BKk
   have BKc := n_BKc
   have HB := n_HB
   clear n_BKk n_BKc n_HB
   generalize ((((wk1.setCell ⟨gk, 0, none⟩ (.bool false)).setCell ⟨gk, 1, none⟩ (.bool false)).setCell ⟨gk, 2, none⟩ (.bool false)).setCell ⟨gk, 3, none⟩ (.func (.func 45) #[] #[])) = ws2 at BKk BKc HB hHeld ⊢
   refine done_ (by kernel_rfl) ?_
   clear hHeld
   simp only [Exit.then]
   go_step
   go_meet
   case rel => exact ⟨gk, rfl, BKk, NE, GK, BKc, HB⟩
 case rest =>
  clear BKc HB
  obtain ⟨gk, rfl, BKk, NE, GK, BKc, HB⟩ := hcut
  obtain ⟨o0, o1, o2, o3, o4, o5⟩ := Cz.c6 BKc
  obtain ⟨m0, m1, m2, m3⟩ := Cz.c4 BKk
  by_cases h3 : i = 0
  ·have ti : (i == 0) = true := beq_iff_eq.mpr h3
   have H3 := Aside0.mk h3
   clear h3
   by_cases ha : a = 0
   ·have ta : (a == 0) = true := beq_iff_eq.mpr ha
    have HA := Aside0.mk ha
    clear ha
    by_cases hn : n = 0
    ·have tn : (n == 0) = true := beq_iff_eq.mpr hn
     have HN := Aside0.mk hn
     clear hn
     have ZZ : Aside0 (decide (a = 0 ∧ n = 0) = true) := ⟨decide_eq_true ⟨HA.out, HN.out⟩⟩
     by_cases h4 : d.length = 0
     ·have HD : Aside0 (change_kinds_1.f 7 a n i d l = some true) := ⟨by unfold change_kinds_1.f; rw [h4]; rfl⟩
      have H4 := Aside0.mk h4
      clear h4
      by_cases h5 : l.length = 0
      ·have t51 : (l.length == 0) = true := by rw [h5]; rfl
       have t52 : ((l.length : Int) == 0) = true := by rw [h5]; rfl
       have H5 := Aside0.mk h5
       clear h5
       have E := Aside0.mk (show Pl.chOk 7 a n i d (l.map toE) = true by rw [Pl.chOk_7]; simp [ZZ.out, H3.out, H4.out, H5.out])
       go_wp2_with (first | (go_at_call 45; refine (change_kinds_1.calls 7 a n i _ _ d _ _ l true _ (Kd.C_below HR4.out HB.out) HC4.out (Kd.C_below HR5.out HB.out) HC5.out HD.out).mono ?_; rintro e wd1 ⟨rfl, hb⟩; clear o0 o1 o2 o3 o4 o5 m0 m1 m2 m3; replace BKc := Cz.bk BKc hb; replace BKk := Cz.bk BKk hb; replace HB := Cz.bs (w := w) hb; clear hb; obtain ⟨o0, o1, o2, o3, o4, o5⟩ := Cz.c6 BKc; obtain ⟨m0, m1, m2, m3⟩ := Cz.c4 BKk))
       go_ret
       exact ⟨by rw [E.out]; rfl, HB.out⟩
      ·have t51 : (l.length == 0) = false := beq_eq_false_iff_ne.mpr h5
       have t52 : ((l.length : Int) == 0) = false := beq_eq_false_iff_ne.mpr (by omega)
       have t53 : (l.length = 0) = False := eq_false h5
       have H5 := Aside0.mk h5
       clear h5
       have HF : Aside0 (change_follows.f l = some (Pl.folS (l.map toE))) := ⟨change_follows.tells LL.out⟩
       have E := Aside0.mk (show Pl.chOk 7 a n i d (l.map toE) = false by rw [Pl.chOk_7]; simp [ZZ.out, H3.out, H4.out, H5.out])
       go_wp2_with (first | (go_at_call 45; refine (change_kinds_1.calls 7 a n i _ _ d _ _ l true _ (Kd.C_below HR4.out HB.out) HC4.out (Kd.C_below HR5.out HB.out) HC5.out HD.out).mono ?_; rintro e wd1 ⟨rfl, hb⟩; clear o0 o1 o2 o3 o4 o5 m0 m1 m2 m3; replace BKc := Cz.bk BKc hb; replace BKk := Cz.bk BKk hb; replace HB := Cz.bs (w := w) hb; clear hb; obtain ⟨o0, o1, o2, o3, o4, o5⟩ := Cz.c6 BKc; obtain ⟨m0, m1, m2, m3⟩ := Cz.c4 BKk))
       go_ret
       exact ⟨by rw [E.out]; rfl, HB.out⟩
     ·have HD : Aside0 (change_kinds_1.f 7 a n i d l = some false) := ⟨by unfold change_kinds_1.f; rw [show ((d.length : Int) == 0) = false from beq_eq_false_iff_ne.mpr (by omega)]⟩
      have H4 := Aside0.mk h4
      clear h4
      have E := Aside0.mk (show Pl.chOk 7 a n i d (l.map toE) = false by rw [Pl.chOk_7]; simp [ZZ.out, H3.out, H4.out])
      go_wp2_with (first | (go_at_call 45; refine (change_kinds_1.calls 7 a n i _ _ d _ _ l false _ (Kd.C_below HR4.out HB.out) HC4.out (Kd.C_below HR5.out HB.out) HC5.out HD.out).mono ?_; rintro e wd1 ⟨rfl, hb⟩; clear o0 o1 o2 o3 o4 o5 m0 m1 m2 m3; replace BKc := Cz.bk BKc hb; replace BKk := Cz.bk BKk hb; replace HB := Cz.bs (w := w) hb; clear hb; obtain ⟨o0, o1, o2, o3, o4, o5⟩ := Cz.c6 BKc; obtain ⟨m0, m1, m2, m3⟩ := Cz.c4 BKk))
      go_ret
      exact ⟨by rw [E.out]; rfl, HB.out⟩
    ·have tn : (n == 0) = false := beq_eq_false_iff_ne.mpr hn
     have HN := Aside0.mk hn
     clear hn
     have ZZ : Aside0 (decide (a = 0 ∧ n = 0) = false) := ⟨decide_eq_false (fun q => HN.out q.2)⟩
     have E := Aside0.mk (show Pl.chOk 7 a n i d (l.map toE) = false by rw [Pl.chOk_7]; rw [ZZ.out]; rfl)
     go_wp2_with fail
     go_ret
     exact ⟨by rw [E.out]; rfl, HB.out⟩
   ·have ta : (a == 0) = false := beq_eq_false_iff_ne.mpr ha
    have HA := Aside0.mk ha
    clear ha
    have ZZ : Aside0 (decide (a = 0 ∧ n = 0) = false) := ⟨decide_eq_false (fun q => HA.out q.1)⟩
    have E := Aside0.mk (show Pl.chOk 7 a n i d (l.map toE) = false by rw [Pl.chOk_7]; rw [ZZ.out]; rfl)
    go_wp2_with fail
    go_ret
    exact ⟨by rw [E.out]; rfl, HB.out⟩
  ·have ti : (i == 0) = false := beq_eq_false_iff_ne.mpr h3
   have H3 := Aside0.mk h3
   clear h3
   by_cases ha : a = 0
   ·have ta : (a == 0) = true := beq_iff_eq.mpr ha
    have HA := Aside0.mk ha
    clear ha
    by_cases hn : n = 0
    ·have tn : (n == 0) = true := beq_iff_eq.mpr hn
     have HN := Aside0.mk hn
     clear hn
     have ZZ : Aside0 (decide (a = 0 ∧ n = 0) = true) := ⟨decide_eq_true ⟨HA.out, HN.out⟩⟩
     have E := Aside0.mk (show Pl.chOk 7 a n i d (l.map toE) = false by rw [Pl.chOk_7]; simp [ZZ.out, H3.out])
     go_wp2_with fail
     go_ret
     exact ⟨by rw [E.out]; rfl, HB.out⟩
    ·have tn : (n == 0) = false := beq_eq_false_iff_ne.mpr hn
     have HN := Aside0.mk hn
     clear hn
     have ZZ : Aside0 (decide (a = 0 ∧ n = 0) = false) := ⟨decide_eq_false (fun q => HN.out q.2)⟩
     have E := Aside0.mk (show Pl.chOk 7 a n i d (l.map toE) = false by rw [Pl.chOk_7]; rw [ZZ.out]; rfl)
     go_wp2_with fail
     go_ret
     exact ⟨by rw [E.out]; rfl, HB.out⟩
   ·have ta : (a == 0) = false := beq_eq_false_iff_ne.mpr ha
    have HA := Aside0.mk ha
    clear ha
    have ZZ : Aside0 (decide (a = 0 ∧ n = 0) = false) := ⟨decide_eq_false (fun q => HA.out q.1)⟩
    have E := Aside0.mk (show Pl.chOk 7 a n i d (l.map toE) = false by rw [Pl.chOk_7]; rw [ZZ.out]; rfl)
    go_wp2_with fail
    go_ret
    exact ⟨by rw [E.out]; rfl, HB.out⟩
set_option maxHeartbeats 4000000 in
set_option maxRecDepth 2000000 in
theorem change_Check.c8 (a n i : Int) (A4 : Option Addr) (c4 : Nat) (d : List Int) (A5 : Option Addr) (c5 : Nat) (l : List S39) (w : World) (hr4 : Kd.C (Kd.int .u8) w A4 d.length d) (hc4 : d.length ≤ c4) (hr5 : Kd.C k39 w A5 l.length l) (hc5 : l.length ≤ c5) (hn0 : -9223372036854775808 ≤ n) (hn1 : n < 9223372036854775808) (hll : l.length < 1073741824) (hdl : d.length < 1073741824) : Calls Try.prog 16 #[.agg #[.int .i64 8, .int .i64 a, .int .i64 n, .int .i64 i, .slice A4 d.length c4, .slice A5 l.length c5]] w fun e w' => e = .returned (.bool (Pl.chOk 8 a n i d (l.map toE))) ∧ Below w.heap.size w w' := by
 have hu26 := Try.underlying26
 have HR4 := Aside0.mk hr4
 have HC4 := Aside0.mk hc4
 have HR5 := Aside0.mk hr5
 have HC5 := Aside0.mk hc5
 have HB := Aside0.mk (Below.refl w.heap.size w)
 clear hr4 hc4 hr5 hc5
 have b1 : change_within.f 8 1 8 = some true := by rfl
 have B1 := Aside0.mk b1
 clear b1
 have hix8 : ∀ w : World, (Instr.index 58 (.agg #[.bool false, .bool false, .bool false, .nilFunc, .bool true, .bool false, .bool false, .func (.func 47) #[] #[], .bool true, .bool false, .bool false, .func (.func 45) #[] #[], .bool true, .bool false, .bool false, .func (.func 45) #[] #[], .bool false, .bool true, .bool false, .func (.func 45) #[] #[], .bool false, .bool true, .bool false, .func (.func 45) #[] #[], .bool false, .bool false, .bool false, .func (.func 46) #[] #[], .bool false, .bool false, .bool false, .func (.func 45) #[] #[], .bool false, .bool true, .bool true, .func (.func 45) #[] #[]]) (.int .i64 8)).run Try.prog w = .ok (.agg #[.bool false, .bool true, .bool true, .func (.func 45) #[] #[]]) w := fun _ => by kernel_rfl
 have N0 := Aside0.mk hn0
 have N1 := Aside0.mk hn1
 have LL := Aside0.mk hll
 have DL := Aside0.mk hdl
 clear hn0 hn1 hll hdl
 go_enter Try.func16, Try.ntmps16
 go_upto_region 4 with (first | ((with_reducible refine gate_dst (N := 1) rfl ?_); refine Cz.bx (N := 1) #[.int .i64 8, .int .i64 a, .int .i64 n, .int .i64 i, .slice A4 d.length c4, .slice A5 l.length c5] 26 ?_; intro gc hg w1 hbox hb; have BKc := Aside0.mk hbox; have GC := Aside0.mk (show w.heap.size ≤ gc by rw [hg]; exact Nat.le_refl _); replace HB := Cz.bs (w := w) hb; clear hb hbox hg; obtain ⟨j0, j1, j2, j3, j4, j5⟩ := Cz.c6 BKc) | (go_at_call 30; refine (change_within.calls _ _ _ true _ B1.out).mono ?_; rintro e w2 ⟨rfl, hd⟩; have hb := hd.below; clear hd; replace BKc := Cz.bk BKc hb; replace HB := Cz.bs (w := w) hb; clear hb; clear j0 j1 j2 j3 j4 j5))
 go_cut [3] (fun v3 wc => ∃ gk : Nat, v3 = .pointer (some ⟨gk, 0, none⟩) ∧ Aside0 (wc.heap[gk]? = some (.cells #[.bool false, .bool true, .bool true, .func (.func 45) #[] #[]] 57 (0, 0))) ∧ Aside0 (gk ≠ gc) ∧ Aside0 (w.heap.size ≤ gk) ∧ Aside0 (wc.heap[gc]? = some (.cells #[.int .i64 8, .int .i64 a, .int .i64 n, .int .i64 i, .slice A4 d.length c4, .slice A5 l.length c5] 26 (0, 0))) ∧ Aside0 (Below w.heap.size w wc))
 case first =>
  replace BKc := Aside0.mk (blk_drew BKc.out)
  replace HB := Aside0.mk (below_drew HB.out)
  refine start_ (n := 6) (S := fun w' => w'.cell? ⟨gc, 0, none⟩ = some (.int .i64 8)) (ds := []) #[false, false, false, false, false, false] (by kernel_rfl) rfl rfl (((blk_cell BKc.out 0).trans rfl)) (fun hHeld => ?_)
  generalize w2.drew = wd at HB BKc hHeld ⊢
  refine Cz.rP 1 11 ?_
  refine take_ (i := 2) (N := some 12) (v := ?_) (a' := ?_) #[false, true, true, false, false, false] rfl rfl (by kernel_rfl) (fun _ _ _ h => h) (Or.inl ⟨by rfl, ?_⟩) hHeld ?_ ?_
  rotate_left
  ·intro w' s0
   go_simp
   with_reducible rfl
  rotate_left
  ·simp only [Act.put, Kx.sb, Kx.sz, Kx.ss, i64_w, i32_w]
   rfl
  refine two_ (i := 0) (j := 4) (Ni := some 10) (Nj := some 3) #[true, true, true, false, false, false] #[false, true, true, false, true, false] rfl rfl rfl rfl (by kernel_rfl) (by decide) (by decide) (fun K hK => ?_) (fun K hK => ?_)
  ·skip
   refine goes_ Try.func31 (by kernel_rfl) rfl #[] (by rfl) rfl rfl (by simp) ?_
   refine (change_kinds.calls _).mono ?_
   rintro e wk0 ⟨rfl, hb⟩
   refine ⟨_, rfl, ?_⟩
   replace BKc := Cz.bk BKc hb
   replace HB := Cz.bs (w := w) hb
   clear hb
   refine hK.out _ _ (((blk_cell BKc.out 0).trans rfl)) (fun hHeld => ?_)
   clear hK K
   refine norm_ (a' := ?_) ?_ ?_
   rotate_left
   ·show Act.put _ (some 10) _ = _
    simp only [Act.put, Kx.sb, Kx.sz, Kx.ss, i64_w, i32_w]
    rfl
   refine take_ (i := 3) (N := some 13) (v := ?_) (a' := ?_) #[true, true, true, true, false, false] rfl rfl (by kernel_rfl) (fun _ _ _ h => h) (Or.inl ⟨by rfl, ?_⟩) hHeld ?_ ?_
   rotate_left
   ·intro w' s0
    go_simp
    with_reducible rfl
   rotate_left
   ·simp only [Act.put, Kx.sb, Kx.sz, Kx.ss, i64_w, i32_w]
    rfl
   refine Cz.rO (N := some 3) 4 (fun K hK => ?_)
   refine value_ (w1 := ?_) (v := ?_) (by rfl) rfl ?_ ?_
   rotate_left 2
   ·go_simp
    constructor
    ·rfl
    ·rfl
   have BKk := Aside0.mk (blk_new wk0 (.cells #[.bool false, .bool false, .bool false, .nilFunc] 57))
   have GK := Aside0.mk (show w.heap.size ≤ wk0.heap.size from below_size HB.out)
   have NE := Aside0.mk (Nat.ne_of_gt (blk_lt BKc.out))
   replace BKc := Aside0.mk (blk_alloc BKc.out (.cells #[.bool false, .bool false, .bool false, .nilFunc] 57))
   replace HB := Aside0.mk (below_alloc HB.out (.cells #[.bool false, .bool false, .bool false, .nilFunc] 57))
   generalize wk0.alloc (.cells #[.bool false, .bool false, .bool false, .nilFunc] 57) = wa1 at BKk HB BKc ⊢
   generalize wk0.heap.size = gk at BKk GK NE ⊢
   refine hK.out _ _ (((blk_cell BKc.out 0).trans rfl)) (fun hHeld => ?_)
   clear hK K
   refine norm_ (a' := ?_) ?_ ?_
   rotate_left
   ·show Act.put _ (some 3) _ = _
    simp only [Act.put, Kx.sb, Kx.sz, Kx.ss, i64_w, i32_w]
    rfl
   refine Cz.rO (N := none) 5 (fun K hK => ?_)
   obtain ⟨zk0, zk1, zk2, zk3, zf0, zf1, zf2, zf3⟩ := Cz.d4 BKk
   refine skip_ (w1 := ?_) (by rfl) rfl ?_ ?_
   rotate_left
   ·go_simp
    rfl
   refine hK.out _ _ (((blk_cell (blk_far (blk_far (blk_far (blk_far BKc.out (p := ⟨gk, 0, none⟩) NE.out.symm _) (p := ⟨gk, 1, none⟩) NE.out.symm _) (p := ⟨gk, 2, none⟩) NE.out.symm _) (p := ⟨gk, 3, none⟩) NE.out.symm _) 0).trans rfl)) (fun hHeld => ?_)
   clear hK K
   have n_BKk : Aside0 (((((wa1.setCell ⟨gk, 0, none⟩ (.bool false)).setCell ⟨gk, 1, none⟩ (.bool true)).setCell ⟨gk, 2, none⟩ (.bool true)).setCell ⟨gk, 3, none⟩ (.func (.func 45) #[] #[])).heap[gk]? = some (.cells #[.bool false, .bool true, .bool true, .func (.func 45) #[] #[]] 57 (0, 0))) := ⟨(blk_put (cs := #[.bool false, .bool true, .bool true, .nilFunc]) (blk_put (cs := #[.bool false, .bool true, .bool false, .nilFunc]) (blk_put (cs := #[.bool false, .bool false, .bool false, .nilFunc]) (blk_put (cs := #[.bool false, .bool false, .bool false, .nilFunc]) BKk.out 0 (.bool false) rfl) 1 (.bool true) rfl) 2 (.bool true) rfl) 3 (.func (.func 45) #[] #[]) rfl)⟩
   have n_BKc := Aside0.mk (show ((((wa1.setCell ⟨gk, 0, none⟩ (.bool false)).setCell ⟨gk, 1, none⟩ (.bool true)).setCell ⟨gk, 2, none⟩ (.bool true)).setCell ⟨gk, 3, none⟩ (.func (.func 45) #[] #[])).heap[gc]? = _ from (blk_far (blk_far (blk_far (blk_far BKc.out (p := ⟨gk, 0, none⟩) NE.out.symm _) (p := ⟨gk, 1, none⟩) NE.out.symm _) (p := ⟨gk, 2, none⟩) NE.out.symm _) (p := ⟨gk, 3, none⟩) NE.out.symm _))
   have n_HB := Aside0.mk (show Below w.heap.size w ((((wa1.setCell ⟨gk, 0, none⟩ (.bool false)).setCell ⟨gk, 1, none⟩ (.bool true)).setCell ⟨gk, 2, none⟩ (.bool true)).setCell ⟨gk, 3, none⟩ (.func (.func 45) #[] #[])) from (below_set (below_set (below_set (below_set HB.out GK.out) GK.out) GK.out) GK.out))
   clear BKk BKc HB zk0 zk1 zk2 zk3 zf0 zf1 zf2 zf3
   have BKk := n_BKk
   have BKc := n_BKc
   have HB := n_HB
   clear n_BKk n_BKc n_HB
   generalize ((((wa1.setCell ⟨gk, 0, none⟩ (.bool false)).setCell ⟨gk, 1, none⟩ (.bool true)).setCell ⟨gk, 2, none⟩ (.bool true)).setCell ⟨gk, 3, none⟩ (.func (.func 45) #[] #[])) = ws2 at BKk BKc HB hHeld ⊢
   refine done_ (by kernel_rfl) ?_
   clear hHeld
   simp only [Exit.then]
   go_step
   go_meet
   case rel => exact ⟨gk, rfl, BKk, NE, GK, BKc, HB⟩
  ·skip
   refine value_ (w1 := ?_) (v := ?_) (by rfl) rfl ?_ ?_
   rotate_left 2
   ·go_simp
    constructor
    ·rfl
    ·rfl
   have BKk := Aside0.mk (blk_new wd (.cells #[.bool false, .bool false, .bool false, .nilFunc] 57))
   have GK := Aside0.mk (show w.heap.size ≤ wd.heap.size from below_size HB.out)
   have NE := Aside0.mk (Nat.ne_of_gt (blk_lt BKc.out))
   replace BKc := Aside0.mk (blk_alloc BKc.out (.cells #[.bool false, .bool false, .bool false, .nilFunc] 57))
   replace HB := Aside0.mk (below_alloc HB.out (.cells #[.bool false, .bool false, .bool false, .nilFunc] 57))
   generalize wd.alloc (.cells #[.bool false, .bool false, .bool false, .nilFunc] 57) = wa0 at BKk HB BKc ⊢
   generalize wd.heap.size = gk at BKk GK NE ⊢
   refine hK.out _ _ (((blk_cell BKc.out 0).trans rfl)) (fun hHeld => ?_)
   clear hK K
   refine norm_ (a' := ?_) ?_ ?_
   rotate_left
   ·show Act.put _ (some 3) _ = _
    simp only [Act.put, Kx.sb, Kx.sz, Kx.ss, i64_w, i32_w]
    rfl
   refine Cz.rO (N := some 10) 0 (fun K hK => ?_)
   refine goes_ Try.func31 (by kernel_rfl) rfl #[] (by rfl) rfl rfl (by simp) ?_
   refine (change_kinds.calls _).mono ?_
   rintro e wk1 ⟨rfl, hb⟩
   refine ⟨_, rfl, ?_⟩
   replace BKc := Cz.bk BKc hb
   replace BKk := Cz.bk BKk hb
   replace HB := Cz.bs (w := w) hb
   clear hb
   refine hK.out _ _ (((blk_cell BKc.out 0).trans rfl)) (fun hHeld => ?_)
   clear hK K
   refine norm_ (a' := ?_) ?_ ?_
   rotate_left
   ·show Act.put _ (some 10) _ = _
    simp only [Act.put, Kx.sb, Kx.sz, Kx.ss, i64_w, i32_w]
    rfl
   refine take_ (i := 3) (N := some 13) (v := ?_) (a' := ?_) #[true, true, true, true, true, false] rfl rfl (by kernel_rfl) (fun _ _ _ h => h) (Or.inl ⟨by rfl, ?_⟩) hHeld ?_ ?_
   rotate_left
   ·intro w' s0
    go_simp
    with_reducible rfl
   rotate_left
   ·simp only [Act.put, Kx.sb, Kx.sz, Kx.ss, i64_w, i32_w]
    rfl
   refine Cz.rO (N := none) 5 (fun K hK => ?_)
   obtain ⟨zk0, zk1, zk2, zk3, zf0, zf1, zf2, zf3⟩ := Cz.d4 BKk
   refine skip_ (w1 := ?_) (by rfl) rfl ?_ ?_
   rotate_left
   ·go_simp
    rfl
   refine hK.out _ _ (((blk_cell (blk_far (blk_far (blk_far (blk_far BKc.out (p := ⟨gk, 0, none⟩) NE.out.symm _) (p := ⟨gk, 1, none⟩) NE.out.symm _) (p := ⟨gk, 2, none⟩) NE.out.symm _) (p := ⟨gk, 3, none⟩) NE.out.symm _) 0).trans rfl)) (fun hHeld => ?_)
   clear hK K
   have n_BKk : Aside0 (((((wk1.setCell ⟨gk, 0, none⟩ (.bool false)).setCell ⟨gk, 1, none⟩ (.bool true)).setCell ⟨gk, 2, none⟩ (.bool true)).setCell ⟨gk, 3, none⟩ (.func (.func 45) #[] #[])).heap[gk]? = some (.cells #[.bool false, .bool true, .bool true, .func (.func 45) #[] #[]] 57 (0, 0))) := ⟨(blk_put (cs := #[.bool false, .bool true, .bool true, .nilFunc]) (blk_put (cs := #[.bool false, .bool true, .bool false, .nilFunc]) (blk_put (cs := #[.bool false, .bool false, .bool false, .nilFunc]) (blk_put (cs := #[.bool false, .bool false, .bool false, .nilFunc]) BKk.out 0 (.bool false) rfl) 1 (.bool true) rfl) 2 (.bool true) rfl) 3 (.func (.func 45) #[] #[]) rfl)⟩
   have n_BKc := Aside0.mk (show ((((wk1.setCell ⟨gk, 0, none⟩ (.bool false)).setCell ⟨gk, 1, none⟩ (.bool true)).setCell ⟨gk, 2, none⟩ (.bool true)).setCell ⟨gk, 3, none⟩ (.func (.func 45) #[] #[])).heap[gc]? = _ from (blk_far (blk_far (blk_far (blk_far BKc.out (p := ⟨gk, 0, none⟩) NE.out.symm _) (p := ⟨gk, 1, none⟩) NE.out.symm _) (p := ⟨gk, 2, none⟩) NE.out.symm _) (p := ⟨gk, 3, none⟩) NE.out.symm _))
   have n_HB := Aside0.mk (show Below w.heap.size w ((((wk1.setCell ⟨gk, 0, none⟩ (.bool false)).setCell ⟨gk, 1, none⟩ (.bool true)).setCell ⟨gk, 2, none⟩ (.bool true)).setCell ⟨gk, 3, none⟩ (.func (.func 45) #[] #[])) from (below_set (below_set (below_set (below_set HB.out GK.out) GK.out) GK.out) GK.out))
   clear BKk BKc HB zk0 zk1 zk2 zk3 zf0 zf1 zf2 zf3
   have BKk := n_BKk
   have BKc := n_BKc
   have HB := n_HB
   clear n_BKk n_BKc n_HB
   generalize ((((wk1.setCell ⟨gk, 0, none⟩ (.bool false)).setCell ⟨gk, 1, none⟩ (.bool true)).setCell ⟨gk, 2, none⟩ (.bool true)).setCell ⟨gk, 3, none⟩ (.func (.func 45) #[] #[])) = ws2 at BKk BKc HB hHeld ⊢
   refine done_ (by kernel_rfl) ?_
   clear hHeld
   simp only [Exit.then]
   go_step
   go_meet
   case rel => exact ⟨gk, rfl, BKk, NE, GK, BKc, HB⟩
 case rest =>
  clear BKc HB
  obtain ⟨gk, rfl, BKk, NE, GK, BKc, HB⟩ := hcut
  obtain ⟨o0, o1, o2, o3, o4, o5⟩ := Cz.c6 BKc
  obtain ⟨m0, m1, m2, m3⟩ := Cz.c4 BKk
  by_cases h3 : 1 ≤ i ∧ i ≤ 2147483647
  ·have F5 : Aside0 (change_within.f i 1 2147483647 = some true) := ⟨by unfold change_within.f; rw [if_pos (by omega), decide_eq_true (by omega)]⟩
   have H3 : Aside0 (Pl.idB i = true) := ⟨by unfold Pl.idB; simp; omega⟩
   have H0 := Aside0.mk h3
   clear h3
   by_cases ha : a = 0
   ·have ta : (a == 0) = true := beq_iff_eq.mpr ha
    have HA := Aside0.mk ha
    clear ha
    by_cases hn : n = 0
    ·have tn : (n == 0) = true := beq_iff_eq.mpr hn
     have HN := Aside0.mk hn
     clear hn
     have ZZ : Aside0 (decide (a = 0 ∧ n = 0) = true) := ⟨decide_eq_true ⟨HA.out, HN.out⟩⟩
     by_cases h4 : d.length = 0
     ·have HD : Aside0 (change_kinds_1.f 8 a n i d l = some true) := ⟨by unfold change_kinds_1.f; rw [h4]; rfl⟩
      have H4 := Aside0.mk h4
      clear h4
      by_cases h5 : l.length = 0
      ·have t51 : (l.length == 0) = true := by rw [h5]; rfl
       have t52 : ((l.length : Int) == 0) = true := by rw [h5]; rfl
       have H5 := Aside0.mk h5
       clear h5
       have E := Aside0.mk (show Pl.chOk 8 a n i d (l.map toE) = true by rw [Pl.chOk_8]; simp [ZZ.out, H3.out, H4.out, H5.out])
       go_wp2_with (first | (go_at_call 30; (with_reducible show Calls _ _ #[.int .i64 i, .int .i64 1, _] _ _); refine (change_within.calls _ _ _ true _ ?hW).mono ?_; (case hW => first | exact F5.out); rintro e wi1 ⟨rfl, hd⟩; have hb := hd.below; clear hd; clear o0 o1 o2 o3 o4 o5 m0 m1 m2 m3; replace BKc := Cz.bk BKc hb; replace BKk := Cz.bk BKk hb; replace HB := Cz.bs (w := w) hb; clear hb; obtain ⟨o0, o1, o2, o3, o4, o5⟩ := Cz.c6 BKc; obtain ⟨m0, m1, m2, m3⟩ := Cz.c4 BKk) | (go_at_call 45; refine (change_kinds_1.calls 8 a n i _ _ d _ _ l true _ (Kd.C_below HR4.out HB.out) HC4.out (Kd.C_below HR5.out HB.out) HC5.out HD.out).mono ?_; rintro e wd1 ⟨rfl, hb⟩; clear o0 o1 o2 o3 o4 o5 m0 m1 m2 m3; replace BKc := Cz.bk BKc hb; replace BKk := Cz.bk BKk hb; replace HB := Cz.bs (w := w) hb; clear hb; obtain ⟨o0, o1, o2, o3, o4, o5⟩ := Cz.c6 BKc; obtain ⟨m0, m1, m2, m3⟩ := Cz.c4 BKk))
       go_ret
       exact ⟨by rw [E.out]; rfl, HB.out⟩
      ·have t51 : (l.length == 0) = false := beq_eq_false_iff_ne.mpr h5
       have t52 : ((l.length : Int) == 0) = false := beq_eq_false_iff_ne.mpr (by omega)
       have t53 : (l.length = 0) = False := eq_false h5
       have H5 := Aside0.mk h5
       clear h5
       have HF : Aside0 (change_follows.f l = some (Pl.folS (l.map toE))) := ⟨change_follows.tells LL.out⟩
       have E := Aside0.mk (show Pl.chOk 8 a n i d (l.map toE) = Pl.folS (l.map toE) by rw [Pl.chOk_8]; simp [ZZ.out, H3.out, H4.out, H5.out])
       go_wp2_with (first | (go_at_call 30; (with_reducible show Calls _ _ #[.int .i64 i, .int .i64 1, _] _ _); refine (change_within.calls _ _ _ true _ ?hW).mono ?_; (case hW => first | exact F5.out); rintro e wi1 ⟨rfl, hd⟩; have hb := hd.below; clear hd; clear o0 o1 o2 o3 o4 o5 m0 m1 m2 m3; replace BKc := Cz.bk BKc hb; replace BKk := Cz.bk BKk hb; replace HB := Cz.bs (w := w) hb; clear hb; obtain ⟨o0, o1, o2, o3, o4, o5⟩ := Cz.c6 BKc; obtain ⟨m0, m1, m2, m3⟩ := Cz.c4 BKk) | (go_at_call 45; refine (change_kinds_1.calls 8 a n i _ _ d _ _ l true _ (Kd.C_below HR4.out HB.out) HC4.out (Kd.C_below HR5.out HB.out) HC5.out HD.out).mono ?_; rintro e wd1 ⟨rfl, hb⟩; clear o0 o1 o2 o3 o4 o5 m0 m1 m2 m3; replace BKc := Cz.bk BKc hb; replace BKk := Cz.bk BKk hb; replace HB := Cz.bs (w := w) hb; clear hb; obtain ⟨o0, o1, o2, o3, o4, o5⟩ := Cz.c6 BKc; obtain ⟨m0, m1, m2, m3⟩ := Cz.c4 BKk) | (go_at_call 32; refine (change_follows.calls _ _ l (Pl.folS (l.map toE)) _ (Kd.C_below HR5.out HB.out) HC5.out HF.out).mono ?_; rintro e wf1 ⟨rfl, hb⟩; clear o0 o1 o2 o3 o4 o5 m0 m1 m2 m3; replace BKc := Cz.bk BKc hb; replace BKk := Cz.bk BKk hb; replace HB := Cz.bs (w := w) hb; clear hb; obtain ⟨o0, o1, o2, o3, o4, o5⟩ := Cz.c6 BKc; obtain ⟨m0, m1, m2, m3⟩ := Cz.c4 BKk))
       go_ret
       exact ⟨by rw [E.out]; rfl, HB.out⟩
     ·have HD : Aside0 (change_kinds_1.f 8 a n i d l = some false) := ⟨by unfold change_kinds_1.f; rw [show ((d.length : Int) == 0) = false from beq_eq_false_iff_ne.mpr (by omega)]⟩
      have H4 := Aside0.mk h4
      clear h4
      have E := Aside0.mk (show Pl.chOk 8 a n i d (l.map toE) = false by rw [Pl.chOk_8]; simp [ZZ.out, H3.out, H4.out])
      go_wp2_with (first | (go_at_call 30; (with_reducible show Calls _ _ #[.int .i64 i, .int .i64 1, _] _ _); refine (change_within.calls _ _ _ true _ ?hW).mono ?_; (case hW => first | exact F5.out); rintro e wi1 ⟨rfl, hd⟩; have hb := hd.below; clear hd; clear o0 o1 o2 o3 o4 o5 m0 m1 m2 m3; replace BKc := Cz.bk BKc hb; replace BKk := Cz.bk BKk hb; replace HB := Cz.bs (w := w) hb; clear hb; obtain ⟨o0, o1, o2, o3, o4, o5⟩ := Cz.c6 BKc; obtain ⟨m0, m1, m2, m3⟩ := Cz.c4 BKk) | (go_at_call 45; refine (change_kinds_1.calls 8 a n i _ _ d _ _ l false _ (Kd.C_below HR4.out HB.out) HC4.out (Kd.C_below HR5.out HB.out) HC5.out HD.out).mono ?_; rintro e wd1 ⟨rfl, hb⟩; clear o0 o1 o2 o3 o4 o5 m0 m1 m2 m3; replace BKc := Cz.bk BKc hb; replace BKk := Cz.bk BKk hb; replace HB := Cz.bs (w := w) hb; clear hb; obtain ⟨o0, o1, o2, o3, o4, o5⟩ := Cz.c6 BKc; obtain ⟨m0, m1, m2, m3⟩ := Cz.c4 BKk))
      go_ret
      exact ⟨by rw [E.out]; rfl, HB.out⟩
    ·have tn : (n == 0) = false := beq_eq_false_iff_ne.mpr hn
     have HN := Aside0.mk hn
     clear hn
     have ZZ : Aside0 (decide (a = 0 ∧ n = 0) = false) := ⟨decide_eq_false (fun q => HN.out q.2)⟩
     have E := Aside0.mk (show Pl.chOk 8 a n i d (l.map toE) = false by rw [Pl.chOk_8]; rw [ZZ.out]; rfl)
     go_wp2_with (first | (go_at_call 30; (with_reducible show Calls _ _ #[.int .i64 i, .int .i64 1, _] _ _); refine (change_within.calls _ _ _ true _ ?hW).mono ?_; (case hW => first | exact F5.out); rintro e wi1 ⟨rfl, hd⟩; have hb := hd.below; clear hd; clear o0 o1 o2 o3 o4 o5 m0 m1 m2 m3; replace BKc := Cz.bk BKc hb; replace BKk := Cz.bk BKk hb; replace HB := Cz.bs (w := w) hb; clear hb; obtain ⟨o0, o1, o2, o3, o4, o5⟩ := Cz.c6 BKc; obtain ⟨m0, m1, m2, m3⟩ := Cz.c4 BKk))
     go_ret
     exact ⟨by rw [E.out]; rfl, HB.out⟩
   ·have ta : (a == 0) = false := beq_eq_false_iff_ne.mpr ha
    have HA := Aside0.mk ha
    clear ha
    have ZZ : Aside0 (decide (a = 0 ∧ n = 0) = false) := ⟨decide_eq_false (fun q => HA.out q.1)⟩
    have E := Aside0.mk (show Pl.chOk 8 a n i d (l.map toE) = false by rw [Pl.chOk_8]; rw [ZZ.out]; rfl)
    go_wp2_with (first | (go_at_call 30; (with_reducible show Calls _ _ #[.int .i64 i, .int .i64 1, _] _ _); refine (change_within.calls _ _ _ true _ ?hW).mono ?_; (case hW => first | exact F5.out); rintro e wi1 ⟨rfl, hd⟩; have hb := hd.below; clear hd; clear o0 o1 o2 o3 o4 o5 m0 m1 m2 m3; replace BKc := Cz.bk BKc hb; replace BKk := Cz.bk BKk hb; replace HB := Cz.bs (w := w) hb; clear hb; obtain ⟨o0, o1, o2, o3, o4, o5⟩ := Cz.c6 BKc; obtain ⟨m0, m1, m2, m3⟩ := Cz.c4 BKk))
    go_ret
    exact ⟨by rw [E.out]; rfl, HB.out⟩
  ·have F5 : Aside0 (change_within.f i 1 2147483647 = some false) := ⟨by unfold change_within.f; by_cases q : i ≥ 1 <;> first | (rw [if_pos q, decide_eq_false (by omega)]; done) | (rw [if_neg q]; done)⟩
   have H3 : Aside0 (Pl.idB i = false) := ⟨by unfold Pl.idB; simp; omega⟩
   have H0 := Aside0.mk h3
   clear h3
   by_cases ha : a = 0
   ·have ta : (a == 0) = true := beq_iff_eq.mpr ha
    have HA := Aside0.mk ha
    clear ha
    by_cases hn : n = 0
    ·have tn : (n == 0) = true := beq_iff_eq.mpr hn
     have HN := Aside0.mk hn
     clear hn
     have ZZ : Aside0 (decide (a = 0 ∧ n = 0) = true) := ⟨decide_eq_true ⟨HA.out, HN.out⟩⟩
     have E := Aside0.mk (show Pl.chOk 8 a n i d (l.map toE) = false by rw [Pl.chOk_8]; simp [ZZ.out, H3.out])
     go_wp2_with (first | (go_at_call 30; (with_reducible show Calls _ _ #[.int .i64 i, .int .i64 1, _] _ _); refine (change_within.calls _ _ _ false _ ?hW).mono ?_; (case hW => first | exact F5.out); rintro e wi1 ⟨rfl, hd⟩; have hb := hd.below; clear hd; clear o0 o1 o2 o3 o4 o5 m0 m1 m2 m3; replace BKc := Cz.bk BKc hb; replace BKk := Cz.bk BKk hb; replace HB := Cz.bs (w := w) hb; clear hb; obtain ⟨o0, o1, o2, o3, o4, o5⟩ := Cz.c6 BKc; obtain ⟨m0, m1, m2, m3⟩ := Cz.c4 BKk))
     go_ret
     exact ⟨by rw [E.out]; rfl, HB.out⟩
    ·have tn : (n == 0) = false := beq_eq_false_iff_ne.mpr hn
     have HN := Aside0.mk hn
     clear hn
     have ZZ : Aside0 (decide (a = 0 ∧ n = 0) = false) := ⟨decide_eq_false (fun q => HN.out q.2)⟩
     have E := Aside0.mk (show Pl.chOk 8 a n i d (l.map toE) = false by rw [Pl.chOk_8]; rw [ZZ.out]; rfl)
     go_wp2_with (first | (go_at_call 30; (with_reducible show Calls _ _ #[.int .i64 i, .int .i64 1, _] _ _); refine (change_within.calls _ _ _ false _ ?hW).mono ?_; (case hW => first | exact F5.out); rintro e wi1 ⟨rfl, hd⟩; have hb := hd.below; clear hd; clear o0 o1 o2 o3 o4 o5 m0 m1 m2 m3; replace BKc := Cz.bk BKc hb; replace BKk := Cz.bk BKk hb; replace HB := Cz.bs (w := w) hb; clear hb; obtain ⟨o0, o1, o2, o3, o4, o5⟩ := Cz.c6 BKc; obtain ⟨m0, m1, m2, m3⟩ := Cz.c4 BKk))
     go_ret
     exact ⟨by rw [E.out]; rfl, HB.out⟩
   ·have ta : (a == 0) = false := beq_eq_false_iff_ne.mpr ha
    have HA := Aside0.mk ha
    clear ha
    have ZZ : Aside0 (decide (a = 0 ∧ n = 0) = false) := ⟨decide_eq_false (fun q => HA.out q.1)⟩
    have E := Aside0.mk (show Pl.chOk 8 a n i d (l.map toE) = false by rw [Pl.chOk_8]; rw [ZZ.out]; rfl)
    go_wp2_with (first | (go_at_call 30; (with_reducible show Calls _ _ #[.int .i64 i, .int .i64 1, _] _ _); refine (change_within.calls _ _ _ false _ ?hW).mono ?_; (case hW => first | exact F5.out); rintro e wi1 ⟨rfl, hd⟩; have hb := hd.below; clear hd; clear o0 o1 o2 o3 o4 o5 m0 m1 m2 m3; replace BKc := Cz.bk BKc hb; replace BKk := Cz.bk BKk hb; replace HB := Cz.bs (w := w) hb; clear hb; obtain ⟨o0, o1, o2, o3, o4, o5⟩ := Cz.c6 BKc; obtain ⟨m0, m1, m2, m3⟩ := Cz.c4 BKk))
    go_ret
    exact ⟨by rw [E.out]; rfl, HB.out⟩
set_option maxHeartbeats 1000000 in
theorem change_Check.neither (k : Int) (hk : ¬ (1 ≤ k ∧ k ≤ 8)) (a n i : Int) (A4 : Option Addr) (c4 : Nat) (d : List Int) (A5 : Option Addr) (c5 : Nat) (l : List S39) (w : World) (hr4 : Kd.C (Kd.int .u8) w A4 d.length d) (hc4 : d.length ≤ c4) (hr5 : Kd.C k39 w A5 l.length l) (hc5 : l.length ≤ c5) : Calls Try.prog 16 #[.agg #[.int .i64 k, .int .i64 a, .int .i64 n, .int .i64 i, .slice A4 d.length c4, .slice A5 l.length c5]] w fun e w' => e = .returned (.bool false) ∧ Below w.heap.size w w' := by
 have hu26 := Try.underlying26
 have HB := Aside0.mk (Below.refl w.heap.size w)
 have B1 : Aside0 (change_within.f k 1 8 = some false) := ⟨by unfold change_within.f; by_cases q : k ≥ 1 <;> first | (rw [if_pos q, decide_eq_false (by omega)]; done) | (rw [if_neg q]; done)⟩
 clear hr4 hc4 hr5 hc5 hk
 go_enter Try.func16, Try.ntmps16
 go_wp2_with (first | ((with_reducible refine gate_dst (N := 1) rfl ?_); refine Cz.bx (N := 1) #[.int .i64 k, .int .i64 a, .int .i64 n, .int .i64 i, .slice A4 d.length c4, .slice A5 l.length c5] 26 ?_; intro gc hg w1 hbox hb; have BKc := Aside0.mk hbox; have GC := Aside0.mk (show w.heap.size ≤ gc by rw [hg]; exact Nat.le_refl _); replace HB := Cz.bs (w := w) hb; clear hb hbox hg; obtain ⟨j0, j1, j2, j3, j4, j5⟩ := Cz.c6 BKc) | (go_at_call 30; refine (change_within.calls _ _ _ false _ B1.out).mono ?_; rintro e w2 ⟨rfl, hd⟩; have hb := hd.below; clear hd; have n_HB := Aside0.mk (below_step HB.out hb); clear HB hb; have HB := n_HB))
 go_ret
 exact ⟨rfl, HB.out⟩
def change_Check.f (a0_0 a0_1 a0_2 a0_3 : Int) (l0_4 : List Int) (l0_5 : List S39) : Option Bool := if l0_5.length < 1073741824 ∧ l0_4.length < 1073741824 ∧ -9223372036854775808 ≤ a0_2 ∧ a0_2 < 9223372036854775808 then some (Pl.chOk a0_0 a0_1 a0_2 a0_3 l0_4 (l0_5.map toE)) else none
theorem change_Check.tells {a0_0 a0_1 a0_2 a0_3 : Int} {l0_4 : List Int} {l0_5 : List S39} (h : l0_5.length < 1073741824) (h4 : l0_4.length < 1073741824) (h0 : -9223372036854775808 ≤ a0_2) (h1 : a0_2 < 9223372036854775808) : change_Check.f a0_0 a0_1 a0_2 a0_3 l0_4 l0_5 = some (Pl.chOk a0_0 a0_1 a0_2 a0_3 l0_4 (l0_5.map toE)) := if_pos ⟨h, h4, h0, h1⟩
theorem change_Check.calls (a0_0 : Int) (a0_1 : Int) (a0_2 : Int) (a0_3 : Int) (A0_4 : Option Addr) (c0_4 : Nat) (l0_4 : List Int) (A0_5 : Option Addr) (c0_5 : Nat) (l0_5 : List S39) (r : Bool) (w : World) (hr0_4 : Kd.C (Kd.int .u8) w A0_4 l0_4.length l0_4) (hc0_4 : l0_4.length ≤ c0_4) (hr0_5 : Kd.C k39 w A0_5 l0_5.length l0_5) (hc0_5 : l0_5.length ≤ c0_5) (h : change_Check.f a0_0 a0_1 a0_2 a0_3 l0_4 l0_5 = some r) :
  Calls Try.prog 16 #[.agg #[.int .i64 a0_0, .int .i64 a0_1, .int .i64 a0_2, .int .i64 a0_3, .slice A0_4 l0_4.length c0_4, .slice A0_5 l0_5.length c0_5]] w fun e w' => e = .returned (.bool r) ∧ Below w.heap.size w w' := by
 unfold change_Check.f at h
 split at h
 case isFalse => cases h
 rename_i hh
 obtain ⟨g1, g2, g3, g4⟩ := hh
 obtain rfl := Option.some.inj h
 clear h
 by_cases hk : 1 ≤ a0_0 ∧ a0_0 ≤ 8
 rotate_left
 ·rw [Pl.chOk_not hk]
  exact change_Check.neither a0_0 hk a0_1 a0_2 a0_3 A0_4 c0_4 l0_4 A0_5 c0_5 l0_5 w hr0_4 hc0_4 hr0_5 hc0_5
 have h8 : a0_0 = 1 ∨ (a0_0 = 2 ∨ a0_0 = 3) ∨ (a0_0 = 4 ∨ a0_0 = 5) ∨ a0_0 = 6 ∨ a0_0 = 7 ∨ a0_0 = 8 := by omega
 rcases h8 with rfl | h | h | rfl | rfl | rfl
 ·exact change_Check.c1 a0_1 a0_2 a0_3 A0_4 c0_4 l0_4 A0_5 c0_5 l0_5 w hr0_4 hc0_4 hr0_5 hc0_5 g3 g4 g1 g2
 ·exact change_Check.c2 a0_0 h a0_1 a0_2 a0_3 A0_4 c0_4 l0_4 A0_5 c0_5 l0_5 w hr0_4 hc0_4 hr0_5 hc0_5 g3 g4 g1 g2
 ·exact change_Check.c4 a0_0 h a0_1 a0_2 a0_3 A0_4 c0_4 l0_4 A0_5 c0_5 l0_5 w hr0_4 hc0_4 hr0_5 hc0_5 g3 g4 g1 g2
 ·exact change_Check.c6 a0_1 a0_2 a0_3 A0_4 c0_4 l0_4 A0_5 c0_5 l0_5 w hr0_4 hc0_4 hr0_5 hc0_5 g3 g4 g1 g2
 ·exact change_Check.c7 a0_1 a0_2 a0_3 A0_4 c0_4 l0_4 A0_5 c0_5 l0_5 w hr0_4 hc0_4 hr0_5 hc0_5 g3 g4 g1 g2
 ·exact change_Check.c8 a0_1 a0_2 a0_3 A0_4 c0_4 l0_4 A0_5 c0_5 l0_5 w hr0_4 hc0_4 hr0_5 hc0_5 g3 g4 g1 g2
end Go.Proofs.Ytmgohkffphogdaa.PU
