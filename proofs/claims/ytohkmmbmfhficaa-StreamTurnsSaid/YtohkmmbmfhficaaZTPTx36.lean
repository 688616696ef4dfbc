/- Words and walks that this claim names, of those that the kit's print and programs of this workplace have printed. -/
import Derived.Test.YtohkmmbmfhficaaZTCz
import Derived.Test.YtohkmmbmfhficaaZTPTx5
import Derived.Test.YtohkmmbmfhficaaZTPTx13
import Derived.Test.YtohkmmbmfhficaaZTPTx38
import Derived.Test.YtohkmmbmfhficaaZTPTx45
namespace Go.Proofs.Ytohkmmbmfhficaa.PT
open Go.Proofs.Ytohkmmbmfhficaa Go.RowKit Go.Proofs.YtohkmmbmfhficaaW.PrintWords Go.Proofs.YtohkmmbmfhficaaW.PrintLast Go.Proofs.YtohkmmbmfhficaaW.PrintMore
attribute [local go_sem] max2_int min2_int max_two min_two max_three min_three max_four min_four
set_option linter.unusedVariables false
set_option linter.unusedSimpArgs false
set_option maxRecDepth 100000 in
set_option maxHeartbeats 2000000 in
theorem frame_Check.head (a n : Int) (A3 : Option Addr) (c3 : Nat) (d : List Int) (A B C : Int) (t1 t2 : Bool) (w : World) (hr : Kd.C (Kd.int .u8) w A3 d.length d) (hc : d.length ≤ c3) (hm : frame_head_may.f A B C = some t1) (hs : t1 = true → frame_same.f 1 0 0 [] A B C 1 a n d A B C = some t2) : Calls Try.prog 24 #[.agg #[.int .i64 1, .int .i64 a, .int .i64 n, .slice A3 d.length c3, .int .i64 A, .int .i64 B, .int .i64 C]] w fun e w' => e = .returned (.bool (t1 && t2)) ∧ Below w.heap.size w w' := by
 have hu0 := Try.underlying38
 have HR3 := Aside0.mk hr
 have HC3 := Aside0.mk hc
 have HB := Aside0.mk (Below.refl w.heap.size w)
 clear hr hc
 have HM := Aside0.mk hm
 have HS := Aside0.mk hs
 clear hm hs
 have hv : ofV 1 a n A3 d.length c3 A B C = .iface 93 (.agg #[.int .i64 A, .int .i64 B, .int .i64 C]) := rfl
 have HV := Aside0.mk hv
 clear hv
 go_enter Try.func24, Try.ntmps24
 go_upto_region 1 with ((with_reducible refine gate_dst (N := 1) rfl ?_); refine Cz.bx (N := 1) #[.int .i64 1, .int .i64 a, .int .i64 n, .slice A3 d.length c3, .int .i64 A, .int .i64 B, .int .i64 C] 38 ?_; intro gc hg w1 hbox hb; have BKc := Aside0.mk hbox; replace HR3 := Aside0.mk (Kd.C_below HR3.out hb); replace HB := Cz.bs (w := w) hb; clear hb hbox hg; obtain ⟨hcz0, hcz1, hcz2, hcz3, hcz4, hcz5, hcz6⟩ := Cz.c7 BKc)
 go_upto_region 2 with (go_at_call 38; refine (frame_of.calls _ _ _ _ _ _ _ _ _ _).mono ?_; rintro e w2 ⟨rfl, hb⟩; rw [HV.out]; replace BKc := Cz.bk BKc hb; replace HR3 := Aside0.mk (Kd.C_below HR3.out hb); replace HB := Cz.bs (w := w) hb; clear hb; clear hcz0 hcz1 hcz2 hcz3 hcz4 hcz5 hcz6)
 cases t1 with
 | false =>
  replace BKc := Aside0.mk (blk_drew BKc.out)
  replace HR3 := Aside0.mk (Kd.C_drew HR3.out)
  replace HB := Aside0.mk (below_drew HB.out)
  refine Cz.s7 (n := 15) (ds := []) BKc (fun hHeld => ?_)
  generalize w2.drew = wd at HB BKc HR3 hHeld ⊢
  refine Cz.rP 0 6 ?_
  refine Cz.rP 1 7 ?_
  refine Cz.rP 2 8 ?_
  refine Cz.rP 3 9 ?_
  refine Cz.rO (N := some 10) 4 (fun K hK => ?_)
  refine call_ 109 #[.agg #[.int .i64 A, .int .i64 B, .int .i64 C]] (by rfl) rfl (by kernel_rfl) ?_
  refine (frame_head_may.calls _ _ _ _ _ HM.out).mono ?_
  rintro e wm ⟨rfl, hb⟩
  refine ⟨_, rfl, ?_⟩
  replace BKc := Cz.bk BKc hb
  replace HR3 := Aside0.mk (Kd.C_below HR3.out hb)
  replace HB := Cz.bs (w := w) hb
  clear hb
  refine hK.out _ _ ⟨((blk_cell BKc.out 0).trans rfl), ((blk_cell BKc.out 1).trans rfl), ((blk_cell BKc.out 2).trans rfl), ((blk_cell BKc.out 3).trans rfl), ((blk_cell BKc.out 4).trans rfl), ((blk_cell BKc.out 5).trans rfl), ((blk_cell BKc.out 6).trans rfl)⟩ (fun hHeld => ?_)
  clear hK K
  refine Cz.nm (some 10) ?_
  refine Cz.rP 5 11 ?_
  refine Cz.rP 6 12 ?_
  refine Cz.rU 7 13 ?_
  refine Cz.rU 8 14 ?_
  refine Cz.rU 9 15 ?_
  refine Cz.rU 10 16 ?_
  refine Cz.rU 11 17 ?_
  refine Cz.rU 12 18 ?_
  refine Cz.rP 13 19 ?_
  refine Cz.rP 14 2 ?_
  refine done_ (by kernel_rfl) ?_
  clear hHeld
  go_wp2_with fail
  go_ret
  exact ⟨rfl, HB.out⟩
 | true =>
  replace BKc := Aside0.mk (blk_drew BKc.out)
  replace HR3 := Aside0.mk (Kd.C_drew HR3.out)
  replace HB := Aside0.mk (below_drew HB.out)
  refine Cz.s7 (n := 15) (ds := []) BKc (fun hHeld => ?_)
  generalize w2.drew = wd at HB BKc HR3 hHeld ⊢
  refine Cz.rP 0 6 ?_
  refine Cz.rP 1 7 ?_
  refine Cz.rP 2 8 ?_
  refine Cz.rP 3 9 ?_
  refine Cz.rO (N := some 10) 4 (fun K hK => ?_)
  refine call_ 109 #[.agg #[.int .i64 A, .int .i64 B, .int .i64 C]] (by rfl) rfl (by kernel_rfl) ?_
  refine (frame_head_may.calls _ _ _ _ _ HM.out).mono ?_
  rintro e wm ⟨rfl, hb⟩
  refine ⟨_, rfl, ?_⟩
  replace BKc := Cz.bk BKc hb
  replace HR3 := Aside0.mk (Kd.C_below HR3.out hb)
  replace HB := Cz.bs (w := w) hb
  clear hb
  refine hK.out _ _ ⟨((blk_cell BKc.out 0).trans rfl), ((blk_cell BKc.out 1).trans rfl), ((blk_cell BKc.out 2).trans rfl), ((blk_cell BKc.out 3).trans rfl), ((blk_cell BKc.out 4).trans rfl), ((blk_cell BKc.out 5).trans rfl), ((blk_cell BKc.out 6).trans rfl)⟩ (fun hHeld => ?_)
  clear hK K
  refine Cz.nm (some 10) ?_
  refine Cz.rP 5 11 ?_
  refine Cz.rP 6 12 ?_
  refine Cz.rP 7 13 ?_
  refine Cz.rP 9 15 ?_
  refine Cz.rT 8 14 hHeld ?_
  refine Cz.rT 11 17 hHeld ?_
  refine Cz.rO (N := some 16) 10 (fun K hK => ?_)
  refine goes_ Try.func47 (by kernel_rfl) rfl #[.int .i64 1, .iface 93 (.agg #[.int .i64 A, .int .i64 B, .int .i64 C])] (by rfl) rfl rfl (by simp only [List.map_toArray, List.map_cons, List.map_nil]; rfl) ?_
  refine (frame_framed.head _ _ _ _ _).mono ?_
  rintro e wf ⟨rfl, hb⟩
  refine ⟨_, rfl, ?_⟩
  replace BKc := Cz.bk BKc hb
  replace HR3 := Aside0.mk (Kd.C_below HR3.out hb)
  replace HB := Cz.bs (w := w) hb
  clear hb
  refine hK.out _ _ ⟨((blk_cell BKc.out 0).trans rfl), ((blk_cell BKc.out 1).trans rfl), ((blk_cell BKc.out 2).trans rfl), ((blk_cell BKc.out 3).trans rfl), ((blk_cell BKc.out 4).trans rfl), ((blk_cell BKc.out 5).trans rfl), ((blk_cell BKc.out 6).trans rfl)⟩ (fun hHeld => ?_)
  clear hK K
  refine Cz.nm (some 16) ?_
  refine Cz.rO (N := some 18) 12 (fun K hK => ?_)
  refine goes_ Try.func49 (by kernel_rfl) rfl #[.agg #[.int .i64 1, .int .i64 0, .int .i64 0, .slice none 0 0, .int .i64 A, .int .i64 B, .int .i64 C], .agg #[.int .i64 1, .int .i64 a, .int .i64 n, .slice A3 d.length c3, .int .i64 A, .int .i64 B, .int .i64 C]] (by rfl) rfl rfl (by simp only [List.map_toArray, List.map_cons, List.map_nil]; rfl) ?_
  refine (frame_same.calls 1 0 0 none 0 [] A B C 1 a n A3 c3 d A B C t2 _ (Kd.C_nil _ _) (Nat.le_refl _) HR3.out HC3.out (HS.out rfl)).mono ?_
  rintro e ws ⟨rfl, hb⟩
  refine ⟨_, rfl, ?_⟩
  replace BKc := Cz.bk BKc hb
  replace HR3 := Aside0.mk (Kd.C_below HR3.out hb)
  replace HB := Cz.bs (w := w) hb
  clear hb
  refine hK.out _ _ ⟨((blk_cell BKc.out 0).trans rfl), ((blk_cell BKc.out 1).trans rfl), ((blk_cell BKc.out 2).trans rfl), ((blk_cell BKc.out 3).trans rfl), ((blk_cell BKc.out 4).trans rfl), ((blk_cell BKc.out 5).trans rfl), ((blk_cell BKc.out 6).trans rfl)⟩ (fun hHeld => ?_)
  clear hK K
  refine Cz.nm (some 18) ?_
  refine Cz.rP 13 19 ?_
  refine Cz.rP 14 2 ?_
  refine done_ (by kernel_rfl) ?_
  clear hHeld
  go_wp2_with fail
  go_ret
  exact ⟨rfl, HB.out⟩
set_option maxRecDepth 100000 in
set_option maxHeartbeats 2000000 in
theorem frame_Check.blocks (kk_ : Nat) (k : Int) (a n : Int) (A3 : Option Addr) (c3 : Nat) (d : List Int) (A B C : Int) (t1 t2 : Bool) (w : World) (hr : Kd.C (Kd.int .u8) w A3 d.length d) (hc : d.length ≤ c3) (hk : k = 2 ∨ k = 3 ∨ k = 4) (hm : frame_blocks_may.f kk_ k a n d = some t1) (hs : t1 = true → frame_same.f k a n d 0 0 0 k a n d A B C = some t2) : Calls Try.prog 24 #[.agg #[.int .i64 k, .int .i64 a, .int .i64 n, .slice A3 d.length c3, .int .i64 A, .int .i64 B, .int .i64 C]] w fun e w' => e = .returned (.bool (t1 && t2)) ∧ Below w.heap.size w w' := by
 have hu0 := Try.underlying38
 have HR3 := Aside0.mk hr
 have HC3 := Aside0.mk hc
 have HB := Aside0.mk (Below.refl w.heap.size w)
 clear hr hc
 have HM := Aside0.mk hm
 have HS := Aside0.mk hs
 clear hm hs
 have hv : ofV k a n A3 d.length c3 A B C = .iface 95 (.agg #[.int .i64 k, .int .i64 a, .int .i64 n, .slice A3 d.length c3]) := by unfold ofV; rw [if_neg (by omega), if_pos hk]
 have HV := Aside0.mk hv
 clear hv hk
 go_enter Try.func24, Try.ntmps24
 go_upto_region 1 with ((with_reducible refine gate_dst (N := 1) rfl ?_); refine Cz.bx (N := 1) #[.int .i64 k, .int .i64 a, .int .i64 n, .slice A3 d.length c3, .int .i64 A, .int .i64 B, .int .i64 C] 38 ?_; intro gc hg w1 hbox hb; have BKc := Aside0.mk hbox; replace HR3 := Aside0.mk (Kd.C_below HR3.out hb); replace HB := Cz.bs (w := w) hb; clear hb hbox hg; obtain ⟨hcz0, hcz1, hcz2, hcz3, hcz4, hcz5, hcz6⟩ := Cz.c7 BKc)
 go_upto_region 2 with (go_at_call 38; refine (frame_of.calls _ _ _ _ _ _ _ _ _ _).mono ?_; rintro e w2 ⟨rfl, hb⟩; rw [HV.out]; replace BKc := Cz.bk BKc hb; replace HR3 := Aside0.mk (Kd.C_below HR3.out hb); replace HB := Cz.bs (w := w) hb; clear hb; clear hcz0 hcz1 hcz2 hcz3 hcz4 hcz5 hcz6)
 cases t1 with
 | false =>
  replace BKc := Aside0.mk (blk_drew BKc.out)
  replace HR3 := Aside0.mk (Kd.C_drew HR3.out)
  replace HB := Aside0.mk (below_drew HB.out)
  refine Cz.s7 (n := 15) (ds := []) BKc (fun hHeld => ?_)
  generalize w2.drew = wd at HB BKc HR3 hHeld ⊢
  refine Cz.rP 0 6 ?_
  refine Cz.rP 1 7 ?_
  refine Cz.rP 2 8 ?_
  refine Cz.rP 3 9 ?_
  refine Cz.rO (N := some 10) 4 (fun K hK => ?_)
  refine call_ 112 #[.agg #[.int .i64 k, .int .i64 a, .int .i64 n, .slice A3 d.length c3]] (by rfl) rfl (by kernel_rfl) ?_
  refine (frame_blocks_may.calls kk_ _ _ _ (fun k_ => k_ < _) _ _ d _ _ (Kx.V_of_C _ _ HC3.out HR3.out) HM.out).mono ?_
  rintro e wm ⟨rfl, hb⟩
  refine ⟨_, rfl, ?_⟩
  replace BKc := Cz.bk BKc hb
  replace HR3 := Aside0.mk (Kd.C_below HR3.out hb)
  replace HB := Cz.bs (w := w) hb
  clear hb
  refine hK.out _ _ ⟨((blk_cell BKc.out 0).trans rfl), ((blk_cell BKc.out 1).trans rfl), ((blk_cell BKc.out 2).trans rfl), ((blk_cell BKc.out 3).trans rfl), ((blk_cell BKc.out 4).trans rfl), ((blk_cell BKc.out 5).trans rfl), ((blk_cell BKc.out 6).trans rfl)⟩ (fun hHeld => ?_)
  clear hK K
  refine Cz.nm (some 10) ?_
  refine Cz.rP 5 11 ?_
  refine Cz.rP 6 12 ?_
  refine Cz.rU 7 13 ?_
  refine Cz.rU 8 14 ?_
  refine Cz.rU 9 15 ?_
  refine Cz.rU 10 16 ?_
  refine Cz.rU 11 17 ?_
  refine Cz.rU 12 18 ?_
  refine Cz.rP 13 19 ?_
  refine Cz.rP 14 2 ?_
  refine done_ (by kernel_rfl) ?_
  clear hHeld
  go_wp2_with fail
  go_ret
  exact ⟨rfl, HB.out⟩
 | true =>
  replace BKc := Aside0.mk (blk_drew BKc.out)
  replace HR3 := Aside0.mk (Kd.C_drew HR3.out)
  replace HB := Aside0.mk (below_drew HB.out)
  refine Cz.s7 (n := 15) (ds := []) BKc (fun hHeld => ?_)
  generalize w2.drew = wd at HB BKc HR3 hHeld ⊢
  refine Cz.rP 0 6 ?_
  refine Cz.rP 1 7 ?_
  refine Cz.rP 2 8 ?_
  refine Cz.rP 3 9 ?_
  refine Cz.rO (N := some 10) 4 (fun K hK => ?_)
  refine call_ 112 #[.agg #[.int .i64 k, .int .i64 a, .int .i64 n, .slice A3 d.length c3]] (by rfl) rfl (by kernel_rfl) ?_
  refine (frame_blocks_may.calls kk_ _ _ _ (fun k_ => k_ < _) _ _ d _ _ (Kx.V_of_C _ _ HC3.out HR3.out) HM.out).mono ?_
  rintro e wm ⟨rfl, hb⟩
  refine ⟨_, rfl, ?_⟩
  replace BKc := Cz.bk BKc hb
  replace HR3 := Aside0.mk (Kd.C_below HR3.out hb)
  replace HB := Cz.bs (w := w) hb
  clear hb
  refine hK.out _ _ ⟨((blk_cell BKc.out 0).trans rfl), ((blk_cell BKc.out 1).trans rfl), ((blk_cell BKc.out 2).trans rfl), ((blk_cell BKc.out 3).trans rfl), ((blk_cell BKc.out 4).trans rfl), ((blk_cell BKc.out 5).trans rfl), ((blk_cell BKc.out 6).trans rfl)⟩ (fun hHeld => ?_)
  clear hK K
  refine Cz.nm (some 10) ?_
  refine Cz.rP 5 11 ?_
  refine Cz.rP 6 12 ?_
  refine Cz.rP 7 13 ?_
  refine Cz.rP 9 15 ?_
  refine Cz.rT 8 14 hHeld ?_
  refine Cz.rT 11 17 hHeld ?_
  refine Cz.rO (N := some 16) 10 (fun K hK => ?_)
  refine goes_ Try.func47 (by kernel_rfl) rfl #[.int .i64 k, .iface 95 (.agg #[.int .i64 k, .int .i64 a, .int .i64 n, .slice A3 d.length c3])] (by rfl) rfl rfl (by simp only [List.map_toArray, List.map_cons, List.map_nil]; rfl) ?_
  refine (frame_framed.blocks _ _ _ _ _ _ _ _).mono ?_
  rintro e wf ⟨rfl, hb⟩
  refine ⟨_, rfl, ?_⟩
  replace BKc := Cz.bk BKc hb
  replace HR3 := Aside0.mk (Kd.C_below HR3.out hb)
  replace HB := Cz.bs (w := w) hb
  clear hb
  refine hK.out _ _ ⟨((blk_cell BKc.out 0).trans rfl), ((blk_cell BKc.out 1).trans rfl), ((blk_cell BKc.out 2).trans rfl), ((blk_cell BKc.out 3).trans rfl), ((blk_cell BKc.out 4).trans rfl), ((blk_cell BKc.out 5).trans rfl), ((blk_cell BKc.out 6).trans rfl)⟩ (fun hHeld => ?_)
  clear hK K
  refine Cz.nm (some 16) ?_
  refine Cz.rO (N := some 18) 12 (fun K hK => ?_)
  refine goes_ Try.func49 (by kernel_rfl) rfl #[.agg #[.int .i64 k, .int .i64 a, .int .i64 n, .slice A3 d.length c3, .int .i64 0, .int .i64 0, .int .i64 0], .agg #[.int .i64 k, .int .i64 a, .int .i64 n, .slice A3 d.length c3, .int .i64 A, .int .i64 B, .int .i64 C]] (by rfl) rfl rfl (by simp only [List.map_toArray, List.map_cons, List.map_nil]; rfl) ?_
  refine (frame_same.calls k a n A3 c3 d 0 0 0 k a n A3 c3 d A B C t2 _ HR3.out HC3.out HR3.out HC3.out (HS.out rfl)).mono ?_
  rintro e ws ⟨rfl, hb⟩
  refine ⟨_, rfl, ?_⟩
  replace BKc := Cz.bk BKc hb
  replace HR3 := Aside0.mk (Kd.C_below HR3.out hb)
  replace HB := Cz.bs (w := w) hb
  clear hb
  refine hK.out _ _ ⟨((blk_cell BKc.out 0).trans rfl), ((blk_cell BKc.out 1).trans rfl), ((blk_cell BKc.out 2).trans rfl), ((blk_cell BKc.out 3).trans rfl), ((blk_cell BKc.out 4).trans rfl), ((blk_cell BKc.out 5).trans rfl), ((blk_cell BKc.out 6).trans rfl)⟩ (fun hHeld => ?_)
  clear hK K
  refine Cz.nm (some 18) ?_
  refine Cz.rP 13 19 ?_
  refine Cz.rP 14 2 ?_
  refine done_ (by kernel_rfl) ?_
  clear hHeld
  go_wp2_with fail
  go_ret
  exact ⟨rfl, HB.out⟩
set_option maxRecDepth 100000 in
set_option maxHeartbeats 2000000 in
theorem frame_Check.endB (a n : Int) (A3 : Option Addr) (c3 : Nat) (d : List Int) (A B C : Int) (t1 t2 : Bool) (w : World) (hr : Kd.C (Kd.int .u8) w A3 d.length d) (hc : d.length ≤ c3) (hm : frame_end_may.f A B = some t1) (hs : t1 = true → frame_same.f 5 0 0 [] A B 0 5 a n d A B C = some t2) : Calls Try.prog 24 #[.agg #[.int .i64 5, .int .i64 a, .int .i64 n, .slice A3 d.length c3, .int .i64 A, .int .i64 B, .int .i64 C]] w fun e w' => e = .returned (.bool (t1 && t2)) ∧ Below w.heap.size w w' := by
 have hu0 := Try.underlying38
 have HR3 := Aside0.mk hr
 have HC3 := Aside0.mk hc
 have HB := Aside0.mk (Below.refl w.heap.size w)
 clear hr hc
 have HM := Aside0.mk hm
 have HS := Aside0.mk hs
 clear hm hs
 have hv : ofV 5 a n A3 d.length c3 A B C = .iface 97 (.agg #[.int .i64 A, .int .i64 B]) := rfl
 have HV := Aside0.mk hv
 clear hv
 go_enter Try.func24, Try.ntmps24
 go_upto_region 1 with ((with_reducible refine gate_dst (N := 1) rfl ?_); refine Cz.bx (N := 1) #[.int .i64 5, .int .i64 a, .int .i64 n, .slice A3 d.length c3, .int .i64 A, .int .i64 B, .int .i64 C] 38 ?_; intro gc hg w1 hbox hb; have BKc := Aside0.mk hbox; replace HR3 := Aside0.mk (Kd.C_below HR3.out hb); replace HB := Cz.bs (w := w) hb; clear hb hbox hg; obtain ⟨hcz0, hcz1, hcz2, hcz3, hcz4, hcz5, hcz6⟩ := Cz.c7 BKc)
 go_upto_region 2 with (go_at_call 38; refine (frame_of.calls _ _ _ _ _ _ _ _ _ _).mono ?_; rintro e w2 ⟨rfl, hb⟩; rw [HV.out]; replace BKc := Cz.bk BKc hb; replace HR3 := Aside0.mk (Kd.C_below HR3.out hb); replace HB := Cz.bs (w := w) hb; clear hb; clear hcz0 hcz1 hcz2 hcz3 hcz4 hcz5 hcz6)
 cases t1 with
 | false =>
  replace BKc := Aside0.mk (blk_drew BKc.out)
  replace HR3 := Aside0.mk (Kd.C_drew HR3.out)
  replace HB := Aside0.mk (below_drew HB.out)
  refine Cz.s7 (n := 15) (ds := []) BKc (fun hHeld => ?_)
  generalize w2.drew = wd at HB BKc HR3 hHeld ⊢
  refine Cz.rP 0 6 ?_
  refine Cz.rP 1 7 ?_
  refine Cz.rP 2 8 ?_
  refine Cz.rP 3 9 ?_
  refine Cz.rO (N := some 10) 4 (fun K hK => ?_)
  refine call_ 114 #[.agg #[.int .i64 A, .int .i64 B]] (by rfl) rfl (by kernel_rfl) ?_
  refine (frame_end_may.calls _ _ _ _ HM.out).mono ?_
  rintro e wm ⟨rfl, hb⟩
  refine ⟨_, rfl, ?_⟩
  replace BKc := Cz.bk BKc hb
  replace HR3 := Aside0.mk (Kd.C_below HR3.out hb)
  replace HB := Cz.bs (w := w) hb
  clear hb
  refine hK.out _ _ ⟨((blk_cell BKc.out 0).trans rfl), ((blk_cell BKc.out 1).trans rfl), ((blk_cell BKc.out 2).trans rfl), ((blk_cell BKc.out 3).trans rfl), ((blk_cell BKc.out 4).trans rfl), ((blk_cell BKc.out 5).trans rfl), ((blk_cell BKc.out 6).trans rfl)⟩ (fun hHeld => ?_)
  clear hK K
  refine Cz.nm (some 10) ?_
  refine Cz.rP 5 11 ?_
  refine Cz.rP 6 12 ?_
  refine Cz.rU 7 13 ?_
  refine Cz.rU 8 14 ?_
  refine Cz.rU 9 15 ?_
  refine Cz.rU 10 16 ?_
  refine Cz.rU 11 17 ?_
  refine Cz.rU 12 18 ?_
  refine Cz.rP 13 19 ?_
  refine Cz.rP 14 2 ?_
  refine done_ (by kernel_rfl) ?_
  clear hHeld
  go_wp2_with fail
  go_ret
  exact ⟨rfl, HB.out⟩
 | true =>
  replace BKc := Aside0.mk (blk_drew BKc.out)
  replace HR3 := Aside0.mk (Kd.C_drew HR3.out)
  replace HB := Aside0.mk (below_drew HB.out)
  refine Cz.s7 (n := 15) (ds := []) BKc (fun hHeld => ?_)
  generalize w2.drew = wd at HB BKc HR3 hHeld ⊢
  refine Cz.rP 0 6 ?_
  refine Cz.rP 1 7 ?_
  refine Cz.rP 2 8 ?_
  refine Cz.rP 3 9 ?_
  refine Cz.rO (N := some 10) 4 (fun K hK => ?_)
  refine call_ 114 #[.agg #[.int .i64 A, .int .i64 B]] (by rfl) rfl (by kernel_rfl) ?_
  refine (frame_end_may.calls _ _ _ _ HM.out).mono ?_
  rintro e wm ⟨rfl, hb⟩
  refine ⟨_, rfl, ?_⟩
  replace BKc := Cz.bk BKc hb
  replace HR3 := Aside0.mk (Kd.C_below HR3.out hb)
  replace HB := Cz.bs (w := w) hb
  clear hb
  refine hK.out _ _ ⟨((blk_cell BKc.out 0).trans rfl), ((blk_cell BKc.out 1).trans rfl), ((blk_cell BKc.out 2).trans rfl), ((blk_cell BKc.out 3).trans rfl), ((blk_cell BKc.out 4).trans rfl), ((blk_cell BKc.out 5).trans rfl), ((blk_cell BKc.out 6).trans rfl)⟩ (fun hHeld => ?_)
  clear hK K
  refine Cz.nm (some 10) ?_
  refine Cz.rP 5 11 ?_
  refine Cz.rP 6 12 ?_
  refine Cz.rP 7 13 ?_
  refine Cz.rP 9 15 ?_
  refine Cz.rT 8 14 hHeld ?_
  refine Cz.rT 11 17 hHeld ?_
  refine Cz.rO (N := some 16) 10 (fun K hK => ?_)
  refine goes_ Try.func47 (by kernel_rfl) rfl #[.int .i64 5, .iface 97 (.agg #[.int .i64 A, .int .i64 B])] (by rfl) rfl rfl (by simp only [List.map_toArray, List.map_cons, List.map_nil]; rfl) ?_
  refine (frame_framed.end _ _ _ _).mono ?_
  rintro e wf ⟨rfl, hb⟩
  refine ⟨_, rfl, ?_⟩
  replace BKc := Cz.bk BKc hb
  replace HR3 := Aside0.mk (Kd.C_below HR3.out hb)
  replace HB := Cz.bs (w := w) hb
  clear hb
  refine hK.out _ _ ⟨((blk_cell BKc.out 0).trans rfl), ((blk_cell BKc.out 1).trans rfl), ((blk_cell BKc.out 2).trans rfl), ((blk_cell BKc.out 3).trans rfl), ((blk_cell BKc.out 4).trans rfl), ((blk_cell BKc.out 5).trans rfl), ((blk_cell BKc.out 6).trans rfl)⟩ (fun hHeld => ?_)
  clear hK K
  refine Cz.nm (some 16) ?_
  refine Cz.rO (N := some 18) 12 (fun K hK => ?_)
  refine goes_ Try.func49 (by kernel_rfl) rfl #[.agg #[.int .i64 5, .int .i64 0, .int .i64 0, .slice none 0 0, .int .i64 A, .int .i64 B, .int .i64 0], .agg #[.int .i64 5, .int .i64 a, .int .i64 n, .slice A3 d.length c3, .int .i64 A, .int .i64 B, .int .i64 C]] (by rfl) rfl rfl (by simp only [List.map_toArray, List.map_cons, List.map_nil]; rfl) ?_
  refine (frame_same.calls 5 0 0 none 0 [] A B 0 5 a n A3 c3 d A B C t2 _ (Kd.C_nil _ _) (Nat.le_refl _) HR3.out HC3.out (HS.out rfl)).mono ?_
  rintro e ws ⟨rfl, hb⟩
  refine ⟨_, rfl, ?_⟩
  replace BKc := Cz.bk BKc hb
  replace HR3 := Aside0.mk (Kd.C_below HR3.out hb)
  replace HB := Cz.bs (w := w) hb
  clear hb
  refine hK.out _ _ ⟨((blk_cell BKc.out 0).trans rfl), ((blk_cell BKc.out 1).trans rfl), ((blk_cell BKc.out 2).trans rfl), ((blk_cell BKc.out 3).trans rfl), ((blk_cell BKc.out 4).trans rfl), ((blk_cell BKc.out 5).trans rfl), ((blk_cell BKc.out 6).trans rfl)⟩ (fun hHeld => ?_)
  clear hK K
  refine Cz.nm (some 18) ?_
  refine Cz.rP 13 19 ?_
  refine Cz.rP 14 2 ?_
  refine done_ (by kernel_rfl) ?_
  clear hHeld
  go_wp2_with fail
  go_ret
  exact ⟨rfl, HB.out⟩
set_option maxRecDepth 100000 in
set_option maxHeartbeats 2000000 in
theorem frame_Check.noneB (k : Int) (a n : Int) (A3 : Option Addr) (c3 : Nat) (d : List Int) (A B C : Int) (w : World) (hr : Kd.C (Kd.int .u8) w A3 d.length d) (hc : d.length ≤ c3) (hk : ¬ (1 ≤ k ∧ k ≤ 5)) : Calls Try.prog 24 #[.agg #[.int .i64 k, .int .i64 a, .int .i64 n, .slice A3 d.length c3, .int .i64 A, .int .i64 B, .int .i64 C]] w fun e w' => e = .returned (.bool false) ∧ Below w.heap.size w w' := by
 have hu0 := Try.underlying38
 have HR3 := Aside0.mk hr
 have HC3 := Aside0.mk hc
 have HB := Aside0.mk (Below.refl w.heap.size w)
 clear hr hc
 have hv : ofV k a n A3 d.length c3 A B C = .nilIface := by unfold ofV; rw [if_neg (by omega), if_neg (by omega), if_neg (by omega)]
 have HV := Aside0.mk hv
 clear hv hk
 go_enter Try.func24, Try.ntmps24
 go_upto_region 2 with (go_at_call 38; refine (frame_of.calls _ _ _ _ _ _ _ _ _ _).mono ?_; rintro e w2 ⟨rfl, hb⟩; rw [HV.out]; replace HB := Aside0.mk (below_step (below_alloc HB.out _) hb); clear hb)
 replace HB := Aside0.mk (below_drew HB.out)
 refine start_ (n := 15) (S := fun w' => True) (ds := []) #[false, false, false, false, false, false, false, false, false, false, false, false, false, false, false] (by kernel_rfl) rfl rfl trivial (fun hHeld => ?_)
 generalize w2.drew = wd at HB hHeld ⊢
 refine Cz.rP 0 6 ?_
 refine Cz.rP 1 7 ?_
 refine Cz.rP 2 8 ?_
 refine Cz.rU 3 9 ?_
 refine Cz.rU 4 10 ?_
 refine Cz.rP 5 11 ?_
 refine Cz.rP 6 12 ?_
 refine Cz.rU 7 13 ?_
 refine Cz.rU 8 14 ?_
 refine Cz.rU 9 15 ?_
 refine Cz.rU 10 16 ?_
 refine Cz.rU 11 17 ?_
 refine Cz.rU 12 18 ?_
 refine Cz.rP 13 19 ?_
 refine Cz.rP 14 2 ?_
 refine done_ (by kernel_rfl) ?_
 clear hHeld
 go_wp2_with fail
 go_ret
 exact ⟨rfl, HB.out⟩
theorem frame_within.tells (x a b : Int) : frame_within.f x a b = some (decide (a ≤ x ∧ x ≤ b)) := by
 unfold frame_within.f
 by_cases h : x ≥ a
 ·rw [if_pos h, Option.some.injEq, decide_eq_decide]; omega
 rw [if_neg h, decide_eq_false (by omega)]
theorem frame_head_may.tells (A B C : Int) : frame_head_may.f A B C = some (decide (1 ≤ A ∧ A ≤ 64 ∧ 0 ≤ B ∧ B < C ∧ C ≤ 2147483647)) := by
 unfold frame_head_may.f
 rw [frame_within.tells, frame_within.tells, frame_within.tells, Option.bind_some]
 by_cases h : 1 ≤ A ∧ A ≤ 64
 ·rw [decide_eq_true h, if_pos rfl, Option.bind_some]
  by_cases h2 : 0 ≤ B ∧ B ≤ 2147483647
  ·rw [decide_eq_true h2, if_pos rfl, Option.bind_some, show wrap64 (B + 1) = B + 1 by unfold wrap64; omega, Option.some.injEq, decide_eq_decide]
   omega
  rw [decide_eq_false h2, if_neg (by decide), decide_eq_false (by omega)]
 rw [decide_eq_false h, if_neg (by decide), decide_eq_false (by omega)]
theorem frame_end_may.tells (A B : Int) : frame_end_may.f A B = some (decide (1 ≤ A ∧ A ≤ 65535 ∧ 0 ≤ B ∧ B ≤ 4294967295)) := by
 unfold frame_end_may.f
 rw [frame_within.tells, frame_within.tells, Option.bind_some]
 by_cases h : 1 ≤ A ∧ A ≤ 65535
 ·rw [decide_eq_true h, if_pos rfl, Option.bind_some, Option.some.injEq, decide_eq_decide]; omega
 rw [decide_eq_false h, if_neg (by decide), decide_eq_false (by omega)]
theorem frame_blocks_may.loop {k a n : Int} {l : List Int} : ∀ (m q : Nat) (x : List Int), x.length ≤ m → m < q → frame_blocks_may.l0 q x k a n l = some (!Pl.zerS x && decide (n ≤ 16 ∧ (l.length : Int) = wrap64 (n * 32)))
 | m, q, x, hx, hq => by
  obtain ⟨q, rfl⟩ : ∃ z, q = z + 1 := ⟨q - 1, by omega⟩
  rw [frame_blocks_may.l0]
  by_cases h : (x.length : Int) ≥ 32
  ·obtain ⟨m', rfl⟩ : ∃ z, m = z + 32 := ⟨m - 32, by omega⟩
   rw [if_pos h, if_pos (by omega), zeros_Is.tells (by rw [List.length_take]; omega), Option.bind_some, Pl.zerS_long (by omega)]
   by_cases hz : Pl.zeroB (x.take 32) = true
   ·rw [if_pos hz, hz]; rfl
   rw [if_neg hz, Bool.eq_false_iff.2 hz, Bool.false_or, frame_blocks_may.loop m' q (x.drop 32) (by rw [List.length_drop]; omega) (by omega)]
  rw [if_neg h, Pl.zerS_short (by omega), Bool.not_false, Bool.true_and]
  by_cases hn : n ≤ 16
  ·rw [if_pos hn]
   by_cases he : (l.length : Int) = wrap64 (n * 32) <;> simp [hn, he]
  rw [if_neg hn, decide_eq_false (fun e => hn e.1)]
 termination_by m => m
def frame_blocks_may.S (k a n : Int) (l : List Int) : Bool := decide (0 ≤ a ∧ a ≤ 64 ∧ 1 ≤ n ∧ n ≤ 64 - a) && (if k = 2 then !Pl.zerS l && decide (n ≤ 16 ∧ (l.length : Int) = n * 32) else decide (l.length = 0))
theorem frame_blocks_may.tells (k a n : Int) (l : List Int) : frame_blocks_may.f (l.length + 2) k a n l = some (frame_blocks_may.S k a n l) := by
 unfold frame_blocks_may.f frame_blocks_may.S
 rw [frame_within.tells, frame_within.tells, Option.bind_some]
 by_cases h : 0 ≤ a ∧ a ≤ 64
 ·rw [decide_eq_true h, if_pos rfl, Option.bind_some, show wrap64 (64 - a) = 64 - a by unfold wrap64; omega]
  by_cases h2 : 1 ≤ n ∧ n ≤ 64 - a
  ·rw [decide_eq_true h2, decide_eq_true (show 0 ≤ a ∧ a ≤ 64 ∧ 1 ≤ n ∧ n ≤ 64 - a by omega), Bool.true_and, frame_blocks_may.j0, if_neg (by decide)]
   by_cases h3 : k = 2
   ·rw [if_pos h3, if_pos h3, frame_blocks_may.loop l.length (l.length + 1) l (Nat.le_refl _) (by omega), show wrap64 (n * 32) = n * 32 by unfold wrap64; omega]
   rw [if_neg h3, if_neg h3]
   congr 1
   rw [Bool.eq_iff_iff, beq_iff_eq, decide_eq_true_eq]
   omega
  rw [decide_eq_false h2, decide_eq_false (by omega), Bool.false_and, frame_blocks_may.j0, if_pos (by decide)]
 rw [decide_eq_false h, if_neg (by decide), decide_eq_false (by omega), Bool.false_and, frame_blocks_may.j0, if_pos rfl]
def frame_Check.f (a0_0 a0_1 a0_2 : Int) (l0_3 : List Int) (a0_4 a0_5 a0_6 : Int) : Option Bool := if Pl.byteB l0_3 = true then some (Pl.frOk a0_0 a0_1 a0_2 l0_3 a0_4 a0_5 a0_6) else none
theorem frame_Check.tells {a0_0 a0_1 a0_2 : Int} {l0_3 : List Int} {a0_4 a0_5 a0_6 : Int} (h0 : Pl.byteB l0_3 = true) : frame_Check.f a0_0 a0_1 a0_2 l0_3 a0_4 a0_5 a0_6 = some (Pl.frOk a0_0 a0_1 a0_2 l0_3 a0_4 a0_5 a0_6) := if_pos h0
theorem frame_Check.calls (a0_0 a0_1 a0_2 : Int) (A0_3 : Option Addr) (c0_3 : Nat) (l0_3 : List Int) (a0_4 a0_5 a0_6 : Int) (r : Bool) (w : World) (hr0_3 : Kd.C (Kd.int .u8) w A0_3 l0_3.length l0_3) (hc0_3 : l0_3.length ≤ c0_3) (h : frame_Check.f a0_0 a0_1 a0_2 l0_3 a0_4 a0_5 a0_6 = some r) :
  Calls Try.prog 24 #[.agg #[.int .i64 a0_0, .int .i64 a0_1, .int .i64 a0_2, .slice A0_3 l0_3.length c0_3, .int .i64 a0_4, .int .i64 a0_5, .int .i64 a0_6]] w fun e w' => e = .returned (.bool r) ∧ Below w.heap.size w w' := by
 unfold frame_Check.f at h
 split at h
 case isFalse => cases h
 rename_i hb
 obtain rfl := Option.some.inj h
 clear h
 have hnl : ([] : List Int) = l0_3 ↔ l0_3.length = 0 := by rw [List.length_eq_zero_iff]; exact eq_comm
 by_cases k1 : a0_0 = 1
 ·subst k1
  have := frame_Check.head a0_1 a0_2 A0_3 c0_3 l0_3 a0_4 a0_5 a0_6 _ _ w hr0_3 hc0_3 (frame_head_may.tells _ _ _) (fun _ => frame_same.tells rfl hb)
  rw [show Pl.frOk 1 a0_1 a0_2 l0_3 a0_4 a0_5 a0_6 = (decide (1 ≤ a0_4 ∧ a0_4 ≤ 64 ∧ 0 ≤ a0_5 ∧ a0_5 < a0_6 ∧ a0_6 ≤ 2147483647) && decide ((1 : Int) = 1 ∧ (0 : Int) = a0_1 ∧ (0 : Int) = a0_2 ∧ ([] : List Int) = l0_3 ∧ a0_4 = a0_4 ∧ a0_5 = a0_5 ∧ a0_6 = a0_6)) by
   rw [Pl.frOk_1, ← Bool.decide_and, decide_eq_decide, hnl]; omega]
  exact this
 by_cases k2 : a0_0 = 2 ∨ a0_0 = 3 ∨ a0_0 = 4
 ·have := frame_Check.blocks (l0_3.length + 2) a0_0 a0_1 a0_2 A0_3 c0_3 l0_3 a0_4 a0_5 a0_6 _ _ w hr0_3 hc0_3 k2 (frame_blocks_may.tells _ _ _ _) (fun _ => frame_same.tells hb hb)
  rw [show Pl.frOk a0_0 a0_1 a0_2 l0_3 a0_4 a0_5 a0_6 = (frame_blocks_may.S a0_0 a0_1 a0_2 l0_3 && decide (a0_0 = a0_0 ∧ a0_1 = a0_1 ∧ a0_2 = a0_2 ∧ l0_3 = l0_3 ∧ (0 : Int) = a0_4 ∧ (0 : Int) = a0_5 ∧ (0 : Int) = a0_6)) by
   unfold frame_blocks_may.S
   rcases k2 with rfl | k3
   ·rw [Pl.frOk_2, if_pos rfl]
    cases Pl.zerS l0_3
    ·rw [Bool.not_false, Bool.and_true, Bool.true_and, ← Bool.decide_and, ← Bool.decide_and, decide_eq_decide]
     simp only [true_and]
     omega
    rw [Bool.not_true, Bool.and_false, Bool.false_and, Bool.and_false, Bool.false_and]
   rw [Pl.frOk_3 k3, if_neg (by omega), ← Bool.decide_and, ← Bool.decide_and, decide_eq_decide]
   simp only [true_and]
   omega]
  exact this
 by_cases k5 : a0_0 = 5
 ·subst k5
  have := frame_Check.endB a0_1 a0_2 A0_3 c0_3 l0_3 a0_4 a0_5 a0_6 _ _ w hr0_3 hc0_3 (frame_end_may.tells _ _) (fun _ => frame_same.tells rfl hb)
  rw [show Pl.frOk 5 a0_1 a0_2 l0_3 a0_4 a0_5 a0_6 = (decide (1 ≤ a0_4 ∧ a0_4 ≤ 65535 ∧ 0 ≤ a0_5 ∧ a0_5 ≤ 4294967295) && decide ((5 : Int) = 5 ∧ (0 : Int) = a0_1 ∧ (0 : Int) = a0_2 ∧ ([] : List Int) = l0_3 ∧ a0_4 = a0_4 ∧ a0_5 = a0_5 ∧ (0 : Int) = a0_6)) by
   rw [Pl.frOk_5, ← Bool.decide_and, decide_eq_decide, hnl]; omega]
  exact this
 rw [Pl.frOk_not (by omega)]
 exact frame_Check.noneB a0_0 a0_1 a0_2 A0_3 c0_3 l0_3 a0_4 a0_5 a0_6 w hr0_3 hc0_3 (by omega)
def frame_Text.f (k a n : Int) (d : List Int) (A B C : Int) : Option (List Int × Int) := if Pl.frOk k a n d A B C = true then some (Pl.frT k a n d A B C, 0) else none
theorem goesI_ {P : Program} {ops : Array Oper} {Q : Exit → Act → World → Prop} {rest : List Oper} {oi : Oper} {a : Act} {w : World} (N : Option Tmp) (hd : oi.dst = N) (hg : oi.guard = none) {f : FuncId} (args : Array Value) (hrun : (execOp a.eval oi).run P w = .ok (.enter f args) w)
  (h : Calls P f args w fun e w' => ∃ v, e = .returned v ∧ wpList P ops Q rest (a.put N v) w') : wpList P ops Q (oi :: rest) a w := by
 refine wpList_plain hg fun K hK => ?_
 unfold Oper.wp
 rw [hrun, Oper.upon_enter]
 refine h.mono fun e w'' hh => ?_
 obtain ⟨v, rfl, hk⟩ := hh
 subst hd
 exact hK _ _ hk
theorem frame_Text.runs {V : Value} {f : FuncId} {rv : Value} (hm : ∀ w : World, (execOp (fun _ => V) { dst := some 13, op := .call { callee := .invoke (.tmp 12) "waggoner/frame.text", args := #[], argTypes := #[] }, type := 29, pos := "", after := #[], guard := none }).run Try.prog w = .ok (.enter f #[rv]) w) {a : Act} {o : Oper} (hV : a.eval (.tmp 12) = V) (ho : o.op = .call { callee := .invoke (.tmp 12) "waggoner/frame.text", args := #[], argTypes := #[] }) (w : World) : (execOp a.eval o).run Try.prog w = .ok (.enter f #[rv]) w := by
 have := hm w
 unfold execOp at this ⊢
 simp only [ho, resolve, hV, Array.map_empty, List.map_toArray, List.map_nil] at this ⊢
 exact this
theorem frame_Text.arm {ops : Array Oper} {Q : Exit → Act → World → Prop} {rest : List Oper} {o1 o2 : Oper} {x : Operand} {ts : Array TypeId} {a : Act} {w : World} (k a_ n : Int) (A3 : Option Addr) (c3 : Nat) (d : List Int) (A B C : Int) (t : List Int) (e : Int) (hg1 : o1.guard = none) (hg2 : o2.guard = none) (hd1 : o1.dst = some 12) (hd2 : o2.dst = some 13)
  (hop1 : o1.op = .call { callee := .value (.func 38), args := #[x], argTypes := ts }) (hx : a.eval x = .agg #[.int .i64 k, .int .i64 a_, .int .i64 n, .slice A3 d.length c3, .int .i64 A, .int .i64 B, .int .i64 C]) (hop2 : o2.op = .call { callee := .invoke (.tmp 12) "waggoner/frame.text", args := #[], argTypes := #[] }) (hz : 12 < a.tmps.size)
  (hr : Kd.C (Kd.int .u8) w A3 d.length d) (hc : d.length ≤ c3) (ht : frame_Text.f k a_ n d A B C = some (t, e))
  (h : ∀ V v w', Kd.R (Kd.int .u8) 5 w' w.heap.size (fun _ => True) v t → Below w.heap.size w w' → wpList Try.prog ops Q rest ((a.put (some 12) V).put (some 13) (.tuple #[v, .int .i64 e])) w') : wpList Try.prog ops Q (o1 :: o2 :: rest) a w := by
 unfold frame_Text.f at ht
 split at ht
 case isFalse => cases ht
 rename_i hk
 simp only [Option.some.injEq, Prod.mk.injEq] at ht
 obtain ⟨rfl, rfl⟩ := ht
 refine goesL_ (some 12) hd1 hg1 Try.func38 (by kernel_rfl) rfl #[.agg #[.int .i64 k, .int .i64 a_, .int .i64 n, .slice A3 d.length c3, .int .i64 A, .int .i64 B, .int .i64 C]] hop1 (by simp [hx]) ?_
 refine (frame_of.calls _ _ _ _ _ _ _ _ _ _).mono ?_
 rintro e1 w1 ⟨rfl, hb1⟩
 refine ⟨_, rfl, ?_⟩
 have hV : ∀ V, (a.put (some 12) V).eval (.tmp 12) = V := fun V => by
  simp only [Act.put, Act.eval]
  simp [hz]
 rcases Pl.frOk_iff.1 hk with q | q | q | q
 rotate_left 2
 focus
  obtain ⟨q3, q⟩ := q
  have hdl : d.length ≤ 512 := by rw [q.2.2.2.2.2.2.2]; decide
  rcases q3 with rfl | rfl
 rotate_left 3
 focus
  obtain ⟨rfl, rfl, rfl, rfl, q1, q2, q3, q4, q5⟩ := q
  refine goesI_ (some 13) hd2 hg2 (f := 110) #[.agg #[.int .i64 A, .int .i64 B, .int .i64 C]] (frame_Text.runs (V := ofV 1 0 0 A3 0 c3 A B C) (fun _ => by kernel_rfl) (hV _) hop2 _) ?_
  have hp : frame_head_text.f A B C = some (Pl.frT 1 0 0 [] A B C, 0) := by
   unfold frame_head_text.f le_Pack.f
   rw [show IntKind.u64.wrap A = A by rw [IntKind.wrap_u64]; omega, show IntKind.u64.wrap B = B by rw [IntKind.wrap_u64]; omega, show IntKind.u64.wrap C = C by rw [IntKind.wrap_u64]; omega, if_pos ⟨Pl.u64B_iff.2 (by
    intro x hx
    simp only [List.mem_cons, List.not_mem_nil, or_false] at hx
    omega), by decide⟩, show Pl.fb (⟨#[98, 119, 119]⟩ : ByteArray) = [98, 119, 119] from by kernel_rfl, Pl.pack_bww (by omega) (by omega) (by omega), Option.bind_some]
   rfl
  refine (frame_head_text.calls A B C _ _ w1 hp).mono ?_
 rotate_left
 focus
  obtain ⟨rfl, q⟩ := q
  have hdl : d.length ≤ 512 := by omega
  refine goesI_ (some 13) hd2 hg2 (f := 113) #[.agg #[.int .i64 2, .int .i64 a_, .int .i64 n, .slice A3 d.length c3]] (frame_Text.runs (V := ofV 2 a_ n A3 d.length c3 A B C) (fun _ => by kernel_rfl) (hV _) hop2 _) ?_
  have hp : frame_blocks_text.f 2 a_ n d = some (Pl.frT 2 a_ n d A B C, 0) := by
   unfold frame_blocks_text.f le_Pack.f
   rw [show IntKind.u64.wrap a_ = a_ by rw [IntKind.wrap_u64]; omega, show IntKind.u64.wrap n = n by rw [IntKind.wrap_u64]; omega, if_pos ⟨Pl.u64B_iff.2 (by
     intro x hx
     simp only [List.mem_cons, List.not_mem_nil, or_false] at hx
     omega), by decide⟩, show Pl.fb (⟨#[98, 98]⟩ : ByteArray) = [98, 98] from by kernel_rfl, Pl.pack_bb (by omega) (by omega), Option.bind_some]
   dsimp only
   rw [if_pos (by rw [List.length_append, Pl.leB_length, Pl.leB_length]; omega), Pl.frT, if_neg (by decide), if_neg (by decide), List.append_assoc]
  refine (frame_blocks_text.calls 2 a_ n A3 c3 d _ _ w1 (Kd.C_below hr hb1) hc hp).mono ?_
 rotate_left
 focus
  refine goesI_ (some 13) hd2 hg2 (f := 113) #[.agg #[.int .i64 3, .int .i64 a_, .int .i64 n, .slice A3 d.length c3]] (frame_Text.runs (V := ofV 3 a_ n A3 d.length c3 A B C) (fun _ => by kernel_rfl) (hV _) hop2 _) ?_
  have hp : frame_blocks_text.f 3 a_ n d = some (Pl.frT 3 a_ n d A B C, 0) := by
   unfold frame_blocks_text.f le_Pack.f
   rw [show IntKind.u64.wrap a_ = a_ by rw [IntKind.wrap_u64]; omega, show IntKind.u64.wrap n = n by rw [IntKind.wrap_u64]; omega, if_pos ⟨Pl.u64B_iff.2 (by
     intro x hx
     simp only [List.mem_cons, List.not_mem_nil, or_false] at hx
     omega), by decide⟩, show Pl.fb (⟨#[98, 98]⟩ : ByteArray) = [98, 98] from by kernel_rfl, Pl.pack_bb (by omega) (by omega), Option.bind_some]
   dsimp only
   rw [if_pos (by rw [List.length_append, Pl.leB_length, Pl.leB_length]; omega), Pl.frT, if_neg (by decide), if_neg (by decide), List.append_assoc]
  refine (frame_blocks_text.calls 3 a_ n A3 c3 d _ _ w1 (Kd.C_below hr hb1) hc hp).mono ?_
 rotate_left
 focus
  refine goesI_ (some 13) hd2 hg2 (f := 113) #[.agg #[.int .i64 4, .int .i64 a_, .int .i64 n, .slice A3 d.length c3]] (frame_Text.runs (V := ofV 4 a_ n A3 d.length c3 A B C) (fun _ => by kernel_rfl) (hV _) hop2 _) ?_
  have hp : frame_blocks_text.f 4 a_ n d = some (Pl.frT 4 a_ n d A B C, 0) := by
   unfold frame_blocks_text.f le_Pack.f
   rw [show IntKind.u64.wrap a_ = a_ by rw [IntKind.wrap_u64]; omega, show IntKind.u64.wrap n = n by rw [IntKind.wrap_u64]; omega, if_pos ⟨Pl.u64B_iff.2 (by
     intro x hx
     simp only [List.mem_cons, List.not_mem_nil, or_false] at hx
     omega), by decide⟩, show Pl.fb (⟨#[98, 98]⟩ : ByteArray) = [98, 98] from by kernel_rfl, Pl.pack_bb (by omega) (by omega), Option.bind_some]
   dsimp only
   rw [if_pos (by rw [List.length_append, Pl.leB_length, Pl.leB_length]; omega), Pl.frT, if_neg (by decide), if_neg (by decide), List.append_assoc]
  refine (frame_blocks_text.calls 4 a_ n A3 c3 d _ _ w1 (Kd.C_below hr hb1) hc hp).mono ?_
 rotate_left
 focus
  obtain ⟨rfl, rfl, rfl, rfl, q1, q2, q3, q4, rfl⟩ := q
  refine goesI_ (some 13) hd2 hg2 (f := 115) #[.agg #[.int .i64 A, .int .i64 B]] (frame_Text.runs (V := ofV 5 0 0 A3 0 c3 A B 0) (fun _ => by kernel_rfl) (hV _) hop2 _) ?_
  have hp : frame_end_text.f A B = some (Pl.frT 5 0 0 [] A B 0, 0) := by
   unfold frame_end_text.f le_Pack.f
   rw [show IntKind.u64.wrap A = A by rw [IntKind.wrap_u64]; omega, show IntKind.u64.wrap B = B by rw [IntKind.wrap_u64]; omega, if_pos ⟨Pl.u64B_iff.2 (by
     intro x hx
     simp only [List.mem_cons, List.not_mem_nil, or_false] at hx
     omega), by decide⟩, show Pl.fb (⟨#[104, 119]⟩ : ByteArray) = [104, 119] from by kernel_rfl, Pl.pack_hw (by omega) (by omega), Option.bind_some]
   rfl
  refine (frame_end_text.calls A B _ _ w1 hp).mono ?_
 rotate_left
 all_goals
  rintro e2 w2 ⟨v, rfl, ho, hb2⟩
  exact ⟨_, rfl, h _ _ _ (Kd.R_lower ho (below_size hb1)) (below_step hb1 hb2)⟩
def frame_Write_p.f (a0_0 : Int) (a0_1 : Int) (a0_2 : Int) (l0_3 : List Int) (a0_4 : Int) (a0_5 : Int) (a0_6 : Int) : Option (List Int × Int) := (frame_Check.f a0_0 a0_1 a0_2 l0_3 a0_4 a0_5 a0_6).bind fun t134 => (if t134 = true then ((frame_Text.f a0_0 a0_1 a0_2 l0_3 a0_4 a0_5 a0_6).bind fun bt135 => (if bt135.2 = 0 then ((le_Pack.f (⟨#[98, 104]⟩ : ByteArray) (([IntKind.u64.wrap (a0_0), IntKind.u64.wrap ((bt135.1.length : Int))] : List Int))).bind fun bt142 => (if bt142.2 = 0 then (if bt142.1.length + bt135.1.length < 140737488355328 then ((crc_Seal.f (bt142.1 ++ bt135.1)).bind fun t149 => (some (t149, 0))) else (none)) else (some (([] : List Int), 160)))) else (some (([] : List Int), 160)))) else (some (([] : List Int), 160)))
set_option maxHeartbeats 8000000 in
set_option maxRecDepth 100000 in
theorem frame_Write_p.calls (a0_0 : Int) (a0_1 : Int) (a0_2 : Int) (A0_3 : Option Addr) (c0_3 : Nat) (l0_3 : List Int) (a0_4 : Int) (a0_5 : Int) (a0_6 : Int) (r1 : List Int) (r2 : Int) (w : World) (hr0_3 : Kd.C (Kd.int .u8) w A0_3 l0_3.length l0_3) (hc0_3 : l0_3.length ≤ c0_3) (h : frame_Write_p.f a0_0 a0_1 a0_2 l0_3 a0_4 a0_5 a0_6 = some (r1, r2)) :
  Calls Try.prog 19 #[.agg #[.int .i64 a0_0, .int .i64 a0_1, .int .i64 a0_2, .slice A0_3 l0_3.length c0_3, .int .i64 a0_4, .int .i64 a0_5, .int .i64 a0_6]] w fun e w' => ∃ v0_ : Value, e = .returned (.tuple #[v0_, .int .i64 r2]) ∧ Kd.R (Kd.int .u8) 5 w' w.heap.size (fun _ => True) v0_ r1 ∧ Below w.heap.size w w' := by
 have hu0 := Try.underlying38
 have HR0_3 := Aside0.mk hr0_3
 have HC0_3 := Aside0.mk hc0_3
 clear hr0_3 hc0_3
 have HB := Aside0.mk (Below.refl w.heap.size w)
 have H : ((frame_Check.f a0_0 a0_1 a0_2 l0_3 a0_4 a0_5 a0_6).bind fun t0 => (if t0 = true then ((frame_Text.f a0_0 a0_1 a0_2 l0_3 a0_4 a0_5 a0_6).bind fun bt0 => (if bt0.2 = 0 then ((le_Pack.f (⟨#[98, 104]⟩ : ByteArray) (([IntKind.u64.wrap (a0_0), IntKind.u64.wrap ((bt0.1.length : Int))] : List Int))).bind fun bt1 => (if bt1.2 = 0 then (if bt1.1.length + bt0.1.length < 140737488355328 then ((crc_Seal.f (bt1.1 ++ bt0.1)).bind fun t1 => (some (t1, 0))) else (none)) else (some (([] : List Int), 160)))) else (some (([] : List Int), 160)))) else (some (([] : List Int), 160)))) = some (r1, r2) := h
 clear h
 replace H := Option.bind_eq_some_iff.mp H
 obtain ⟨t0, A1, H⟩ := H
 (try dsimp only at H)
 have A2 := Aside0.mk A1
 clear A1
 by_cases c3 : t0 = true
 focus
  subst c3
  rw [if_pos rfl] at H
  replace H := Option.bind_eq_some_iff.mp H
  obtain ⟨⟨t2, t138⟩, A3, H⟩ := H
  (try dsimp only at H)
  have A4 := Aside0.mk A3
  clear A3
  by_cases c5 : t138 = 0
  focus
   rw [if_pos c5] at H
   have c5b0 : (t138 == 0) = true := beq_iff_eq.mpr c5
   have c5b1 : (t138 != 0) = false := bne_eq_false_iff_eq.mpr c5
   clear c5
   obtain ⟨y0, hy0⟩ : ∃ y_ : List Int, y_ = (([IntKind.u64.wrap (a0_0), IntKind.u64.wrap ((t2.length : Int))] : List Int)) := ⟨_, rfl⟩
   replace H : ((le_Pack.f (⟨#[98, 104]⟩ : ByteArray) y0).bind fun bt1 => (if bt1.2 = 0 then (if bt1.1.length + t2.length < 140737488355328 then ((crc_Seal.f (bt1.1 ++ t2)).bind fun t1 => (some (t1, 0))) else (none)) else (some (([] : List Int), 160)))) = some (r1, r2) := by first | (rw [hy0]; with_reducible exact H) | (have H0_ := (Option.bind_some _ _).symm.trans H; rw [hy0]; with_reducible exact H0_) | (have H0_ := (Option.bind_some _ _).symm.trans H; with_reducible exact H0_) | with_reducible exact H | (rw [hy0]; exact H) | exact H
   have Ny0 := Aside0.mk hy0
   clear hy0
   replace H := Option.bind_eq_some_iff.mp H
   obtain ⟨⟨t3, t143⟩, A5, H⟩ := H
   (try dsimp only at H)
   have A6 := Aside0.mk A5
   clear A5
   by_cases c7 : t143 = 0
  rotate_left 3
 rotate_left 4
 focus
  rw [if_pos c7] at H
  have c7b0 : (t143 == 0) = true := beq_iff_eq.mpr c7
  have c7b1 : (t143 != 0) = false := bne_eq_false_iff_eq.mpr c7
  clear c7
  by_cases c8 : t3.length + t2.length < 140737488355328
  rotate_left
  ·rw [if_neg c8] at H
   exact absurd H (by simp)
  rw [if_pos c8] at H
  have LMc0 := Aside0.mk c8
  clear c8
  obtain ⟨y1, hy1⟩ : ∃ y_ : List Int, y_ = (t3 ++ t2) := ⟨_, rfl⟩
  replace H : ((crc_Seal.f y1).bind fun t1 => (some (t1, 0))) = some (r1, r2) := by first | (rw [hy1]; with_reducible exact H) | (have H0_ := (Option.bind_some _ _).symm.trans H; rw [hy1]; with_reducible exact H0_) | (have H0_ := (Option.bind_some _ _).symm.trans H; with_reducible exact H0_) | with_reducible exact H | (rw [hy1]; exact H) | exact H
  have Ny1 := Aside0.mk hy1
  clear hy1
  replace H := Option.bind_eq_some_iff.mp H
  obtain ⟨t1, A7, H⟩ := H
  (try dsimp only at H)
  have A8 := Aside0.mk A7
  clear A7
 rotate_left
 focus
  rw [if_neg c7] at H
  have c7b0 : (t143 == 0) = false := beq_eq_false_iff_ne.mpr c7
  have c7b1 : (t143 != 0) = true := bne_iff_ne.mpr c7
 rotate_left
 focus
  rw [if_neg c5] at H
  have c5b0 : (t138 == 0) = false := beq_eq_false_iff_ne.mpr c5
  have c5b1 : (t138 != 0) = true := bne_iff_ne.mpr c5
 rotate_left
 focus
  replace c3 := Bool.eq_false_iff.mpr c3
  subst c3
  rw [if_neg (show ¬ (false = true) by decide)] at H
 rotate_left
 all_goals
  simp only [Option.some.injEq, Prod.mk.injEq] at H
  obtain ⟨rfl, rfl⟩ := H
  go_enter Try.func19, Try.ntmps19
 ·go_wp2_with (first | ((with_reducible refine gate_dst (N := 1) rfl ?_); refine Cz.bx (N := 1) #[.int .i64 a0_0, .int .i64 a0_1, .int .i64 a0_2, .slice A0_3 l0_3.length c0_3, .int .i64 a0_4, .int .i64 a0_5, .int .i64 a0_6] 38 ?_; intro gb0 hg w1 hbox hb; have BK0 := Aside0.mk (hbox); have GW0 := Aside0.mk ((Cz.gs hg : w.heap.size ≤ gb0)); have GE0 := GW0; replace HB := Cz.bs (w := w) hb; clear hb hbox hg; obtain ⟨z0_0, z0_1, z0_2, z0_3, z0_4, z0_5, z0_6, y2_0, y2_1, y2_2, y2_3, y2_4, y2_5, y2_6⟩ := Cz.d7 BK0) | ((with_reducible refine gate_callee (f := 24) rfl ?_); refine Cz.gL (N := (some 8)) Try.func24 #[.agg #[.int .i64 a0_0, .int .i64 a0_1, .int .i64 a0_2, .slice A0_3 l0_3.length c0_3, .int .i64 a0_4, .int .i64 a0_5, .int .i64 a0_6]] ?_; (with_reducible refine (frame_Check.calls a0_0 a0_1 a0_2 _ _ l0_3 a0_4 a0_5 a0_6 true _ ?side0 ?side1 A2.out).mono ?_); (case side0 => exact Cz.cb HR0_3); (case side1 => exact HC0_3.out); rintro e w2 ⟨rfl, hb⟩; refine ⟨_, rfl, ?_⟩; replace BK0 := Cz.bk BK0 hb; replace HB := Cz.bs (w := w) hb; (try clear hb); obtain ⟨z1_0, z1_1, z1_2, z1_3, z1_4, z1_5, z1_6, y3_0, y3_1, y3_2, y3_3, y3_4, y3_5, y3_6⟩ := Cz.d7 BK0) | ((with_reducible refine gate_dst (N := 12) rfl ?_); refine frame_Text.arm a0_0 a0_1 a0_2 _ _ l0_3 a0_4 a0_5 a0_6 t2 t138 rfl rfl rfl rfl rfl (by rfl) rfl (by first | decide | simp) ?side0 ?side1 A4.out ?_; (case side0 => exact Cz.cb HR0_3); (case side1 => exact HC0_3.out); intro V_ v1 w3 ho0 hb; have HO0 := Aside0.mk (Kd.R_lower ho0 (below_size (Cz.bl (w := w)))); replace BK0 := Cz.bk BK0 hb; replace HB := Cz.bs (w := w) hb; (try clear hb); (try clear ho0); obtain ⟨z2_0, z2_1, z2_2, z2_3, z2_4, z2_5, z2_6, y4_0, y4_1, y4_2, y4_3, y4_4, y4_5, y4_6⟩ := Cz.d7 BK0; obtain ⟨Ao0, co0, eo0⟩ := Kd.R_slice HO0.out; subst eo0) | ((with_reducible refine gate_dst (N := 25) rfl ?_); refine Kd.R_lit (Kd.int .u64) _ 68 ?hg (N := 25) ?hd (xs := ([IntKind.u64.wrap (a0_0), IntKind.u64.wrap ((t2.length : Int))] : List Int)) (inner := [.int .u64 (IntKind.u64.wrap (a0_0)), .int .u64 (IntKind.u64.wrap ((t2.length : Int)))]) (ok := fun _ => True) (okp := fun _ => True) ?hr ?hp (fun _ hk => hk) trivial (Below.refl _ _) (Nat.le_refl _) (by simp) ?_; (case hd => rfl); (case hg => rfl); (case hr => first | (go_simp; done) | (go_simp; rfl)); (case hp => exact (Reps.one (show Kd.M (Kd.int .u64) _ _ _ (IntKind.u64.wrap (a0_0)) [.int .u64 (IntKind.u64.wrap (a0_0))] from rfl) (Reps.one (show Kd.M (Kd.int .u64) _ _ _ (IntKind.u64.wrap ((t2.length : Int))) [.int .u64 (IntKind.u64.wrap ((t2.length : Int)))] from rfl) (Reps.none _ _)))); intro v2 w4 ho1 hb hg_ hnew_; clear hg_ hnew_; (first | rw [← Ny0.out] at ho1 | (simp only [Int.reduceToNat] at ho1; rw [← Ny0.out] at ho1)); have HO1 := Aside0.mk (Kd.R_lower ho1 (below_size (Cz.bl (w := w)))); replace HO0 := Cz.rb HO0 hb; replace BK0 := Cz.bk BK0 hb; replace HB := Cz.bs (w := w) hb; clear hb ho1; obtain ⟨Ao1, co1, eo1⟩ := Kd.R_slice HO1.out; subst eo1) | ((with_reducible refine gate_callee (f := 39) rfl ?_); refine Cz.gL (N := (some 26)) Try.func39 #[.string (⟨#[98, 104]⟩ : ByteArray), .slice Ao1 y0.length co1] ?_; (with_reducible refine (le_Pack.calls (⟨#[98, 104]⟩ : ByteArray) _ _ y0 t3 t143 _ ?side0 ?side1 A6.out).mono ?_); (case side0 => repeat (first | exact (Kd.R_reads' HO1.out).2.2 | (with_reducible refine Kd.C_alloc ?_ _) | (with_reducible refine Kd.C_drewN ?_ _) | (with_reducible refine Kd.C_drew ?_))); (case side1 => exact (Kd.R_reads' HO1.out).2.1); rintro e w5 ⟨v3, rfl, ho0, hb⟩; refine ⟨_, rfl, ?_⟩; have HO2 := Aside0.mk (Kd.R_lower (Kd.R_new' ho0 (Kd.R_lt (by (with_reducible repeat (first | apply Kd.R_alloc | apply Kd.R_drewN | apply Kd.R_drew)); exact HO0.out))) (below_size (Cz.bl (w := w)))); replace HO0 := Aside0.mk (Kd.R_elder' (Cz.rq HO0) (Kd.R_base ho0) hb); replace HO1 := Cz.rb HO1 hb; replace BK0 := Cz.bk BK0 hb; replace HB := Cz.bs (w := w) hb; (try clear hb); (try clear ho0)) | ((with_reducible refine gate_builtin (b := .append) (xs := #[.tmp 31, .tmp 32]) rfl ?_); at_builtin; refine Kd.R_append_rows (Kd.int .u8) (w0 := w) w.heap.size rfl (.tmp 31) (.tmp 32) 27 5 (.int .u8 0) 1 rfl Try.underlying27 info5 rfl (by decide) (by omega) v3 t3 t2 _ _ _ (fun k_ => some k_ ≠ (.slice Ao0 t2.length co0 : Value).ownBlock) (fun _ => False) rfl rfl ?aO ?aR (fun _ _ h => h) (fun _ h => h.elim) ?aF ?aB ?aS ?aL ?_; (case aR => repeat (first | exact (Kd.R_reads' HO0.out).2.2 | (with_reducible refine Kd.C_alloc ?_ _) | (with_reducible refine Kd.C_drewN ?_ _) | (with_reducible refine Kd.C_drew ?_))); (case aB => exact (Cz.bl (w := w))); (case aF => exact (fun k_ hk => Kd.fresh' (Kd.R_lt (by (with_reducible repeat (first | apply Kd.R_alloc | apply Kd.R_drewN | apply Kd.R_drew)); exact HO0.out)) k_ hk)); (case aO => exact (by (with_reducible repeat (first | apply Kd.R_alloc | apply Kd.R_drewN | apply Kd.R_drew)); exact Kd.R_mono HO2.out (fun _ hk => hk.2))); (case aS => exact (below_size (Cz.bl (w := w)))); (case aL => have := LMc0.out; omega); intro v4 w6 ho hb hg hat; rw [← Ny1.out] at ho; have HO3 := Aside0.mk (ho); replace BK0 := Cz.bw BK0 hg (Kd.R_ne HO2.out BK0.out (by decide)); replace HO0 := Aside0.mk (Kd.R_after (ok := (fun _ => True)) (by (with_reducible repeat (first | apply Kd.R_alloc | apply Kd.R_drewN | apply Kd.R_drew)); exact HO0.out) hg hat); replace HO1 := Aside0.mk (Kd.R_over' (by (with_reducible repeat (first | apply Kd.R_alloc | apply Kd.R_drewN | apply Kd.R_drew)); exact HO1.out) (Kd.R_typed (by (with_reducible repeat (first | apply Kd.R_alloc | apply Kd.R_drewN | apply Kd.R_drew)); exact HO2.out)) (by decide) hg); replace HB := Aside0.mk (hb); clear HO2; clear ho hb hg hat; obtain ⟨Ao2, co2, eo2⟩ := Kd.R_slice HO3.out; subst eo2) | ((with_reducible refine gate_callee (f := 40) rfl ?_); refine Cz.gL (N := (some 34)) Try.func40 #[.slice Ao2 y1.length co2] ?_; (with_reducible refine (crc_Seal.calls _ _ y1 t1 _ ?side0 ?side1 A8.out).mono ?_); (case side0 => repeat (first | exact (Kd.R_reads' HO3.out).2.2 | (with_reducible refine Kd.C_alloc ?_ _) | (with_reducible refine Kd.C_drewN ?_ _) | (with_reducible refine Kd.C_drew ?_))); (case side1 => exact (Kd.R_reads' HO3.out).2.1); rintro e w7 ⟨v5, rfl, ho0, hb⟩; refine ⟨_, rfl, ?_⟩; have HO4 := Aside0.mk (Kd.R_lower (Kd.R_new' (Kd.R_new' ho0 (Kd.R_lt (by (with_reducible repeat (first | apply Kd.R_alloc | apply Kd.R_drewN | apply Kd.R_drew)); exact HO0.out))) (Kd.R_lt (by (with_reducible repeat (first | apply Kd.R_alloc | apply Kd.R_drewN | apply Kd.R_drew)); exact HO3.out))) (below_size (Cz.bl (w := w)))); replace HO0 := Aside0.mk (Kd.R_elder' (Cz.rq HO0) (Kd.R_base ho0) hb); replace HO1 := Cz.rb HO1 hb; replace HO3 := Aside0.mk (Kd.R_elder' (Cz.rq HO3) (Kd.R_base ho0) hb); replace BK0 := Cz.bk BK0 hb; replace HB := Cz.bs (w := w) hb; (try clear hb); (try clear ho0)))
  go_ret2
  exact ⟨_, Cz.er, by (with_reducible repeat (first | apply Kd.R_alloc | apply Kd.R_drewN | apply Kd.R_drew)); exact Kd.R_mono HO4.out (fun _ hk => trivial), Cz.bl (w := w)⟩
 ·go_wp2_with (first | ((with_reducible refine gate_dst (N := 1) rfl ?_); refine Cz.bx (N := 1) #[.int .i64 a0_0, .int .i64 a0_1, .int .i64 a0_2, .slice A0_3 l0_3.length c0_3, .int .i64 a0_4, .int .i64 a0_5, .int .i64 a0_6] 38 ?_; intro gb0 hg w1 hbox hb; have BK0 := Aside0.mk (hbox); have GW0 := Aside0.mk ((Cz.gs hg : w.heap.size ≤ gb0)); have GE0 := GW0; replace HB := Cz.bs (w := w) hb; clear hb hbox hg; obtain ⟨z0_0, z0_1, z0_2, z0_3, z0_4, z0_5, z0_6, y1_0, y1_1, y1_2, y1_3, y1_4, y1_5, y1_6⟩ := Cz.d7 BK0) | ((with_reducible refine gate_callee (f := 24) rfl ?_); refine Cz.gL (N := (some 8)) Try.func24 #[.agg #[.int .i64 a0_0, .int .i64 a0_1, .int .i64 a0_2, .slice A0_3 l0_3.length c0_3, .int .i64 a0_4, .int .i64 a0_5, .int .i64 a0_6]] ?_; (with_reducible refine (frame_Check.calls a0_0 a0_1 a0_2 _ _ l0_3 a0_4 a0_5 a0_6 true _ ?side0 ?side1 A2.out).mono ?_); (case side0 => exact Cz.cb HR0_3); (case side1 => exact HC0_3.out); rintro e w2 ⟨rfl, hb⟩; refine ⟨_, rfl, ?_⟩; replace BK0 := Cz.bk BK0 hb; replace HB := Cz.bs (w := w) hb; (try clear hb); obtain ⟨z1_0, z1_1, z1_2, z1_3, z1_4, z1_5, z1_6, y2_0, y2_1, y2_2, y2_3, y2_4, y2_5, y2_6⟩ := Cz.d7 BK0) | ((with_reducible refine gate_dst (N := 12) rfl ?_); refine frame_Text.arm a0_0 a0_1 a0_2 _ _ l0_3 a0_4 a0_5 a0_6 t2 t138 rfl rfl rfl rfl rfl (by rfl) rfl (by first | decide | simp) ?side0 ?side1 A4.out ?_; (case side0 => exact Cz.cb HR0_3); (case side1 => exact HC0_3.out); intro V_ v1 w3 ho0 hb; have HO0 := Aside0.mk (Kd.R_lower ho0 (below_size (Cz.bl (w := w)))); replace BK0 := Cz.bk BK0 hb; replace HB := Cz.bs (w := w) hb; (try clear hb); (try clear ho0); obtain ⟨z2_0, z2_1, z2_2, z2_3, z2_4, z2_5, z2_6, y3_0, y3_1, y3_2, y3_3, y3_4, y3_5, y3_6⟩ := Cz.d7 BK0; obtain ⟨Ao0, co0, eo0⟩ := Kd.R_slice HO0.out; subst eo0) | ((with_reducible refine gate_dst (N := 25) rfl ?_); refine Kd.R_lit (Kd.int .u64) _ 68 ?hg (N := 25) ?hd (xs := ([IntKind.u64.wrap (a0_0), IntKind.u64.wrap ((t2.length : Int))] : List Int)) (inner := [.int .u64 (IntKind.u64.wrap (a0_0)), .int .u64 (IntKind.u64.wrap ((t2.length : Int)))]) (ok := fun _ => True) (okp := fun _ => True) ?hr ?hp (fun _ hk => hk) trivial (Below.refl _ _) (Nat.le_refl _) (by simp) ?_; (case hd => rfl); (case hg => rfl); (case hr => first | (go_simp; done) | (go_simp; rfl)); (case hp => exact (Reps.one (show Kd.M (Kd.int .u64) _ _ _ (IntKind.u64.wrap (a0_0)) [.int .u64 (IntKind.u64.wrap (a0_0))] from rfl) (Reps.one (show Kd.M (Kd.int .u64) _ _ _ (IntKind.u64.wrap ((t2.length : Int))) [.int .u64 (IntKind.u64.wrap ((t2.length : Int)))] from rfl) (Reps.none _ _)))); intro v2 w4 ho1 hb hg_ hnew_; clear hg_ hnew_; (first | rw [← Ny0.out] at ho1 | (simp only [Int.reduceToNat] at ho1; rw [← Ny0.out] at ho1)); have HO1 := Aside0.mk (Kd.R_lower ho1 (below_size (Cz.bl (w := w)))); replace HO0 := Cz.rb HO0 hb; replace BK0 := Cz.bk BK0 hb; replace HB := Cz.bs (w := w) hb; clear hb ho1; obtain ⟨Ao1, co1, eo1⟩ := Kd.R_slice HO1.out; subst eo1) | ((with_reducible refine gate_callee (f := 39) rfl ?_); refine Cz.gL (N := (some 26)) Try.func39 #[.string (⟨#[98, 104]⟩ : ByteArray), .slice Ao1 y0.length co1] ?_; (with_reducible refine (le_Pack.calls (⟨#[98, 104]⟩ : ByteArray) _ _ y0 t3 t143 _ ?side0 ?side1 A6.out).mono ?_); (case side0 => repeat (first | exact (Kd.R_reads' HO1.out).2.2 | (with_reducible refine Kd.C_alloc ?_ _) | (with_reducible refine Kd.C_drewN ?_ _) | (with_reducible refine Kd.C_drew ?_))); (case side1 => exact (Kd.R_reads' HO1.out).2.1); rintro e w5 ⟨v3, rfl, ho0, hb⟩; refine ⟨_, rfl, ?_⟩; have HO2 := Aside0.mk (Kd.R_lower (Kd.R_new' ho0 (Kd.R_lt (by (with_reducible repeat (first | apply Kd.R_alloc | apply Kd.R_drewN | apply Kd.R_drew)); exact HO0.out))) (below_size (Cz.bl (w := w)))); replace HO0 := Aside0.mk (Kd.R_elder' (Cz.rq HO0) (Kd.R_base ho0) hb); replace HO1 := Cz.rb HO1 hb; replace BK0 := Cz.bk BK0 hb; replace HB := Cz.bs (w := w) hb; (try clear hb); (try clear ho0)))
  go_ret2
  exact ⟨_, Cz.er, by first | exact Kd.R_nil _ _ _ _ _ | exact Kd.N_nil _ _ _ _ _ | exact Kd.V_nil _ _ _ _ _ | exact Kd.Q_nil _ _ _ _ _ | exact Kd.S_nil _ _ _ _ _, Cz.bl (w := w)⟩
 ·go_wp2_with (first | ((with_reducible refine gate_dst (N := 1) rfl ?_); refine Cz.bx (N := 1) #[.int .i64 a0_0, .int .i64 a0_1, .int .i64 a0_2, .slice A0_3 l0_3.length c0_3, .int .i64 a0_4, .int .i64 a0_5, .int .i64 a0_6] 38 ?_; intro gb0 hg w1 hbox hb; have BK0 := Aside0.mk (hbox); have GW0 := Aside0.mk ((Cz.gs hg : w.heap.size ≤ gb0)); have GE0 := GW0; replace HB := Cz.bs (w := w) hb; clear hb hbox hg; obtain ⟨z0_0, z0_1, z0_2, z0_3, z0_4, z0_5, z0_6, y0_0, y0_1, y0_2, y0_3, y0_4, y0_5, y0_6⟩ := Cz.d7 BK0) | ((with_reducible refine gate_callee (f := 24) rfl ?_); refine Cz.gL (N := (some 8)) Try.func24 #[.agg #[.int .i64 a0_0, .int .i64 a0_1, .int .i64 a0_2, .slice A0_3 l0_3.length c0_3, .int .i64 a0_4, .int .i64 a0_5, .int .i64 a0_6]] ?_; (with_reducible refine (frame_Check.calls a0_0 a0_1 a0_2 _ _ l0_3 a0_4 a0_5 a0_6 true _ ?side0 ?side1 A2.out).mono ?_); (case side0 => exact Cz.cb HR0_3); (case side1 => exact HC0_3.out); rintro e w2 ⟨rfl, hb⟩; refine ⟨_, rfl, ?_⟩; replace BK0 := Cz.bk BK0 hb; replace HB := Cz.bs (w := w) hb; (try clear hb); obtain ⟨z1_0, z1_1, z1_2, z1_3, z1_4, z1_5, z1_6, y1_0, y1_1, y1_2, y1_3, y1_4, y1_5, y1_6⟩ := Cz.d7 BK0) | ((with_reducible refine gate_dst (N := 12) rfl ?_); refine frame_Text.arm a0_0 a0_1 a0_2 _ _ l0_3 a0_4 a0_5 a0_6 t2 t138 rfl rfl rfl rfl rfl (by rfl) rfl (by first | decide | simp) ?side0 ?side1 A4.out ?_; (case side0 => exact Cz.cb HR0_3); (case side1 => exact HC0_3.out); intro V_ v1 w3 ho0 hb; have HO0 := Aside0.mk (Kd.R_lower ho0 (below_size (Cz.bl (w := w)))); replace BK0 := Cz.bk BK0 hb; replace HB := Cz.bs (w := w) hb; (try clear hb); (try clear ho0)))
  go_ret2
  exact ⟨_, Cz.er, by first | exact Kd.R_nil _ _ _ _ _ | exact Kd.N_nil _ _ _ _ _ | exact Kd.V_nil _ _ _ _ _ | exact Kd.Q_nil _ _ _ _ _ | exact Kd.S_nil _ _ _ _ _, Cz.bl (w := w)⟩
 ·go_wp2_with (first | ((with_reducible refine gate_dst (N := 1) rfl ?_); refine Cz.bx (N := 1) #[.int .i64 a0_0, .int .i64 a0_1, .int .i64 a0_2, .slice A0_3 l0_3.length c0_3, .int .i64 a0_4, .int .i64 a0_5, .int .i64 a0_6] 38 ?_; intro gb0 hg w1 hbox hb; have BK0 := Aside0.mk (hbox); have GW0 := Aside0.mk ((Cz.gs hg : w.heap.size ≤ gb0)); have GE0 := GW0; replace HB := Cz.bs (w := w) hb; clear hb hbox hg; obtain ⟨z0_0, z0_1, z0_2, z0_3, z0_4, z0_5, z0_6, y0_0, y0_1, y0_2, y0_3, y0_4, y0_5, y0_6⟩ := Cz.d7 BK0) | ((with_reducible refine gate_callee (f := 24) rfl ?_); refine Cz.gL (N := (some 8)) Try.func24 #[.agg #[.int .i64 a0_0, .int .i64 a0_1, .int .i64 a0_2, .slice A0_3 l0_3.length c0_3, .int .i64 a0_4, .int .i64 a0_5, .int .i64 a0_6]] ?_; (with_reducible refine (frame_Check.calls a0_0 a0_1 a0_2 _ _ l0_3 a0_4 a0_5 a0_6 false _ ?side0 ?side1 A2.out).mono ?_); (case side0 => exact Cz.cb HR0_3); (case side1 => exact HC0_3.out); rintro e w2 ⟨rfl, hb⟩; refine ⟨_, rfl, ?_⟩; replace BK0 := Cz.bk BK0 hb; replace HB := Cz.bs (w := w) hb; (try clear hb)))
  go_ret2
  exact ⟨_, Cz.er, by first | exact Kd.R_nil _ _ _ _ _ | exact Kd.N_nil _ _ _ _ _ | exact Kd.V_nil _ _ _ _ _ | exact Kd.Q_nil _ _ _ _ _ | exact Kd.S_nil _ _ _ _ _, Cz.bl (w := w)⟩
def frame_Write.f (a0_0 a0_1 a0_2 : Int) (l0_3 : List Int) (a0_4 a0_5 a0_6 : Int) : Option (List Int × Int) := if Pl.byteB l0_3 = true then some (Pl.fwriteS a0_0 a0_1 a0_2 l0_3 a0_4 a0_5 a0_6) else none
theorem frame_Write.tells {a0_0 a0_1 a0_2 : Int} {l0_3 : List Int} {a0_4 a0_5 a0_6 : Int} (h0 : Pl.byteB l0_3 = true) : frame_Write.f a0_0 a0_1 a0_2 l0_3 a0_4 a0_5 a0_6 = some (Pl.fwriteS a0_0 a0_1 a0_2 l0_3 a0_4 a0_5 a0_6) := if_pos h0
theorem frame_Write.closes {a0_0 a0_1 a0_2 : Int} {l0_3 : List Int} {a0_4 a0_5 a0_6 : Int} {r : List Int × Int} (h : frame_Write.f a0_0 a0_1 a0_2 l0_3 a0_4 a0_5 a0_6 = some r) : frame_Write_p.f a0_0 a0_1 a0_2 l0_3 a0_4 a0_5 a0_6 = some r := by
 unfold frame_Write.f at h
 split at h
 case isFalse => cases h
 rename_i hh
 rw [← h]
 unfold frame_Write_p.f
 rw [frame_Check.tells hh, Option.bind_some, Pl.fwriteS]
 by_cases ho : Pl.frOk a0_0 a0_1 a0_2 l0_3 a0_4 a0_5 a0_6 = true
 rotate_left
 ·rw [if_neg ho, if_neg ho]
 have hk := Pl.frOk_kind ho
 have ht := Pl.frT_le ho
 have htb : Pl.byteB (Pl.frT a0_0 a0_1 a0_2 l0_3 a0_4 a0_5 a0_6) = true := Pl.frT_byte hh
 rw [if_pos ho, if_pos ho, frame_Text.f, if_pos ho, Option.bind_some, if_pos rfl]
 dsimp only
 generalize hT : Pl.frT a0_0 a0_1 a0_2 l0_3 a0_4 a0_5 a0_6 = T at ht htb
 have hp : le_Pack.f (⟨#[98, 104]⟩ : ByteArray) [IntKind.u64.wrap a0_0, IntKind.u64.wrap (T.length : Int)] = some (Pl.leB 1 a0_0.toNat ++ Pl.leB 2 T.length, 0) := by
  unfold le_Pack.f
  rw [show IntKind.u64.wrap a0_0 = a0_0 by rw [IntKind.wrap_u64]; omega, show IntKind.u64.wrap (T.length : Int) = (T.length : Int) by rw [IntKind.wrap_u64]; omega, if_pos ⟨Pl.u64B_iff.2 (by
   intro x hx
   simp only [List.mem_cons, List.not_mem_nil, or_false] at hx
   omega), by decide⟩, show Pl.fb (⟨#[98, 104]⟩ : ByteArray) = [98, 104] from by kernel_rfl, Pl.pack_bh (by omega) (by omega)]
  rfl
 rw [hp, Option.bind_some, if_pos rfl]
 dsimp only
 rw [if_pos (by rw [List.length_append, Pl.leB_length, Pl.leB_length]; omega)]
 unfold crc_Seal.f
 rw [if_pos ⟨by rw [Pl.byteB_append, Pl.byteB_append, Pl.leB_byte, Pl.leB_byte, htb]; rfl, by rw [List.length_append, List.length_append, Pl.leB_length, Pl.leB_length]; omega⟩, Option.bind_some, Pl.frW, hT, Pl.frB, List.append_assoc]
theorem frame_Write.calls (a0_0 : Int) (a0_1 : Int) (a0_2 : Int) (A0_3 : Option Addr) (c0_3 : Nat) (l0_3 : List Int) (a0_4 : Int) (a0_5 : Int) (a0_6 : Int) (r1 : List Int) (r2 : Int) (w : World) (hr0_3 : Kd.C (Kd.int .u8) w A0_3 l0_3.length l0_3) (hc0_3 : l0_3.length ≤ c0_3) (h : frame_Write.f a0_0 a0_1 a0_2 l0_3 a0_4 a0_5 a0_6 = some (r1, r2)) :
  Calls Try.prog 19 #[.agg #[.int .i64 a0_0, .int .i64 a0_1, .int .i64 a0_2, .slice A0_3 l0_3.length c0_3, .int .i64 a0_4, .int .i64 a0_5, .int .i64 a0_6]] w fun e w' => ∃ v0_ : Value, e = .returned (.tuple #[v0_, .int .i64 r2]) ∧ Kd.R (Kd.int .u8) 5 w' w.heap.size (fun _ => True) v0_ r1 ∧ Below w.heap.size w w' :=
 frame_Write_p.calls a0_0 a0_1 a0_2 A0_3 c0_3 l0_3 a0_4 a0_5 a0_6 r1 r2 w hr0_3 hc0_3 (frame_Write.closes h)
def stPut (go ge gm : Nat) (vo : Value) : Nat → Prop := fun k => k = go ∨ k = ge ∨ k = gm ∨ some k = vo.ownBlock
set_option maxHeartbeats 4000000 in
set_option maxRecDepth 2000000 in
theorem stream_Write_1.calls (go ge gm b0 : Nat) (vo : Value) (xs : List Int) (many k a n : Int) (A : Option Addr) (c : Nat) (d : List Int) (x y z : Int) (r1 : List Int) (w : World)
  (hgo : w.heap[go]? = some (.cells #[vo] 27 (0, 0))) (hge : w.heap[ge]? = some (.cells #[.int .i64 0] 28 (0, 0))) (hgm : w.heap[gm]? = some (.cells #[.int .i64 many] 3 (0, 0))) (b1 : b0 ≤ go) (b2 : b0 ≤ ge) (b3 : b0 ≤ gm)
  (hxs : Kd.R (Kd.int .u8) 5 w b0 (fun _ => True) vo xs) (hr : Kd.C (Kd.int .u8) w A d.length d) (hc : d.length ≤ c) (h : frame_Write.f k a n d x y z = some (r1, 0)) (hl : xs.length + r1.length < 140737488355328) :
  Calls Try.prog 33 #[.agg #[.int .i64 k, .int .i64 a, .int .i64 n, .slice A d.length c, .int .i64 x, .int .i64 y, .int .i64 z], .pointer (some ⟨go, 0, none⟩), .pointer (some ⟨ge, 0, none⟩), .pointer (some ⟨gm, 0, none⟩)] w fun e w' => (∃ u, e = .returned u) ∧ ∃ v1, w'.heap[go]? = some (.cells #[v1] 27 (0, 0)) ∧ w'.heap[ge]? = some (.cells #[.int .i64 0] 28 (0, 0)) ∧ w'.heap[gm]? = some (.cells #[.int .i64 (wrap64 (many + 1))] 3 (0, 0)) ∧ Kd.R (Kd.int .u8) 5 w' b0 (fun _ => True) v1 (xs ++ r1) ∧ Below b0 w w' ∧ Kept w w' (stPut go ge gm vo) := by
 have hu0 := Try.underlying38
 have BO := Aside0.mk hgo
 have BE := Aside0.mk hge
 have BM := Aside0.mk hgm
 have B1 := Aside0.mk b1
 have B2 := Aside0.mk b2
 have B3 := Aside0.mk b3
 have HO := Aside0.mk hxs
 have HR := Aside0.mk hr
 have HC := Aside0.mk hc
 have H := Aside0.mk h
 have HL := Aside0.mk hl
 have HB := Aside0.mk (Below.refl b0 w)
 have HK := Aside0.mk (Kept.refl w (stPut go ge gm vo))
 have NE := Aside0.mk (show go ≠ ge from blk_ne BO.out BE.out (by decide))
 have NM := Aside0.mk (show go ≠ gm from blk_ne BO.out BM.out (by decide))
 have NX := Aside0.mk (show ge ≠ gm from blk_ne BE.out BM.out (by decide))
 obtain ⟨ys, hy⟩ : ∃ ys, ys = xs ++ r1 := ⟨_, rfl⟩
 have NY := Aside0.mk hy
 clear hy
 clear hgo hge hgm b1 b2 b3 hxs hr hc h hl
 have hS := Aside0.mk (show b0 ≤ w.heap.size from Nat.le_of_lt (Nat.lt_of_le_of_lt B1.out (blk_lt BO.out)))
 go_enter Try.func33, Try.ntmps33
 go_wp2_with (first | ((with_reducible refine gate_dst (N := 4) rfl ?_); refine Cz.bx (N := 4) #[.int .i64 k, .int .i64 a, .int .i64 n, .slice A d.length c, .int .i64 x, .int .i64 y, .int .i64 z] 38 ?_; intro gf hg w1 hbox hb; clear hg; have m_BO := Aside0.mk (blk_below BO.out hb); have m_BE := Aside0.mk (blk_below BE.out hb); have m_BM := Aside0.mk (blk_below BM.out hb); have m_HO := Aside0.mk (Kd.R_below HO.out hb); have m_HR := Aside0.mk (Kd.C_below HR.out hb); have m_HB := Aside0.mk (below_then HB.out hS.out hb); have m_HK := Aside0.mk (HK.out.below hb); have m_hS := Aside0.mk (Nat.le_trans hS.out hb.size); clear BO BE BM HO HR HB HK hS; have BO := m_BO; have BE := m_BE; have BM := m_BM; have HO := m_HO; have HR := m_HR; have HB := m_HB; have HK := m_HK; have hS := m_hS; clear m_BO m_BE m_BM m_HO m_HR m_HB m_HK m_hS; have BF := Aside0.mk hbox; clear hbox hb; obtain ⟨hcz0, hcz1, hcz2, hcz3, hcz4, hcz5, hcz6, hfz0, hfz1, hfz2, hfz3, hfz4, hfz5, hfz6⟩ := Cz.d7 BF))
 refine (frame_Write.calls k a n A c d x y z r1 0 _ HR.out HC.out H.out).mono ?_
 rintro e' w2 ⟨v, rfl, ho, hb⟩
 obtain ⟨Ab, cb, rfl⟩ := Kd.R_slice ho
 have m_BO := Aside0.mk (blk_below BO.out hb)
 have m_BE := Aside0.mk (blk_below BE.out hb)
 have m_BM := Aside0.mk (blk_below BM.out hb)
 have m_HO := Aside0.mk (Kd.R_elder' HO.out (Kd.R_base ho) hb)
 have m_HB := Aside0.mk (below_then HB.out hS.out hb)
 have m_HK := Aside0.mk (HK.out.below hb)
 have m_hS := Aside0.mk (Nat.le_trans hS.out hb.size)
 clear BO BE BM HO HB HK hS
 have BO := m_BO
 have BE := m_BE
 have BM := m_BM
 have HO := m_HO
 have HB := m_HB
 have HK := m_HK
 have hS := m_hS
 clear m_BO m_BE m_BM m_HO m_HB m_HK m_hS
 have HOb := Aside0.mk ho
 clear ho hb BF HR HC H hcz0 hfz0 hcz1 hfz1 hcz2 hfz2 hcz3 hfz3 hcz4 hfz4 hcz5 hfz5 hcz6 hfz6
 go_wp2_with fail
 have m_BO := Aside0.mk (blk_drew BO.out)
 have m_BE := Aside0.mk (blk_drew BE.out)
 have m_BM := Aside0.mk (blk_drew BM.out)
 have m_HO := Aside0.mk (Kd.R_drew HO.out)
 have m_HOb := Aside0.mk (Kd.R_drew HOb.out)
 have m_HB := Aside0.mk (below_drew HB.out)
 have m_HK := Aside0.mk (HK.out.drew)
 have m_hS := Aside0.mk (show b0 ≤ w2.drew.heap.size from hS.out)
 clear BO BE BM HO HOb HB HK hS
 have BO := m_BO
 have BE := m_BE
 have BM := m_BM
 have HO := m_HO
 have HOb := m_HOb
 have HB := m_HB
 have HK := m_HK
 have hS := m_hS
 clear m_BO m_BE m_BM m_HO m_HOb m_HB m_HK m_hS
 refine Cz.s1 (n := 8) (ds := [7]) BE (fun hHeld => ?_)
 generalize w2.drew = wq at BO BE BM HO HOb HB HK hS hHeld ⊢
 have hco : wq.cell? ⟨go, 0, none⟩ = some vo := (blk_cell BO.out 0).trans rfl
 have hfo := blk_frozen BO.out 0
 refine Cz.rP 1 13 ?_
 refine Cz.rP 4 16 ?_
 refine Cz.rT 3 15 hHeld ?_
 refine Cz.rP 5 17 ?_
 refine Cz.rO (N := some 12) 0 (fun K hK => ?_)
 refine value_ (w1 := ?_) (v := ?_) (by rfl) rfl ?_ ?_
 rotate_left 2
 ·go_simp
  constructor
  ·rfl
  ·rfl
 refine hK.out _ _ (((blk_cell BE.out 0).trans rfl)) (fun hHeld => ?_)
 clear hK K
 refine Cz.nm (some 12) ?_
 refine Cz.rO (N := some 14) 2 (fun K hK => ?_)
 refine Kd.R_append_rows_step (Kd.int .u8) (w0 := w) b0 (by rfl) (.tmp 12) (.tmp 13) 27 5 (.int .u8 0) 1 rfl Try.underlying27 info5 rfl (by decide) (by omega) vo xs r1 _ _ _ (fun k_ => True ∧ some k_ ≠ (.slice Ab r1.length cb : Value).ownBlock) (fun _ => False) rfl rfl HO.out (Kd.R_reads' HOb.out).2.2 (fun _ _ h => h) (fun _ h => h.elim) (fun k_ hk => ⟨trivial, Kd.fresh' (Kd.R_lt HOb.out) k_ hk⟩) HB.out hS.out (by have := HL.out; omega) ?_
 intro v1 w3 ho hb hg hat
 rw [← NY.out] at ho
 obtain ⟨A1, c1, e1⟩ := Kd.R_slice ho
 subst e1
 have m_BO := Aside0.mk (blk_grown BO.out hg (Kd.R_ne HO.out BO.out (by decide)))
 have m_BE := Aside0.mk (blk_grown BE.out hg (Kd.R_ne HO.out BE.out (by decide)))
 have m_BM := Aside0.mk (blk_grown BM.out hg (Kd.R_ne HO.out BM.out (by decide)))
 have m_HK := Aside0.mk (HK.out.of_grown hg (fun k_ hk => .inl (.inr (.inr (.inr hk.symm)))))
 have m_HB := Aside0.mk (hb)
 have m_HO := Aside0.mk (ho)
 clear BO BE BM HK HB HO
 have BO := m_BO
 have BE := m_BE
 have BM := m_BM
 have HK := m_HK
 have HB := m_HB
 have HO := m_HO
 clear m_BO m_BE m_BM m_HK m_HB m_HO
 clear ho hb hg hat hco hfo
 have hco : w3.cell? ⟨go, 0, none⟩ = some vo := (blk_cell BO.out 0).trans rfl
 have hfo := blk_frozen BO.out 0
 obtain ⟨hce, hfe⟩ := Cz.d1 BE
 have hn0 := NE.out
 have hn1 := NE.out.symm
 refine hK.out _ _ (((blk_cell BE.out 0).trans rfl)) (fun hHeld => ?_)
 clear hK K
 refine Cz.nm (some 14) ?_
 refine Cz.rO (N := none) 6 (fun K hK => ?_)
 refine skip_ (w1 := ?_) (by rfl) rfl ?_ ?_
 rotate_left
 ·go_simp
  rfl
 refine hK.out _ _ (((blk_cell (blk_far BE.out (p := ⟨go, 0, none⟩) NE.out.symm _) 0).trans rfl)) (fun hHeld => ?_)
 clear hK K
 refine Cz.rL (N := none) 7 (fun K hK => ?_)
 refine skip_ (w1 := ?_) (by rfl) rfl ?_ ?_
 rotate_left
 ·go_simp
  rfl
 refine hK.out _ _ ?_
 clear hK K
 refine done_ (by kernel_rfl) ?_
 clear hHeld
 have p1 : Aside0 (((w3.setCell ⟨go, 0, none⟩ (.slice A1 ys.length c1)).setCell ⟨ge, 0, none⟩ (.int .i64 0)).heap[go]? = some (.cells #[.slice A1 ys.length c1] 27 (0, 0))) := ⟨blk_far (blk_put BO.out 0 _ rfl) (p := ⟨ge, 0, none⟩) NE.out _⟩
 have p2 : Aside0 (((w3.setCell ⟨go, 0, none⟩ (.slice A1 ys.length c1)).setCell ⟨ge, 0, none⟩ (.int .i64 0)).heap[ge]? = some (.cells #[.int .i64 0] 28 (0, 0))) := ⟨blk_put (blk_far BE.out (p := ⟨go, 0, none⟩) NE.out.symm _) 0 _ rfl⟩
 have p3 : Aside0 (((w3.setCell ⟨go, 0, none⟩ (.slice A1 ys.length c1)).setCell ⟨ge, 0, none⟩ (.int .i64 0)).heap[gm]? = some (.cells #[.int .i64 many] 3 (0, 0))) := ⟨blk_far (blk_far BM.out (p := ⟨go, 0, none⟩) NM.out.symm _) (p := ⟨ge, 0, none⟩) NX.out.symm _⟩
 have p4 : Aside0 (Below b0 w ((w3.setCell ⟨go, 0, none⟩ (.slice A1 ys.length c1)).setCell ⟨ge, 0, none⟩ (.int .i64 0))) := ⟨(HB.out.setCell (p := ⟨go, 0, none⟩) B1.out _).setCell (p := ⟨ge, 0, none⟩) B2.out _⟩
 have p0 : Aside0 (Kd.R (Kd.int .u8) 5 ((w3.setCell ⟨go, 0, none⟩ (.slice A1 ys.length c1)).setCell ⟨ge, 0, none⟩ (.int .i64 0)) b0 (fun _ => True) (.slice A1 ys.length c1) ys) := ⟨Kd.R_mono (Kd.R_far (p := ⟨ge, 0, none⟩) (Kd.R_types (Kd.R_far (p := ⟨go, 0, none⟩) (Kd.R_types HO.out BO.out (by decide)) (fun _ hk => hk.2) _) (blk_far BE.out (p := ⟨go, 0, none⟩) NE.out.symm _) (by decide)) (fun _ hk => hk.2) _) (fun _ _ => trivial)⟩
 have p5 : Aside0 (Kept w ((w3.setCell ⟨go, 0, none⟩ (.slice A1 ys.length c1)).setCell ⟨ge, 0, none⟩ (.int .i64 0)) (stPut go ge gm vo)) := ⟨(HK.out.setCell (p := ⟨go, 0, none⟩) (.inl (.inl rfl)) _).setCell (p := ⟨ge, 0, none⟩) (.inl (.inr (.inl rfl))) _⟩
 generalize ((w3.setCell ⟨go, 0, none⟩ (.slice A1 ys.length c1)).setCell ⟨ge, 0, none⟩ (.int .i64 0)) = w4 at p1 p2 p3 p4 p0 p5 ⊢
 clear BO BE BM HO HOb HB HK
 obtain ⟨hcm, hfm⟩ := Cz.d1 p3
 go_wp2
 go_end0
 rw [← NY.out]
 exact ⟨⟨_, rfl⟩, _, blk_far p1.out (p := ⟨gm, 0, none⟩) NM.out _, blk_far p2.out (p := ⟨gm, 0, none⟩) NX.out _, blk_put p3.out 0 _ rfl, Kd.R_mono (Kd.R_far (p := ⟨gm, 0, none⟩) (Kd.R_types p0.out p3.out (by decide)) (fun _ hk => hk.2) _) (fun _ _ => trivial), p4.out.setCell (p := ⟨gm, 0, none⟩) B3.out _, p5.out.setCell (p := ⟨gm, 0, none⟩) (.inl (.inr (.inr (.inl rfl)))) _⟩
end Go.Proofs.Ytohkmmbmfhficaa.PT
