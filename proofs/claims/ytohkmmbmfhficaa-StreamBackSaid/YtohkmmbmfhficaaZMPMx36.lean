/- Words and walks that this claim names, of those that the kit's print and programs of this workplace have printed. -/
import Derived.Test.YtohkmmbmfhficaaZMCz
import Derived.Test.YtohkmmbmfhficaaZMPMx5
import Derived.Test.YtohkmmbmfhficaaZMPMx13
import Derived.Test.YtohkmmbmfhficaaZMPMx38
import Derived.Test.YtohkmmbmfhficaaZMPMx45
namespace Go.Proofs.Ytohkmmbmfhficaa.PM
open Go.Proofs.Ytohkmmbmfhficaa Go.RowKit Go.Proofs.YtohkmmbmfhficaaW.PrintWords Go.Proofs.YtohkmmbmfhficaaW.PrintLast Go.Proofs.YtohkmmbmfhficaaW.PrintMore
attribute [local go_sem] max2_int min2_int max_two min_two max_three min_three max_four min_four
set_option linter.unusedVariables false
set_option linter.unusedSimpArgs false
set_option maxRecDepth 100000 in
set_option maxHeartbeats 2000000 in
theorem frame_Check.head (a n : Int) (A3 : Option Addr) (c3 : Nat) (d : List Int) (A B C : Int) (t1 t2 : Bool) (w : World) (hr : Kd.C (Kd.int .u8) w A3 d.length d) (hc : d.length ≤ c3) (hm : frame_head_may.f A B C = some t1) (hs : t1 = true → frame_same.f 1 0 0 [] A B C 1 a n d A B C = some t2) : Calls Try.prog 24 #[.agg #[.int .i64 1, .int .i64 a, .int .i64 n, .slice A3 d.length c3, .int .i64 A, .int .i64 B, .int .i64 C]] w fun e w' => e = .returned (.bool (t1 && t2)) ∧ Below w.heap.size w w' := by
 have hu0 := Try.underlying38
 have HR3 := Aside0.mk hr
 have HC3 := Aside0.mk hc
 have HB := Aside0.mk (Below.refl w.heap.size w)
 clear hr hc
 have HM := Aside0.mk hm
 have HS := Aside0.mk hs
 clear hm hs
 have hv : ofV 1 a n A3 d.length c3 A B C = .iface 93 (.agg #[.int .i64 A, .int .i64 B, .int .i64 C]) := rfl
 have HV := Aside0.mk hv
 clear hv
 go_enter Try.func24, Try.ntmps24
 go_upto_region 1 with ((with_reducible refine gate_dst (N := 1) rfl ?_); refine Cz.bx (N := 1) #[.int .i64 1, .int .i64 a, .int .i64 n, .slice A3 d.length c3, .int .i64 A, .int .i64 B, .int .i64 C] 38 ?_; intro gc hg w1 hbox hb; have BKc := Aside0.mk hbox; replace HR3 := Aside0.mk (Kd.C_below HR3.out hb); replace HB := Cz.bs (w := w) hb; clear hb hbox hg; obtain ⟨hcz0, hcz1, hcz2, hcz3, hcz4, hcz5, hcz6⟩ := Cz.c7 BKc)
 go_upto_region 2 with (go_at_call 38; refine (frame_of.calls _ _ _ _ _ _ _ _ _ _).mono ?_; rintro e w2 ⟨rfl, hb⟩; rw [HV.out]; replace BKc := Cz.bk BKc hb; replace HR3 := Aside0.mk (Kd.C_below HR3.out hb); replace HB := Cz.bs (w := w) hb; clear hb; clear hcz0 hcz1 hcz2 hcz3 hcz4 hcz5 hcz6)
 cases t1 with
 | false =>
  replace BKc := Aside0.mk (blk_drew BKc.out)
  replace HR3 := Aside0.mk (Kd.C_drew HR3.out)
  replace HB := Aside0.mk (below_drew HB.out)
  refine start_ (n := 15) (S := fun w' => w'.cell? ⟨gc, 0, none⟩ = some (.int .i64 1) ∧ w'.cell? ⟨gc, 1, none⟩ = some (.int .i64 a) ∧ w'.cell? ⟨gc, 2, none⟩ = some (.int .i64 n) ∧ w'.cell? ⟨gc, 3, none⟩ = some (.slice A3 d.length c3) ∧ w'.cell? ⟨gc, 4, none⟩ = some (.int .i64 A) ∧ w'.cell? ⟨gc, 5, none⟩ = some (.int .i64 B) ∧ w'.cell? ⟨gc, 6, none⟩ = some (.int .i64 C)) (ds := []) #[false, false, false, false, false, false, false, false, false, false, false, false, false, false, false] (by kernel_rfl) rfl rfl ⟨((blk_cell BKc.out 0).trans rfl), ((blk_cell BKc.out 1).trans rfl), ((blk_cell BKc.out 2).trans rfl), ((blk_cell BKc.out 3).trans rfl), ((blk_cell BKc.out 4).trans rfl), ((blk_cell BKc.out 5).trans rfl), ((blk_cell BKc.out 6).trans rfl)⟩ (fun hHeld => ?_)
  generalize w2.drew = wd at HB BKc HR3 hHeld ⊢
  refine Cz.rP 0 6 ?_
  refine Cz.rP 1 7 ?_
  refine Cz.rP 2 8 ?_
  refine Cz.rP 3 9 ?_
  refine Cz.rO (N := some 10) 4 (fun K hK => ?_)
  refine call_ 109 #[.agg #[.int .i64 A, .int .i64 B, .int .i64 C]] (by rfl) rfl (by kernel_rfl) ?_
  refine (frame_head_may.calls _ _ _ _ _ HM.out).mono ?_
  rintro e wm ⟨rfl, hb⟩
  refine ⟨_, rfl, ?_⟩
  replace BKc := Cz.bk BKc hb
  replace HR3 := Aside0.mk (Kd.C_below HR3.out hb)
  replace HB := Cz.bs (w := w) hb
  clear hb
  refine hK.out _ _ ⟨((blk_cell BKc.out 0).trans rfl), ((blk_cell BKc.out 1).trans rfl), ((blk_cell BKc.out 2).trans rfl), ((blk_cell BKc.out 3).trans rfl), ((blk_cell BKc.out 4).trans rfl), ((blk_cell BKc.out 5).trans rfl), ((blk_cell BKc.out 6).trans rfl)⟩ (fun hHeld => ?_)
  clear hK K
  refine norm_ (a' := ?_) ?_ ?_
  rotate_left
  ·show Act.put _ (some 10) _ = _
   simp only [Act.put, Kx.sb, Kx.sz, Kx.ss, i64_w, i32_w]
   rfl
  refine Cz.rP 5 11 ?_
  refine Cz.rP 6 12 ?_
  refine Cz.rU 7 13 ?_
  refine Cz.rU 8 14 ?_
  refine Cz.rU 9 15 ?_
  refine Cz.rU 10 16 ?_
  refine Cz.rU 11 17 ?_
  refine Cz.rU 12 18 ?_
  refine Cz.rP 13 19 ?_
  refine Cz.rP 14 2 ?_
  refine done_ (by kernel_rfl) ?_
  clear hHeld
  go_wp2_with fail
  go_ret
  exact ⟨rfl, HB.out⟩
 | true =>
  replace BKc := Aside0.mk (blk_drew BKc.out)
  replace HR3 := Aside0.mk (Kd.C_drew HR3.out)
  replace HB := Aside0.mk (below_drew HB.out)
  refine start_ (n := 15) (S := fun w' => w'.cell? ⟨gc, 0, none⟩ = some (.int .i64 1) ∧ w'.cell? ⟨gc, 1, none⟩ = some (.int .i64 a) ∧ w'.cell? ⟨gc, 2, none⟩ = some (.int .i64 n) ∧ w'.cell? ⟨gc, 3, none⟩ = some (.slice A3 d.length c3) ∧ w'.cell? ⟨gc, 4, none⟩ = some (.int .i64 A) ∧ w'.cell? ⟨gc, 5, none⟩ = some (.int .i64 B) ∧ w'.cell? ⟨gc, 6, none⟩ = some (.int .i64 C)) (ds := []) #[false, false, false, false, false, false, false, false, false, false, false, false, false, false, false] (by kernel_rfl) rfl rfl ⟨((blk_cell BKc.out 0).trans rfl), ((blk_cell BKc.out 1).trans rfl), ((blk_cell BKc.out 2).trans rfl), ((blk_cell BKc.out 3).trans rfl), ((blk_cell BKc.out 4).trans rfl), ((blk_cell BKc.out 5).trans rfl), ((blk_cell BKc.out 6).trans rfl)⟩ (fun hHeld => ?_)
  generalize w2.drew = wd at HB BKc HR3 hHeld ⊢
  refine Cz.rP 0 6 ?_
  refine Cz.rP 1 7 ?_
  refine Cz.rP 2 8 ?_
  refine Cz.rP 3 9 ?_
  refine Cz.rO (N := some 10) 4 (fun K hK => ?_)
  refine call_ 109 #[.agg #[.int .i64 A, .int .i64 B, .int .i64 C]] (by rfl) rfl (by kernel_rfl) ?_
  refine (frame_head_may.calls _ _ _ _ _ HM.out).mono ?_
  rintro e wm ⟨rfl, hb⟩
  refine ⟨_, rfl, ?_⟩
  replace BKc := Cz.bk BKc hb
  replace HR3 := Aside0.mk (Kd.C_below HR3.out hb)
  replace HB := Cz.bs (w := w) hb
  clear hb
  refine hK.out _ _ ⟨((blk_cell BKc.out 0).trans rfl), ((blk_cell BKc.out 1).trans rfl), ((blk_cell BKc.out 2).trans rfl), ((blk_cell BKc.out 3).trans rfl), ((blk_cell BKc.out 4).trans rfl), ((blk_cell BKc.out 5).trans rfl), ((blk_cell BKc.out 6).trans rfl)⟩ (fun hHeld => ?_)
  clear hK K
  refine norm_ (a' := ?_) ?_ ?_
  rotate_left
  ·show Act.put _ (some 10) _ = _
   simp only [Act.put, Kx.sb, Kx.sz, Kx.ss, i64_w, i32_w]
   rfl
  refine Cz.rP 5 11 ?_
  refine Cz.rP 6 12 ?_
  refine Cz.rP 7 13 ?_
  refine Cz.rP 9 15 ?_
  refine take_ (i := 8) (N := some 14) (v := ?_) (a' := ?_) #[true, true, true, true, true, true, true, true, true, true, false, false, false, false, false] rfl rfl (by kernel_rfl) (fun _ _ _ h => h) (Or.inl ⟨by rfl, ?_⟩) hHeld ?_ ?_
  rotate_left
  ·rintro w' ⟨s0, s1, s2, s3, s4, s5, s6⟩
   go_simp
   with_reducible rfl
  rotate_left
  ·simp only [Act.put, Kx.sb, Kx.sz, Kx.ss, i64_w, i32_w]
   rfl
  refine take_ (i := 11) (N := some 17) (v := ?_) (a' := ?_) #[true, true, true, true, true, true, true, true, true, true, false, true, false, false, false] rfl rfl (by kernel_rfl) (fun _ _ _ h => h) (Or.inl ⟨by rfl, ?_⟩) hHeld ?_ ?_
  rotate_left
  ·rintro w' ⟨s0, s1, s2, s3, s4, s5, s6⟩
   go_simp
   with_reducible rfl
  rotate_left
  ·simp only [Act.put, Kx.sb, Kx.sz, Kx.ss, i64_w, i32_w]
   rfl
  refine Cz.rO (N := some 16) 10 (fun K hK => ?_)
  refine goes_ Try.func47 (by kernel_rfl) rfl #[.int .i64 1, .iface 93 (.agg #[.int .i64 A, .int .i64 B, .int .i64 C])] (by rfl) rfl rfl (by simp only [List.map_toArray, List.map_cons, List.map_nil]; rfl) ?_
  refine (frame_framed.head _ _ _ _ _).mono ?_
  rintro e wf ⟨rfl, hb⟩
  refine ⟨_, rfl, ?_⟩
  replace BKc := Cz.bk BKc hb
  replace HR3 := Aside0.mk (Kd.C_below HR3.out hb)
  replace HB := Cz.bs (w := w) hb
  clear hb
  refine hK.out _ _ ⟨((blk_cell BKc.out 0).trans rfl), ((blk_cell BKc.out 1).trans rfl), ((blk_cell BKc.out 2).trans rfl), ((blk_cell BKc.out 3).trans rfl), ((blk_cell BKc.out 4).trans rfl), ((blk_cell BKc.out 5).trans rfl), ((blk_cell BKc.out 6).trans rfl)⟩ (fun hHeld => ?_)
  clear hK K
  refine norm_ (a' := ?_) ?_ ?_
  rotate_left
  ·show Act.put _ (some 16) _ = _
   simp only [Act.put, Kx.sb, Kx.sz, Kx.ss, i64_w, i32_w]
   rfl
  refine Cz.rO (N := some 18) 12 (fun K hK => ?_)
  refine goes_ Try.func49 (by kernel_rfl) rfl #[.agg #[.int .i64 1, .int .i64 0, .int .i64 0, .slice none 0 0, .int .i64 A, .int .i64 B, .int .i64 C], .agg #[.int .i64 1, .int .i64 a, .int .i64 n, .slice A3 d.length c3, .int .i64 A, .int .i64 B, .int .i64 C]] (by rfl) rfl rfl (by simp only [List.map_toArray, List.map_cons, List.map_nil]; rfl) ?_
  refine (frame_same.calls 1 0 0 none 0 [] A B C 1 a n A3 c3 d A B C t2 _ (Kd.C_nil _ _) (Nat.le_refl _) HR3.out HC3.out (HS.out rfl)).mono ?_
  rintro e ws ⟨rfl, hb⟩
  refine ⟨_, rfl, ?_⟩
  replace BKc := Cz.bk BKc hb
  replace HR3 := Aside0.mk (Kd.C_below HR3.out hb)
  replace HB := Cz.bs (w := w) hb
  clear hb
  refine hK.out _ _ ⟨((blk_cell BKc.out 0).trans rfl), ((blk_cell BKc.out 1).trans rfl), ((blk_cell BKc.out 2).trans rfl), ((blk_cell BKc.out 3).trans rfl), ((blk_cell BKc.out 4).trans rfl), ((blk_cell BKc.out 5).trans rfl), ((blk_cell BKc.out 6).trans rfl)⟩ (fun hHeld => ?_)
  clear hK K
  refine norm_ (a' := ?_) ?_ ?_
  rotate_left
  ·show Act.put _ (some 18) _ = _
   simp only [Act.put, Kx.sb, Kx.sz, Kx.ss, i64_w, i32_w]
   rfl
  refine Cz.rP 13 19 ?_
  refine Cz.rP 14 2 ?_
  refine done_ (by kernel_rfl) ?_
  clear hHeld
  go_wp2_with fail
  go_ret
  exact ⟨rfl, HB.out⟩
set_option maxRecDepth 100000 in
set_option maxHeartbeats 2000000 in
theorem frame_Check.blocks (kk_ : Nat) (k : Int) (a n : Int) (A3 : Option Addr) (c3 : Nat) (d : List Int) (A B C : Int) (t1 t2 : Bool) (w : World) (hr : Kd.C (Kd.int .u8) w A3 d.length d) (hc : d.length ≤ c3) (hk : k = 2 ∨ k = 3 ∨ k = 4) (hm : frame_blocks_may.f kk_ k a n d = some t1) (hs : t1 = true → frame_same.f k a n d 0 0 0 k a n d A B C = some t2) : Calls Try.prog 24 #[.agg #[.int .i64 k, .int .i64 a, .int .i64 n, .slice A3 d.length c3, .int .i64 A, .int .i64 B, .int .i64 C]] w fun e w' => e = .returned (.bool (t1 && t2)) ∧ Below w.heap.size w w' := by
 have hu0 := Try.underlying38
 have HR3 := Aside0.mk hr
 have HC3 := Aside0.mk hc
 have HB := Aside0.mk (Below.refl w.heap.size w)
 clear hr hc
 have HM := Aside0.mk hm
 have HS := Aside0.mk hs
 clear hm hs
 have hv : ofV k a n A3 d.length c3 A B C = .iface 95 (.agg #[.int .i64 k, .int .i64 a, .int .i64 n, .slice A3 d.length c3]) := by unfold ofV; rw [if_neg (by omega), if_pos hk]
 have HV := Aside0.mk hv
 clear hv hk
 go_enter Try.func24, Try.ntmps24
 go_upto_region 1 with ((with_reducible refine gate_dst (N := 1) rfl ?_); refine Cz.bx (N := 1) #[.int .i64 k, .int .i64 a, .int .i64 n, .slice A3 d.length c3, .int .i64 A, .int .i64 B, .int .i64 C] 38 ?_; intro gc hg w1 hbox hb; have BKc := Aside0.mk hbox; replace HR3 := Aside0.mk (Kd.C_below HR3.out hb); replace HB := Cz.bs (w := w) hb; clear hb hbox hg; obtain ⟨hcz0, hcz1, hcz2, hcz3, hcz4, hcz5, hcz6⟩ := Cz.c7 BKc)
 go_upto_region 2 with (go_at_call 38; refine (frame_of.calls _ _ _ _ _ _ _ _ _ _).mono ?_; rintro e w2 ⟨rfl, hb⟩; rw [HV.out]; replace BKc := Cz.bk BKc hb; replace HR3 := Aside0.mk (Kd.C_below HR3.out hb); replace HB := Cz.bs (w := w) hb; clear hb; clear hcz0 hcz1 hcz2 hcz3 hcz4 hcz5 hcz6)
 cases t1 with
 | false =>
  replace BKc := Aside0.mk (blk_drew BKc.out)
  replace HR3 := Aside0.mk (Kd.C_drew HR3.out)
  replace HB := Aside0.mk (below_drew HB.out)
  refine start_ (n := 15) (S := fun w' => w'.cell? ⟨gc, 0, none⟩ = some (.int .i64 k) ∧ w'.cell? ⟨gc, 1, none⟩ = some (.int .i64 a) ∧ w'.cell? ⟨gc, 2, none⟩ = some (.int .i64 n) ∧ w'.cell? ⟨gc, 3, none⟩ = some (.slice A3 d.length c3) ∧ w'.cell? ⟨gc, 4, none⟩ = some (.int .i64 A) ∧ w'.cell? ⟨gc, 5, none⟩ = some (.int .i64 B) ∧ w'.cell? ⟨gc, 6, none⟩ = some (.int .i64 C)) (ds := []) #[false, false, false, false, false, false, false, false, false, false, false, false, false, false, false] (by kernel_rfl) rfl rfl ⟨((blk_cell BKc.out 0).trans rfl), ((blk_cell BKc.out 1).trans rfl), ((blk_cell BKc.out 2).trans rfl), ((blk_cell BKc.out 3).trans rfl), ((blk_cell BKc.out 4).trans rfl), ((blk_cell BKc.out 5).trans rfl), ((blk_cell BKc.out 6).trans rfl)⟩ (fun hHeld => ?_)
  generalize w2.drew = wd at HB BKc HR3 hHeld ⊢
  refine Cz.rP 0 6 ?_
  refine Cz.rP 1 7 ?_
  refine Cz.rP 2 8 ?_
  refine Cz.rP 3 9 ?_
  refine Cz.rO (N := some 10) 4 (fun K hK => ?_)
  refine call_ 112 #[.agg #[.int .i64 k, .int .i64 a, .int .i64 n, .slice A3 d.length c3]] (by rfl) rfl (by kernel_rfl) ?_
  refine (frame_blocks_may.calls kk_ _ _ _ (fun k_ => k_ < _) _ _ d _ _ (Kx.V_of_C _ _ HC3.out HR3.out) HM.out).mono ?_
  rintro e wm ⟨rfl, hb⟩
  refine ⟨_, rfl, ?_⟩
  replace BKc := Cz.bk BKc hb
  replace HR3 := Aside0.mk (Kd.C_below HR3.out hb)
  replace HB := Cz.bs (w := w) hb
  clear hb
  refine hK.out _ _ ⟨((blk_cell BKc.out 0).trans rfl), ((blk_cell BKc.out 1).trans rfl), ((blk_cell BKc.out 2).trans rfl), ((blk_cell BKc.out 3).trans rfl), ((blk_cell BKc.out 4).trans rfl), ((blk_cell BKc.out 5).trans rfl), ((blk_cell BKc.out 6).trans rfl)⟩ (fun hHeld => ?_)
  clear hK K
  refine norm_ (a' := ?_) ?_ ?_
  rotate_left
  ·show Act.put _ (some 10) _ = _
   simp only [Act.put, Kx.sb, Kx.sz, Kx.ss, i64_w, i32_w]
   rfl
  refine Cz.rP 5 11 ?_
  refine Cz.rP 6 12 ?_
  refine Cz.rU 7 13 ?_
  refine Cz.rU 8 14 ?_
  refine Cz.rU 9 15 ?_
  refine Cz.rU 10 16 ?_
  refine Cz.rU 11 17 ?_
  refine Cz.rU 12 18 ?_
  refine Cz.rP 13 19 ?_
  refine Cz.rP 14 2 ?_
  refine done_ (by kernel_rfl) ?_
  clear hHeld
  go_wp2_with fail
  go_ret
  exact ⟨rfl, HB.out⟩
 | true =>
  replace BKc := Aside0.mk (blk_drew BKc.out)
  replace HR3 := Aside0.mk (Kd.C_drew HR3.out)
  replace HB := Aside0.mk (below_drew HB.out)
  refine start_ (n := 15) (S := fun w' => w'.cell? ⟨gc, 0, none⟩ = some (.int .i64 k) ∧ w'.cell? ⟨gc, 1, none⟩ = some (.int .i64 a) ∧ w'.cell? ⟨gc, 2, none⟩ = some (.int .i64 n) ∧ w'.cell? ⟨gc, 3, none⟩ = some (.slice A3 d.length c3) ∧ w'.cell? ⟨gc, 4, none⟩ = some (.int .i64 A) ∧ w'.cell? ⟨gc, 5, none⟩ = some (.int .i64 B) ∧ w'.cell? ⟨gc, 6, none⟩ = some (.int .i64 C)) (ds := []) #[false, false, false, false, false, false, false, false, false, false, false, false, false, false, false] (by kernel_rfl) rfl rfl ⟨((blk_cell BKc.out 0).trans rfl), ((blk_cell BKc.out 1).trans rfl), ((blk_cell BKc.out 2).trans rfl), ((blk_cell BKc.out 3).trans rfl), ((blk_cell BKc.out 4).trans rfl), ((blk_cell BKc.out 5).trans rfl), ((blk_cell BKc.out 6).trans rfl)⟩ (fun hHeld => ?_)
  generalize w2.drew = wd at HB BKc HR3 hHeld ⊢
  refine Cz.rP 0 6 ?_
  refine Cz.rP 1 7 ?_
  refine Cz.rP 2 8 ?_
  refine Cz.rP 3 9 ?_
  refine Cz.rO (N := some 10) 4 (fun K hK => ?_)
  refine call_ 112 #[.agg #[.int .i64 k, .int .i64 a, .int .i64 n, .slice A3 d.length c3]] (by rfl) rfl (by kernel_rfl) ?_
  refine (frame_blocks_may.calls kk_ _ _ _ (fun k_ => k_ < _) _ _ d _ _ (Kx.V_of_C _ _ HC3.out HR3.out) HM.out).mono ?_
  rintro e wm ⟨rfl, hb⟩
  refine ⟨_, rfl, ?_⟩
  replace BKc := Cz.bk BKc hb
  replace HR3 := Aside0.mk (Kd.C_below HR3.out hb)
  replace HB := Cz.bs (w := w) hb
  clear hb
  refine hK.out _ _ ⟨((blk_cell BKc.out 0).trans rfl), ((blk_cell BKc.out 1).trans rfl), ((blk_cell BKc.out 2).trans rfl), ((blk_cell BKc.out 3).trans rfl), ((blk_cell BKc.out 4).trans rfl), ((blk_cell BKc.out 5).trans rfl), ((blk_cell BKc.out 6).trans rfl)⟩ (fun hHeld => ?_)
  clear hK K
  refine norm_ (a' := ?_) ?_ ?_
  rotate_left
  ·show Act.put _ (some 10) _ = _
   simp only [Act.put, Kx.sb, Kx.sz, Kx.ss, i64_w, i32_w]
   rfl
  refine Cz.rP 5 11 ?_
  refine Cz.rP 6 12 ?_
  refine Cz.rP 7 13 ?_
  refine Cz.rP 9 15 ?_
  refine take_ (i := 8) (N := some 14) (v := ?_) (a' := ?_) #[true, true, true, true, true, true, true, true, true, true, false, false, false, false, false] rfl rfl (by kernel_rfl) (fun _ _ _ h => h) (Or.inl ⟨by rfl, ?_⟩) hHeld ?_ ?_
  rotate_left
  ·rintro w' ⟨s0, s1, s2, s3, s4, s5, s6⟩
   go_simp
   with_reducible rfl
  rotate_left
  ·simp only [Act.put, Kx.sb, Kx.sz, Kx.ss, i64_w, i32_w]
   rfl
  refine take_ (i := 11) (N := some 17) (v := ?_) (a' := ?_) #[true, true, true, true, true, true, true, true, true, true, false, true, false, false, false] rfl rfl (by kernel_rfl) (fun _ _ _ h => h) (Or.inl ⟨by rfl, ?_⟩) hHeld ?_ ?_
  rotate_left
  ·rintro w' ⟨s0, s1, s2, s3, s4, s5, s6⟩
   go_simp
   with_reducible rfl
  rotate_left
  ·simp only [Act.put, Kx.sb, Kx.sz, Kx.ss, i64_w, i32_w]
   rfl
  refine Cz.rO (N := some 16) 10 (fun K hK => ?_)
  refine goes_ Try.func47 (by kernel_rfl) rfl #[.int .i64 k, .iface 95 (.agg #[.int .i64 k, .int .i64 a, .int .i64 n, .slice A3 d.length c3])] (by rfl) rfl rfl (by simp only [List.map_toArray, List.map_cons, List.map_nil]; rfl) ?_
  refine (frame_framed.blocks _ _ _ _ _ _ _ _).mono ?_
  rintro e wf ⟨rfl, hb⟩
  refine ⟨_, rfl, ?_⟩
  replace BKc := Cz.bk BKc hb
  replace HR3 := Aside0.mk (Kd.C_below HR3.out hb)
  replace HB := Cz.bs (w := w) hb
  clear hb
  refine hK.out _ _ ⟨((blk_cell BKc.out 0).trans rfl), ((blk_cell BKc.out 1).trans rfl), ((blk_cell BKc.out 2).trans rfl), ((blk_cell BKc.out 3).trans rfl), ((blk_cell BKc.out 4).trans rfl), ((blk_cell BKc.out 5).trans rfl), ((blk_cell BKc.out 6).trans rfl)⟩ (fun hHeld => ?_)
  clear hK K
  refine norm_ (a' := ?_) ?_ ?_
  rotate_left
  ·show Act.put _ (some 16) _ = _
   simp only [Act.put, Kx.sb, Kx.sz, Kx.ss, i64_w, i32_w]
   rfl
  refine Cz.rO (N := some 18) 12 (fun K hK => ?_)
  refine goes_ Try.func49 (by kernel_rfl) rfl #[.agg #[.int .i64 k, .int .i64 a, .int .i64 n, .slice A3 d.length c3, .int .i64 0, .int .i64 0, .int .i64 0], .agg #[.int .i64 k, .int .i64 a, .int .i64 n, .slice A3 d.length c3, .int .i64 A, .int .i64 B, .int .i64 C]] (by rfl) rfl rfl (by simp only [List.map_toArray, List.map_cons, List.map_nil]; rfl) ?_
  refine (frame_same.calls k a n A3 c3 d 0 0 0 k a n A3 c3 d A B C t2 _ HR3.out HC3.out HR3.out HC3.out (HS.out rfl)).mono ?_
  rintro e ws ⟨rfl, hb⟩
  refine ⟨_, rfl, ?_⟩
  replace BKc := Cz.bk BKc hb
  replace HR3 := Aside0.mk (Kd.C_below HR3.out hb)
  replace HB := Cz.bs (w := w) hb
  clear hb
  refine hK.out _ _ ⟨((blk_cell BKc.out 0).trans rfl), ((blk_cell BKc.out 1).trans rfl), ((blk_cell BKc.out 2).trans rfl), ((blk_cell BKc.out 3).trans rfl), ((blk_cell BKc.out 4).trans rfl), ((blk_cell BKc.out 5).trans rfl), ((blk_cell BKc.out 6).trans rfl)⟩ (fun hHeld => ?_)
  clear hK K
  refine norm_ (a' := ?_) ?_ ?_
  rotate_left
  ·show Act.put _ (some 18) _ = _
   simp only [Act.put, Kx.sb, Kx.sz, Kx.ss, i64_w, i32_w]
   rfl
  refine Cz.rP 13 19 ?_
  refine Cz.rP 14 2 ?_
  refine done_ (by kernel_rfl) ?_
  clear hHeld
  go_wp2_with fail
  go_ret
  exact ⟨rfl, HB.out⟩
set_option maxRecDepth 100000 in
set_option maxHeartbeats 2000000 in
theorem frame_Check.endB (a n : Int) (A3 : Option Addr) (c3 : Nat) (d : List Int) (A B C : Int) (t1 t2 : Bool) (w : World) (hr : Kd.C (Kd.int .u8) w A3 d.length d) (hc : d.length ≤ c3) (hm : frame_end_may.f A B = some t1) (hs : t1 = true → frame_same.f 5 0 0 [] A B 0 5 a n d A B C = some t2) : Calls Try.prog 24 #[.agg #[.int .i64 5, .int .i64 a, .int .i64 n, .slice A3 d.length c3, .int .i64 A, .int .i64 B, .int .i64 C]] w fun e w' => e = .returned (.bool (t1 && t2)) ∧ Below w.heap.size w w' := by
 have hu0 := Try.underlying38
 have HR3 := Aside0.mk hr
 have HC3 := Aside0.mk hc
 have HB := Aside0.mk (Below.refl w.heap.size w)
 clear hr hc
 have HM := Aside0.mk hm
 have HS := Aside0.mk hs
 clear hm hs
 have hv : ofV 5 a n A3 d.length c3 A B C = .iface 97 (.agg #[.int .i64 A, .int .i64 B]) := rfl
 have HV := Aside0.mk hv
 clear hv
 go_enter Try.func24, Try.ntmps24
 go_upto_region 1 with ((with_reducible refine gate_dst (N := 1) rfl ?_); refine Cz.bx (N := 1) #[.int .i64 5, .int .i64 a, .int .i64 n, .slice A3 d.length c3, .int .i64 A, .int .i64 B, .int .i64 C] 38 ?_; intro gc hg w1 hbox hb; have BKc := Aside0.mk hbox; replace HR3 := Aside0.mk (Kd.C_below HR3.out hb); replace HB := Cz.bs (w := w) hb; clear hb hbox hg; obtain ⟨hcz0, hcz1, hcz2, hcz3, hcz4, hcz5, hcz6⟩ := Cz.c7 BKc)
 go_upto_region 2 with (go_at_call 38; refine (frame_of.calls _ _ _ _ _ _ _ _ _ _).mono ?_; rintro e w2 ⟨rfl, hb⟩; rw [HV.out]; replace BKc := Cz.bk BKc hb; replace HR3 := Aside0.mk (Kd.C_below HR3.out hb); replace HB := Cz.bs (w := w) hb; clear hb; clear hcz0 hcz1 hcz2 hcz3 hcz4 hcz5 hcz6)
 cases t1 with
 | false =>
  replace BKc := Aside0.mk (blk_drew BKc.out)
  replace HR3 := Aside0.mk (Kd.C_drew HR3.out)
  replace HB := Aside0.mk (below_drew HB.out)
  refine start_ (n := 15) (S := fun w' => w'.cell? ⟨gc, 0, none⟩ = some (.int .i64 5) ∧ w'.cell? ⟨gc, 1, none⟩ = some (.int .i64 a) ∧ w'.cell? ⟨gc, 2, none⟩ = some (.int .i64 n) ∧ w'.cell? ⟨gc, 3, none⟩ = some (.slice A3 d.length c3) ∧ w'.cell? ⟨gc, 4, none⟩ = some (.int .i64 A) ∧ w'.cell? ⟨gc, 5, none⟩ = some (.int .i64 B) ∧ w'.cell? ⟨gc, 6, none⟩ = some (.int .i64 C)) (ds := []) #[false, false, false, false, false, false, false, false, false, false, false, false, false, false, false] (by kernel_rfl) rfl rfl ⟨((blk_cell BKc.out 0).trans rfl), ((blk_cell BKc.out 1).trans rfl), ((blk_cell BKc.out 2).trans rfl), ((blk_cell BKc.out 3).trans rfl), ((blk_cell BKc.out 4).trans rfl), ((blk_cell BKc.out 5).trans rfl), ((blk_cell BKc.out 6).trans rfl)⟩ (fun hHeld => ?_)
  generalize w2.drew = wd at HB BKc HR3 hHeld ⊢
  refine Cz.rP 0 6 ?_
  refine Cz.rP 1 7 ?_
  refine Cz.rP 2 8 ?_
  refine Cz.rP 3 9 ?_
  refine Cz.rO (N := some 10) 4 (fun K hK => ?_)
  refine call_ 114 #[.agg #[.int .i64 A, .int .i64 B]] (by rfl) rfl (by kernel_rfl) ?_
  refine (frame_end_may.calls _ _ _ _ HM.out).mono ?_
  rintro e wm ⟨rfl, hb⟩
  refine ⟨_, rfl, ?_⟩
  replace BKc := Cz.bk BKc hb
  replace HR3 := Aside0.mk (Kd.C_below HR3.out hb)
  replace HB := Cz.bs (w := w) hb
  clear hb
  refine hK.out _ _ ⟨((blk_cell BKc.out 0).trans rfl), ((blk_cell BKc.out 1).trans rfl), ((blk_cell BKc.out 2).trans rfl), ((blk_cell BKc.out 3).trans rfl), ((blk_cell BKc.out 4).trans rfl), ((blk_cell BKc.out 5).trans rfl), ((blk_cell BKc.out 6).trans rfl)⟩ (fun hHeld => ?_)
  clear hK K
  refine norm_ (a' := ?_) ?_ ?_
  rotate_left
  ·show Act.put _ (some 10) _ = _
   simp only [Act.put, Kx.sb, Kx.sz, Kx.ss, i64_w, i32_w]
   rfl
  refine Cz.rP 5 11 ?_
  refine Cz.rP 6 12 ?_
  refine Cz.rU 7 13 ?_
  refine Cz.rU 8 14 ?_
  refine Cz.rU 9 15 ?_
  refine Cz.rU 10 16 ?_
  refine Cz.rU 11 17 ?_
  refine Cz.rU 12 18 ?_
  refine Cz.rP 13 19 ?_
  refine Cz.rP 14 2 ?_
  refine done_ (by kernel_rfl) ?_
  clear hHeld
  go_wp2_with fail
  go_ret
  exact ⟨rfl, HB.out⟩
 | true =>
  replace BKc := Aside0.mk (blk_drew BKc.out)
  replace HR3 := Aside0.mk (Kd.C_drew HR3.out)
  replace HB := Aside0.mk (below_drew HB.out)
  refine start_ (n := 15) (S := fun w' => w'.cell? ⟨gc, 0, none⟩ = some (.int .i64 5) ∧ w'.cell? ⟨gc, 1, none⟩ = some (.int .i64 a) ∧ w'.cell? ⟨gc, 2, none⟩ = some (.int .i64 n) ∧ w'.cell? ⟨gc, 3, none⟩ = some (.slice A3 d.length c3) ∧ w'.cell? ⟨gc, 4, none⟩ = some (.int .i64 A) ∧ w'.cell? ⟨gc, 5, none⟩ = some (.int .i64 B) ∧ w'.cell? ⟨gc, 6, none⟩ = some (.int .i64 C)) (ds := []) #[false, false, false, false, false, false, false, false, false, false, false, false, false, false, false] (by kernel_rfl) rfl rfl ⟨((blk_cell BKc.out 0).trans rfl), ((blk_cell BKc.out 1).trans rfl), ((blk_cell BKc.out 2).trans rfl), ((blk_cell BKc.out 3).trans rfl), ((blk_cell BKc.out 4).trans rfl), ((blk_cell BKc.out 5).trans rfl), ((blk_cell BKc.out 6).trans rfl)⟩ (fun hHeld => ?_)
  generalize w2.drew = wd at HB BKc HR3 hHeld ⊢
  refine Cz.rP 0 6 ?_
  refine Cz.rP 1 7 ?_
  refine Cz.rP 2 8 ?_
  refine Cz.rP 3 9 ?_
  refine Cz.rO (N := some 10) 4 (fun K hK => ?_)
  refine call_ 114 #[.agg #[.int .i64 A, .int .i64 B]] (by rfl) rfl (by kernel_rfl) ?_
  refine (frame_end_may.calls _ _ _ _ HM.out).mono ?_
  rintro e wm ⟨rfl, hb⟩
  refine ⟨_, rfl, ?_⟩
  replace BKc := Cz.bk BKc hb
  replace HR3 := Aside0.mk (Kd.C_below HR3.out hb)
  replace HB := Cz.bs (w := w) hb
  clear hb
  refine hK.out _ _ ⟨((blk_cell BKc.out 0).trans rfl), ((blk_cell BKc.out 1).trans rfl), ((blk_cell BKc.out 2).trans rfl), ((blk_cell BKc.out 3).trans rfl), ((blk_cell BKc.out 4).trans rfl), ((blk_cell BKc.out 5).trans rfl), ((blk_cell BKc.out 6).trans rfl)⟩ (fun hHeld => ?_)
  clear hK K
  refine norm_ (a' := ?_) ?_ ?_
  rotate_left
  ·show Act.put _ (some 10) _ = _
   simp only [Act.put, Kx.sb, Kx.sz, Kx.ss, i64_w, i32_w]
   rfl
  refine Cz.rP 5 11 ?_
  refine Cz.rP 6 12 ?_
  refine Cz.rP 7 13 ?_
  refine Cz.rP 9 15 ?_
  refine take_ (i := 8) (N := some 14) (v := ?_) (a' := ?_) #[true, true, true, true, true, true, true, true, true, true, false, false, false, false, false] rfl rfl (by kernel_rfl) (fun _ _ _ h => h) (Or.inl ⟨by rfl, ?_⟩) hHeld ?_ ?_
  rotate_left
  ·rintro w' ⟨s0, s1, s2, s3, s4, s5, s6⟩
   go_simp
   with_reducible rfl
  rotate_left
  ·simp only [Act.put, Kx.sb, Kx.sz, Kx.ss, i64_w, i32_w]
   rfl
  refine take_ (i := 11) (N := some 17) (v := ?_) (a' := ?_) #[true, true, true, true, true, true, true, true, true, true, false, true, false, false, false] rfl rfl (by kernel_rfl) (fun _ _ _ h => h) (Or.inl ⟨by rfl, ?_⟩) hHeld ?_ ?_
  rotate_left
  ·rintro w' ⟨s0, s1, s2, s3, s4, s5, s6⟩
   go_simp
   with_reducible rfl
  rotate_left
  ·simp only [Act.put, Kx.sb, Kx.sz, Kx.ss, i64_w, i32_w]
   rfl
  refine Cz.rO (N := some 16) 10 (fun K hK => ?_)
  refine goes_ Try.func47 (by kernel_rfl) rfl #[.int .i64 5, .iface 97 (.agg #[.int .i64 A, .int .i64 B])] (by rfl) rfl rfl (by simp only [List.map_toArray, List.map_cons, List.map_nil]; rfl) ?_
  refine (frame_framed.end _ _ _ _).mono ?_
  rintro e wf ⟨rfl, hb⟩
  refine ⟨_, rfl, ?_⟩
  replace BKc := Cz.bk BKc hb
  replace HR3 := Aside0.mk (Kd.C_below HR3.out hb)
  replace HB := Cz.bs (w := w) hb
  clear hb
  refine hK.out _ _ ⟨((blk_cell BKc.out 0).trans rfl), ((blk_cell BKc.out 1).trans rfl), ((blk_cell BKc.out 2).trans rfl), ((blk_cell BKc.out 3).trans rfl), ((blk_cell BKc.out 4).trans rfl), ((blk_cell BKc.out 5).trans rfl), ((blk_cell BKc.out 6).trans rfl)⟩ (fun hHeld => ?_)
  clear hK K
  refine norm_ (a' := ?_) ?_ ?_
  rotate_left
  ·show Act.put _ (some 16) _ = _
   simp only [Act.put, Kx.sb, Kx.sz, Kx.ss, i64_w, i32_w]
   rfl
  refine Cz.rO (N := some 18) 12 (fun K hK => ?_)
  refine goes_ Try.func49 (by kernel_rfl) rfl #[.agg #[.int .i64 5, .int .i64 0, .int .i64 0, .slice none 0 0, .int .i64 A, .int .i64 B, .int .i64 0], .agg #[.int .i64 5, .int .i64 a, .int .i64 n, .slice A3 d.length c3, .int .i64 A, .int .i64 B, .int .i64 C]] (by rfl) rfl rfl (by simp only [List.map_toArray, List.map_cons, List.map_nil]; rfl) ?_
  refine (frame_same.calls 5 0 0 none 0 [] A B 0 5 a n A3 c3 d A B C t2 _ (Kd.C_nil _ _) (Nat.le_refl _) HR3.out HC3.out (HS.out rfl)).mono ?_
  rintro e ws ⟨rfl, hb⟩
  refine ⟨_, rfl, ?_⟩
  replace BKc := Cz.bk BKc hb
  replace HR3 := Aside0.mk (Kd.C_below HR3.out hb)
  replace HB := Cz.bs (w := w) hb
  clear hb
  refine hK.out _ _ ⟨((blk_cell BKc.out 0).trans rfl), ((blk_cell BKc.out 1).trans rfl), ((blk_cell BKc.out 2).trans rfl), ((blk_cell BKc.out 3).trans rfl), ((blk_cell BKc.out 4).trans rfl), ((blk_cell BKc.out 5).trans rfl), ((blk_cell BKc.out 6).trans rfl)⟩ (fun hHeld => ?_)
  clear hK K
  refine norm_ (a' := ?_) ?_ ?_
  rotate_left
  ·show Act.put _ (some 18) _ = _
   simp only [Act.put, Kx.sb, Kx.sz, Kx.ss, i64_w, i32_w]
   rfl
  refine Cz.rP 13 19 ?_
  refine Cz.rP 14 2 ?_
  refine done_ (by kernel_rfl) ?_
  clear hHeld
  go_wp2_with fail
  go_ret
  exact ⟨rfl, HB.out⟩
set_option maxRecDepth 100000 in
set_option maxHeartbeats 2000000 in
theorem frame_Check.noneB (k : Int) (a n : Int) (A3 : Option Addr) (c3 : Nat) (d : List Int) (A B C : Int) (w : World) (hr : Kd.C (Kd.int .u8) w A3 d.length d) (hc : d.length ≤ c3) (hk : ¬ (1 ≤ k ∧ k ≤ 5)) : Calls Try.prog 24 #[.agg #[.int .i64 k, .int .i64 a, .int .i64 n, .slice A3 d.length c3, .int .i64 A, .int .i64 B, .int .i64 C]] w fun e w' => e = .returned (.bool false) ∧ Below w.heap.size w w' := by
 have hu0 := Try.underlying38
 have HR3 := Aside0.mk hr
 have HC3 := Aside0.mk hc
 have HB := Aside0.mk (Below.refl w.heap.size w)
 clear hr hc
 have hv : ofV k a n A3 d.length c3 A B C = .nilIface := by unfold ofV; rw [if_neg (by omega), if_neg (by omega), if_neg (by omega)]
 have HV := Aside0.mk hv
 clear hv hk
 go_enter Try.func24, Try.ntmps24
 go_upto_region 2 with (go_at_call 38; refine (frame_of.calls _ _ _ _ _ _ _ _ _ _).mono ?_; rintro e w2 ⟨rfl, hb⟩; rw [HV.out]; replace HB := Aside0.mk (below_step (below_alloc HB.out _) hb); clear hb)
 replace HB := Aside0.mk (below_drew HB.out)
 refine start_ (n := 15) (S := fun w' => True) (ds := []) #[false, false, false, false, false, false, false, false, false, false, false, false, false, false, false] (by kernel_rfl) rfl rfl trivial (fun hHeld => ?_)
 generalize w2.drew = wd at HB hHeld ⊢
 refine Cz.rP 0 6 ?_
 refine Cz.rP 1 7 ?_
 refine Cz.rP 2 8 ?_
 refine Cz.rU 3 9 ?_
 refine Cz.rU 4 10 ?_
 refine Cz.rP 5 11 ?_
 refine Cz.rP 6 12 ?_
 refine Cz.rU 7 13 ?_
 refine Cz.rU 8 14 ?_
 refine Cz.rU 9 15 ?_
 refine Cz.rU 10 16 ?_
 refine Cz.rU 11 17 ?_
 refine Cz.rU 12 18 ?_
 refine Cz.rP 13 19 ?_
 refine Cz.rP 14 2 ?_
 refine done_ (by kernel_rfl) ?_
 clear hHeld
 go_wp2_with fail
 go_ret
 exact ⟨rfl, HB.out⟩
theorem frame_within.tells (x a b : Int) : frame_within.f x a b = some (decide (a ≤ x ∧ x ≤ b)) := by
 unfold frame_within.f
 by_cases h : x ≥ a
 ·rw [if_pos h, Option.some.injEq, decide_eq_decide]; omega
 ·rw [if_neg h, decide_eq_false (by omega)]
theorem frame_head_may.tells (A B C : Int) : frame_head_may.f A B C = some (decide (1 ≤ A ∧ A ≤ 64 ∧ 0 ≤ B ∧ B < C ∧ C ≤ 2147483647)) := by
 unfold frame_head_may.f
 rw [frame_within.tells, frame_within.tells, frame_within.tells, Option.bind_some]
 by_cases h : 1 ≤ A ∧ A ≤ 64
 rotate_left
 ·rw [decide_eq_false h, if_neg (by decide), decide_eq_false (by omega)]
 rw [decide_eq_true h, if_pos rfl, Option.bind_some]
 by_cases h2 : 0 ≤ B ∧ B ≤ 2147483647
 rotate_left
 ·rw [decide_eq_false h2, if_neg (by decide), decide_eq_false (by omega)]
 rw [decide_eq_true h2, if_pos rfl, Option.bind_some, show wrap64 (B + 1) = B + 1 by unfold wrap64; omega, Option.some.injEq, decide_eq_decide]
 omega
theorem frame_end_may.tells (A B : Int) : frame_end_may.f A B = some (decide (1 ≤ A ∧ A ≤ 65535 ∧ 0 ≤ B ∧ B ≤ 4294967295)) := by
 unfold frame_end_may.f
 rw [frame_within.tells, frame_within.tells, Option.bind_some]
 by_cases h : 1 ≤ A ∧ A ≤ 65535
 ·rw [decide_eq_true h, if_pos rfl, Option.bind_some, Option.some.injEq, decide_eq_decide]; omega
 ·rw [decide_eq_false h, if_neg (by decide), decide_eq_false (by omega)]
theorem frame_blocks_may.loop {k a n : Int} {l : List Int} : ∀ (m q : Nat) (x : List Int), x.length ≤ m → m < q → frame_blocks_may.l0 q x k a n l = some (!Pl.zerS x && decide (n ≤ 16 ∧ (l.length : Int) = wrap64 (n * 32)))
 | m, q, x, hx, hq => by
  obtain ⟨q, rfl⟩ : ∃ z, q = z + 1 := ⟨q - 1, by omega⟩
  rw [frame_blocks_may.l0]
  by_cases h : (x.length : Int) ≥ 32
  ·obtain ⟨m', rfl⟩ : ∃ z, m = z + 32 := ⟨m - 32, by omega⟩
   rw [if_pos h, if_pos (by omega), zeros_Is.tells (by rw [List.length_take]; omega), Option.bind_some, Pl.zerS_long (by omega)]
   by_cases hz : Pl.zeroB (x.take 32) = true
   ·rw [if_pos hz, hz]; rfl
   ·rw [if_neg hz, Bool.eq_false_iff.2 hz, Bool.false_or, frame_blocks_may.loop m' q (x.drop 32) (by rw [List.length_drop]; omega) (by omega)]
  ·rw [if_neg h, Pl.zerS_short (by omega), Bool.not_false, Bool.true_and]
   by_cases hn : n ≤ 16
   ·rw [if_pos hn]
    by_cases he : (l.length : Int) = wrap64 (n * 32) <;> simp [hn, he]
   ·rw [if_neg hn, decide_eq_false (fun e => hn e.1)]
 termination_by m => m
def frame_blocks_may.S (k a n : Int) (l : List Int) : Bool := decide (0 ≤ a ∧ a ≤ 64 ∧ 1 ≤ n ∧ n ≤ 64 - a) && (if k = 2 then !Pl.zerS l && decide (n ≤ 16 ∧ (l.length : Int) = n * 32) else decide (l.length = 0))
theorem frame_blocks_may.tells (k a n : Int) (l : List Int) : frame_blocks_may.f (l.length + 2) k a n l = some (frame_blocks_may.S k a n l) := by
 unfold frame_blocks_may.f frame_blocks_may.S
 rw [frame_within.tells, frame_within.tells, Option.bind_some]
 by_cases h : 0 ≤ a ∧ a ≤ 64
 rotate_left
 ·rw [decide_eq_false h, if_neg (by decide), decide_eq_false (by omega), Bool.false_and, frame_blocks_may.j0, if_pos rfl]
 rw [decide_eq_true h, if_pos rfl, Option.bind_some, show wrap64 (64 - a) = 64 - a by unfold wrap64; omega]
 by_cases h2 : 1 ≤ n ∧ n ≤ 64 - a
 rotate_left
 ·rw [decide_eq_false h2, decide_eq_false (by omega), Bool.false_and, frame_blocks_may.j0, if_pos (by decide)]
 rw [decide_eq_true h2, decide_eq_true (show 0 ≤ a ∧ a ≤ 64 ∧ 1 ≤ n ∧ n ≤ 64 - a by omega), Bool.true_and, frame_blocks_may.j0, if_neg (by decide)]
 by_cases h3 : k = 2
 ·rw [if_pos h3, if_pos h3, frame_blocks_may.loop l.length (l.length + 1) l (Nat.le_refl _) (by omega), show wrap64 (n * 32) = n * 32 by unfold wrap64; omega]
 ·rw [if_neg h3, if_neg h3]
  congr 1
  rw [Bool.eq_iff_iff, beq_iff_eq, decide_eq_true_eq]
  omega
def frame_Check.f (a0_0 a0_1 a0_2 : Int) (l0_3 : List Int) (a0_4 a0_5 a0_6 : Int) : Option Bool := if Pl.byteB l0_3 = true then some (Pl.frOk a0_0 a0_1 a0_2 l0_3 a0_4 a0_5 a0_6) else none
theorem frame_Check.tells {a0_0 a0_1 a0_2 : Int} {l0_3 : List Int} {a0_4 a0_5 a0_6 : Int} (h0 : Pl.byteB l0_3 = true) : frame_Check.f a0_0 a0_1 a0_2 l0_3 a0_4 a0_5 a0_6 = some (Pl.frOk a0_0 a0_1 a0_2 l0_3 a0_4 a0_5 a0_6) := if_pos h0
theorem frame_Check.calls (a0_0 a0_1 a0_2 : Int) (A0_3 : Option Addr) (c0_3 : Nat) (l0_3 : List Int) (a0_4 a0_5 a0_6 : Int) (r : Bool) (w : World) (hr0_3 : Kd.C (Kd.int .u8) w A0_3 l0_3.length l0_3) (hc0_3 : l0_3.length ≤ c0_3) (h : frame_Check.f a0_0 a0_1 a0_2 l0_3 a0_4 a0_5 a0_6 = some r) :
  Calls Try.prog 24 #[.agg #[.int .i64 a0_0, .int .i64 a0_1, .int .i64 a0_2, .slice A0_3 l0_3.length c0_3, .int .i64 a0_4, .int .i64 a0_5, .int .i64 a0_6]] w fun e w' => e = .returned (.bool r) ∧ Below w.heap.size w w' := by
 unfold frame_Check.f at h
 split at h
 case isFalse => cases h
 rename_i hb
 obtain rfl := Option.some.inj h
 clear h
 have hnl : ([] : List Int) = l0_3 ↔ l0_3.length = 0 := by rw [List.length_eq_zero_iff]; exact eq_comm
 by_cases k1 : a0_0 = 1
 ·subst k1
  have := frame_Check.head a0_1 a0_2 A0_3 c0_3 l0_3 a0_4 a0_5 a0_6 _ _ w hr0_3 hc0_3 (frame_head_may.tells _ _ _) (fun _ => frame_same.tells rfl hb)
  rw [show Pl.frOk 1 a0_1 a0_2 l0_3 a0_4 a0_5 a0_6 = (decide (1 ≤ a0_4 ∧ a0_4 ≤ 64 ∧ 0 ≤ a0_5 ∧ a0_5 < a0_6 ∧ a0_6 ≤ 2147483647) && decide ((1 : Int) = 1 ∧ (0 : Int) = a0_1 ∧ (0 : Int) = a0_2 ∧ ([] : List Int) = l0_3 ∧ a0_4 = a0_4 ∧ a0_5 = a0_5 ∧ a0_6 = a0_6)) by
   rw [Pl.frOk_1, ← Bool.decide_and, decide_eq_decide, hnl]; omega]
  exact this
 by_cases k2 : a0_0 = 2 ∨ a0_0 = 3 ∨ a0_0 = 4
 ·have := frame_Check.blocks (l0_3.length + 2) a0_0 a0_1 a0_2 A0_3 c0_3 l0_3 a0_4 a0_5 a0_6 _ _ w hr0_3 hc0_3 k2 (frame_blocks_may.tells _ _ _ _) (fun _ => frame_same.tells hb hb)
  rw [show Pl.frOk a0_0 a0_1 a0_2 l0_3 a0_4 a0_5 a0_6 = (frame_blocks_may.S a0_0 a0_1 a0_2 l0_3 && decide (a0_0 = a0_0 ∧ a0_1 = a0_1 ∧ a0_2 = a0_2 ∧ l0_3 = l0_3 ∧ (0 : Int) = a0_4 ∧ (0 : Int) = a0_5 ∧ (0 : Int) = a0_6)) by
   unfold frame_blocks_may.S
   rcases k2 with rfl | k3
   ·rw [Pl.frOk_2, if_pos rfl]
    cases Pl.zerS l0_3
    ·rw [Bool.not_false, Bool.and_true, Bool.true_and, ← Bool.decide_and, ← Bool.decide_and, decide_eq_decide]
     simp only [true_and]
     omega
    ·rw [Bool.not_true, Bool.and_false, Bool.false_and, Bool.and_false, Bool.false_and]
   ·rw [Pl.frOk_3 k3, if_neg (by omega), ← Bool.decide_and, ← Bool.decide_and, decide_eq_decide]
    simp only [true_and]
    omega]
  exact this
 by_cases k5 : a0_0 = 5
 ·subst k5
  have := frame_Check.endB a0_1 a0_2 A0_3 c0_3 l0_3 a0_4 a0_5 a0_6 _ _ w hr0_3 hc0_3 (frame_end_may.tells _ _) (fun _ => frame_same.tells rfl hb)
  rw [show Pl.frOk 5 a0_1 a0_2 l0_3 a0_4 a0_5 a0_6 = (decide (1 ≤ a0_4 ∧ a0_4 ≤ 65535 ∧ 0 ≤ a0_5 ∧ a0_5 ≤ 4294967295) && decide ((5 : Int) = 5 ∧ (0 : Int) = a0_1 ∧ (0 : Int) = a0_2 ∧ ([] : List Int) = l0_3 ∧ a0_4 = a0_4 ∧ a0_5 = a0_5 ∧ (0 : Int) = a0_6)) by
   rw [Pl.frOk_5, ← Bool.decide_and, decide_eq_decide, hnl]; omega]
  exact this
 ·rw [Pl.frOk_not (by omega)]
  exact frame_Check.noneB a0_0 a0_1 a0_2 A0_3 c0_3 l0_3 a0_4 a0_5 a0_6 w hr0_3 hc0_3 (by omega)
def frame_Text.f (k a n : Int) (d : List Int) (A B C : Int) : Option (List Int × Int) := if Pl.frOk k a n d A B C = true then some (Pl.frT k a n d A B C, 0) else none
theorem goesI_ {P : Program} {ops : Array Oper} {Q : Exit → Act → World → Prop} {rest : List Oper} {oi : Oper} {a : Act} {w : World} (N : Option Tmp) (hd : oi.dst = N) (hg : oi.guard = none) {f : FuncId} (args : Array Value) (hrun : (execOp a.eval oi).run P w = .ok (.enter f args) w)
  (h : Calls P f args w fun e w' => ∃ v, e = .returned v ∧ wpList P ops Q rest (a.put N v) w') : wpList P ops Q (oi :: rest) a w := by
 refine wpList_plain hg fun K hK => ?_
 unfold Oper.wp
 rw [hrun, Oper.upon_enter]
 refine h.mono fun e w'' hh => ?_
 obtain ⟨v, rfl, hk⟩ := hh
 subst hd
 exact hK _ _ hk
theorem frame_Text.runs {V : Value} {f : FuncId} {rv : Value} (hm : ∀ w : World, (execOp (fun _ => V) { dst := some 13, op := .call { callee := .invoke (.tmp 12) "waggoner/frame.text", args := #[], argTypes := #[] }, type := 29, pos := "", after := #[], guard := none }).run Try.prog w = .ok (.enter f #[rv]) w) {a : Act} {o : Oper} (hV : a.eval (.tmp 12) = V) (ho : o.op = .call { callee := .invoke (.tmp 12) "waggoner/frame.text", args := #[], argTypes := #[] }) (w : World) : (execOp a.eval o).run Try.prog w = .ok (.enter f #[rv]) w := by
 have := hm w
 unfold execOp at this ⊢
 simp only [ho, resolve, hV, Array.map_empty, List.map_toArray, List.map_nil] at this ⊢
 exact this
theorem frame_Text.arm {ops : Array Oper} {Q : Exit → Act → World → Prop} {rest : List Oper} {o1 o2 : Oper} {x : Operand} {ts : Array TypeId} {a : Act} {w : World} (k a_ n : Int) (A3 : Option Addr) (c3 : Nat) (d : List Int) (A B C : Int) (t : List Int) (e : Int) (hg1 : o1.guard = none) (hg2 : o2.guard = none) (hd1 : o1.dst = some 12) (hd2 : o2.dst = some 13)
  (hop1 : o1.op = .call { callee := .value (.func 38), args := #[x], argTypes := ts }) (hx : a.eval x = .agg #[.int .i64 k, .int .i64 a_, .int .i64 n, .slice A3 d.length c3, .int .i64 A, .int .i64 B, .int .i64 C]) (hop2 : o2.op = .call { callee := .invoke (.tmp 12) "waggoner/frame.text", args := #[], argTypes := #[] }) (hz : 12 < a.tmps.size)
  (hr : Kd.C (Kd.int .u8) w A3 d.length d) (hc : d.length ≤ c3) (ht : frame_Text.f k a_ n d A B C = some (t, e))
  (h : ∀ V v w', Kd.R (Kd.int .u8) 5 w' w.heap.size (fun _ => True) v t → Below w.heap.size w w' → wpList Try.prog ops Q rest ((a.put (some 12) V).put (some 13) (.tuple #[v, .int .i64 e])) w') : wpList Try.prog ops Q (o1 :: o2 :: rest) a w := by
 unfold frame_Text.f at ht
 split at ht
 case isFalse => cases ht
 rename_i hk
 simp only [Option.some.injEq, Prod.mk.injEq] at ht
 obtain ⟨rfl, rfl⟩ := ht
 refine goesL_ (some 12) hd1 hg1 Try.func38 (by kernel_rfl) rfl #[.agg #[.int .i64 k, .int .i64 a_, .int .i64 n, .slice A3 d.length c3, .int .i64 A, .int .i64 B, .int .i64 C]] hop1 (by simp [hx]) ?_
 refine (frame_of.calls _ _ _ _ _ _ _ _ _ _).mono ?_
 rintro e1 w1 ⟨rfl, hb1⟩
 refine ⟨_, rfl, ?_⟩
 have hV : ∀ V, (a.put (some 12) V).eval (.tmp 12) = V := fun V => by
  simp only [Act.put, Act.eval]
  simp [hz]
 rcases Pl.frOk_iff.1 hk with q | q | q | q
 ·obtain ⟨rfl, rfl, rfl, rfl, q1, q2, q3, q4, q5⟩ := q
  refine goesI_ (some 13) hd2 hg2 (f := 110) #[.agg #[.int .i64 A, .int .i64 B, .int .i64 C]] (frame_Text.runs (V := ofV 1 0 0 A3 0 c3 A B C) (fun _ => by kernel_rfl) (hV _) hop2 _) ?_
  have hp : frame_head_text.f A B C = some (Pl.frT 1 0 0 [] A B C, 0) := by
   unfold frame_head_text.f le_Pack.f
   rw [show IntKind.u64.wrap A = A by rw [IntKind.wrap_u64]; omega, show IntKind.u64.wrap B = B by rw [IntKind.wrap_u64]; omega, show IntKind.u64.wrap C = C by rw [IntKind.wrap_u64]; omega, if_pos ⟨Pl.u64B_iff.2 (by
    intro x hx
    simp only [List.mem_cons, List.not_mem_nil, or_false] at hx
    omega), by decide⟩, show Pl.fb (⟨#[98, 119, 119]⟩ : ByteArray) = [98, 119, 119] from by kernel_rfl, Pl.pack_bww (by omega) (by omega) (by omega), Option.bind_some]
   rfl
  refine (frame_head_text.calls A B C _ _ w1 hp).mono ?_
  rintro e2 w2 ⟨v, rfl, ho, hb2⟩
  exact ⟨_, rfl, h _ _ _ (Kd.R_lower ho (below_size hb1)) (below_step hb1 hb2)⟩
 ·obtain ⟨rfl, q⟩ := q
  have hdl : d.length ≤ 512 := by omega
  refine goesI_ (some 13) hd2 hg2 (f := 113) #[.agg #[.int .i64 2, .int .i64 a_, .int .i64 n, .slice A3 d.length c3]] (frame_Text.runs (V := ofV 2 a_ n A3 d.length c3 A B C) (fun _ => by kernel_rfl) (hV _) hop2 _) ?_
  have hp : frame_blocks_text.f 2 a_ n d = some (Pl.frT 2 a_ n d A B C, 0) := by
   unfold frame_blocks_text.f le_Pack.f
   rw [show IntKind.u64.wrap a_ = a_ by rw [IntKind.wrap_u64]; omega, show IntKind.u64.wrap n = n by rw [IntKind.wrap_u64]; omega, if_pos ⟨Pl.u64B_iff.2 (by
     intro x hx
     simp only [List.mem_cons, List.not_mem_nil, or_false] at hx
     omega), by decide⟩, show Pl.fb (⟨#[98, 98]⟩ : ByteArray) = [98, 98] from by kernel_rfl, Pl.pack_bb (by omega) (by omega), Option.bind_some]
   dsimp only
   rw [if_pos (by rw [List.length_append, Pl.leB_length, Pl.leB_length]; omega), Pl.frT, if_neg (by decide), if_neg (by decide), List.append_assoc]
  refine (frame_blocks_text.calls 2 a_ n A3 c3 d _ _ w1 (Kd.C_below hr hb1) hc hp).mono ?_
  rintro e2 w2 ⟨v, rfl, ho, hb2⟩
  exact ⟨_, rfl, h _ _ _ (Kd.R_lower ho (below_size hb1)) (below_step hb1 hb2)⟩
 ·obtain ⟨q3, q⟩ := q
  have hdl : d.length ≤ 512 := by rw [q.2.2.2.2.2.2.2]; decide
  rcases q3 with rfl | rfl
  ·refine goesI_ (some 13) hd2 hg2 (f := 113) #[.agg #[.int .i64 3, .int .i64 a_, .int .i64 n, .slice A3 d.length c3]] (frame_Text.runs (V := ofV 3 a_ n A3 d.length c3 A B C) (fun _ => by kernel_rfl) (hV _) hop2 _) ?_
   have hp : frame_blocks_text.f 3 a_ n d = some (Pl.frT 3 a_ n d A B C, 0) := by
    unfold frame_blocks_text.f le_Pack.f
    rw [show IntKind.u64.wrap a_ = a_ by rw [IntKind.wrap_u64]; omega, show IntKind.u64.wrap n = n by rw [IntKind.wrap_u64]; omega, if_pos ⟨Pl.u64B_iff.2 (by
      intro x hx
      simp only [List.mem_cons, List.not_mem_nil, or_false] at hx
      omega), by decide⟩, show Pl.fb (⟨#[98, 98]⟩ : ByteArray) = [98, 98] from by kernel_rfl, Pl.pack_bb (by omega) (by omega), Option.bind_some]
    dsimp only
    rw [if_pos (by rw [List.length_append, Pl.leB_length, Pl.leB_length]; omega), Pl.frT, if_neg (by decide), if_neg (by decide), List.append_assoc]
   refine (frame_blocks_text.calls 3 a_ n A3 c3 d _ _ w1 (Kd.C_below hr hb1) hc hp).mono ?_
   rintro e2 w2 ⟨v, rfl, ho, hb2⟩
   exact ⟨_, rfl, h _ _ _ (Kd.R_lower ho (below_size hb1)) (below_step hb1 hb2)⟩
  ·refine goesI_ (some 13) hd2 hg2 (f := 113) #[.agg #[.int .i64 4, .int .i64 a_, .int .i64 n, .slice A3 d.length c3]] (frame_Text.runs (V := ofV 4 a_ n A3 d.length c3 A B C) (fun _ => by kernel_rfl) (hV _) hop2 _) ?_
   have hp : frame_blocks_text.f 4 a_ n d = some (Pl.frT 4 a_ n d A B C, 0) := by
    unfold frame_blocks_text.f le_Pack.f
    rw [show IntKind.u64.wrap a_ = a_ by rw [IntKind.wrap_u64]; omega, show IntKind.u64.wrap n = n by rw [IntKind.wrap_u64]; omega, if_pos ⟨Pl.u64B_iff.2 (by
      intro x hx
      simp only [List.mem_cons, List.not_mem_nil, or_false] at hx
      omega), by decide⟩, show Pl.fb (⟨#[98, 98]⟩ : ByteArray) = [98, 98] from by kernel_rfl, Pl.pack_bb (by omega) (by omega), Option.bind_some]
    dsimp only
    rw [if_pos (by rw [List.length_append, Pl.leB_length, Pl.leB_length]; omega), Pl.frT, if_neg (by decide), if_neg (by decide), List.append_assoc]
   refine (frame_blocks_text.calls 4 a_ n A3 c3 d _ _ w1 (Kd.C_below hr hb1) hc hp).mono ?_
   rintro e2 w2 ⟨v, rfl, ho, hb2⟩
   exact ⟨_, rfl, h _ _ _ (Kd.R_lower ho (below_size hb1)) (below_step hb1 hb2)⟩
 ·obtain ⟨rfl, rfl, rfl, rfl, q1, q2, q3, q4, rfl⟩ := q
  refine goesI_ (some 13) hd2 hg2 (f := 115) #[.agg #[.int .i64 A, .int .i64 B]] (frame_Text.runs (V := ofV 5 0 0 A3 0 c3 A B 0) (fun _ => by kernel_rfl) (hV _) hop2 _) ?_
  have hp : frame_end_text.f A B = some (Pl.frT 5 0 0 [] A B 0, 0) := by
   unfold frame_end_text.f le_Pack.f
   rw [show IntKind.u64.wrap A = A by rw [IntKind.wrap_u64]; omega, show IntKind.u64.wrap B = B by rw [IntKind.wrap_u64]; omega, if_pos ⟨Pl.u64B_iff.2 (by
     intro x hx
     simp only [List.mem_cons, List.not_mem_nil, or_false] at hx
     omega), by decide⟩, show Pl.fb (⟨#[104, 119]⟩ : ByteArray) = [104, 119] from by kernel_rfl, Pl.pack_hw (by omega) (by omega), Option.bind_some]
   rfl
  refine (frame_end_text.calls A B _ _ w1 hp).mono ?_
  rintro e2 w2 ⟨v, rfl, ho, hb2⟩
  exact ⟨_, rfl, h _ _ _ (Kd.R_lower ho (below_size hb1)) (below_step hb1 hb2)⟩
def frame_Write_p.f (a0_0 : Int) (a0_1 : Int) (a0_2 : Int) (l0_3 : List Int) (a0_4 : Int) (a0_5 : Int) (a0_6 : Int) : Option (List Int × Int) := (frame_Check.f a0_0 a0_1 a0_2 l0_3 a0_4 a0_5 a0_6).bind fun t134 => (if t134 = true then ((frame_Text.f a0_0 a0_1 a0_2 l0_3 a0_4 a0_5 a0_6).bind fun bt135 => (if bt135.2 = 0 then ((le_Pack.f (⟨#[98, 104]⟩ : ByteArray) (([IntKind.u64.wrap (a0_0), IntKind.u64.wrap ((bt135.1.length : Int))] : List Int))).bind fun bt142 => (if bt142.2 = 0 then (if bt142.1.length + bt135.1.length < 140737488355328 then ((crc_Seal.f (bt142.1 ++ bt135.1)).bind fun t149 => (some (t149, 0))) else (none)) else (some (([] : List Int), 160)))) else (some (([] : List Int), 160)))) else (some (([] : List Int), 160)))
set_option maxHeartbeats 8000000 in
set_option maxRecDepth 100000 in
theorem frame_Write_p.calls (a0_0 : Int) (a0_1 : Int) (a0_2 : Int) (A0_3 : Option Addr) (c0_3 : Nat) (l0_3 : List Int) (a0_4 : Int) (a0_5 : Int) (a0_6 : Int) (r1 : List Int) (r2 : Int) (w : World) (hr0_3 : Kd.C (Kd.int .u8) w A0_3 l0_3.length l0_3) (hc0_3 : l0_3.length ≤ c0_3) (h : frame_Write_p.f a0_0 a0_1 a0_2 l0_3 a0_4 a0_5 a0_6 = some (r1, r2)) :
  Calls Try.prog 19 #[.agg #[.int .i64 a0_0, .int .i64 a0_1, .int .i64 a0_2, .slice A0_3 l0_3.length c0_3, .int .i64 a0_4, .int .i64 a0_5, .int .i64 a0_6]] w fun e w' => ∃ v0_ : Value, e = .returned (.tuple #[v0_, .int .i64 r2]) ∧ Kd.R (Kd.int .u8) 5 w' w.heap.size (fun _ => True) v0_ r1 ∧ Below w.heap.size w w' := by
 have hu38 := Try.underlying38
 have HR0_3 := Aside0.mk hr0_3
 have HC0_3 := Aside0.mk hc0_3
 clear hr0_3 hc0_3
 have HB := Aside0.mk (Below.refl w.heap.size w)
 have H : ((frame_Check.f a0_0 a0_1 a0_2 l0_3 a0_4 a0_5 a0_6).bind fun t134 => (if t134 = true then ((frame_Text.f a0_0 a0_1 a0_2 l0_3 a0_4 a0_5 a0_6).bind fun bt135 => (if bt135.2 = 0 then ((le_Pack.f (⟨#[98, 104]⟩ : ByteArray) (([IntKind.u64.wrap (a0_0), IntKind.u64.wrap ((bt135.1.length : Int))] : List Int))).bind fun bt142 => (if bt142.2 = 0 then (if bt142.1.length + bt135.1.length < 140737488355328 then ((crc_Seal.f (bt142.1 ++ bt135.1)).bind fun t149 => (some (t149, 0))) else (none)) else (some (([] : List Int), 160)))) else (some (([] : List Int), 160)))) else (some (([] : List Int), 160)))) = some (r1, r2) := h
 clear h
 replace H := Option.bind_eq_some_iff.mp H
 obtain ⟨t134, A20, H⟩ := H
 (try dsimp only at H)
 have A2 := Aside0.mk A20
 clear A20
 by_cases c3 : t134 = true
 ·subst c3
  rw [if_pos rfl] at H
  replace H := Option.bind_eq_some_iff.mp H
  obtain ⟨⟨t135, t138⟩, A40, H⟩ := H
  (try dsimp only at H)
  have A4 := Aside0.mk A40
  clear A40
  by_cases c5 : t138 = 0
  ·rw [if_pos c5] at H
   have c5b0 : (t138 == 0) = true := beq_iff_eq.mpr c5
   have c5b1 : (t138 != 0) = false := bne_eq_false_iff_eq.mpr c5
   clear c5
   obtain ⟨y139, hy139⟩ : ∃ y_ : List Int, y_ = (([IntKind.u64.wrap (a0_0), IntKind.u64.wrap ((t135.length : Int))] : List Int)) := ⟨_, rfl⟩
   replace H : ((le_Pack.f (⟨#[98, 104]⟩ : ByteArray) y139).bind fun bt142 => (if bt142.2 = 0 then (if bt142.1.length + t135.length < 140737488355328 then ((crc_Seal.f (bt142.1 ++ t135)).bind fun t149 => (some (t149, 0))) else (none)) else (some (([] : List Int), 160)))) = some (r1, r2) := by first | (rw [hy139]; with_reducible exact H) | (have H2_ := (Option.bind_some _ _).symm.trans H; rw [hy139]; with_reducible exact H2_) | (have H2_ := (Option.bind_some _ _).symm.trans H; with_reducible exact H2_) | with_reducible exact H | (rw [hy139]; exact H) | exact H
   have Ny139 := Aside0.mk hy139
   clear hy139
   replace H := Option.bind_eq_some_iff.mp H
   obtain ⟨⟨t142, t143⟩, A60, H⟩ := H
   (try dsimp only at H)
   have A6 := Aside0.mk A60
   clear A60
   by_cases c7 : t143 = 0
   ·rw [if_pos c7] at H
    have c7b0 : (t143 == 0) = true := beq_iff_eq.mpr c7
    have c7b1 : (t143 != 0) = false := bne_eq_false_iff_eq.mpr c7
    clear c7
    by_cases c8 : t142.length + t135.length < 140737488355328
    ·rw [if_pos c8] at H
     have LMc8 := Aside0.mk c8
     clear c8
     obtain ⟨y146, hy146⟩ : ∃ y_ : List Int, y_ = (t142 ++ t135) := ⟨_, rfl⟩
     replace H : ((crc_Seal.f y146).bind fun t149 => (some (t149, 0))) = some (r1, r2) := by first | (rw [hy146]; with_reducible exact H) | (have H2_ := (Option.bind_some _ _).symm.trans H; rw [hy146]; with_reducible exact H2_) | (have H2_ := (Option.bind_some _ _).symm.trans H; with_reducible exact H2_) | with_reducible exact H | (rw [hy146]; exact H) | exact H
     have Ny146 := Aside0.mk hy146
     clear hy146
     replace H := Option.bind_eq_some_iff.mp H
     obtain ⟨t149, A90, H⟩ := H
     (try dsimp only at H)
     have A9 := Aside0.mk A90
     clear A90
     simp only [Option.some.injEq, Prod.mk.injEq] at H
     obtain ⟨rfl, rfl⟩ := H
     go_enter Try.func19, Try.ntmps19
     go_wp2_with (first | ((with_reducible refine gate_dst (N := 1) rfl ?_); refine Cz.bx (N := 1) #[.int .i64 a0_0, .int .i64 a0_1, .int .i64 a0_2, .slice A0_3 l0_3.length c0_3, .int .i64 a0_4, .int .i64 a0_5, .int .i64 a0_6] 38 ?_; intro gb133 hg w10 hbox hb; have BK133 := Aside0.mk (hbox); have GW133 := Aside0.mk ((Cz.gs hg : w.heap.size ≤ gb133)); have GE133 := GW133; replace HB := Cz.bs (w := w) hb; clear hb hbox hg; obtain ⟨z11_0, z11_1, z11_2, z11_3, z11_4, z11_5, z11_6, y11_0, y11_1, y11_2, y11_3, y11_4, y11_5, y11_6⟩ := Cz.d7 BK133) | ((with_reducible refine gate_callee (f := 24) rfl ?_); refine Cz.gL (N := (some 8)) Try.func24 #[.agg #[.int .i64 a0_0, .int .i64 a0_1, .int .i64 a0_2, .slice A0_3 l0_3.length c0_3, .int .i64 a0_4, .int .i64 a0_5, .int .i64 a0_6]] ?_; (with_reducible refine (frame_Check.calls a0_0 a0_1 a0_2 _ _ l0_3 a0_4 a0_5 a0_6 true _ ?side1 ?side2 A2.out).mono ?_); (case side1 => exact Cz.cb HR0_3); (case side2 => exact HC0_3.out); rintro e w12 ⟨rfl, hb⟩; refine ⟨_, rfl, ?_⟩; replace BK133 := Cz.bk BK133 hb; replace HB := Cz.bs (w := w) hb; (try clear hb); obtain ⟨z13_0, z13_1, z13_2, z13_3, z13_4, z13_5, z13_6, y13_0, y13_1, y13_2, y13_3, y13_4, y13_5, y13_6⟩ := Cz.d7 BK133) | ((with_reducible refine gate_dst (N := 12) rfl ?_); refine frame_Text.arm a0_0 a0_1 a0_2 _ _ l0_3 a0_4 a0_5 a0_6 t135 t138 rfl rfl rfl rfl rfl (by rfl) rfl (by first | decide | simp) ?side1 ?side2 A4.out ?_; (case side1 => exact Cz.cb HR0_3); (case side2 => exact HC0_3.out); intro V_ v136 w14 ho0 hb; have HO137 := Aside0.mk (Kd.R_lower ho0 (below_size (Cz.bl (w := w)))); replace BK133 := Cz.bk BK133 hb; replace HB := Cz.bs (w := w) hb; (try clear hb); (try clear ho0); obtain ⟨z15_0, z15_1, z15_2, z15_3, z15_4, z15_5, z15_6, y15_0, y15_1, y15_2, y15_3, y15_4, y15_5, y15_6⟩ := Cz.d7 BK133; obtain ⟨Ao16, co16, eo16⟩ := Kd.R_slice HO137.out; subst eo16) | ((with_reducible refine gate_dst (N := 25) rfl ?_); refine Kd.R_lit (Kd.int .u64) _ 68 ?hg (N := 25) ?hd (xs := ([IntKind.u64.wrap (a0_0), IntKind.u64.wrap ((t135.length : Int))] : List Int)) (inner := [.int .u64 (IntKind.u64.wrap (a0_0)), .int .u64 (IntKind.u64.wrap ((t135.length : Int)))]) (ok := fun _ => True) (okp := fun _ => True) ?hr ?hp (fun _ hk => hk) trivial (Below.refl _ _) (Nat.le_refl _) (by simp) ?_; (case hd => rfl); (case hg => rfl); (case hr => first | (go_simp; done) | (go_simp; rfl)); (case hp => exact (Reps.one (show Kd.M (Kd.int .u64) _ _ _ (IntKind.u64.wrap (a0_0)) [.int .u64 (IntKind.u64.wrap (a0_0))] from rfl) (Reps.one (show Kd.M (Kd.int .u64) _ _ _ (IntKind.u64.wrap ((t135.length : Int))) [.int .u64 (IntKind.u64.wrap ((t135.length : Int)))] from rfl) (Reps.none _ _)))); intro v140 w17 ho18 hb hg_ hnew_; clear hg_ hnew_; (first | rw [← Ny139.out] at ho18 | (simp only [Int.reduceToNat] at ho18; rw [← Ny139.out] at ho18)); have HO141 := Aside0.mk (Kd.R_lower ho18 (below_size (Cz.bl (w := w)))); replace HO137 := Cz.rb HO137 hb; replace BK133 := Cz.bk BK133 hb; replace HB := Cz.bs (w := w) hb; clear hb ho18; obtain ⟨Ao19, co19, eo19⟩ := Kd.R_slice HO141.out; subst eo19) | ((with_reducible refine gate_callee (f := 39) rfl ?_); refine Cz.gL (N := (some 26)) Try.func39 #[.string (⟨#[98, 104]⟩ : ByteArray), .slice Ao19 y139.length co19] ?_; (with_reducible refine (le_Pack.calls (⟨#[98, 104]⟩ : ByteArray) _ _ y139 t142 t143 _ ?side1 ?side2 A6.out).mono ?_); (case side1 => repeat (first | exact (Kd.R_reads' HO141.out).2.2 | (with_reducible refine Kd.C_alloc ?_ _) | (with_reducible refine Kd.C_drewN ?_ _) | (with_reducible refine Kd.C_drew ?_))); (case side2 => exact (Kd.R_reads' HO141.out).2.1); rintro e w20 ⟨v144, rfl, ho0, hb⟩; refine ⟨_, rfl, ?_⟩; have HO145 := Aside0.mk (Kd.R_lower (Kd.R_new' ho0 (Kd.R_lt (by (with_reducible repeat (first | apply Kd.R_alloc | apply Kd.R_drewN | apply Kd.R_drew)); exact HO137.out))) (below_size (Cz.bl (w := w)))); replace HO137 := Aside0.mk (Kd.R_elder' (Cz.rq HO137) (Kd.R_base ho0) hb); replace HO141 := Cz.rb HO141 hb; replace BK133 := Cz.bk BK133 hb; replace HB := Cz.bs (w := w) hb; (try clear hb); (try clear ho0)) | ((with_reducible refine gate_builtin (b := .append) (xs := #[.tmp 31, .tmp 32]) rfl ?_); at_builtin; refine Kd.R_append_rows (Kd.int .u8) (w0 := w) w.heap.size rfl (.tmp 31) (.tmp 32) 27 5 (.int .u8 0) 1 rfl Try.underlying27 info5 rfl (by decide) (by omega) v144 t142 t135 _ _ _ (fun k_ => some k_ ≠ (.slice Ao16 t135.length co16 : Value).ownBlock) (fun _ => False) rfl rfl ?aO ?aR (fun _ _ h => h) (fun _ h => h.elim) ?aF ?aB ?aS ?aL ?_; (case aR => repeat (first | exact (Kd.R_reads' HO137.out).2.2 | (with_reducible refine Kd.C_alloc ?_ _) | (with_reducible refine Kd.C_drewN ?_ _) | (with_reducible refine Kd.C_drew ?_))); (case aB => exact (Cz.bl (w := w))); (case aF => exact (fun k_ hk => Kd.fresh' (Kd.R_lt (by (with_reducible repeat (first | apply Kd.R_alloc | apply Kd.R_drewN | apply Kd.R_drew)); exact HO137.out)) k_ hk)); (case aO => exact (by (with_reducible repeat (first | apply Kd.R_alloc | apply Kd.R_drewN | apply Kd.R_drew)); exact Kd.R_mono HO145.out (fun _ hk => hk.2))); (case aS => exact (below_size (Cz.bl (w := w)))); (case aL => have := LMc8.out; omega); intro v147 w21 ho hb hg hat; rw [← Ny146.out] at ho; have HO148 := Aside0.mk (ho); replace BK133 := Cz.bw BK133 hg (Kd.R_ne HO145.out BK133.out (by decide)); replace HO137 := Aside0.mk (Kd.R_after (ok := (fun _ => True)) (by (with_reducible repeat (first | apply Kd.R_alloc | apply Kd.R_drewN | apply Kd.R_drew)); exact HO137.out) hg hat); replace HO141 := Aside0.mk (Kd.R_over' (by (with_reducible repeat (first | apply Kd.R_alloc | apply Kd.R_drewN | apply Kd.R_drew)); exact HO141.out) (Kd.R_typed (by (with_reducible repeat (first | apply Kd.R_alloc | apply Kd.R_drewN | apply Kd.R_drew)); exact HO145.out)) (by decide) hg); replace HB := Aside0.mk (hb); clear HO145; clear ho hb hg hat; obtain ⟨Ao22, co22, eo22⟩ := Kd.R_slice HO148.out; subst eo22) | ((with_reducible refine gate_callee (f := 40) rfl ?_); refine Cz.gL (N := (some 34)) Try.func40 #[.slice Ao22 y146.length co22] ?_; (with_reducible refine (crc_Seal.calls _ _ y146 t149 _ ?side1 ?side2 A9.out).mono ?_); (case side1 => repeat (first | exact (Kd.R_reads' HO148.out).2.2 | (with_reducible refine Kd.C_alloc ?_ _) | (with_reducible refine Kd.C_drewN ?_ _) | (with_reducible refine Kd.C_drew ?_))); (case side2 => exact (Kd.R_reads' HO148.out).2.1); rintro e w23 ⟨v150, rfl, ho0, hb⟩; refine ⟨_, rfl, ?_⟩; have HO151 := Aside0.mk (Kd.R_lower (Kd.R_new' (Kd.R_new' ho0 (Kd.R_lt (by (with_reducible repeat (first | apply Kd.R_alloc | apply Kd.R_drewN | apply Kd.R_drew)); exact HO137.out))) (Kd.R_lt (by (with_reducible repeat (first | apply Kd.R_alloc | apply Kd.R_drewN | apply Kd.R_drew)); exact HO148.out))) (below_size (Cz.bl (w := w)))); replace HO137 := Aside0.mk (Kd.R_elder' (Cz.rq HO137) (Kd.R_base ho0) hb); replace HO141 := Cz.rb HO141 hb; replace HO148 := Aside0.mk (Kd.R_elder' (Cz.rq HO148) (Kd.R_base ho0) hb); replace BK133 := Cz.bk BK133 hb; replace HB := Cz.bs (w := w) hb; (try clear hb); (try clear ho0)))
     go_ret2
     exact ⟨_, Cz.er, by (with_reducible repeat (first | apply Kd.R_alloc | apply Kd.R_drewN | apply Kd.R_drew)); exact Kd.R_mono HO151.out (fun _ hk => trivial), Cz.bl (w := w)⟩
    ·rw [if_neg c8] at H
     exact absurd H (by simp)
   ·rw [if_neg c7] at H
    have c7b0 : (t143 == 0) = false := beq_eq_false_iff_ne.mpr c7
    have c7b1 : (t143 != 0) = true := bne_iff_ne.mpr c7
    simp only [Option.some.injEq, Prod.mk.injEq] at H
    obtain ⟨rfl, rfl⟩ := H
    go_enter Try.func19, Try.ntmps19
    go_wp2_with (first | ((with_reducible refine gate_dst (N := 1) rfl ?_); refine Cz.bx (N := 1) #[.int .i64 a0_0, .int .i64 a0_1, .int .i64 a0_2, .slice A0_3 l0_3.length c0_3, .int .i64 a0_4, .int .i64 a0_5, .int .i64 a0_6] 38 ?_; intro gb133 hg w24 hbox hb; have BK133 := Aside0.mk (hbox); have GW133 := Aside0.mk ((Cz.gs hg : w.heap.size ≤ gb133)); have GE133 := GW133; replace HB := Cz.bs (w := w) hb; clear hb hbox hg; obtain ⟨z25_0, z25_1, z25_2, z25_3, z25_4, z25_5, z25_6, y25_0, y25_1, y25_2, y25_3, y25_4, y25_5, y25_6⟩ := Cz.d7 BK133) | ((with_reducible refine gate_callee (f := 24) rfl ?_); refine Cz.gL (N := (some 8)) Try.func24 #[.agg #[.int .i64 a0_0, .int .i64 a0_1, .int .i64 a0_2, .slice A0_3 l0_3.length c0_3, .int .i64 a0_4, .int .i64 a0_5, .int .i64 a0_6]] ?_; (with_reducible refine (frame_Check.calls a0_0 a0_1 a0_2 _ _ l0_3 a0_4 a0_5 a0_6 true _ ?side1 ?side2 A2.out).mono ?_); (case side1 => exact Cz.cb HR0_3); (case side2 => exact HC0_3.out); rintro e w26 ⟨rfl, hb⟩; refine ⟨_, rfl, ?_⟩; replace BK133 := Cz.bk BK133 hb; replace HB := Cz.bs (w := w) hb; (try clear hb); obtain ⟨z27_0, z27_1, z27_2, z27_3, z27_4, z27_5, z27_6, y27_0, y27_1, y27_2, y27_3, y27_4, y27_5, y27_6⟩ := Cz.d7 BK133) | ((with_reducible refine gate_dst (N := 12) rfl ?_); refine frame_Text.arm a0_0 a0_1 a0_2 _ _ l0_3 a0_4 a0_5 a0_6 t135 t138 rfl rfl rfl rfl rfl (by rfl) rfl (by first | decide | simp) ?side1 ?side2 A4.out ?_; (case side1 => exact Cz.cb HR0_3); (case side2 => exact HC0_3.out); intro V_ v136 w28 ho0 hb; have HO137 := Aside0.mk (Kd.R_lower ho0 (below_size (Cz.bl (w := w)))); replace BK133 := Cz.bk BK133 hb; replace HB := Cz.bs (w := w) hb; (try clear hb); (try clear ho0); obtain ⟨z29_0, z29_1, z29_2, z29_3, z29_4, z29_5, z29_6, y29_0, y29_1, y29_2, y29_3, y29_4, y29_5, y29_6⟩ := Cz.d7 BK133; obtain ⟨Ao30, co30, eo30⟩ := Kd.R_slice HO137.out; subst eo30) | ((with_reducible refine gate_dst (N := 25) rfl ?_); refine Kd.R_lit (Kd.int .u64) _ 68 ?hg (N := 25) ?hd (xs := ([IntKind.u64.wrap (a0_0), IntKind.u64.wrap ((t135.length : Int))] : List Int)) (inner := [.int .u64 (IntKind.u64.wrap (a0_0)), .int .u64 (IntKind.u64.wrap ((t135.length : Int)))]) (ok := fun _ => True) (okp := fun _ => True) ?hr ?hp (fun _ hk => hk) trivial (Below.refl _ _) (Nat.le_refl _) (by simp) ?_; (case hd => rfl); (case hg => rfl); (case hr => first | (go_simp; done) | (go_simp; rfl)); (case hp => exact (Reps.one (show Kd.M (Kd.int .u64) _ _ _ (IntKind.u64.wrap (a0_0)) [.int .u64 (IntKind.u64.wrap (a0_0))] from rfl) (Reps.one (show Kd.M (Kd.int .u64) _ _ _ (IntKind.u64.wrap ((t135.length : Int))) [.int .u64 (IntKind.u64.wrap ((t135.length : Int)))] from rfl) (Reps.none _ _)))); intro v140 w31 ho32 hb hg_ hnew_; clear hg_ hnew_; (first | rw [← Ny139.out] at ho32 | (simp only [Int.reduceToNat] at ho32; rw [← Ny139.out] at ho32)); have HO141 := Aside0.mk (Kd.R_lower ho32 (below_size (Cz.bl (w := w)))); replace HO137 := Cz.rb HO137 hb; replace BK133 := Cz.bk BK133 hb; replace HB := Cz.bs (w := w) hb; clear hb ho32; obtain ⟨Ao33, co33, eo33⟩ := Kd.R_slice HO141.out; subst eo33) | ((with_reducible refine gate_callee (f := 39) rfl ?_); refine Cz.gL (N := (some 26)) Try.func39 #[.string (⟨#[98, 104]⟩ : ByteArray), .slice Ao33 y139.length co33] ?_; (with_reducible refine (le_Pack.calls (⟨#[98, 104]⟩ : ByteArray) _ _ y139 t142 t143 _ ?side1 ?side2 A6.out).mono ?_); (case side1 => repeat (first | exact (Kd.R_reads' HO141.out).2.2 | (with_reducible refine Kd.C_alloc ?_ _) | (with_reducible refine Kd.C_drewN ?_ _) | (with_reducible refine Kd.C_drew ?_))); (case side2 => exact (Kd.R_reads' HO141.out).2.1); rintro e w34 ⟨v144, rfl, ho0, hb⟩; refine ⟨_, rfl, ?_⟩; have HO145 := Aside0.mk (Kd.R_lower (Kd.R_new' ho0 (Kd.R_lt (by (with_reducible repeat (first | apply Kd.R_alloc | apply Kd.R_drewN | apply Kd.R_drew)); exact HO137.out))) (below_size (Cz.bl (w := w)))); replace HO137 := Aside0.mk (Kd.R_elder' (Cz.rq HO137) (Kd.R_base ho0) hb); replace HO141 := Cz.rb HO141 hb; replace BK133 := Cz.bk BK133 hb; replace HB := Cz.bs (w := w) hb; (try clear hb); (try clear ho0)))
    go_ret2
    exact ⟨_, Cz.er, by first | exact Kd.R_nil _ _ _ _ _ | exact Kd.N_nil _ _ _ _ _ | exact Kd.V_nil _ _ _ _ _ | exact Kd.Q_nil _ _ _ _ _ | exact Kd.S_nil _ _ _ _ _, Cz.bl (w := w)⟩
  ·rw [if_neg c5] at H
   have c5b0 : (t138 == 0) = false := beq_eq_false_iff_ne.mpr c5
   have c5b1 : (t138 != 0) = true := bne_iff_ne.mpr c5
   simp only [Option.some.injEq, Prod.mk.injEq] at H
   obtain ⟨rfl, rfl⟩ := H
   go_enter Try.func19, Try.ntmps19
   go_wp2_with (first | ((with_reducible refine gate_dst (N := 1) rfl ?_); refine Cz.bx (N := 1) #[.int .i64 a0_0, .int .i64 a0_1, .int .i64 a0_2, .slice A0_3 l0_3.length c0_3, .int .i64 a0_4, .int .i64 a0_5, .int .i64 a0_6] 38 ?_; intro gb133 hg w35 hbox hb; have BK133 := Aside0.mk (hbox); have GW133 := Aside0.mk ((Cz.gs hg : w.heap.size ≤ gb133)); have GE133 := GW133; replace HB := Cz.bs (w := w) hb; clear hb hbox hg; obtain ⟨z36_0, z36_1, z36_2, z36_3, z36_4, z36_5, z36_6, y36_0, y36_1, y36_2, y36_3, y36_4, y36_5, y36_6⟩ := Cz.d7 BK133) | ((with_reducible refine gate_callee (f := 24) rfl ?_); refine Cz.gL (N := (some 8)) Try.func24 #[.agg #[.int .i64 a0_0, .int .i64 a0_1, .int .i64 a0_2, .slice A0_3 l0_3.length c0_3, .int .i64 a0_4, .int .i64 a0_5, .int .i64 a0_6]] ?_; (with_reducible refine (frame_Check.calls a0_0 a0_1 a0_2 _ _ l0_3 a0_4 a0_5 a0_6 true _ ?side1 ?side2 A2.out).mono ?_); (case side1 => exact Cz.cb HR0_3); (case side2 => exact HC0_3.out); rintro e w37 ⟨rfl, hb⟩; refine ⟨_, rfl, ?_⟩; replace BK133 := Cz.bk BK133 hb; replace HB := Cz.bs (w := w) hb; (try clear hb); obtain ⟨z38_0, z38_1, z38_2, z38_3, z38_4, z38_5, z38_6, y38_0, y38_1, y38_2, y38_3, y38_4, y38_5, y38_6⟩ := Cz.d7 BK133) | ((with_reducible refine gate_dst (N := 12) rfl ?_); refine frame_Text.arm a0_0 a0_1 a0_2 _ _ l0_3 a0_4 a0_5 a0_6 t135 t138 rfl rfl rfl rfl rfl (by rfl) rfl (by first | decide | simp) ?side1 ?side2 A4.out ?_; (case side1 => exact Cz.cb HR0_3); (case side2 => exact HC0_3.out); intro V_ v136 w39 ho0 hb; have HO137 := Aside0.mk (Kd.R_lower ho0 (below_size (Cz.bl (w := w)))); replace BK133 := Cz.bk BK133 hb; replace HB := Cz.bs (w := w) hb; (try clear hb); (try clear ho0)))
   go_ret2
   exact ⟨_, Cz.er, by first | exact Kd.R_nil _ _ _ _ _ | exact Kd.N_nil _ _ _ _ _ | exact Kd.V_nil _ _ _ _ _ | exact Kd.Q_nil _ _ _ _ _ | exact Kd.S_nil _ _ _ _ _, Cz.bl (w := w)⟩
 ·replace c3 := Bool.eq_false_iff.mpr c3
  subst c3
  rw [if_neg (show ¬ (false = true) by decide)] at H
  simp only [Option.some.injEq, Prod.mk.injEq] at H
  obtain ⟨rfl, rfl⟩ := H
  go_enter Try.func19, Try.ntmps19
  go_wp2_with (first | ((with_reducible refine gate_dst (N := 1) rfl ?_); refine Cz.bx (N := 1) #[.int .i64 a0_0, .int .i64 a0_1, .int .i64 a0_2, .slice A0_3 l0_3.length c0_3, .int .i64 a0_4, .int .i64 a0_5, .int .i64 a0_6] 38 ?_; intro gb133 hg w40 hbox hb; have BK133 := Aside0.mk (hbox); have GW133 := Aside0.mk ((Cz.gs hg : w.heap.size ≤ gb133)); have GE133 := GW133; replace HB := Cz.bs (w := w) hb; clear hb hbox hg; obtain ⟨z41_0, z41_1, z41_2, z41_3, z41_4, z41_5, z41_6, y41_0, y41_1, y41_2, y41_3, y41_4, y41_5, y41_6⟩ := Cz.d7 BK133) | ((with_reducible refine gate_callee (f := 24) rfl ?_); refine Cz.gL (N := (some 8)) Try.func24 #[.agg #[.int .i64 a0_0, .int .i64 a0_1, .int .i64 a0_2, .slice A0_3 l0_3.length c0_3, .int .i64 a0_4, .int .i64 a0_5, .int .i64 a0_6]] ?_; (with_reducible refine (frame_Check.calls a0_0 a0_1 a0_2 _ _ l0_3 a0_4 a0_5 a0_6 false _ ?side1 ?side2 A2.out).mono ?_); (case side1 => exact Cz.cb HR0_3); (case side2 => exact HC0_3.out); rintro e w42 ⟨rfl, hb⟩; refine ⟨_, rfl, ?_⟩; replace BK133 := Cz.bk BK133 hb; replace HB := Cz.bs (w := w) hb; (try clear hb)))
  go_ret2
  exact ⟨_, Cz.er, by first | exact Kd.R_nil _ _ _ _ _ | exact Kd.N_nil _ _ _ _ _ | exact Kd.V_nil _ _ _ _ _ | exact Kd.Q_nil _ _ _ _ _ | exact Kd.S_nil _ _ _ _ _, Cz.bl (w := w)⟩
def frame_Write.f (a0_0 a0_1 a0_2 : Int) (l0_3 : List Int) (a0_4 a0_5 a0_6 : Int) : Option (List Int × Int) := if Pl.byteB l0_3 = true then some (Pl.fwriteS a0_0 a0_1 a0_2 l0_3 a0_4 a0_5 a0_6) else none
theorem frame_Write.tells {a0_0 a0_1 a0_2 : Int} {l0_3 : List Int} {a0_4 a0_5 a0_6 : Int} (h0 : Pl.byteB l0_3 = true) : frame_Write.f a0_0 a0_1 a0_2 l0_3 a0_4 a0_5 a0_6 = some (Pl.fwriteS a0_0 a0_1 a0_2 l0_3 a0_4 a0_5 a0_6) := if_pos h0
theorem frame_Write.closes {a0_0 a0_1 a0_2 : Int} {l0_3 : List Int} {a0_4 a0_5 a0_6 : Int} {r : List Int × Int} (h : frame_Write.f a0_0 a0_1 a0_2 l0_3 a0_4 a0_5 a0_6 = some r) : frame_Write_p.f a0_0 a0_1 a0_2 l0_3 a0_4 a0_5 a0_6 = some r := by
 unfold frame_Write.f at h
 split at h
 case isFalse => cases h
 rename_i hh
 rw [← h]
 unfold frame_Write_p.f
 rw [frame_Check.tells hh, Option.bind_some, Pl.fwriteS]
 by_cases ho : Pl.frOk a0_0 a0_1 a0_2 l0_3 a0_4 a0_5 a0_6 = true
 rotate_left
 ·rw [if_neg ho, if_neg ho]
 have hk := Pl.frOk_kind ho
 have ht := Pl.frT_le ho
 have htb : Pl.byteB (Pl.frT a0_0 a0_1 a0_2 l0_3 a0_4 a0_5 a0_6) = true := Pl.frT_byte hh
 rw [if_pos ho, if_pos ho, frame_Text.f, if_pos ho, Option.bind_some, if_pos rfl]
 dsimp only
 generalize hT : Pl.frT a0_0 a0_1 a0_2 l0_3 a0_4 a0_5 a0_6 = T at ht htb
 have hp : le_Pack.f (⟨#[98, 104]⟩ : ByteArray) [IntKind.u64.wrap a0_0, IntKind.u64.wrap (T.length : Int)] = some (Pl.leB 1 a0_0.toNat ++ Pl.leB 2 T.length, 0) := by
  unfold le_Pack.f
  rw [show IntKind.u64.wrap a0_0 = a0_0 by rw [IntKind.wrap_u64]; omega, show IntKind.u64.wrap (T.length : Int) = (T.length : Int) by rw [IntKind.wrap_u64]; omega, if_pos ⟨Pl.u64B_iff.2 (by
   intro x hx
   simp only [List.mem_cons, List.not_mem_nil, or_false] at hx
   omega), by decide⟩, show Pl.fb (⟨#[98, 104]⟩ : ByteArray) = [98, 104] from by kernel_rfl, Pl.pack_bh (by omega) (by omega)]
  rfl
 rw [hp, Option.bind_some, if_pos rfl]
 dsimp only
 rw [if_pos (by rw [List.length_append, Pl.leB_length, Pl.leB_length]; omega)]
 unfold crc_Seal.f
 rw [if_pos ⟨by rw [Pl.byteB_append, Pl.byteB_append, Pl.leB_byte, Pl.leB_byte, htb]; rfl, by rw [List.length_append, List.length_append, Pl.leB_length, Pl.leB_length]; omega⟩, Option.bind_some, Pl.frW, hT, Pl.frB, List.append_assoc]
theorem frame_Write.calls (a0_0 : Int) (a0_1 : Int) (a0_2 : Int) (A0_3 : Option Addr) (c0_3 : Nat) (l0_3 : List Int) (a0_4 : Int) (a0_5 : Int) (a0_6 : Int) (r1 : List Int) (r2 : Int) (w : World) (hr0_3 : Kd.C (Kd.int .u8) w A0_3 l0_3.length l0_3) (hc0_3 : l0_3.length ≤ c0_3) (h : frame_Write.f a0_0 a0_1 a0_2 l0_3 a0_4 a0_5 a0_6 = some (r1, r2)) :
  Calls Try.prog 19 #[.agg #[.int .i64 a0_0, .int .i64 a0_1, .int .i64 a0_2, .slice A0_3 l0_3.length c0_3, .int .i64 a0_4, .int .i64 a0_5, .int .i64 a0_6]] w fun e w' => ∃ v0_ : Value, e = .returned (.tuple #[v0_, .int .i64 r2]) ∧ Kd.R (Kd.int .u8) 5 w' w.heap.size (fun _ => True) v0_ r1 ∧ Below w.heap.size w w' :=
 frame_Write_p.calls a0_0 a0_1 a0_2 A0_3 c0_3 l0_3 a0_4 a0_5 a0_6 r1 r2 w hr0_3 hc0_3 (frame_Write.closes h)
def stPut (go ge gm : Nat) (vo : Value) : Nat → Prop := fun k => k = go ∨ k = ge ∨ k = gm ∨ some k = vo.ownBlock
set_option maxHeartbeats 4000000 in
set_option maxRecDepth 2000000 in
theorem stream_Write_1.calls (go ge gm b0 : Nat) (vo : Value) (xs : List Int) (many k a n : Int) (A : Option Addr) (c : Nat) (d : List Int) (x y z : Int) (r1 : List Int) (w : World)
  (hgo : w.heap[go]? = some (.cells #[vo] 27 (0, 0))) (hge : w.heap[ge]? = some (.cells #[.int .i64 0] 28 (0, 0))) (hgm : w.heap[gm]? = some (.cells #[.int .i64 many] 3 (0, 0))) (b1 : b0 ≤ go) (b2 : b0 ≤ ge) (b3 : b0 ≤ gm)
  (hxs : Kd.R (Kd.int .u8) 5 w b0 (fun _ => True) vo xs) (hr : Kd.C (Kd.int .u8) w A d.length d) (hc : d.length ≤ c) (h : frame_Write.f k a n d x y z = some (r1, 0)) (hl : xs.length + r1.length < 140737488355328) :
  Calls Try.prog 33 #[.agg #[.int .i64 k, .int .i64 a, .int .i64 n, .slice A d.length c, .int .i64 x, .int .i64 y, .int .i64 z], .pointer (some ⟨go, 0, none⟩), .pointer (some ⟨ge, 0, none⟩), .pointer (some ⟨gm, 0, none⟩)] w fun e w' => (∃ u, e = .returned u) ∧ ∃ v1, w'.heap[go]? = some (.cells #[v1] 27 (0, 0)) ∧ w'.heap[ge]? = some (.cells #[.int .i64 0] 28 (0, 0)) ∧ w'.heap[gm]? = some (.cells #[.int .i64 (wrap64 (many + 1))] 3 (0, 0)) ∧ Kd.R (Kd.int .u8) 5 w' b0 (fun _ => True) v1 (xs ++ r1) ∧ Below b0 w w' ∧ Kept w w' (stPut go ge gm vo) := by
 have hu38 := Try.underlying38
 have BO := Aside0.mk hgo
 have BE := Aside0.mk hge
 have BM := Aside0.mk hgm
 have B1 := Aside0.mk b1
 have B2 := Aside0.mk b2
 have B3 := Aside0.mk b3
 have HO := Aside0.mk hxs
 have HR := Aside0.mk hr
 have HC := Aside0.mk hc
 have H := Aside0.mk h
 have HL := Aside0.mk hl
 have HB := Aside0.mk (Below.refl b0 w)
 have HK := Aside0.mk (Kept.refl w (stPut go ge gm vo))
 have NE := Aside0.mk (show go ≠ ge from blk_ne BO.out BE.out (by decide))
 have NM := Aside0.mk (show go ≠ gm from blk_ne BO.out BM.out (by decide))
 have NX := Aside0.mk (show ge ≠ gm from blk_ne BE.out BM.out (by decide))
 obtain ⟨ys, hy⟩ : ∃ ys, ys = xs ++ r1 := ⟨_, rfl⟩
 have NY := Aside0.mk hy
 clear hy
 clear hgo hge hgm b1 b2 b3 hxs hr hc h hl
 have hS := Aside0.mk (show b0 ≤ w.heap.size from Nat.le_of_lt (Nat.lt_of_le_of_lt B1.out (blk_lt BO.out)))
 go_enter Try.func33, Try.ntmps33
 go_wp2_with (first | ((with_reducible refine gate_dst (N := 4) rfl ?_); refine Cz.bx (N := 4) #[.int .i64 k, .int .i64 a, .int .i64 n, .slice A d.length c, .int .i64 x, .int .i64 y, .int .i64 z] 38 ?_; intro gf hg w1 hbox hb; clear hg; have m_BO := Aside0.mk (blk_below BO.out hb); have m_BE := Aside0.mk (blk_below BE.out hb); have m_BM := Aside0.mk (blk_below BM.out hb); have m_HO := Aside0.mk (Kd.R_below HO.out hb); have m_HR := Aside0.mk (Kd.C_below HR.out hb); have m_HB := Aside0.mk (below_then HB.out hS.out hb); have m_HK := Aside0.mk (HK.out.below hb); have m_hS := Aside0.mk (Nat.le_trans hS.out hb.size); clear BO BE BM HO HR HB HK hS; have BO := m_BO; have BE := m_BE; have BM := m_BM; have HO := m_HO; have HR := m_HR; have HB := m_HB; have HK := m_HK; have hS := m_hS; clear m_BO m_BE m_BM m_HO m_HR m_HB m_HK m_hS; have BF := Aside0.mk hbox; clear hbox hb; obtain ⟨hcz0, hcz1, hcz2, hcz3, hcz4, hcz5, hcz6, hfz0, hfz1, hfz2, hfz3, hfz4, hfz5, hfz6⟩ := Cz.d7 BF))
 refine (frame_Write.calls k a n A c d x y z r1 0 _ HR.out HC.out H.out).mono ?_
 rintro e' w2 ⟨v, rfl, ho, hb⟩
 obtain ⟨Ab, cb, rfl⟩ := Kd.R_slice ho
 have m_BO := Aside0.mk (blk_below BO.out hb)
 have m_BE := Aside0.mk (blk_below BE.out hb)
 have m_BM := Aside0.mk (blk_below BM.out hb)
 have m_HO := Aside0.mk (Kd.R_elder' HO.out (Kd.R_base ho) hb)
 have m_HB := Aside0.mk (below_then HB.out hS.out hb)
 have m_HK := Aside0.mk (HK.out.below hb)
 have m_hS := Aside0.mk (Nat.le_trans hS.out hb.size)
 clear BO BE BM HO HB HK hS
 have BO := m_BO
 have BE := m_BE
 have BM := m_BM
 have HO := m_HO
 have HB := m_HB
 have HK := m_HK
 have hS := m_hS
 clear m_BO m_BE m_BM m_HO m_HB m_HK m_hS
 have HOb := Aside0.mk ho
 clear ho hb BF HR HC H hcz0 hfz0 hcz1 hfz1 hcz2 hfz2 hcz3 hfz3 hcz4 hfz4 hcz5 hfz5 hcz6 hfz6
 go_wp2_with fail
 have m_BO := Aside0.mk (blk_drew BO.out)
 have m_BE := Aside0.mk (blk_drew BE.out)
 have m_BM := Aside0.mk (blk_drew BM.out)
 have m_HO := Aside0.mk (Kd.R_drew HO.out)
 have m_HOb := Aside0.mk (Kd.R_drew HOb.out)
 have m_HB := Aside0.mk (below_drew HB.out)
 have m_HK := Aside0.mk (HK.out.drew)
 have m_hS := Aside0.mk (show b0 ≤ w2.drew.heap.size from hS.out)
 clear BO BE BM HO HOb HB HK hS
 have BO := m_BO
 have BE := m_BE
 have BM := m_BM
 have HO := m_HO
 have HOb := m_HOb
 have HB := m_HB
 have HK := m_HK
 have hS := m_hS
 clear m_BO m_BE m_BM m_HO m_HOb m_HB m_HK m_hS
 refine start_ (n := 8) (S := fun w' => w'.cell? ⟨ge, 0, none⟩ = some (.int .i64 0)) (ds := [7]) #[false, false, false, false, false, false, false, false] (by kernel_rfl) rfl rfl (((blk_cell BE.out 0).trans rfl)) (fun hHeld => ?_)
 generalize w2.drew = wq at BO BE BM HO HOb HB HK hS hHeld ⊢
 have hco : wq.cell? ⟨go, 0, none⟩ = some vo := (blk_cell BO.out 0).trans rfl
 have hfo := blk_frozen BO.out 0
 refine Cz.rP 1 13 ?_
 refine Cz.rP 4 16 ?_
 refine take_ (i := 3) (N := some 15) (v := ?_) (a' := ?_) #[false, true, false, true, true, false, false, false] rfl rfl (by kernel_rfl) (fun _ _ _ h => h) (Or.inl ⟨by rfl, ?_⟩) hHeld ?_ ?_
 rotate_left
 ·intro w' s0
  go_simp
  with_reducible rfl
 rotate_left
 ·simp only [Act.put, Kx.sb, Kx.sz, Kx.ss, i64_w, i32_w]
  rfl
 refine Cz.rP 5 17 ?_
 refine Cz.rO (N := some 12) 0 (fun K hK => ?_)
 refine value_ (w1 := ?_) (v := ?_) (by rfl) rfl ?_ ?_
 rotate_left 2
 ·go_simp
  constructor
  ·rfl
  ·rfl
 refine hK.out _ _ (((blk_cell BE.out 0).trans rfl)) (fun hHeld => ?_)
 clear hK K
 refine norm_ (a' := ?_) ?_ ?_
 rotate_left
 ·show Act.put _ (some 12) _ = _
  simp only [Act.put, Kx.sb, Kx.sz, Kx.ss, i64_w, i32_w]
  rfl
 refine Cz.rO (N := some 14) 2 (fun K hK => ?_)
 refine Kd.R_append_rows_step (Kd.int .u8) (w0 := w) b0 (by rfl) (.tmp 12) (.tmp 13) 27 5 (.int .u8 0) 1 rfl Try.underlying27 info5 rfl (by decide) (by omega) vo xs r1 _ _ _ (fun k_ => True ∧ some k_ ≠ (.slice Ab r1.length cb : Value).ownBlock) (fun _ => False) rfl rfl HO.out (Kd.R_reads' HOb.out).2.2 (fun _ _ h => h) (fun _ h => h.elim) (fun k_ hk => ⟨trivial, Kd.fresh' (Kd.R_lt HOb.out) k_ hk⟩) HB.out hS.out (by have := HL.out; omega) ?_
 intro v1 w3 ho hb hg hat
 rw [← NY.out] at ho
 obtain ⟨A1, c1, e1⟩ := Kd.R_slice ho
 subst e1
 have m_BO := Aside0.mk (blk_grown BO.out hg (Kd.R_ne HO.out BO.out (by decide)))
 have m_BE := Aside0.mk (blk_grown BE.out hg (Kd.R_ne HO.out BE.out (by decide)))
 have m_BM := Aside0.mk (blk_grown BM.out hg (Kd.R_ne HO.out BM.out (by decide)))
 have m_HK := Aside0.mk (HK.out.of_grown hg (fun k_ hk => .inl (.inr (.inr (.inr hk.symm)))))
 have m_HB := Aside0.mk (hb)
 have m_HO := Aside0.mk (ho)
 clear BO BE BM HK HB HO
 have BO := m_BO
 have BE := m_BE
 have BM := m_BM
 have HK := m_HK
 have HB := m_HB
 have HO := m_HO
 clear m_BO m_BE m_BM m_HK m_HB m_HO
 clear ho hb hg hat hco hfo
 have hco : w3.cell? ⟨go, 0, none⟩ = some vo := (blk_cell BO.out 0).trans rfl
 have hfo := blk_frozen BO.out 0
 obtain ⟨hce, hfe⟩ := Cz.d1 BE
 have hn1 := NE.out
 have hn2 := NE.out.symm
 refine hK.out _ _ (((blk_cell BE.out 0).trans rfl)) (fun hHeld => ?_)
 clear hK K
 refine norm_ (a' := ?_) ?_ ?_
 rotate_left
 ·show Act.put _ (some 14) _ = _
  simp only [Act.put, Kx.sb, Kx.sz, Kx.ss, i64_w, i32_w]
  rfl
 refine Cz.rO (N := none) 6 (fun K hK => ?_)
 refine skip_ (w1 := ?_) (by rfl) rfl ?_ ?_
 rotate_left
 ·go_simp
  rfl
 refine hK.out _ _ (((blk_cell (blk_far BE.out (p := ⟨go, 0, none⟩) NE.out.symm _) 0).trans rfl)) (fun hHeld => ?_)
 clear hK K
 refine last_ (i := 7) (N := none) #[true, true, true, true, true, true, true, true] rfl rfl (by kernel_rfl) (by decide) (fun K hK => ?_)
 refine skip_ (w1 := ?_) (by rfl) rfl ?_ ?_
 rotate_left
 ·go_simp
  rfl
 refine hK.out _ _ ?_
 clear hK K
 refine done_ (by kernel_rfl) ?_
 clear hHeld
 have p1 : Aside0 (((w3.setCell ⟨go, 0, none⟩ (.slice A1 ys.length c1)).setCell ⟨ge, 0, none⟩ (.int .i64 0)).heap[go]? = some (.cells #[.slice A1 ys.length c1] 27 (0, 0))) := ⟨blk_far (blk_put BO.out 0 _ rfl) (p := ⟨ge, 0, none⟩) NE.out _⟩
 have p2 : Aside0 (((w3.setCell ⟨go, 0, none⟩ (.slice A1 ys.length c1)).setCell ⟨ge, 0, none⟩ (.int .i64 0)).heap[ge]? = some (.cells #[.int .i64 0] 28 (0, 0))) := ⟨blk_put (blk_far BE.out (p := ⟨go, 0, none⟩) NE.out.symm _) 0 _ rfl⟩
 have p3 : Aside0 (((w3.setCell ⟨go, 0, none⟩ (.slice A1 ys.length c1)).setCell ⟨ge, 0, none⟩ (.int .i64 0)).heap[gm]? = some (.cells #[.int .i64 many] 3 (0, 0))) := ⟨blk_far (blk_far BM.out (p := ⟨go, 0, none⟩) NM.out.symm _) (p := ⟨ge, 0, none⟩) NX.out.symm _⟩
 have p4 : Aside0 (Below b0 w ((w3.setCell ⟨go, 0, none⟩ (.slice A1 ys.length c1)).setCell ⟨ge, 0, none⟩ (.int .i64 0))) := ⟨(HB.out.setCell (p := ⟨go, 0, none⟩) B1.out _).setCell (p := ⟨ge, 0, none⟩) B2.out _⟩
 have p5 : Aside0 (Kd.R (Kd.int .u8) 5 ((w3.setCell ⟨go, 0, none⟩ (.slice A1 ys.length c1)).setCell ⟨ge, 0, none⟩ (.int .i64 0)) b0 (fun _ => True) (.slice A1 ys.length c1) ys) := ⟨Kd.R_mono (Kd.R_far (p := ⟨ge, 0, none⟩) (Kd.R_types (Kd.R_far (p := ⟨go, 0, none⟩) (Kd.R_types HO.out BO.out (by decide)) (fun _ hk => hk.2) _) (blk_far BE.out (p := ⟨go, 0, none⟩) NE.out.symm _) (by decide)) (fun _ hk => hk.2) _) (fun _ _ => trivial)⟩
 have p6 : Aside0 (Kept w ((w3.setCell ⟨go, 0, none⟩ (.slice A1 ys.length c1)).setCell ⟨ge, 0, none⟩ (.int .i64 0)) (stPut go ge gm vo)) := ⟨(HK.out.setCell (p := ⟨go, 0, none⟩) (.inl (.inl rfl)) _).setCell (p := ⟨ge, 0, none⟩) (.inl (.inr (.inl rfl))) _⟩
 generalize ((w3.setCell ⟨go, 0, none⟩ (.slice A1 ys.length c1)).setCell ⟨ge, 0, none⟩ (.int .i64 0)) = w9 at p1 p2 p3 p4 p5 p6 ⊢
 clear BO BE BM HO HOb HB HK
 obtain ⟨hcm, hfm⟩ := Cz.d1 p3
 go_wp2
 go_end0
 rw [← NY.out]
 exact ⟨⟨_, rfl⟩, _, blk_far p1.out (p := ⟨gm, 0, none⟩) NM.out _, blk_far p2.out (p := ⟨gm, 0, none⟩) NX.out _, blk_put p3.out 0 _ rfl, Kd.R_mono (Kd.R_far (p := ⟨gm, 0, none⟩) (Kd.R_types p5.out p3.out (by decide)) (fun _ hk => hk.2) _) (fun _ _ => trivial), p4.out.setCell (p := ⟨gm, 0, none⟩) B3.out _, p6.out.setCell (p := ⟨gm, 0, none⟩) (.inl (.inr (.inr (.inl rfl)))) _⟩
end Go.Proofs.Ytohkmmbmfhficaa.PM
