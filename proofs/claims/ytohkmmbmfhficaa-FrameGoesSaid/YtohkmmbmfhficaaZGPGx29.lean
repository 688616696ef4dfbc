/- Words and walks that this claim names, of those that the kit's print and programs of this workplace have printed. -/
import Derived.Test.YtohkmmbmfhficaaZGPGx11
import Derived.Test.YtohkmmbmfhficaaZGPGx26
import Derived.Test.YtohkmmbmfhficaaZGPGx22
namespace Go.Proofs.Ytohkmmbmfhficaa.PG
open Go.RowKit Go.Proofs.YtohkmmbmfhficaaW.PrintWords Go.Proofs.YtohkmmbmfhficaaW.PrintLast Go.Proofs.YtohkmmbmfhficaaW.PrintMore
attribute [local go_sem] max2_int min2_int max_two min_two max_three min_three max_four min_four
set_option linter.unusedVariables false
set_option linter.unusedSimpArgs false
def frame_same.f (a0_0 a0_1 a0_2 : Int) (l0_3 : List Int) (a0_4 a0_5 a0_6 a1_0 a1_1 a1_2 : Int) (l1_3 : List Int) (a1_4 a1_5 a1_6 : Int) : Option Bool := if Pl.byteB l0_3 = true ∧ Pl.byteB l1_3 = true then some (decide (a0_0 = a1_0 ∧ a0_1 = a1_1 ∧ a0_2 = a1_2 ∧ l0_3 = l1_3 ∧ a0_4 = a1_4 ∧ a0_5 = a1_5 ∧ a0_6 = a1_6)) else none
theorem frame_same.tells {a0_0 a0_1 a0_2 : Int} {l0_3 : List Int} {a0_4 a0_5 a0_6 a1_0 a1_1 a1_2 : Int} {l1_3 : List Int} {a1_4 a1_5 a1_6 : Int} (h0 : Pl.byteB l0_3 = true) (h1 : Pl.byteB l1_3 = true) : frame_same.f a0_0 a0_1 a0_2 l0_3 a0_4 a0_5 a0_6 a1_0 a1_1 a1_2 l1_3 a1_4 a1_5 a1_6 = some (decide (a0_0 = a1_0 ∧ a0_1 = a1_1 ∧ a0_2 = a1_2 ∧ l0_3 = l1_3 ∧ a0_4 = a1_4 ∧ a0_5 = a1_5 ∧ a0_6 = a1_6)) := if_pos ⟨h0, h1⟩
theorem frame_same.closes {a0_0 a0_1 a0_2 : Int} {l0_3 : List Int} {a0_4 a0_5 a0_6 a1_0 a1_1 a1_2 : Int} {l1_3 : List Int} {a1_4 a1_5 a1_6 : Int} {r : Bool} (h : frame_same.f a0_0 a0_1 a0_2 l0_3 a0_4 a0_5 a0_6 a1_0 a1_1 a1_2 l1_3 a1_4 a1_5 a1_6 = some r) : frame_same_p.f a0_0 a0_1 a0_2 l0_3 a0_4 a0_5 a0_6 a1_0 a1_1 a1_2 l1_3 a1_4 a1_5 a1_6 = some r := by
 unfold frame_same.f at h
 split at h
 case isFalse => cases h
 rename_i hh
 rw [← h]
 unfold frame_same_p.f bytes_Equal.f
 rw [if_pos hh, Option.bind_some]
 by_cases c0 : a0_0 = a1_0
 rotate_left
 ·rw [if_neg c0, decide_eq_false (fun e => c0 e.1)]
 by_cases c1 : a0_1 = a1_1
 rotate_left
 ·rw [if_pos c0, if_neg c1, decide_eq_false (fun e => c1 e.2.1)]
 by_cases c2 : a0_2 = a1_2
 rotate_left
 ·rw [if_pos c0, if_pos c1, if_neg c2, decide_eq_false (fun e => c2 e.2.2.1)]
 by_cases c3 : l0_3 = l1_3
 rotate_left
 ·rw [if_pos c0, if_pos c1, if_pos c2, if_neg (by simp [c3]), decide_eq_false (fun e => c3 e.2.2.2.1)]
 by_cases c4 : a0_4 = a1_4
 rotate_left
 ·rw [if_pos c0, if_pos c1, if_pos c2, if_pos (by simp [c3]), if_neg c4, decide_eq_false (fun e => c4 e.2.2.2.2.1)]
 by_cases c5 : a0_5 = a1_5
 rotate_left
 ·rw [if_pos c0, if_pos c1, if_pos c2, if_pos (by simp [c3]), if_pos c4, if_neg c5, decide_eq_false (fun e => c5 e.2.2.2.2.2.1)]
 rw [if_pos c0, if_pos c1, if_pos c2, if_pos (by simp [c3]), if_pos c4, if_pos c5]
 by_cases c6 : a0_6 = a1_6 <;> simp [c0, c1, c2, c3, c4, c5, c6]
theorem frame_same.calls (a0_0 : Int) (a0_1 : Int) (a0_2 : Int) (A0_3 : Option Addr) (c0_3 : Nat) (l0_3 : List Int) (a0_4 : Int) (a0_5 : Int) (a0_6 : Int) (a1_0 : Int) (a1_1 : Int) (a1_2 : Int) (A1_3 : Option Addr) (c1_3 : Nat) (l1_3 : List Int) (a1_4 : Int) (a1_5 : Int) (a1_6 : Int) (r : Bool) (w : World) (hr0_3 : Kd.C (Kd.int .u8) w A0_3 l0_3.length l0_3) (hc0_3 : l0_3.length ≤ c0_3) (hr1_3 : Kd.C (Kd.int .u8) w A1_3 l1_3.length l1_3) (hc1_3 : l1_3.length ≤ c1_3) (h : frame_same.f a0_0 a0_1 a0_2 l0_3 a0_4 a0_5 a0_6 a1_0 a1_1 a1_2 l1_3 a1_4 a1_5 a1_6 = some r) :
  Calls Try.prog 49 #[.agg #[.int .i64 a0_0, .int .i64 a0_1, .int .i64 a0_2, .slice A0_3 l0_3.length c0_3, .int .i64 a0_4, .int .i64 a0_5, .int .i64 a0_6], .agg #[.int .i64 a1_0, .int .i64 a1_1, .int .i64 a1_2, .slice A1_3 l1_3.length c1_3, .int .i64 a1_4, .int .i64 a1_5, .int .i64 a1_6]] w fun e w' => e = .returned (.bool r) ∧ Below w.heap.size w w' :=
 frame_same_p.calls a0_0 a0_1 a0_2 A0_3 c0_3 l0_3 a0_4 a0_5 a0_6 a1_0 a1_1 a1_2 A1_3 c1_3 l1_3 a1_4 a1_5 a1_6 r w hr0_3 hc0_3 hr1_3 hc1_3 (frame_same.closes h)
set_option maxRecDepth 100000 in
set_option maxHeartbeats 2000000 in
theorem frame_Check.head (a n : Int) (A3 : Option Addr) (c3 : Nat) (d : List Int) (A B C : Int) (t1 t2 : Bool) (w : World) (hr : Kd.C (Kd.int .u8) w A3 d.length d) (hc : d.length ≤ c3) (hm : frame_head_may.f A B C = some t1) (hs : t1 = true → frame_same.f 1 0 0 [] A B C 1 a n d A B C = some t2) : Calls Try.prog 24 #[.agg #[.int .i64 1, .int .i64 a, .int .i64 n, .slice A3 d.length c3, .int .i64 A, .int .i64 B, .int .i64 C]] w fun e w' => e = .returned (.bool (t1 && t2)) ∧ Below w.heap.size w w' := by
 have hu0 := Try.underlying38
 have HR3 := Aside0.mk hr
 have HC3 := Aside0.mk hc
 have HB := Aside0.mk (Below.refl w.heap.size w)
 clear hr hc
 have HM := Aside0.mk hm
 have HS := Aside0.mk hs
 clear hm hs
 have hv : ofV 1 a n A3 d.length c3 A B C = .iface 93 (.agg #[.int .i64 A, .int .i64 B, .int .i64 C]) := rfl
 have HV := Aside0.mk hv
 clear hv
 go_enter Try.func24, Try.ntmps24
 go_upto_region 1 with ((with_reducible refine gate_dst (N := 1) rfl ?_); refine box_event ?hg (N := 1) ?hd (cs := #[.int .i64 1, .int .i64 a, .int .i64 n, .slice A3 d.length c3, .int .i64 A, .int .i64 B, .int .i64 C]) (t := 38) ?hr ?_; (case hd => rfl); (case hg => rfl); (case hr => first | (go_simp; done) | (go_simp; rfl)); intro gc hg w1 hbox hb; have BKc := Aside0.mk hbox; have n_HB := Aside0.mk (below_step HB.out hb); have n_HR := Aside0.mk (Kd.C_below HR3.out hb); clear HB HR3 hb hbox hg; have HB := n_HB; have HR3 := n_HR; clear n_HB n_HR; have hcz0 : w1.cell? ⟨gc, 0, none⟩ = some (.int .i64 1) := (blk_cell BKc.out 0).trans rfl; have hcz1 : w1.cell? ⟨gc, 1, none⟩ = some (.int .i64 a) := (blk_cell BKc.out 1).trans rfl; have hcz2 : w1.cell? ⟨gc, 2, none⟩ = some (.int .i64 n) := (blk_cell BKc.out 2).trans rfl; have hcz3 : w1.cell? ⟨gc, 3, none⟩ = some (.slice A3 d.length c3) := (blk_cell BKc.out 3).trans rfl; have hcz4 : w1.cell? ⟨gc, 4, none⟩ = some (.int .i64 A) := (blk_cell BKc.out 4).trans rfl; have hcz5 : w1.cell? ⟨gc, 5, none⟩ = some (.int .i64 B) := (blk_cell BKc.out 5).trans rfl; have hcz6 : w1.cell? ⟨gc, 6, none⟩ = some (.int .i64 C) := (blk_cell BKc.out 6).trans rfl)
 go_upto_region 2 with (go_at_call 38; refine (frame_of.calls _ _ _ _ _ _ _ _ _ _).mono ?_; rintro e w2 ⟨rfl, hb⟩; rw [HV.out]; have n_HB := Aside0.mk (below_step HB.out hb); have n_BKc := Aside0.mk (blk_below BKc.out hb); have n_HR := Aside0.mk (Kd.C_below HR3.out hb); clear HB BKc HR3 hb; have HB := n_HB; have BKc := n_BKc; have HR3 := n_HR; clear n_HB n_BKc n_HR; clear hcz0 hcz1 hcz2 hcz3 hcz4 hcz5 hcz6)
 cases t1 with
 | false =>
  have n_HB := Aside0.mk (below_drew HB.out)
  have n_BKc := Aside0.mk (blk_drew BKc.out)
  have n_HR := Aside0.mk (Kd.C_drew HR3.out)
  clear HB BKc HR3
  have HB := n_HB
  have BKc := n_BKc
  have HR3 := n_HR
  clear n_HB n_BKc n_HR
  refine start_ (n := 15) (S := fun w' => w'.cell? ⟨gc, 0, none⟩ = some (.int .i64 1) ∧ w'.cell? ⟨gc, 1, none⟩ = some (.int .i64 a) ∧ w'.cell? ⟨gc, 2, none⟩ = some (.int .i64 n) ∧ w'.cell? ⟨gc, 3, none⟩ = some (.slice A3 d.length c3) ∧ w'.cell? ⟨gc, 4, none⟩ = some (.int .i64 A) ∧ w'.cell? ⟨gc, 5, none⟩ = some (.int .i64 B) ∧ w'.cell? ⟨gc, 6, none⟩ = some (.int .i64 C)) (ds := []) #[false, false, false, false, false, false, false, false, false, false, false, false, false, false, false] (by kernel_rfl) rfl rfl ⟨((blk_cell BKc.out 0).trans rfl), ((blk_cell BKc.out 1).trans rfl), ((blk_cell BKc.out 2).trans rfl), ((blk_cell BKc.out 3).trans rfl), ((blk_cell BKc.out 4).trans rfl), ((blk_cell BKc.out 5).trans rfl), ((blk_cell BKc.out 6).trans rfl)⟩ (fun hHeld => ?_)
  generalize w2.drew = wd at HB BKc HR3 hHeld ⊢
  refine pure_ (i := 0) (N := some 6) (v := ?_) (a' := ?_) #[true, false, false, false, false, false, false, false, false, false, false, false, false, false, false] rfl rfl (by kernel_rfl) (fun _ _ _ h => h) (Or.inl ⟨by rfl, ?_⟩) ?_ ?_
  rotate_left
  ·intro w'
   go_simp
   with_reducible rfl
  rotate_left
  ·simp only [Act.put, Kx.sb, Kx.sz, Kx.ss, i64_w, i32_w]
   rfl
  refine pure_ (i := 1) (N := some 7) (v := ?_) (a' := ?_) #[true, true, false, false, false, false, false, false, false, false, false, false, false, false, false] rfl rfl (by kernel_rfl) (fun _ _ _ h => h) (Or.inl ⟨by rfl, ?_⟩) ?_ ?_
  rotate_left
  ·intro w'
   go_simp
   with_reducible rfl
  rotate_left
  ·simp only [Act.put, Kx.sb, Kx.sz, Kx.ss, i64_w, i32_w]
   rfl
  refine pure_ (i := 2) (N := some 8) (v := ?_) (a' := ?_) #[true, true, true, false, false, false, false, false, false, false, false, false, false, false, false] rfl rfl (by kernel_rfl) (fun _ _ _ h => h) (Or.inl ⟨by rfl, ?_⟩) ?_ ?_
  rotate_left
  ·intro w'
   go_simp
   with_reducible rfl
  rotate_left
  ·simp only [Act.put, Kx.sb, Kx.sz, Kx.ss, i64_w, i32_w]
   rfl
  refine pure_ (i := 3) (N := some 9) (v := ?_) (a' := ?_) #[true, true, true, true, false, false, false, false, false, false, false, false, false, false, false] rfl rfl (by kernel_rfl) (fun _ _ _ h => h) (Or.inl ⟨by rfl, ?_⟩) ?_ ?_
  rotate_left
  ·intro w'
   go_simp
   with_reducible rfl
  rotate_left
  ·simp only [Act.put, Kx.sb, Kx.sz, Kx.ss, i64_w, i32_w]
   rfl
  refine one_ (i := 4) (N := some 10) #[true, true, true, true, true, false, false, false, false, false, false, false, false, false, false] rfl rfl (by kernel_rfl) (by decide) (fun K hK => ?_)
  refine call_ 109 #[.agg #[.int .i64 A, .int .i64 B, .int .i64 C]] (by rfl) rfl (by kernel_rfl) ?_
  refine (frame_head_may.calls _ _ _ _ _ HM.out).mono ?_
  rintro e wm ⟨rfl, hb⟩
  refine ⟨_, rfl, ?_⟩
  have n_HB := Aside0.mk (below_step HB.out hb)
  have n_BKc := Aside0.mk (blk_below BKc.out hb)
  have n_HR := Aside0.mk (Kd.C_below HR3.out hb)
  clear HB BKc HR3 hb
  have HB := n_HB
  have BKc := n_BKc
  have HR3 := n_HR
  clear n_HB n_BKc n_HR
  refine hK.out _ _ ⟨((blk_cell BKc.out 0).trans rfl), ((blk_cell BKc.out 1).trans rfl), ((blk_cell BKc.out 2).trans rfl), ((blk_cell BKc.out 3).trans rfl), ((blk_cell BKc.out 4).trans rfl), ((blk_cell BKc.out 5).trans rfl), ((blk_cell BKc.out 6).trans rfl)⟩ (fun hHeld => ?_)
  clear hK K
  refine norm_ (a' := ?_) ?_ ?_
  rotate_left
  ·show Act.put _ (some 10) _ = _
   simp only [Act.put, Kx.sb, Kx.sz, Kx.ss, i64_w, i32_w]
   rfl
  refine pure_ (i := 5) (N := some 11) (v := ?_) (a' := ?_) #[true, true, true, true, true, true, false, false, false, false, false, false, false, false, false] rfl rfl (by kernel_rfl) (fun _ _ _ h => h) (Or.inl ⟨by rfl, ?_⟩) ?_ ?_
  rotate_left
  ·intro w'
   go_simp
   with_reducible rfl
  rotate_left
  ·simp only [Act.put, Kx.sb, Kx.sz, Kx.ss, i64_w, i32_w]
   rfl
  refine pure_ (i := 6) (N := some 12) (v := ?_) (a' := ?_) #[true, true, true, true, true, true, true, false, false, false, false, false, false, false, false] rfl rfl (by kernel_rfl) (fun _ _ _ h => h) (Or.inl ⟨by rfl, ?_⟩) ?_ ?_
  rotate_left
  ·intro w'
   go_simp
   with_reducible rfl
  rotate_left
  ·simp only [Act.put, Kx.sb, Kx.sz, Kx.ss, i64_w, i32_w]
   rfl
  refine pure_ (i := 7) (N := some 13) (v := undef) (a' := ?_) #[true, true, true, true, true, true, true, true, false, false, false, false, false, false, false] rfl rfl (by kernel_rfl) (fun _ _ _ h => h) (Or.inr ⟨by rfl, rfl⟩) ?_ ?_
  rotate_left
  ·simp only [Act.put, Kx.sb, Kx.sz, Kx.ss, i64_w, i32_w]
   rfl
  refine pure_ (i := 8) (N := some 14) (v := undef) (a' := ?_) #[true, true, true, true, true, true, true, true, true, false, false, false, false, false, false] rfl rfl (by kernel_rfl) (fun _ _ _ h => h) (Or.inr ⟨by rfl, rfl⟩) ?_ ?_
  rotate_left
  ·simp only [Act.put, Kx.sb, Kx.sz, Kx.ss, i64_w, i32_w]
   rfl
  refine pure_ (i := 9) (N := some 15) (v := undef) (a' := ?_) #[true, true, true, true, true, true, true, true, true, true, false, false, false, false, false] rfl rfl (by kernel_rfl) (fun _ _ _ h => h) (Or.inr ⟨by rfl, rfl⟩) ?_ ?_
  rotate_left
  ·simp only [Act.put, Kx.sb, Kx.sz, Kx.ss, i64_w, i32_w]
   rfl
  refine pure_ (i := 10) (N := some 16) (v := undef) (a' := ?_) #[true, true, true, true, true, true, true, true, true, true, true, false, false, false, false] rfl rfl (by kernel_rfl) (fun _ _ _ h => h) (Or.inr ⟨by rfl, rfl⟩) ?_ ?_
  rotate_left
  ·simp only [Act.put, Kx.sb, Kx.sz, Kx.ss, i64_w, i32_w]
   rfl
  refine pure_ (i := 11) (N := some 17) (v := undef) (a' := ?_) #[true, true, true, true, true, true, true, true, true, true, true, true, false, false, false] rfl rfl (by kernel_rfl) (fun _ _ _ h => h) (Or.inr ⟨by rfl, rfl⟩) ?_ ?_
  rotate_left
  ·simp only [Act.put, Kx.sb, Kx.sz, Kx.ss, i64_w, i32_w]
   rfl
  refine pure_ (i := 12) (N := some 18) (v := undef) (a' := ?_) #[true, true, true, true, true, true, true, true, true, true, true, true, true, false, false] rfl rfl (by kernel_rfl) (fun _ _ _ h => h) (Or.inr ⟨by rfl, rfl⟩) ?_ ?_
  rotate_left
  ·simp only [Act.put, Kx.sb, Kx.sz, Kx.ss, i64_w, i32_w]
   rfl
  refine pure_ (i := 13) (N := some 19) (v := ?_) (a' := ?_) #[true, true, true, true, true, true, true, true, true, true, true, true, true, true, false] rfl rfl (by kernel_rfl) (fun _ _ _ h => h) (Or.inl ⟨by rfl, ?_⟩) ?_ ?_
  rotate_left
  ·intro w'
   go_simp
   with_reducible rfl
  rotate_left
  ·simp only [Act.put, Kx.sb, Kx.sz, Kx.ss, i64_w, i32_w]
   rfl
  refine pure_ (i := 14) (N := some 2) (v := ?_) (a' := ?_) #[true, true, true, true, true, true, true, true, true, true, true, true, true, true, true] rfl rfl (by kernel_rfl) (fun _ _ _ h => h) (Or.inl ⟨by rfl, ?_⟩) ?_ ?_
  rotate_left
  ·intro w'
   go_simp
   with_reducible rfl
  rotate_left
  ·simp only [Act.put, Kx.sb, Kx.sz, Kx.ss, i64_w, i32_w]
   rfl
  refine done_ (by kernel_rfl) ?_
  clear hHeld
  go_wp2_with fail
  go_ret
  exact ⟨rfl, HB.out⟩
 | true =>
  have n_HB := Aside0.mk (below_drew HB.out)
  have n_BKc := Aside0.mk (blk_drew BKc.out)
  have n_HR := Aside0.mk (Kd.C_drew HR3.out)
  clear HB BKc HR3
  have HB := n_HB
  have BKc := n_BKc
  have HR3 := n_HR
  clear n_HB n_BKc n_HR
  refine start_ (n := 15) (S := fun w' => w'.cell? ⟨gc, 0, none⟩ = some (.int .i64 1) ∧ w'.cell? ⟨gc, 1, none⟩ = some (.int .i64 a) ∧ w'.cell? ⟨gc, 2, none⟩ = some (.int .i64 n) ∧ w'.cell? ⟨gc, 3, none⟩ = some (.slice A3 d.length c3) ∧ w'.cell? ⟨gc, 4, none⟩ = some (.int .i64 A) ∧ w'.cell? ⟨gc, 5, none⟩ = some (.int .i64 B) ∧ w'.cell? ⟨gc, 6, none⟩ = some (.int .i64 C)) (ds := []) #[false, false, false, false, false, false, false, false, false, false, false, false, false, false, false] (by kernel_rfl) rfl rfl ⟨((blk_cell BKc.out 0).trans rfl), ((blk_cell BKc.out 1).trans rfl), ((blk_cell BKc.out 2).trans rfl), ((blk_cell BKc.out 3).trans rfl), ((blk_cell BKc.out 4).trans rfl), ((blk_cell BKc.out 5).trans rfl), ((blk_cell BKc.out 6).trans rfl)⟩ (fun hHeld => ?_)
  generalize w2.drew = wd at HB BKc HR3 hHeld ⊢
  refine pure_ (i := 0) (N := some 6) (v := ?_) (a' := ?_) #[true, false, false, false, false, false, false, false, false, false, false, false, false, false, false] rfl rfl (by kernel_rfl) (fun _ _ _ h => h) (Or.inl ⟨by rfl, ?_⟩) ?_ ?_
  rotate_left
  ·intro w'
   go_simp
   with_reducible rfl
  rotate_left
  ·simp only [Act.put, Kx.sb, Kx.sz, Kx.ss, i64_w, i32_w]
   rfl
  refine pure_ (i := 1) (N := some 7) (v := ?_) (a' := ?_) #[true, true, false, false, false, false, false, false, false, false, false, false, false, false, false] rfl rfl (by kernel_rfl) (fun _ _ _ h => h) (Or.inl ⟨by rfl, ?_⟩) ?_ ?_
  rotate_left
  ·intro w'
   go_simp
   with_reducible rfl
  rotate_left
  ·simp only [Act.put, Kx.sb, Kx.sz, Kx.ss, i64_w, i32_w]
   rfl
  refine pure_ (i := 2) (N := some 8) (v := ?_) (a' := ?_) #[true, true, true, false, false, false, false, false, false, false, false, false, false, false, false] rfl rfl (by kernel_rfl) (fun _ _ _ h => h) (Or.inl ⟨by rfl, ?_⟩) ?_ ?_
  rotate_left
  ·intro w'
   go_simp
   with_reducible rfl
  rotate_left
  ·simp only [Act.put, Kx.sb, Kx.sz, Kx.ss, i64_w, i32_w]
   rfl
  refine pure_ (i := 3) (N := some 9) (v := ?_) (a' := ?_) #[true, true, true, true, false, false, false, false, false, false, false, false, false, false, false] rfl rfl (by kernel_rfl) (fun _ _ _ h => h) (Or.inl ⟨by rfl, ?_⟩) ?_ ?_
  rotate_left
  ·intro w'
   go_simp
   with_reducible rfl
  rotate_left
  ·simp only [Act.put, Kx.sb, Kx.sz, Kx.ss, i64_w, i32_w]
   rfl
  refine one_ (i := 4) (N := some 10) #[true, true, true, true, true, false, false, false, false, false, false, false, false, false, false] rfl rfl (by kernel_rfl) (by decide) (fun K hK => ?_)
  refine call_ 109 #[.agg #[.int .i64 A, .int .i64 B, .int .i64 C]] (by rfl) rfl (by kernel_rfl) ?_
  refine (frame_head_may.calls _ _ _ _ _ HM.out).mono ?_
  rintro e wm ⟨rfl, hb⟩
  refine ⟨_, rfl, ?_⟩
  have n_HB := Aside0.mk (below_step HB.out hb)
  have n_BKc := Aside0.mk (blk_below BKc.out hb)
  have n_HR := Aside0.mk (Kd.C_below HR3.out hb)
  clear HB BKc HR3 hb
  have HB := n_HB
  have BKc := n_BKc
  have HR3 := n_HR
  clear n_HB n_BKc n_HR
  refine hK.out _ _ ⟨((blk_cell BKc.out 0).trans rfl), ((blk_cell BKc.out 1).trans rfl), ((blk_cell BKc.out 2).trans rfl), ((blk_cell BKc.out 3).trans rfl), ((blk_cell BKc.out 4).trans rfl), ((blk_cell BKc.out 5).trans rfl), ((blk_cell BKc.out 6).trans rfl)⟩ (fun hHeld => ?_)
  clear hK K
  refine norm_ (a' := ?_) ?_ ?_
  rotate_left
  ·show Act.put _ (some 10) _ = _
   simp only [Act.put, Kx.sb, Kx.sz, Kx.ss, i64_w, i32_w]
   rfl
  refine pure_ (i := 5) (N := some 11) (v := ?_) (a' := ?_) #[true, true, true, true, true, true, false, false, false, false, false, false, false, false, false] rfl rfl (by kernel_rfl) (fun _ _ _ h => h) (Or.inl ⟨by rfl, ?_⟩) ?_ ?_
  rotate_left
  ·intro w'
   go_simp
   with_reducible rfl
  rotate_left
  ·simp only [Act.put, Kx.sb, Kx.sz, Kx.ss, i64_w, i32_w]
   rfl
  refine pure_ (i := 6) (N := some 12) (v := ?_) (a' := ?_) #[true, true, true, true, true, true, true, false, false, false, false, false, false, false, false] rfl rfl (by kernel_rfl) (fun _ _ _ h => h) (Or.inl ⟨by rfl, ?_⟩) ?_ ?_
  rotate_left
  ·intro w'
   go_simp
   with_reducible rfl
  rotate_left
  ·simp only [Act.put, Kx.sb, Kx.sz, Kx.ss, i64_w, i32_w]
   rfl
  refine pure_ (i := 7) (N := some 13) (v := ?_) (a' := ?_) #[true, true, true, true, true, true, true, true, false, false, false, false, false, false, false] rfl rfl (by kernel_rfl) (fun _ _ _ h => h) (Or.inl ⟨by rfl, ?_⟩) ?_ ?_
  rotate_left
  ·intro w'
   go_simp
   with_reducible rfl
  rotate_left
  ·simp only [Act.put, Kx.sb, Kx.sz, Kx.ss, i64_w, i32_w]
   rfl
  refine pure_ (i := 9) (N := some 15) (v := ?_) (a' := ?_) #[true, true, true, true, true, true, true, true, false, true, false, false, false, false, false] rfl rfl (by kernel_rfl) (fun _ _ _ h => h) (Or.inl ⟨by rfl, ?_⟩) ?_ ?_
  rotate_left
  ·intro w'
   go_simp
   with_reducible rfl
  rotate_left
  ·simp only [Act.put, Kx.sb, Kx.sz, Kx.ss, i64_w, i32_w]
   rfl
  refine take_ (i := 8) (N := some 14) (v := ?_) (a' := ?_) #[true, true, true, true, true, true, true, true, true, true, false, false, false, false, false] rfl rfl (by kernel_rfl) (fun _ _ _ h => h) (Or.inl ⟨by rfl, ?_⟩) hHeld ?_ ?_
  rotate_left
  ·rintro w' ⟨s0, s1, s2, s3, s4, s5, s6⟩
   go_simp
   with_reducible rfl
  rotate_left
  ·simp only [Act.put, Kx.sb, Kx.sz, Kx.ss, i64_w, i32_w]
   rfl
  refine take_ (i := 11) (N := some 17) (v := ?_) (a' := ?_) #[true, true, true, true, true, true, true, true, true, true, false, true, false, false, false] rfl rfl (by kernel_rfl) (fun _ _ _ h => h) (Or.inl ⟨by rfl, ?_⟩) hHeld ?_ ?_
  rotate_left
  ·rintro w' ⟨s0, s1, s2, s3, s4, s5, s6⟩
   go_simp
   with_reducible rfl
  rotate_left
  ·simp only [Act.put, Kx.sb, Kx.sz, Kx.ss, i64_w, i32_w]
   rfl
  refine one_ (i := 10) (N := some 16) #[true, true, true, true, true, true, true, true, true, true, true, true, false, false, false] rfl rfl (by kernel_rfl) (by decide) (fun K hK => ?_)
  refine goes_ Try.func47 (by kernel_rfl) rfl #[.int .i64 1, .iface 93 (.agg #[.int .i64 A, .int .i64 B, .int .i64 C])] (by rfl) rfl rfl (by simp only [List.map_toArray, List.map_cons, List.map_nil]; rfl) ?_
  refine (frame_framed.head _ _ _ _ _).mono ?_
  rintro e wf ⟨rfl, hb⟩
  refine ⟨_, rfl, ?_⟩
  have n_HB := Aside0.mk (below_step HB.out hb)
  have n_BKc := Aside0.mk (blk_below BKc.out hb)
  have n_HR := Aside0.mk (Kd.C_below HR3.out hb)
  clear HB BKc HR3 hb
  have HB := n_HB
  have BKc := n_BKc
  have HR3 := n_HR
  clear n_HB n_BKc n_HR
  refine hK.out _ _ ⟨((blk_cell BKc.out 0).trans rfl), ((blk_cell BKc.out 1).trans rfl), ((blk_cell BKc.out 2).trans rfl), ((blk_cell BKc.out 3).trans rfl), ((blk_cell BKc.out 4).trans rfl), ((blk_cell BKc.out 5).trans rfl), ((blk_cell BKc.out 6).trans rfl)⟩ (fun hHeld => ?_)
  clear hK K
  refine norm_ (a' := ?_) ?_ ?_
  rotate_left
  ·show Act.put _ (some 16) _ = _
   simp only [Act.put, Kx.sb, Kx.sz, Kx.ss, i64_w, i32_w]
   rfl
  refine one_ (i := 12) (N := some 18) #[true, true, true, true, true, true, true, true, true, true, true, true, true, false, false] rfl rfl (by kernel_rfl) (by decide) (fun K hK => ?_)
  refine goes_ Try.func49 (by kernel_rfl) rfl #[.agg #[.int .i64 1, .int .i64 0, .int .i64 0, .slice none 0 0, .int .i64 A, .int .i64 B, .int .i64 C], .agg #[.int .i64 1, .int .i64 a, .int .i64 n, .slice A3 d.length c3, .int .i64 A, .int .i64 B, .int .i64 C]] (by rfl) rfl rfl (by simp only [List.map_toArray, List.map_cons, List.map_nil]; rfl) ?_
  refine (frame_same.calls 1 0 0 none 0 [] A B C 1 a n A3 c3 d A B C t2 _ (Kd.C_nil _ _) (Nat.le_refl _) HR3.out HC3.out (HS.out rfl)).mono ?_
  rintro e ws ⟨rfl, hb⟩
  refine ⟨_, rfl, ?_⟩
  have n_HB := Aside0.mk (below_step HB.out hb)
  have n_BKc := Aside0.mk (blk_below BKc.out hb)
  have n_HR := Aside0.mk (Kd.C_below HR3.out hb)
  clear HB BKc HR3 hb
  have HB := n_HB
  have BKc := n_BKc
  have HR3 := n_HR
  clear n_HB n_BKc n_HR
  refine hK.out _ _ ⟨((blk_cell BKc.out 0).trans rfl), ((blk_cell BKc.out 1).trans rfl), ((blk_cell BKc.out 2).trans rfl), ((blk_cell BKc.out 3).trans rfl), ((blk_cell BKc.out 4).trans rfl), ((blk_cell BKc.out 5).trans rfl), ((blk_cell BKc.out 6).trans rfl)⟩ (fun hHeld => ?_)
  clear hK K
  refine norm_ (a' := ?_) ?_ ?_
  rotate_left
  ·show Act.put _ (some 18) _ = _
   simp only [Act.put, Kx.sb, Kx.sz, Kx.ss, i64_w, i32_w]
   rfl
  refine pure_ (i := 13) (N := some 19) (v := ?_) (a' := ?_) #[true, true, true, true, true, true, true, true, true, true, true, true, true, true, false] rfl rfl (by kernel_rfl) (fun _ _ _ h => h) (Or.inl ⟨by rfl, ?_⟩) ?_ ?_
  rotate_left
  ·intro w'
   go_simp
   with_reducible rfl
  rotate_left
  ·simp only [Act.put, Kx.sb, Kx.sz, Kx.ss, i64_w, i32_w]
   rfl
  refine pure_ (i := 14) (N := some 2) (v := ?_) (a' := ?_) #[true, true, true, true, true, true, true, true, true, true, true, true, true, true, true] rfl rfl (by kernel_rfl) (fun _ _ _ h => h) (Or.inl ⟨by rfl, ?_⟩) ?_ ?_
  rotate_left
  ·intro w'
   go_simp
   with_reducible rfl
  rotate_left
  ·simp only [Act.put, Kx.sb, Kx.sz, Kx.ss, i64_w, i32_w]
   rfl
  refine done_ (by kernel_rfl) ?_
  clear hHeld
  go_wp2_with fail
  go_ret
  exact ⟨rfl, HB.out⟩
set_option maxRecDepth 100000 in
set_option maxHeartbeats 2000000 in
theorem frame_Check.blocks (kk_ : Nat) (k : Int) (a n : Int) (A3 : Option Addr) (c3 : Nat) (d : List Int) (A B C : Int) (t1 t2 : Bool) (w : World) (hr : Kd.C (Kd.int .u8) w A3 d.length d) (hc : d.length ≤ c3) (hk : k = 2 ∨ k = 3 ∨ k = 4) (hm : frame_blocks_may.f kk_ k a n d = some t1) (hs : t1 = true → frame_same.f k a n d 0 0 0 k a n d A B C = some t2) : Calls Try.prog 24 #[.agg #[.int .i64 k, .int .i64 a, .int .i64 n, .slice A3 d.length c3, .int .i64 A, .int .i64 B, .int .i64 C]] w fun e w' => e = .returned (.bool (t1 && t2)) ∧ Below w.heap.size w w' := by
 have hu0 := Try.underlying38
 have HR3 := Aside0.mk hr
 have HC3 := Aside0.mk hc
 have HB := Aside0.mk (Below.refl w.heap.size w)
 clear hr hc
 have HM := Aside0.mk hm
 have HS := Aside0.mk hs
 clear hm hs
 have hv : ofV k a n A3 d.length c3 A B C = .iface 95 (.agg #[.int .i64 k, .int .i64 a, .int .i64 n, .slice A3 d.length c3]) := by unfold ofV; rw [if_neg (by omega), if_pos hk]
 have HV := Aside0.mk hv
 clear hv hk
 go_enter Try.func24, Try.ntmps24
 go_upto_region 1 with ((with_reducible refine gate_dst (N := 1) rfl ?_); refine box_event ?hg (N := 1) ?hd (cs := #[.int .i64 k, .int .i64 a, .int .i64 n, .slice A3 d.length c3, .int .i64 A, .int .i64 B, .int .i64 C]) (t := 38) ?hr ?_; (case hd => rfl); (case hg => rfl); (case hr => first | (go_simp; done) | (go_simp; rfl)); intro gc hg w1 hbox hb; have BKc := Aside0.mk hbox; have n_HB := Aside0.mk (below_step HB.out hb); have n_HR := Aside0.mk (Kd.C_below HR3.out hb); clear HB HR3 hb hbox hg; have HB := n_HB; have HR3 := n_HR; clear n_HB n_HR; have hcz0 : w1.cell? ⟨gc, 0, none⟩ = some (.int .i64 k) := (blk_cell BKc.out 0).trans rfl; have hcz1 : w1.cell? ⟨gc, 1, none⟩ = some (.int .i64 a) := (blk_cell BKc.out 1).trans rfl; have hcz2 : w1.cell? ⟨gc, 2, none⟩ = some (.int .i64 n) := (blk_cell BKc.out 2).trans rfl; have hcz3 : w1.cell? ⟨gc, 3, none⟩ = some (.slice A3 d.length c3) := (blk_cell BKc.out 3).trans rfl; have hcz4 : w1.cell? ⟨gc, 4, none⟩ = some (.int .i64 A) := (blk_cell BKc.out 4).trans rfl; have hcz5 : w1.cell? ⟨gc, 5, none⟩ = some (.int .i64 B) := (blk_cell BKc.out 5).trans rfl; have hcz6 : w1.cell? ⟨gc, 6, none⟩ = some (.int .i64 C) := (blk_cell BKc.out 6).trans rfl)
 go_upto_region 2 with (go_at_call 38; refine (frame_of.calls _ _ _ _ _ _ _ _ _ _).mono ?_; rintro e w2 ⟨rfl, hb⟩; rw [HV.out]; have n_HB := Aside0.mk (below_step HB.out hb); have n_BKc := Aside0.mk (blk_below BKc.out hb); have n_HR := Aside0.mk (Kd.C_below HR3.out hb); clear HB BKc HR3 hb; have HB := n_HB; have BKc := n_BKc; have HR3 := n_HR; clear n_HB n_BKc n_HR; clear hcz0 hcz1 hcz2 hcz3 hcz4 hcz5 hcz6)
 cases t1 with
 | false =>
  have n_HB := Aside0.mk (below_drew HB.out)
  have n_BKc := Aside0.mk (blk_drew BKc.out)
  have n_HR := Aside0.mk (Kd.C_drew HR3.out)
  clear HB BKc HR3
  have HB := n_HB
  have BKc := n_BKc
  have HR3 := n_HR
  clear n_HB n_BKc n_HR
  refine start_ (n := 15) (S := fun w' => w'.cell? ⟨gc, 0, none⟩ = some (.int .i64 k) ∧ w'.cell? ⟨gc, 1, none⟩ = some (.int .i64 a) ∧ w'.cell? ⟨gc, 2, none⟩ = some (.int .i64 n) ∧ w'.cell? ⟨gc, 3, none⟩ = some (.slice A3 d.length c3) ∧ w'.cell? ⟨gc, 4, none⟩ = some (.int .i64 A) ∧ w'.cell? ⟨gc, 5, none⟩ = some (.int .i64 B) ∧ w'.cell? ⟨gc, 6, none⟩ = some (.int .i64 C)) (ds := []) #[false, false, false, false, false, false, false, false, false, false, false, false, false, false, false] (by kernel_rfl) rfl rfl ⟨((blk_cell BKc.out 0).trans rfl), ((blk_cell BKc.out 1).trans rfl), ((blk_cell BKc.out 2).trans rfl), ((blk_cell BKc.out 3).trans rfl), ((blk_cell BKc.out 4).trans rfl), ((blk_cell BKc.out 5).trans rfl), ((blk_cell BKc.out 6).trans rfl)⟩ (fun hHeld => ?_)
  generalize w2.drew = wd at HB BKc HR3 hHeld ⊢
  refine pure_ (i := 0) (N := some 6) (v := ?_) (a' := ?_) #[true, false, false, false, false, false, false, false, false, false, false, false, false, false, false] rfl rfl (by kernel_rfl) (fun _ _ _ h => h) (Or.inl ⟨by rfl, ?_⟩) ?_ ?_
  rotate_left
  ·intro w'
   go_simp
   with_reducible rfl
  rotate_left
  ·simp only [Act.put, Kx.sb, Kx.sz, Kx.ss, i64_w, i32_w]
   rfl
  refine pure_ (i := 1) (N := some 7) (v := ?_) (a' := ?_) #[true, true, false, false, false, false, false, false, false, false, false, false, false, false, false] rfl rfl (by kernel_rfl) (fun _ _ _ h => h) (Or.inl ⟨by rfl, ?_⟩) ?_ ?_
  rotate_left
  ·intro w'
   go_simp
   with_reducible rfl
  rotate_left
  ·simp only [Act.put, Kx.sb, Kx.sz, Kx.ss, i64_w, i32_w]
   rfl
  refine pure_ (i := 2) (N := some 8) (v := ?_) (a' := ?_) #[true, true, true, false, false, false, false, false, false, false, false, false, false, false, false] rfl rfl (by kernel_rfl) (fun _ _ _ h => h) (Or.inl ⟨by rfl, ?_⟩) ?_ ?_
  rotate_left
  ·intro w'
   go_simp
   with_reducible rfl
  rotate_left
  ·simp only [Act.put, Kx.sb, Kx.sz, Kx.ss, i64_w, i32_w]
   rfl
  refine pure_ (i := 3) (N := some 9) (v := ?_) (a' := ?_) #[true, true, true, true, false, false, false, false, false, false, false, false, false, false, false] rfl rfl (by kernel_rfl) (fun _ _ _ h => h) (Or.inl ⟨by rfl, ?_⟩) ?_ ?_
  rotate_left
  ·intro w'
   go_simp
   with_reducible rfl
  rotate_left
  ·simp only [Act.put, Kx.sb, Kx.sz, Kx.ss, i64_w, i32_w]
   rfl
  refine one_ (i := 4) (N := some 10) #[true, true, true, true, true, false, false, false, false, false, false, false, false, false, false] rfl rfl (by kernel_rfl) (by decide) (fun K hK => ?_)
  refine call_ 112 #[.agg #[.int .i64 k, .int .i64 a, .int .i64 n, .slice A3 d.length c3]] (by rfl) rfl (by kernel_rfl) ?_
  refine (frame_blocks_may.calls kk_ _ _ _ (fun k_ => k_ < _) _ _ d _ _ (Kx.V_of_C _ _ HC3.out HR3.out) HM.out).mono ?_
  rintro e wm ⟨rfl, hb⟩
  refine ⟨_, rfl, ?_⟩
  have n_HB := Aside0.mk (below_step HB.out hb)
  have n_BKc := Aside0.mk (blk_below BKc.out hb)
  have n_HR := Aside0.mk (Kd.C_below HR3.out hb)
  clear HB BKc HR3 hb
  have HB := n_HB
  have BKc := n_BKc
  have HR3 := n_HR
  clear n_HB n_BKc n_HR
  refine hK.out _ _ ⟨((blk_cell BKc.out 0).trans rfl), ((blk_cell BKc.out 1).trans rfl), ((blk_cell BKc.out 2).trans rfl), ((blk_cell BKc.out 3).trans rfl), ((blk_cell BKc.out 4).trans rfl), ((blk_cell BKc.out 5).trans rfl), ((blk_cell BKc.out 6).trans rfl)⟩ (fun hHeld => ?_)
  clear hK K
  refine norm_ (a' := ?_) ?_ ?_
  rotate_left
  ·show Act.put _ (some 10) _ = _
   simp only [Act.put, Kx.sb, Kx.sz, Kx.ss, i64_w, i32_w]
   rfl
  refine pure_ (i := 5) (N := some 11) (v := ?_) (a' := ?_) #[true, true, true, true, true, true, false, false, false, false, false, false, false, false, false] rfl rfl (by kernel_rfl) (fun _ _ _ h => h) (Or.inl ⟨by rfl, ?_⟩) ?_ ?_
  rotate_left
  ·intro w'
   go_simp
   with_reducible rfl
  rotate_left
  ·simp only [Act.put, Kx.sb, Kx.sz, Kx.ss, i64_w, i32_w]
   rfl
  refine pure_ (i := 6) (N := some 12) (v := ?_) (a' := ?_) #[true, true, true, true, true, true, true, false, false, false, false, false, false, false, false] rfl rfl (by kernel_rfl) (fun _ _ _ h => h) (Or.inl ⟨by rfl, ?_⟩) ?_ ?_
  rotate_left
  ·intro w'
   go_simp
   with_reducible rfl
  rotate_left
  ·simp only [Act.put, Kx.sb, Kx.sz, Kx.ss, i64_w, i32_w]
   rfl
  refine pure_ (i := 7) (N := some 13) (v := undef) (a' := ?_) #[true, true, true, true, true, true, true, true, false, false, false, false, false, false, false] rfl rfl (by kernel_rfl) (fun _ _ _ h => h) (Or.inr ⟨by rfl, rfl⟩) ?_ ?_
  rotate_left
  ·simp only [Act.put, Kx.sb, Kx.sz, Kx.ss, i64_w, i32_w]
   rfl
  refine pure_ (i := 8) (N := some 14) (v := undef) (a' := ?_) #[true, true, true, true, true, true, true, true, true, false, false, false, false, false, false] rfl rfl (by kernel_rfl) (fun _ _ _ h => h) (Or.inr ⟨by rfl, rfl⟩) ?_ ?_
  rotate_left
  ·simp only [Act.put, Kx.sb, Kx.sz, Kx.ss, i64_w, i32_w]
   rfl
  refine pure_ (i := 9) (N := some 15) (v := undef) (a' := ?_) #[true, true, true, true, true, true, true, true, true, true, false, false, false, false, false] rfl rfl (by kernel_rfl) (fun _ _ _ h => h) (Or.inr ⟨by rfl, rfl⟩) ?_ ?_
  rotate_left
  ·simp only [Act.put, Kx.sb, Kx.sz, Kx.ss, i64_w, i32_w]
   rfl
  refine pure_ (i := 10) (N := some 16) (v := undef) (a' := ?_) #[true, true, true, true, true, true, true, true, true, true, true, false, false, false, false] rfl rfl (by kernel_rfl) (fun _ _ _ h => h) (Or.inr ⟨by rfl, rfl⟩) ?_ ?_
  rotate_left
  ·simp only [Act.put, Kx.sb, Kx.sz, Kx.ss, i64_w, i32_w]
   rfl
  refine pure_ (i := 11) (N := some 17) (v := undef) (a' := ?_) #[true, true, true, true, true, true, true, true, true, true, true, true, false, false, false] rfl rfl (by kernel_rfl) (fun _ _ _ h => h) (Or.inr ⟨by rfl, rfl⟩) ?_ ?_
  rotate_left
  ·simp only [Act.put, Kx.sb, Kx.sz, Kx.ss, i64_w, i32_w]
   rfl
  refine pure_ (i := 12) (N := some 18) (v := undef) (a' := ?_) #[true, true, true, true, true, true, true, true, true, true, true, true, true, false, false] rfl rfl (by kernel_rfl) (fun _ _ _ h => h) (Or.inr ⟨by rfl, rfl⟩) ?_ ?_
  rotate_left
  ·simp only [Act.put, Kx.sb, Kx.sz, Kx.ss, i64_w, i32_w]
   rfl
  refine pure_ (i := 13) (N := some 19) (v := ?_) (a' := ?_) #[true, true, true, true, true, true, true, true, true, true, true, true, true, true, false] rfl rfl (by kernel_rfl) (fun _ _ _ h => h) (Or.inl ⟨by rfl, ?_⟩) ?_ ?_
  rotate_left
  ·intro w'
   go_simp
   with_reducible rfl
  rotate_left
  ·simp only [Act.put, Kx.sb, Kx.sz, Kx.ss, i64_w, i32_w]
   rfl
  refine pure_ (i := 14) (N := some 2) (v := ?_) (a' := ?_) #[true, true, true, true, true, true, true, true, true, true, true, true, true, true, true] rfl rfl (by kernel_rfl) (fun _ _ _ h => h) (Or.inl ⟨by rfl, ?_⟩) ?_ ?_
  rotate_left
  ·intro w'
   go_simp
   with_reducible rfl
  rotate_left
  ·simp only [Act.put, Kx.sb, Kx.sz, Kx.ss, i64_w, i32_w]
   rfl
  refine done_ (by kernel_rfl) ?_
  clear hHeld
  go_wp2_with fail
  go_ret
  exact ⟨rfl, HB.out⟩
 | true =>
  have n_HB := Aside0.mk (below_drew HB.out)
  have n_BKc := Aside0.mk (blk_drew BKc.out)
  have n_HR := Aside0.mk (Kd.C_drew HR3.out)
  clear HB BKc HR3
  have HB := n_HB
  have BKc := n_BKc
  have HR3 := n_HR
  clear n_HB n_BKc n_HR
  refine start_ (n := 15) (S := fun w' => w'.cell? ⟨gc, 0, none⟩ = some (.int .i64 k) ∧ w'.cell? ⟨gc, 1, none⟩ = some (.int .i64 a) ∧ w'.cell? ⟨gc, 2, none⟩ = some (.int .i64 n) ∧ w'.cell? ⟨gc, 3, none⟩ = some (.slice A3 d.length c3) ∧ w'.cell? ⟨gc, 4, none⟩ = some (.int .i64 A) ∧ w'.cell? ⟨gc, 5, none⟩ = some (.int .i64 B) ∧ w'.cell? ⟨gc, 6, none⟩ = some (.int .i64 C)) (ds := []) #[false, false, false, false, false, false, false, false, false, false, false, false, false, false, false] (by kernel_rfl) rfl rfl ⟨((blk_cell BKc.out 0).trans rfl), ((blk_cell BKc.out 1).trans rfl), ((blk_cell BKc.out 2).trans rfl), ((blk_cell BKc.out 3).trans rfl), ((blk_cell BKc.out 4).trans rfl), ((blk_cell BKc.out 5).trans rfl), ((blk_cell BKc.out 6).trans rfl)⟩ (fun hHeld => ?_)
  generalize w2.drew = wd at HB BKc HR3 hHeld ⊢
  refine pure_ (i := 0) (N := some 6) (v := ?_) (a' := ?_) #[true, false, false, false, false, false, false, false, false, false, false, false, false, false, false] rfl rfl (by kernel_rfl) (fun _ _ _ h => h) (Or.inl ⟨by rfl, ?_⟩) ?_ ?_
  rotate_left
  ·intro w'
   go_simp
   with_reducible rfl
  rotate_left
  ·simp only [Act.put, Kx.sb, Kx.sz, Kx.ss, i64_w, i32_w]
   rfl
  refine pure_ (i := 1) (N := some 7) (v := ?_) (a' := ?_) #[true, true, false, false, false, false, false, false, false, false, false, false, false, false, false] rfl rfl (by kernel_rfl) (fun _ _ _ h => h) (Or.inl ⟨by rfl, ?_⟩) ?_ ?_
  rotate_left
  ·intro w'
   go_simp
   with_reducible rfl
  rotate_left
  ·simp only [Act.put, Kx.sb, Kx.sz, Kx.ss, i64_w, i32_w]
   rfl
  refine pure_ (i := 2) (N := some 8) (v := ?_) (a' := ?_) #[true, true, true, false, false, false, false, false, false, false, false, false, false, false, false] rfl rfl (by kernel_rfl) (fun _ _ _ h => h) (Or.inl ⟨by rfl, ?_⟩) ?_ ?_
  rotate_left
  ·intro w'
   go_simp
   with_reducible rfl
  rotate_left
  ·simp only [Act.put, Kx.sb, Kx.sz, Kx.ss, i64_w, i32_w]
   rfl
  refine pure_ (i := 3) (N := some 9) (v := ?_) (a' := ?_) #[true, true, true, true, false, false, false, false, false, false, false, false, false, false, false] rfl rfl (by kernel_rfl) (fun _ _ _ h => h) (Or.inl ⟨by rfl, ?_⟩) ?_ ?_
  rotate_left
  ·intro w'
   go_simp
   with_reducible rfl
  rotate_left
  ·simp only [Act.put, Kx.sb, Kx.sz, Kx.ss, i64_w, i32_w]
   rfl
  refine one_ (i := 4) (N := some 10) #[true, true, true, true, true, false, false, false, false, false, false, false, false, false, false] rfl rfl (by kernel_rfl) (by decide) (fun K hK => ?_)
  refine call_ 112 #[.agg #[.int .i64 k, .int .i64 a, .int .i64 n, .slice A3 d.length c3]] (by rfl) rfl (by kernel_rfl) ?_
  refine (frame_blocks_may.calls kk_ _ _ _ (fun k_ => k_ < _) _ _ d _ _ (Kx.V_of_C _ _ HC3.out HR3.out) HM.out).mono ?_
  rintro e wm ⟨rfl, hb⟩
  refine ⟨_, rfl, ?_⟩
  have n_HB := Aside0.mk (below_step HB.out hb)
  have n_BKc := Aside0.mk (blk_below BKc.out hb)
  have n_HR := Aside0.mk (Kd.C_below HR3.out hb)
  clear HB BKc HR3 hb
  have HB := n_HB
  have BKc := n_BKc
  have HR3 := n_HR
  clear n_HB n_BKc n_HR
  refine hK.out _ _ ⟨((blk_cell BKc.out 0).trans rfl), ((blk_cell BKc.out 1).trans rfl), ((blk_cell BKc.out 2).trans rfl), ((blk_cell BKc.out 3).trans rfl), ((blk_cell BKc.out 4).trans rfl), ((blk_cell BKc.out 5).trans rfl), ((blk_cell BKc.out 6).trans rfl)⟩ (fun hHeld => ?_)
  clear hK K
  refine norm_ (a' := ?_) ?_ ?_
  rotate_left
  ·show Act.put _ (some 10) _ = _
   simp only [Act.put, Kx.sb, Kx.sz, Kx.ss, i64_w, i32_w]
   rfl
  refine pure_ (i := 5) (N := some 11) (v := ?_) (a' := ?_) #[true, true, true, true, true, true, false, false, false, false, false, false, false, false, false] rfl rfl (by kernel_rfl) (fun _ _ _ h => h) (Or.inl ⟨by rfl, ?_⟩) ?_ ?_
  rotate_left
  ·intro w'
   go_simp
   with_reducible rfl
  rotate_left
  ·simp only [Act.put, Kx.sb, Kx.sz, Kx.ss, i64_w, i32_w]
   rfl
  refine pure_ (i := 6) (N := some 12) (v := ?_) (a' := ?_) #[true, true, true, true, true, true, true, false, false, false, false, false, false, false, false] rfl rfl (by kernel_rfl) (fun _ _ _ h => h) (Or.inl ⟨by rfl, ?_⟩) ?_ ?_
  rotate_left
  ·intro w'
   go_simp
   with_reducible rfl
  rotate_left
  ·simp only [Act.put, Kx.sb, Kx.sz, Kx.ss, i64_w, i32_w]
   rfl
  refine pure_ (i := 7) (N := some 13) (v := ?_) (a' := ?_) #[true, true, true, true, true, true, true, true, false, false, false, false, false, false, false] rfl rfl (by kernel_rfl) (fun _ _ _ h => h) (Or.inl ⟨by rfl, ?_⟩) ?_ ?_
  rotate_left
  ·intro w'
   go_simp
   with_reducible rfl
  rotate_left
  ·simp only [Act.put, Kx.sb, Kx.sz, Kx.ss, i64_w, i32_w]
   rfl
  refine pure_ (i := 9) (N := some 15) (v := ?_) (a' := ?_) #[true, true, true, true, true, true, true, true, false, true, false, false, false, false, false] rfl rfl (by kernel_rfl) (fun _ _ _ h => h) (Or.inl ⟨by rfl, ?_⟩) ?_ ?_
  rotate_left
  ·intro w'
   go_simp
   with_reducible rfl
  rotate_left
  ·simp only [Act.put, Kx.sb, Kx.sz, Kx.ss, i64_w, i32_w]
   rfl
  refine take_ (i := 8) (N := some 14) (v := ?_) (a' := ?_) #[true, true, true, true, true, true, true, true, true, true, false, false, false, false, false] rfl rfl (by kernel_rfl) (fun _ _ _ h => h) (Or.inl ⟨by rfl, ?_⟩) hHeld ?_ ?_
  rotate_left
  ·rintro w' ⟨s0, s1, s2, s3, s4, s5, s6⟩
   go_simp
   with_reducible rfl
  rotate_left
  ·simp only [Act.put, Kx.sb, Kx.sz, Kx.ss, i64_w, i32_w]
   rfl
  refine take_ (i := 11) (N := some 17) (v := ?_) (a' := ?_) #[true, true, true, true, true, true, true, true, true, true, false, true, false, false, false] rfl rfl (by kernel_rfl) (fun _ _ _ h => h) (Or.inl ⟨by rfl, ?_⟩) hHeld ?_ ?_
  rotate_left
  ·rintro w' ⟨s0, s1, s2, s3, s4, s5, s6⟩
   go_simp
   with_reducible rfl
  rotate_left
  ·simp only [Act.put, Kx.sb, Kx.sz, Kx.ss, i64_w, i32_w]
   rfl
  refine one_ (i := 10) (N := some 16) #[true, true, true, true, true, true, true, true, true, true, true, true, false, false, false] rfl rfl (by kernel_rfl) (by decide) (fun K hK => ?_)
  refine goes_ Try.func47 (by kernel_rfl) rfl #[.int .i64 k, .iface 95 (.agg #[.int .i64 k, .int .i64 a, .int .i64 n, .slice A3 d.length c3])] (by rfl) rfl rfl (by simp only [List.map_toArray, List.map_cons, List.map_nil]; rfl) ?_
  refine (frame_framed.blocks _ _ _ _ _ _ _ _).mono ?_
  rintro e wf ⟨rfl, hb⟩
  refine ⟨_, rfl, ?_⟩
  have n_HB := Aside0.mk (below_step HB.out hb)
  have n_BKc := Aside0.mk (blk_below BKc.out hb)
  have n_HR := Aside0.mk (Kd.C_below HR3.out hb)
  clear HB BKc HR3 hb
  have HB := n_HB
  have BKc := n_BKc
  have HR3 := n_HR
  clear n_HB n_BKc n_HR
  refine hK.out _ _ ⟨((blk_cell BKc.out 0).trans rfl), ((blk_cell BKc.out 1).trans rfl), ((blk_cell BKc.out 2).trans rfl), ((blk_cell BKc.out 3).trans rfl), ((blk_cell BKc.out 4).trans rfl), ((blk_cell BKc.out 5).trans rfl), ((blk_cell BKc.out 6).trans rfl)⟩ (fun hHeld => ?_)
  clear hK K
  refine norm_ (a' := ?_) ?_ ?_
  rotate_left
  ·show Act.put _ (some 16) _ = _
   simp only [Act.put, Kx.sb, Kx.sz, Kx.ss, i64_w, i32_w]
   rfl
  refine one_ (i := 12) (N := some 18) #[true, true, true, true, true, true, true, true, true, true, true, true, true, false, false] rfl rfl (by kernel_rfl) (by decide) (fun K hK => ?_)
  refine goes_ Try.func49 (by kernel_rfl) rfl #[.agg #[.int .i64 k, .int .i64 a, .int .i64 n, .slice A3 d.length c3, .int .i64 0, .int .i64 0, .int .i64 0], .agg #[.int .i64 k, .int .i64 a, .int .i64 n, .slice A3 d.length c3, .int .i64 A, .int .i64 B, .int .i64 C]] (by rfl) rfl rfl (by simp only [List.map_toArray, List.map_cons, List.map_nil]; rfl) ?_
  refine (frame_same.calls k a n A3 c3 d 0 0 0 k a n A3 c3 d A B C t2 _ HR3.out HC3.out HR3.out HC3.out (HS.out rfl)).mono ?_
  rintro e ws ⟨rfl, hb⟩
  refine ⟨_, rfl, ?_⟩
  have n_HB := Aside0.mk (below_step HB.out hb)
  have n_BKc := Aside0.mk (blk_below BKc.out hb)
  have n_HR := Aside0.mk (Kd.C_below HR3.out hb)
  clear HB BKc HR3 hb
  have HB := n_HB
  have BKc := n_BKc
  have HR3 := n_HR
  clear n_HB n_BKc n_HR
  refine hK.out _ _ ⟨((blk_cell BKc.out 0).trans rfl), ((blk_cell BKc.out 1).trans rfl), ((blk_cell BKc.out 2).trans rfl), ((blk_cell BKc.out 3).trans rfl), ((blk_cell BKc.out 4).trans rfl), ((blk_cell BKc.out 5).trans rfl), ((blk_cell BKc.out 6).trans rfl)⟩ (fun hHeld => ?_)
  clear hK K
  refine norm_ (a' := ?_) ?_ ?_
  rotate_left
  ·show Act.put _ (some 18) _ = _
   simp only [Act.put, Kx.sb, Kx.sz, Kx.ss, i64_w, i32_w]
   rfl
  refine pure_ (i := 13) (N := some 19) (v := ?_) (a' := ?_) #[true, true, true, true, true, true, true, true, true, true, true, true, true, true, false] rfl rfl (by kernel_rfl) (fun _ _ _ h => h) (Or.inl ⟨by rfl, ?_⟩) ?_ ?_
  rotate_left
  ·intro w'
   go_simp
   with_reducible rfl
  rotate_left
  ·simp only [Act.put, Kx.sb, Kx.sz, Kx.ss, i64_w, i32_w]
   rfl
  refine pure_ (i := 14) (N := some 2) (v := ?_) (a' := ?_) #[true, true, true, true, true, true, true, true, true, true, true, true, true, true, true] rfl rfl (by kernel_rfl) (fun _ _ _ h => h) (Or.inl ⟨by rfl, ?_⟩) ?_ ?_
  rotate_left
  ·intro w'
   go_simp
   with_reducible rfl
  rotate_left
  ·simp only [Act.put, Kx.sb, Kx.sz, Kx.ss, i64_w, i32_w]
   rfl
  refine done_ (by kernel_rfl) ?_
  clear hHeld
  go_wp2_with fail
  go_ret
  exact ⟨rfl, HB.out⟩
set_option maxRecDepth 100000 in
set_option maxHeartbeats 2000000 in
theorem frame_Check.endB (a n : Int) (A3 : Option Addr) (c3 : Nat) (d : List Int) (A B C : Int) (t1 t2 : Bool) (w : World) (hr : Kd.C (Kd.int .u8) w A3 d.length d) (hc : d.length ≤ c3) (hm : frame_end_may.f A B = some t1) (hs : t1 = true → frame_same.f 5 0 0 [] A B 0 5 a n d A B C = some t2) : Calls Try.prog 24 #[.agg #[.int .i64 5, .int .i64 a, .int .i64 n, .slice A3 d.length c3, .int .i64 A, .int .i64 B, .int .i64 C]] w fun e w' => e = .returned (.bool (t1 && t2)) ∧ Below w.heap.size w w' := by
 have hu0 := Try.underlying38
 have HR3 := Aside0.mk hr
 have HC3 := Aside0.mk hc
 have HB := Aside0.mk (Below.refl w.heap.size w)
 clear hr hc
 have HM := Aside0.mk hm
 have HS := Aside0.mk hs
 clear hm hs
 have hv : ofV 5 a n A3 d.length c3 A B C = .iface 97 (.agg #[.int .i64 A, .int .i64 B]) := rfl
 have HV := Aside0.mk hv
 clear hv
 go_enter Try.func24, Try.ntmps24
 go_upto_region 1 with ((with_reducible refine gate_dst (N := 1) rfl ?_); refine box_event ?hg (N := 1) ?hd (cs := #[.int .i64 5, .int .i64 a, .int .i64 n, .slice A3 d.length c3, .int .i64 A, .int .i64 B, .int .i64 C]) (t := 38) ?hr ?_; (case hd => rfl); (case hg => rfl); (case hr => first | (go_simp; done) | (go_simp; rfl)); intro gc hg w1 hbox hb; have BKc := Aside0.mk hbox; have n_HB := Aside0.mk (below_step HB.out hb); have n_HR := Aside0.mk (Kd.C_below HR3.out hb); clear HB HR3 hb hbox hg; have HB := n_HB; have HR3 := n_HR; clear n_HB n_HR; have hcz0 : w1.cell? ⟨gc, 0, none⟩ = some (.int .i64 5) := (blk_cell BKc.out 0).trans rfl; have hcz1 : w1.cell? ⟨gc, 1, none⟩ = some (.int .i64 a) := (blk_cell BKc.out 1).trans rfl; have hcz2 : w1.cell? ⟨gc, 2, none⟩ = some (.int .i64 n) := (blk_cell BKc.out 2).trans rfl; have hcz3 : w1.cell? ⟨gc, 3, none⟩ = some (.slice A3 d.length c3) := (blk_cell BKc.out 3).trans rfl; have hcz4 : w1.cell? ⟨gc, 4, none⟩ = some (.int .i64 A) := (blk_cell BKc.out 4).trans rfl; have hcz5 : w1.cell? ⟨gc, 5, none⟩ = some (.int .i64 B) := (blk_cell BKc.out 5).trans rfl; have hcz6 : w1.cell? ⟨gc, 6, none⟩ = some (.int .i64 C) := (blk_cell BKc.out 6).trans rfl)
 go_upto_region 2 with (go_at_call 38; refine (frame_of.calls _ _ _ _ _ _ _ _ _ _).mono ?_; rintro e w2 ⟨rfl, hb⟩; rw [HV.out]; have n_HB := Aside0.mk (below_step HB.out hb); have n_BKc := Aside0.mk (blk_below BKc.out hb); have n_HR := Aside0.mk (Kd.C_below HR3.out hb); clear HB BKc HR3 hb; have HB := n_HB; have BKc := n_BKc; have HR3 := n_HR; clear n_HB n_BKc n_HR; clear hcz0 hcz1 hcz2 hcz3 hcz4 hcz5 hcz6)
 cases t1 with
 | false =>
  have n_HB := Aside0.mk (below_drew HB.out)
  have n_BKc := Aside0.mk (blk_drew BKc.out)
  have n_HR := Aside0.mk (Kd.C_drew HR3.out)
  clear HB BKc HR3
  have HB := n_HB
  have BKc := n_BKc
  have HR3 := n_HR
  clear n_HB n_BKc n_HR
  refine start_ (n := 15) (S := fun w' => w'.cell? ⟨gc, 0, none⟩ = some (.int .i64 5) ∧ w'.cell? ⟨gc, 1, none⟩ = some (.int .i64 a) ∧ w'.cell? ⟨gc, 2, none⟩ = some (.int .i64 n) ∧ w'.cell? ⟨gc, 3, none⟩ = some (.slice A3 d.length c3) ∧ w'.cell? ⟨gc, 4, none⟩ = some (.int .i64 A) ∧ w'.cell? ⟨gc, 5, none⟩ = some (.int .i64 B) ∧ w'.cell? ⟨gc, 6, none⟩ = some (.int .i64 C)) (ds := []) #[false, false, false, false, false, false, false, false, false, false, false, false, false, false, false] (by kernel_rfl) rfl rfl ⟨((blk_cell BKc.out 0).trans rfl), ((blk_cell BKc.out 1).trans rfl), ((blk_cell BKc.out 2).trans rfl), ((blk_cell BKc.out 3).trans rfl), ((blk_cell BKc.out 4).trans rfl), ((blk_cell BKc.out 5).trans rfl), ((blk_cell BKc.out 6).trans rfl)⟩ (fun hHeld => ?_)
  generalize w2.drew = wd at HB BKc HR3 hHeld ⊢
  refine pure_ (i := 0) (N := some 6) (v := ?_) (a' := ?_) #[true, false, false, false, false, false, false, false, false, false, false, false, false, false, false] rfl rfl (by kernel_rfl) (fun _ _ _ h => h) (Or.inl ⟨by rfl, ?_⟩) ?_ ?_
  rotate_left
  ·intro w'
   go_simp
   with_reducible rfl
  rotate_left
  ·simp only [Act.put, Kx.sb, Kx.sz, Kx.ss, i64_w, i32_w]
   rfl
  refine pure_ (i := 1) (N := some 7) (v := ?_) (a' := ?_) #[true, true, false, false, false, false, false, false, false, false, false, false, false, false, false] rfl rfl (by kernel_rfl) (fun _ _ _ h => h) (Or.inl ⟨by rfl, ?_⟩) ?_ ?_
  rotate_left
  ·intro w'
   go_simp
   with_reducible rfl
  rotate_left
  ·simp only [Act.put, Kx.sb, Kx.sz, Kx.ss, i64_w, i32_w]
   rfl
  refine pure_ (i := 2) (N := some 8) (v := ?_) (a' := ?_) #[true, true, true, false, false, false, false, false, false, false, false, false, false, false, false] rfl rfl (by kernel_rfl) (fun _ _ _ h => h) (Or.inl ⟨by rfl, ?_⟩) ?_ ?_
  rotate_left
  ·intro w'
   go_simp
   with_reducible rfl
  rotate_left
  ·simp only [Act.put, Kx.sb, Kx.sz, Kx.ss, i64_w, i32_w]
   rfl
  refine pure_ (i := 3) (N := some 9) (v := ?_) (a' := ?_) #[true, true, true, true, false, false, false, false, false, false, false, false, false, false, false] rfl rfl (by kernel_rfl) (fun _ _ _ h => h) (Or.inl ⟨by rfl, ?_⟩) ?_ ?_
  rotate_left
  ·intro w'
   go_simp
   with_reducible rfl
  rotate_left
  ·simp only [Act.put, Kx.sb, Kx.sz, Kx.ss, i64_w, i32_w]
   rfl
  refine one_ (i := 4) (N := some 10) #[true, true, true, true, true, false, false, false, false, false, false, false, false, false, false] rfl rfl (by kernel_rfl) (by decide) (fun K hK => ?_)
  refine call_ 114 #[.agg #[.int .i64 A, .int .i64 B]] (by rfl) rfl (by kernel_rfl) ?_
  refine (frame_end_may.calls _ _ _ _ HM.out).mono ?_
  rintro e wm ⟨rfl, hb⟩
  refine ⟨_, rfl, ?_⟩
  have n_HB := Aside0.mk (below_step HB.out hb)
  have n_BKc := Aside0.mk (blk_below BKc.out hb)
  have n_HR := Aside0.mk (Kd.C_below HR3.out hb)
  clear HB BKc HR3 hb
  have HB := n_HB
  have BKc := n_BKc
  have HR3 := n_HR
  clear n_HB n_BKc n_HR
  refine hK.out _ _ ⟨((blk_cell BKc.out 0).trans rfl), ((blk_cell BKc.out 1).trans rfl), ((blk_cell BKc.out 2).trans rfl), ((blk_cell BKc.out 3).trans rfl), ((blk_cell BKc.out 4).trans rfl), ((blk_cell BKc.out 5).trans rfl), ((blk_cell BKc.out 6).trans rfl)⟩ (fun hHeld => ?_)
  clear hK K
  refine norm_ (a' := ?_) ?_ ?_
  rotate_left
  ·show Act.put _ (some 10) _ = _
   simp only [Act.put, Kx.sb, Kx.sz, Kx.ss, i64_w, i32_w]
   rfl
  refine pure_ (i := 5) (N := some 11) (v := ?_) (a' := ?_) #[true, true, true, true, true, true, false, false, false, false, false, false, false, false, false] rfl rfl (by kernel_rfl) (fun _ _ _ h => h) (Or.inl ⟨by rfl, ?_⟩) ?_ ?_
  rotate_left
  ·intro w'
   go_simp
   with_reducible rfl
  rotate_left
  ·simp only [Act.put, Kx.sb, Kx.sz, Kx.ss, i64_w, i32_w]
   rfl
  refine pure_ (i := 6) (N := some 12) (v := ?_) (a' := ?_) #[true, true, true, true, true, true, true, false, false, false, false, false, false, false, false] rfl rfl (by kernel_rfl) (fun _ _ _ h => h) (Or.inl ⟨by rfl, ?_⟩) ?_ ?_
  rotate_left
  ·intro w'
   go_simp
   with_reducible rfl
  rotate_left
  ·simp only [Act.put, Kx.sb, Kx.sz, Kx.ss, i64_w, i32_w]
   rfl
  refine pure_ (i := 7) (N := some 13) (v := undef) (a' := ?_) #[true, true, true, true, true, true, true, true, false, false, false, false, false, false, false] rfl rfl (by kernel_rfl) (fun _ _ _ h => h) (Or.inr ⟨by rfl, rfl⟩) ?_ ?_
  rotate_left
  ·simp only [Act.put, Kx.sb, Kx.sz, Kx.ss, i64_w, i32_w]
   rfl
  refine pure_ (i := 8) (N := some 14) (v := undef) (a' := ?_) #[true, true, true, true, true, true, true, true, true, false, false, false, false, false, false] rfl rfl (by kernel_rfl) (fun _ _ _ h => h) (Or.inr ⟨by rfl, rfl⟩) ?_ ?_
  rotate_left
  ·simp only [Act.put, Kx.sb, Kx.sz, Kx.ss, i64_w, i32_w]
   rfl
  refine pure_ (i := 9) (N := some 15) (v := undef) (a' := ?_) #[true, true, true, true, true, true, true, true, true, true, false, false, false, false, false] rfl rfl (by kernel_rfl) (fun _ _ _ h => h) (Or.inr ⟨by rfl, rfl⟩) ?_ ?_
  rotate_left
  ·simp only [Act.put, Kx.sb, Kx.sz, Kx.ss, i64_w, i32_w]
   rfl
  refine pure_ (i := 10) (N := some 16) (v := undef) (a' := ?_) #[true, true, true, true, true, true, true, true, true, true, true, false, false, false, false] rfl rfl (by kernel_rfl) (fun _ _ _ h => h) (Or.inr ⟨by rfl, rfl⟩) ?_ ?_
  rotate_left
  ·simp only [Act.put, Kx.sb, Kx.sz, Kx.ss, i64_w, i32_w]
   rfl
  refine pure_ (i := 11) (N := some 17) (v := undef) (a' := ?_) #[true, true, true, true, true, true, true, true, true, true, true, true, false, false, false] rfl rfl (by kernel_rfl) (fun _ _ _ h => h) (Or.inr ⟨by rfl, rfl⟩) ?_ ?_
  rotate_left
  ·simp only [Act.put, Kx.sb, Kx.sz, Kx.ss, i64_w, i32_w]
   rfl
  refine pure_ (i := 12) (N := some 18) (v := undef) (a' := ?_) #[true, true, true, true, true, true, true, true, true, true, true, true, true, false, false] rfl rfl (by kernel_rfl) (fun _ _ _ h => h) (Or.inr ⟨by rfl, rfl⟩) ?_ ?_
  rotate_left
  ·simp only [Act.put, Kx.sb, Kx.sz, Kx.ss, i64_w, i32_w]
   rfl
  refine pure_ (i := 13) (N := some 19) (v := ?_) (a' := ?_) #[true, true, true, true, true, true, true, true, true, true, true, true, true, true, false] rfl rfl (by kernel_rfl) (fun _ _ _ h => h) (Or.inl ⟨by rfl, ?_⟩) ?_ ?_
  rotate_left
  ·intro w'
   go_simp
   with_reducible rfl
  rotate_left
  ·simp only [Act.put, Kx.sb, Kx.sz, Kx.ss, i64_w, i32_w]
   rfl
  refine pure_ (i := 14) (N := some 2) (v := ?_) (a' := ?_) #[true, true, true, true, true, true, true, true, true, true, true, true, true, true, true] rfl rfl (by kernel_rfl) (fun _ _ _ h => h) (Or.inl ⟨by rfl, ?_⟩) ?_ ?_
  rotate_left
  ·intro w'
   go_simp
   with_reducible rfl
  rotate_left
  ·simp only [Act.put, Kx.sb, Kx.sz, Kx.ss, i64_w, i32_w]
   rfl
  refine done_ (by kernel_rfl) ?_
  clear hHeld
  go_wp2_with fail
  go_ret
  exact ⟨rfl, HB.out⟩
 | true =>
  have n_HB := Aside0.mk (below_drew HB.out)
  have n_BKc := Aside0.mk (blk_drew BKc.out)
  have n_HR := Aside0.mk (Kd.C_drew HR3.out)
  clear HB BKc HR3
  have HB := n_HB
  have BKc := n_BKc
  have HR3 := n_HR
  clear n_HB n_BKc n_HR
  refine start_ (n := 15) (S := fun w' => w'.cell? ⟨gc, 0, none⟩ = some (.int .i64 5) ∧ w'.cell? ⟨gc, 1, none⟩ = some (.int .i64 a) ∧ w'.cell? ⟨gc, 2, none⟩ = some (.int .i64 n) ∧ w'.cell? ⟨gc, 3, none⟩ = some (.slice A3 d.length c3) ∧ w'.cell? ⟨gc, 4, none⟩ = some (.int .i64 A) ∧ w'.cell? ⟨gc, 5, none⟩ = some (.int .i64 B) ∧ w'.cell? ⟨gc, 6, none⟩ = some (.int .i64 C)) (ds := []) #[false, false, false, false, false, false, false, false, false, false, false, false, false, false, false] (by kernel_rfl) rfl rfl ⟨((blk_cell BKc.out 0).trans rfl), ((blk_cell BKc.out 1).trans rfl), ((blk_cell BKc.out 2).trans rfl), ((blk_cell BKc.out 3).trans rfl), ((blk_cell BKc.out 4).trans rfl), ((blk_cell BKc.out 5).trans rfl), ((blk_cell BKc.out 6).trans rfl)⟩ (fun hHeld => ?_)
  generalize w2.drew = wd at HB BKc HR3 hHeld ⊢
  refine pure_ (i := 0) (N := some 6) (v := ?_) (a' := ?_) #[true, false, false, false, false, false, false, false, false, false, false, false, false, false, false] rfl rfl (by kernel_rfl) (fun _ _ _ h => h) (Or.inl ⟨by rfl, ?_⟩) ?_ ?_
  rotate_left
  ·intro w'
   go_simp
   with_reducible rfl
  rotate_left
  ·simp only [Act.put, Kx.sb, Kx.sz, Kx.ss, i64_w, i32_w]
   rfl
  refine pure_ (i := 1) (N := some 7) (v := ?_) (a' := ?_) #[true, true, false, false, false, false, false, false, false, false, false, false, false, false, false] rfl rfl (by kernel_rfl) (fun _ _ _ h => h) (Or.inl ⟨by rfl, ?_⟩) ?_ ?_
  rotate_left
  ·intro w'
   go_simp
   with_reducible rfl
  rotate_left
  ·simp only [Act.put, Kx.sb, Kx.sz, Kx.ss, i64_w, i32_w]
   rfl
  refine pure_ (i := 2) (N := some 8) (v := ?_) (a' := ?_) #[true, true, true, false, false, false, false, false, false, false, false, false, false, false, false] rfl rfl (by kernel_rfl) (fun _ _ _ h => h) (Or.inl ⟨by rfl, ?_⟩) ?_ ?_
  rotate_left
  ·intro w'
   go_simp
   with_reducible rfl
  rotate_left
  ·simp only [Act.put, Kx.sb, Kx.sz, Kx.ss, i64_w, i32_w]
   rfl
  refine pure_ (i := 3) (N := some 9) (v := ?_) (a' := ?_) #[true, true, true, true, false, false, false, false, false, false, false, false, false, false, false] rfl rfl (by kernel_rfl) (fun _ _ _ h => h) (Or.inl ⟨by rfl, ?_⟩) ?_ ?_
  rotate_left
  ·intro w'
   go_simp
   with_reducible rfl
  rotate_left
  ·simp only [Act.put, Kx.sb, Kx.sz, Kx.ss, i64_w, i32_w]
   rfl
  refine one_ (i := 4) (N := some 10) #[true, true, true, true, true, false, false, false, false, false, false, false, false, false, false] rfl rfl (by kernel_rfl) (by decide) (fun K hK => ?_)
  refine call_ 114 #[.agg #[.int .i64 A, .int .i64 B]] (by rfl) rfl (by kernel_rfl) ?_
  refine (frame_end_may.calls _ _ _ _ HM.out).mono ?_
  rintro e wm ⟨rfl, hb⟩
  refine ⟨_, rfl, ?_⟩
  have n_HB := Aside0.mk (below_step HB.out hb)
  have n_BKc := Aside0.mk (blk_below BKc.out hb)
  have n_HR := Aside0.mk (Kd.C_below HR3.out hb)
  clear HB BKc HR3 hb
  have HB := n_HB
  have BKc := n_BKc
  have HR3 := n_HR
  clear n_HB n_BKc n_HR
  refine hK.out _ _ ⟨((blk_cell BKc.out 0).trans rfl), ((blk_cell BKc.out 1).trans rfl), ((blk_cell BKc.out 2).trans rfl), ((blk_cell BKc.out 3).trans rfl), ((blk_cell BKc.out 4).trans rfl), ((blk_cell BKc.out 5).trans rfl), ((blk_cell BKc.out 6).trans rfl)⟩ (fun hHeld => ?_)
  clear hK K
  refine norm_ (a' := ?_) ?_ ?_
  rotate_left
  ·show Act.put _ (some 10) _ = _
   simp only [Act.put, Kx.sb, Kx.sz, Kx.ss, i64_w, i32_w]
   rfl
  refine pure_ (i := 5) (N := some 11) (v := ?_) (a' := ?_) #[true, true, true, true, true, true, false, false, false, false, false, false, false, false, false] rfl rfl (by kernel_rfl) (fun _ _ _ h => h) (Or.inl ⟨by rfl, ?_⟩) ?_ ?_
  rotate_left
  ·intro w'
   go_simp
   with_reducible rfl
  rotate_left
  ·simp only [Act.put, Kx.sb, Kx.sz, Kx.ss, i64_w, i32_w]
   rfl
  refine pure_ (i := 6) (N := some 12) (v := ?_) (a' := ?_) #[true, true, true, true, true, true, true, false, false, false, false, false, false, false, false] rfl rfl (by kernel_rfl) (fun _ _ _ h => h) (Or.inl ⟨by rfl, ?_⟩) ?_ ?_
  rotate_left
  ·intro w'
   go_simp
   with_reducible rfl
  rotate_left
  ·simp only [Act.put, Kx.sb, Kx.sz, Kx.ss, i64_w, i32_w]
   rfl
  refine pure_ (i := 7) (N := some 13) (v := ?_) (a' := ?_) #[true, true, true, true, true, true, true, true, false, false, false, false, false, false, false] rfl rfl (by kernel_rfl) (fun _ _ _ h => h) (Or.inl ⟨by rfl, ?_⟩) ?_ ?_
  rotate_left
  ·intro w'
   go_simp
   with_reducible rfl
  rotate_left
  ·simp only [Act.put, Kx.sb, Kx.sz, Kx.ss, i64_w, i32_w]
   rfl
  refine pure_ (i := 9) (N := some 15) (v := ?_) (a' := ?_) #[true, true, true, true, true, true, true, true, false, true, false, false, false, false, false] rfl rfl (by kernel_rfl) (fun _ _ _ h => h) (Or.inl ⟨by rfl, ?_⟩) ?_ ?_
  rotate_left
  ·intro w'
   go_simp
   with_reducible rfl
  rotate_left
  ·simp only [Act.put, Kx.sb, Kx.sz, Kx.ss, i64_w, i32_w]
   rfl
  refine take_ (i := 8) (N := some 14) (v := ?_) (a' := ?_) #[true, true, true, true, true, true, true, true, true, true, false, false, false, false, false] rfl rfl (by kernel_rfl) (fun _ _ _ h => h) (Or.inl ⟨by rfl, ?_⟩) hHeld ?_ ?_
  rotate_left
  ·rintro w' ⟨s0, s1, s2, s3, s4, s5, s6⟩
   go_simp
   with_reducible rfl
  rotate_left
  ·simp only [Act.put, Kx.sb, Kx.sz, Kx.ss, i64_w, i32_w]
   rfl
  refine take_ (i := 11) (N := some 17) (v := ?_) (a' := ?_) #[true, true, true, true, true, true, true, true, true, true, false, true, false, false, false] rfl rfl (by kernel_rfl) (fun _ _ _ h => h) (Or.inl ⟨by rfl, ?_⟩) hHeld ?_ ?_
  rotate_left
  ·rintro w' ⟨s0, s1, s2, s3, s4, s5, s6⟩
   go_simp
   with_reducible rfl
  rotate_left
  ·simp only [Act.put, Kx.sb, Kx.sz, Kx.ss, i64_w, i32_w]
   rfl
  refine one_ (i := 10) (N := some 16) #[true, true, true, true, true, true, true, true, true, true, true, true, false, false, false] rfl rfl (by kernel_rfl) (by decide) (fun K hK => ?_)
  refine goes_ Try.func47 (by kernel_rfl) rfl #[.int .i64 5, .iface 97 (.agg #[.int .i64 A, .int .i64 B])] (by rfl) rfl rfl (by simp only [List.map_toArray, List.map_cons, List.map_nil]; rfl) ?_
  refine (frame_framed.end _ _ _ _).mono ?_
  rintro e wf ⟨rfl, hb⟩
  refine ⟨_, rfl, ?_⟩
  have n_HB := Aside0.mk (below_step HB.out hb)
  have n_BKc := Aside0.mk (blk_below BKc.out hb)
  have n_HR := Aside0.mk (Kd.C_below HR3.out hb)
  clear HB BKc HR3 hb
  have HB := n_HB
  have BKc := n_BKc
  have HR3 := n_HR
  clear n_HB n_BKc n_HR
  refine hK.out _ _ ⟨((blk_cell BKc.out 0).trans rfl), ((blk_cell BKc.out 1).trans rfl), ((blk_cell BKc.out 2).trans rfl), ((blk_cell BKc.out 3).trans rfl), ((blk_cell BKc.out 4).trans rfl), ((blk_cell BKc.out 5).trans rfl), ((blk_cell BKc.out 6).trans rfl)⟩ (fun hHeld => ?_)
  clear hK K
  refine norm_ (a' := ?_) ?_ ?_
  rotate_left
  ·show Act.put _ (some 16) _ = _
   simp only [Act.put, Kx.sb, Kx.sz, Kx.ss, i64_w, i32_w]
   rfl
  refine one_ (i := 12) (N := some 18) #[true, true, true, true, true, true, true, true, true, true, true, true, true, false, false] rfl rfl (by kernel_rfl) (by decide) (fun K hK => ?_)
  refine goes_ Try.func49 (by kernel_rfl) rfl #[.agg #[.int .i64 5, .int .i64 0, .int .i64 0, .slice none 0 0, .int .i64 A, .int .i64 B, .int .i64 0], .agg #[.int .i64 5, .int .i64 a, .int .i64 n, .slice A3 d.length c3, .int .i64 A, .int .i64 B, .int .i64 C]] (by rfl) rfl rfl (by simp only [List.map_toArray, List.map_cons, List.map_nil]; rfl) ?_
  refine (frame_same.calls 5 0 0 none 0 [] A B 0 5 a n A3 c3 d A B C t2 _ (Kd.C_nil _ _) (Nat.le_refl _) HR3.out HC3.out (HS.out rfl)).mono ?_
  rintro e ws ⟨rfl, hb⟩
  refine ⟨_, rfl, ?_⟩
  have n_HB := Aside0.mk (below_step HB.out hb)
  have n_BKc := Aside0.mk (blk_below BKc.out hb)
  have n_HR := Aside0.mk (Kd.C_below HR3.out hb)
  clear HB BKc HR3 hb
  have HB := n_HB
  have BKc := n_BKc
  have HR3 := n_HR
  clear n_HB n_BKc n_HR
  refine hK.out _ _ ⟨((blk_cell BKc.out 0).trans rfl), ((blk_cell BKc.out 1).trans rfl), ((blk_cell BKc.out 2).trans rfl), ((blk_cell BKc.out 3).trans rfl), ((blk_cell BKc.out 4).trans rfl), ((blk_cell BKc.out 5).trans rfl), ((blk_cell BKc.out 6).trans rfl)⟩ (fun hHeld => ?_)
  clear hK K
  refine norm_ (a' := ?_) ?_ ?_
  rotate_left
  ·show Act.put _ (some 18) _ = _
   simp only [Act.put, Kx.sb, Kx.sz, Kx.ss, i64_w, i32_w]
   rfl
  refine pure_ (i := 13) (N := some 19) (v := ?_) (a' := ?_) #[true, true, true, true, true, true, true, true, true, true, true, true, true, true, false] rfl rfl (by kernel_rfl) (fun _ _ _ h => h) (Or.inl ⟨by rfl, ?_⟩) ?_ ?_
  rotate_left
  ·intro w'
   go_simp
   with_reducible rfl
  rotate_left
  ·simp only [Act.put, Kx.sb, Kx.sz, Kx.ss, i64_w, i32_w]
   rfl
  refine pure_ (i := 14) (N := some 2) (v := ?_) (a' := ?_) #[true, true, true, true, true, true, true, true, true, true, true, true, true, true, true] rfl rfl (by kernel_rfl) (fun _ _ _ h => h) (Or.inl ⟨by rfl, ?_⟩) ?_ ?_
  rotate_left
  ·intro w'
   go_simp
   with_reducible rfl
  rotate_left
  ·simp only [Act.put, Kx.sb, Kx.sz, Kx.ss, i64_w, i32_w]
   rfl
  refine done_ (by kernel_rfl) ?_
  clear hHeld
  go_wp2_with fail
  go_ret
  exact ⟨rfl, HB.out⟩
set_option maxRecDepth 100000 in
set_option maxHeartbeats 2000000 in
theorem frame_Check.noneB (k : Int) (a n : Int) (A3 : Option Addr) (c3 : Nat) (d : List Int) (A B C : Int) (w : World) (hr : Kd.C (Kd.int .u8) w A3 d.length d) (hc : d.length ≤ c3) (hk : ¬ (1 ≤ k ∧ k ≤ 5)) : Calls Try.prog 24 #[.agg #[.int .i64 k, .int .i64 a, .int .i64 n, .slice A3 d.length c3, .int .i64 A, .int .i64 B, .int .i64 C]] w fun e w' => e = .returned (.bool false) ∧ Below w.heap.size w w' := by
 have hu0 := Try.underlying38
 have HR3 := Aside0.mk hr
 have HC3 := Aside0.mk hc
 have HB := Aside0.mk (Below.refl w.heap.size w)
 clear hr hc
 have hv : ofV k a n A3 d.length c3 A B C = .nilIface := by unfold ofV; rw [if_neg (by omega), if_neg (by omega), if_neg (by omega)]
 have HV := Aside0.mk hv
 clear hv hk
 go_enter Try.func24, Try.ntmps24
 go_upto_region 2 with (go_at_call 38; refine (frame_of.calls _ _ _ _ _ _ _ _ _ _).mono ?_; rintro e w2 ⟨rfl, hb⟩; rw [HV.out]; have n_HB := Aside0.mk (below_step (below_alloc HB.out _) hb); clear HB hb; have HB := n_HB; clear n_HB)
 have n_HB := Aside0.mk (below_drew HB.out)
 clear HB
 have HB := n_HB
 clear n_HB
 refine start_ (n := 15) (S := fun w' => True) (ds := []) #[false, false, false, false, false, false, false, false, false, false, false, false, false, false, false] (by kernel_rfl) rfl rfl trivial (fun hHeld => ?_)
 generalize w2.drew = wd at HB hHeld ⊢
 refine pure_ (i := 0) (N := some 6) (v := ?_) (a' := ?_) #[true, false, false, false, false, false, false, false, false, false, false, false, false, false, false] rfl rfl (by kernel_rfl) (fun _ _ _ h => h) (Or.inl ⟨by rfl, ?_⟩) ?_ ?_
 rotate_left
 ·intro w'
  go_simp
  with_reducible rfl
 rotate_left
 ·simp only [Act.put, Kx.sb, Kx.sz, Kx.ss, i64_w, i32_w]
  rfl
 refine pure_ (i := 1) (N := some 7) (v := ?_) (a' := ?_) #[true, true, false, false, false, false, false, false, false, false, false, false, false, false, false] rfl rfl (by kernel_rfl) (fun _ _ _ h => h) (Or.inl ⟨by rfl, ?_⟩) ?_ ?_
 rotate_left
 ·intro w'
  go_simp
  with_reducible rfl
 rotate_left
 ·simp only [Act.put, Kx.sb, Kx.sz, Kx.ss, i64_w, i32_w]
  rfl
 refine pure_ (i := 2) (N := some 8) (v := ?_) (a' := ?_) #[true, true, true, false, false, false, false, false, false, false, false, false, false, false, false] rfl rfl (by kernel_rfl) (fun _ _ _ h => h) (Or.inl ⟨by rfl, ?_⟩) ?_ ?_
 rotate_left
 ·intro w'
  go_simp
  with_reducible rfl
 rotate_left
 ·simp only [Act.put, Kx.sb, Kx.sz, Kx.ss, i64_w, i32_w]
  rfl
 refine pure_ (i := 3) (N := some 9) (v := undef) (a' := ?_) #[true, true, true, true, false, false, false, false, false, false, false, false, false, false, false] rfl rfl (by kernel_rfl) (fun _ _ _ h => h) (Or.inr ⟨by rfl, rfl⟩) ?_ ?_
 rotate_left
 ·simp only [Act.put, Kx.sb, Kx.sz, Kx.ss, i64_w, i32_w]
  rfl
 refine pure_ (i := 4) (N := some 10) (v := undef) (a' := ?_) #[true, true, true, true, true, false, false, false, false, false, false, false, false, false, false] rfl rfl (by kernel_rfl) (fun _ _ _ h => h) (Or.inr ⟨by rfl, rfl⟩) ?_ ?_
 rotate_left
 ·simp only [Act.put, Kx.sb, Kx.sz, Kx.ss, i64_w, i32_w]
  rfl
 refine pure_ (i := 5) (N := some 11) (v := ?_) (a' := ?_) #[true, true, true, true, true, true, false, false, false, false, false, false, false, false, false] rfl rfl (by kernel_rfl) (fun _ _ _ h => h) (Or.inl ⟨by rfl, ?_⟩) ?_ ?_
 rotate_left
 ·intro w'
  go_simp
  with_reducible rfl
 rotate_left
 ·simp only [Act.put, Kx.sb, Kx.sz, Kx.ss, i64_w, i32_w]
  rfl
 refine pure_ (i := 6) (N := some 12) (v := ?_) (a' := ?_) #[true, true, true, true, true, true, true, false, false, false, false, false, false, false, false] rfl rfl (by kernel_rfl) (fun _ _ _ h => h) (Or.inl ⟨by rfl, ?_⟩) ?_ ?_
 rotate_left
 ·intro w'
  go_simp
  with_reducible rfl
 rotate_left
 ·simp only [Act.put, Kx.sb, Kx.sz, Kx.ss, i64_w, i32_w]
  rfl
 refine pure_ (i := 7) (N := some 13) (v := undef) (a' := ?_) #[true, true, true, true, true, true, true, true, false, false, false, false, false, false, false] rfl rfl (by kernel_rfl) (fun _ _ _ h => h) (Or.inr ⟨by rfl, rfl⟩) ?_ ?_
 rotate_left
 ·simp only [Act.put, Kx.sb, Kx.sz, Kx.ss, i64_w, i32_w]
  rfl
 refine pure_ (i := 8) (N := some 14) (v := undef) (a' := ?_) #[true, true, true, true, true, true, true, true, true, false, false, false, false, false, false] rfl rfl (by kernel_rfl) (fun _ _ _ h => h) (Or.inr ⟨by rfl, rfl⟩) ?_ ?_
 rotate_left
 ·simp only [Act.put, Kx.sb, Kx.sz, Kx.ss, i64_w, i32_w]
  rfl
 refine pure_ (i := 9) (N := some 15) (v := undef) (a' := ?_) #[true, true, true, true, true, true, true, true, true, true, false, false, false, false, false] rfl rfl (by kernel_rfl) (fun _ _ _ h => h) (Or.inr ⟨by rfl, rfl⟩) ?_ ?_
 rotate_left
 ·simp only [Act.put, Kx.sb, Kx.sz, Kx.ss, i64_w, i32_w]
  rfl
 refine pure_ (i := 10) (N := some 16) (v := undef) (a' := ?_) #[true, true, true, true, true, true, true, true, true, true, true, false, false, false, false] rfl rfl (by kernel_rfl) (fun _ _ _ h => h) (Or.inr ⟨by rfl, rfl⟩) ?_ ?_
 rotate_left
 ·simp only [Act.put, Kx.sb, Kx.sz, Kx.ss, i64_w, i32_w]
  rfl
 refine pure_ (i := 11) (N := some 17) (v := undef) (a' := ?_) #[true, true, true, true, true, true, true, true, true, true, true, true, false, false, false] rfl rfl (by kernel_rfl) (fun _ _ _ h => h) (Or.inr ⟨by rfl, rfl⟩) ?_ ?_
 rotate_left
 ·simp only [Act.put, Kx.sb, Kx.sz, Kx.ss, i64_w, i32_w]
  rfl
 refine pure_ (i := 12) (N := some 18) (v := undef) (a' := ?_) #[true, true, true, true, true, true, true, true, true, true, true, true, true, false, false] rfl rfl (by kernel_rfl) (fun _ _ _ h => h) (Or.inr ⟨by rfl, rfl⟩) ?_ ?_
 rotate_left
 ·simp only [Act.put, Kx.sb, Kx.sz, Kx.ss, i64_w, i32_w]
  rfl
 refine pure_ (i := 13) (N := some 19) (v := ?_) (a' := ?_) #[true, true, true, true, true, true, true, true, true, true, true, true, true, true, false] rfl rfl (by kernel_rfl) (fun _ _ _ h => h) (Or.inl ⟨by rfl, ?_⟩) ?_ ?_
 rotate_left
 ·intro w'
  go_simp
  with_reducible rfl
 rotate_left
 ·simp only [Act.put, Kx.sb, Kx.sz, Kx.ss, i64_w, i32_w]
  rfl
 refine pure_ (i := 14) (N := some 2) (v := ?_) (a' := ?_) #[true, true, true, true, true, true, true, true, true, true, true, true, true, true, true] rfl rfl (by kernel_rfl) (fun _ _ _ h => h) (Or.inl ⟨by rfl, ?_⟩) ?_ ?_
 rotate_left
 ·intro w'
  go_simp
  with_reducible rfl
 rotate_left
 ·simp only [Act.put, Kx.sb, Kx.sz, Kx.ss, i64_w, i32_w]
  rfl
 refine done_ (by kernel_rfl) ?_
 clear hHeld
 go_wp2_with fail
 go_ret
 exact ⟨rfl, HB.out⟩
theorem frame_within.tells (x a b : Int) : frame_within.f x a b = some (decide (a ≤ x ∧ x ≤ b)) := by
 unfold frame_within.f
 by_cases h : x ≥ a
 ·rw [if_pos h, Option.some.injEq, decide_eq_decide]; omega
 ·rw [if_neg h, decide_eq_false (by omega)]
theorem frame_head_may.tells (A B C : Int) : frame_head_may.f A B C = some (decide (1 ≤ A ∧ A ≤ 64 ∧ 0 ≤ B ∧ B < C ∧ C ≤ 2147483647)) := by
 unfold frame_head_may.f
 rw [frame_within.tells, frame_within.tells, frame_within.tells, Option.bind_some]
 by_cases h : 1 ≤ A ∧ A ≤ 64
 rotate_left
 ·rw [decide_eq_false h, if_neg (by decide), decide_eq_false (by omega)]
 rw [decide_eq_true h, if_pos rfl, Option.bind_some]
 by_cases h2 : 0 ≤ B ∧ B ≤ 2147483647
 rotate_left
 ·rw [decide_eq_false h2, if_neg (by decide), decide_eq_false (by omega)]
 rw [decide_eq_true h2, if_pos rfl, Option.bind_some, show wrap64 (B + 1) = B + 1 by unfold wrap64; omega, Option.some.injEq, decide_eq_decide]
 omega
theorem frame_end_may.tells (A B : Int) : frame_end_may.f A B = some (decide (1 ≤ A ∧ A ≤ 65535 ∧ 0 ≤ B ∧ B ≤ 4294967295)) := by
 unfold frame_end_may.f
 rw [frame_within.tells, frame_within.tells, Option.bind_some]
 by_cases h : 1 ≤ A ∧ A ≤ 65535
 ·rw [decide_eq_true h, if_pos rfl, Option.bind_some, Option.some.injEq, decide_eq_decide]; omega
 ·rw [decide_eq_false h, if_neg (by decide), decide_eq_false (by omega)]
theorem frame_blocks_may.loop {k a n : Int} {l : List Int} : ∀ (m q : Nat) (x : List Int), x.length ≤ m → m < q → frame_blocks_may.l0 q x k a n l = some (!Pl.zerS x && decide (n ≤ 16 ∧ (l.length : Int) = wrap64 (n * 32)))
 | m, q, x, hx, hq => by
  obtain ⟨q, rfl⟩ : ∃ z, q = z + 1 := ⟨q - 1, by omega⟩
  rw [frame_blocks_may.l0]
  by_cases h : (x.length : Int) ≥ 32
  ·obtain ⟨m', rfl⟩ : ∃ z, m = z + 32 := ⟨m - 32, by omega⟩
   rw [if_pos h, if_pos (by omega), zeros_Is.tells (by rw [List.length_take]; omega), Option.bind_some, Pl.zerS_long (by omega)]
   by_cases hz : Pl.zeroB (x.take 32) = true
   ·rw [if_pos hz, hz]; rfl
   ·rw [if_neg hz, Bool.eq_false_iff.2 hz, Bool.false_or, frame_blocks_may.loop m' q (x.drop 32) (by rw [List.length_drop]; omega) (by omega)]
  ·rw [if_neg h, Pl.zerS_short (by omega), Bool.not_false, Bool.true_and]
   by_cases hn : n ≤ 16
   ·rw [if_pos hn]
    by_cases he : (l.length : Int) = wrap64 (n * 32) <;> simp [hn, he]
   ·rw [if_neg hn, decide_eq_false (fun e => hn e.1)]
 termination_by m => m
def frame_blocks_may.S (k a n : Int) (l : List Int) : Bool := decide (0 ≤ a ∧ a ≤ 64 ∧ 1 ≤ n ∧ n ≤ 64 - a) && (if k = 2 then !Pl.zerS l && decide (n ≤ 16 ∧ (l.length : Int) = n * 32) else decide (l.length = 0))
theorem frame_blocks_may.tells (k a n : Int) (l : List Int) : frame_blocks_may.f (l.length + 2) k a n l = some (frame_blocks_may.S k a n l) := by
 unfold frame_blocks_may.f frame_blocks_may.S
 rw [frame_within.tells, frame_within.tells, Option.bind_some]
 by_cases h : 0 ≤ a ∧ a ≤ 64
 rotate_left
 ·rw [decide_eq_false h, if_neg (by decide), decide_eq_false (by omega), Bool.false_and, frame_blocks_may.j0, if_pos rfl]
 rw [decide_eq_true h, if_pos rfl, Option.bind_some, show wrap64 (64 - a) = 64 - a by unfold wrap64; omega]
 by_cases h2 : 1 ≤ n ∧ n ≤ 64 - a
 rotate_left
 ·rw [decide_eq_false h2, decide_eq_false (by omega), Bool.false_and, frame_blocks_may.j0, if_pos (by decide)]
 rw [decide_eq_true h2, decide_eq_true (show 0 ≤ a ∧ a ≤ 64 ∧ 1 ≤ n ∧ n ≤ 64 - a by omega), Bool.true_and, frame_blocks_may.j0, if_neg (by decide)]
 by_cases h3 : k = 2
 ·rw [if_pos h3, if_pos h3, frame_blocks_may.loop l.length (l.length + 1) l (Nat.le_refl _) (by omega), show wrap64 (n * 32) = n * 32 by unfold wrap64; omega]
 ·rw [if_neg h3, if_neg h3]
  congr 1
  rw [Bool.eq_iff_iff, beq_iff_eq, decide_eq_true_eq]
  omega
def frame_Check.f (a0_0 a0_1 a0_2 : Int) (l0_3 : List Int) (a0_4 a0_5 a0_6 : Int) : Option Bool := if Pl.byteB l0_3 = true then some (Pl.frOk a0_0 a0_1 a0_2 l0_3 a0_4 a0_5 a0_6) else none
theorem frame_Check.tells {a0_0 a0_1 a0_2 : Int} {l0_3 : List Int} {a0_4 a0_5 a0_6 : Int} (h0 : Pl.byteB l0_3 = true) : frame_Check.f a0_0 a0_1 a0_2 l0_3 a0_4 a0_5 a0_6 = some (Pl.frOk a0_0 a0_1 a0_2 l0_3 a0_4 a0_5 a0_6) := if_pos h0
theorem frame_Check.calls (a0_0 a0_1 a0_2 : Int) (A0_3 : Option Addr) (c0_3 : Nat) (l0_3 : List Int) (a0_4 a0_5 a0_6 : Int) (r : Bool) (w : World) (hr0_3 : Kd.C (Kd.int .u8) w A0_3 l0_3.length l0_3) (hc0_3 : l0_3.length ≤ c0_3) (h : frame_Check.f a0_0 a0_1 a0_2 l0_3 a0_4 a0_5 a0_6 = some r) :
  Calls Try.prog 24 #[.agg #[.int .i64 a0_0, .int .i64 a0_1, .int .i64 a0_2, .slice A0_3 l0_3.length c0_3, .int .i64 a0_4, .int .i64 a0_5, .int .i64 a0_6]] w fun e w' => e = .returned (.bool r) ∧ Below w.heap.size w w' := by
 unfold frame_Check.f at h
 split at h
 case isFalse => cases h
 rename_i hb
 obtain rfl := Option.some.inj h
 clear h
 have hnl : ([] : List Int) = l0_3 ↔ l0_3.length = 0 := by rw [List.length_eq_zero_iff]; exact eq_comm
 by_cases k1 : a0_0 = 1
 ·subst k1
  have := frame_Check.head a0_1 a0_2 A0_3 c0_3 l0_3 a0_4 a0_5 a0_6 _ _ w hr0_3 hc0_3 (frame_head_may.tells _ _ _) (fun _ => frame_same.tells rfl hb)
  rw [show Pl.frOk 1 a0_1 a0_2 l0_3 a0_4 a0_5 a0_6 = (decide (1 ≤ a0_4 ∧ a0_4 ≤ 64 ∧ 0 ≤ a0_5 ∧ a0_5 < a0_6 ∧ a0_6 ≤ 2147483647) && decide ((1 : Int) = 1 ∧ (0 : Int) = a0_1 ∧ (0 : Int) = a0_2 ∧ ([] : List Int) = l0_3 ∧ a0_4 = a0_4 ∧ a0_5 = a0_5 ∧ a0_6 = a0_6)) by
   rw [Pl.frOk_1, ← Bool.decide_and, decide_eq_decide, hnl]; omega]
  exact this
 by_cases k2 : a0_0 = 2 ∨ a0_0 = 3 ∨ a0_0 = 4
 ·have := frame_Check.blocks (l0_3.length + 2) a0_0 a0_1 a0_2 A0_3 c0_3 l0_3 a0_4 a0_5 a0_6 _ _ w hr0_3 hc0_3 k2 (frame_blocks_may.tells _ _ _ _) (fun _ => frame_same.tells hb hb)
  rw [show Pl.frOk a0_0 a0_1 a0_2 l0_3 a0_4 a0_5 a0_6 = (frame_blocks_may.S a0_0 a0_1 a0_2 l0_3 && decide (a0_0 = a0_0 ∧ a0_1 = a0_1 ∧ a0_2 = a0_2 ∧ l0_3 = l0_3 ∧ (0 : Int) = a0_4 ∧ (0 : Int) = a0_5 ∧ (0 : Int) = a0_6)) by
   unfold frame_blocks_may.S
   rcases k2 with rfl | k3
   ·rw [Pl.frOk_2, if_pos rfl]
    cases Pl.zerS l0_3
    ·rw [Bool.not_false, Bool.and_true, Bool.true_and, ← Bool.decide_and, ← Bool.decide_and, decide_eq_decide]
     simp only [true_and]
     omega
    ·rw [Bool.not_true, Bool.and_false, Bool.false_and, Bool.and_false, Bool.false_and]
   ·rw [Pl.frOk_3 k3, if_neg (by omega), ← Bool.decide_and, ← Bool.decide_and, decide_eq_decide]
    simp only [true_and]
    omega]
  exact this
 by_cases k5 : a0_0 = 5
 ·subst k5
  have := frame_Check.endB a0_1 a0_2 A0_3 c0_3 l0_3 a0_4 a0_5 a0_6 _ _ w hr0_3 hc0_3 (frame_end_may.tells _ _) (fun _ => frame_same.tells rfl hb)
  rw [show Pl.frOk 5 a0_1 a0_2 l0_3 a0_4 a0_5 a0_6 = (decide (1 ≤ a0_4 ∧ a0_4 ≤ 65535 ∧ 0 ≤ a0_5 ∧ a0_5 ≤ 4294967295) && decide ((5 : Int) = 5 ∧ (0 : Int) = a0_1 ∧ (0 : Int) = a0_2 ∧ ([] : List Int) = l0_3 ∧ a0_4 = a0_4 ∧ a0_5 = a0_5 ∧ (0 : Int) = a0_6)) by
   rw [Pl.frOk_5, ← Bool.decide_and, decide_eq_decide, hnl]; omega]
  exact this
 ·rw [Pl.frOk_not (by omega)]
  exact frame_Check.noneB a0_0 a0_1 a0_2 A0_3 c0_3 l0_3 a0_4 a0_5 a0_6 w hr0_3 hc0_3 (by omega)
def frame_Text.f (k a n : Int) (d : List Int) (A B C : Int) : Option (List Int × Int) := if Pl.frOk k a n d A B C = true then some (Pl.frT k a n d A B C, 0) else none
theorem goesI_ {P : Program} {ops : Array Oper} {Q : Exit → Act → World → Prop} {rest : List Oper} {oi : Oper} {a : Act} {w : World} (N : Option Tmp) (hd : oi.dst = N) (hg : oi.guard = none) {f : FuncId} (args : Array Value) (hrun : (execOp a.eval oi).run P w = .ok (.enter f args) w)
  (h : Calls P f args w fun e w' => ∃ v, e = .returned v ∧ wpList P ops Q rest (a.put N v) w') : wpList P ops Q (oi :: rest) a w := by
 refine wpList_plain hg fun K hK => ?_
 unfold Oper.wp
 rw [hrun, Oper.upon_enter]
 refine h.mono fun e w'' hh => ?_
 obtain ⟨v, rfl, hk⟩ := hh
 subst hd
 exact hK _ _ hk
theorem frame_Text.runs {V : Value} {f : FuncId} {rv : Value} (hm : ∀ w : World, (execOp (fun _ => V) { dst := some 13, op := .call { callee := .invoke (.tmp 12) "waggoner/frame.text", args := #[], argTypes := #[] }, type := 29, pos := "", after := #[], guard := none }).run Try.prog w = .ok (.enter f #[rv]) w) {a : Act} {o : Oper} (hV : a.eval (.tmp 12) = V) (ho : o.op = .call { callee := .invoke (.tmp 12) "waggoner/frame.text", args := #[], argTypes := #[] }) (w : World) : (execOp a.eval o).run Try.prog w = .ok (.enter f #[rv]) w := by
 have := hm w
 unfold execOp at this ⊢
 simp only [ho, resolve, hV, Array.map_empty, List.map_toArray, List.map_nil] at this ⊢
 exact this
theorem frame_Text.arm {ops : Array Oper} {Q : Exit → Act → World → Prop} {rest : List Oper} {o1 o2 : Oper} {x : Operand} {ts : Array TypeId} {a : Act} {w : World} (k a_ n : Int) (A3 : Option Addr) (c3 : Nat) (d : List Int) (A B C : Int) (t : List Int) (e : Int) (hg1 : o1.guard = none) (hg2 : o2.guard = none) (hd1 : o1.dst = some 12) (hd2 : o2.dst = some 13)
  (hop1 : o1.op = .call { callee := .value (.func 38), args := #[x], argTypes := ts }) (hx : a.eval x = .agg #[.int .i64 k, .int .i64 a_, .int .i64 n, .slice A3 d.length c3, .int .i64 A, .int .i64 B, .int .i64 C]) (hop2 : o2.op = .call { callee := .invoke (.tmp 12) "waggoner/frame.text", args := #[], argTypes := #[] }) (hz : 12 < a.tmps.size)
  (hr : Kd.C (Kd.int .u8) w A3 d.length d) (hc : d.length ≤ c3) (ht : frame_Text.f k a_ n d A B C = some (t, e))
  (h : ∀ V v w', Kd.R (Kd.int .u8) 5 w' w.heap.size (fun _ => True) v t → Below w.heap.size w w' → wpList Try.prog ops Q rest ((a.put (some 12) V).put (some 13) (.tuple #[v, .int .i64 e])) w') : wpList Try.prog ops Q (o1 :: o2 :: rest) a w := by
 unfold frame_Text.f at ht
 split at ht
 case isFalse => cases ht
 rename_i hk
 simp only [Option.some.injEq, Prod.mk.injEq] at ht
 obtain ⟨rfl, rfl⟩ := ht
 refine goesL_ (some 12) hd1 hg1 Try.func38 (by kernel_rfl) rfl #[.agg #[.int .i64 k, .int .i64 a_, .int .i64 n, .slice A3 d.length c3, .int .i64 A, .int .i64 B, .int .i64 C]] hop1 (by simp [hx]) ?_
 refine (frame_of.calls _ _ _ _ _ _ _ _ _ _).mono ?_
 rintro e1 w1 ⟨rfl, hb1⟩
 refine ⟨_, rfl, ?_⟩
 have hV : ∀ V, (a.put (some 12) V).eval (.tmp 12) = V := fun V => by
  simp only [Act.put, Act.eval]
  simp [hz]
 rcases Pl.frOk_iff.1 hk with q | q | q | q
 ·obtain ⟨rfl, rfl, rfl, rfl, q1, q2, q3, q4, q5⟩ := q
  refine goesI_ (some 13) hd2 hg2 (f := 110) #[.agg #[.int .i64 A, .int .i64 B, .int .i64 C]] (frame_Text.runs (V := ofV 1 0 0 A3 0 c3 A B C) (fun _ => by kernel_rfl) (hV _) hop2 _) ?_
  have hp : frame_head_text.f A B C = some (Pl.frT 1 0 0 [] A B C, 0) := by
   unfold frame_head_text.f le_Pack.f
   rw [show IntKind.u64.wrap A = A by rw [IntKind.wrap_u64]; omega, show IntKind.u64.wrap B = B by rw [IntKind.wrap_u64]; omega, show IntKind.u64.wrap C = C by rw [IntKind.wrap_u64]; omega, if_pos ⟨Pl.u64B_iff.2 (by
    intro x hx
    simp only [List.mem_cons, List.not_mem_nil, or_false] at hx
    omega), by decide⟩, show Pl.fb (⟨#[98, 119, 119]⟩ : ByteArray) = [98, 119, 119] from by kernel_rfl, Pl.pack_bww (by omega) (by omega) (by omega), Option.bind_some]
   rfl
  refine (frame_head_text.calls A B C _ _ w1 hp).mono ?_
  rintro e2 w2 ⟨v, rfl, ho, hb2⟩
  exact ⟨_, rfl, h _ _ _ (Kd.R_lower ho (below_size hb1)) (below_step hb1 hb2)⟩
 ·obtain ⟨rfl, q⟩ := q
  have hdl : d.length ≤ 512 := by omega
  refine goesI_ (some 13) hd2 hg2 (f := 113) #[.agg #[.int .i64 2, .int .i64 a_, .int .i64 n, .slice A3 d.length c3]] (frame_Text.runs (V := ofV 2 a_ n A3 d.length c3 A B C) (fun _ => by kernel_rfl) (hV _) hop2 _) ?_
  have hp : frame_blocks_text.f 2 a_ n d = some (Pl.frT 2 a_ n d A B C, 0) := by
   unfold frame_blocks_text.f le_Pack.f
   rw [show IntKind.u64.wrap a_ = a_ by rw [IntKind.wrap_u64]; omega, show IntKind.u64.wrap n = n by rw [IntKind.wrap_u64]; omega, if_pos ⟨Pl.u64B_iff.2 (by
     intro x hx
     simp only [List.mem_cons, List.not_mem_nil, or_false] at hx
     omega), by decide⟩, show Pl.fb (⟨#[98, 98]⟩ : ByteArray) = [98, 98] from by kernel_rfl, Pl.pack_bb (by omega) (by omega), Option.bind_some]
   dsimp only
   rw [if_pos (by rw [List.length_append, Pl.leB_length, Pl.leB_length]; omega), Pl.frT, if_neg (by decide), if_neg (by decide), List.append_assoc]
  refine (frame_blocks_text.calls 2 a_ n A3 c3 d _ _ w1 (Kd.C_below hr hb1) hc hp).mono ?_
  rintro e2 w2 ⟨v, rfl, ho, hb2⟩
  exact ⟨_, rfl, h _ _ _ (Kd.R_lower ho (below_size hb1)) (below_step hb1 hb2)⟩
 ·obtain ⟨q3, q⟩ := q
  have hdl : d.length ≤ 512 := by rw [q.2.2.2.2.2.2.2]; decide
  rcases q3 with rfl | rfl
  ·refine goesI_ (some 13) hd2 hg2 (f := 113) #[.agg #[.int .i64 3, .int .i64 a_, .int .i64 n, .slice A3 d.length c3]] (frame_Text.runs (V := ofV 3 a_ n A3 d.length c3 A B C) (fun _ => by kernel_rfl) (hV _) hop2 _) ?_
   have hp : frame_blocks_text.f 3 a_ n d = some (Pl.frT 3 a_ n d A B C, 0) := by
    unfold frame_blocks_text.f le_Pack.f
    rw [show IntKind.u64.wrap a_ = a_ by rw [IntKind.wrap_u64]; omega, show IntKind.u64.wrap n = n by rw [IntKind.wrap_u64]; omega, if_pos ⟨Pl.u64B_iff.2 (by
      intro x hx
      simp only [List.mem_cons, List.not_mem_nil, or_false] at hx
      omega), by decide⟩, show Pl.fb (⟨#[98, 98]⟩ : ByteArray) = [98, 98] from by kernel_rfl, Pl.pack_bb (by omega) (by omega), Option.bind_some]
    dsimp only
    rw [if_pos (by rw [List.length_append, Pl.leB_length, Pl.leB_length]; omega), Pl.frT, if_neg (by decide), if_neg (by decide), List.append_assoc]
   refine (frame_blocks_text.calls 3 a_ n A3 c3 d _ _ w1 (Kd.C_below hr hb1) hc hp).mono ?_
   rintro e2 w2 ⟨v, rfl, ho, hb2⟩
   exact ⟨_, rfl, h _ _ _ (Kd.R_lower ho (below_size hb1)) (below_step hb1 hb2)⟩
  ·refine goesI_ (some 13) hd2 hg2 (f := 113) #[.agg #[.int .i64 4, .int .i64 a_, .int .i64 n, .slice A3 d.length c3]] (frame_Text.runs (V := ofV 4 a_ n A3 d.length c3 A B C) (fun _ => by kernel_rfl) (hV _) hop2 _) ?_
   have hp : frame_blocks_text.f 4 a_ n d = some (Pl.frT 4 a_ n d A B C, 0) := by
    unfold frame_blocks_text.f le_Pack.f
    rw [show IntKind.u64.wrap a_ = a_ by rw [IntKind.wrap_u64]; omega, show IntKind.u64.wrap n = n by rw [IntKind.wrap_u64]; omega, if_pos ⟨Pl.u64B_iff.2 (by
      intro x hx
      simp only [List.mem_cons, List.not_mem_nil, or_false] at hx
      omega), by decide⟩, show Pl.fb (⟨#[98, 98]⟩ : ByteArray) = [98, 98] from by kernel_rfl, Pl.pack_bb (by omega) (by omega), Option.bind_some]
    dsimp only
    rw [if_pos (by rw [List.length_append, Pl.leB_length, Pl.leB_length]; omega), Pl.frT, if_neg (by decide), if_neg (by decide), List.append_assoc]
   refine (frame_blocks_text.calls 4 a_ n A3 c3 d _ _ w1 (Kd.C_below hr hb1) hc hp).mono ?_
   rintro e2 w2 ⟨v, rfl, ho, hb2⟩
   exact ⟨_, rfl, h _ _ _ (Kd.R_lower ho (below_size hb1)) (below_step hb1 hb2)⟩
 ·obtain ⟨rfl, rfl, rfl, rfl, q1, q2, q3, q4, rfl⟩ := q
  refine goesI_ (some 13) hd2 hg2 (f := 115) #[.agg #[.int .i64 A, .int .i64 B]] (frame_Text.runs (V := ofV 5 0 0 A3 0 c3 A B 0) (fun _ => by kernel_rfl) (hV _) hop2 _) ?_
  have hp : frame_end_text.f A B = some (Pl.frT 5 0 0 [] A B 0, 0) := by
   unfold frame_end_text.f le_Pack.f
   rw [show IntKind.u64.wrap A = A by rw [IntKind.wrap_u64]; omega, show IntKind.u64.wrap B = B by rw [IntKind.wrap_u64]; omega, if_pos ⟨Pl.u64B_iff.2 (by
     intro x hx
     simp only [List.mem_cons, List.not_mem_nil, or_false] at hx
     omega), by decide⟩, show Pl.fb (⟨#[104, 119]⟩ : ByteArray) = [104, 119] from by kernel_rfl, Pl.pack_hw (by omega) (by omega), Option.bind_some]
   rfl
  refine (frame_end_text.calls A B _ _ w1 hp).mono ?_
  rintro e2 w2 ⟨v, rfl, ho, hb2⟩
  exact ⟨_, rfl, h _ _ _ (Kd.R_lower ho (below_size hb1)) (below_step hb1 hb2)⟩
def halvesA : Array Value := Arr.numA .u32 16 (fun i => (Pl.stpN 4 i : Nat))
set_option maxHeartbeats 1000000 in
theorem crc_halves.calls (w : World) : Calls Try.prog 80 #[] w fun e w' => e = .returned (.agg halvesA) ∧ w' = w.alloc (.cells halvesA 109) := by
 have e : halvesA = #[.int .u32 0, .int .u32 274646895, .int .u32 549293790, .int .u32 820201905, .int .u32 1098587580, .int .u32 1361435347, .int .u32 1640403810, .int .u32 1905808397, .int .u32 2197175160, .int .u32 2460548119, .int .u32 2722870694, .int .u32 2987750089, .int .u32 3280807620, .int .u32 3553878443, .int .u32 3811616794, .int .u32 4084100981] := by
  kernel_rfl
 rw [e]
 clear e
 go_enter Try.func80, Try.ntmps80
 go_wp2
 refine bodyPost_ret (results_single rfl (.cell _ 109 _ (0, 0) _ rfl (heap_alloc_new w _) Try.underlying109 rfl (by kernel_rfl) .nil)) rfl ?_
 exact ⟨rfl, rfl⟩
theorem halves_in (w : World) (g : Nat) (h : w.heap[g]? = some (.cells halvesA 109 (0, 0))) : Arr.IsA w g 109 .u32 16 (fun i => (Pl.stpN 4 i : Nat)) := h
end Go.Proofs.Ytohkmmbmfhficaa.PG
