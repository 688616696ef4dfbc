/- Words and walks that this claim names, of those that the kit's print and programs of this workplace have printed. -/
import Derived.Test.YtohkmmbmfhficaaZTCz
import Derived.Test.YtohkmmbmfhficaaZTPTx11
namespace Go.Proofs.Ytohkmmbmfhficaa.PT
open Go.Proofs.Ytohkmmbmfhficaa Go.RowKit Go.Proofs.YtohkmmbmfhficaaW.PrintWords Go.Proofs.YtohkmmbmfhficaaW.PrintLast Go.Proofs.YtohkmmbmfhficaaW.PrintMore
attribute [local go_sem] max2_int min2_int max_two min_two max_three min_three max_four min_four
set_option linter.unusedVariables false
set_option linter.unusedSimpArgs false
theorem ta_blocks_head (x : Value) (w : World) : (Instr.typeAssert (.iface 95 x) 64 93 true).run Try.prog w = .ok (.tuple #[.agg #[.int .i64 0, .int .i64 0, .int .i64 0], .bool false]) w := by kernel_rfl
theorem ta_end_head (x : Value) (w : World) : (Instr.typeAssert (.iface 97 x) 64 93 true).run Try.prog w = .ok (.tuple #[.agg #[.int .i64 0, .int .i64 0, .int .i64 0], .bool false]) w := by kernel_rfl
theorem ta_end_blocks (x : Value) (w : World) : (Instr.typeAssert (.iface 97 x) 64 95 true).run Try.prog w = .ok (.tuple #[.agg #[.int .i64 0, .int .i64 0, .int .i64 0, .slice none 0 0], .bool false]) w := by kernel_rfl
theorem ta_head_head (x : Value) (w : World) : (Instr.typeAssert (.iface 93 x) 64 93 true).run Try.prog w = .ok (.tuple #[x, .bool true]) w := by kernel_rfl
theorem ta_blocks_blocks (x : Value) (w : World) : (Instr.typeAssert (.iface 95 x) 64 95 true).run Try.prog w = .ok (.tuple #[x, .bool true]) w := by kernel_rfl
theorem ta_end_end (x : Value) (w : World) : (Instr.typeAssert (.iface 97 x) 64 97 true).run Try.prog w = .ok (.tuple #[x, .bool true]) w := by kernel_rfl
set_option maxRecDepth 100000 in
set_option maxHeartbeats 2000000 in
theorem frame_framed.head (k : Int) (A B C : Int) (w : World) : Calls Try.prog 47 #[.int .i64 k, .iface 93 (.agg #[.int .i64 A, .int .i64 B, .int .i64 C])] w fun e w' => e = .returned (.agg #[.int .i64 k, .int .i64 0, .int .i64 0, .slice none 0 0, .int .i64 A, .int .i64 B, .int .i64 C]) ∧ Below w.heap.size w w' := by
 have hu0 := Try.underlying38
 have hu1 := Try.underlying93
 have ta_head_head_ := ta_head_head
 go_enter Try.func47, Try.ntmps47
 go_wp2_with fail
 obtain ⟨w3, hw3⟩ : ∃ x, x = ((w.alloc (.cells #[.int .i64 0, .int .i64 0, .int .i64 0, .slice none 0 0, .int .i64 0, .int .i64 0, .int .i64 0] 38)).alloc (.cells #[.int .i64 k, .int .i64 0, .int .i64 0, .slice none 0 0, .int .i64 0, .int .i64 0, .int .i64 0] 38)).alloc (.cells #[.int .i64 A, .int .i64 B, .int .i64 C] 93) := ⟨_, rfl⟩
 have BK0 : Aside0 (w3.heap[w.heap.size]? = some (.cells #[.int .i64 0, .int .i64 0, .int .i64 0, .slice none 0 0, .int .i64 0, .int .i64 0, .int .i64 0] 38 (0, 0))) := ⟨by rw [hw3]; exact blk_alloc (blk_alloc (heap_alloc_new w _) _) _⟩
 have BK1 : Aside0 (w3.heap[w.heap.size + 1]? = some (.cells #[.int .i64 k, .int .i64 0, .int .i64 0, .slice none 0 0, .int .i64 0, .int .i64 0, .int .i64 0] 38 (0, 0))) := ⟨by rw [hw3]; exact blk_alloc (by have := heap_alloc_new (w.alloc (.cells #[.int .i64 0, .int .i64 0, .int .i64 0, .slice none 0 0, .int .i64 0, .int .i64 0, .int .i64 0] 38)) (.cells #[.int .i64 k, .int .i64 0, .int .i64 0, .slice none 0 0, .int .i64 0, .int .i64 0, .int .i64 0] 38); rwa [show (w.alloc (.cells #[.int .i64 0, .int .i64 0, .int .i64 0, .slice none 0 0, .int .i64 0, .int .i64 0, .int .i64 0] 38)).heap.size = w.heap.size + 1 by simp only [World.alloc, Array.size_push]] at this) _⟩
 have BK2 : Aside0 (w3.heap[w.heap.size + 1 + 1]? = some (.cells #[.int .i64 A, .int .i64 B, .int .i64 C] 93 (0, 0))) := ⟨by rw [hw3]; have := heap_alloc_new ((w.alloc (.cells #[.int .i64 0, .int .i64 0, .int .i64 0, .slice none 0 0, .int .i64 0, .int .i64 0, .int .i64 0] 38)).alloc (.cells #[.int .i64 k, .int .i64 0, .int .i64 0, .slice none 0 0, .int .i64 0, .int .i64 0, .int .i64 0] 38)) (.cells #[.int .i64 A, .int .i64 B, .int .i64 C] 93); rwa [show ((w.alloc (.cells #[.int .i64 0, .int .i64 0, .int .i64 0, .slice none 0 0, .int .i64 0, .int .i64 0, .int .i64 0] 38)).alloc (.cells #[.int .i64 k, .int .i64 0, .int .i64 0, .slice none 0 0, .int .i64 0, .int .i64 0, .int .i64 0] 38)).heap.size = w.heap.size + 1 + 1 by simp only [World.alloc, Array.size_push]] at this⟩
 have HB : Aside0 (Below w.heap.size w w3) := ⟨by rw [hw3]; exact below_alloc (below_alloc (below_alloc (Below.refl _ _) _) _) _⟩
 rw [← hw3]
 clear hw3
 obtain ⟨g0, hg0⟩ : ∃ g, g = w.heap.size := ⟨_, rfl⟩
 obtain ⟨g1, hg1⟩ : ∃ g, g = w.heap.size + 1 := ⟨_, rfl⟩
 obtain ⟨g2, hg2⟩ : ∃ g, g = w.heap.size + 1 + 1 := ⟨_, rfl⟩
 rw [← hg2] at BK2
 rw [← hg1] at BK1
 rw [← hg0] at BK0
 rw [← hg2, ← hg1, ← hg0]
 have G0 := Aside0.mk (show w.heap.size ≤ g0 by omega)
 have G1 := Aside0.mk (show w.heap.size ≤ g1 by omega)
 have N12 := Aside0.mk (show g1 ≠ g2 by omega)
 have N01 := Aside0.mk (show g0 ≠ g1 by omega)
 clear hg0 hg1 hg2
 have n0 := Aside0.mk (blk_drew BK0.out)
 have n1 := Aside0.mk (blk_drew BK1.out)
 have n2 := Aside0.mk (blk_drew BK2.out)
 have nb := Aside0.mk (below_drew HB.out)
 clear BK0 BK1 BK2 HB
 have BK0 := n0
 have BK1 := n1
 have BK2 := n2
 have HB := nb
 clear n0 n1 n2 nb
 have hcz : w3.drew.cell? ⟨g1, 4, none⟩ = some (.int .i64 0) := (blk_cell BK1.out 4).trans rfl
 have hfz := blk_frozen BK1.out 4
 refine start_ (n := 12) (S := fun w' => w'.cell? ⟨g2, 0, none⟩ = some (.int .i64 A) ∧ w'.cell? ⟨g2, 1, none⟩ = some (.int .i64 B) ∧ w'.cell? ⟨g2, 2, none⟩ = some (.int .i64 C)) (ds := []) #[false, false, false, false, false, false, false, false, false, false, false, false] (by kernel_rfl) rfl rfl ⟨((blk_cell BK2.out 0).trans rfl), ((blk_cell BK2.out 1).trans rfl), ((blk_cell BK2.out 2).trans rfl)⟩ (fun hHeld => ?_)
 generalize w3.drew = w4 at BK0 BK1 BK2 HB hcz hfz hHeld ⊢
 refine Cz.rP 0 15 ?_
 refine Cz.rP 2 17 ?_
 refine Cz.rP 4 19 ?_
 refine take_ (i := 1) (N := some 16) (v := ?_) (a' := ?_) #[true, true, true, false, true, false, false, false, false, false, false, false] rfl rfl (by kernel_rfl) (fun _ _ _ h => h) (Or.inl ⟨by rfl, ?_⟩) hHeld ?_ ?_
 rotate_left
 ·rintro w' ⟨s0, s1, s2⟩
  go_simp
  with_reducible rfl
 rotate_left
 ·simp only [Act.put, Kx.sb, Kx.sz, Kx.ss, i64_w, i32_w]
  rfl
 refine Cz.rP 6 21 ?_
 refine take_ (i := 3) (N := some 18) (v := ?_) (a' := ?_) #[true, true, true, true, true, false, true, false, false, false, false, false] rfl rfl (by kernel_rfl) (fun _ _ _ h => h) (Or.inl ⟨by rfl, ?_⟩) hHeld ?_ ?_
 rotate_left
 ·rintro w' ⟨s0, s1, s2⟩
  go_simp
  with_reducible rfl
 rotate_left
 ·simp only [Act.put, Kx.sb, Kx.sz, Kx.ss, i64_w, i32_w]
  rfl
 refine take_ (i := 5) (N := some 20) (v := ?_) (a' := ?_) #[true, true, true, true, true, true, true, false, false, false, false, false] rfl rfl (by kernel_rfl) (fun _ _ _ h => h) (Or.inl ⟨by rfl, ?_⟩) hHeld ?_ ?_
 rotate_left
 ·rintro w' ⟨s0, s1, s2⟩
  go_simp
  with_reducible rfl
 rotate_left
 ·simp only [Act.put, Kx.sb, Kx.sz, Kx.ss, i64_w, i32_w]
  rfl
 refine Cz.rO (N := none) 7 (fun K hK => ?_)
 refine skip_ (w1 := ?_) (by rfl) rfl ?_ ?_
 rotate_left
 ·go_simp
  rfl
 have n0 := Aside0.mk (blk_far BK0.out (p := ⟨g1, 4, none⟩) N01.out (.int .i64 A))
 have n1 := Aside0.mk (blk_put BK1.out 4 (.int .i64 A) rfl)
 have n2 := Aside0.mk (blk_far BK2.out (p := ⟨g1, 4, none⟩) (Ne.symm N12.out) (.int .i64 A))
 have nb := Aside0.mk (show Below w.heap.size w (w4.setCell ⟨g1, 4, none⟩ (.int .i64 A)) from below_set HB.out G1.out)
 generalize w4.setCell ⟨g1, 4, none⟩ (.int .i64 A) = w5 at n0 n1 n2 nb ⊢
 clear BK0 BK1 BK2 HB hcz hfz
 have BK0 := n0
 have BK1 : Aside0 (w5.heap[g1]? = some (.cells #[.int .i64 k, .int .i64 0, .int .i64 0, .slice none 0 0, .int .i64 A, .int .i64 0, .int .i64 0] 38 (0, 0))) := ⟨n1.out⟩
 have BK2 := n2
 have HB := nb
 clear n0 n1 n2 nb
 have hcz : w5.cell? ⟨g1, 5, none⟩ = some (.int .i64 0) := (blk_cell BK1.out 5).trans rfl
 have hfz := blk_frozen BK1.out 5
 refine hK.out _ _ ⟨((blk_cell BK2.out 0).trans rfl), ((blk_cell BK2.out 1).trans rfl), ((blk_cell BK2.out 2).trans rfl)⟩ (fun hHeld => ?_)
 clear hK K
 refine Cz.rP 8 22 ?_
 refine Cz.rO (N := none) 9 (fun K hK => ?_)
 refine skip_ (w1 := ?_) (by rfl) rfl ?_ ?_
 rotate_left
 ·go_simp
  rfl
 have n0 := Aside0.mk (blk_far BK0.out (p := ⟨g1, 5, none⟩) N01.out (.int .i64 B))
 have n1 := Aside0.mk (blk_put BK1.out 5 (.int .i64 B) rfl)
 have n2 := Aside0.mk (blk_far BK2.out (p := ⟨g1, 5, none⟩) (Ne.symm N12.out) (.int .i64 B))
 have nb := Aside0.mk (show Below w.heap.size w (w5.setCell ⟨g1, 5, none⟩ (.int .i64 B)) from below_set HB.out G1.out)
 generalize w5.setCell ⟨g1, 5, none⟩ (.int .i64 B) = w6 at n0 n1 n2 nb ⊢
 clear BK0 BK1 BK2 HB hcz hfz
 have BK0 := n0
 have BK1 : Aside0 (w6.heap[g1]? = some (.cells #[.int .i64 k, .int .i64 0, .int .i64 0, .slice none 0 0, .int .i64 A, .int .i64 B, .int .i64 0] 38 (0, 0))) := ⟨n1.out⟩
 have BK2 := n2
 have HB := nb
 clear n0 n1 n2 nb
 have hcz : w6.cell? ⟨g1, 6, none⟩ = some (.int .i64 0) := (blk_cell BK1.out 6).trans rfl
 have hfz := blk_frozen BK1.out 6
 refine hK.out _ _ ⟨((blk_cell BK2.out 0).trans rfl), ((blk_cell BK2.out 1).trans rfl), ((blk_cell BK2.out 2).trans rfl)⟩ (fun hHeld => ?_)
 clear hK K
 refine Cz.rP 10 23 ?_
 refine Cz.rO (N := none) 11 (fun K hK => ?_)
 refine skip_ (w1 := ?_) (by rfl) rfl ?_ ?_
 rotate_left
 ·go_simp
  rfl
 have n0 := Aside0.mk (blk_far BK0.out (p := ⟨g1, 6, none⟩) N01.out (.int .i64 C))
 have n1 := Aside0.mk (blk_put BK1.out 6 (.int .i64 C) rfl)
 have n2 := Aside0.mk (blk_far BK2.out (p := ⟨g1, 6, none⟩) (Ne.symm N12.out) (.int .i64 C))
 have nb := Aside0.mk (show Below w.heap.size w (w6.setCell ⟨g1, 6, none⟩ (.int .i64 C)) from below_set HB.out G1.out)
 generalize w6.setCell ⟨g1, 6, none⟩ (.int .i64 C) = w7 at n0 n1 n2 nb ⊢
 clear BK0 BK1 BK2 HB hcz hfz
 have BK0 := n0
 have BK1 : Aside0 (w7.heap[g1]? = some (.cells #[.int .i64 k, .int .i64 0, .int .i64 0, .slice none 0 0, .int .i64 A, .int .i64 B, .int .i64 C] 38 (0, 0))) := ⟨n1.out⟩
 have BK2 := n2
 have HB := nb
 clear n0 n1 n2 nb
 refine hK.out _ _ ⟨((blk_cell BK2.out 0).trans rfl), ((blk_cell BK2.out 1).trans rfl), ((blk_cell BK2.out 2).trans rfl)⟩ (fun hHeld => ?_)
 clear hK K
 refine done_ (by kernel_rfl) ?_
 clear hHeld
 obtain ⟨hcz0, hcz1, hcz2, hcz3, hcz4, hcz5, hcz6⟩ := Cz.c7 BK1
 obtain ⟨hcy0, hcy1, hcy2, hcy3, hcy4, hcy5, hcy6, hfy0, hfy1, hfy2, hfy3, hfy4, hfy5, hfy6⟩ := Cz.d7 BK0
 go_wp2
 refine bodyPost_ret (results_cell_row rfl _ _ g0 38 #[.int .i64 k, .int .i64 0, .int .i64 0, .slice none 0 0, .int .i64 A, .int .i64 B, .int .i64 C] (0, 0) _ rfl (by apply Cz.a7; exact BK0.out) Try.underlying38 rfl (by kernel_rfl)) rfl ?_
 exact ⟨rfl, below_set (below_set (below_set (below_set (below_set (below_set (below_set (HB.out) G0.out) G0.out) G0.out) G0.out) G0.out) G0.out) G0.out⟩
set_option maxRecDepth 100000 in
set_option maxHeartbeats 2000000 in
theorem frame_framed.blocks (k : Int) (k2 a n : Int) (A3 : Option Addr) (m c3 : Nat) (w : World) : Calls Try.prog 47 #[.int .i64 k, .iface 95 (.agg #[.int .i64 k2, .int .i64 a, .int .i64 n, .slice A3 m c3])] w fun e w' => e = .returned (.agg #[.int .i64 k, .int .i64 a, .int .i64 n, .slice A3 m c3, .int .i64 0, .int .i64 0, .int .i64 0]) ∧ Below w.heap.size w w' := by
 have hu0 := Try.underlying38
 have hu1 := Try.underlying95
 have ta_blocks_head_ := ta_blocks_head
 have ta_blocks_blocks_ := ta_blocks_blocks
 go_enter Try.func47, Try.ntmps47
 go_wp2_with fail
 obtain ⟨w3, hw3⟩ : ∃ x, x = ((w.alloc (.cells #[.int .i64 0, .int .i64 0, .int .i64 0, .slice none 0 0, .int .i64 0, .int .i64 0, .int .i64 0] 38)).alloc (.cells #[.int .i64 k, .int .i64 0, .int .i64 0, .slice none 0 0, .int .i64 0, .int .i64 0, .int .i64 0] 38)).alloc (.cells #[.int .i64 k2, .int .i64 a, .int .i64 n, .slice A3 m c3] 95) := ⟨_, rfl⟩
 have BK0 : Aside0 (w3.heap[w.heap.size]? = some (.cells #[.int .i64 0, .int .i64 0, .int .i64 0, .slice none 0 0, .int .i64 0, .int .i64 0, .int .i64 0] 38 (0, 0))) := ⟨by rw [hw3]; exact blk_alloc (blk_alloc (heap_alloc_new w _) _) _⟩
 have BK1 : Aside0 (w3.heap[w.heap.size + 1]? = some (.cells #[.int .i64 k, .int .i64 0, .int .i64 0, .slice none 0 0, .int .i64 0, .int .i64 0, .int .i64 0] 38 (0, 0))) := ⟨by rw [hw3]; exact blk_alloc (by have := heap_alloc_new (w.alloc (.cells #[.int .i64 0, .int .i64 0, .int .i64 0, .slice none 0 0, .int .i64 0, .int .i64 0, .int .i64 0] 38)) (.cells #[.int .i64 k, .int .i64 0, .int .i64 0, .slice none 0 0, .int .i64 0, .int .i64 0, .int .i64 0] 38); rwa [show (w.alloc (.cells #[.int .i64 0, .int .i64 0, .int .i64 0, .slice none 0 0, .int .i64 0, .int .i64 0, .int .i64 0] 38)).heap.size = w.heap.size + 1 by simp only [World.alloc, Array.size_push]] at this) _⟩
 have BK2 : Aside0 (w3.heap[w.heap.size + 1 + 1]? = some (.cells #[.int .i64 k2, .int .i64 a, .int .i64 n, .slice A3 m c3] 95 (0, 0))) := ⟨by rw [hw3]; have := heap_alloc_new ((w.alloc (.cells #[.int .i64 0, .int .i64 0, .int .i64 0, .slice none 0 0, .int .i64 0, .int .i64 0, .int .i64 0] 38)).alloc (.cells #[.int .i64 k, .int .i64 0, .int .i64 0, .slice none 0 0, .int .i64 0, .int .i64 0, .int .i64 0] 38)) (.cells #[.int .i64 k2, .int .i64 a, .int .i64 n, .slice A3 m c3] 95); rwa [show ((w.alloc (.cells #[.int .i64 0, .int .i64 0, .int .i64 0, .slice none 0 0, .int .i64 0, .int .i64 0, .int .i64 0] 38)).alloc (.cells #[.int .i64 k, .int .i64 0, .int .i64 0, .slice none 0 0, .int .i64 0, .int .i64 0, .int .i64 0] 38)).heap.size = w.heap.size + 1 + 1 by simp only [World.alloc, Array.size_push]] at this⟩
 have HB : Aside0 (Below w.heap.size w w3) := ⟨by rw [hw3]; exact below_alloc (below_alloc (below_alloc (Below.refl _ _) _) _) _⟩
 rw [← hw3]
 clear hw3
 obtain ⟨g0, hg0⟩ : ∃ g, g = w.heap.size := ⟨_, rfl⟩
 obtain ⟨g1, hg1⟩ : ∃ g, g = w.heap.size + 1 := ⟨_, rfl⟩
 obtain ⟨g2, hg2⟩ : ∃ g, g = w.heap.size + 1 + 1 := ⟨_, rfl⟩
 rw [← hg2] at BK2
 rw [← hg1] at BK1
 rw [← hg0] at BK0
 rw [← hg2, ← hg1, ← hg0]
 have G0 := Aside0.mk (show w.heap.size ≤ g0 by omega)
 have G1 := Aside0.mk (show w.heap.size ≤ g1 by omega)
 have N12 := Aside0.mk (show g1 ≠ g2 by omega)
 have N01 := Aside0.mk (show g0 ≠ g1 by omega)
 clear hg0 hg1 hg2
 have n0 := Aside0.mk (blk_drew BK0.out)
 have n1 := Aside0.mk (blk_drew BK1.out)
 have n2 := Aside0.mk (blk_drew BK2.out)
 have nb := Aside0.mk (below_drew HB.out)
 clear BK0 BK1 BK2 HB
 have BK0 := n0
 have BK1 := n1
 have BK2 := n2
 have HB := nb
 clear n0 n1 n2 nb
 have hcz : w3.drew.cell? ⟨g1, 1, none⟩ = some (.int .i64 0) := (blk_cell BK1.out 1).trans rfl
 have hfz := blk_frozen BK1.out 1
 refine start_ (n := 12) (S := fun w' => w'.cell? ⟨g2, 1, none⟩ = some (.int .i64 a) ∧ w'.cell? ⟨g2, 2, none⟩ = some (.int .i64 n) ∧ w'.cell? ⟨g2, 3, none⟩ = some (.slice A3 m c3)) (ds := []) #[false, false, false, false, false, false, false, false, false, false, false, false] (by kernel_rfl) rfl rfl ⟨((blk_cell BK2.out 1).trans rfl), ((blk_cell BK2.out 2).trans rfl), ((blk_cell BK2.out 3).trans rfl)⟩ (fun hHeld => ?_)
 generalize w3.drew = w4 at BK0 BK1 BK2 HB hcz hfz hHeld ⊢
 refine Cz.rP 0 27 ?_
 refine Cz.rP 2 29 ?_
 refine Cz.rP 4 31 ?_
 refine take_ (i := 1) (N := some 28) (v := ?_) (a' := ?_) #[true, true, true, false, true, false, false, false, false, false, false, false] rfl rfl (by kernel_rfl) (fun _ _ _ h => h) (Or.inl ⟨by rfl, ?_⟩) hHeld ?_ ?_
 rotate_left
 ·rintro w' ⟨s0, s1, s2⟩
  go_simp
  with_reducible rfl
 rotate_left
 ·simp only [Act.put, Kx.sb, Kx.sz, Kx.ss, i64_w, i32_w]
  rfl
 refine Cz.rP 6 33 ?_
 refine take_ (i := 3) (N := some 30) (v := ?_) (a' := ?_) #[true, true, true, true, true, false, true, false, false, false, false, false] rfl rfl (by kernel_rfl) (fun _ _ _ h => h) (Or.inl ⟨by rfl, ?_⟩) hHeld ?_ ?_
 rotate_left
 ·rintro w' ⟨s0, s1, s2⟩
  go_simp
  with_reducible rfl
 rotate_left
 ·simp only [Act.put, Kx.sb, Kx.sz, Kx.ss, i64_w, i32_w]
  rfl
 refine take_ (i := 5) (N := some 32) (v := ?_) (a' := ?_) #[true, true, true, true, true, true, true, false, false, false, false, false] rfl rfl (by kernel_rfl) (fun _ _ _ h => h) (Or.inl ⟨by rfl, ?_⟩) hHeld ?_ ?_
 rotate_left
 ·rintro w' ⟨s0, s1, s2⟩
  go_simp
  with_reducible rfl
 rotate_left
 ·simp only [Act.put, Kx.sb, Kx.sz, Kx.ss, i64_w, i32_w]
  rfl
 refine Cz.rO (N := none) 7 (fun K hK => ?_)
 refine skip_ (w1 := ?_) (by rfl) rfl ?_ ?_
 rotate_left
 ·go_simp
  rfl
 have n0 := Aside0.mk (blk_far BK0.out (p := ⟨g1, 1, none⟩) N01.out (.int .i64 a))
 have n1 := Aside0.mk (blk_put BK1.out 1 (.int .i64 a) rfl)
 have n2 := Aside0.mk (blk_far BK2.out (p := ⟨g1, 1, none⟩) (Ne.symm N12.out) (.int .i64 a))
 have nb := Aside0.mk (show Below w.heap.size w (w4.setCell ⟨g1, 1, none⟩ (.int .i64 a)) from below_set HB.out G1.out)
 generalize w4.setCell ⟨g1, 1, none⟩ (.int .i64 a) = w5 at n0 n1 n2 nb ⊢
 clear BK0 BK1 BK2 HB hcz hfz
 have BK0 := n0
 have BK1 : Aside0 (w5.heap[g1]? = some (.cells #[.int .i64 k, .int .i64 a, .int .i64 0, .slice none 0 0, .int .i64 0, .int .i64 0, .int .i64 0] 38 (0, 0))) := ⟨n1.out⟩
 have BK2 := n2
 have HB := nb
 clear n0 n1 n2 nb
 have hcz : w5.cell? ⟨g1, 2, none⟩ = some (.int .i64 0) := (blk_cell BK1.out 2).trans rfl
 have hfz := blk_frozen BK1.out 2
 refine hK.out _ _ ⟨((blk_cell BK2.out 1).trans rfl), ((blk_cell BK2.out 2).trans rfl), ((blk_cell BK2.out 3).trans rfl)⟩ (fun hHeld => ?_)
 clear hK K
 refine Cz.rP 8 34 ?_
 refine Cz.rO (N := none) 9 (fun K hK => ?_)
 refine skip_ (w1 := ?_) (by rfl) rfl ?_ ?_
 rotate_left
 ·go_simp
  rfl
 have n0 := Aside0.mk (blk_far BK0.out (p := ⟨g1, 2, none⟩) N01.out (.int .i64 n))
 have n1 := Aside0.mk (blk_put BK1.out 2 (.int .i64 n) rfl)
 have n2 := Aside0.mk (blk_far BK2.out (p := ⟨g1, 2, none⟩) (Ne.symm N12.out) (.int .i64 n))
 have nb := Aside0.mk (show Below w.heap.size w (w5.setCell ⟨g1, 2, none⟩ (.int .i64 n)) from below_set HB.out G1.out)
 generalize w5.setCell ⟨g1, 2, none⟩ (.int .i64 n) = w6 at n0 n1 n2 nb ⊢
 clear BK0 BK1 BK2 HB hcz hfz
 have BK0 := n0
 have BK1 : Aside0 (w6.heap[g1]? = some (.cells #[.int .i64 k, .int .i64 a, .int .i64 n, .slice none 0 0, .int .i64 0, .int .i64 0, .int .i64 0] 38 (0, 0))) := ⟨n1.out⟩
 have BK2 := n2
 have HB := nb
 clear n0 n1 n2 nb
 have hcz : w6.cell? ⟨g1, 3, none⟩ = some (.slice none 0 0) := (blk_cell BK1.out 3).trans rfl
 have hfz := blk_frozen BK1.out 3
 refine hK.out _ _ ⟨((blk_cell BK2.out 1).trans rfl), ((blk_cell BK2.out 2).trans rfl), ((blk_cell BK2.out 3).trans rfl)⟩ (fun hHeld => ?_)
 clear hK K
 refine Cz.rP 10 35 ?_
 refine Cz.rO (N := none) 11 (fun K hK => ?_)
 refine skip_ (w1 := ?_) (by rfl) rfl ?_ ?_
 rotate_left
 ·go_simp
  rfl
 have n0 := Aside0.mk (blk_far BK0.out (p := ⟨g1, 3, none⟩) N01.out (.slice A3 m c3))
 have n1 := Aside0.mk (blk_put BK1.out 3 (.slice A3 m c3) rfl)
 have n2 := Aside0.mk (blk_far BK2.out (p := ⟨g1, 3, none⟩) (Ne.symm N12.out) (.slice A3 m c3))
 have nb := Aside0.mk (show Below w.heap.size w (w6.setCell ⟨g1, 3, none⟩ (.slice A3 m c3)) from below_set HB.out G1.out)
 generalize w6.setCell ⟨g1, 3, none⟩ (.slice A3 m c3) = w7 at n0 n1 n2 nb ⊢
 clear BK0 BK1 BK2 HB hcz hfz
 have BK0 := n0
 have BK1 : Aside0 (w7.heap[g1]? = some (.cells #[.int .i64 k, .int .i64 a, .int .i64 n, .slice A3 m c3, .int .i64 0, .int .i64 0, .int .i64 0] 38 (0, 0))) := ⟨n1.out⟩
 have BK2 := n2
 have HB := nb
 clear n0 n1 n2 nb
 refine hK.out _ _ ⟨((blk_cell BK2.out 1).trans rfl), ((blk_cell BK2.out 2).trans rfl), ((blk_cell BK2.out 3).trans rfl)⟩ (fun hHeld => ?_)
 clear hK K
 refine done_ (by kernel_rfl) ?_
 clear hHeld
 obtain ⟨hcz0, hcz1, hcz2, hcz3, hcz4, hcz5, hcz6⟩ := Cz.c7 BK1
 obtain ⟨hcy0, hcy1, hcy2, hcy3, hcy4, hcy5, hcy6, hfy0, hfy1, hfy2, hfy3, hfy4, hfy5, hfy6⟩ := Cz.d7 BK0
 go_wp2
 refine bodyPost_ret (results_cell_row rfl _ _ g0 38 #[.int .i64 k, .int .i64 a, .int .i64 n, .slice A3 m c3, .int .i64 0, .int .i64 0, .int .i64 0] (0, 0) _ rfl (by apply Cz.a7; exact BK0.out) Try.underlying38 rfl (by kernel_rfl)) rfl ?_
 exact ⟨rfl, below_set (below_set (below_set (below_set (below_set (below_set (below_set (HB.out) G0.out) G0.out) G0.out) G0.out) G0.out) G0.out) G0.out⟩
set_option maxRecDepth 100000 in
set_option maxHeartbeats 2000000 in
theorem frame_framed.end (k : Int) (A B : Int) (w : World) : Calls Try.prog 47 #[.int .i64 k, .iface 97 (.agg #[.int .i64 A, .int .i64 B])] w fun e w' => e = .returned (.agg #[.int .i64 k, .int .i64 0, .int .i64 0, .slice none 0 0, .int .i64 A, .int .i64 B, .int .i64 0]) ∧ Below w.heap.size w w' := by
 have hu0 := Try.underlying38
 have hu1 := Try.underlying97
 have ta_end_head_ := ta_end_head
 have ta_end_blocks_ := ta_end_blocks
 have ta_end_end_ := ta_end_end
 go_enter Try.func47, Try.ntmps47
 go_wp2_with fail
 obtain ⟨w3, hw3⟩ : ∃ x, x = ((w.alloc (.cells #[.int .i64 0, .int .i64 0, .int .i64 0, .slice none 0 0, .int .i64 0, .int .i64 0, .int .i64 0] 38)).alloc (.cells #[.int .i64 k, .int .i64 0, .int .i64 0, .slice none 0 0, .int .i64 0, .int .i64 0, .int .i64 0] 38)).alloc (.cells #[.int .i64 A, .int .i64 B] 97) := ⟨_, rfl⟩
 have BK0 : Aside0 (w3.heap[w.heap.size]? = some (.cells #[.int .i64 0, .int .i64 0, .int .i64 0, .slice none 0 0, .int .i64 0, .int .i64 0, .int .i64 0] 38 (0, 0))) := ⟨by rw [hw3]; exact blk_alloc (blk_alloc (heap_alloc_new w _) _) _⟩
 have BK1 : Aside0 (w3.heap[w.heap.size + 1]? = some (.cells #[.int .i64 k, .int .i64 0, .int .i64 0, .slice none 0 0, .int .i64 0, .int .i64 0, .int .i64 0] 38 (0, 0))) := ⟨by rw [hw3]; exact blk_alloc (by have := heap_alloc_new (w.alloc (.cells #[.int .i64 0, .int .i64 0, .int .i64 0, .slice none 0 0, .int .i64 0, .int .i64 0, .int .i64 0] 38)) (.cells #[.int .i64 k, .int .i64 0, .int .i64 0, .slice none 0 0, .int .i64 0, .int .i64 0, .int .i64 0] 38); rwa [show (w.alloc (.cells #[.int .i64 0, .int .i64 0, .int .i64 0, .slice none 0 0, .int .i64 0, .int .i64 0, .int .i64 0] 38)).heap.size = w.heap.size + 1 by simp only [World.alloc, Array.size_push]] at this) _⟩
 have BK2 : Aside0 (w3.heap[w.heap.size + 1 + 1]? = some (.cells #[.int .i64 A, .int .i64 B] 97 (0, 0))) := ⟨by rw [hw3]; have := heap_alloc_new ((w.alloc (.cells #[.int .i64 0, .int .i64 0, .int .i64 0, .slice none 0 0, .int .i64 0, .int .i64 0, .int .i64 0] 38)).alloc (.cells #[.int .i64 k, .int .i64 0, .int .i64 0, .slice none 0 0, .int .i64 0, .int .i64 0, .int .i64 0] 38)) (.cells #[.int .i64 A, .int .i64 B] 97); rwa [show ((w.alloc (.cells #[.int .i64 0, .int .i64 0, .int .i64 0, .slice none 0 0, .int .i64 0, .int .i64 0, .int .i64 0] 38)).alloc (.cells #[.int .i64 k, .int .i64 0, .int .i64 0, .slice none 0 0, .int .i64 0, .int .i64 0, .int .i64 0] 38)).heap.size = w.heap.size + 1 + 1 by simp only [World.alloc, Array.size_push]] at this⟩
 have HB : Aside0 (Below w.heap.size w w3) := ⟨by rw [hw3]; exact below_alloc (below_alloc (below_alloc (Below.refl _ _) _) _) _⟩
 rw [← hw3]
 clear hw3
 obtain ⟨g0, hg0⟩ : ∃ g, g = w.heap.size := ⟨_, rfl⟩
 obtain ⟨g1, hg1⟩ : ∃ g, g = w.heap.size + 1 := ⟨_, rfl⟩
 obtain ⟨g2, hg2⟩ : ∃ g, g = w.heap.size + 1 + 1 := ⟨_, rfl⟩
 rw [← hg2] at BK2
 rw [← hg1] at BK1
 rw [← hg0] at BK0
 rw [← hg2, ← hg1, ← hg0]
 have G0 := Aside0.mk (show w.heap.size ≤ g0 by omega)
 have G1 := Aside0.mk (show w.heap.size ≤ g1 by omega)
 have N12 := Aside0.mk (show g1 ≠ g2 by omega)
 have N01 := Aside0.mk (show g0 ≠ g1 by omega)
 clear hg0 hg1 hg2
 have n0 := Aside0.mk (blk_drew BK0.out)
 have n1 := Aside0.mk (blk_drew BK1.out)
 have n2 := Aside0.mk (blk_drew BK2.out)
 have nb := Aside0.mk (below_drew HB.out)
 clear BK0 BK1 BK2 HB
 have BK0 := n0
 have BK1 := n1
 have BK2 := n2
 have HB := nb
 clear n0 n1 n2 nb
 have hcz : w3.drew.cell? ⟨g1, 4, none⟩ = some (.int .i64 0) := (blk_cell BK1.out 4).trans rfl
 have hfz := blk_frozen BK1.out 4
 refine start_ (n := 8) (S := fun w' => w'.cell? ⟨g2, 0, none⟩ = some (.int .i64 A) ∧ w'.cell? ⟨g2, 1, none⟩ = some (.int .i64 B)) (ds := []) #[false, false, false, false, false, false, false, false] (by kernel_rfl) rfl rfl ⟨((blk_cell BK2.out 0).trans rfl), ((blk_cell BK2.out 1).trans rfl)⟩ (fun hHeld => ?_)
 generalize w3.drew = w4 at BK0 BK1 BK2 HB hcz hfz hHeld ⊢
 refine Cz.rP 0 39 ?_
 refine Cz.rP 2 41 ?_
 refine take_ (i := 1) (N := some 40) (v := ?_) (a' := ?_) #[true, true, true, false, false, false, false, false] rfl rfl (by kernel_rfl) (fun _ _ _ h => h) (Or.inl ⟨by rfl, ?_⟩) hHeld ?_ ?_
 rotate_left
 ·rintro w' ⟨s0, s1⟩
  go_simp
  with_reducible rfl
 rotate_left
 ·simp only [Act.put, Kx.sb, Kx.sz, Kx.ss, i64_w, i32_w]
  rfl
 refine Cz.rP 4 43 ?_
 refine take_ (i := 3) (N := some 42) (v := ?_) (a' := ?_) #[true, true, true, true, true, false, false, false] rfl rfl (by kernel_rfl) (fun _ _ _ h => h) (Or.inl ⟨by rfl, ?_⟩) hHeld ?_ ?_
 rotate_left
 ·rintro w' ⟨s0, s1⟩
  go_simp
  with_reducible rfl
 rotate_left
 ·simp only [Act.put, Kx.sb, Kx.sz, Kx.ss, i64_w, i32_w]
  rfl
 refine Cz.rO (N := none) 5 (fun K hK => ?_)
 refine skip_ (w1 := ?_) (by rfl) rfl ?_ ?_
 rotate_left
 ·go_simp
  rfl
 have n0 := Aside0.mk (blk_far BK0.out (p := ⟨g1, 4, none⟩) N01.out (.int .i64 A))
 have n1 := Aside0.mk (blk_put BK1.out 4 (.int .i64 A) rfl)
 have n2 := Aside0.mk (blk_far BK2.out (p := ⟨g1, 4, none⟩) (Ne.symm N12.out) (.int .i64 A))
 have nb := Aside0.mk (show Below w.heap.size w (w4.setCell ⟨g1, 4, none⟩ (.int .i64 A)) from below_set HB.out G1.out)
 generalize w4.setCell ⟨g1, 4, none⟩ (.int .i64 A) = w5 at n0 n1 n2 nb ⊢
 clear BK0 BK1 BK2 HB hcz hfz
 have BK0 := n0
 have BK1 : Aside0 (w5.heap[g1]? = some (.cells #[.int .i64 k, .int .i64 0, .int .i64 0, .slice none 0 0, .int .i64 A, .int .i64 0, .int .i64 0] 38 (0, 0))) := ⟨n1.out⟩
 have BK2 := n2
 have HB := nb
 clear n0 n1 n2 nb
 have hcz : w5.cell? ⟨g1, 5, none⟩ = some (.int .i64 0) := (blk_cell BK1.out 5).trans rfl
 have hfz := blk_frozen BK1.out 5
 refine hK.out _ _ ⟨((blk_cell BK2.out 0).trans rfl), ((blk_cell BK2.out 1).trans rfl)⟩ (fun hHeld => ?_)
 clear hK K
 refine Cz.rP 6 44 ?_
 refine Cz.rO (N := none) 7 (fun K hK => ?_)
 refine skip_ (w1 := ?_) (by rfl) rfl ?_ ?_
 rotate_left
 ·go_simp
  rfl
 have n0 := Aside0.mk (blk_far BK0.out (p := ⟨g1, 5, none⟩) N01.out (.int .i64 B))
 have n1 := Aside0.mk (blk_put BK1.out 5 (.int .i64 B) rfl)
 have n2 := Aside0.mk (blk_far BK2.out (p := ⟨g1, 5, none⟩) (Ne.symm N12.out) (.int .i64 B))
 have nb := Aside0.mk (show Below w.heap.size w (w5.setCell ⟨g1, 5, none⟩ (.int .i64 B)) from below_set HB.out G1.out)
 generalize w5.setCell ⟨g1, 5, none⟩ (.int .i64 B) = w6 at n0 n1 n2 nb ⊢
 clear BK0 BK1 BK2 HB hcz hfz
 have BK0 := n0
 have BK1 : Aside0 (w6.heap[g1]? = some (.cells #[.int .i64 k, .int .i64 0, .int .i64 0, .slice none 0 0, .int .i64 A, .int .i64 B, .int .i64 0] 38 (0, 0))) := ⟨n1.out⟩
 have BK2 := n2
 have HB := nb
 clear n0 n1 n2 nb
 refine hK.out _ _ ⟨((blk_cell BK2.out 0).trans rfl), ((blk_cell BK2.out 1).trans rfl)⟩ (fun hHeld => ?_)
 clear hK K
 refine done_ (by kernel_rfl) ?_
 clear hHeld
 obtain ⟨hcz0, hcz1, hcz2, hcz3, hcz4, hcz5, hcz6⟩ := Cz.c7 BK1
 obtain ⟨hcy0, hcy1, hcy2, hcy3, hcy4, hcy5, hcy6, hfy0, hfy1, hfy2, hfy3, hfy4, hfy5, hfy6⟩ := Cz.d7 BK0
 go_wp2
 refine bodyPost_ret (results_cell_row rfl _ _ g0 38 #[.int .i64 k, .int .i64 0, .int .i64 0, .slice none 0 0, .int .i64 A, .int .i64 B, .int .i64 0] (0, 0) _ rfl (by apply Cz.a7; exact BK0.out) Try.underlying38 rfl (by kernel_rfl)) rfl ?_
 exact ⟨rfl, below_set (below_set (below_set (below_set (below_set (below_set (below_set (HB.out) G0.out) G0.out) G0.out) G0.out) G0.out) G0.out) G0.out⟩
def bytes_Equal_p.f (l0 : List Int) (l1 : List Int) : Option (Bool) := some ((strOfNums l0).toList == (strOfNums l1).toList)
set_option maxHeartbeats 8000000 in
set_option maxRecDepth 100000 in
theorem bytes_Equal_p.calls (A0 : Option Addr) (c0 : Nat) (l0 : List Int) (A1 : Option Addr) (c1 : Nat) (l1 : List Int) (r : Bool) (w : World) (hr0 : Kd.C (Kd.int .u8) w A0 l0.length l0) (hc0 : l0.length ≤ c0) (hr1 : Kd.C (Kd.int .u8) w A1 l1.length l1) (hc1 : l1.length ≤ c1) (h : bytes_Equal_p.f l0 l1 = some r) :
  Calls Try.prog 71 #[.slice A0 l0.length c0, .slice A1 l1.length c1] w fun e w' => e = .returned (.bool r) ∧ Drawn0 w w' := by
 have HR0 := Aside0.mk hr0
 have HC0 := Aside0.mk hc0
 clear hr0 hc0
 have HR1 := Aside0.mk hr1
 have HC1 := Aside0.mk hc1
 clear hr1 hc1
 have H : (some ((strOfNums l0).toList == (strOfNums l1).toList)) = some r := h
 clear h
 obtain rfl := Option.some.inj H
 have hcv3 := Kd.C_string (P := Try.prog) (A := A0) (c := c0) Try.underlying27 Try.underlying5 Try.underlying9 HR0.out
 (try have hcvd4 := fun (n_ : Nat) => Kd.C_string (P := Try.prog) (A := A0) (c := c0) Try.underlying27 Try.underlying5 Try.underlying9 (Kd.C_drewN HR0.out n_))
 have hcv5 := Kd.C_string (P := Try.prog) (A := A1) (c := c1) Try.underlying27 Try.underlying5 Try.underlying9 HR1.out
 (try have hcvd6 := fun (n_ : Nat) => Kd.C_string (P := Try.prog) (A := A1) (c := c1) Try.underlying27 Try.underlying5 Try.underlying9 (Kd.C_drewN HR1.out n_))
 go_enter Try.func71, Try.ntmps71
 go_wp2
 go_ret
 exact ⟨by first | rfl | (simp; done) | (simp [*]; done), by repeat (first | exact Drawn0.refl _ | apply Drawn0.step)⟩
def bytes_Equal.f (l0 : List Int) (l1 : List Int) : Option (Bool) := if Pl.byteB l0 = true ∧ Pl.byteB l1 = true then some (l0 == l1) else none
theorem bytes_Equal.calls (A0 : Option Addr) (c0 : Nat) (l0 : List Int) (A1 : Option Addr) (c1 : Nat) (l1 : List Int) (r : Bool) (w : World) (hr0 : Kd.C (Kd.int .u8) w A0 l0.length l0) (hc0 : l0.length ≤ c0) (hr1 : Kd.C (Kd.int .u8) w A1 l1.length l1) (hc1 : l1.length ≤ c1) (h : bytes_Equal.f l0 l1 = some r) :
  Calls Try.prog 71 #[.slice A0 l0.length c0, .slice A1 l1.length c1] w fun e w' => e = .returned (.bool r) ∧ Drawn0 w w' := by
 refine bytes_Equal_p.calls A0 c0 l0 A1 c1 l1 r w hr0 hc0 hr1 hc1 ?_
 unfold bytes_Equal.f at h
 split at h
 case isFalse => cases h
 rename_i hh
 unfold bytes_Equal_p.f
 rw [Pl.str_eq hh.1 hh.2]
 exact h
def frame_same_p.f (a0_0 : Int) (a0_1 : Int) (a0_2 : Int) (l0_3 : List Int) (a0_4 : Int) (a0_5 : Int) (a0_6 : Int) (a1_0 : Int) (a1_1 : Int) (a1_2 : Int) (l1_3 : List Int) (a1_4 : Int) (a1_5 : Int) (a1_6 : Int) : Option (Bool) := if a0_0 = a1_0 then (if a0_1 = a1_1 then (if a0_2 = a1_2 then ((bytes_Equal.f l0_3 l1_3).bind fun t159 => (if t159 = true then (if a0_4 = a1_4 then (if a0_5 = a1_5 then (some (a0_6 == a1_6)) else (some false)) else (some false)) else (some false))) else (some false)) else (some false)) else (some false)
set_option maxHeartbeats 8000000 in
set_option maxRecDepth 100000 in
theorem frame_same_p.calls (a0_0 : Int) (a0_1 : Int) (a0_2 : Int) (A0_3 : Option Addr) (c0_3 : Nat) (l0_3 : List Int) (a0_4 : Int) (a0_5 : Int) (a0_6 : Int) (a1_0 : Int) (a1_1 : Int) (a1_2 : Int) (A1_3 : Option Addr) (c1_3 : Nat) (l1_3 : List Int) (a1_4 : Int) (a1_5 : Int) (a1_6 : Int) (r : Bool) (w : World) (hr0_3 : Kd.C (Kd.int .u8) w A0_3 l0_3.length l0_3) (hc0_3 : l0_3.length ≤ c0_3) (hr1_3 : Kd.C (Kd.int .u8) w A1_3 l1_3.length l1_3) (hc1_3 : l1_3.length ≤ c1_3) (h : frame_same_p.f a0_0 a0_1 a0_2 l0_3 a0_4 a0_5 a0_6 a1_0 a1_1 a1_2 l1_3 a1_4 a1_5 a1_6 = some r) :
  Calls Try.prog 49 #[.agg #[.int .i64 a0_0, .int .i64 a0_1, .int .i64 a0_2, .slice A0_3 l0_3.length c0_3, .int .i64 a0_4, .int .i64 a0_5, .int .i64 a0_6], .agg #[.int .i64 a1_0, .int .i64 a1_1, .int .i64 a1_2, .slice A1_3 l1_3.length c1_3, .int .i64 a1_4, .int .i64 a1_5, .int .i64 a1_6]] w fun e w' => e = .returned (.bool r) ∧ Below w.heap.size w w' := by
 have hu38 := Try.underlying38
 have HR0_3 := Aside0.mk hr0_3
 have HC0_3 := Aside0.mk hc0_3
 clear hr0_3 hc0_3
 have HR1_3 := Aside0.mk hr1_3
 have HC1_3 := Aside0.mk hc1_3
 clear hr1_3 hc1_3
 have HB := Aside0.mk (Below.refl w.heap.size w)
 have H : (if a0_0 = a1_0 then (if a0_1 = a1_1 then (if a0_2 = a1_2 then ((bytes_Equal.f l0_3 l1_3).bind fun t159 => (if t159 = true then (if a0_4 = a1_4 then (if a0_5 = a1_5 then (some (a0_6 == a1_6)) else (some false)) else (some false)) else (some false))) else (some false)) else (some false)) else (some false)) = some r := h
 clear h
 by_cases c3 : a0_0 = a1_0
 ·rw [if_pos c3] at H
  have c3b0 : (a0_0 == a1_0) = true := beq_iff_eq.mpr c3
  have c3b1 : (a0_0 != a1_0) = false := bne_eq_false_iff_eq.mpr c3
  clear c3
  by_cases c4 : a0_1 = a1_1
  ·rw [if_pos c4] at H
   have c4b0 : (a0_1 == a1_1) = true := beq_iff_eq.mpr c4
   have c4b1 : (a0_1 != a1_1) = false := bne_eq_false_iff_eq.mpr c4
   clear c4
   by_cases c5 : a0_2 = a1_2
   ·rw [if_pos c5] at H
    have c5b0 : (a0_2 == a1_2) = true := beq_iff_eq.mpr c5
    have c5b1 : (a0_2 != a1_2) = false := bne_eq_false_iff_eq.mpr c5
    clear c5
    replace H := Option.bind_eq_some_iff.mp H
    obtain ⟨t159, A60, H⟩ := H
    (try dsimp only at H)
    have A6 := Aside0.mk A60
    clear A60
    by_cases c7 : t159 = true
    ·subst c7
     rw [if_pos rfl] at H
     by_cases c8 : a0_4 = a1_4
     ·rw [if_pos c8] at H
      have c8b0 : (a0_4 == a1_4) = true := beq_iff_eq.mpr c8
      have c8b1 : (a0_4 != a1_4) = false := bne_eq_false_iff_eq.mpr c8
      clear c8
      by_cases c9 : a0_5 = a1_5
      ·rw [if_pos c9] at H
       have c9b0 : (a0_5 == a1_5) = true := beq_iff_eq.mpr c9
       have c9b1 : (a0_5 != a1_5) = false := bne_eq_false_iff_eq.mpr c9
       clear c9
       obtain rfl := Option.some.inj H
       go_enter Try.func49, Try.ntmps49
       go_wp2_with (first | ((with_reducible refine gate_dst (N := 2) rfl ?_); refine Cz.bx (N := 2) #[.int .i64 a0_0, .int .i64 a0_1, .int .i64 a0_2, .slice A0_3 l0_3.length c0_3, .int .i64 a0_4, .int .i64 a0_5, .int .i64 a0_6] 38 ?_; intro gb157 hg w10 hbox hb; have BK157 := Aside0.mk (hbox); have GW157 := Aside0.mk ((Cz.gs hg : w.heap.size ≤ gb157)); have GE157 := GW157; replace HB := Cz.bs (w := w) hb; clear hb hbox hg) | ((with_reducible refine gate_dst (N := 3) rfl ?_); refine Cz.bx (N := 3) #[.int .i64 a1_0, .int .i64 a1_1, .int .i64 a1_2, .slice A1_3 l1_3.length c1_3, .int .i64 a1_4, .int .i64 a1_5, .int .i64 a1_6] 38 ?_; intro gb158 hg w11 hbox hb; have BK158 := Aside0.mk (hbox); have GW158 := Aside0.mk ((Cz.gs hg : w.heap.size ≤ gb158)); have GE158 := GW158; have NB157_158 := Aside0.mk ((Cz.nl BK157 hg : gb157 ≠ gb158)); have NB158_157 := Aside0.mk ((Cz.nr BK157 hg : gb158 ≠ gb157)); replace BK157 := Cz.bk BK157 hb; replace HB := Cz.bs (w := w) hb; clear hb hbox hg; have hnb12 := NB157_158.out; have hnc12 := NB158_157.out; obtain ⟨z13_0, z13_1, z13_2, z13_3, z13_4, z13_5, z13_6, y13_0, y13_1, y13_2, y13_3, y13_4, y13_5, y13_6⟩ := Cz.d7 BK157; obtain ⟨z14_0, z14_1, z14_2, z14_3, z14_4, z14_5, z14_6, y14_0, y14_1, y14_2, y14_3, y14_4, y14_5, y14_6⟩ := Cz.d7 BK158) | (go_at_call 71; (with_reducible refine (bytes_Equal.calls _ _ l0_3 _ _ l1_3 true _ ?side1 ?side2 ?side3 ?side4 A6.out).mono ?_); (case side1 => exact Cz.cb HR0_3); (case side2 => exact HC0_3.out); (case side3 => exact Cz.cb HR1_3); (case side4 => exact HC1_3.out); rintro e w' ⟨rfl, ⟨nd, rfl⟩⟩))
       go_ret
       exact ⟨Cz.er, Cz.bl (w := w)⟩
      ·rw [if_neg c9] at H
       have c9b0 : (a0_5 == a1_5) = false := beq_eq_false_iff_ne.mpr c9
       have c9b1 : (a0_5 != a1_5) = true := bne_iff_ne.mpr c9
       obtain rfl := Option.some.inj H
       go_enter Try.func49, Try.ntmps49
       go_wp2_with (first | ((with_reducible refine gate_dst (N := 2) rfl ?_); refine Cz.bx (N := 2) #[.int .i64 a0_0, .int .i64 a0_1, .int .i64 a0_2, .slice A0_3 l0_3.length c0_3, .int .i64 a0_4, .int .i64 a0_5, .int .i64 a0_6] 38 ?_; intro gb157 hg w15 hbox hb; have BK157 := Aside0.mk (hbox); have GW157 := Aside0.mk ((Cz.gs hg : w.heap.size ≤ gb157)); have GE157 := GW157; replace HB := Cz.bs (w := w) hb; clear hb hbox hg) | ((with_reducible refine gate_dst (N := 3) rfl ?_); refine Cz.bx (N := 3) #[.int .i64 a1_0, .int .i64 a1_1, .int .i64 a1_2, .slice A1_3 l1_3.length c1_3, .int .i64 a1_4, .int .i64 a1_5, .int .i64 a1_6] 38 ?_; intro gb158 hg w16 hbox hb; have BK158 := Aside0.mk (hbox); have GW158 := Aside0.mk ((Cz.gs hg : w.heap.size ≤ gb158)); have GE158 := GW158; have NB157_158 := Aside0.mk ((Cz.nl BK157 hg : gb157 ≠ gb158)); have NB158_157 := Aside0.mk ((Cz.nr BK157 hg : gb158 ≠ gb157)); replace BK157 := Cz.bk BK157 hb; replace HB := Cz.bs (w := w) hb; clear hb hbox hg; have hnb17 := NB157_158.out; have hnc17 := NB158_157.out; obtain ⟨z18_0, z18_1, z18_2, z18_3, z18_4, z18_5, z18_6, y18_0, y18_1, y18_2, y18_3, y18_4, y18_5, y18_6⟩ := Cz.d7 BK157; obtain ⟨z19_0, z19_1, z19_2, z19_3, z19_4, z19_5, z19_6, y19_0, y19_1, y19_2, y19_3, y19_4, y19_5, y19_6⟩ := Cz.d7 BK158) | (go_at_call 71; (with_reducible refine (bytes_Equal.calls _ _ l0_3 _ _ l1_3 true _ ?side1 ?side2 ?side3 ?side4 A6.out).mono ?_); (case side1 => exact Cz.cb HR0_3); (case side2 => exact HC0_3.out); (case side3 => exact Cz.cb HR1_3); (case side4 => exact HC1_3.out); rintro e w' ⟨rfl, ⟨nd, rfl⟩⟩))
       go_ret
       exact ⟨Cz.er, Cz.bl (w := w)⟩
     ·rw [if_neg c8] at H
      have c8b0 : (a0_4 == a1_4) = false := beq_eq_false_iff_ne.mpr c8
      have c8b1 : (a0_4 != a1_4) = true := bne_iff_ne.mpr c8
      obtain rfl := Option.some.inj H
      go_enter Try.func49, Try.ntmps49
      go_wp2_with (first | ((with_reducible refine gate_dst (N := 2) rfl ?_); refine Cz.bx (N := 2) #[.int .i64 a0_0, .int .i64 a0_1, .int .i64 a0_2, .slice A0_3 l0_3.length c0_3, .int .i64 a0_4, .int .i64 a0_5, .int .i64 a0_6] 38 ?_; intro gb157 hg w20 hbox hb; have BK157 := Aside0.mk (hbox); have GW157 := Aside0.mk ((Cz.gs hg : w.heap.size ≤ gb157)); have GE157 := GW157; replace HB := Cz.bs (w := w) hb; clear hb hbox hg) | ((with_reducible refine gate_dst (N := 3) rfl ?_); refine Cz.bx (N := 3) #[.int .i64 a1_0, .int .i64 a1_1, .int .i64 a1_2, .slice A1_3 l1_3.length c1_3, .int .i64 a1_4, .int .i64 a1_5, .int .i64 a1_6] 38 ?_; intro gb158 hg w21 hbox hb; have BK158 := Aside0.mk (hbox); have GW158 := Aside0.mk ((Cz.gs hg : w.heap.size ≤ gb158)); have GE158 := GW158; have NB157_158 := Aside0.mk ((Cz.nl BK157 hg : gb157 ≠ gb158)); have NB158_157 := Aside0.mk ((Cz.nr BK157 hg : gb158 ≠ gb157)); replace BK157 := Cz.bk BK157 hb; replace HB := Cz.bs (w := w) hb; clear hb hbox hg; have hnb22 := NB157_158.out; have hnc22 := NB158_157.out; obtain ⟨z23_0, z23_1, z23_2, z23_3, z23_4, z23_5, z23_6, y23_0, y23_1, y23_2, y23_3, y23_4, y23_5, y23_6⟩ := Cz.d7 BK157; obtain ⟨z24_0, z24_1, z24_2, z24_3, z24_4, z24_5, z24_6, y24_0, y24_1, y24_2, y24_3, y24_4, y24_5, y24_6⟩ := Cz.d7 BK158) | (go_at_call 71; (with_reducible refine (bytes_Equal.calls _ _ l0_3 _ _ l1_3 true _ ?side1 ?side2 ?side3 ?side4 A6.out).mono ?_); (case side1 => exact Cz.cb HR0_3); (case side2 => exact HC0_3.out); (case side3 => exact Cz.cb HR1_3); (case side4 => exact HC1_3.out); rintro e w' ⟨rfl, ⟨nd, rfl⟩⟩))
      go_ret
      exact ⟨Cz.er, Cz.bl (w := w)⟩
    ·replace c7 := Bool.eq_false_iff.mpr c7
     subst c7
     rw [if_neg (show ¬ (false = true) by decide)] at H
     obtain rfl := Option.some.inj H
     go_enter Try.func49, Try.ntmps49
     go_wp2_with (first | ((with_reducible refine gate_dst (N := 2) rfl ?_); refine Cz.bx (N := 2) #[.int .i64 a0_0, .int .i64 a0_1, .int .i64 a0_2, .slice A0_3 l0_3.length c0_3, .int .i64 a0_4, .int .i64 a0_5, .int .i64 a0_6] 38 ?_; intro gb157 hg w25 hbox hb; have BK157 := Aside0.mk (hbox); have GW157 := Aside0.mk ((Cz.gs hg : w.heap.size ≤ gb157)); have GE157 := GW157; replace HB := Cz.bs (w := w) hb; clear hb hbox hg) | ((with_reducible refine gate_dst (N := 3) rfl ?_); refine Cz.bx (N := 3) #[.int .i64 a1_0, .int .i64 a1_1, .int .i64 a1_2, .slice A1_3 l1_3.length c1_3, .int .i64 a1_4, .int .i64 a1_5, .int .i64 a1_6] 38 ?_; intro gb158 hg w26 hbox hb; have BK158 := Aside0.mk (hbox); have GW158 := Aside0.mk ((Cz.gs hg : w.heap.size ≤ gb158)); have GE158 := GW158; have NB157_158 := Aside0.mk ((Cz.nl BK157 hg : gb157 ≠ gb158)); have NB158_157 := Aside0.mk ((Cz.nr BK157 hg : gb158 ≠ gb157)); replace BK157 := Cz.bk BK157 hb; replace HB := Cz.bs (w := w) hb; clear hb hbox hg; have hnb27 := NB157_158.out; have hnc27 := NB158_157.out; obtain ⟨z28_0, z28_1, z28_2, z28_3, z28_4, z28_5, z28_6, y28_0, y28_1, y28_2, y28_3, y28_4, y28_5, y28_6⟩ := Cz.d7 BK157; obtain ⟨z29_0, z29_1, z29_2, z29_3, z29_4, z29_5, z29_6, y29_0, y29_1, y29_2, y29_3, y29_4, y29_5, y29_6⟩ := Cz.d7 BK158) | (go_at_call 71; (with_reducible refine (bytes_Equal.calls _ _ l0_3 _ _ l1_3 false _ ?side1 ?side2 ?side3 ?side4 A6.out).mono ?_); (case side1 => exact Cz.cb HR0_3); (case side2 => exact HC0_3.out); (case side3 => exact Cz.cb HR1_3); (case side4 => exact HC1_3.out); rintro e w' ⟨rfl, ⟨nd, rfl⟩⟩))
     go_ret
     exact ⟨Cz.er, Cz.bl (w := w)⟩
   ·rw [if_neg c5] at H
    have c5b0 : (a0_2 == a1_2) = false := beq_eq_false_iff_ne.mpr c5
    have c5b1 : (a0_2 != a1_2) = true := bne_iff_ne.mpr c5
    obtain rfl := Option.some.inj H
    go_enter Try.func49, Try.ntmps49
    go_wp2_with (first | ((with_reducible refine gate_dst (N := 2) rfl ?_); refine Cz.bx (N := 2) #[.int .i64 a0_0, .int .i64 a0_1, .int .i64 a0_2, .slice A0_3 l0_3.length c0_3, .int .i64 a0_4, .int .i64 a0_5, .int .i64 a0_6] 38 ?_; intro gb157 hg w30 hbox hb; have BK157 := Aside0.mk (hbox); have GW157 := Aside0.mk ((Cz.gs hg : w.heap.size ≤ gb157)); have GE157 := GW157; replace HB := Cz.bs (w := w) hb; clear hb hbox hg) | ((with_reducible refine gate_dst (N := 3) rfl ?_); refine Cz.bx (N := 3) #[.int .i64 a1_0, .int .i64 a1_1, .int .i64 a1_2, .slice A1_3 l1_3.length c1_3, .int .i64 a1_4, .int .i64 a1_5, .int .i64 a1_6] 38 ?_; intro gb158 hg w31 hbox hb; have BK158 := Aside0.mk (hbox); have GW158 := Aside0.mk ((Cz.gs hg : w.heap.size ≤ gb158)); have GE158 := GW158; have NB157_158 := Aside0.mk ((Cz.nl BK157 hg : gb157 ≠ gb158)); have NB158_157 := Aside0.mk ((Cz.nr BK157 hg : gb158 ≠ gb157)); replace BK157 := Cz.bk BK157 hb; replace HB := Cz.bs (w := w) hb; clear hb hbox hg; have hnb32 := NB157_158.out; have hnc32 := NB158_157.out; obtain ⟨z33_0, z33_1, z33_2, z33_3, z33_4, z33_5, z33_6, y33_0, y33_1, y33_2, y33_3, y33_4, y33_5, y33_6⟩ := Cz.d7 BK157; obtain ⟨z34_0, z34_1, z34_2, z34_3, z34_4, z34_5, z34_6, y34_0, y34_1, y34_2, y34_3, y34_4, y34_5, y34_6⟩ := Cz.d7 BK158))
    go_ret
    exact ⟨Cz.er, Cz.bl (w := w)⟩
  ·rw [if_neg c4] at H
   have c4b0 : (a0_1 == a1_1) = false := beq_eq_false_iff_ne.mpr c4
   have c4b1 : (a0_1 != a1_1) = true := bne_iff_ne.mpr c4
   obtain rfl := Option.some.inj H
   go_enter Try.func49, Try.ntmps49
   go_wp2_with (first | ((with_reducible refine gate_dst (N := 2) rfl ?_); refine Cz.bx (N := 2) #[.int .i64 a0_0, .int .i64 a0_1, .int .i64 a0_2, .slice A0_3 l0_3.length c0_3, .int .i64 a0_4, .int .i64 a0_5, .int .i64 a0_6] 38 ?_; intro gb157 hg w35 hbox hb; have BK157 := Aside0.mk (hbox); have GW157 := Aside0.mk ((Cz.gs hg : w.heap.size ≤ gb157)); have GE157 := GW157; replace HB := Cz.bs (w := w) hb; clear hb hbox hg) | ((with_reducible refine gate_dst (N := 3) rfl ?_); refine Cz.bx (N := 3) #[.int .i64 a1_0, .int .i64 a1_1, .int .i64 a1_2, .slice A1_3 l1_3.length c1_3, .int .i64 a1_4, .int .i64 a1_5, .int .i64 a1_6] 38 ?_; intro gb158 hg w36 hbox hb; have BK158 := Aside0.mk (hbox); have GW158 := Aside0.mk ((Cz.gs hg : w.heap.size ≤ gb158)); have GE158 := GW158; have NB157_158 := Aside0.mk ((Cz.nl BK157 hg : gb157 ≠ gb158)); have NB158_157 := Aside0.mk ((Cz.nr BK157 hg : gb158 ≠ gb157)); replace BK157 := Cz.bk BK157 hb; replace HB := Cz.bs (w := w) hb; clear hb hbox hg; have hnb37 := NB157_158.out; have hnc37 := NB158_157.out; obtain ⟨z38_0, z38_1, z38_2, z38_3, z38_4, z38_5, z38_6, y38_0, y38_1, y38_2, y38_3, y38_4, y38_5, y38_6⟩ := Cz.d7 BK157; obtain ⟨z39_0, z39_1, z39_2, z39_3, z39_4, z39_5, z39_6, y39_0, y39_1, y39_2, y39_3, y39_4, y39_5, y39_6⟩ := Cz.d7 BK158))
   go_ret
   exact ⟨Cz.er, Cz.bl (w := w)⟩
 ·rw [if_neg c3] at H
  have c3b0 : (a0_0 == a1_0) = false := beq_eq_false_iff_ne.mpr c3
  have c3b1 : (a0_0 != a1_0) = true := bne_iff_ne.mpr c3
  obtain rfl := Option.some.inj H
  go_enter Try.func49, Try.ntmps49
  go_wp2_with (first | ((with_reducible refine gate_dst (N := 2) rfl ?_); refine Cz.bx (N := 2) #[.int .i64 a0_0, .int .i64 a0_1, .int .i64 a0_2, .slice A0_3 l0_3.length c0_3, .int .i64 a0_4, .int .i64 a0_5, .int .i64 a0_6] 38 ?_; intro gb157 hg w40 hbox hb; have BK157 := Aside0.mk (hbox); have GW157 := Aside0.mk ((Cz.gs hg : w.heap.size ≤ gb157)); have GE157 := GW157; replace HB := Cz.bs (w := w) hb; clear hb hbox hg) | ((with_reducible refine gate_dst (N := 3) rfl ?_); refine Cz.bx (N := 3) #[.int .i64 a1_0, .int .i64 a1_1, .int .i64 a1_2, .slice A1_3 l1_3.length c1_3, .int .i64 a1_4, .int .i64 a1_5, .int .i64 a1_6] 38 ?_; intro gb158 hg w41 hbox hb; have BK158 := Aside0.mk (hbox); have GW158 := Aside0.mk ((Cz.gs hg : w.heap.size ≤ gb158)); have GE158 := GW158; have NB157_158 := Aside0.mk ((Cz.nl BK157 hg : gb157 ≠ gb158)); have NB158_157 := Aside0.mk ((Cz.nr BK157 hg : gb158 ≠ gb157)); replace BK157 := Cz.bk BK157 hb; replace HB := Cz.bs (w := w) hb; clear hb hbox hg; have hnb42 := NB157_158.out; have hnc42 := NB158_157.out; obtain ⟨z43_0, z43_1, z43_2, z43_3, z43_4, z43_5, z43_6, y43_0, y43_1, y43_2, y43_3, y43_4, y43_5, y43_6⟩ := Cz.d7 BK157; obtain ⟨z44_0, z44_1, z44_2, z44_3, z44_4, z44_5, z44_6, y44_0, y44_1, y44_2, y44_3, y44_4, y44_5, y44_6⟩ := Cz.d7 BK158))
  go_ret
  exact ⟨Cz.er, Cz.bl (w := w)⟩
end Go.Proofs.Ytohkmmbmfhficaa.PT
