/- Words and walks that this claim names, of those that the kit's print and programs of this workplace have printed. -/
import Derived.Test.YtohkmmbmfhficaaZGPGx11
namespace Go.Proofs.Ytohkmmbmfhficaa.PG
open Go.RowKit Go.Proofs.YtohkmmbmfhficaaW.PrintWords Go.Proofs.YtohkmmbmfhficaaW.PrintLast Go.Proofs.YtohkmmbmfhficaaW.PrintMore
attribute [local go_sem] max2_int min2_int max_two min_two max_three min_three max_four min_four
set_option linter.unusedVariables false
set_option linter.unusedSimpArgs false
theorem ta_blocks_head (x : Value) (w : World) : (Instr.typeAssert (.iface 95 x) 64 93 true).run Try.prog w = .ok (.tuple #[.agg #[.int .i64 0, .int .i64 0, .int .i64 0], .bool false]) w := by kernel_rfl
theorem ta_end_head (x : Value) (w : World) : (Instr.typeAssert (.iface 97 x) 64 93 true).run Try.prog w = .ok (.tuple #[.agg #[.int .i64 0, .int .i64 0, .int .i64 0], .bool false]) w := by kernel_rfl
theorem ta_end_blocks (x : Value) (w : World) : (Instr.typeAssert (.iface 97 x) 64 95 true).run Try.prog w = .ok (.tuple #[.agg #[.int .i64 0, .int .i64 0, .int .i64 0, .slice none 0 0], .bool false]) w := by kernel_rfl
theorem ta_head_head (x : Value) (w : World) : (Instr.typeAssert (.iface 93 x) 64 93 true).run Try.prog w = .ok (.tuple #[x, .bool true]) w := by kernel_rfl
theorem ta_blocks_blocks (x : Value) (w : World) : (Instr.typeAssert (.iface 95 x) 64 95 true).run Try.prog w = .ok (.tuple #[x, .bool true]) w := by kernel_rfl
theorem ta_end_end (x : Value) (w : World) : (Instr.typeAssert (.iface 97 x) 64 97 true).run Try.prog w = .ok (.tuple #[x, .bool true]) w := by kernel_rfl
set_option maxRecDepth 100000 in
set_option maxHeartbeats 2000000 in
theorem frame_framed.head (k : Int) (A B C : Int) (w : World) : Calls Try.prog 47 #[.int .i64 k, .iface 93 (.agg #[.int .i64 A, .int .i64 B, .int .i64 C])] w fun e w' => e = .returned (.agg #[.int .i64 k, .int .i64 0, .int .i64 0, .slice none 0 0, .int .i64 A, .int .i64 B, .int .i64 C]) ∧ Below w.heap.size w w' := by
 have hu0 := Try.underlying38
 have hu1 := Try.underlying93
 have ta_head_head_ := ta_head_head
 go_enter Try.func47, Try.ntmps47
 go_wp2_with fail
 obtain ⟨w3, hw3⟩ : ∃ x, x = ((w.alloc (.cells #[.int .i64 0, .int .i64 0, .int .i64 0, .slice none 0 0, .int .i64 0, .int .i64 0, .int .i64 0] 38)).alloc (.cells #[.int .i64 k, .int .i64 0, .int .i64 0, .slice none 0 0, .int .i64 0, .int .i64 0, .int .i64 0] 38)).alloc (.cells #[.int .i64 A, .int .i64 B, .int .i64 C] 93) := ⟨_, rfl⟩
 have BK0 : Aside0 (w3.heap[w.heap.size]? = some (.cells #[.int .i64 0, .int .i64 0, .int .i64 0, .slice none 0 0, .int .i64 0, .int .i64 0, .int .i64 0] 38 (0, 0))) := ⟨by rw [hw3]; exact blk_alloc (blk_alloc (heap_alloc_new w _) _) _⟩
 have BK1 : Aside0 (w3.heap[w.heap.size + 1]? = some (.cells #[.int .i64 k, .int .i64 0, .int .i64 0, .slice none 0 0, .int .i64 0, .int .i64 0, .int .i64 0] 38 (0, 0))) := ⟨by rw [hw3]; exact blk_alloc (by have := heap_alloc_new (w.alloc (.cells #[.int .i64 0, .int .i64 0, .int .i64 0, .slice none 0 0, .int .i64 0, .int .i64 0, .int .i64 0] 38)) (.cells #[.int .i64 k, .int .i64 0, .int .i64 0, .slice none 0 0, .int .i64 0, .int .i64 0, .int .i64 0] 38); rwa [show (w.alloc (.cells #[.int .i64 0, .int .i64 0, .int .i64 0, .slice none 0 0, .int .i64 0, .int .i64 0, .int .i64 0] 38)).heap.size = w.heap.size + 1 by simp only [World.alloc, Array.size_push]] at this) _⟩
 have BK2 : Aside0 (w3.heap[w.heap.size + 1 + 1]? = some (.cells #[.int .i64 A, .int .i64 B, .int .i64 C] 93 (0, 0))) := ⟨by rw [hw3]; have := heap_alloc_new ((w.alloc (.cells #[.int .i64 0, .int .i64 0, .int .i64 0, .slice none 0 0, .int .i64 0, .int .i64 0, .int .i64 0] 38)).alloc (.cells #[.int .i64 k, .int .i64 0, .int .i64 0, .slice none 0 0, .int .i64 0, .int .i64 0, .int .i64 0] 38)) (.cells #[.int .i64 A, .int .i64 B, .int .i64 C] 93); rwa [show ((w.alloc (.cells #[.int .i64 0, .int .i64 0, .int .i64 0, .slice none 0 0, .int .i64 0, .int .i64 0, .int .i64 0] 38)).alloc (.cells #[.int .i64 k, .int .i64 0, .int .i64 0, .slice none 0 0, .int .i64 0, .int .i64 0, .int .i64 0] 38)).heap.size = w.heap.size + 1 + 1 by simp only [World.alloc, Array.size_push]] at this⟩
 have HB : Aside0 (Below w.heap.size w w3) := ⟨by rw [hw3]; exact below_alloc (below_alloc (below_alloc (Below.refl _ _) _) _) _⟩
 rw [← hw3]
 clear hw3
 obtain ⟨g0, hg0⟩ : ∃ g, g = w.heap.size := ⟨_, rfl⟩
 obtain ⟨g1, hg1⟩ : ∃ g, g = w.heap.size + 1 := ⟨_, rfl⟩
 obtain ⟨g2, hg2⟩ : ∃ g, g = w.heap.size + 1 + 1 := ⟨_, rfl⟩
 rw [← hg2] at BK2
 rw [← hg1] at BK1
 rw [← hg0] at BK0
 rw [← hg2, ← hg1, ← hg0]
 have G0 := Aside0.mk (show w.heap.size ≤ g0 by omega)
 have G1 := Aside0.mk (show w.heap.size ≤ g1 by omega)
 have N12 := Aside0.mk (show g1 ≠ g2 by omega)
 have N01 := Aside0.mk (show g0 ≠ g1 by omega)
 clear hg0 hg1 hg2
 have n0 := Aside0.mk (blk_drew BK0.out)
 have n1 := Aside0.mk (blk_drew BK1.out)
 have n2 := Aside0.mk (blk_drew BK2.out)
 have nb := Aside0.mk (below_drew HB.out)
 clear BK0 BK1 BK2 HB
 have BK0 := n0
 have BK1 := n1
 have BK2 := n2
 have HB := nb
 clear n0 n1 n2 nb
 have hcz : w3.drew.cell? ⟨g1, 4, none⟩ = some (.int .i64 0) := (blk_cell BK1.out 4).trans rfl
 have hfz := blk_frozen BK1.out 4
 refine start_ (n := 12) (S := fun w' => w'.cell? ⟨g2, 0, none⟩ = some (.int .i64 A) ∧ w'.cell? ⟨g2, 1, none⟩ = some (.int .i64 B) ∧ w'.cell? ⟨g2, 2, none⟩ = some (.int .i64 C)) (ds := []) #[false, false, false, false, false, false, false, false, false, false, false, false] (by kernel_rfl) rfl rfl ⟨((blk_cell BK2.out 0).trans rfl), ((blk_cell BK2.out 1).trans rfl), ((blk_cell BK2.out 2).trans rfl)⟩ (fun hHeld => ?_)
 generalize w3.drew = w4 at BK0 BK1 BK2 HB hcz hfz hHeld ⊢
 refine pure_ (i := 0) (N := some 15) (v := ?_) (a' := ?_) #[true, false, false, false, false, false, false, false, false, false, false, false] rfl rfl (by kernel_rfl) (fun _ _ _ h => h) (Or.inl ⟨by rfl, ?_⟩) ?_ ?_
 rotate_left
 ·intro w'
  go_simp
  with_reducible rfl
 rotate_left
 ·simp only [Act.put, Kx.sb, Kx.sz, Kx.ss, i64_w, i32_w]
  rfl
 refine pure_ (i := 2) (N := some 17) (v := ?_) (a' := ?_) #[true, false, true, false, false, false, false, false, false, false, false, false] rfl rfl (by kernel_rfl) (fun _ _ _ h => h) (Or.inl ⟨by rfl, ?_⟩) ?_ ?_
 rotate_left
 ·intro w'
  go_simp
  with_reducible rfl
 rotate_left
 ·simp only [Act.put, Kx.sb, Kx.sz, Kx.ss, i64_w, i32_w]
  rfl
 refine pure_ (i := 4) (N := some 19) (v := ?_) (a' := ?_) #[true, false, true, false, true, false, false, false, false, false, false, false] rfl rfl (by kernel_rfl) (fun _ _ _ h => h) (Or.inl ⟨by rfl, ?_⟩) ?_ ?_
 rotate_left
 ·intro w'
  go_simp
  with_reducible rfl
 rotate_left
 ·simp only [Act.put, Kx.sb, Kx.sz, Kx.ss, i64_w, i32_w]
  rfl
 refine take_ (i := 1) (N := some 16) (v := ?_) (a' := ?_) #[true, true, true, false, true, false, false, false, false, false, false, false] rfl rfl (by kernel_rfl) (fun _ _ _ h => h) (Or.inl ⟨by rfl, ?_⟩) hHeld ?_ ?_
 rotate_left
 ·rintro w' ⟨s0, s1, s2⟩
  go_simp
  with_reducible rfl
 rotate_left
 ·simp only [Act.put, Kx.sb, Kx.sz, Kx.ss, i64_w, i32_w]
  rfl
 refine pure_ (i := 6) (N := some 21) (v := ?_) (a' := ?_) #[true, true, true, false, true, false, true, false, false, false, false, false] rfl rfl (by kernel_rfl) (fun _ _ _ h => h) (Or.inl ⟨by rfl, ?_⟩) ?_ ?_
 rotate_left
 ·intro w'
  go_simp
  with_reducible rfl
 rotate_left
 ·simp only [Act.put, Kx.sb, Kx.sz, Kx.ss, i64_w, i32_w]
  rfl
 refine take_ (i := 3) (N := some 18) (v := ?_) (a' := ?_) #[true, true, true, true, true, false, true, false, false, false, false, false] rfl rfl (by kernel_rfl) (fun _ _ _ h => h) (Or.inl ⟨by rfl, ?_⟩) hHeld ?_ ?_
 rotate_left
 ·rintro w' ⟨s0, s1, s2⟩
  go_simp
  with_reducible rfl
 rotate_left
 ·simp only [Act.put, Kx.sb, Kx.sz, Kx.ss, i64_w, i32_w]
  rfl
 refine take_ (i := 5) (N := some 20) (v := ?_) (a' := ?_) #[true, true, true, true, true, true, true, false, false, false, false, false] rfl rfl (by kernel_rfl) (fun _ _ _ h => h) (Or.inl ⟨by rfl, ?_⟩) hHeld ?_ ?_
 rotate_left
 ·rintro w' ⟨s0, s1, s2⟩
  go_simp
  with_reducible rfl
 rotate_left
 ·simp only [Act.put, Kx.sb, Kx.sz, Kx.ss, i64_w, i32_w]
  rfl
 refine one_ (i := 7) (N := none) #[true, true, true, true, true, true, true, true, false, false, false, false] rfl rfl (by kernel_rfl) (by decide) (fun K hK => ?_)
 refine skip_ (w1 := ?_) (by rfl) rfl ?_ ?_
 rotate_left
 ·go_simp
  rfl
 have n0 := Aside0.mk (blk_far BK0.out (p := ⟨g1, 4, none⟩) N01.out (.int .i64 A))
 have n1 := Aside0.mk (blk_put BK1.out 4 (.int .i64 A) rfl)
 have n2 := Aside0.mk (blk_far BK2.out (p := ⟨g1, 4, none⟩) (Ne.symm N12.out) (.int .i64 A))
 have nb := Aside0.mk (show Below w.heap.size w (w4.setCell ⟨g1, 4, none⟩ (.int .i64 A)) from below_set HB.out G1.out)
 generalize w4.setCell ⟨g1, 4, none⟩ (.int .i64 A) = w5 at n0 n1 n2 nb ⊢
 clear BK0 BK1 BK2 HB hcz hfz
 have BK0 := n0
 have BK1 : Aside0 (w5.heap[g1]? = some (.cells #[.int .i64 k, .int .i64 0, .int .i64 0, .slice none 0 0, .int .i64 A, .int .i64 0, .int .i64 0] 38 (0, 0))) := ⟨n1.out⟩
 have BK2 := n2
 have HB := nb
 clear n0 n1 n2 nb
 have hcz : w5.cell? ⟨g1, 5, none⟩ = some (.int .i64 0) := (blk_cell BK1.out 5).trans rfl
 have hfz := blk_frozen BK1.out 5
 refine hK.out _ _ ⟨((blk_cell BK2.out 0).trans rfl), ((blk_cell BK2.out 1).trans rfl), ((blk_cell BK2.out 2).trans rfl)⟩ (fun hHeld => ?_)
 clear hK K
 refine pure_ (i := 8) (N := some 22) (v := ?_) (a' := ?_) #[true, true, true, true, true, true, true, true, true, false, false, false] rfl rfl (by kernel_rfl) (fun _ _ _ h => h) (Or.inl ⟨by rfl, ?_⟩) ?_ ?_
 rotate_left
 ·intro w'
  go_simp
  with_reducible rfl
 rotate_left
 ·simp only [Act.put, Kx.sb, Kx.sz, Kx.ss, i64_w, i32_w]
  rfl
 refine one_ (i := 9) (N := none) #[true, true, true, true, true, true, true, true, true, true, false, false] rfl rfl (by kernel_rfl) (by decide) (fun K hK => ?_)
 refine skip_ (w1 := ?_) (by rfl) rfl ?_ ?_
 rotate_left
 ·go_simp
  rfl
 have n0 := Aside0.mk (blk_far BK0.out (p := ⟨g1, 5, none⟩) N01.out (.int .i64 B))
 have n1 := Aside0.mk (blk_put BK1.out 5 (.int .i64 B) rfl)
 have n2 := Aside0.mk (blk_far BK2.out (p := ⟨g1, 5, none⟩) (Ne.symm N12.out) (.int .i64 B))
 have nb := Aside0.mk (show Below w.heap.size w (w5.setCell ⟨g1, 5, none⟩ (.int .i64 B)) from below_set HB.out G1.out)
 generalize w5.setCell ⟨g1, 5, none⟩ (.int .i64 B) = w6 at n0 n1 n2 nb ⊢
 clear BK0 BK1 BK2 HB hcz hfz
 have BK0 := n0
 have BK1 : Aside0 (w6.heap[g1]? = some (.cells #[.int .i64 k, .int .i64 0, .int .i64 0, .slice none 0 0, .int .i64 A, .int .i64 B, .int .i64 0] 38 (0, 0))) := ⟨n1.out⟩
 have BK2 := n2
 have HB := nb
 clear n0 n1 n2 nb
 have hcz : w6.cell? ⟨g1, 6, none⟩ = some (.int .i64 0) := (blk_cell BK1.out 6).trans rfl
 have hfz := blk_frozen BK1.out 6
 refine hK.out _ _ ⟨((blk_cell BK2.out 0).trans rfl), ((blk_cell BK2.out 1).trans rfl), ((blk_cell BK2.out 2).trans rfl)⟩ (fun hHeld => ?_)
 clear hK K
 refine pure_ (i := 10) (N := some 23) (v := ?_) (a' := ?_) #[true, true, true, true, true, true, true, true, true, true, true, false] rfl rfl (by kernel_rfl) (fun _ _ _ h => h) (Or.inl ⟨by rfl, ?_⟩) ?_ ?_
 rotate_left
 ·intro w'
  go_simp
  with_reducible rfl
 rotate_left
 ·simp only [Act.put, Kx.sb, Kx.sz, Kx.ss, i64_w, i32_w]
  rfl
 refine one_ (i := 11) (N := none) #[true, true, true, true, true, true, true, true, true, true, true, true] rfl rfl (by kernel_rfl) (by decide) (fun K hK => ?_)
 refine skip_ (w1 := ?_) (by rfl) rfl ?_ ?_
 rotate_left
 ·go_simp
  rfl
 have n0 := Aside0.mk (blk_far BK0.out (p := ⟨g1, 6, none⟩) N01.out (.int .i64 C))
 have n1 := Aside0.mk (blk_put BK1.out 6 (.int .i64 C) rfl)
 have n2 := Aside0.mk (blk_far BK2.out (p := ⟨g1, 6, none⟩) (Ne.symm N12.out) (.int .i64 C))
 have nb := Aside0.mk (show Below w.heap.size w (w6.setCell ⟨g1, 6, none⟩ (.int .i64 C)) from below_set HB.out G1.out)
 generalize w6.setCell ⟨g1, 6, none⟩ (.int .i64 C) = w7 at n0 n1 n2 nb ⊢
 clear BK0 BK1 BK2 HB hcz hfz
 have BK0 := n0
 have BK1 : Aside0 (w7.heap[g1]? = some (.cells #[.int .i64 k, .int .i64 0, .int .i64 0, .slice none 0 0, .int .i64 A, .int .i64 B, .int .i64 C] 38 (0, 0))) := ⟨n1.out⟩
 have BK2 := n2
 have HB := nb
 clear n0 n1 n2 nb
 refine hK.out _ _ ⟨((blk_cell BK2.out 0).trans rfl), ((blk_cell BK2.out 1).trans rfl), ((blk_cell BK2.out 2).trans rfl)⟩ (fun hHeld => ?_)
 clear hK K
 refine done_ (by kernel_rfl) ?_
 clear hHeld
 have hcz0 : w7.cell? ⟨g1, 0, none⟩ = some (.int .i64 k) := (blk_cell BK1.out 0).trans rfl
 have hcz1 : w7.cell? ⟨g1, 1, none⟩ = some (.int .i64 0) := (blk_cell BK1.out 1).trans rfl
 have hcz2 : w7.cell? ⟨g1, 2, none⟩ = some (.int .i64 0) := (blk_cell BK1.out 2).trans rfl
 have hcz3 : w7.cell? ⟨g1, 3, none⟩ = some (.slice none 0 0) := (blk_cell BK1.out 3).trans rfl
 have hcz4 : w7.cell? ⟨g1, 4, none⟩ = some (.int .i64 A) := (blk_cell BK1.out 4).trans rfl
 have hcz5 : w7.cell? ⟨g1, 5, none⟩ = some (.int .i64 B) := (blk_cell BK1.out 5).trans rfl
 have hcz6 : w7.cell? ⟨g1, 6, none⟩ = some (.int .i64 C) := (blk_cell BK1.out 6).trans rfl
 have hcy0 : w7.cell? ⟨g0, 0, none⟩ = some (.int .i64 0) := (blk_cell BK0.out 0).trans rfl
 have hfy0 := blk_frozen BK0.out 0
 have hcy1 : w7.cell? ⟨g0, 1, none⟩ = some (.int .i64 0) := (blk_cell BK0.out 1).trans rfl
 have hfy1 := blk_frozen BK0.out 1
 have hcy2 : w7.cell? ⟨g0, 2, none⟩ = some (.int .i64 0) := (blk_cell BK0.out 2).trans rfl
 have hfy2 := blk_frozen BK0.out 2
 have hcy3 : w7.cell? ⟨g0, 3, none⟩ = some (.slice none 0 0) := (blk_cell BK0.out 3).trans rfl
 have hfy3 := blk_frozen BK0.out 3
 have hcy4 : w7.cell? ⟨g0, 4, none⟩ = some (.int .i64 0) := (blk_cell BK0.out 4).trans rfl
 have hfy4 := blk_frozen BK0.out 4
 have hcy5 : w7.cell? ⟨g0, 5, none⟩ = some (.int .i64 0) := (blk_cell BK0.out 5).trans rfl
 have hfy5 := blk_frozen BK0.out 5
 have hcy6 : w7.cell? ⟨g0, 6, none⟩ = some (.int .i64 0) := (blk_cell BK0.out 6).trans rfl
 have hfy6 := blk_frozen BK0.out 6
 go_wp2
 refine bodyPost_ret (results_cell_row rfl _ _ g0 38 #[.int .i64 k, .int .i64 0, .int .i64 0, .slice none 0 0, .int .i64 A, .int .i64 B, .int .i64 C] (0, 0) _ rfl (by refine blk_put (cs := #[.int .i64 k, .int .i64 0, .int .i64 0, .slice none 0 0, .int .i64 A, .int .i64 B, .int .i64 0]) ?_ 6 _ rfl; refine blk_put (cs := #[.int .i64 k, .int .i64 0, .int .i64 0, .slice none 0 0, .int .i64 A, .int .i64 0, .int .i64 0]) ?_ 5 _ rfl; refine blk_put (cs := #[.int .i64 k, .int .i64 0, .int .i64 0, .slice none 0 0, .int .i64 0, .int .i64 0, .int .i64 0]) ?_ 4 _ rfl; refine blk_put (cs := #[.int .i64 k, .int .i64 0, .int .i64 0, .slice none 0 0, .int .i64 0, .int .i64 0, .int .i64 0]) ?_ 3 _ rfl; refine blk_put (cs := #[.int .i64 k, .int .i64 0, .int .i64 0, .slice none 0 0, .int .i64 0, .int .i64 0, .int .i64 0]) ?_ 2 _ rfl; refine blk_put (cs := #[.int .i64 k, .int .i64 0, .int .i64 0, .slice none 0 0, .int .i64 0, .int .i64 0, .int .i64 0]) ?_ 1 _ rfl; refine blk_put (cs := #[.int .i64 0, .int .i64 0, .int .i64 0, .slice none 0 0, .int .i64 0, .int .i64 0, .int .i64 0]) ?_ 0 _ rfl; exact BK0.out) Try.underlying38 rfl (by kernel_rfl)) rfl ?_
 exact ⟨rfl, below_set (below_set (below_set (below_set (below_set (below_set (below_set (HB.out) G0.out) G0.out) G0.out) G0.out) G0.out) G0.out) G0.out⟩
set_option maxRecDepth 100000 in
set_option maxHeartbeats 2000000 in
theorem frame_framed.blocks (k : Int) (k2 a n : Int) (A3 : Option Addr) (m c3 : Nat) (w : World) : Calls Try.prog 47 #[.int .i64 k, .iface 95 (.agg #[.int .i64 k2, .int .i64 a, .int .i64 n, .slice A3 m c3])] w fun e w' => e = .returned (.agg #[.int .i64 k, .int .i64 a, .int .i64 n, .slice A3 m c3, .int .i64 0, .int .i64 0, .int .i64 0]) ∧ Below w.heap.size w w' := by
 have hu0 := Try.underlying38
 have hu1 := Try.underlying95
 have ta_blocks_head_ := ta_blocks_head
 have ta_blocks_blocks_ := ta_blocks_blocks
 go_enter Try.func47, Try.ntmps47
 go_wp2_with fail
 obtain ⟨w3, hw3⟩ : ∃ x, x = ((w.alloc (.cells #[.int .i64 0, .int .i64 0, .int .i64 0, .slice none 0 0, .int .i64 0, .int .i64 0, .int .i64 0] 38)).alloc (.cells #[.int .i64 k, .int .i64 0, .int .i64 0, .slice none 0 0, .int .i64 0, .int .i64 0, .int .i64 0] 38)).alloc (.cells #[.int .i64 k2, .int .i64 a, .int .i64 n, .slice A3 m c3] 95) := ⟨_, rfl⟩
 have BK0 : Aside0 (w3.heap[w.heap.size]? = some (.cells #[.int .i64 0, .int .i64 0, .int .i64 0, .slice none 0 0, .int .i64 0, .int .i64 0, .int .i64 0] 38 (0, 0))) := ⟨by rw [hw3]; exact blk_alloc (blk_alloc (heap_alloc_new w _) _) _⟩
 have BK1 : Aside0 (w3.heap[w.heap.size + 1]? = some (.cells #[.int .i64 k, .int .i64 0, .int .i64 0, .slice none 0 0, .int .i64 0, .int .i64 0, .int .i64 0] 38 (0, 0))) := ⟨by rw [hw3]; exact blk_alloc (by have := heap_alloc_new (w.alloc (.cells #[.int .i64 0, .int .i64 0, .int .i64 0, .slice none 0 0, .int .i64 0, .int .i64 0, .int .i64 0] 38)) (.cells #[.int .i64 k, .int .i64 0, .int .i64 0, .slice none 0 0, .int .i64 0, .int .i64 0, .int .i64 0] 38); rwa [show (w.alloc (.cells #[.int .i64 0, .int .i64 0, .int .i64 0, .slice none 0 0, .int .i64 0, .int .i64 0, .int .i64 0] 38)).heap.size = w.heap.size + 1 by simp only [World.alloc, Array.size_push]] at this) _⟩
 have BK2 : Aside0 (w3.heap[w.heap.size + 1 + 1]? = some (.cells #[.int .i64 k2, .int .i64 a, .int .i64 n, .slice A3 m c3] 95 (0, 0))) := ⟨by rw [hw3]; have := heap_alloc_new ((w.alloc (.cells #[.int .i64 0, .int .i64 0, .int .i64 0, .slice none 0 0, .int .i64 0, .int .i64 0, .int .i64 0] 38)).alloc (.cells #[.int .i64 k, .int .i64 0, .int .i64 0, .slice none 0 0, .int .i64 0, .int .i64 0, .int .i64 0] 38)) (.cells #[.int .i64 k2, .int .i64 a, .int .i64 n, .slice A3 m c3] 95); rwa [show ((w.alloc (.cells #[.int .i64 0, .int .i64 0, .int .i64 0, .slice none 0 0, .int .i64 0, .int .i64 0, .int .i64 0] 38)).alloc (.cells #[.int .i64 k, .int .i64 0, .int .i64 0, .slice none 0 0, .int .i64 0, .int .i64 0, .int .i64 0] 38)).heap.size = w.heap.size + 1 + 1 by simp only [World.alloc, Array.size_push]] at this⟩
 have HB : Aside0 (Below w.heap.size w w3) := ⟨by rw [hw3]; exact below_alloc (below_alloc (below_alloc (Below.refl _ _) _) _) _⟩
 rw [← hw3]
 clear hw3
 obtain ⟨g0, hg0⟩ : ∃ g, g = w.heap.size := ⟨_, rfl⟩
 obtain ⟨g1, hg1⟩ : ∃ g, g = w.heap.size + 1 := ⟨_, rfl⟩
 obtain ⟨g2, hg2⟩ : ∃ g, g = w.heap.size + 1 + 1 := ⟨_, rfl⟩
 rw [← hg2] at BK2
 rw [← hg1] at BK1
 rw [← hg0] at BK0
 rw [← hg2, ← hg1, ← hg0]
 have G0 := Aside0.mk (show w.heap.size ≤ g0 by omega)
 have G1 := Aside0.mk (show w.heap.size ≤ g1 by omega)
 have N12 := Aside0.mk (show g1 ≠ g2 by omega)
 have N01 := Aside0.mk (show g0 ≠ g1 by omega)
 clear hg0 hg1 hg2
 have n0 := Aside0.mk (blk_drew BK0.out)
 have n1 := Aside0.mk (blk_drew BK1.out)
 have n2 := Aside0.mk (blk_drew BK2.out)
 have nb := Aside0.mk (below_drew HB.out)
 clear BK0 BK1 BK2 HB
 have BK0 := n0
 have BK1 := n1
 have BK2 := n2
 have HB := nb
 clear n0 n1 n2 nb
 have hcz : w3.drew.cell? ⟨g1, 1, none⟩ = some (.int .i64 0) := (blk_cell BK1.out 1).trans rfl
 have hfz := blk_frozen BK1.out 1
 refine start_ (n := 12) (S := fun w' => w'.cell? ⟨g2, 1, none⟩ = some (.int .i64 a) ∧ w'.cell? ⟨g2, 2, none⟩ = some (.int .i64 n) ∧ w'.cell? ⟨g2, 3, none⟩ = some (.slice A3 m c3)) (ds := []) #[false, false, false, false, false, false, false, false, false, false, false, false] (by kernel_rfl) rfl rfl ⟨((blk_cell BK2.out 1).trans rfl), ((blk_cell BK2.out 2).trans rfl), ((blk_cell BK2.out 3).trans rfl)⟩ (fun hHeld => ?_)
 generalize w3.drew = w4 at BK0 BK1 BK2 HB hcz hfz hHeld ⊢
 refine pure_ (i := 0) (N := some 27) (v := ?_) (a' := ?_) #[true, false, false, false, false, false, false, false, false, false, false, false] rfl rfl (by kernel_rfl) (fun _ _ _ h => h) (Or.inl ⟨by rfl, ?_⟩) ?_ ?_
 rotate_left
 ·intro w'
  go_simp
  with_reducible rfl
 rotate_left
 ·simp only [Act.put, Kx.sb, Kx.sz, Kx.ss, i64_w, i32_w]
  rfl
 refine pure_ (i := 2) (N := some 29) (v := ?_) (a' := ?_) #[true, false, true, false, false, false, false, false, false, false, false, false] rfl rfl (by kernel_rfl) (fun _ _ _ h => h) (Or.inl ⟨by rfl, ?_⟩) ?_ ?_
 rotate_left
 ·intro w'
  go_simp
  with_reducible rfl
 rotate_left
 ·simp only [Act.put, Kx.sb, Kx.sz, Kx.ss, i64_w, i32_w]
  rfl
 refine pure_ (i := 4) (N := some 31) (v := ?_) (a' := ?_) #[true, false, true, false, true, false, false, false, false, false, false, false] rfl rfl (by kernel_rfl) (fun _ _ _ h => h) (Or.inl ⟨by rfl, ?_⟩) ?_ ?_
 rotate_left
 ·intro w'
  go_simp
  with_reducible rfl
 rotate_left
 ·simp only [Act.put, Kx.sb, Kx.sz, Kx.ss, i64_w, i32_w]
  rfl
 refine take_ (i := 1) (N := some 28) (v := ?_) (a' := ?_) #[true, true, true, false, true, false, false, false, false, false, false, false] rfl rfl (by kernel_rfl) (fun _ _ _ h => h) (Or.inl ⟨by rfl, ?_⟩) hHeld ?_ ?_
 rotate_left
 ·rintro w' ⟨s0, s1, s2⟩
  go_simp
  with_reducible rfl
 rotate_left
 ·simp only [Act.put, Kx.sb, Kx.sz, Kx.ss, i64_w, i32_w]
  rfl
 refine pure_ (i := 6) (N := some 33) (v := ?_) (a' := ?_) #[true, true, true, false, true, false, true, false, false, false, false, false] rfl rfl (by kernel_rfl) (fun _ _ _ h => h) (Or.inl ⟨by rfl, ?_⟩) ?_ ?_
 rotate_left
 ·intro w'
  go_simp
  with_reducible rfl
 rotate_left
 ·simp only [Act.put, Kx.sb, Kx.sz, Kx.ss, i64_w, i32_w]
  rfl
 refine take_ (i := 3) (N := some 30) (v := ?_) (a' := ?_) #[true, true, true, true, true, false, true, false, false, false, false, false] rfl rfl (by kernel_rfl) (fun _ _ _ h => h) (Or.inl ⟨by rfl, ?_⟩) hHeld ?_ ?_
 rotate_left
 ·rintro w' ⟨s0, s1, s2⟩
  go_simp
  with_reducible rfl
 rotate_left
 ·simp only [Act.put, Kx.sb, Kx.sz, Kx.ss, i64_w, i32_w]
  rfl
 refine take_ (i := 5) (N := some 32) (v := ?_) (a' := ?_) #[true, true, true, true, true, true, true, false, false, false, false, false] rfl rfl (by kernel_rfl) (fun _ _ _ h => h) (Or.inl ⟨by rfl, ?_⟩) hHeld ?_ ?_
 rotate_left
 ·rintro w' ⟨s0, s1, s2⟩
  go_simp
  with_reducible rfl
 rotate_left
 ·simp only [Act.put, Kx.sb, Kx.sz, Kx.ss, i64_w, i32_w]
  rfl
 refine one_ (i := 7) (N := none) #[true, true, true, true, true, true, true, true, false, false, false, false] rfl rfl (by kernel_rfl) (by decide) (fun K hK => ?_)
 refine skip_ (w1 := ?_) (by rfl) rfl ?_ ?_
 rotate_left
 ·go_simp
  rfl
 have n0 := Aside0.mk (blk_far BK0.out (p := ⟨g1, 1, none⟩) N01.out (.int .i64 a))
 have n1 := Aside0.mk (blk_put BK1.out 1 (.int .i64 a) rfl)
 have n2 := Aside0.mk (blk_far BK2.out (p := ⟨g1, 1, none⟩) (Ne.symm N12.out) (.int .i64 a))
 have nb := Aside0.mk (show Below w.heap.size w (w4.setCell ⟨g1, 1, none⟩ (.int .i64 a)) from below_set HB.out G1.out)
 generalize w4.setCell ⟨g1, 1, none⟩ (.int .i64 a) = w5 at n0 n1 n2 nb ⊢
 clear BK0 BK1 BK2 HB hcz hfz
 have BK0 := n0
 have BK1 : Aside0 (w5.heap[g1]? = some (.cells #[.int .i64 k, .int .i64 a, .int .i64 0, .slice none 0 0, .int .i64 0, .int .i64 0, .int .i64 0] 38 (0, 0))) := ⟨n1.out⟩
 have BK2 := n2
 have HB := nb
 clear n0 n1 n2 nb
 have hcz : w5.cell? ⟨g1, 2, none⟩ = some (.int .i64 0) := (blk_cell BK1.out 2).trans rfl
 have hfz := blk_frozen BK1.out 2
 refine hK.out _ _ ⟨((blk_cell BK2.out 1).trans rfl), ((blk_cell BK2.out 2).trans rfl), ((blk_cell BK2.out 3).trans rfl)⟩ (fun hHeld => ?_)
 clear hK K
 refine pure_ (i := 8) (N := some 34) (v := ?_) (a' := ?_) #[true, true, true, true, true, true, true, true, true, false, false, false] rfl rfl (by kernel_rfl) (fun _ _ _ h => h) (Or.inl ⟨by rfl, ?_⟩) ?_ ?_
 rotate_left
 ·intro w'
  go_simp
  with_reducible rfl
 rotate_left
 ·simp only [Act.put, Kx.sb, Kx.sz, Kx.ss, i64_w, i32_w]
  rfl
 refine one_ (i := 9) (N := none) #[true, true, true, true, true, true, true, true, true, true, false, false] rfl rfl (by kernel_rfl) (by decide) (fun K hK => ?_)
 refine skip_ (w1 := ?_) (by rfl) rfl ?_ ?_
 rotate_left
 ·go_simp
  rfl
 have n0 := Aside0.mk (blk_far BK0.out (p := ⟨g1, 2, none⟩) N01.out (.int .i64 n))
 have n1 := Aside0.mk (blk_put BK1.out 2 (.int .i64 n) rfl)
 have n2 := Aside0.mk (blk_far BK2.out (p := ⟨g1, 2, none⟩) (Ne.symm N12.out) (.int .i64 n))
 have nb := Aside0.mk (show Below w.heap.size w (w5.setCell ⟨g1, 2, none⟩ (.int .i64 n)) from below_set HB.out G1.out)
 generalize w5.setCell ⟨g1, 2, none⟩ (.int .i64 n) = w6 at n0 n1 n2 nb ⊢
 clear BK0 BK1 BK2 HB hcz hfz
 have BK0 := n0
 have BK1 : Aside0 (w6.heap[g1]? = some (.cells #[.int .i64 k, .int .i64 a, .int .i64 n, .slice none 0 0, .int .i64 0, .int .i64 0, .int .i64 0] 38 (0, 0))) := ⟨n1.out⟩
 have BK2 := n2
 have HB := nb
 clear n0 n1 n2 nb
 have hcz : w6.cell? ⟨g1, 3, none⟩ = some (.slice none 0 0) := (blk_cell BK1.out 3).trans rfl
 have hfz := blk_frozen BK1.out 3
 refine hK.out _ _ ⟨((blk_cell BK2.out 1).trans rfl), ((blk_cell BK2.out 2).trans rfl), ((blk_cell BK2.out 3).trans rfl)⟩ (fun hHeld => ?_)
 clear hK K
 refine pure_ (i := 10) (N := some 35) (v := ?_) (a' := ?_) #[true, true, true, true, true, true, true, true, true, true, true, false] rfl rfl (by kernel_rfl) (fun _ _ _ h => h) (Or.inl ⟨by rfl, ?_⟩) ?_ ?_
 rotate_left
 ·intro w'
  go_simp
  with_reducible rfl
 rotate_left
 ·simp only [Act.put, Kx.sb, Kx.sz, Kx.ss, i64_w, i32_w]
  rfl
 refine one_ (i := 11) (N := none) #[true, true, true, true, true, true, true, true, true, true, true, true] rfl rfl (by kernel_rfl) (by decide) (fun K hK => ?_)
 refine skip_ (w1 := ?_) (by rfl) rfl ?_ ?_
 rotate_left
 ·go_simp
  rfl
 have n0 := Aside0.mk (blk_far BK0.out (p := ⟨g1, 3, none⟩) N01.out (.slice A3 m c3))
 have n1 := Aside0.mk (blk_put BK1.out 3 (.slice A3 m c3) rfl)
 have n2 := Aside0.mk (blk_far BK2.out (p := ⟨g1, 3, none⟩) (Ne.symm N12.out) (.slice A3 m c3))
 have nb := Aside0.mk (show Below w.heap.size w (w6.setCell ⟨g1, 3, none⟩ (.slice A3 m c3)) from below_set HB.out G1.out)
 generalize w6.setCell ⟨g1, 3, none⟩ (.slice A3 m c3) = w7 at n0 n1 n2 nb ⊢
 clear BK0 BK1 BK2 HB hcz hfz
 have BK0 := n0
 have BK1 : Aside0 (w7.heap[g1]? = some (.cells #[.int .i64 k, .int .i64 a, .int .i64 n, .slice A3 m c3, .int .i64 0, .int .i64 0, .int .i64 0] 38 (0, 0))) := ⟨n1.out⟩
 have BK2 := n2
 have HB := nb
 clear n0 n1 n2 nb
 refine hK.out _ _ ⟨((blk_cell BK2.out 1).trans rfl), ((blk_cell BK2.out 2).trans rfl), ((blk_cell BK2.out 3).trans rfl)⟩ (fun hHeld => ?_)
 clear hK K
 refine done_ (by kernel_rfl) ?_
 clear hHeld
 have hcz0 : w7.cell? ⟨g1, 0, none⟩ = some (.int .i64 k) := (blk_cell BK1.out 0).trans rfl
 have hcz1 : w7.cell? ⟨g1, 1, none⟩ = some (.int .i64 a) := (blk_cell BK1.out 1).trans rfl
 have hcz2 : w7.cell? ⟨g1, 2, none⟩ = some (.int .i64 n) := (blk_cell BK1.out 2).trans rfl
 have hcz3 : w7.cell? ⟨g1, 3, none⟩ = some (.slice A3 m c3) := (blk_cell BK1.out 3).trans rfl
 have hcz4 : w7.cell? ⟨g1, 4, none⟩ = some (.int .i64 0) := (blk_cell BK1.out 4).trans rfl
 have hcz5 : w7.cell? ⟨g1, 5, none⟩ = some (.int .i64 0) := (blk_cell BK1.out 5).trans rfl
 have hcz6 : w7.cell? ⟨g1, 6, none⟩ = some (.int .i64 0) := (blk_cell BK1.out 6).trans rfl
 have hcy0 : w7.cell? ⟨g0, 0, none⟩ = some (.int .i64 0) := (blk_cell BK0.out 0).trans rfl
 have hfy0 := blk_frozen BK0.out 0
 have hcy1 : w7.cell? ⟨g0, 1, none⟩ = some (.int .i64 0) := (blk_cell BK0.out 1).trans rfl
 have hfy1 := blk_frozen BK0.out 1
 have hcy2 : w7.cell? ⟨g0, 2, none⟩ = some (.int .i64 0) := (blk_cell BK0.out 2).trans rfl
 have hfy2 := blk_frozen BK0.out 2
 have hcy3 : w7.cell? ⟨g0, 3, none⟩ = some (.slice none 0 0) := (blk_cell BK0.out 3).trans rfl
 have hfy3 := blk_frozen BK0.out 3
 have hcy4 : w7.cell? ⟨g0, 4, none⟩ = some (.int .i64 0) := (blk_cell BK0.out 4).trans rfl
 have hfy4 := blk_frozen BK0.out 4
 have hcy5 : w7.cell? ⟨g0, 5, none⟩ = some (.int .i64 0) := (blk_cell BK0.out 5).trans rfl
 have hfy5 := blk_frozen BK0.out 5
 have hcy6 : w7.cell? ⟨g0, 6, none⟩ = some (.int .i64 0) := (blk_cell BK0.out 6).trans rfl
 have hfy6 := blk_frozen BK0.out 6
 go_wp2
 refine bodyPost_ret (results_cell_row rfl _ _ g0 38 #[.int .i64 k, .int .i64 a, .int .i64 n, .slice A3 m c3, .int .i64 0, .int .i64 0, .int .i64 0] (0, 0) _ rfl (by refine blk_put (cs := #[.int .i64 k, .int .i64 a, .int .i64 n, .slice A3 m c3, .int .i64 0, .int .i64 0, .int .i64 0]) ?_ 6 _ rfl; refine blk_put (cs := #[.int .i64 k, .int .i64 a, .int .i64 n, .slice A3 m c3, .int .i64 0, .int .i64 0, .int .i64 0]) ?_ 5 _ rfl; refine blk_put (cs := #[.int .i64 k, .int .i64 a, .int .i64 n, .slice A3 m c3, .int .i64 0, .int .i64 0, .int .i64 0]) ?_ 4 _ rfl; refine blk_put (cs := #[.int .i64 k, .int .i64 a, .int .i64 n, .slice none 0 0, .int .i64 0, .int .i64 0, .int .i64 0]) ?_ 3 _ rfl; refine blk_put (cs := #[.int .i64 k, .int .i64 a, .int .i64 0, .slice none 0 0, .int .i64 0, .int .i64 0, .int .i64 0]) ?_ 2 _ rfl; refine blk_put (cs := #[.int .i64 k, .int .i64 0, .int .i64 0, .slice none 0 0, .int .i64 0, .int .i64 0, .int .i64 0]) ?_ 1 _ rfl; refine blk_put (cs := #[.int .i64 0, .int .i64 0, .int .i64 0, .slice none 0 0, .int .i64 0, .int .i64 0, .int .i64 0]) ?_ 0 _ rfl; exact BK0.out) Try.underlying38 rfl (by kernel_rfl)) rfl ?_
 exact ⟨rfl, below_set (below_set (below_set (below_set (below_set (below_set (below_set (HB.out) G0.out) G0.out) G0.out) G0.out) G0.out) G0.out) G0.out⟩
set_option maxRecDepth 100000 in
set_option maxHeartbeats 2000000 in
theorem frame_framed.end (k : Int) (A B : Int) (w : World) : Calls Try.prog 47 #[.int .i64 k, .iface 97 (.agg #[.int .i64 A, .int .i64 B])] w fun e w' => e = .returned (.agg #[.int .i64 k, .int .i64 0, .int .i64 0, .slice none 0 0, .int .i64 A, .int .i64 B, .int .i64 0]) ∧ Below w.heap.size w w' := by
 have hu0 := Try.underlying38
 have hu1 := Try.underlying97
 have ta_end_head_ := ta_end_head
 have ta_end_blocks_ := ta_end_blocks
 have ta_end_end_ := ta_end_end
 go_enter Try.func47, Try.ntmps47
 go_wp2_with fail
 obtain ⟨w3, hw3⟩ : ∃ x, x = ((w.alloc (.cells #[.int .i64 0, .int .i64 0, .int .i64 0, .slice none 0 0, .int .i64 0, .int .i64 0, .int .i64 0] 38)).alloc (.cells #[.int .i64 k, .int .i64 0, .int .i64 0, .slice none 0 0, .int .i64 0, .int .i64 0, .int .i64 0] 38)).alloc (.cells #[.int .i64 A, .int .i64 B] 97) := ⟨_, rfl⟩
 have BK0 : Aside0 (w3.heap[w.heap.size]? = some (.cells #[.int .i64 0, .int .i64 0, .int .i64 0, .slice none 0 0, .int .i64 0, .int .i64 0, .int .i64 0] 38 (0, 0))) := ⟨by rw [hw3]; exact blk_alloc (blk_alloc (heap_alloc_new w _) _) _⟩
 have BK1 : Aside0 (w3.heap[w.heap.size + 1]? = some (.cells #[.int .i64 k, .int .i64 0, .int .i64 0, .slice none 0 0, .int .i64 0, .int .i64 0, .int .i64 0] 38 (0, 0))) := ⟨by rw [hw3]; exact blk_alloc (by have := heap_alloc_new (w.alloc (.cells #[.int .i64 0, .int .i64 0, .int .i64 0, .slice none 0 0, .int .i64 0, .int .i64 0, .int .i64 0] 38)) (.cells #[.int .i64 k, .int .i64 0, .int .i64 0, .slice none 0 0, .int .i64 0, .int .i64 0, .int .i64 0] 38); rwa [show (w.alloc (.cells #[.int .i64 0, .int .i64 0, .int .i64 0, .slice none 0 0, .int .i64 0, .int .i64 0, .int .i64 0] 38)).heap.size = w.heap.size + 1 by simp only [World.alloc, Array.size_push]] at this) _⟩
 have BK2 : Aside0 (w3.heap[w.heap.size + 1 + 1]? = some (.cells #[.int .i64 A, .int .i64 B] 97 (0, 0))) := ⟨by rw [hw3]; have := heap_alloc_new ((w.alloc (.cells #[.int .i64 0, .int .i64 0, .int .i64 0, .slice none 0 0, .int .i64 0, .int .i64 0, .int .i64 0] 38)).alloc (.cells #[.int .i64 k, .int .i64 0, .int .i64 0, .slice none 0 0, .int .i64 0, .int .i64 0, .int .i64 0] 38)) (.cells #[.int .i64 A, .int .i64 B] 97); rwa [show ((w.alloc (.cells #[.int .i64 0, .int .i64 0, .int .i64 0, .slice none 0 0, .int .i64 0, .int .i64 0, .int .i64 0] 38)).alloc (.cells #[.int .i64 k, .int .i64 0, .int .i64 0, .slice none 0 0, .int .i64 0, .int .i64 0, .int .i64 0] 38)).heap.size = w.heap.size + 1 + 1 by simp only [World.alloc, Array.size_push]] at this⟩
 have HB : Aside0 (Below w.heap.size w w3) := ⟨by rw [hw3]; exact below_alloc (below_alloc (below_alloc (Below.refl _ _) _) _) _⟩
 rw [← hw3]
 clear hw3
 obtain ⟨g0, hg0⟩ : ∃ g, g = w.heap.size := ⟨_, rfl⟩
 obtain ⟨g1, hg1⟩ : ∃ g, g = w.heap.size + 1 := ⟨_, rfl⟩
 obtain ⟨g2, hg2⟩ : ∃ g, g = w.heap.size + 1 + 1 := ⟨_, rfl⟩
 rw [← hg2] at BK2
 rw [← hg1] at BK1
 rw [← hg0] at BK0
 rw [← hg2, ← hg1, ← hg0]
 have G0 := Aside0.mk (show w.heap.size ≤ g0 by omega)
 have G1 := Aside0.mk (show w.heap.size ≤ g1 by omega)
 have N12 := Aside0.mk (show g1 ≠ g2 by omega)
 have N01 := Aside0.mk (show g0 ≠ g1 by omega)
 clear hg0 hg1 hg2
 have n0 := Aside0.mk (blk_drew BK0.out)
 have n1 := Aside0.mk (blk_drew BK1.out)
 have n2 := Aside0.mk (blk_drew BK2.out)
 have nb := Aside0.mk (below_drew HB.out)
 clear BK0 BK1 BK2 HB
 have BK0 := n0
 have BK1 := n1
 have BK2 := n2
 have HB := nb
 clear n0 n1 n2 nb
 have hcz : w3.drew.cell? ⟨g1, 4, none⟩ = some (.int .i64 0) := (blk_cell BK1.out 4).trans rfl
 have hfz := blk_frozen BK1.out 4
 refine start_ (n := 8) (S := fun w' => w'.cell? ⟨g2, 0, none⟩ = some (.int .i64 A) ∧ w'.cell? ⟨g2, 1, none⟩ = some (.int .i64 B)) (ds := []) #[false, false, false, false, false, false, false, false] (by kernel_rfl) rfl rfl ⟨((blk_cell BK2.out 0).trans rfl), ((blk_cell BK2.out 1).trans rfl)⟩ (fun hHeld => ?_)
 generalize w3.drew = w4 at BK0 BK1 BK2 HB hcz hfz hHeld ⊢
 refine pure_ (i := 0) (N := some 39) (v := ?_) (a' := ?_) #[true, false, false, false, false, false, false, false] rfl rfl (by kernel_rfl) (fun _ _ _ h => h) (Or.inl ⟨by rfl, ?_⟩) ?_ ?_
 rotate_left
 ·intro w'
  go_simp
  with_reducible rfl
 rotate_left
 ·simp only [Act.put, Kx.sb, Kx.sz, Kx.ss, i64_w, i32_w]
  rfl
 refine pure_ (i := 2) (N := some 41) (v := ?_) (a' := ?_) #[true, false, true, false, false, false, false, false] rfl rfl (by kernel_rfl) (fun _ _ _ h => h) (Or.inl ⟨by rfl, ?_⟩) ?_ ?_
 rotate_left
 ·intro w'
  go_simp
  with_reducible rfl
 rotate_left
 ·simp only [Act.put, Kx.sb, Kx.sz, Kx.ss, i64_w, i32_w]
  rfl
 refine take_ (i := 1) (N := some 40) (v := ?_) (a' := ?_) #[true, true, true, false, false, false, false, false] rfl rfl (by kernel_rfl) (fun _ _ _ h => h) (Or.inl ⟨by rfl, ?_⟩) hHeld ?_ ?_
 rotate_left
 ·rintro w' ⟨s0, s1⟩
  go_simp
  with_reducible rfl
 rotate_left
 ·simp only [Act.put, Kx.sb, Kx.sz, Kx.ss, i64_w, i32_w]
  rfl
 refine pure_ (i := 4) (N := some 43) (v := ?_) (a' := ?_) #[true, true, true, false, true, false, false, false] rfl rfl (by kernel_rfl) (fun _ _ _ h => h) (Or.inl ⟨by rfl, ?_⟩) ?_ ?_
 rotate_left
 ·intro w'
  go_simp
  with_reducible rfl
 rotate_left
 ·simp only [Act.put, Kx.sb, Kx.sz, Kx.ss, i64_w, i32_w]
  rfl
 refine take_ (i := 3) (N := some 42) (v := ?_) (a' := ?_) #[true, true, true, true, true, false, false, false] rfl rfl (by kernel_rfl) (fun _ _ _ h => h) (Or.inl ⟨by rfl, ?_⟩) hHeld ?_ ?_
 rotate_left
 ·rintro w' ⟨s0, s1⟩
  go_simp
  with_reducible rfl
 rotate_left
 ·simp only [Act.put, Kx.sb, Kx.sz, Kx.ss, i64_w, i32_w]
  rfl
 refine one_ (i := 5) (N := none) #[true, true, true, true, true, true, false, false] rfl rfl (by kernel_rfl) (by decide) (fun K hK => ?_)
 refine skip_ (w1 := ?_) (by rfl) rfl ?_ ?_
 rotate_left
 ·go_simp
  rfl
 have n0 := Aside0.mk (blk_far BK0.out (p := ⟨g1, 4, none⟩) N01.out (.int .i64 A))
 have n1 := Aside0.mk (blk_put BK1.out 4 (.int .i64 A) rfl)
 have n2 := Aside0.mk (blk_far BK2.out (p := ⟨g1, 4, none⟩) (Ne.symm N12.out) (.int .i64 A))
 have nb := Aside0.mk (show Below w.heap.size w (w4.setCell ⟨g1, 4, none⟩ (.int .i64 A)) from below_set HB.out G1.out)
 generalize w4.setCell ⟨g1, 4, none⟩ (.int .i64 A) = w5 at n0 n1 n2 nb ⊢
 clear BK0 BK1 BK2 HB hcz hfz
 have BK0 := n0
 have BK1 : Aside0 (w5.heap[g1]? = some (.cells #[.int .i64 k, .int .i64 0, .int .i64 0, .slice none 0 0, .int .i64 A, .int .i64 0, .int .i64 0] 38 (0, 0))) := ⟨n1.out⟩
 have BK2 := n2
 have HB := nb
 clear n0 n1 n2 nb
 have hcz : w5.cell? ⟨g1, 5, none⟩ = some (.int .i64 0) := (blk_cell BK1.out 5).trans rfl
 have hfz := blk_frozen BK1.out 5
 refine hK.out _ _ ⟨((blk_cell BK2.out 0).trans rfl), ((blk_cell BK2.out 1).trans rfl)⟩ (fun hHeld => ?_)
 clear hK K
 refine pure_ (i := 6) (N := some 44) (v := ?_) (a' := ?_) #[true, true, true, true, true, true, true, false] rfl rfl (by kernel_rfl) (fun _ _ _ h => h) (Or.inl ⟨by rfl, ?_⟩) ?_ ?_
 rotate_left
 ·intro w'
  go_simp
  with_reducible rfl
 rotate_left
 ·simp only [Act.put, Kx.sb, Kx.sz, Kx.ss, i64_w, i32_w]
  rfl
 refine one_ (i := 7) (N := none) #[true, true, true, true, true, true, true, true] rfl rfl (by kernel_rfl) (by decide) (fun K hK => ?_)
 refine skip_ (w1 := ?_) (by rfl) rfl ?_ ?_
 rotate_left
 ·go_simp
  rfl
 have n0 := Aside0.mk (blk_far BK0.out (p := ⟨g1, 5, none⟩) N01.out (.int .i64 B))
 have n1 := Aside0.mk (blk_put BK1.out 5 (.int .i64 B) rfl)
 have n2 := Aside0.mk (blk_far BK2.out (p := ⟨g1, 5, none⟩) (Ne.symm N12.out) (.int .i64 B))
 have nb := Aside0.mk (show Below w.heap.size w (w5.setCell ⟨g1, 5, none⟩ (.int .i64 B)) from below_set HB.out G1.out)
 generalize w5.setCell ⟨g1, 5, none⟩ (.int .i64 B) = w6 at n0 n1 n2 nb ⊢
 clear BK0 BK1 BK2 HB hcz hfz
 have BK0 := n0
 have BK1 : Aside0 (w6.heap[g1]? = some (.cells #[.int .i64 k, .int .i64 0, .int .i64 0, .slice none 0 0, .int .i64 A, .int .i64 B, .int .i64 0] 38 (0, 0))) := ⟨n1.out⟩
 have BK2 := n2
 have HB := nb
 clear n0 n1 n2 nb
 refine hK.out _ _ ⟨((blk_cell BK2.out 0).trans rfl), ((blk_cell BK2.out 1).trans rfl)⟩ (fun hHeld => ?_)
 clear hK K
 refine done_ (by kernel_rfl) ?_
 clear hHeld
 have hcz0 : w6.cell? ⟨g1, 0, none⟩ = some (.int .i64 k) := (blk_cell BK1.out 0).trans rfl
 have hcz1 : w6.cell? ⟨g1, 1, none⟩ = some (.int .i64 0) := (blk_cell BK1.out 1).trans rfl
 have hcz2 : w6.cell? ⟨g1, 2, none⟩ = some (.int .i64 0) := (blk_cell BK1.out 2).trans rfl
 have hcz3 : w6.cell? ⟨g1, 3, none⟩ = some (.slice none 0 0) := (blk_cell BK1.out 3).trans rfl
 have hcz4 : w6.cell? ⟨g1, 4, none⟩ = some (.int .i64 A) := (blk_cell BK1.out 4).trans rfl
 have hcz5 : w6.cell? ⟨g1, 5, none⟩ = some (.int .i64 B) := (blk_cell BK1.out 5).trans rfl
 have hcz6 : w6.cell? ⟨g1, 6, none⟩ = some (.int .i64 0) := (blk_cell BK1.out 6).trans rfl
 have hcy0 : w6.cell? ⟨g0, 0, none⟩ = some (.int .i64 0) := (blk_cell BK0.out 0).trans rfl
 have hfy0 := blk_frozen BK0.out 0
 have hcy1 : w6.cell? ⟨g0, 1, none⟩ = some (.int .i64 0) := (blk_cell BK0.out 1).trans rfl
 have hfy1 := blk_frozen BK0.out 1
 have hcy2 : w6.cell? ⟨g0, 2, none⟩ = some (.int .i64 0) := (blk_cell BK0.out 2).trans rfl
 have hfy2 := blk_frozen BK0.out 2
 have hcy3 : w6.cell? ⟨g0, 3, none⟩ = some (.slice none 0 0) := (blk_cell BK0.out 3).trans rfl
 have hfy3 := blk_frozen BK0.out 3
 have hcy4 : w6.cell? ⟨g0, 4, none⟩ = some (.int .i64 0) := (blk_cell BK0.out 4).trans rfl
 have hfy4 := blk_frozen BK0.out 4
 have hcy5 : w6.cell? ⟨g0, 5, none⟩ = some (.int .i64 0) := (blk_cell BK0.out 5).trans rfl
 have hfy5 := blk_frozen BK0.out 5
 have hcy6 : w6.cell? ⟨g0, 6, none⟩ = some (.int .i64 0) := (blk_cell BK0.out 6).trans rfl
 have hfy6 := blk_frozen BK0.out 6
 go_wp2
 refine bodyPost_ret (results_cell_row rfl _ _ g0 38 #[.int .i64 k, .int .i64 0, .int .i64 0, .slice none 0 0, .int .i64 A, .int .i64 B, .int .i64 0] (0, 0) _ rfl (by refine blk_put (cs := #[.int .i64 k, .int .i64 0, .int .i64 0, .slice none 0 0, .int .i64 A, .int .i64 B, .int .i64 0]) ?_ 6 _ rfl; refine blk_put (cs := #[.int .i64 k, .int .i64 0, .int .i64 0, .slice none 0 0, .int .i64 A, .int .i64 0, .int .i64 0]) ?_ 5 _ rfl; refine blk_put (cs := #[.int .i64 k, .int .i64 0, .int .i64 0, .slice none 0 0, .int .i64 0, .int .i64 0, .int .i64 0]) ?_ 4 _ rfl; refine blk_put (cs := #[.int .i64 k, .int .i64 0, .int .i64 0, .slice none 0 0, .int .i64 0, .int .i64 0, .int .i64 0]) ?_ 3 _ rfl; refine blk_put (cs := #[.int .i64 k, .int .i64 0, .int .i64 0, .slice none 0 0, .int .i64 0, .int .i64 0, .int .i64 0]) ?_ 2 _ rfl; refine blk_put (cs := #[.int .i64 k, .int .i64 0, .int .i64 0, .slice none 0 0, .int .i64 0, .int .i64 0, .int .i64 0]) ?_ 1 _ rfl; refine blk_put (cs := #[.int .i64 0, .int .i64 0, .int .i64 0, .slice none 0 0, .int .i64 0, .int .i64 0, .int .i64 0]) ?_ 0 _ rfl; exact BK0.out) Try.underlying38 rfl (by kernel_rfl)) rfl ?_
 exact ⟨rfl, below_set (below_set (below_set (below_set (below_set (below_set (below_set (HB.out) G0.out) G0.out) G0.out) G0.out) G0.out) G0.out) G0.out⟩
def bytes_Equal_p.f (l0 : List Int) (l1 : List Int) : Option (Bool) := some ((strOfNums l0).toList == (strOfNums l1).toList)
set_option maxHeartbeats 8000000 in
set_option maxRecDepth 100000 in
theorem bytes_Equal_p.calls (A0 : Option Addr) (c0 : Nat) (l0 : List Int) (A1 : Option Addr) (c1 : Nat) (l1 : List Int) (r : Bool) (w : World) (hr0 : Kd.C (Kd.int .u8) w A0 l0.length l0) (hc0 : l0.length ≤ c0) (hr1 : Kd.C (Kd.int .u8) w A1 l1.length l1) (hc1 : l1.length ≤ c1) (h : bytes_Equal_p.f l0 l1 = some r) :
  Calls Try.prog 71 #[.slice A0 l0.length c0, .slice A1 l1.length c1] w fun e w' => e = .returned (.bool r) ∧ Drawn0 w w' := by
 have HR0 := Aside0.mk hr0
 have HC0 := Aside0.mk hc0
 clear hr0 hc0
 have HR1 := Aside0.mk hr1
 have HC1 := Aside0.mk hc1
 clear hr1 hc1
 have H : (some ((strOfNums l0).toList == (strOfNums l1).toList)) = some r := h
 clear h
 obtain rfl := Option.some.inj H
 have hcv3 := Kd.C_string (P := Try.prog) (A := A0) (c := c0) Try.underlying27 Try.underlying5 Try.underlying9 HR0.out
 (try have hcvd4 := fun (n_ : Nat) => Kd.C_string (P := Try.prog) (A := A0) (c := c0) Try.underlying27 Try.underlying5 Try.underlying9 (Kd.C_drewN HR0.out n_))
 have hcv5 := Kd.C_string (P := Try.prog) (A := A1) (c := c1) Try.underlying27 Try.underlying5 Try.underlying9 HR1.out
 (try have hcvd6 := fun (n_ : Nat) => Kd.C_string (P := Try.prog) (A := A1) (c := c1) Try.underlying27 Try.underlying5 Try.underlying9 (Kd.C_drewN HR1.out n_))
 go_enter Try.func71, Try.ntmps71
 go_wp2
 go_ret
 exact ⟨by first | rfl | (simp; done) | (simp [*]; done), by repeat (first | exact Drawn0.refl _ | apply Drawn0.step)⟩
def bytes_Equal.f (l0 : List Int) (l1 : List Int) : Option (Bool) := if Pl.byteB l0 = true ∧ Pl.byteB l1 = true then some (l0 == l1) else none
theorem bytes_Equal.calls (A0 : Option Addr) (c0 : Nat) (l0 : List Int) (A1 : Option Addr) (c1 : Nat) (l1 : List Int) (r : Bool) (w : World) (hr0 : Kd.C (Kd.int .u8) w A0 l0.length l0) (hc0 : l0.length ≤ c0) (hr1 : Kd.C (Kd.int .u8) w A1 l1.length l1) (hc1 : l1.length ≤ c1) (h : bytes_Equal.f l0 l1 = some r) :
  Calls Try.prog 71 #[.slice A0 l0.length c0, .slice A1 l1.length c1] w fun e w' => e = .returned (.bool r) ∧ Drawn0 w w' := by
 refine bytes_Equal_p.calls A0 c0 l0 A1 c1 l1 r w hr0 hc0 hr1 hc1 ?_
 unfold bytes_Equal.f at h
 split at h
 case isFalse => cases h
 rename_i hh
 unfold bytes_Equal_p.f
 rw [Pl.str_eq hh.1 hh.2]
 exact h
def frame_same_p.f (a0_0 : Int) (a0_1 : Int) (a0_2 : Int) (l0_3 : List Int) (a0_4 : Int) (a0_5 : Int) (a0_6 : Int) (a1_0 : Int) (a1_1 : Int) (a1_2 : Int) (l1_3 : List Int) (a1_4 : Int) (a1_5 : Int) (a1_6 : Int) : Option (Bool) := if a0_0 = a1_0 then (if a0_1 = a1_1 then (if a0_2 = a1_2 then ((bytes_Equal.f l0_3 l1_3).bind fun t159 => (if t159 = true then (if a0_4 = a1_4 then (if a0_5 = a1_5 then (some (a0_6 == a1_6)) else (some false)) else (some false)) else (some false))) else (some false)) else (some false)) else (some false)
set_option maxHeartbeats 8000000 in
set_option maxRecDepth 100000 in
theorem frame_same_p.calls (a0_0 : Int) (a0_1 : Int) (a0_2 : Int) (A0_3 : Option Addr) (c0_3 : Nat) (l0_3 : List Int) (a0_4 : Int) (a0_5 : Int) (a0_6 : Int) (a1_0 : Int) (a1_1 : Int) (a1_2 : Int) (A1_3 : Option Addr) (c1_3 : Nat) (l1_3 : List Int) (a1_4 : Int) (a1_5 : Int) (a1_6 : Int) (r : Bool) (w : World) (hr0_3 : Kd.C (Kd.int .u8) w A0_3 l0_3.length l0_3) (hc0_3 : l0_3.length ≤ c0_3) (hr1_3 : Kd.C (Kd.int .u8) w A1_3 l1_3.length l1_3) (hc1_3 : l1_3.length ≤ c1_3) (h : frame_same_p.f a0_0 a0_1 a0_2 l0_3 a0_4 a0_5 a0_6 a1_0 a1_1 a1_2 l1_3 a1_4 a1_5 a1_6 = some r) :
  Calls Try.prog 49 #[.agg #[.int .i64 a0_0, .int .i64 a0_1, .int .i64 a0_2, .slice A0_3 l0_3.length c0_3, .int .i64 a0_4, .int .i64 a0_5, .int .i64 a0_6], .agg #[.int .i64 a1_0, .int .i64 a1_1, .int .i64 a1_2, .slice A1_3 l1_3.length c1_3, .int .i64 a1_4, .int .i64 a1_5, .int .i64 a1_6]] w fun e w' => e = .returned (.bool r) ∧ Below w.heap.size w w' := by
 have hu38 := Try.underlying38
 have HR0_3 := Aside0.mk hr0_3
 have HC0_3 := Aside0.mk hc0_3
 clear hr0_3 hc0_3
 have HR1_3 := Aside0.mk hr1_3
 have HC1_3 := Aside0.mk hc1_3
 clear hr1_3 hc1_3
 have HB := Aside0.mk (Below.refl w.heap.size w)
 have H : (if a0_0 = a1_0 then (if a0_1 = a1_1 then (if a0_2 = a1_2 then ((bytes_Equal.f l0_3 l1_3).bind fun t159 => (if t159 = true then (if a0_4 = a1_4 then (if a0_5 = a1_5 then (some (a0_6 == a1_6)) else (some false)) else (some false)) else (some false))) else (some false)) else (some false)) else (some false)) = some r := h
 clear h
 by_cases c3 : a0_0 = a1_0
 ·rw [if_pos c3] at H
  have c3b0 : (a0_0 == a1_0) = true := beq_iff_eq.mpr c3
  have c3b1 : (a0_0 != a1_0) = false := bne_eq_false_iff_eq.mpr c3
  clear c3
  by_cases c4 : a0_1 = a1_1
  ·rw [if_pos c4] at H
   have c4b0 : (a0_1 == a1_1) = true := beq_iff_eq.mpr c4
   have c4b1 : (a0_1 != a1_1) = false := bne_eq_false_iff_eq.mpr c4
   clear c4
   by_cases c5 : a0_2 = a1_2
   ·rw [if_pos c5] at H
    have c5b0 : (a0_2 == a1_2) = true := beq_iff_eq.mpr c5
    have c5b1 : (a0_2 != a1_2) = false := bne_eq_false_iff_eq.mpr c5
    clear c5
    replace H := Option.bind_eq_some_iff.mp H
    obtain ⟨t159, A60, H⟩ := H
    replace H : (if t159 = true then (if a0_4 = a1_4 then (if a0_5 = a1_5 then (some (a0_6 == a1_6)) else (some false)) else (some false)) else (some false)) = some r := H
    have A6 := Aside0.mk A60
    clear A60
    by_cases c7 : t159 = true
    ·subst c7
     have H1 : (if a0_4 = a1_4 then (if a0_5 = a1_5 then (some (a0_6 == a1_6)) else (some false)) else (some false)) = some r := by rw [if_pos rfl] at H <;> exact H
     clear H
     have H := H1
     clear H1
     by_cases c8 : a0_4 = a1_4
     ·rw [if_pos c8] at H
      have c8b0 : (a0_4 == a1_4) = true := beq_iff_eq.mpr c8
      have c8b1 : (a0_4 != a1_4) = false := bne_eq_false_iff_eq.mpr c8
      clear c8
      by_cases c9 : a0_5 = a1_5
      ·rw [if_pos c9] at H
       have c9b0 : (a0_5 == a1_5) = true := beq_iff_eq.mpr c9
       have c9b1 : (a0_5 != a1_5) = false := bne_eq_false_iff_eq.mpr c9
       clear c9
       obtain rfl := Option.some.inj H
       go_enter Try.func49, Try.ntmps49
       go_wp2_with (first | ((with_reducible refine gate_dst (N := 2) rfl ?_); refine box_event ?hg (N := 2) ?hd (cs := #[.int .i64 a0_0, .int .i64 a0_1, .int .i64 a0_2, .slice A0_3 l0_3.length c0_3, .int .i64 a0_4, .int .i64 a0_5, .int .i64 a0_6]) (t := 38) ?hr ?_; (case hd => rfl); (case hg => rfl); (case hr => first | (go_simp; done) | (go_simp; rfl)); intro gb157 hg w10 hbox hb; have n0_ := Aside0.mk (below_step (by repeat (first | (with_reducible first | exact HB.out | apply below_alloc | apply pw_below_drewN | apply below_drew1) | exact HB.out)) hb); have n1_ := Aside0.mk (hbox); have n2_ := Aside0.mk ((by rw [hg]; exact (below_size (by repeat (first | (with_reducible first | exact HB.out | apply below_alloc | apply pw_below_drewN | apply below_drew1) | exact HB.out))) : w.heap.size ≤ gb157)); have n3_ := Aside0.mk ((by rw [hg]; exact (below_size (by repeat (first | (with_reducible first | exact HB.out | apply below_alloc | apply pw_below_drewN | apply below_drew1) | exact HB.out))) : w.heap.size ≤ gb157)); clear HB; have HB := n0_; have BK157 := n1_; have GW157 := n2_; have GE157 := n3_; clear n0_ n1_ n2_ n3_; clear hb hbox hg) | ((with_reducible refine gate_dst (N := 3) rfl ?_); refine box_event ?hg (N := 3) ?hd (cs := #[.int .i64 a1_0, .int .i64 a1_1, .int .i64 a1_2, .slice A1_3 l1_3.length c1_3, .int .i64 a1_4, .int .i64 a1_5, .int .i64 a1_6]) (t := 38) ?hr ?_; (case hd => rfl); (case hg => rfl); (case hr => first | (go_simp; done) | (go_simp; rfl)); intro gb158 hg w11 hbox hb; have n0_ := Aside0.mk (blk_below (g := gb157) (o := .cells #[.int .i64 a0_0, .int .i64 a0_1, .int .i64 a0_2, .slice A0_3 l0_3.length c0_3, .int .i64 a0_4, .int .i64 a0_5, .int .i64 a0_6] 38 (0, 0)) (by (with_reducible repeat (first | refine blk_drewN ?_ _ | refine blk_drew ?_ | refine blk_alloc ?_ _)); exact BK157.out) hb); have n1_ := Aside0.mk (below_step (by repeat (first | (with_reducible first | exact HB.out | apply below_alloc | apply pw_below_drewN | apply below_drew1 | refine below_set ?_ GE157.out) | exact HB.out)) hb); have n2_ := Aside0.mk (hbox); have n3_ := Aside0.mk ((by rw [hg]; exact (below_size (by repeat (first | (with_reducible first | exact HB.out | apply below_alloc | apply pw_below_drewN | apply below_drew1 | refine below_set ?_ GE157.out) | exact HB.out))) : w.heap.size ≤ gb158)); have n4_ := Aside0.mk ((by rw [hg]; exact (below_size (by repeat (first | (with_reducible first | exact HB.out | apply below_alloc | apply pw_below_drewN | apply below_drew1 | refine below_set ?_ GE157.out) | exact HB.out))) : w.heap.size ≤ gb158)); have n5_ := Aside0.mk ((by rw [hg]; exact Nat.ne_of_lt (blk_lt (g := gb157) (o := .cells #[.int .i64 a0_0, .int .i64 a0_1, .int .i64 a0_2, .slice A0_3 l0_3.length c0_3, .int .i64 a0_4, .int .i64 a0_5, .int .i64 a0_6] 38 (0, 0)) (by (with_reducible repeat (first | refine blk_drewN ?_ _ | refine blk_drew ?_ | refine blk_alloc ?_ _)); exact BK157.out)) : gb157 ≠ gb158)); have n6_ := Aside0.mk ((by rw [hg]; exact Nat.ne_of_gt (blk_lt (g := gb157) (o := .cells #[.int .i64 a0_0, .int .i64 a0_1, .int .i64 a0_2, .slice A0_3 l0_3.length c0_3, .int .i64 a0_4, .int .i64 a0_5, .int .i64 a0_6] 38 (0, 0)) (by (with_reducible repeat (first | refine blk_drewN ?_ _ | refine blk_drew ?_ | refine blk_alloc ?_ _)); exact BK157.out)) : gb158 ≠ gb157)); clear BK157; clear HB; have BK157 := n0_; have HB := n1_; have BK158 := n2_; have GW158 := n3_; have GE158 := n4_; have NB157_158 := n5_; have NB158_157 := n6_; clear n0_ n1_ n2_ n3_ n4_ n5_ n6_; clear hb hbox hg; have hnb12 := NB157_158.out; have hnc12 := NB158_157.out; have hcz13_0 : w11.cell? ⟨gb157, 0, none⟩ = some (.int .i64 a0_0) := (blk_cell BK157.out 0).trans rfl; have hcz13_1 : w11.cell? ⟨gb157, 1, none⟩ = some (.int .i64 a0_1) := (blk_cell BK157.out 1).trans rfl; have hcz13_2 : w11.cell? ⟨gb157, 2, none⟩ = some (.int .i64 a0_2) := (blk_cell BK157.out 2).trans rfl; have hcz13_3 : w11.cell? ⟨gb157, 3, none⟩ = some (.slice A0_3 l0_3.length c0_3) := (blk_cell BK157.out 3).trans rfl; have hcz13_4 : w11.cell? ⟨gb157, 4, none⟩ = some (.int .i64 a0_4) := (blk_cell BK157.out 4).trans rfl; have hcz13_5 : w11.cell? ⟨gb157, 5, none⟩ = some (.int .i64 a0_5) := (blk_cell BK157.out 5).trans rfl; have hcz13_6 : w11.cell? ⟨gb157, 6, none⟩ = some (.int .i64 a0_6) := (blk_cell BK157.out 6).trans rfl; have hfz13_0 := blk_frozen BK157.out 0; have hfz13_1 := blk_frozen BK157.out 1; have hfz13_2 := blk_frozen BK157.out 2; have hfz13_3 := blk_frozen BK157.out 3; have hfz13_4 := blk_frozen BK157.out 4; have hfz13_5 := blk_frozen BK157.out 5; have hfz13_6 := blk_frozen BK157.out 6; have hcz14_0 : w11.cell? ⟨gb158, 0, none⟩ = some (.int .i64 a1_0) := (blk_cell BK158.out 0).trans rfl; have hcz14_1 : w11.cell? ⟨gb158, 1, none⟩ = some (.int .i64 a1_1) := (blk_cell BK158.out 1).trans rfl; have hcz14_2 : w11.cell? ⟨gb158, 2, none⟩ = some (.int .i64 a1_2) := (blk_cell BK158.out 2).trans rfl; have hcz14_3 : w11.cell? ⟨gb158, 3, none⟩ = some (.slice A1_3 l1_3.length c1_3) := (blk_cell BK158.out 3).trans rfl; have hcz14_4 : w11.cell? ⟨gb158, 4, none⟩ = some (.int .i64 a1_4) := (blk_cell BK158.out 4).trans rfl; have hcz14_5 : w11.cell? ⟨gb158, 5, none⟩ = some (.int .i64 a1_5) := (blk_cell BK158.out 5).trans rfl; have hcz14_6 : w11.cell? ⟨gb158, 6, none⟩ = some (.int .i64 a1_6) := (blk_cell BK158.out 6).trans rfl; have hfz14_0 := blk_frozen BK158.out 0; have hfz14_1 := blk_frozen BK158.out 1; have hfz14_2 := blk_frozen BK158.out 2; have hfz14_3 := blk_frozen BK158.out 3; have hfz14_4 := blk_frozen BK158.out 4; have hfz14_5 := blk_frozen BK158.out 5; have hfz14_6 := blk_frozen BK158.out 6) | (go_at_call 71; (with_reducible refine (bytes_Equal.calls _ _ l0_3 _ _ l1_3 true _ ?side1 ?side2 ?side3 ?side4 A6.out).mono ?_); (case side1 => repeat (first | exact (Kd.C_below HR0_3.out HB.out) | (with_reducible refine Kd.C_alloc ?_ _) | (with_reducible refine Kd.C_drewN ?_ _) | (with_reducible refine Kd.C_drew ?_))); (case side2 => exact HC0_3.out); (case side3 => repeat (first | exact (Kd.C_below HR1_3.out HB.out) | (with_reducible refine Kd.C_alloc ?_ _) | (with_reducible refine Kd.C_drewN ?_ _) | (with_reducible refine Kd.C_drew ?_))); (case side4 => exact HC1_3.out); rintro e w' ⟨rfl, ⟨nd, rfl⟩⟩))
       go_ret
       exact ⟨by first | rfl | (simp [errW_none, errW_some] <;> rfl) | (simp [*, errW_none, errW_some] <;> rfl), by repeat (first | (with_reducible first | exact HB.out | apply below_alloc | apply pw_below_drewN | apply below_drew1 | refine below_set ?_ GE157.out | refine below_set ?_ GE158.out) | exact HB.out)⟩
      ·rw [if_neg c9] at H
       have c9b0 : (a0_5 == a1_5) = false := beq_eq_false_iff_ne.mpr c9
       have c9b1 : (a0_5 != a1_5) = true := bne_iff_ne.mpr c9
       obtain rfl := Option.some.inj H
       go_enter Try.func49, Try.ntmps49
       go_wp2_with (first | ((with_reducible refine gate_dst (N := 2) rfl ?_); refine box_event ?hg (N := 2) ?hd (cs := #[.int .i64 a0_0, .int .i64 a0_1, .int .i64 a0_2, .slice A0_3 l0_3.length c0_3, .int .i64 a0_4, .int .i64 a0_5, .int .i64 a0_6]) (t := 38) ?hr ?_; (case hd => rfl); (case hg => rfl); (case hr => first | (go_simp; done) | (go_simp; rfl)); intro gb157 hg w15 hbox hb; have n0_ := Aside0.mk (below_step (by repeat (first | (with_reducible first | exact HB.out | apply below_alloc | apply pw_below_drewN | apply below_drew1) | exact HB.out)) hb); have n1_ := Aside0.mk (hbox); have n2_ := Aside0.mk ((by rw [hg]; exact (below_size (by repeat (first | (with_reducible first | exact HB.out | apply below_alloc | apply pw_below_drewN | apply below_drew1) | exact HB.out))) : w.heap.size ≤ gb157)); have n3_ := Aside0.mk ((by rw [hg]; exact (below_size (by repeat (first | (with_reducible first | exact HB.out | apply below_alloc | apply pw_below_drewN | apply below_drew1) | exact HB.out))) : w.heap.size ≤ gb157)); clear HB; have HB := n0_; have BK157 := n1_; have GW157 := n2_; have GE157 := n3_; clear n0_ n1_ n2_ n3_; clear hb hbox hg) | ((with_reducible refine gate_dst (N := 3) rfl ?_); refine box_event ?hg (N := 3) ?hd (cs := #[.int .i64 a1_0, .int .i64 a1_1, .int .i64 a1_2, .slice A1_3 l1_3.length c1_3, .int .i64 a1_4, .int .i64 a1_5, .int .i64 a1_6]) (t := 38) ?hr ?_; (case hd => rfl); (case hg => rfl); (case hr => first | (go_simp; done) | (go_simp; rfl)); intro gb158 hg w16 hbox hb; have n0_ := Aside0.mk (blk_below (g := gb157) (o := .cells #[.int .i64 a0_0, .int .i64 a0_1, .int .i64 a0_2, .slice A0_3 l0_3.length c0_3, .int .i64 a0_4, .int .i64 a0_5, .int .i64 a0_6] 38 (0, 0)) (by (with_reducible repeat (first | refine blk_drewN ?_ _ | refine blk_drew ?_ | refine blk_alloc ?_ _)); exact BK157.out) hb); have n1_ := Aside0.mk (below_step (by repeat (first | (with_reducible first | exact HB.out | apply below_alloc | apply pw_below_drewN | apply below_drew1 | refine below_set ?_ GE157.out) | exact HB.out)) hb); have n2_ := Aside0.mk (hbox); have n3_ := Aside0.mk ((by rw [hg]; exact (below_size (by repeat (first | (with_reducible first | exact HB.out | apply below_alloc | apply pw_below_drewN | apply below_drew1 | refine below_set ?_ GE157.out) | exact HB.out))) : w.heap.size ≤ gb158)); have n4_ := Aside0.mk ((by rw [hg]; exact (below_size (by repeat (first | (with_reducible first | exact HB.out | apply below_alloc | apply pw_below_drewN | apply below_drew1 | refine below_set ?_ GE157.out) | exact HB.out))) : w.heap.size ≤ gb158)); have n5_ := Aside0.mk ((by rw [hg]; exact Nat.ne_of_lt (blk_lt (g := gb157) (o := .cells #[.int .i64 a0_0, .int .i64 a0_1, .int .i64 a0_2, .slice A0_3 l0_3.length c0_3, .int .i64 a0_4, .int .i64 a0_5, .int .i64 a0_6] 38 (0, 0)) (by (with_reducible repeat (first | refine blk_drewN ?_ _ | refine blk_drew ?_ | refine blk_alloc ?_ _)); exact BK157.out)) : gb157 ≠ gb158)); have n6_ := Aside0.mk ((by rw [hg]; exact Nat.ne_of_gt (blk_lt (g := gb157) (o := .cells #[.int .i64 a0_0, .int .i64 a0_1, .int .i64 a0_2, .slice A0_3 l0_3.length c0_3, .int .i64 a0_4, .int .i64 a0_5, .int .i64 a0_6] 38 (0, 0)) (by (with_reducible repeat (first | refine blk_drewN ?_ _ | refine blk_drew ?_ | refine blk_alloc ?_ _)); exact BK157.out)) : gb158 ≠ gb157)); clear BK157; clear HB; have BK157 := n0_; have HB := n1_; have BK158 := n2_; have GW158 := n3_; have GE158 := n4_; have NB157_158 := n5_; have NB158_157 := n6_; clear n0_ n1_ n2_ n3_ n4_ n5_ n6_; clear hb hbox hg; have hnb17 := NB157_158.out; have hnc17 := NB158_157.out; have hcz18_0 : w16.cell? ⟨gb157, 0, none⟩ = some (.int .i64 a0_0) := (blk_cell BK157.out 0).trans rfl; have hcz18_1 : w16.cell? ⟨gb157, 1, none⟩ = some (.int .i64 a0_1) := (blk_cell BK157.out 1).trans rfl; have hcz18_2 : w16.cell? ⟨gb157, 2, none⟩ = some (.int .i64 a0_2) := (blk_cell BK157.out 2).trans rfl; have hcz18_3 : w16.cell? ⟨gb157, 3, none⟩ = some (.slice A0_3 l0_3.length c0_3) := (blk_cell BK157.out 3).trans rfl; have hcz18_4 : w16.cell? ⟨gb157, 4, none⟩ = some (.int .i64 a0_4) := (blk_cell BK157.out 4).trans rfl; have hcz18_5 : w16.cell? ⟨gb157, 5, none⟩ = some (.int .i64 a0_5) := (blk_cell BK157.out 5).trans rfl; have hcz18_6 : w16.cell? ⟨gb157, 6, none⟩ = some (.int .i64 a0_6) := (blk_cell BK157.out 6).trans rfl; have hfz18_0 := blk_frozen BK157.out 0; have hfz18_1 := blk_frozen BK157.out 1; have hfz18_2 := blk_frozen BK157.out 2; have hfz18_3 := blk_frozen BK157.out 3; have hfz18_4 := blk_frozen BK157.out 4; have hfz18_5 := blk_frozen BK157.out 5; have hfz18_6 := blk_frozen BK157.out 6; have hcz19_0 : w16.cell? ⟨gb158, 0, none⟩ = some (.int .i64 a1_0) := (blk_cell BK158.out 0).trans rfl; have hcz19_1 : w16.cell? ⟨gb158, 1, none⟩ = some (.int .i64 a1_1) := (blk_cell BK158.out 1).trans rfl; have hcz19_2 : w16.cell? ⟨gb158, 2, none⟩ = some (.int .i64 a1_2) := (blk_cell BK158.out 2).trans rfl; have hcz19_3 : w16.cell? ⟨gb158, 3, none⟩ = some (.slice A1_3 l1_3.length c1_3) := (blk_cell BK158.out 3).trans rfl; have hcz19_4 : w16.cell? ⟨gb158, 4, none⟩ = some (.int .i64 a1_4) := (blk_cell BK158.out 4).trans rfl; have hcz19_5 : w16.cell? ⟨gb158, 5, none⟩ = some (.int .i64 a1_5) := (blk_cell BK158.out 5).trans rfl; have hcz19_6 : w16.cell? ⟨gb158, 6, none⟩ = some (.int .i64 a1_6) := (blk_cell BK158.out 6).trans rfl; have hfz19_0 := blk_frozen BK158.out 0; have hfz19_1 := blk_frozen BK158.out 1; have hfz19_2 := blk_frozen BK158.out 2; have hfz19_3 := blk_frozen BK158.out 3; have hfz19_4 := blk_frozen BK158.out 4; have hfz19_5 := blk_frozen BK158.out 5; have hfz19_6 := blk_frozen BK158.out 6) | (go_at_call 71; (with_reducible refine (bytes_Equal.calls _ _ l0_3 _ _ l1_3 true _ ?side1 ?side2 ?side3 ?side4 A6.out).mono ?_); (case side1 => repeat (first | exact (Kd.C_below HR0_3.out HB.out) | (with_reducible refine Kd.C_alloc ?_ _) | (with_reducible refine Kd.C_drewN ?_ _) | (with_reducible refine Kd.C_drew ?_))); (case side2 => exact HC0_3.out); (case side3 => repeat (first | exact (Kd.C_below HR1_3.out HB.out) | (with_reducible refine Kd.C_alloc ?_ _) | (with_reducible refine Kd.C_drewN ?_ _) | (with_reducible refine Kd.C_drew ?_))); (case side4 => exact HC1_3.out); rintro e w' ⟨rfl, ⟨nd, rfl⟩⟩))
       go_ret
       exact ⟨by first | rfl | (simp [errW_none, errW_some] <;> rfl) | (simp [*, errW_none, errW_some] <;> rfl), by repeat (first | (with_reducible first | exact HB.out | apply below_alloc | apply pw_below_drewN | apply below_drew1 | refine below_set ?_ GE157.out | refine below_set ?_ GE158.out) | exact HB.out)⟩
     ·rw [if_neg c8] at H
      have c8b0 : (a0_4 == a1_4) = false := beq_eq_false_iff_ne.mpr c8
      have c8b1 : (a0_4 != a1_4) = true := bne_iff_ne.mpr c8
      obtain rfl := Option.some.inj H
      go_enter Try.func49, Try.ntmps49
      go_wp2_with (first | ((with_reducible refine gate_dst (N := 2) rfl ?_); refine box_event ?hg (N := 2) ?hd (cs := #[.int .i64 a0_0, .int .i64 a0_1, .int .i64 a0_2, .slice A0_3 l0_3.length c0_3, .int .i64 a0_4, .int .i64 a0_5, .int .i64 a0_6]) (t := 38) ?hr ?_; (case hd => rfl); (case hg => rfl); (case hr => first | (go_simp; done) | (go_simp; rfl)); intro gb157 hg w20 hbox hb; have n0_ := Aside0.mk (below_step (by repeat (first | (with_reducible first | exact HB.out | apply below_alloc | apply pw_below_drewN | apply below_drew1) | exact HB.out)) hb); have n1_ := Aside0.mk (hbox); have n2_ := Aside0.mk ((by rw [hg]; exact (below_size (by repeat (first | (with_reducible first | exact HB.out | apply below_alloc | apply pw_below_drewN | apply below_drew1) | exact HB.out))) : w.heap.size ≤ gb157)); have n3_ := Aside0.mk ((by rw [hg]; exact (below_size (by repeat (first | (with_reducible first | exact HB.out | apply below_alloc | apply pw_below_drewN | apply below_drew1) | exact HB.out))) : w.heap.size ≤ gb157)); clear HB; have HB := n0_; have BK157 := n1_; have GW157 := n2_; have GE157 := n3_; clear n0_ n1_ n2_ n3_; clear hb hbox hg) | ((with_reducible refine gate_dst (N := 3) rfl ?_); refine box_event ?hg (N := 3) ?hd (cs := #[.int .i64 a1_0, .int .i64 a1_1, .int .i64 a1_2, .slice A1_3 l1_3.length c1_3, .int .i64 a1_4, .int .i64 a1_5, .int .i64 a1_6]) (t := 38) ?hr ?_; (case hd => rfl); (case hg => rfl); (case hr => first | (go_simp; done) | (go_simp; rfl)); intro gb158 hg w21 hbox hb; have n0_ := Aside0.mk (blk_below (g := gb157) (o := .cells #[.int .i64 a0_0, .int .i64 a0_1, .int .i64 a0_2, .slice A0_3 l0_3.length c0_3, .int .i64 a0_4, .int .i64 a0_5, .int .i64 a0_6] 38 (0, 0)) (by (with_reducible repeat (first | refine blk_drewN ?_ _ | refine blk_drew ?_ | refine blk_alloc ?_ _)); exact BK157.out) hb); have n1_ := Aside0.mk (below_step (by repeat (first | (with_reducible first | exact HB.out | apply below_alloc | apply pw_below_drewN | apply below_drew1 | refine below_set ?_ GE157.out) | exact HB.out)) hb); have n2_ := Aside0.mk (hbox); have n3_ := Aside0.mk ((by rw [hg]; exact (below_size (by repeat (first | (with_reducible first | exact HB.out | apply below_alloc | apply pw_below_drewN | apply below_drew1 | refine below_set ?_ GE157.out) | exact HB.out))) : w.heap.size ≤ gb158)); have n4_ := Aside0.mk ((by rw [hg]; exact (below_size (by repeat (first | (with_reducible first | exact HB.out | apply below_alloc | apply pw_below_drewN | apply below_drew1 | refine below_set ?_ GE157.out) | exact HB.out))) : w.heap.size ≤ gb158)); have n5_ := Aside0.mk ((by rw [hg]; exact Nat.ne_of_lt (blk_lt (g := gb157) (o := .cells #[.int .i64 a0_0, .int .i64 a0_1, .int .i64 a0_2, .slice A0_3 l0_3.length c0_3, .int .i64 a0_4, .int .i64 a0_5, .int .i64 a0_6] 38 (0, 0)) (by (with_reducible repeat (first | refine blk_drewN ?_ _ | refine blk_drew ?_ | refine blk_alloc ?_ _)); exact BK157.out)) : gb157 ≠ gb158)); have n6_ := Aside0.mk ((by rw [hg]; exact Nat.ne_of_gt (blk_lt (g := gb157) (o := .cells #[.int .i64 a0_0, .int .i64 a0_1, .int .i64 a0_2, .slice A0_3 l0_3.length c0_3, .int .i64 a0_4, .int .i64 a0_5, .int .i64 a0_6] 38 (0, 0)) (by (with_reducible repeat (first | refine blk_drewN ?_ _ | refine blk_drew ?_ | refine blk_alloc ?_ _)); exact BK157.out)) : gb158 ≠ gb157)); clear BK157; clear HB; have BK157 := n0_; have HB := n1_; have BK158 := n2_; have GW158 := n3_; have GE158 := n4_; have NB157_158 := n5_; have NB158_157 := n6_; clear n0_ n1_ n2_ n3_ n4_ n5_ n6_; clear hb hbox hg; have hnb22 := NB157_158.out; have hnc22 := NB158_157.out; have hcz23_0 : w21.cell? ⟨gb157, 0, none⟩ = some (.int .i64 a0_0) := (blk_cell BK157.out 0).trans rfl; have hcz23_1 : w21.cell? ⟨gb157, 1, none⟩ = some (.int .i64 a0_1) := (blk_cell BK157.out 1).trans rfl; have hcz23_2 : w21.cell? ⟨gb157, 2, none⟩ = some (.int .i64 a0_2) := (blk_cell BK157.out 2).trans rfl; have hcz23_3 : w21.cell? ⟨gb157, 3, none⟩ = some (.slice A0_3 l0_3.length c0_3) := (blk_cell BK157.out 3).trans rfl; have hcz23_4 : w21.cell? ⟨gb157, 4, none⟩ = some (.int .i64 a0_4) := (blk_cell BK157.out 4).trans rfl; have hcz23_5 : w21.cell? ⟨gb157, 5, none⟩ = some (.int .i64 a0_5) := (blk_cell BK157.out 5).trans rfl; have hcz23_6 : w21.cell? ⟨gb157, 6, none⟩ = some (.int .i64 a0_6) := (blk_cell BK157.out 6).trans rfl; have hfz23_0 := blk_frozen BK157.out 0; have hfz23_1 := blk_frozen BK157.out 1; have hfz23_2 := blk_frozen BK157.out 2; have hfz23_3 := blk_frozen BK157.out 3; have hfz23_4 := blk_frozen BK157.out 4; have hfz23_5 := blk_frozen BK157.out 5; have hfz23_6 := blk_frozen BK157.out 6; have hcz24_0 : w21.cell? ⟨gb158, 0, none⟩ = some (.int .i64 a1_0) := (blk_cell BK158.out 0).trans rfl; have hcz24_1 : w21.cell? ⟨gb158, 1, none⟩ = some (.int .i64 a1_1) := (blk_cell BK158.out 1).trans rfl; have hcz24_2 : w21.cell? ⟨gb158, 2, none⟩ = some (.int .i64 a1_2) := (blk_cell BK158.out 2).trans rfl; have hcz24_3 : w21.cell? ⟨gb158, 3, none⟩ = some (.slice A1_3 l1_3.length c1_3) := (blk_cell BK158.out 3).trans rfl; have hcz24_4 : w21.cell? ⟨gb158, 4, none⟩ = some (.int .i64 a1_4) := (blk_cell BK158.out 4).trans rfl; have hcz24_5 : w21.cell? ⟨gb158, 5, none⟩ = some (.int .i64 a1_5) := (blk_cell BK158.out 5).trans rfl; have hcz24_6 : w21.cell? ⟨gb158, 6, none⟩ = some (.int .i64 a1_6) := (blk_cell BK158.out 6).trans rfl; have hfz24_0 := blk_frozen BK158.out 0; have hfz24_1 := blk_frozen BK158.out 1; have hfz24_2 := blk_frozen BK158.out 2; have hfz24_3 := blk_frozen BK158.out 3; have hfz24_4 := blk_frozen BK158.out 4; have hfz24_5 := blk_frozen BK158.out 5; have hfz24_6 := blk_frozen BK158.out 6) | (go_at_call 71; (with_reducible refine (bytes_Equal.calls _ _ l0_3 _ _ l1_3 true _ ?side1 ?side2 ?side3 ?side4 A6.out).mono ?_); (case side1 => repeat (first | exact (Kd.C_below HR0_3.out HB.out) | (with_reducible refine Kd.C_alloc ?_ _) | (with_reducible refine Kd.C_drewN ?_ _) | (with_reducible refine Kd.C_drew ?_))); (case side2 => exact HC0_3.out); (case side3 => repeat (first | exact (Kd.C_below HR1_3.out HB.out) | (with_reducible refine Kd.C_alloc ?_ _) | (with_reducible refine Kd.C_drewN ?_ _) | (with_reducible refine Kd.C_drew ?_))); (case side4 => exact HC1_3.out); rintro e w' ⟨rfl, ⟨nd, rfl⟩⟩))
      go_ret
      exact ⟨by first | rfl | (simp [errW_none, errW_some] <;> rfl) | (simp [*, errW_none, errW_some] <;> rfl), by repeat (first | (with_reducible first | exact HB.out | apply below_alloc | apply pw_below_drewN | apply below_drew1 | refine below_set ?_ GE157.out | refine below_set ?_ GE158.out) | exact HB.out)⟩
    ·replace c7 := Bool.eq_false_iff.mpr c7
     subst c7
     have H1 : (some false) = some r := by rw [if_neg (show ¬ (false = true) by decide)] at H <;> exact H
     clear H
     have H := H1
     clear H1
     obtain rfl := Option.some.inj H
     go_enter Try.func49, Try.ntmps49
     go_wp2_with (first | ((with_reducible refine gate_dst (N := 2) rfl ?_); refine box_event ?hg (N := 2) ?hd (cs := #[.int .i64 a0_0, .int .i64 a0_1, .int .i64 a0_2, .slice A0_3 l0_3.length c0_3, .int .i64 a0_4, .int .i64 a0_5, .int .i64 a0_6]) (t := 38) ?hr ?_; (case hd => rfl); (case hg => rfl); (case hr => first | (go_simp; done) | (go_simp; rfl)); intro gb157 hg w25 hbox hb; have n0_ := Aside0.mk (below_step (by repeat (first | (with_reducible first | exact HB.out | apply below_alloc | apply pw_below_drewN | apply below_drew1) | exact HB.out)) hb); have n1_ := Aside0.mk (hbox); have n2_ := Aside0.mk ((by rw [hg]; exact (below_size (by repeat (first | (with_reducible first | exact HB.out | apply below_alloc | apply pw_below_drewN | apply below_drew1) | exact HB.out))) : w.heap.size ≤ gb157)); have n3_ := Aside0.mk ((by rw [hg]; exact (below_size (by repeat (first | (with_reducible first | exact HB.out | apply below_alloc | apply pw_below_drewN | apply below_drew1) | exact HB.out))) : w.heap.size ≤ gb157)); clear HB; have HB := n0_; have BK157 := n1_; have GW157 := n2_; have GE157 := n3_; clear n0_ n1_ n2_ n3_; clear hb hbox hg) | ((with_reducible refine gate_dst (N := 3) rfl ?_); refine box_event ?hg (N := 3) ?hd (cs := #[.int .i64 a1_0, .int .i64 a1_1, .int .i64 a1_2, .slice A1_3 l1_3.length c1_3, .int .i64 a1_4, .int .i64 a1_5, .int .i64 a1_6]) (t := 38) ?hr ?_; (case hd => rfl); (case hg => rfl); (case hr => first | (go_simp; done) | (go_simp; rfl)); intro gb158 hg w26 hbox hb; have n0_ := Aside0.mk (blk_below (g := gb157) (o := .cells #[.int .i64 a0_0, .int .i64 a0_1, .int .i64 a0_2, .slice A0_3 l0_3.length c0_3, .int .i64 a0_4, .int .i64 a0_5, .int .i64 a0_6] 38 (0, 0)) (by (with_reducible repeat (first | refine blk_drewN ?_ _ | refine blk_drew ?_ | refine blk_alloc ?_ _)); exact BK157.out) hb); have n1_ := Aside0.mk (below_step (by repeat (first | (with_reducible first | exact HB.out | apply below_alloc | apply pw_below_drewN | apply below_drew1 | refine below_set ?_ GE157.out) | exact HB.out)) hb); have n2_ := Aside0.mk (hbox); have n3_ := Aside0.mk ((by rw [hg]; exact (below_size (by repeat (first | (with_reducible first | exact HB.out | apply below_alloc | apply pw_below_drewN | apply below_drew1 | refine below_set ?_ GE157.out) | exact HB.out))) : w.heap.size ≤ gb158)); have n4_ := Aside0.mk ((by rw [hg]; exact (below_size (by repeat (first | (with_reducible first | exact HB.out | apply below_alloc | apply pw_below_drewN | apply below_drew1 | refine below_set ?_ GE157.out) | exact HB.out))) : w.heap.size ≤ gb158)); have n5_ := Aside0.mk ((by rw [hg]; exact Nat.ne_of_lt (blk_lt (g := gb157) (o := .cells #[.int .i64 a0_0, .int .i64 a0_1, .int .i64 a0_2, .slice A0_3 l0_3.length c0_3, .int .i64 a0_4, .int .i64 a0_5, .int .i64 a0_6] 38 (0, 0)) (by (with_reducible repeat (first | refine blk_drewN ?_ _ | refine blk_drew ?_ | refine blk_alloc ?_ _)); exact BK157.out)) : gb157 ≠ gb158)); have n6_ := Aside0.mk ((by rw [hg]; exact Nat.ne_of_gt (blk_lt (g := gb157) (o := .cells #[.int .i64 a0_0, .int .i64 a0_1, .int .i64 a0_2, .slice A0_3 l0_3.length c0_3, .int .i64 a0_4, .int .i64 a0_5, .int .i64 a0_6] 38 (0, 0)) (by (with_reducible repeat (first | refine blk_drewN ?_ _ | refine blk_drew ?_ | refine blk_alloc ?_ _)); exact BK157.out)) : gb158 ≠ gb157)); clear BK157; clear HB; have BK157 := n0_; have HB := n1_; have BK158 := n2_; have GW158 := n3_; have GE158 := n4_; have NB157_158 := n5_; have NB158_157 := n6_; clear n0_ n1_ n2_ n3_ n4_ n5_ n6_; clear hb hbox hg; have hnb27 := NB157_158.out; have hnc27 := NB158_157.out; have hcz28_0 : w26.cell? ⟨gb157, 0, none⟩ = some (.int .i64 a0_0) := (blk_cell BK157.out 0).trans rfl; have hcz28_1 : w26.cell? ⟨gb157, 1, none⟩ = some (.int .i64 a0_1) := (blk_cell BK157.out 1).trans rfl; have hcz28_2 : w26.cell? ⟨gb157, 2, none⟩ = some (.int .i64 a0_2) := (blk_cell BK157.out 2).trans rfl; have hcz28_3 : w26.cell? ⟨gb157, 3, none⟩ = some (.slice A0_3 l0_3.length c0_3) := (blk_cell BK157.out 3).trans rfl; have hcz28_4 : w26.cell? ⟨gb157, 4, none⟩ = some (.int .i64 a0_4) := (blk_cell BK157.out 4).trans rfl; have hcz28_5 : w26.cell? ⟨gb157, 5, none⟩ = some (.int .i64 a0_5) := (blk_cell BK157.out 5).trans rfl; have hcz28_6 : w26.cell? ⟨gb157, 6, none⟩ = some (.int .i64 a0_6) := (blk_cell BK157.out 6).trans rfl; have hfz28_0 := blk_frozen BK157.out 0; have hfz28_1 := blk_frozen BK157.out 1; have hfz28_2 := blk_frozen BK157.out 2; have hfz28_3 := blk_frozen BK157.out 3; have hfz28_4 := blk_frozen BK157.out 4; have hfz28_5 := blk_frozen BK157.out 5; have hfz28_6 := blk_frozen BK157.out 6; have hcz29_0 : w26.cell? ⟨gb158, 0, none⟩ = some (.int .i64 a1_0) := (blk_cell BK158.out 0).trans rfl; have hcz29_1 : w26.cell? ⟨gb158, 1, none⟩ = some (.int .i64 a1_1) := (blk_cell BK158.out 1).trans rfl; have hcz29_2 : w26.cell? ⟨gb158, 2, none⟩ = some (.int .i64 a1_2) := (blk_cell BK158.out 2).trans rfl; have hcz29_3 : w26.cell? ⟨gb158, 3, none⟩ = some (.slice A1_3 l1_3.length c1_3) := (blk_cell BK158.out 3).trans rfl; have hcz29_4 : w26.cell? ⟨gb158, 4, none⟩ = some (.int .i64 a1_4) := (blk_cell BK158.out 4).trans rfl; have hcz29_5 : w26.cell? ⟨gb158, 5, none⟩ = some (.int .i64 a1_5) := (blk_cell BK158.out 5).trans rfl; have hcz29_6 : w26.cell? ⟨gb158, 6, none⟩ = some (.int .i64 a1_6) := (blk_cell BK158.out 6).trans rfl; have hfz29_0 := blk_frozen BK158.out 0; have hfz29_1 := blk_frozen BK158.out 1; have hfz29_2 := blk_frozen BK158.out 2; have hfz29_3 := blk_frozen BK158.out 3; have hfz29_4 := blk_frozen BK158.out 4; have hfz29_5 := blk_frozen BK158.out 5; have hfz29_6 := blk_frozen BK158.out 6) | (go_at_call 71; (with_reducible refine (bytes_Equal.calls _ _ l0_3 _ _ l1_3 false _ ?side1 ?side2 ?side3 ?side4 A6.out).mono ?_); (case side1 => repeat (first | exact (Kd.C_below HR0_3.out HB.out) | (with_reducible refine Kd.C_alloc ?_ _) | (with_reducible refine Kd.C_drewN ?_ _) | (with_reducible refine Kd.C_drew ?_))); (case side2 => exact HC0_3.out); (case side3 => repeat (first | exact (Kd.C_below HR1_3.out HB.out) | (with_reducible refine Kd.C_alloc ?_ _) | (with_reducible refine Kd.C_drewN ?_ _) | (with_reducible refine Kd.C_drew ?_))); (case side4 => exact HC1_3.out); rintro e w' ⟨rfl, ⟨nd, rfl⟩⟩))
     go_ret
     exact ⟨by first | rfl | (simp [errW_none, errW_some] <;> rfl) | (simp [*, errW_none, errW_some] <;> rfl), by repeat (first | (with_reducible first | exact HB.out | apply below_alloc | apply pw_below_drewN | apply below_drew1 | refine below_set ?_ GE157.out | refine below_set ?_ GE158.out) | exact HB.out)⟩
   ·rw [if_neg c5] at H
    have c5b0 : (a0_2 == a1_2) = false := beq_eq_false_iff_ne.mpr c5
    have c5b1 : (a0_2 != a1_2) = true := bne_iff_ne.mpr c5
    obtain rfl := Option.some.inj H
    go_enter Try.func49, Try.ntmps49
    go_wp2_with (first | ((with_reducible refine gate_dst (N := 2) rfl ?_); refine box_event ?hg (N := 2) ?hd (cs := #[.int .i64 a0_0, .int .i64 a0_1, .int .i64 a0_2, .slice A0_3 l0_3.length c0_3, .int .i64 a0_4, .int .i64 a0_5, .int .i64 a0_6]) (t := 38) ?hr ?_; (case hd => rfl); (case hg => rfl); (case hr => first | (go_simp; done) | (go_simp; rfl)); intro gb157 hg w30 hbox hb; have n0_ := Aside0.mk (below_step (by repeat (first | (with_reducible first | exact HB.out | apply below_alloc | apply pw_below_drewN | apply below_drew1) | exact HB.out)) hb); have n1_ := Aside0.mk (hbox); have n2_ := Aside0.mk ((by rw [hg]; exact (below_size (by repeat (first | (with_reducible first | exact HB.out | apply below_alloc | apply pw_below_drewN | apply below_drew1) | exact HB.out))) : w.heap.size ≤ gb157)); have n3_ := Aside0.mk ((by rw [hg]; exact (below_size (by repeat (first | (with_reducible first | exact HB.out | apply below_alloc | apply pw_below_drewN | apply below_drew1) | exact HB.out))) : w.heap.size ≤ gb157)); clear HB; have HB := n0_; have BK157 := n1_; have GW157 := n2_; have GE157 := n3_; clear n0_ n1_ n2_ n3_; clear hb hbox hg) | ((with_reducible refine gate_dst (N := 3) rfl ?_); refine box_event ?hg (N := 3) ?hd (cs := #[.int .i64 a1_0, .int .i64 a1_1, .int .i64 a1_2, .slice A1_3 l1_3.length c1_3, .int .i64 a1_4, .int .i64 a1_5, .int .i64 a1_6]) (t := 38) ?hr ?_; (case hd => rfl); (case hg => rfl); (case hr => first | (go_simp; done) | (go_simp; rfl)); intro gb158 hg w31 hbox hb; have n0_ := Aside0.mk (blk_below (g := gb157) (o := .cells #[.int .i64 a0_0, .int .i64 a0_1, .int .i64 a0_2, .slice A0_3 l0_3.length c0_3, .int .i64 a0_4, .int .i64 a0_5, .int .i64 a0_6] 38 (0, 0)) (by (with_reducible repeat (first | refine blk_drewN ?_ _ | refine blk_drew ?_ | refine blk_alloc ?_ _)); exact BK157.out) hb); have n1_ := Aside0.mk (below_step (by repeat (first | (with_reducible first | exact HB.out | apply below_alloc | apply pw_below_drewN | apply below_drew1 | refine below_set ?_ GE157.out) | exact HB.out)) hb); have n2_ := Aside0.mk (hbox); have n3_ := Aside0.mk ((by rw [hg]; exact (below_size (by repeat (first | (with_reducible first | exact HB.out | apply below_alloc | apply pw_below_drewN | apply below_drew1 | refine below_set ?_ GE157.out) | exact HB.out))) : w.heap.size ≤ gb158)); have n4_ := Aside0.mk ((by rw [hg]; exact (below_size (by repeat (first | (with_reducible first | exact HB.out | apply below_alloc | apply pw_below_drewN | apply below_drew1 | refine below_set ?_ GE157.out) | exact HB.out))) : w.heap.size ≤ gb158)); have n5_ := Aside0.mk ((by rw [hg]; exact Nat.ne_of_lt (blk_lt (g := gb157) (o := .cells #[.int .i64 a0_0, .int .i64 a0_1, .int .i64 a0_2, .slice A0_3 l0_3.length c0_3, .int .i64 a0_4, .int .i64 a0_5, .int .i64 a0_6] 38 (0, 0)) (by (with_reducible repeat (first | refine blk_drewN ?_ _ | refine blk_drew ?_ | refine blk_alloc ?_ _)); exact BK157.out)) : gb157 ≠ gb158)); have n6_ := Aside0.mk ((by rw [hg]; exact Nat.ne_of_gt (blk_lt (g := gb157) (o := .cells #[.int .i64 a0_0, .int .i64 a0_1, .int .i64 a0_2, .slice A0_3 l0_3.length c0_3, .int .i64 a0_4, .int .i64 a0_5, .int .i64 a0_6] 38 (0, 0)) (by (with_reducible repeat (first | refine blk_drewN ?_ _ | refine blk_drew ?_ | refine blk_alloc ?_ _)); exact BK157.out)) : gb158 ≠ gb157)); clear BK157; clear HB; have BK157 := n0_; have HB := n1_; have BK158 := n2_; have GW158 := n3_; have GE158 := n4_; have NB157_158 := n5_; have NB158_157 := n6_; clear n0_ n1_ n2_ n3_ n4_ n5_ n6_; clear hb hbox hg; have hnb32 := NB157_158.out; have hnc32 := NB158_157.out; have hcz33_0 : w31.cell? ⟨gb157, 0, none⟩ = some (.int .i64 a0_0) := (blk_cell BK157.out 0).trans rfl; have hcz33_1 : w31.cell? ⟨gb157, 1, none⟩ = some (.int .i64 a0_1) := (blk_cell BK157.out 1).trans rfl; have hcz33_2 : w31.cell? ⟨gb157, 2, none⟩ = some (.int .i64 a0_2) := (blk_cell BK157.out 2).trans rfl; have hcz33_3 : w31.cell? ⟨gb157, 3, none⟩ = some (.slice A0_3 l0_3.length c0_3) := (blk_cell BK157.out 3).trans rfl; have hcz33_4 : w31.cell? ⟨gb157, 4, none⟩ = some (.int .i64 a0_4) := (blk_cell BK157.out 4).trans rfl; have hcz33_5 : w31.cell? ⟨gb157, 5, none⟩ = some (.int .i64 a0_5) := (blk_cell BK157.out 5).trans rfl; have hcz33_6 : w31.cell? ⟨gb157, 6, none⟩ = some (.int .i64 a0_6) := (blk_cell BK157.out 6).trans rfl; have hfz33_0 := blk_frozen BK157.out 0; have hfz33_1 := blk_frozen BK157.out 1; have hfz33_2 := blk_frozen BK157.out 2; have hfz33_3 := blk_frozen BK157.out 3; have hfz33_4 := blk_frozen BK157.out 4; have hfz33_5 := blk_frozen BK157.out 5; have hfz33_6 := blk_frozen BK157.out 6; have hcz34_0 : w31.cell? ⟨gb158, 0, none⟩ = some (.int .i64 a1_0) := (blk_cell BK158.out 0).trans rfl; have hcz34_1 : w31.cell? ⟨gb158, 1, none⟩ = some (.int .i64 a1_1) := (blk_cell BK158.out 1).trans rfl; have hcz34_2 : w31.cell? ⟨gb158, 2, none⟩ = some (.int .i64 a1_2) := (blk_cell BK158.out 2).trans rfl; have hcz34_3 : w31.cell? ⟨gb158, 3, none⟩ = some (.slice A1_3 l1_3.length c1_3) := (blk_cell BK158.out 3).trans rfl; have hcz34_4 : w31.cell? ⟨gb158, 4, none⟩ = some (.int .i64 a1_4) := (blk_cell BK158.out 4).trans rfl; have hcz34_5 : w31.cell? ⟨gb158, 5, none⟩ = some (.int .i64 a1_5) := (blk_cell BK158.out 5).trans rfl; have hcz34_6 : w31.cell? ⟨gb158, 6, none⟩ = some (.int .i64 a1_6) := (blk_cell BK158.out 6).trans rfl; have hfz34_0 := blk_frozen BK158.out 0; have hfz34_1 := blk_frozen BK158.out 1; have hfz34_2 := blk_frozen BK158.out 2; have hfz34_3 := blk_frozen BK158.out 3; have hfz34_4 := blk_frozen BK158.out 4; have hfz34_5 := blk_frozen BK158.out 5; have hfz34_6 := blk_frozen BK158.out 6))
    go_ret
    exact ⟨by first | rfl | (simp [errW_none, errW_some] <;> rfl) | (simp [*, errW_none, errW_some] <;> rfl), by repeat (first | (with_reducible first | exact HB.out | apply below_alloc | apply pw_below_drewN | apply below_drew1 | refine below_set ?_ GE157.out | refine below_set ?_ GE158.out) | exact HB.out)⟩
  ·rw [if_neg c4] at H
   have c4b0 : (a0_1 == a1_1) = false := beq_eq_false_iff_ne.mpr c4
   have c4b1 : (a0_1 != a1_1) = true := bne_iff_ne.mpr c4
   obtain rfl := Option.some.inj H
   go_enter Try.func49, Try.ntmps49
   go_wp2_with (first | ((with_reducible refine gate_dst (N := 2) rfl ?_); refine box_event ?hg (N := 2) ?hd (cs := #[.int .i64 a0_0, .int .i64 a0_1, .int .i64 a0_2, .slice A0_3 l0_3.length c0_3, .int .i64 a0_4, .int .i64 a0_5, .int .i64 a0_6]) (t := 38) ?hr ?_; (case hd => rfl); (case hg => rfl); (case hr => first | (go_simp; done) | (go_simp; rfl)); intro gb157 hg w35 hbox hb; have n0_ := Aside0.mk (below_step (by repeat (first | (with_reducible first | exact HB.out | apply below_alloc | apply pw_below_drewN | apply below_drew1) | exact HB.out)) hb); have n1_ := Aside0.mk (hbox); have n2_ := Aside0.mk ((by rw [hg]; exact (below_size (by repeat (first | (with_reducible first | exact HB.out | apply below_alloc | apply pw_below_drewN | apply below_drew1) | exact HB.out))) : w.heap.size ≤ gb157)); have n3_ := Aside0.mk ((by rw [hg]; exact (below_size (by repeat (first | (with_reducible first | exact HB.out | apply below_alloc | apply pw_below_drewN | apply below_drew1) | exact HB.out))) : w.heap.size ≤ gb157)); clear HB; have HB := n0_; have BK157 := n1_; have GW157 := n2_; have GE157 := n3_; clear n0_ n1_ n2_ n3_; clear hb hbox hg) | ((with_reducible refine gate_dst (N := 3) rfl ?_); refine box_event ?hg (N := 3) ?hd (cs := #[.int .i64 a1_0, .int .i64 a1_1, .int .i64 a1_2, .slice A1_3 l1_3.length c1_3, .int .i64 a1_4, .int .i64 a1_5, .int .i64 a1_6]) (t := 38) ?hr ?_; (case hd => rfl); (case hg => rfl); (case hr => first | (go_simp; done) | (go_simp; rfl)); intro gb158 hg w36 hbox hb; have n0_ := Aside0.mk (blk_below (g := gb157) (o := .cells #[.int .i64 a0_0, .int .i64 a0_1, .int .i64 a0_2, .slice A0_3 l0_3.length c0_3, .int .i64 a0_4, .int .i64 a0_5, .int .i64 a0_6] 38 (0, 0)) (by (with_reducible repeat (first | refine blk_drewN ?_ _ | refine blk_drew ?_ | refine blk_alloc ?_ _)); exact BK157.out) hb); have n1_ := Aside0.mk (below_step (by repeat (first | (with_reducible first | exact HB.out | apply below_alloc | apply pw_below_drewN | apply below_drew1 | refine below_set ?_ GE157.out) | exact HB.out)) hb); have n2_ := Aside0.mk (hbox); have n3_ := Aside0.mk ((by rw [hg]; exact (below_size (by repeat (first | (with_reducible first | exact HB.out | apply below_alloc | apply pw_below_drewN | apply below_drew1 | refine below_set ?_ GE157.out) | exact HB.out))) : w.heap.size ≤ gb158)); have n4_ := Aside0.mk ((by rw [hg]; exact (below_size (by repeat (first | (with_reducible first | exact HB.out | apply below_alloc | apply pw_below_drewN | apply below_drew1 | refine below_set ?_ GE157.out) | exact HB.out))) : w.heap.size ≤ gb158)); have n5_ := Aside0.mk ((by rw [hg]; exact Nat.ne_of_lt (blk_lt (g := gb157) (o := .cells #[.int .i64 a0_0, .int .i64 a0_1, .int .i64 a0_2, .slice A0_3 l0_3.length c0_3, .int .i64 a0_4, .int .i64 a0_5, .int .i64 a0_6] 38 (0, 0)) (by (with_reducible repeat (first | refine blk_drewN ?_ _ | refine blk_drew ?_ | refine blk_alloc ?_ _)); exact BK157.out)) : gb157 ≠ gb158)); have n6_ := Aside0.mk ((by rw [hg]; exact Nat.ne_of_gt (blk_lt (g := gb157) (o := .cells #[.int .i64 a0_0, .int .i64 a0_1, .int .i64 a0_2, .slice A0_3 l0_3.length c0_3, .int .i64 a0_4, .int .i64 a0_5, .int .i64 a0_6] 38 (0, 0)) (by (with_reducible repeat (first | refine blk_drewN ?_ _ | refine blk_drew ?_ | refine blk_alloc ?_ _)); exact BK157.out)) : gb158 ≠ gb157)); clear BK157; clear HB; have BK157 := n0_; have HB := n1_; have BK158 := n2_; have GW158 := n3_; have GE158 := n4_; have NB157_158 := n5_; have NB158_157 := n6_; clear n0_ n1_ n2_ n3_ n4_ n5_ n6_; clear hb hbox hg; have hnb37 := NB157_158.out; have hnc37 := NB158_157.out; have hcz38_0 : w36.cell? ⟨gb157, 0, none⟩ = some (.int .i64 a0_0) := (blk_cell BK157.out 0).trans rfl; have hcz38_1 : w36.cell? ⟨gb157, 1, none⟩ = some (.int .i64 a0_1) := (blk_cell BK157.out 1).trans rfl; have hcz38_2 : w36.cell? ⟨gb157, 2, none⟩ = some (.int .i64 a0_2) := (blk_cell BK157.out 2).trans rfl; have hcz38_3 : w36.cell? ⟨gb157, 3, none⟩ = some (.slice A0_3 l0_3.length c0_3) := (blk_cell BK157.out 3).trans rfl; have hcz38_4 : w36.cell? ⟨gb157, 4, none⟩ = some (.int .i64 a0_4) := (blk_cell BK157.out 4).trans rfl; have hcz38_5 : w36.cell? ⟨gb157, 5, none⟩ = some (.int .i64 a0_5) := (blk_cell BK157.out 5).trans rfl; have hcz38_6 : w36.cell? ⟨gb157, 6, none⟩ = some (.int .i64 a0_6) := (blk_cell BK157.out 6).trans rfl; have hfz38_0 := blk_frozen BK157.out 0; have hfz38_1 := blk_frozen BK157.out 1; have hfz38_2 := blk_frozen BK157.out 2; have hfz38_3 := blk_frozen BK157.out 3; have hfz38_4 := blk_frozen BK157.out 4; have hfz38_5 := blk_frozen BK157.out 5; have hfz38_6 := blk_frozen BK157.out 6; have hcz39_0 : w36.cell? ⟨gb158, 0, none⟩ = some (.int .i64 a1_0) := (blk_cell BK158.out 0).trans rfl; have hcz39_1 : w36.cell? ⟨gb158, 1, none⟩ = some (.int .i64 a1_1) := (blk_cell BK158.out 1).trans rfl; have hcz39_2 : w36.cell? ⟨gb158, 2, none⟩ = some (.int .i64 a1_2) := (blk_cell BK158.out 2).trans rfl; have hcz39_3 : w36.cell? ⟨gb158, 3, none⟩ = some (.slice A1_3 l1_3.length c1_3) := (blk_cell BK158.out 3).trans rfl; have hcz39_4 : w36.cell? ⟨gb158, 4, none⟩ = some (.int .i64 a1_4) := (blk_cell BK158.out 4).trans rfl; have hcz39_5 : w36.cell? ⟨gb158, 5, none⟩ = some (.int .i64 a1_5) := (blk_cell BK158.out 5).trans rfl; have hcz39_6 : w36.cell? ⟨gb158, 6, none⟩ = some (.int .i64 a1_6) := (blk_cell BK158.out 6).trans rfl; have hfz39_0 := blk_frozen BK158.out 0; have hfz39_1 := blk_frozen BK158.out 1; have hfz39_2 := blk_frozen BK158.out 2; have hfz39_3 := blk_frozen BK158.out 3; have hfz39_4 := blk_frozen BK158.out 4; have hfz39_5 := blk_frozen BK158.out 5; have hfz39_6 := blk_frozen BK158.out 6))
   go_ret
   exact ⟨by first | rfl | (simp [errW_none, errW_some] <;> rfl) | (simp [*, errW_none, errW_some] <;> rfl), by repeat (first | (with_reducible first | exact HB.out | apply below_alloc | apply pw_below_drewN | apply below_drew1 | refine below_set ?_ GE157.out | refine below_set ?_ GE158.out) | exact HB.out)⟩
 ·rw [if_neg c3] at H
  have c3b0 : (a0_0 == a1_0) = false := beq_eq_false_iff_ne.mpr c3
  have c3b1 : (a0_0 != a1_0) = true := bne_iff_ne.mpr c3
  obtain rfl := Option.some.inj H
  go_enter Try.func49, Try.ntmps49
  go_wp2_with (first | ((with_reducible refine gate_dst (N := 2) rfl ?_); refine box_event ?hg (N := 2) ?hd (cs := #[.int .i64 a0_0, .int .i64 a0_1, .int .i64 a0_2, .slice A0_3 l0_3.length c0_3, .int .i64 a0_4, .int .i64 a0_5, .int .i64 a0_6]) (t := 38) ?hr ?_; (case hd => rfl); (case hg => rfl); (case hr => first | (go_simp; done) | (go_simp; rfl)); intro gb157 hg w40 hbox hb; have n0_ := Aside0.mk (below_step (by repeat (first | (with_reducible first | exact HB.out | apply below_alloc | apply pw_below_drewN | apply below_drew1) | exact HB.out)) hb); have n1_ := Aside0.mk (hbox); have n2_ := Aside0.mk ((by rw [hg]; exact (below_size (by repeat (first | (with_reducible first | exact HB.out | apply below_alloc | apply pw_below_drewN | apply below_drew1) | exact HB.out))) : w.heap.size ≤ gb157)); have n3_ := Aside0.mk ((by rw [hg]; exact (below_size (by repeat (first | (with_reducible first | exact HB.out | apply below_alloc | apply pw_below_drewN | apply below_drew1) | exact HB.out))) : w.heap.size ≤ gb157)); clear HB; have HB := n0_; have BK157 := n1_; have GW157 := n2_; have GE157 := n3_; clear n0_ n1_ n2_ n3_; clear hb hbox hg) | ((with_reducible refine gate_dst (N := 3) rfl ?_); refine box_event ?hg (N := 3) ?hd (cs := #[.int .i64 a1_0, .int .i64 a1_1, .int .i64 a1_2, .slice A1_3 l1_3.length c1_3, .int .i64 a1_4, .int .i64 a1_5, .int .i64 a1_6]) (t := 38) ?hr ?_; (case hd => rfl); (case hg => rfl); (case hr => first | (go_simp; done) | (go_simp; rfl)); intro gb158 hg w41 hbox hb; have n0_ := Aside0.mk (blk_below (g := gb157) (o := .cells #[.int .i64 a0_0, .int .i64 a0_1, .int .i64 a0_2, .slice A0_3 l0_3.length c0_3, .int .i64 a0_4, .int .i64 a0_5, .int .i64 a0_6] 38 (0, 0)) (by (with_reducible repeat (first | refine blk_drewN ?_ _ | refine blk_drew ?_ | refine blk_alloc ?_ _)); exact BK157.out) hb); have n1_ := Aside0.mk (below_step (by repeat (first | (with_reducible first | exact HB.out | apply below_alloc | apply pw_below_drewN | apply below_drew1 | refine below_set ?_ GE157.out) | exact HB.out)) hb); have n2_ := Aside0.mk (hbox); have n3_ := Aside0.mk ((by rw [hg]; exact (below_size (by repeat (first | (with_reducible first | exact HB.out | apply below_alloc | apply pw_below_drewN | apply below_drew1 | refine below_set ?_ GE157.out) | exact HB.out))) : w.heap.size ≤ gb158)); have n4_ := Aside0.mk ((by rw [hg]; exact (below_size (by repeat (first | (with_reducible first | exact HB.out | apply below_alloc | apply pw_below_drewN | apply below_drew1 | refine below_set ?_ GE157.out) | exact HB.out))) : w.heap.size ≤ gb158)); have n5_ := Aside0.mk ((by rw [hg]; exact Nat.ne_of_lt (blk_lt (g := gb157) (o := .cells #[.int .i64 a0_0, .int .i64 a0_1, .int .i64 a0_2, .slice A0_3 l0_3.length c0_3, .int .i64 a0_4, .int .i64 a0_5, .int .i64 a0_6] 38 (0, 0)) (by (with_reducible repeat (first | refine blk_drewN ?_ _ | refine blk_drew ?_ | refine blk_alloc ?_ _)); exact BK157.out)) : gb157 ≠ gb158)); have n6_ := Aside0.mk ((by rw [hg]; exact Nat.ne_of_gt (blk_lt (g := gb157) (o := .cells #[.int .i64 a0_0, .int .i64 a0_1, .int .i64 a0_2, .slice A0_3 l0_3.length c0_3, .int .i64 a0_4, .int .i64 a0_5, .int .i64 a0_6] 38 (0, 0)) (by (with_reducible repeat (first | refine blk_drewN ?_ _ | refine blk_drew ?_ | refine blk_alloc ?_ _)); exact BK157.out)) : gb158 ≠ gb157)); clear BK157; clear HB; have BK157 := n0_; have HB := n1_; have BK158 := n2_; have GW158 := n3_; have GE158 := n4_; have NB157_158 := n5_; have NB158_157 := n6_; clear n0_ n1_ n2_ n3_ n4_ n5_ n6_; clear hb hbox hg; have hnb42 := NB157_158.out; have hnc42 := NB158_157.out; have hcz43_0 : w41.cell? ⟨gb157, 0, none⟩ = some (.int .i64 a0_0) := (blk_cell BK157.out 0).trans rfl; have hcz43_1 : w41.cell? ⟨gb157, 1, none⟩ = some (.int .i64 a0_1) := (blk_cell BK157.out 1).trans rfl; have hcz43_2 : w41.cell? ⟨gb157, 2, none⟩ = some (.int .i64 a0_2) := (blk_cell BK157.out 2).trans rfl; have hcz43_3 : w41.cell? ⟨gb157, 3, none⟩ = some (.slice A0_3 l0_3.length c0_3) := (blk_cell BK157.out 3).trans rfl; have hcz43_4 : w41.cell? ⟨gb157, 4, none⟩ = some (.int .i64 a0_4) := (blk_cell BK157.out 4).trans rfl; have hcz43_5 : w41.cell? ⟨gb157, 5, none⟩ = some (.int .i64 a0_5) := (blk_cell BK157.out 5).trans rfl; have hcz43_6 : w41.cell? ⟨gb157, 6, none⟩ = some (.int .i64 a0_6) := (blk_cell BK157.out 6).trans rfl; have hfz43_0 := blk_frozen BK157.out 0; have hfz43_1 := blk_frozen BK157.out 1; have hfz43_2 := blk_frozen BK157.out 2; have hfz43_3 := blk_frozen BK157.out 3; have hfz43_4 := blk_frozen BK157.out 4; have hfz43_5 := blk_frozen BK157.out 5; have hfz43_6 := blk_frozen BK157.out 6; have hcz44_0 : w41.cell? ⟨gb158, 0, none⟩ = some (.int .i64 a1_0) := (blk_cell BK158.out 0).trans rfl; have hcz44_1 : w41.cell? ⟨gb158, 1, none⟩ = some (.int .i64 a1_1) := (blk_cell BK158.out 1).trans rfl; have hcz44_2 : w41.cell? ⟨gb158, 2, none⟩ = some (.int .i64 a1_2) := (blk_cell BK158.out 2).trans rfl; have hcz44_3 : w41.cell? ⟨gb158, 3, none⟩ = some (.slice A1_3 l1_3.length c1_3) := (blk_cell BK158.out 3).trans rfl; have hcz44_4 : w41.cell? ⟨gb158, 4, none⟩ = some (.int .i64 a1_4) := (blk_cell BK158.out 4).trans rfl; have hcz44_5 : w41.cell? ⟨gb158, 5, none⟩ = some (.int .i64 a1_5) := (blk_cell BK158.out 5).trans rfl; have hcz44_6 : w41.cell? ⟨gb158, 6, none⟩ = some (.int .i64 a1_6) := (blk_cell BK158.out 6).trans rfl; have hfz44_0 := blk_frozen BK158.out 0; have hfz44_1 := blk_frozen BK158.out 1; have hfz44_2 := blk_frozen BK158.out 2; have hfz44_3 := blk_frozen BK158.out 3; have hfz44_4 := blk_frozen BK158.out 4; have hfz44_5 := blk_frozen BK158.out 5; have hfz44_6 := blk_frozen BK158.out 6))
  go_ret
  exact ⟨by first | rfl | (simp [errW_none, errW_some] <;> rfl) | (simp [*, errW_none, errW_some] <;> rfl), by repeat (first | (with_reducible first | exact HB.out | apply below_alloc | apply pw_below_drewN | apply below_drew1 | refine below_set ?_ GE157.out | refine below_set ?_ GE158.out) | exact HB.out)⟩
end Go.Proofs.Ytohkmmbmfhficaa.PG
