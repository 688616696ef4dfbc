/- Words and walks that this claim names, of those that the kit's print and programs of this workplace have printed. -/
import Derived.Test.YtohkmmbmfhficaaZTCz
import Derived.Test.YtohkmmbmfhficaaZTPTx5
import Derived.Test.YtohkmmbmfhficaaZTPTx38
import Derived.Test.YtohkmmbmfhficaaZTPTx60
namespace Go.Proofs.Ytohkmmbmfhficaa.PT
open Go.Proofs.Ytohkmmbmfhficaa Go.RowKit Go.Proofs.YtohkmmbmfhficaaW.PrintWords Go.Proofs.YtohkmmbmfhficaaW.PrintLast Go.Proofs.YtohkmmbmfhficaaW.PrintMore
attribute [local go_sem] max2_int min2_int max_two min_two max_three min_three max_four min_four
set_option linter.unusedVariables false
set_option linter.unusedSimpArgs false
set_option maxHeartbeats 4000000 in
set_option maxRecDepth 2000000 in
theorem stream_reader_take.no (gr b0 : Nat) (B P T many : Int) (done : Bool) (v vd : Value) (L : List Pl.Ext) (k a n : Int) (d : List Int) (x y z : Int) (Aa : Option Addr) (ah : List Int) (ca : Nat) (w : World)
  (hgr : w.heap[gr]? = some (.cells #[.int .i64 B, .int .i64 P, .int .i64 T, v, .int .i64 many, .bool done] 62 (0, 0))) (b1 : b0 ≤ gr) (hm : 0 ≤ many ∧ many ≤ 1000000) (hL : Kd.R k36 36 w b0 (fun _ => True) v (L.map ofE)) (hd : Kd.R (Kd.int .u8) 5 w b0 (fun _ => True) vd d) (ha : Kd.C (Kd.int .u8) w Aa ah.length ah) (h : (k == 1) = !(many == 0)) :
  Calls Try.prog 37 #[.pointer (some ⟨gr, 0, none⟩), .agg #[.int .i64 k, .int .i64 a, .int .i64 n, vd, .int .i64 x, .int .i64 y, .int .i64 z], .slice Aa ah.length ca] w fun e w' => e = .returned (.bool false) ∧ Below b0 w w' := by
 have GR := Aside0.mk hgr
 have BL := Aside0.mk hL
 have BD := Aside0.mk hd
 have HA := Aside0.mk ha
 have B1 := Aside0.mk b1
 have MM := Aside0.mk hm
 have HB := Aside0.mk (Below.refl b0 w)
 have HS0 := Aside0.mk (show b0 ≤ w.heap.size from Nat.le_of_lt (Nat.lt_of_le_of_lt B1.out (blk_lt GR.out)))
 obtain ⟨Ad, cd, ed⟩ := Kd.R_slice hd
 subst ed
 clear hgr hL hd b1 hm ha
 generalize e1 : (k == 1) = c1 at h
 generalize e2 : (many == 0) = c2 at h
 go_enter Try.func37, Try.ntmps37
 go_wp2_with (((with_reducible refine gate_dst (N := 4) rfl ?_); refine Cz.bx (N := 4) #[.int .i64 k, .int .i64 a, .int .i64 n, .slice Ad d.length cd, .int .i64 x, .int .i64 y, .int .i64 z] 38 ?_; intro gf hg w1 hbox hb; clear hg; have m_GR := Aside0.mk (blk_below GR.out hb); have m_BL := Aside0.mk (Kd.R_below BL.out hb); have m_BD := Aside0.mk (Kd.R_below BD.out hb); have m_HA := Aside0.mk (Kd.C_below HA.out hb); have m_HB := Aside0.mk (below_then HB.out (Nat.le_trans HS0.out HB.out.size) hb); clear GR BL BD HA HB; have GR := m_GR; have BL := m_BL; have BD := m_BD; have HA := m_HA; have HB := m_HB; clear m_GR m_BL m_BD m_HA m_HB; have BF := Aside0.mk hbox; clear hbox hb))
 have m_GR := Aside0.mk (blk_drew GR.out)
 have m_BL := Aside0.mk (Kd.R_drew BL.out)
 have m_BD := Aside0.mk (Kd.R_drew BD.out)
 have m_HA := Aside0.mk (Kd.C_drew HA.out)
 have m_HB := Aside0.mk (below_drew HB.out)
 have m_BF := Aside0.mk (blk_drew BF.out)
 clear GR BL BD HA HB BF
 have GR := m_GR
 have BL := m_BL
 have BD := m_BD
 have HA := m_HA
 have HB := m_HB
 have BF := m_BF
 clear m_GR m_BL m_BD m_HA m_HB m_BF
 refine start_ (n := 9) (S := fun w' => w'.cell? ⟨gf, 0, none⟩ = some (.int .i64 k) ∧ w'.cell? ⟨gr, 4, none⟩ = some (.int .i64 many)) (ds := []) #[false, false, false, false, false, false, false, false, false] (by kernel_rfl) rfl rfl ⟨((blk_cell BF.out 0).trans rfl), ((blk_cell GR.out 4).trans rfl)⟩ (fun hHeld => ?_)
 generalize w1.drew = w2 at GR BL BD HA HB BF hHeld ⊢
 refine Cz.rP 0 7 ?_
 refine Cz.rP 3 10 ?_
 refine Cz.rP 4 11 ?_
 refine Cz.rP 5 12 ?_
 refine Cz.rT 1 8 hHeld ?_
 refine Cz.rP 2 9 ?_
 refine Cz.rT 6 13 hHeld ?_
 refine Cz.rP 7 14 ?_
 refine Cz.rP 8 15 ?_
 refine done_ (by kernel_rfl) ?_
 subst h
 cases c2 <;> (go_wp2; refine bodyPost_ret (results_tmp rfl _ _ _) rfl ?_; exact ⟨rfl, HB.out⟩)
set_option maxHeartbeats 4000000 in
set_option maxRecDepth 2000000 in
theorem stream_reader_take.head (gr b0 : Nat) (B P T many : Int) (done : Bool) (v vd : Value) (L : List Pl.Ext) (k a n : Int) (d : List Int) (x y z : Int) (Aa : Option Addr) (ah : List Int) (ca : Nat) (w : World)
  (hgr : w.heap[gr]? = some (.cells #[.int .i64 B, .int .i64 P, .int .i64 T, v, .int .i64 many, .bool done] 62 (0, 0))) (b1 : b0 ≤ gr) (hm : 0 ≤ many ∧ many ≤ 1000000) (hL : Kd.R k36 36 w b0 (fun _ => True) v (L.map ofE)) (hd : Kd.R (Kd.int .u8) 5 w b0 (fun _ => True) vd d) (ha : Kd.C (Kd.int .u8) w Aa ah.length ah) (hx : ∀ w', Below b0 w w' → Kd.C (Kd.int .u8) w' Aa ah.length ah) (e1 : (k == 1) = true) (e2 : (many == 0) = true) :
  Calls Try.prog 37 #[.pointer (some ⟨gr, 0, none⟩), .agg #[.int .i64 k, .int .i64 a, .int .i64 n, vd, .int .i64 x, .int .i64 y, .int .i64 z], .slice Aa ah.length ca] w fun e w' => e = .returned (.bool true) ∧ w'.heap[gr]? = some (.cells #[.int .i64 x, .int .i64 y, .int .i64 z, .slice none 0 0, .int .i64 (many + 1), .bool done] 62 (0, 0)) ∧ Below b0 w w' := by
 have GR := Aside0.mk hgr
 have BL := Aside0.mk hL
 have BD := Aside0.mk hd
 have HA := Aside0.mk ha
 have B1 := Aside0.mk b1
 have MM := Aside0.mk hm
 have HB := Aside0.mk (Below.refl b0 w)
 have HS0 := Aside0.mk (show b0 ≤ w.heap.size from Nat.le_of_lt (Nat.lt_of_le_of_lt B1.out (blk_lt GR.out)))
 obtain ⟨Ad, cd, ed⟩ := Kd.R_slice hd
 subst ed
 clear hgr hL hd b1 hm ha
 have HX := Aside0.mk hx
 clear hx
 go_enter Try.func37, Try.ntmps37
 go_wp2_with (((with_reducible refine gate_dst (N := 4) rfl ?_); refine Cz.bx (N := 4) #[.int .i64 k, .int .i64 a, .int .i64 n, .slice Ad d.length cd, .int .i64 x, .int .i64 y, .int .i64 z] 38 ?_; intro gf hg w1 hbox hb; clear hg; have m_GR := Aside0.mk (blk_below GR.out hb); have m_BL := Aside0.mk (Kd.R_below BL.out hb); have m_BD := Aside0.mk (Kd.R_below BD.out hb); have m_HA := Aside0.mk (Kd.C_below HA.out hb); have m_HB := Aside0.mk (below_then HB.out (Nat.le_trans HS0.out HB.out.size) hb); clear GR BL BD HA HB; have GR := m_GR; have BL := m_BL; have BD := m_BD; have HA := m_HA; have HB := m_HB; clear m_GR m_BL m_BD m_HA m_HB; have BF := Aside0.mk hbox; clear hbox hb))
 have m_GR := Aside0.mk (blk_drew GR.out)
 have m_BL := Aside0.mk (Kd.R_drew BL.out)
 have m_BD := Aside0.mk (Kd.R_drew BD.out)
 have m_HA := Aside0.mk (Kd.C_drew HA.out)
 have m_HB := Aside0.mk (below_drew HB.out)
 have m_BF := Aside0.mk (blk_drew BF.out)
 clear GR BL BD HA HB BF
 have GR := m_GR
 have BL := m_BL
 have BD := m_BD
 have HA := m_HA
 have HB := m_HB
 have BF := m_BF
 clear m_GR m_BL m_BD m_HA m_HB m_BF
 refine start_ (n := 9) (S := fun w' => w'.cell? ⟨gf, 0, none⟩ = some (.int .i64 k) ∧ w'.cell? ⟨gr, 4, none⟩ = some (.int .i64 many)) (ds := []) #[false, false, false, false, false, false, false, false, false] (by kernel_rfl) rfl rfl ⟨((blk_cell BF.out 0).trans rfl), ((blk_cell GR.out 4).trans rfl)⟩ (fun hHeld => ?_)
 generalize w1.drew = w2 at GR BL BD HA HB BF hHeld ⊢
 refine Cz.rP 0 7 ?_
 refine Cz.rP 3 10 ?_
 refine Cz.rP 4 11 ?_
 refine Cz.rP 5 12 ?_
 refine Cz.rT 1 8 hHeld ?_
 refine Cz.rP 2 9 ?_
 refine Cz.rT 6 13 hHeld ?_
 refine Cz.rP 7 14 ?_
 refine Cz.rP 8 15 ?_
 refine done_ (by kernel_rfl) ?_
 have hw1 : wrap64 (many + 1) = many + 1 := by have := MM.out; unfold wrap64; omega
 have hcr4 : w2.cell? ⟨gr, 4, none⟩ = some (.int .i64 many) := ((blk_cell GR.out 4).trans rfl)
 have hfr4 := blk_frozen GR.out 4
 go_upto_region 4 with (fail)
 have m1 : Aside0 ((w2.setCell ⟨gr, 4, none⟩ (.int .i64 (many + 1))).heap[gr]? = some (.cells #[.int .i64 B, .int .i64 P, .int .i64 T, v, .int .i64 (many + 1), .bool done] 62 (0, 0))) := ⟨blk_put GR.out 4 _ rfl⟩
 have m2 : Aside0 ((w2.setCell ⟨gr, 4, none⟩ (.int .i64 (many + 1))).heap[gf]? = _) := ⟨blk_far BF.out (p := ⟨gr, 4, none⟩) (blk_ne BF.out GR.out (by decide)) _⟩
 have m3 := Aside0.mk (show Kd.R k36 36 (w2.setCell ⟨gr, 4, none⟩ (.int .i64 (many + 1))) b0 (fun _ => True) v (L.map ofE) from Kd.R_mono (Kd.R_far (p := ⟨gr, 4, none⟩) (Kd.R_types BL.out GR.out (by decide)) (fun _ hk => hk.2) _) (fun _ _ => trivial))
 have m4 := Aside0.mk (show Kd.R (Kd.int .u8) 5 (w2.setCell ⟨gr, 4, none⟩ (.int .i64 (many + 1))) b0 (fun _ => True) _ d from Kd.R_mono (Kd.R_far (p := ⟨gr, 4, none⟩) (Kd.R_types BD.out GR.out (by decide)) (fun _ hk => hk.2) _) (fun _ _ => trivial))
 have m5 : Aside0 (Kd.C (Kd.int .u8) (w2.setCell ⟨gr, 4, none⟩ (.int .i64 (many + 1))) Aa ah.length ah) := ⟨HX.out _ (HB.out.setCell (p := ⟨gr, 4, none⟩) B1.out _)⟩
 have m6 : Aside0 (Below b0 w (w2.setCell ⟨gr, 4, none⟩ (.int .i64 (many + 1)))) := ⟨HB.out.setCell (p := ⟨gr, 4, none⟩) B1.out _⟩
 generalize (w2.setCell ⟨gr, 4, none⟩ (.int .i64 (many + 1))) = w3 at m1 m2 m3 m4 m5 m6 ⊢
 clear GR BF BL BD HA HB hHeld hw1 hcr4 hfr4
 have GR := m1
 have BF := m2
 have BL := m3
 have BD := m4
 have HA := m5
 have HB := m6
 clear m1 m2 m3 m4 m5 m6
 have hcf0 : w3.cell? ⟨gf, 0, none⟩ = some (.int .i64 k) := ((blk_cell BF.out 0).trans rfl)
 have hcf4 : w3.cell? ⟨gf, 4, none⟩ = some (.int .i64 x) := ((blk_cell BF.out 4).trans rfl)
 have hcf5 : w3.cell? ⟨gf, 5, none⟩ = some (.int .i64 y) := ((blk_cell BF.out 5).trans rfl)
 have hcf6 : w3.cell? ⟨gf, 6, none⟩ = some (.int .i64 z) := ((blk_cell BF.out 6).trans rfl)
 have hff0 := blk_frozen BF.out 0
 have hff4 := blk_frozen BF.out 4
 have hff5 := blk_frozen BF.out 5
 have hff6 := blk_frozen BF.out 6
 have hcr0 : w3.cell? ⟨gr, 0, none⟩ = some (.int .i64 B) := ((blk_cell GR.out 0).trans rfl)
 have hcr1 : w3.cell? ⟨gr, 1, none⟩ = some (.int .i64 P) := ((blk_cell GR.out 1).trans rfl)
 have hcr2 : w3.cell? ⟨gr, 2, none⟩ = some (.int .i64 T) := ((blk_cell GR.out 2).trans rfl)
 have hcr3 : w3.cell? ⟨gr, 3, none⟩ = some (v) := ((blk_cell GR.out 3).trans rfl)
 have hfr0 := blk_frozen GR.out 0
 have hfr1 := blk_frozen GR.out 1
 have hfr2 := blk_frozen GR.out 2
 have hfr3 := blk_frozen GR.out 3
 go_wp2
 refine bodyPost_ret (results_tmp rfl _ _ _) rfl ?_
 exact ⟨rfl, blk_put (blk_put (blk_put (blk_put GR.out 0 _ rfl) 1 _ rfl) 2 _ rfl) 3 _ rfl, (((HB.out.setCell (p := ⟨gr, 0, none⟩) B1.out _).setCell (p := ⟨gr, 1, none⟩) B1.out _).setCell (p := ⟨gr, 2, none⟩) B1.out _).setCell (p := ⟨gr, 3, none⟩) B1.out _⟩
set_option maxHeartbeats 4000000 in
set_option maxRecDepth 2000000 in
theorem stream_reader_take.endB_no (gr b0 : Nat) (B P T many : Int) (done : Bool) (v vd : Value) (L : List Pl.Ext) (k a n : Int) (d : List Int) (x y z : Int) (Aa : Option Addr) (ah : List Int) (ca : Nat) (w : World)
  (hgr : w.heap[gr]? = some (.cells #[.int .i64 B, .int .i64 P, .int .i64 T, v, .int .i64 many, .bool done] 62 (0, 0))) (b1 : b0 ≤ gr) (hm : 0 ≤ many ∧ many ≤ 1000000) (hL : Kd.R k36 36 w b0 (fun _ => True) v (L.map ofE)) (hd : Kd.R (Kd.int .u8) 5 w b0 (fun _ => True) vd d) (ha : Kd.C (Kd.int .u8) w Aa ah.length ah) (hx : ∀ w', Below b0 w w' → Kd.C (Kd.int .u8) w' Aa ah.length ah) (e1 : (k == 1) = false) (e2 : (many == 0) = false) (e5 : (k == 5) = true) (ex : x ≠ many) :
  Calls Try.prog 37 #[.pointer (some ⟨gr, 0, none⟩), .agg #[.int .i64 k, .int .i64 a, .int .i64 n, vd, .int .i64 x, .int .i64 y, .int .i64 z], .slice Aa ah.length ca] w fun e w' => e = .returned (.bool false) ∧ w'.heap[gr]? = some (.cells #[.int .i64 B, .int .i64 P, .int .i64 T, v, .int .i64 (many + 1), .bool true] 62 (0, 0)) ∧ Kd.R k36 36 w' b0 (fun _ => True) v (L.map ofE) ∧ Below b0 w w' := by
 have GR := Aside0.mk hgr
 have BL := Aside0.mk hL
 have BD := Aside0.mk hd
 have HA := Aside0.mk ha
 have B1 := Aside0.mk b1
 have MM := Aside0.mk hm
 have HB := Aside0.mk (Below.refl b0 w)
 have HS0 := Aside0.mk (show b0 ≤ w.heap.size from Nat.le_of_lt (Nat.lt_of_le_of_lt B1.out (blk_lt GR.out)))
 obtain ⟨Ad, cd, ed⟩ := Kd.R_slice hd
 subst ed
 clear hgr hL hd b1 hm ha
 have HX := Aside0.mk hx
 clear hx
 have EX := Aside0.mk ex
 clear ex
 go_enter Try.func37, Try.ntmps37
 go_wp2_with (((with_reducible refine gate_dst (N := 4) rfl ?_); refine Cz.bx (N := 4) #[.int .i64 k, .int .i64 a, .int .i64 n, .slice Ad d.length cd, .int .i64 x, .int .i64 y, .int .i64 z] 38 ?_; intro gf hg w1 hbox hb; clear hg; have m_GR := Aside0.mk (blk_below GR.out hb); have m_BL := Aside0.mk (Kd.R_below BL.out hb); have m_BD := Aside0.mk (Kd.R_below BD.out hb); have m_HA := Aside0.mk (Kd.C_below HA.out hb); have m_HB := Aside0.mk (below_then HB.out (Nat.le_trans HS0.out HB.out.size) hb); clear GR BL BD HA HB; have GR := m_GR; have BL := m_BL; have BD := m_BD; have HA := m_HA; have HB := m_HB; clear m_GR m_BL m_BD m_HA m_HB; have BF := Aside0.mk hbox; clear hbox hb))
 have m_GR := Aside0.mk (blk_drew GR.out)
 have m_BL := Aside0.mk (Kd.R_drew BL.out)
 have m_BD := Aside0.mk (Kd.R_drew BD.out)
 have m_HA := Aside0.mk (Kd.C_drew HA.out)
 have m_HB := Aside0.mk (below_drew HB.out)
 have m_BF := Aside0.mk (blk_drew BF.out)
 clear GR BL BD HA HB BF
 have GR := m_GR
 have BL := m_BL
 have BD := m_BD
 have HA := m_HA
 have HB := m_HB
 have BF := m_BF
 clear m_GR m_BL m_BD m_HA m_HB m_BF
 refine start_ (n := 9) (S := fun w' => w'.cell? ⟨gf, 0, none⟩ = some (.int .i64 k) ∧ w'.cell? ⟨gr, 4, none⟩ = some (.int .i64 many)) (ds := []) #[false, false, false, false, false, false, false, false, false] (by kernel_rfl) rfl rfl ⟨((blk_cell BF.out 0).trans rfl), ((blk_cell GR.out 4).trans rfl)⟩ (fun hHeld => ?_)
 generalize w1.drew = w2 at GR BL BD HA HB BF hHeld ⊢
 refine Cz.rP 0 7 ?_
 refine Cz.rP 3 10 ?_
 refine Cz.rP 4 11 ?_
 refine Cz.rP 5 12 ?_
 refine Cz.rT 1 8 hHeld ?_
 refine Cz.rP 2 9 ?_
 refine Cz.rT 6 13 hHeld ?_
 refine Cz.rP 7 14 ?_
 refine Cz.rP 8 15 ?_
 refine done_ (by kernel_rfl) ?_
 have hw1 : wrap64 (many + 1) = many + 1 := by have := MM.out; unfold wrap64; omega
 have hcr4 : w2.cell? ⟨gr, 4, none⟩ = some (.int .i64 many) := ((blk_cell GR.out 4).trans rfl)
 have hfr4 := blk_frozen GR.out 4
 go_upto_region 4 with (fail)
 have m1 : Aside0 ((w2.setCell ⟨gr, 4, none⟩ (.int .i64 (many + 1))).heap[gr]? = some (.cells #[.int .i64 B, .int .i64 P, .int .i64 T, v, .int .i64 (many + 1), .bool done] 62 (0, 0))) := ⟨blk_put GR.out 4 _ rfl⟩
 have m2 : Aside0 ((w2.setCell ⟨gr, 4, none⟩ (.int .i64 (many + 1))).heap[gf]? = _) := ⟨blk_far BF.out (p := ⟨gr, 4, none⟩) (blk_ne BF.out GR.out (by decide)) _⟩
 have m3 := Aside0.mk (show Kd.R k36 36 (w2.setCell ⟨gr, 4, none⟩ (.int .i64 (many + 1))) b0 (fun _ => True) v (L.map ofE) from Kd.R_mono (Kd.R_far (p := ⟨gr, 4, none⟩) (Kd.R_types BL.out GR.out (by decide)) (fun _ hk => hk.2) _) (fun _ _ => trivial))
 have m4 := Aside0.mk (show Kd.R (Kd.int .u8) 5 (w2.setCell ⟨gr, 4, none⟩ (.int .i64 (many + 1))) b0 (fun _ => True) _ d from Kd.R_mono (Kd.R_far (p := ⟨gr, 4, none⟩) (Kd.R_types BD.out GR.out (by decide)) (fun _ hk => hk.2) _) (fun _ _ => trivial))
 have m5 : Aside0 (Kd.C (Kd.int .u8) (w2.setCell ⟨gr, 4, none⟩ (.int .i64 (many + 1))) Aa ah.length ah) := ⟨HX.out _ (HB.out.setCell (p := ⟨gr, 4, none⟩) B1.out _)⟩
 have m6 : Aside0 (Below b0 w (w2.setCell ⟨gr, 4, none⟩ (.int .i64 (many + 1)))) := ⟨HB.out.setCell (p := ⟨gr, 4, none⟩) B1.out _⟩
 generalize (w2.setCell ⟨gr, 4, none⟩ (.int .i64 (many + 1))) = w3 at m1 m2 m3 m4 m5 m6 ⊢
 clear GR BF BL BD HA HB hHeld hw1 hcr4 hfr4
 have GR := m1
 have BF := m2
 have BL := m3
 have BD := m4
 have HA := m5
 have HB := m6
 clear m1 m2 m3 m4 m5 m6
 have hcf0 : w3.cell? ⟨gf, 0, none⟩ = some (.int .i64 k) := ((blk_cell BF.out 0).trans rfl)
 have hff0 := blk_frozen BF.out 0
 have hcr5 : w3.cell? ⟨gr, 5, none⟩ = some (.bool done) := ((blk_cell GR.out 5).trans rfl)
 have hfr5 := blk_frozen GR.out 5
 go_upto_region 10 with (fail)
 have m1 : Aside0 ((w3.setCell ⟨gr, 5, none⟩ (.bool true)).heap[gr]? = some (.cells #[.int .i64 B, .int .i64 P, .int .i64 T, v, .int .i64 (many + 1), .bool true] 62 (0, 0))) := ⟨blk_put GR.out 5 _ rfl⟩
 have m2 : Aside0 ((w3.setCell ⟨gr, 5, none⟩ (.bool true)).heap[gf]? = _) := ⟨blk_far BF.out (p := ⟨gr, 5, none⟩) (blk_ne BF.out GR.out (by decide)) _⟩
 have m3 := Aside0.mk (show Kd.R k36 36 (w3.setCell ⟨gr, 5, none⟩ (.bool true)) b0 (fun _ => True) v (L.map ofE) from Kd.R_mono (Kd.R_far (p := ⟨gr, 5, none⟩) (Kd.R_types BL.out GR.out (by decide)) (fun _ hk => hk.2) _) (fun _ _ => trivial))
 have m5 : Aside0 (Kd.C (Kd.int .u8) (w3.setCell ⟨gr, 5, none⟩ (.bool true)) Aa ah.length ah) := ⟨HX.out _ (HB.out.setCell (p := ⟨gr, 5, none⟩) B1.out _)⟩
 have m6 : Aside0 (Below b0 w (w3.setCell ⟨gr, 5, none⟩ (.bool true))) := ⟨HB.out.setCell (p := ⟨gr, 5, none⟩) B1.out _⟩
 generalize (w3.setCell ⟨gr, 5, none⟩ (.bool true)) = w4 at m1 m2 m3 m5 m6 ⊢
 clear GR BF BL BD HA HB hcf0 hff0 hcr5 hfr5
 have GR := m1
 have BF := m2
 have BL := m3
 have HA := m5
 have HB := m6
 clear m1 m2 m3 m5 m6
 have hw2 : wrap64 (many + 1 - 1) = many := by have := MM.out; unfold wrap64; omega
 have hw3 : wrap64 many = many := by have := MM.out; unfold wrap64; omega
 have e6 : (x == many) = false := beq_eq_false_iff_ne.mpr EX.out
 have m_GR := Aside0.mk (blk_drew GR.out)
 have m_BF := Aside0.mk (blk_drew BF.out)
 have m_BL := Aside0.mk (Kd.R_drew BL.out)
 have m_HA := Aside0.mk (Kd.C_drew HA.out)
 have m_HB := Aside0.mk (below_drew HB.out)
 clear GR BF BL HA HB
 have GR := m_GR
 have BF := m_BF
 have BL := m_BL
 have HA := m_HA
 have HB := m_HB
 clear m_GR m_BF m_BL m_HA m_HB
 refine start_ (n := 17) (S := fun w' => w'.cell? ⟨gf, 4, none⟩ = some (.int .i64 x) ∧ w'.cell? ⟨gr, 4, none⟩ = some (.int .i64 (many + 1))) (ds := []) #[false, false, false, false, false, false, false, false, false, false, false, false, false, false, false, false, false] (by kernel_rfl) rfl rfl ⟨((blk_cell BF.out 4).trans rfl), ((blk_cell GR.out 4).trans rfl)⟩ (fun hHeld => ?_)
 generalize w4.drew = w5 at GR BF BL HA HB hHeld ⊢
 refine Cz.rP 0 42 ?_
 refine Cz.rP 2 44 ?_
 refine Cz.rP 3 45 ?_
 refine Cz.rP 4 46 ?_
 refine Cz.rT 1 43 hHeld ?_
 refine Cz.rT 5 47 hHeld ?_
 refine Cz.rP 6 48 ?_
 refine Cz.rP 7 49 ?_
 refine Cz.rP 8 50 ?_
 refine Cz.rU 9 51 ?_
 refine Cz.rU 10 52 ?_
 refine Cz.rU 11 53 ?_
 refine Cz.rU 12 54 ?_
 refine Cz.rU 13 55 ?_
 refine Cz.rU 14 56 ?_
 refine Cz.rP 15 57 ?_
 refine Cz.rP 16 6 ?_
 refine done_ (by kernel_rfl) ?_
 go_wp2
 refine bodyPost_ret (results_tmp rfl _ _ _) rfl ?_
 exact ⟨rfl, GR.out, BL.out, HB.out⟩
set_option maxHeartbeats 4000000 in
set_option maxRecDepth 2000000 in
theorem stream_reader_take.endB (gr b0 : Nat) (B P T many : Int) (done : Bool) (v vd : Value) (L : List Pl.Ext) (k a n : Int) (d : List Int) (x y z : Int) (Aa : Option Addr) (ah : List Int) (ca : Nat) (s : Int) (c : Bool) (w : World)
  (hgr : w.heap[gr]? = some (.cells #[.int .i64 B, .int .i64 P, .int .i64 T, v, .int .i64 many, .bool done] 62 (0, 0))) (b1 : b0 ≤ gr) (hm : 0 ≤ many ∧ many ≤ 1000000) (hL : Kd.R k36 36 w b0 (fun _ => True) v (L.map ofE)) (hd : Kd.R (Kd.int .u8) 5 w b0 (fun _ => True) vd d) (ha : Kd.C (Kd.int .u8) w Aa ah.length ah) (hx : ∀ w', Below b0 w w' → Kd.C (Kd.int .u8) w' Aa ah.length ah) (e1 : (k == 1) = false) (e2 : (many == 0) = false) (e5 : (k == 5) = true) (hs : crc_Sum.f ah = some s) (hca : ah.length ≤ ca) (ex : x = many) (hy : (y == wrap64 s) = c) :
  Calls Try.prog 37 #[.pointer (some ⟨gr, 0, none⟩), .agg #[.int .i64 k, .int .i64 a, .int .i64 n, vd, .int .i64 x, .int .i64 y, .int .i64 z], .slice Aa ah.length ca] w fun e w' => e = .returned (.bool c) ∧ w'.heap[gr]? = some (.cells #[.int .i64 B, .int .i64 P, .int .i64 T, v, .int .i64 (many + 1), .bool true] 62 (0, 0)) ∧ Kd.R k36 36 w' b0 (fun _ => True) v (L.map ofE) ∧ Below b0 w w' := by
 have GR := Aside0.mk hgr
 have BL := Aside0.mk hL
 have BD := Aside0.mk hd
 have HA := Aside0.mk ha
 have B1 := Aside0.mk b1
 have MM := Aside0.mk hm
 have HB := Aside0.mk (Below.refl b0 w)
 have HS0 := Aside0.mk (show b0 ≤ w.heap.size from Nat.le_of_lt (Nat.lt_of_le_of_lt B1.out (blk_lt GR.out)))
 obtain ⟨Ad, cd, ed⟩ := Kd.R_slice hd
 subst ed
 clear hgr hL hd b1 hm ha
 have HX := Aside0.mk hx
 clear hx
 have HS := Aside0.mk hs
 have HC := Aside0.mk hca
 have HY := Aside0.mk hy
 clear hs hca hy
 have EX := Aside0.mk ex
 clear ex
 go_enter Try.func37, Try.ntmps37
 go_wp2_with (((with_reducible refine gate_dst (N := 4) rfl ?_); refine Cz.bx (N := 4) #[.int .i64 k, .int .i64 a, .int .i64 n, .slice Ad d.length cd, .int .i64 x, .int .i64 y, .int .i64 z] 38 ?_; intro gf hg w1 hbox hb; clear hg; have m_GR := Aside0.mk (blk_below GR.out hb); have m_BL := Aside0.mk (Kd.R_below BL.out hb); have m_BD := Aside0.mk (Kd.R_below BD.out hb); have m_HA := Aside0.mk (Kd.C_below HA.out hb); have m_HB := Aside0.mk (below_then HB.out (Nat.le_trans HS0.out HB.out.size) hb); clear GR BL BD HA HB; have GR := m_GR; have BL := m_BL; have BD := m_BD; have HA := m_HA; have HB := m_HB; clear m_GR m_BL m_BD m_HA m_HB; have BF := Aside0.mk hbox; clear hbox hb))
 have m_GR := Aside0.mk (blk_drew GR.out)
 have m_BL := Aside0.mk (Kd.R_drew BL.out)
 have m_BD := Aside0.mk (Kd.R_drew BD.out)
 have m_HA := Aside0.mk (Kd.C_drew HA.out)
 have m_HB := Aside0.mk (below_drew HB.out)
 have m_BF := Aside0.mk (blk_drew BF.out)
 clear GR BL BD HA HB BF
 have GR := m_GR
 have BL := m_BL
 have BD := m_BD
 have HA := m_HA
 have HB := m_HB
 have BF := m_BF
 clear m_GR m_BL m_BD m_HA m_HB m_BF
 refine start_ (n := 9) (S := fun w' => w'.cell? ⟨gf, 0, none⟩ = some (.int .i64 k) ∧ w'.cell? ⟨gr, 4, none⟩ = some (.int .i64 many)) (ds := []) #[false, false, false, false, false, false, false, false, false] (by kernel_rfl) rfl rfl ⟨((blk_cell BF.out 0).trans rfl), ((blk_cell GR.out 4).trans rfl)⟩ (fun hHeld => ?_)
 generalize w1.drew = w2 at GR BL BD HA HB BF hHeld ⊢
 refine Cz.rP 0 7 ?_
 refine Cz.rP 3 10 ?_
 refine Cz.rP 4 11 ?_
 refine Cz.rP 5 12 ?_
 refine Cz.rT 1 8 hHeld ?_
 refine Cz.rP 2 9 ?_
 refine Cz.rT 6 13 hHeld ?_
 refine Cz.rP 7 14 ?_
 refine Cz.rP 8 15 ?_
 refine done_ (by kernel_rfl) ?_
 have hw1 : wrap64 (many + 1) = many + 1 := by have := MM.out; unfold wrap64; omega
 have hcr4 : w2.cell? ⟨gr, 4, none⟩ = some (.int .i64 many) := ((blk_cell GR.out 4).trans rfl)
 have hfr4 := blk_frozen GR.out 4
 go_upto_region 4 with (fail)
 have m1 : Aside0 ((w2.setCell ⟨gr, 4, none⟩ (.int .i64 (many + 1))).heap[gr]? = some (.cells #[.int .i64 B, .int .i64 P, .int .i64 T, v, .int .i64 (many + 1), .bool done] 62 (0, 0))) := ⟨blk_put GR.out 4 _ rfl⟩
 have m2 : Aside0 ((w2.setCell ⟨gr, 4, none⟩ (.int .i64 (many + 1))).heap[gf]? = _) := ⟨blk_far BF.out (p := ⟨gr, 4, none⟩) (blk_ne BF.out GR.out (by decide)) _⟩
 have m3 := Aside0.mk (show Kd.R k36 36 (w2.setCell ⟨gr, 4, none⟩ (.int .i64 (many + 1))) b0 (fun _ => True) v (L.map ofE) from Kd.R_mono (Kd.R_far (p := ⟨gr, 4, none⟩) (Kd.R_types BL.out GR.out (by decide)) (fun _ hk => hk.2) _) (fun _ _ => trivial))
 have m4 := Aside0.mk (show Kd.R (Kd.int .u8) 5 (w2.setCell ⟨gr, 4, none⟩ (.int .i64 (many + 1))) b0 (fun _ => True) _ d from Kd.R_mono (Kd.R_far (p := ⟨gr, 4, none⟩) (Kd.R_types BD.out GR.out (by decide)) (fun _ hk => hk.2) _) (fun _ _ => trivial))
 have m5 : Aside0 (Kd.C (Kd.int .u8) (w2.setCell ⟨gr, 4, none⟩ (.int .i64 (many + 1))) Aa ah.length ah) := ⟨HX.out _ (HB.out.setCell (p := ⟨gr, 4, none⟩) B1.out _)⟩
 have m6 : Aside0 (Below b0 w (w2.setCell ⟨gr, 4, none⟩ (.int .i64 (many + 1)))) := ⟨HB.out.setCell (p := ⟨gr, 4, none⟩) B1.out _⟩
 generalize (w2.setCell ⟨gr, 4, none⟩ (.int .i64 (many + 1))) = w3 at m1 m2 m3 m4 m5 m6 ⊢
 clear GR BF BL BD HA HB hHeld hw1 hcr4 hfr4
 have GR := m1
 have BF := m2
 have BL := m3
 have BD := m4
 have HA := m5
 have HB := m6
 clear m1 m2 m3 m4 m5 m6
 have hcf0 : w3.cell? ⟨gf, 0, none⟩ = some (.int .i64 k) := ((blk_cell BF.out 0).trans rfl)
 have hff0 := blk_frozen BF.out 0
 have hcr5 : w3.cell? ⟨gr, 5, none⟩ = some (.bool done) := ((blk_cell GR.out 5).trans rfl)
 have hfr5 := blk_frozen GR.out 5
 go_upto_region 10 with (fail)
 have m1 : Aside0 ((w3.setCell ⟨gr, 5, none⟩ (.bool true)).heap[gr]? = some (.cells #[.int .i64 B, .int .i64 P, .int .i64 T, v, .int .i64 (many + 1), .bool true] 62 (0, 0))) := ⟨blk_put GR.out 5 _ rfl⟩
 have m2 : Aside0 ((w3.setCell ⟨gr, 5, none⟩ (.bool true)).heap[gf]? = _) := ⟨blk_far BF.out (p := ⟨gr, 5, none⟩) (blk_ne BF.out GR.out (by decide)) _⟩
 have m3 := Aside0.mk (show Kd.R k36 36 (w3.setCell ⟨gr, 5, none⟩ (.bool true)) b0 (fun _ => True) v (L.map ofE) from Kd.R_mono (Kd.R_far (p := ⟨gr, 5, none⟩) (Kd.R_types BL.out GR.out (by decide)) (fun _ hk => hk.2) _) (fun _ _ => trivial))
 have m5 : Aside0 (Kd.C (Kd.int .u8) (w3.setCell ⟨gr, 5, none⟩ (.bool true)) Aa ah.length ah) := ⟨HX.out _ (HB.out.setCell (p := ⟨gr, 5, none⟩) B1.out _)⟩
 have m6 : Aside0 (Below b0 w (w3.setCell ⟨gr, 5, none⟩ (.bool true))) := ⟨HB.out.setCell (p := ⟨gr, 5, none⟩) B1.out _⟩
 generalize (w3.setCell ⟨gr, 5, none⟩ (.bool true)) = w4 at m1 m2 m3 m5 m6 ⊢
 clear GR BF BL BD HA HB hcf0 hff0 hcr5 hfr5
 have GR := m1
 have BF := m2
 have BL := m3
 have HA := m5
 have HB := m6
 clear m1 m2 m3 m5 m6
 have hw2 : wrap64 (many + 1 - 1) = many := by have := MM.out; unfold wrap64; omega
 have hw3 : wrap64 many = many := by have := MM.out; unfold wrap64; omega
 have e6 : (x == many) = true := beq_iff_eq.mpr EX.out
 have m_GR := Aside0.mk (blk_drew GR.out)
 have m_BF := Aside0.mk (blk_drew BF.out)
 have m_BL := Aside0.mk (Kd.R_drew BL.out)
 have m_HA := Aside0.mk (Kd.C_drew HA.out)
 have m_HB := Aside0.mk (below_drew HB.out)
 clear GR BF BL HA HB
 have GR := m_GR
 have BF := m_BF
 have BL := m_BL
 have HA := m_HA
 have HB := m_HB
 clear m_GR m_BF m_BL m_HA m_HB
 refine start_ (n := 17) (S := fun w' => w'.cell? ⟨gf, 4, none⟩ = some (.int .i64 x) ∧ w'.cell? ⟨gr, 4, none⟩ = some (.int .i64 (many + 1)) ∧ w'.cell? ⟨gf, 5, none⟩ = some (.int .i64 y)) (ds := []) #[false, false, false, false, false, false, false, false, false, false, false, false, false, false, false, false, false] (by kernel_rfl) rfl rfl ⟨((blk_cell BF.out 4).trans rfl), ((blk_cell GR.out 4).trans rfl), ((blk_cell BF.out 5).trans rfl)⟩ (fun hHeld => ?_)
 generalize w4.drew = w5 at GR BF BL HA HB hHeld ⊢
 refine Cz.rP 0 42 ?_
 refine Cz.rP 2 44 ?_
 refine Cz.rP 3 45 ?_
 refine Cz.rP 4 46 ?_
 refine Cz.rT 1 43 hHeld ?_
 refine Cz.rT 5 47 hHeld ?_
 refine Cz.rP 6 48 ?_
 refine Cz.rP 7 49 ?_
 refine Cz.rP 8 50 ?_
 refine Cz.rP 9 51 ?_
 refine Cz.rP 11 53 ?_
 refine Cz.rT 10 52 hHeld ?_
 refine Cz.rO (N := some 54) 12 (fun K hK => ?_)
 refine goes_ Try.func35 (by kernel_rfl) rfl #[.slice Aa ah.length ca] (by rfl) rfl rfl (by simp only [List.map_toArray, List.map_cons, List.map_nil]; rfl) ?_
 with_reducible refine ((crc_Sum.calls Aa ca ah s _ HA.out HC.out HS.out)).mono ?_
 rintro e' w6 ⟨rfl, hb⟩
 refine ⟨_, rfl, ?_⟩
 have m_GR := Aside0.mk (blk_below GR.out hb)
 have m_BF := Aside0.mk (blk_below BF.out hb)
 have m_BL := Aside0.mk (Kd.R_below BL.out hb)
 have m_HB := Aside0.mk (below_then HB.out (Nat.le_trans HS0.out HB.out.size) hb)
 clear GR BF BL HB
 have GR := m_GR
 have BF := m_BF
 have BL := m_BL
 have HB := m_HB
 clear m_GR m_BF m_BL m_HB
 clear hb HA
 refine hK.out _ _ ⟨((blk_cell BF.out 4).trans rfl), ((blk_cell GR.out 4).trans rfl), ((blk_cell BF.out 5).trans rfl)⟩ (fun hHeld => ?_)
 clear hK K
 refine Cz.nm (some 54) ?_
 refine Cz.rP 13 55 ?_
 refine Cz.rP 14 56 ?_
 refine Cz.rP 15 57 ?_
 refine Cz.rP 16 6 ?_
 refine done_ (by kernel_rfl) ?_
 go_wp2
 refine bodyPost_ret (results_tmp rfl _ _ _) rfl ?_
 exact ⟨by rw [← HY.out]; rfl, GR.out, BL.out, HB.out⟩
set_option maxHeartbeats 4000000 in
set_option maxRecDepth 2000000 in
theorem stream_reader_take.blocks (gr b0 : Nat) (B P T many : Int) (done : Bool) (v vd : Value) (L : List Pl.Ext) (k a n : Int) (d : List Int) (x y z : Int) (Aa : Option Addr) (ah : List Int) (ca : Nat) (w : World)
  (hgr : w.heap[gr]? = some (.cells #[.int .i64 B, .int .i64 P, .int .i64 T, v, .int .i64 many, .bool done] 62 (0, 0))) (b1 : b0 ≤ gr) (hm : 0 ≤ many ∧ many ≤ 1000000) (hL : Kd.R k36 36 w b0 (fun _ => True) v (L.map ofE)) (hd : Kd.R (Kd.int .u8) 5 w b0 (fun _ => True) vd d) (ha : Kd.C (Kd.int .u8) w Aa ah.length ah) (hx : ∀ w', Below b0 w w' → Kd.C (Kd.int .u8) w' Aa ah.length ah) (hk : 2 ≤ k ∧ k ≤ 4) (hab : 0 ≤ a ∧ 1 ≤ n ∧ n ≤ 64 - a) (hE : ∀ u ∈ L, Pl.eOk u = true) (hn : L.length ≤ 1000000) (e2 : (many == 0) = false) :
  Calls Try.prog 37 #[.pointer (some ⟨gr, 0, none⟩), .agg #[.int .i64 k, .int .i64 a, .int .i64 n, vd, .int .i64 x, .int .i64 y, .int .i64 z], .slice Aa ah.length ca] w fun e w' => ((∃ M, Pl.stepS B L (k, a, n, d, x, y, z) = some M ∧ e = .returned (.bool true) ∧ ∃ v1, w'.heap[gr]? = some (.cells #[.int .i64 B, .int .i64 P, .int .i64 T, v1, .int .i64 (many + 1), .bool done] 62 (0, 0)) ∧ Kd.R k36 36 w' b0 (fun _ => True) v1 (M.map ofE)) ∨ (Pl.stepS B L (k, a, n, d, x, y, z) = none ∧ e = .returned (.bool false))) ∧ Below b0 w w' := by
 have GR := Aside0.mk hgr
 have BL := Aside0.mk hL
 have BD := Aside0.mk hd
 have HA := Aside0.mk ha
 have B1 := Aside0.mk b1
 have MM := Aside0.mk hm
 have HB := Aside0.mk (Below.refl b0 w)
 have HS0 := Aside0.mk (show b0 ≤ w.heap.size from Nat.le_of_lt (Nat.lt_of_le_of_lt B1.out (blk_lt GR.out)))
 obtain ⟨Ad, cd, ed⟩ := Kd.R_slice hd
 subst ed
 clear hgr hL hd b1 hm ha
 have e1 : (k == 1) = false := beq_eq_false_iff_ne.mpr (by omega)
 have e5 : (k == 5) = false := beq_eq_false_iff_ne.mpr (by omega)
 have HX := Aside0.mk hx
 have KK := Aside0.mk hk
 have AB := Aside0.mk hab
 have EE := Aside0.mk hE
 have NN := Aside0.mk hn
 clear hx hk hab hE hn
 go_enter Try.func37, Try.ntmps37
 go_wp2_with (((with_reducible refine gate_dst (N := 4) rfl ?_); refine Cz.bx (N := 4) #[.int .i64 k, .int .i64 a, .int .i64 n, .slice Ad d.length cd, .int .i64 x, .int .i64 y, .int .i64 z] 38 ?_; intro gf hg w1 hbox hb; clear hg; have m_GR := Aside0.mk (blk_below GR.out hb); have m_BL := Aside0.mk (Kd.R_below BL.out hb); have m_BD := Aside0.mk (Kd.R_below BD.out hb); have m_HA := Aside0.mk (Kd.C_below HA.out hb); have m_HB := Aside0.mk (below_then HB.out (Nat.le_trans HS0.out HB.out.size) hb); clear GR BL BD HA HB; have GR := m_GR; have BL := m_BL; have BD := m_BD; have HA := m_HA; have HB := m_HB; clear m_GR m_BL m_BD m_HA m_HB; have BF := Aside0.mk hbox; clear hbox hb))
 have m_GR := Aside0.mk (blk_drew GR.out)
 have m_BL := Aside0.mk (Kd.R_drew BL.out)
 have m_BD := Aside0.mk (Kd.R_drew BD.out)
 have m_HA := Aside0.mk (Kd.C_drew HA.out)
 have m_HB := Aside0.mk (below_drew HB.out)
 have m_BF := Aside0.mk (blk_drew BF.out)
 clear GR BL BD HA HB BF
 have GR := m_GR
 have BL := m_BL
 have BD := m_BD
 have HA := m_HA
 have HB := m_HB
 have BF := m_BF
 clear m_GR m_BL m_BD m_HA m_HB m_BF
 refine start_ (n := 9) (S := fun w' => w'.cell? ⟨gf, 0, none⟩ = some (.int .i64 k) ∧ w'.cell? ⟨gr, 4, none⟩ = some (.int .i64 many)) (ds := []) #[false, false, false, false, false, false, false, false, false] (by kernel_rfl) rfl rfl ⟨((blk_cell BF.out 0).trans rfl), ((blk_cell GR.out 4).trans rfl)⟩ (fun hHeld => ?_)
 generalize w1.drew = w2 at GR BL BD HA HB BF hHeld ⊢
 refine Cz.rP 0 7 ?_
 refine Cz.rP 3 10 ?_
 refine Cz.rP 4 11 ?_
 refine Cz.rP 5 12 ?_
 refine Cz.rT 1 8 hHeld ?_
 refine Cz.rP 2 9 ?_
 refine Cz.rT 6 13 hHeld ?_
 refine Cz.rP 7 14 ?_
 refine Cz.rP 8 15 ?_
 refine done_ (by kernel_rfl) ?_
 have hw1 : wrap64 (many + 1) = many + 1 := by have := MM.out; unfold wrap64; omega
 have hcr4 : w2.cell? ⟨gr, 4, none⟩ = some (.int .i64 many) := ((blk_cell GR.out 4).trans rfl)
 have hfr4 := blk_frozen GR.out 4
 go_upto_region 4 with (fail)
 have m1 : Aside0 ((w2.setCell ⟨gr, 4, none⟩ (.int .i64 (many + 1))).heap[gr]? = some (.cells #[.int .i64 B, .int .i64 P, .int .i64 T, v, .int .i64 (many + 1), .bool done] 62 (0, 0))) := ⟨blk_put GR.out 4 _ rfl⟩
 have m2 : Aside0 ((w2.setCell ⟨gr, 4, none⟩ (.int .i64 (many + 1))).heap[gf]? = _) := ⟨blk_far BF.out (p := ⟨gr, 4, none⟩) (blk_ne BF.out GR.out (by decide)) _⟩
 have m3 := Aside0.mk (show Kd.R k36 36 (w2.setCell ⟨gr, 4, none⟩ (.int .i64 (many + 1))) b0 (fun _ => True) v (L.map ofE) from Kd.R_mono (Kd.R_far (p := ⟨gr, 4, none⟩) (Kd.R_types BL.out GR.out (by decide)) (fun _ hk => hk.2) _) (fun _ _ => trivial))
 have m4 := Aside0.mk (show Kd.R (Kd.int .u8) 5 (w2.setCell ⟨gr, 4, none⟩ (.int .i64 (many + 1))) b0 (fun _ => True) _ d from Kd.R_mono (Kd.R_far (p := ⟨gr, 4, none⟩) (Kd.R_types BD.out GR.out (by decide)) (fun _ hk => hk.2) _) (fun _ _ => trivial))
 have m5 : Aside0 (Kd.C (Kd.int .u8) (w2.setCell ⟨gr, 4, none⟩ (.int .i64 (many + 1))) Aa ah.length ah) := ⟨HX.out _ (HB.out.setCell (p := ⟨gr, 4, none⟩) B1.out _)⟩
 have m6 : Aside0 (Below b0 w (w2.setCell ⟨gr, 4, none⟩ (.int .i64 (many + 1)))) := ⟨HB.out.setCell (p := ⟨gr, 4, none⟩) B1.out _⟩
 generalize (w2.setCell ⟨gr, 4, none⟩ (.int .i64 (many + 1))) = w3 at m1 m2 m3 m4 m5 m6 ⊢
 clear GR BF BL BD HA HB hHeld hw1 hcr4 hfr4
 have GR := m1
 have BF := m2
 have BL := m3
 have BD := m4
 have HA := m5
 have HB := m6
 clear m1 m2 m3 m4 m5 m6
 obtain ⟨hcf0, hcf1, hcf2, hcf3, hcf4, hcf5, hcf6, hff0, hff1, hff2, hff3, hff4, hff5, hff6⟩ := Cz.d7 BF
 go_wp2_with (fail)
 refine (stream_reader_blocks.calls gr b0 B P T (many + 1) done v _ L k a n d x y z _ GR.out B1.out KK.out AB.out EE.out NN.out BL.out BD.out).mono ?_
 rintro e' w4 ⟨hp, hb⟩
 have HB4 := Aside0.mk (HB.out.trans hb)
 clear GR BF BL BD HA HB hb hcf0 hff0 hcf1 hff1 hcf2 hff2 hcf3 hff3 hcf4 hff4 hcf5 hff5 hcf6 hff6
 rcases hp with ⟨M, hst, rfl, v1, hg, hl⟩ | ⟨hst, rfl⟩
 focus
  have SN := Aside0.mk hst
  have m1 := Aside0.mk hg
  have m2 := Aside0.mk hl
  clear hst hg hl
 rotate_left
 focus
  have SN := Aside0.mk hst
  clear hst
 rotate_left
 all_goals
  go_wp2
  refine bodyPost_ret (results_tmp rfl _ _ _) rfl ?_
 ·exact ⟨.inl ⟨_, SN.out, rfl, _, m1.out, m2.out⟩, HB4.out⟩
 ·exact ⟨.inr ⟨SN.out, rfl⟩, HB4.out⟩
end Go.Proofs.Ytohkmmbmfhficaa.PT
