/- Words and walks that this claim names, of those that the kit's print and programs of this workplace have printed. -/
import Derived.Test.YtmgohkffphogdaaZUCz
import Derived.Test.YtmgohkffphogdaaZUPUx15
import Derived.Test.YtmgohkffphogdaaZUPUx18
import Derived.Test.YtmgohkffphogdaaZUPUx23
namespace Go.Proofs.Ytmgohkffphogdaa.PU
open Go.Proofs.Ytmgohkffphogdaa Go.RowKit Go.Proofs.YtmgohkffphogdaaW.PrintWords Go.Proofs.YtmgohkffphogdaaW.PrintLast Go.Proofs.YtmgohkffphogdaaW.PrintMore
attribute [local go_sem] max2_int min2_int max_two min_two max_three min_three max_four min_four
set_option linter.unusedVariables false
set_option linter.unusedSimpArgs false
theorem extent_check0 (x0 x1 x2 x3 : Int) (r : Bool) (w : World) (h : extent_Check.f x0 x1 x2 x3 [] = some r) :
  Calls Try.prog 36 #[.agg #[.int .i64 x0, .int .i64 x1, .int .i64 x2, .int .i64 x3, .slice none 0 0]] w fun e w' => e = .returned (.bool r) ∧ Below w.heap.size w w' :=
 extent_Check.calls x0 x1 x2 x3 none 0 [] r w (Kd.C_nil _ _) (Nat.le_refl _) h
theorem extent_clone (A0 : Option Addr) (c0 : Nat) (d : List Int) (n : Nat) (hn : d.length = n) (w : World) (hr : Kd.C (Kd.int .u8) w A0 n d) (hc : n ≤ c0) (h : bytes_Clone.f d = some d) :
  Calls Try.prog 25 #[.slice A0 n c0] w fun e w' => ∃ v0_ : Value, e = .returned (v0_) ∧ Kd.R (Kd.int .u8) 5 w' w.heap.size (fun _ => True) v0_ d ∧ Below w.heap.size w w' := by
 subst hn
 exact bytes_Clone.calls A0 c0 d d w hr hc h
set_option maxHeartbeats 1000000 in
set_option maxRecDepth 2000000 in
theorem extent_Read_next.calls (w0 : World) (gb : Nat) (A0 : Option Addr) (c0 : Nat) (l0 : List Int) (ns : List Int) (x0 x1 x2 x3 : Int) (w : World) (hgb : w.heap[gb]? = some (.cells #[.slice A0 l0.length c0] 23 (0, 0))) (hb0 : Below w0.heap.size w0 w) (hr0 : Kd.C (Kd.int .u8) w0 A0 l0.length l0) (hc0 : l0.length ≤ c0) (hl : 7 ≤ l0.length) (hu : le_Unpack.f (⟨#[98, 98, 98, 119]⟩ : ByteArray) (l0.take 7) = some (ns, 0)) (hn : ns.length = 4) (e0 : rd ns 0 = x0) (e1 : rd ns 1 = x1) (e2 : rd ns 2 = x2) (e3 : rd ns 3 = x3) (w_0 : wrap64 x0 = x0) (w_1 : wrap64 x1 = x1) (w_2 : wrap64 x2 = x2) (w_3 : wrap64 x3 = x3) (hgb0 : w0.heap.size ≤ gb) (kk : Nat) (hkb : kk < 1000000) (hk : extent_data.f x0 x1 x2 x3 [] = some (kk : Int)) (d r : List Int) (hdr : (0 < kk ∧ kk ≤ l0.length - 7 ∧ d = (l0.drop 7).take kk ∧ r = (l0.drop 7).drop kk) ∨ (¬ (0 < kk ∧ kk ≤ l0.length - 7) ∧ d = [] ∧ r = l0.drop 7)) :
  Calls Try.prog 41 #[.pointer (some ⟨gb, 0, none⟩)] w fun e' w' => ∃ (v : Value) (A' : Option Addr) (c' : Nat), e' = .returned (.tuple #[.agg #[.int .i64 x0, .int .i64 x1, .int .i64 x2, .int .i64 x3, v], .bool (Pl.extOk x0 x1 x2 x3 d)]) ∧ Kd.R (Kd.int .u8) 5 w' w.heap.size (fun _ => True) v d ∧ Kd.C (Kd.int .u8) w0 A' r.length r ∧ r.length ≤ c' ∧ Below w.heap.size (w.setCell ⟨gb, 0, none⟩ (.slice A' r.length c')) w' := by
 have hu46 := Try.underlying39
 obtain ⟨i08, hi08, _, hsz8, _⟩ := info_parts info5
 obtain ⟨y, hy⟩ : ∃ y, y = l0.take 7 := ⟨_, rfl⟩
 rw [← hy] at hu
 have hyl : y.length = 7 := by rw [hy, List.length_take]; omega
 have hcut := cut_to (P := Try.prog) 23 5 .i64 Try.underlying23 hi08 A0 l0.length c0 7 (by decide) (by omega) hc0
 rw [show ((7 : Int)).toNat = y.length from by rw [hyl]; rfl] at hcut
 have hry := Kd.C_take (m := 7) hr0 (by omega)
 rw [← hy] at hry
 have HRY := Aside0.mk hry
 have HCY := Aside0.mk (show y.length ≤ c0 by omega)
 have HB0 := Aside0.mk hb0
 have HR0 := Aside0.mk hr0
 have HC0 := Aside0.mk hc0
 have HB := Aside0.mk (Below.refl w.heap.size w)
 have BKb := Aside0.mk hgb
 have HU := Aside0.mk hu
 have HL := Aside0.mk hl
 have HN := Aside0.mk hn
 have d1 : decide ((l0.length : Int) < 7) = false := decide_eq_false (by omega)
 have d2 : decide (l0.length < 7) = false := decide_eq_false (by omega)
 have W0 := Aside0.mk w_0
 have W1 := Aside0.mk w_1
 have W2 := Aside0.mk w_2
 have W3 := Aside0.mk w_3
 have E0 := Aside0.mk e0
 have GB := Aside0.mk hgb0
 have HK := Aside0.mk hk
 have HDR := Aside0.mk hdr
 have HKB := Aside0.mk hkb
 have HS0 := Aside0.mk hb0.size
 have E1 := Aside0.mk e1
 have E2 := Aside0.mk e2
 have E3 := Aside0.mk e3
 clear hr0 hc0 hgb hb0 hu hl hn hry hy hyl hi08 hsz8 w_0 w_1 w_2 w_3 e0 e1 e2 e3 hgb0 hk hkb hdr
 go_enter Try.func41, Try.ntmps41
 go_wp2_with (first | ((with_reducible refine gate_dst (N := 1) rfl ?_); refine Cz.bx (N := 1) #[.int .i64 0, .int .i64 0, .int .i64 0, .int .i64 0, .slice none 0 0] 39 ?_; intro gx hg w10 hbox hb; have BKb' := Cz.bk BKb hb; have HB' := Aside0.mk (below_step HB.out hb); have HB0' := Aside0.mk (below_step HB0.out hb); clear HB BKb HB0; have HB := HB'; have BKb := BKb'; have HB0 := HB0'; clear HB' BKb' HB0'; have BKx := Aside0.mk hbox; have GE := Aside0.mk (show w.heap.size ≤ gx by rw [hg]; exact Nat.le_refl _); clear hb hbox hg; have hcb : w10.cell? ⟨gb, 0, none⟩ = some (.slice A0 l0.length c0) := (blk_cell BKb.out 0).trans rfl))
 refine (le_Unpack.calls (⟨#[98, 98, 98, 119]⟩ : ByteArray) A0 c0 y ns 0 _ (Kd.C_below HRY.out HB0.out) HCY.out HU.out).mono ?_
 rintro e' w11 ⟨v14, rfl, ho, hb⟩
 obtain ⟨Ao, co, rfl⟩ := Kd.R_slice ho
 have hro := (Kd.R_reads' ho).2.2
 have n1 := Cz.bk BKb hb
 have n2 := Cz.bk BKx hb
 have n3 := Aside0.mk (below_step HB.out hb)
 have n4 := Aside0.mk (below_step HB0.out hb)
 clear BKb BKx HB HB0 hcb hcut HRY HCY HU hb
 have BKb := n1
 have BKx := n2
 have HB := n3
 have HB0 := n4
 clear n1 n2 n3 n4
 obtain ⟨ad, ea, hx0⟩ := Kd.at_int hro 0 (by decide) (by have := HN.out; omega)
 cases ea
 obtain ⟨ad1, ea, hx1⟩ := Kd.at_int hro 1 (by decide) (by have := HN.out; omega)
 obtain rfl : ad = ad1 := (by injection ea)
 clear ea
 obtain ⟨ad1, ea, hx2⟩ := Kd.at_int hro 2 (by decide) (by have := HN.out; omega)
 obtain rfl : ad = ad1 := (by injection ea)
 clear ea
 obtain ⟨ad1, ea, hx3⟩ := Kd.at_int hro 3 (by decide) (by have := HN.out; omega)
 obtain rfl : ad = ad1 := (by injection ea)
 have hne : ad.block ≠ gx := fun e => Kd.R_ne ho BKx.out (by decide) (by simp [Value.ownBlock, e])
 have hgx : gb ≠ gx := blk_ne BKb.out BKx.out (by decide)
 have hD : ∀ (W : World) (a : Addr), W.drew.cell? a = W.cell? a := fun _ _ => rfl
 have hS0 : ∀ (W : World) (i : Nat) (u : Value), (W.setCell ⟨gx, i, none⟩ u).cell? ad = W.cell? ad := fun W i u => World.cell?_of_block (Below.heap_setCell _ _ _ _ hne)
 have hSn : ∀ (W : World) (i j : Nat) (u : Value), (W.setCell ⟨gx, i, none⟩ u).cell? ⟨ad.block, ad.off + j, none⟩ = W.cell? ⟨ad.block, ad.off + j, none⟩ := fun W i j u => World.cell?_of_block (Below.heap_setCell _ _ _ _ hne)
 have hSb : ∀ (W : World) (i : Nat) (u : Value), (W.setCell ⟨gx, i, none⟩ u).cell? ⟨gb, 0, none⟩ = W.cell? ⟨gb, 0, none⟩ := fun W i u => World.cell?_of_block (Below.heap_setCell _ _ _ _ hgx)
 clear ea hro ho
 simp only [show (0 : Int).toNat = 0 from rfl, Addr.add_zero', E0.out] at hx0
 simp only [show (1 : Int).toNat = 1 from rfl, Nat.reduceMul, Nat.reduceEqDiff, Go.Addr.add, ↓reduceIte, E1.out] at hx1
 simp only [show (2 : Int).toNat = 2 from rfl, Nat.reduceMul, Nat.reduceEqDiff, Go.Addr.add, ↓reduceIte, E2.out] at hx2
 simp only [show (3 : Int).toNat = 3 from rfl, Nat.reduceMul, Nat.reduceEqDiff, Go.Addr.add, ↓reduceIte, E3.out] at hx3
 rw [HN.out]
 obtain ⟨hcb, hfb⟩ := Cz.d1 BKb
 obtain ⟨hcz0, hcz1, hcz2, hcz3, hcz4, hfz0, hfz1, hfz2, hfz3, hfz4⟩ := Cz.d5 BKx
 have w_0 : IntKind.i64.wrap x0 = x0 := (i64_w _).trans W0.out
 have w_1 : IntKind.i64.wrap x1 = x1 := (i64_w _).trans W1.out
 have w_2 : IntKind.i64.wrap x2 = x2 := (i64_w _).trans W2.out
 have w_3 : IntKind.i64.wrap x3 = x3 := (i64_w _).trans W3.out
 have v_0 := W0.out
 have v_1 := W1.out
 have v_2 := W2.out
 have v_3 := W3.out
 obtain ⟨z, hz⟩ : ∃ z, z = l0.drop 7 := ⟨_, rfl⟩
 have hzl : z.length = l0.length - 7 := by rw [hz, List.length_drop]
 obtain ⟨i08, hi08, _, hsz8, _⟩ := info_parts info5
 obtain ⟨A8, hcut8, hA8, hC8⟩ := print_drop_of (P := Try.prog) (Value.int .u8) 0 23 5 .i64 Try.underlying23 hi08 hsz8 A0 c0 l0 7 (by decide) (by have := HL.out; omega) HC0.out
 have HR8 := Aside0.mk (Kd.C_of_reads (h1 := fun _ => rfl) (hA8 _ (Kd.reads_of_C HR0.out)))
 have HC8 := Aside0.mk hC8
 clear hA8 hC8 hi08 hsz8
 go_wp2_with fail
 refine start_ (n := 21) (S := fun w' => w'.cell? ad = some (.int .u64 x0) ∧ w'.cell? ⟨ad.block, ad.off + 1, none⟩ = some (.int .u64 x1) ∧ w'.cell? ⟨ad.block, ad.off + 2, none⟩ = some (.int .u64 x2) ∧ w'.cell? ⟨ad.block, ad.off + 3, none⟩ = some (.int .u64 x3) ∧ w'.cell? ⟨gb, 0, none⟩ = some (.slice A0 l0.length c0)) (ds := [20]) #[false, false, false, false, false, false, false, false, false, false, false, false, false, false, false, false, false, false, false, false, false] (by kernel_rfl) rfl rfl ⟨hx0, hx1, hx2, hx3, hcb⟩ (fun hHeld => ?_)
 refine Cz.rP 0 19 ?_
 refine Cz.rP 1 20 ?_
 refine Cz.rP 4 23 ?_
 refine Cz.rP 5 24 ?_
 refine Cz.rP 8 27 ?_
 refine Cz.rP 9 28 ?_
 refine Cz.rP 12 31 ?_
 refine Cz.rP 13 32 ?_
 refine take_ (i := 2) (N := some 21) (v := ?_) (a' := ?_) #[true, true, true, false, true, true, false, false, true, true, false, false, true, true, false, false, false, false, false, false, false] rfl rfl (by kernel_rfl) (fun _ _ _ h => h) (Or.inl ⟨by rfl, ?_⟩) hHeld ?_ ?_
 rotate_left
 ·rintro w' ⟨s0, s1, s2, s3, s4⟩
  go_simp
  with_reducible rfl
 rotate_left
 ·simp only [Act.put, Kx.sb, Kx.sz, Kx.ss, i64_w, i32_w]
  rfl
 refine Cz.rP 3 22 ?_
 refine take_ (i := 6) (N := some 25) (v := ?_) (a' := ?_) #[true, true, true, true, true, true, true, false, true, true, false, false, true, true, false, false, false, false, false, false, false] rfl rfl (by kernel_rfl) (fun _ _ _ h => h) (Or.inl ⟨by rfl, ?_⟩) hHeld ?_ ?_
 rotate_left
 ·rintro w' ⟨s0, s1, s2, s3, s4⟩
  go_simp
  with_reducible rfl
 rotate_left
 ·simp only [Act.put, Kx.sb, Kx.sz, Kx.ss, i64_w, i32_w]
  rfl
 refine Cz.rP 7 26 ?_
 refine take_ (i := 10) (N := some 29) (v := ?_) (a' := ?_) #[true, true, true, true, true, true, true, true, true, true, true, false, true, true, false, false, false, false, false, false, false] rfl rfl (by kernel_rfl) (fun _ _ _ h => h) (Or.inl ⟨by rfl, ?_⟩) hHeld ?_ ?_
 rotate_left
 ·rintro w' ⟨s0, s1, s2, s3, s4⟩
  go_simp
  with_reducible rfl
 rotate_left
 ·simp only [Act.put, Kx.sb, Kx.sz, Kx.ss, i64_w, i32_w]
  rfl
 refine Cz.rP 11 30 ?_
 refine take_ (i := 14) (N := some 33) (v := ?_) (a' := ?_) #[true, true, true, true, true, true, true, true, true, true, true, true, true, true, true, false, false, false, false, false, false] rfl rfl (by kernel_rfl) (fun _ _ _ h => h) (Or.inl ⟨by rfl, ?_⟩) hHeld ?_ ?_
 rotate_left
 ·rintro w' ⟨s0, s1, s2, s3, s4⟩
  go_simp
  with_reducible rfl
 rotate_left
 ·simp only [Act.put, Kx.sb, Kx.sz, Kx.ss, i64_w, i32_w]
  rfl
 refine Cz.rP 15 34 ?_
 refine Cz.rP 16 35 ?_
 refine take_ (i := 17) (N := some 36) (v := ?_) (a' := ?_) #[true, true, true, true, true, true, true, true, true, true, true, true, true, true, true, true, true, true, false, false, false] rfl rfl (by kernel_rfl) (fun _ _ _ h => h) (Or.inl ⟨by rfl, ?_⟩) hHeld ?_ ?_
 rotate_left
 ·rintro w' ⟨s0, s1, s2, s3, s4⟩
  go_simp
  with_reducible rfl
 rotate_left
 ·simp only [Act.put, Kx.sb, Kx.sz, Kx.ss, i64_w, i32_w]
  rfl
 refine Cz.rP 18 37 ?_
 refine Cz.rO (N := none) 19 (fun K hK => ?_)
 refine skip_ (w1 := ?_) (by rfl) rfl ?_ ?_
 rotate_left
 ·go_simp
  rfl
 refine hK.out _ _ ⟨(by rw [hD, hS0, hS0, hS0, hS0, hS0]; exact hx0), (by rw [hD, hSn, hSn, hSn, hSn, hSn]; exact hx1), (by rw [hD, hSn, hSn, hSn, hSn, hSn]; exact hx2), (by rw [hD, hSn, hSn, hSn, hSn, hSn]; exact hx3), (by rw [hD, hSb, hSb, hSb, hSb, hSb]; exact hcb)⟩ (fun hHeld => ?_)
 clear hK K
 refine last_ (i := 20) (N := none) #[true, true, true, true, true, true, true, true, true, true, true, true, true, true, true, true, true, true, true, true, true] rfl rfl (by kernel_rfl) (by decide) (fun K hK => ?_)
 refine skip_ (w1 := ?_) (by rfl) rfl ?_ ?_
 rotate_left
 ·go_simp
  rfl
 refine hK.out _ _ ?_
 clear hK K
 refine done_ (by kernel_rfl) ?_
 clear hHeld
 go_wp2_with fail
 have n1 : Aside0 ((((((((w11.setCell ⟨gx, 0, none⟩ (.int .i64 x0)).setCell ⟨gx, 1, none⟩ (.int .i64 x1)).setCell ⟨gx, 2, none⟩ (.int .i64 x2)).setCell ⟨gx, 3, none⟩ (.int .i64 x3)).setCell ⟨gx, 4, none⟩ (.slice none 0 0)).setCell ⟨gb, 0, none⟩ (.slice A8 (l0.length - 7) (c0 - 7))).drew).heap[gb]? = some (.cells #[.slice A8 (l0.length - 7) (c0 - 7)] 23 (0, 0))) := ⟨blk_drew (blk_put (cs' := #[.slice A8 (l0.length - 7) (c0 - 7)]) (blk_far (blk_far (blk_far (blk_far (blk_far BKb.out (p := ⟨gx, 0, none⟩) hgx (.int .i64 x0)) (p := ⟨gx, 1, none⟩) hgx (.int .i64 x1)) (p := ⟨gx, 2, none⟩) hgx (.int .i64 x2)) (p := ⟨gx, 3, none⟩) hgx (.int .i64 x3)) (p := ⟨gx, 4, none⟩) hgx (.slice none 0 0)) 0 (.slice A8 (l0.length - 7) (c0 - 7)) rfl)⟩
 have n2 : Aside0 ((((((((w11.setCell ⟨gx, 0, none⟩ (.int .i64 x0)).setCell ⟨gx, 1, none⟩ (.int .i64 x1)).setCell ⟨gx, 2, none⟩ (.int .i64 x2)).setCell ⟨gx, 3, none⟩ (.int .i64 x3)).setCell ⟨gx, 4, none⟩ (.slice none 0 0)).setCell ⟨gb, 0, none⟩ (.slice A8 (l0.length - 7) (c0 - 7))).drew).heap[gx]? = some (.cells #[.int .i64 x0, .int .i64 x1, .int .i64 x2, .int .i64 x3, .slice none 0 0] 39 (0, 0))) := ⟨by
  refine blk_drew (blk_far ?_ (Ne.symm hgx) _)
  refine blk_put (cs := #[.int .i64 x0, .int .i64 x1, .int .i64 x2, .int .i64 x3, .slice none 0 0]) ?_ 4 _ rfl
  refine blk_put (cs := #[.int .i64 x0, .int .i64 x1, .int .i64 x2, .int .i64 0, .slice none 0 0]) ?_ 3 _ rfl
  refine blk_put (cs := #[.int .i64 x0, .int .i64 x1, .int .i64 0, .int .i64 0, .slice none 0 0]) ?_ 2 _ rfl
  refine blk_put (cs := #[.int .i64 x0, .int .i64 0, .int .i64 0, .int .i64 0, .slice none 0 0]) ?_ 1 _ rfl
  refine blk_put (cs := #[.int .i64 0, .int .i64 0, .int .i64 0, .int .i64 0, .slice none 0 0]) ?_ 0 _ rfl
  exact BKx.out⟩
 have n3 : Aside0 (Below w.heap.size (w.setCell ⟨gb, 0, none⟩ (.slice A8 (l0.length - 7) (c0 - 7))) (((((((w11.setCell ⟨gx, 0, none⟩ (.int .i64 x0)).setCell ⟨gx, 1, none⟩ (.int .i64 x1)).setCell ⟨gx, 2, none⟩ (.int .i64 x2)).setCell ⟨gx, 3, none⟩ (.int .i64 x3)).setCell ⟨gx, 4, none⟩ (.slice none 0 0)).setCell ⟨gb, 0, none⟩ (.slice A8 (l0.length - 7) (c0 - 7))).drew)) := ⟨Below.drew (Kx.below_both (below_set (below_set (below_set (below_set (below_set HB.out GE.out) GE.out) GE.out) GE.out) GE.out) ⟨gb, 0, none⟩ (.slice A8 (l0.length - 7) (c0 - 7)))⟩
 have G0 := Aside0.mk (show w0.heap.size ≤ gx from Nat.le_trans HS0.out GE.out)
 have n4 : Aside0 (Below w0.heap.size w0 (((((((w11.setCell ⟨gx, 0, none⟩ (.int .i64 x0)).setCell ⟨gx, 1, none⟩ (.int .i64 x1)).setCell ⟨gx, 2, none⟩ (.int .i64 x2)).setCell ⟨gx, 3, none⟩ (.int .i64 x3)).setCell ⟨gx, 4, none⟩ (.slice none 0 0)).setCell ⟨gb, 0, none⟩ (.slice A8 (l0.length - 7) (c0 - 7))).drew)) := ⟨Below.drew (below_set (below_set (below_set (below_set (below_set (below_set HB0.out G0.out) G0.out) G0.out) G0.out) G0.out) GB.out)⟩
 generalize (((((((w11.setCell ⟨gx, 0, none⟩ (.int .i64 x0)).setCell ⟨gx, 1, none⟩ (.int .i64 x1)).setCell ⟨gx, 2, none⟩ (.int .i64 x2)).setCell ⟨gx, 3, none⟩ (.int .i64 x3)).setCell ⟨gx, 4, none⟩ (.slice none 0 0)).setCell ⟨gb, 0, none⟩ (.slice A8 (l0.length - 7) (c0 - 7))).drew) = w12 at n1 n2 n3 n4 ⊢
 clear hx0 hx1 hx2 hx3 hcb hfb hcz0 hcz1 hcz2 hcz3 hcz4 hfz0 hfz1 hfz2 hfz3 hfz4 hS0 hSn hSb hne hcut8 BKb BKx HB HB0
 have BKb := n1
 have BKx := n2
 have HB := n3
 have HB0 := n4
 clear n1 n2 n3 n4
 rw [← hzl] at BKb HB ⊢
 have HZ : Aside0 (Kd.C (Kd.int .u8) w0 A8 z.length z) := ⟨by rw [hz]; exact HR8.out⟩
 have HZC : Aside0 (z.length ≤ c0 - 7) := ⟨by rw [hz]; exact HC8.out⟩
 clear HR8 HC8 HR0 HC0
 refine (extent_data.calls x0 x1 x2 x3 none 0 [] (kk : Int) _ (Kd.C_nil _ _) (Nat.le_refl _) HK.out).mono ?_
 rintro e' w13 ⟨rfl, hb⟩
 have n1 := Cz.bk BKb hb
 have n2 := Cz.bk BKx hb
 have n3 := Aside0.mk (Kx.below_stepG HB.out hb)
 have n4 := Aside0.mk (below_step HB0.out hb)
 clear BKb BKx HB HB0 hb
 have BKb := n1
 have BKx := n2
 have HB := n3
 have HB0 := n4
 clear n1 n2 n3 n4
 have hcb : w13.cell? ⟨gb, 0, none⟩ = some (.slice A8 z.length (c0 - 7)) := (blk_cell BKb.out 0).trans rfl
 have HZL := Aside0.mk hzl
 have HZ0 := Aside0.mk hz
 clear hz hzl
 rcases HDR.out with ⟨k0, k1', hd', hr'⟩ | ⟨hno, hd', hr'⟩
 ·have k1 : kk ≤ z.length := by rw [HZL.out]; exact k1'
  have hd : d = z.take kk := by rw [HZ0.out]; exact hd'
  have hr : r = z.drop kk := by rw [HZ0.out]; exact hr'
  clear HDR hd' hr' k1'
  have K0 := Aside0.mk k0
  have K1 := Aside0.mk k1
  have q0 : (0 < kk) = True := eq_true k0
  have q1 : (kk ≤ z.length) = True := eq_true k1
  have hdl : d.length = kk := by rw [hd, List.length_take]; omega
  have hrl : r.length = z.length - kk := by rw [hr, List.length_drop]
  obtain ⟨i08, hi08, _, hsz8, _⟩ := info_parts info5
  have hcut9 := cut_to (P := Try.prog) 23 5 .i64 Try.underlying23 hi08 A8 z.length (c0 - 7) (kk : Int) (by omega) (by omega) HZC.out
  rw [show ((kk : Int)).toNat = kk from rfl] at hcut9
  have hcd := Kd.C_take (m := kk) HZ.out k1
  rw [← hd, hdl] at hcd
  have q2 : (kk ≤ c0 - 7) = True := eq_true (Nat.le_trans k1 HZC.out)
  have HD := Aside0.mk hcd
  obtain ⟨A9, hcut8, hA8, hC8⟩ := print_drop_of (P := Try.prog) (Value.int .u8) 0 23 5 .i64 Try.underlying23 hi08 hsz8 A8 (c0 - 7) z (kk : Int) (by omega) (by omega) HZC.out
  have HR8 := Aside0.mk (Kd.C_of_reads (h1 := fun _ => rfl) (hA8 _ (Kd.reads_of_C HZ.out)))
  have HC8 := Aside0.mk hC8
  have HDL := Aside0.mk hdl
  have HRL := Aside0.mk hrl
  have HD0 := Aside0.mk hd
  have HR0 := Aside0.mk hr
  clear hdl hrl hd hr
  clear hA8 hC8 hi08 hsz8 k0 k1 hcd
  go_wp2_with fail
  have m0 := Aside0.mk (blk_drew BKb.out)
  have m1 := Aside0.mk (blk_drew BKx.out)
  have m2 := Aside0.mk (Below.drew HB.out)
  have m3 := Aside0.mk (Below.drew HB0.out)
  clear BKb BKx HB HB0
  have BKb := m0
  have BKx := m1
  have HB := m2
  have HB0 := m3
  clear m0 m1 m2 m3
  refine start_ (n := 10) (S := fun w' => w'.cell? ⟨gb, 0, none⟩ = some (.slice A8 z.length (c0 - 7))) (ds := [9]) #[false, false, false, false, false, false, false, false, false, false] (by kernel_rfl) rfl rfl (((blk_cell BKb.out 0).trans rfl)) (fun hHeld => ?_)
  generalize w13.drew = wq at BKb BKx HB HB0 hHeld ⊢
  refine Cz.rP 1 49 ?_
  refine Cz.rP 5 53 ?_
  refine take_ (i := 0) (N := some 48) (v := ?_) (a' := ?_) #[true, true, false, false, false, true, false, false, false, false] rfl rfl (by kernel_rfl) (fun _ _ _ h => h) (Or.inl ⟨by rfl, ?_⟩) hHeld ?_ ?_
  rotate_left
  ·intro w' s0
   go_simp
   with_reducible rfl
  rotate_left
  ·simp only [Act.put, Kx.sb, Kx.sz, Kx.ss, i64_w, i32_w]
   rfl
  refine Cz.rP 2 50 ?_
  refine take_ (i := 4) (N := some 52) (v := ?_) (a' := ?_) #[true, true, true, false, true, true, false, false, false, false] rfl rfl (by kernel_rfl) (fun _ _ _ h => h) (Or.inl ⟨by rfl, ?_⟩) hHeld ?_ ?_
  rotate_left
  ·intro w' s0
   go_simp
   with_reducible rfl
  rotate_left
  ·simp only [Act.put, Kx.sb, Kx.sz, Kx.ss, i64_w, i32_w]
   rfl
  refine Cz.rP 6 54 ?_
  refine Cz.rO (N := some 51) 3 (fun K hK => ?_)
  refine goes_ Try.func25 (by kernel_rfl) rfl #[.slice A8 kk (c0 - 7)] (by rfl) rfl rfl (by simp only [List.map_toArray, List.map_cons, List.map_nil]; rfl) ?_
  with_reducible refine (extent_clone A8 (c0 - 7) d kk HDL.out _ (Kd.C_below HD.out HB0.out) (Nat.le_trans K1.out HZC.out) (by unfold bytes_Clone.f; rw [if_pos (by have := HDL.out; have := HKB.out; omega)])).mono ?_
  rintro e' w15 ⟨v, rfl, ho, hb⟩
  refine ⟨_, rfl, ?_⟩
  have n1 := Cz.bk BKb hb
  have n2 := Cz.bk BKx hb
  have n3 := Aside0.mk (Kx.below_stepG HB.out hb)
  have n4 := Aside0.mk (below_step HB0.out hb)
  obtain ⟨Ad, cd, rfl⟩ := Kd.R_slice ho
  have HOv := Aside0.mk (Kd.R_lower ho (Kx.below_sizeG HB.out))
  have HBv := Aside0.mk hb
  have hcz4 : w15.cell? ⟨gx, 4, none⟩ = some (.slice none 0 0) := (blk_cell n2.out 4).trans rfl
  have hfz4 := blk_frozen n2.out 4
  obtain ⟨hcb, hfb⟩ := Cz.d1 n1
  clear ho hb
  refine hK.out _ _ (((blk_cell n1.out 0).trans rfl)) (fun hHeld => ?_)
  clear hK K
  refine norm_ (a' := ?_) ?_ ?_
  rotate_left
  ·show Act.put _ (some 51) _ = _
   simp only [Act.put, Kx.sb, Kx.sz, Kx.ss, i64_w, i32_w]
   rfl
  refine Cz.rP 7 55 ?_
  refine Cz.rO (N := none) 8 (fun K hK => ?_)
  refine skip_ (w1 := ?_) (by rfl) rfl ?_ ?_
  rotate_left
  ·go_simp
   rfl
  refine hK.out _ _ (((blk_cell (blk_far n1.out (p := ⟨gx, 4, none⟩) hgx _) 0).trans rfl)) (fun hHeld => ?_)
  clear hK K
  refine last_ (i := 9) (N := none) #[true, true, true, true, true, true, true, true, true, true] rfl rfl (by kernel_rfl) (by decide) (fun K hK => ?_)
  refine skip_ (w1 := ?_) (by rfl) rfl ?_ ?_
  rotate_left
  ·go_simp
   rfl
  refine hK.out _ _ ?_
  clear hK K
  refine done_ (by kernel_rfl) ?_
  clear hHeld
  go_wp2_with fail
  have p1 : Aside0 (((w15.setCell ⟨gx, 4, none⟩ (.slice Ad d.length cd)).setCell ⟨gb, 0, none⟩ (.slice A9 (z.length - kk) (c0 - 7 - kk))).heap[gb]? = some (.cells #[.slice A9 (z.length - kk) (c0 - 7 - kk)] 23 (0, 0))) := ⟨blk_put (blk_far n1.out (p := ⟨gx, 4, none⟩) hgx _) 0 _ rfl⟩
  have p2 : Aside0 (((w15.setCell ⟨gx, 4, none⟩ (.slice Ad d.length cd)).setCell ⟨gb, 0, none⟩ (.slice A9 (z.length - kk) (c0 - 7 - kk))).heap[gx]? = some (.cells #[.int .i64 x0, .int .i64 x1, .int .i64 x2, .int .i64 x3, .slice Ad d.length cd] 39 (0, 0))) := ⟨blk_far (blk_put n2.out 4 _ rfl) (Ne.symm hgx) _⟩
  have p3 : Aside0 (Below w.heap.size (w.setCell ⟨gb, 0, none⟩ (.slice A9 (z.length - kk) (c0 - 7 - kk))) ((w15.setCell ⟨gx, 4, none⟩ (.slice Ad d.length cd)).setCell ⟨gb, 0, none⟩ (.slice A9 (z.length - kk) (c0 - 7 - kk)))) := ⟨Kx.below_again (Kx.below_setG n3.out GE.out) _⟩
  have p4 : Aside0 (Below w0.heap.size w0 ((w15.setCell ⟨gx, 4, none⟩ (.slice Ad d.length cd)).setCell ⟨gb, 0, none⟩ (.slice A9 (z.length - kk) (c0 - 7 - kk)))) := ⟨below_set (below_set n4.out G0.out) GB.out⟩
  have p5 : Aside0 (Kd.R (Kd.int .u8) 5 ((w15.setCell ⟨gx, 4, none⟩ (.slice Ad d.length cd)).setCell ⟨gb, 0, none⟩ (.slice A9 (z.length - kk) (c0 - 7 - kk))) w.heap.size (fun _ => True) (.slice Ad d.length cd) d) := ⟨Kd.R_mono (Kd.R_far (p := ⟨gb, 0, none⟩) (Kd.R_types (Kd.R_far (p := ⟨gx, 4, none⟩) (Kd.R_types HOv.out n2.out (by decide)) (fun _ hk => hk.2) _) (blk_far n1.out (p := ⟨gx, 4, none⟩) hgx _) (by decide)) (fun _ hk => hk.2) _) (fun _ hk => trivial)⟩
  generalize ((w15.setCell ⟨gx, 4, none⟩ (.slice Ad d.length cd)).setCell ⟨gb, 0, none⟩ (.slice A9 (z.length - kk) (c0 - 7 - kk))) = w16 at p1 p2 p3 p4 p5 ⊢
  clear n1 n2 n3 n4 HOv HBv BKb BKx HB HB0 hcz4 hfz4 hcb hfb hcut8 hcut9
  have BKb := p1
  have BKx := p2
  have HB := p3
  have HB0 := p4
  have HOv := p5
  clear p1 p2 p3 p4 p5
  have HCK := Aside0.mk (extent_Check.tells x0 x1 x2 x3 d)
  have m0 := Aside0.mk (blk_drew BKb.out)
  have m1 := Aside0.mk (blk_drew BKx.out)
  have m2 := Aside0.mk (Below.drew HB.out)
  have m3 := Aside0.mk (Below.drew HB0.out)
  have m4 := Aside0.mk (Kd.R_drew HOv.out)
  clear BKb BKx HB HB0 HOv
  have BKb := m0
  have BKx := m1
  have HB := m2
  have HB0 := m3
  have HOv := m4
  clear m0 m1 m2 m3 m4
  refine start_ (n := 5) (S := fun w' => w'.cell? ⟨gx, 0, none⟩ = some (.int .i64 x0) ∧ w'.cell? ⟨gx, 1, none⟩ = some (.int .i64 x1) ∧ w'.cell? ⟨gx, 2, none⟩ = some (.int .i64 x2) ∧ w'.cell? ⟨gx, 3, none⟩ = some (.int .i64 x3) ∧ w'.cell? ⟨gx, 4, none⟩ = some (.slice Ad d.length cd)) (ds := [3]) #[false, false, false, false, false] (by kernel_rfl) rfl rfl ⟨((blk_cell BKx.out 0).trans rfl), ((blk_cell BKx.out 1).trans rfl), ((blk_cell BKx.out 2).trans rfl), ((blk_cell BKx.out 3).trans rfl), ((blk_cell BKx.out 4).trans rfl)⟩ (fun hHeld => ?_)
  generalize w16.drew = wq2 at BKb BKx HB HB0 HOv hHeld ⊢
  refine take_ (i := 0) (N := some 56) (v := ?_) (a' := ?_) #[true, false, false, false, false] rfl rfl (by kernel_rfl) (fun _ _ _ h => h) (Or.inl ⟨by rfl, ?_⟩) hHeld ?_ ?_
  rotate_left
  ·rintro w' ⟨s0, s1, s2, s3, s4⟩
   go_simp
   with_reducible rfl
  rotate_left
  ·simp only [Act.put, Kx.sb, Kx.sz, Kx.ss, i64_w, i32_w]
   rfl
  refine take_ (i := 1) (N := some 57) (v := ?_) (a' := ?_) #[true, true, false, false, false] rfl rfl (by kernel_rfl) (fun _ _ _ h => h) (Or.inl ⟨by rfl, ?_⟩) hHeld ?_ ?_
  rotate_left
  ·rintro w' ⟨s0, s1, s2, s3, s4⟩
   go_simp
   with_reducible rfl
  rotate_left
  ·simp only [Act.put, Kx.sb, Kx.sz, Kx.ss, i64_w, i32_w]
   rfl
  refine Cz.rO (N := some 58) 2 (fun K hK => ?_)
  refine goes_ Try.func36 (by kernel_rfl) rfl #[.agg #[.int .i64 x0, .int .i64 x1, .int .i64 x2, .int .i64 x3, .slice Ad d.length cd]] (by rfl) rfl rfl (by simp only [List.map_toArray, List.map_cons, List.map_nil]; rfl) ?_
  with_reducible refine (extent_Check.calls x0 x1 x2 x3 Ad cd d (Pl.extOk x0 x1 x2 x3 d) _ (Kd.R_reads' HOv.out).2.2 (Kd.R_reads' HOv.out).2.1 HCK.out).mono ?_
  rintro e' w17 ⟨rfl, hb⟩
  refine ⟨_, rfl, ?_⟩
  have p1 := Cz.bk BKb hb
  have p2 := Cz.bk BKx hb
  have p3 := Aside0.mk (Kx.below_stepG HB.out hb)
  have p4 := Aside0.mk (below_step HB0.out hb)
  have p5 := Aside0.mk (Kd.R_below HOv.out hb)
  clear hb
  obtain ⟨hcz0, hcz1, hcz2, hcz3, hcz4, hfz0, hfz1, hfz2, hfz3, hfz4⟩ := Cz.d5 p2
  refine hK.out _ _ ⟨((blk_cell p2.out 0).trans rfl), ((blk_cell p2.out 1).trans rfl), ((blk_cell p2.out 2).trans rfl), ((blk_cell p2.out 3).trans rfl), ((blk_cell p2.out 4).trans rfl)⟩ (fun hHeld => ?_)
  clear hK K
  refine norm_ (a' := ?_) ?_ ?_
  rotate_left
  ·show Act.put _ (some 58) _ = _
   simp only [Act.put, Kx.sb, Kx.sz, Kx.ss, i64_w, i32_w]
   rfl
  refine last_ (i := 3) (N := none) #[true, true, true, true, false] rfl rfl (by kernel_rfl) (by decide) (fun K hK => ?_)
  refine skip_ (w1 := ?_) (by rfl) rfl ?_ ?_
  rotate_left
  ·go_simp
   rfl
  refine hK.out _ _ ?_
  clear hK K
  refine Cz.rP 4 2 ?_
  refine done_ (by kernel_rfl) ?_
  clear hHeld
  go_wp2_with fail
  refine bodyPost_ret (results_ct rfl _ _ gx 39 #[.int .i64 x0, .int .i64 x1, .int .i64 x2, .int .i64 x3, .slice Ad d.length cd] (0, 0) _ rfl (by apply Cz.a5; exact p2.out) Try.underlying39 rfl (by kernel_rfl)) rfl ?_
  rw [HRL.out]
  exact ⟨_, A9, c0 - 7 - kk, rfl, Kd.R_mono (Kd.R_far (p := ⟨gx, 4, none⟩) (Kd.R_far (p := ⟨gx, 3, none⟩) (Kd.R_far (p := ⟨gx, 2, none⟩) (Kd.R_far (p := ⟨gx, 1, none⟩) (Kd.R_far (p := ⟨gx, 0, none⟩) (Kd.R_types p5.out p2.out (by decide)) (fun _ hk => hk.2) _) (fun _ hk => hk.2) _) (fun _ hk => hk.2) _) (fun _ hk => hk.2) _) (fun _ hk => hk.2) _) (fun _ hk => trivial), by rw [show z.length - kk = r.length from HRL.out.symm, HR0.out]; exact HR8.out, by rw [← HRL.out, HR0.out]; exact HC8.out, (Kx.below_setG (Kx.below_setG (Kx.below_setG (Kx.below_setG (Kx.below_setG p3.out GE.out) GE.out) GE.out) GE.out) GE.out)⟩
 ·have hr : r = z := by rw [HZ0.out]; exact hr'
  subst hd'
  subst hr
  have HNO := Aside0.mk (show ¬ (0 < kk ∧ kk ≤ r.length) by rw [HZL.out]; exact hno)
  clear HDR hno hr'
  by_cases k0 : 0 < kk
  ·have q0 : (0 < kk) = True := eq_true k0
   have q1 : (kk ≤ r.length) = False := eq_false (fun h => HNO.out ⟨k0, h⟩)
   have HCK := Aside0.mk (extent_Check.tells x0 x1 x2 x3 [])
   go_wp2_with fail
   have m0 := Aside0.mk (blk_drew BKb.out)
   have m1 := Aside0.mk (blk_drew BKx.out)
   have m2 := Aside0.mk (Below.drew HB.out)
   have m3 := Aside0.mk (Below.drew HB0.out)
   clear BKb BKx HB HB0
   have BKb := m0
   have BKx := m1
   have HB := m2
   have HB0 := m3
   clear m0 m1 m2 m3
   refine start_ (n := 5) (S := fun w' => w'.cell? ⟨gx, 0, none⟩ = some (.int .i64 x0) ∧ w'.cell? ⟨gx, 1, none⟩ = some (.int .i64 x1) ∧ w'.cell? ⟨gx, 2, none⟩ = some (.int .i64 x2) ∧ w'.cell? ⟨gx, 3, none⟩ = some (.int .i64 x3) ∧ w'.cell? ⟨gx, 4, none⟩ = some (.slice none 0 0)) (ds := [3]) #[false, false, false, false, false] (by kernel_rfl) rfl rfl ⟨((blk_cell BKx.out 0).trans rfl), ((blk_cell BKx.out 1).trans rfl), ((blk_cell BKx.out 2).trans rfl), ((blk_cell BKx.out 3).trans rfl), ((blk_cell BKx.out 4).trans rfl)⟩ (fun hHeld => ?_)
   generalize w13.drew = wq2 at BKb BKx HB HB0 hHeld ⊢
   refine take_ (i := 0) (N := some 56) (v := ?_) (a' := ?_) #[true, false, false, false, false] rfl rfl (by kernel_rfl) (fun _ _ _ h => h) (Or.inl ⟨by rfl, ?_⟩) hHeld ?_ ?_
   rotate_left
   ·rintro w' ⟨s0, s1, s2, s3, s4⟩
    go_simp
    with_reducible rfl
   rotate_left
   ·simp only [Act.put, Kx.sb, Kx.sz, Kx.ss, i64_w, i32_w]
    rfl
   refine take_ (i := 1) (N := some 57) (v := ?_) (a' := ?_) #[true, true, false, false, false] rfl rfl (by kernel_rfl) (fun _ _ _ h => h) (Or.inl ⟨by rfl, ?_⟩) hHeld ?_ ?_
   rotate_left
   ·rintro w' ⟨s0, s1, s2, s3, s4⟩
    go_simp
    with_reducible rfl
   rotate_left
   ·simp only [Act.put, Kx.sb, Kx.sz, Kx.ss, i64_w, i32_w]
    rfl
   refine Cz.rO (N := some 58) 2 (fun K hK => ?_)
   refine goes_ Try.func36 (by kernel_rfl) rfl #[.agg #[.int .i64 x0, .int .i64 x1, .int .i64 x2, .int .i64 x3, .slice none 0 0]] (by rfl) rfl rfl (by simp only [List.map_toArray, List.map_cons, List.map_nil]; rfl) ?_
   with_reducible refine (extent_check0 x0 x1 x2 x3 (Pl.extOk x0 x1 x2 x3 []) _ HCK.out).mono ?_
   rintro e' w17 ⟨rfl, hb⟩
   refine ⟨_, rfl, ?_⟩
   have p1 := Cz.bk BKb hb
   have p2 := Cz.bk BKx hb
   have p3 := Aside0.mk (Kx.below_stepG HB.out hb)
   have p4 := Aside0.mk (below_step HB0.out hb)
   clear hb
   obtain ⟨hcz0, hcz1, hcz2, hcz3, hcz4, hfz0, hfz1, hfz2, hfz3, hfz4⟩ := Cz.d5 p2
   refine hK.out _ _ ⟨((blk_cell p2.out 0).trans rfl), ((blk_cell p2.out 1).trans rfl), ((blk_cell p2.out 2).trans rfl), ((blk_cell p2.out 3).trans rfl), ((blk_cell p2.out 4).trans rfl)⟩ (fun hHeld => ?_)
   clear hK K
   refine norm_ (a' := ?_) ?_ ?_
   rotate_left
   ·show Act.put _ (some 58) _ = _
    simp only [Act.put, Kx.sb, Kx.sz, Kx.ss, i64_w, i32_w]
    rfl
   refine last_ (i := 3) (N := none) #[true, true, true, true, false] rfl rfl (by kernel_rfl) (by decide) (fun K hK => ?_)
   refine skip_ (w1 := ?_) (by rfl) rfl ?_ ?_
   rotate_left
   ·go_simp
    rfl
   refine hK.out _ _ ?_
   clear hK K
   refine Cz.rP 4 2 ?_
   refine done_ (by kernel_rfl) ?_
   clear hHeld
   go_wp2_with fail
   refine bodyPost_ret (results_ct rfl _ _ gx 39 #[.int .i64 x0, .int .i64 x1, .int .i64 x2, .int .i64 x3, .slice none 0 0] (0, 0) _ rfl (by apply Cz.a5; exact p2.out) Try.underlying39 rfl (by kernel_rfl)) rfl ?_
   exact ⟨_, A8, c0 - 7, rfl, Kd.R_nil _ _ _ _ _, HZ.out, HZC.out, (Kx.below_setG (Kx.below_setG (Kx.below_setG (Kx.below_setG (Kx.below_setG p3.out GE.out) GE.out) GE.out) GE.out) GE.out)⟩
  ·have q0 : (0 < kk) = False := eq_false k0
   have HCK := Aside0.mk (extent_Check.tells x0 x1 x2 x3 [])
   go_wp2_with fail
   have m0 := Aside0.mk (blk_drew BKb.out)
   have m1 := Aside0.mk (blk_drew BKx.out)
   have m2 := Aside0.mk (Below.drew HB.out)
   have m3 := Aside0.mk (Below.drew HB0.out)
   clear BKb BKx HB HB0
   have BKb := m0
   have BKx := m1
   have HB := m2
   have HB0 := m3
   clear m0 m1 m2 m3
   refine start_ (n := 5) (S := fun w' => w'.cell? ⟨gx, 0, none⟩ = some (.int .i64 x0) ∧ w'.cell? ⟨gx, 1, none⟩ = some (.int .i64 x1) ∧ w'.cell? ⟨gx, 2, none⟩ = some (.int .i64 x2) ∧ w'.cell? ⟨gx, 3, none⟩ = some (.int .i64 x3) ∧ w'.cell? ⟨gx, 4, none⟩ = some (.slice none 0 0)) (ds := [3]) #[false, false, false, false, false] (by kernel_rfl) rfl rfl ⟨((blk_cell BKx.out 0).trans rfl), ((blk_cell BKx.out 1).trans rfl), ((blk_cell BKx.out 2).trans rfl), ((blk_cell BKx.out 3).trans rfl), ((blk_cell BKx.out 4).trans rfl)⟩ (fun hHeld => ?_)
   generalize w13.drew = wq2 at BKb BKx HB HB0 hHeld ⊢
   refine take_ (i := 0) (N := some 56) (v := ?_) (a' := ?_) #[true, false, false, false, false] rfl rfl (by kernel_rfl) (fun _ _ _ h => h) (Or.inl ⟨by rfl, ?_⟩) hHeld ?_ ?_
   rotate_left
   ·rintro w' ⟨s0, s1, s2, s3, s4⟩
    go_simp
    with_reducible rfl
   rotate_left
   ·simp only [Act.put, Kx.sb, Kx.sz, Kx.ss, i64_w, i32_w]
    rfl
   refine take_ (i := 1) (N := some 57) (v := ?_) (a' := ?_) #[true, true, false, false, false] rfl rfl (by kernel_rfl) (fun _ _ _ h => h) (Or.inl ⟨by rfl, ?_⟩) hHeld ?_ ?_
   rotate_left
   ·rintro w' ⟨s0, s1, s2, s3, s4⟩
    go_simp
    with_reducible rfl
   rotate_left
   ·simp only [Act.put, Kx.sb, Kx.sz, Kx.ss, i64_w, i32_w]
    rfl
   refine Cz.rO (N := some 58) 2 (fun K hK => ?_)
   refine goes_ Try.func36 (by kernel_rfl) rfl #[.agg #[.int .i64 x0, .int .i64 x1, .int .i64 x2, .int .i64 x3, .slice none 0 0]] (by rfl) rfl rfl (by simp only [List.map_toArray, List.map_cons, List.map_nil]; rfl) ?_
   with_reducible refine (extent_check0 x0 x1 x2 x3 (Pl.extOk x0 x1 x2 x3 []) _ HCK.out).mono ?_
   rintro e' w17 ⟨rfl, hb⟩
   refine ⟨_, rfl, ?_⟩
   have p1 := Cz.bk BKb hb
   have p2 := Cz.bk BKx hb
   have p3 := Aside0.mk (Kx.below_stepG HB.out hb)
   have p4 := Aside0.mk (below_step HB0.out hb)
   clear hb
   obtain ⟨hcz0, hcz1, hcz2, hcz3, hcz4, hfz0, hfz1, hfz2, hfz3, hfz4⟩ := Cz.d5 p2
   refine hK.out _ _ ⟨((blk_cell p2.out 0).trans rfl), ((blk_cell p2.out 1).trans rfl), ((blk_cell p2.out 2).trans rfl), ((blk_cell p2.out 3).trans rfl), ((blk_cell p2.out 4).trans rfl)⟩ (fun hHeld => ?_)
   clear hK K
   refine norm_ (a' := ?_) ?_ ?_
   rotate_left
   ·show Act.put _ (some 58) _ = _
    simp only [Act.put, Kx.sb, Kx.sz, Kx.ss, i64_w, i32_w]
    rfl
   refine last_ (i := 3) (N := none) #[true, true, true, true, false] rfl rfl (by kernel_rfl) (by decide) (fun K hK => ?_)
   refine skip_ (w1 := ?_) (by rfl) rfl ?_ ?_
   rotate_left
   ·go_simp
    rfl
   refine hK.out _ _ ?_
   clear hK K
   refine Cz.rP 4 2 ?_
   refine done_ (by kernel_rfl) ?_
   clear hHeld
   go_wp2_with fail
   refine bodyPost_ret (results_ct rfl _ _ gx 39 #[.int .i64 x0, .int .i64 x1, .int .i64 x2, .int .i64 x3, .slice none 0 0] (0, 0) _ rfl (by apply Cz.a5; exact p2.out) Try.underlying39 rfl (by kernel_rfl)) rfl ?_
   exact ⟨_, A8, c0 - 7, rfl, Kd.R_nil _ _ _ _ _, HZ.out, HZC.out, (Kx.below_setG (Kx.below_setG (Kx.below_setG (Kx.below_setG (Kx.below_setG p3.out GE.out) GE.out) GE.out) GE.out) GE.out)⟩
set_option maxHeartbeats 1000000 in
set_option maxRecDepth 2000000 in
theorem extent_Read_next.short (gb : Nat) (A0 : Option Addr) (c0 : Nat) (l0 : List Int) (w : World) (hgb : w.heap[gb]? = some (.cells #[.slice A0 l0.length c0] 23 (0, 0))) (hl : l0.length < 7) :
  Calls Try.prog 41 #[.pointer (some ⟨gb, 0, none⟩)] w fun e' w' => e' = .returned (.tuple #[.agg #[.int .i64 0, .int .i64 0, .int .i64 0, .int .i64 0, .slice none 0 0], .bool false]) ∧ Below w.heap.size w w' := by
 have hu46 := Try.underlying39
 have HB := Aside0.mk (Below.refl w.heap.size w)
 have BKb := Aside0.mk hgb
 have d1 : decide ((l0.length : Int) < 7) = true := decide_eq_true (by omega)
 have d2 : decide (l0.length < 7) = true := decide_eq_true (by omega)
 clear hgb hl
 go_enter Try.func41, Try.ntmps41
 go_wp2_with (first | ((with_reducible refine gate_dst (N := 1) rfl ?_); refine Cz.bx (N := 1) #[.int .i64 0, .int .i64 0, .int .i64 0, .int .i64 0, .slice none 0 0] 39 ?_; intro gx hg w10 hbox hb; have BKb' := Cz.bk BKb hb; have HB' := Aside0.mk (below_step HB.out hb); clear HB BKb; have HB := HB'; have BKb := BKb'; clear HB' BKb'; have BKx := Aside0.mk hbox; have GE := Aside0.mk (show w.heap.size ≤ gx by rw [hg]; exact Nat.le_refl _); clear hb hbox hg; have hcb : w10.cell? ⟨gb, 0, none⟩ = some (.slice A0 l0.length c0) := (blk_cell BKb.out 0).trans rfl; obtain ⟨hcz0, hcz1, hcz2, hcz3, hcz4, hfz0, hfz1, hfz2, hfz3, hfz4⟩ := Cz.d5 BKx))
 refine bodyPost_ret (results_ct rfl _ _ gx 39 #[.int .i64 0, .int .i64 0, .int .i64 0, .int .i64 0, .slice none 0 0] (0, 0) _ rfl (by apply Cz.a5; exact BKx.out) Try.underlying39 rfl (by kernel_rfl)) rfl ?_
 exact ⟨rfl, below_set (below_set (below_set (below_set (below_set HB.out GE.out) GE.out) GE.out) GE.out) GE.out⟩
def extent_Read.l0 : Nat → List Int → List S39 → Int → Option (List S39 × Int)
 | 0, _, _, _ => none
 | k + 1, l, x2, b0 => if Pl.byteB l = true ∧ l.length < 1000000000 ∧ x2.length < 100 then (if (x2.length : Int) = b0 then (if l.length = 0 then some (x2, 0) else some ([], 70)) else match Pl.extStep l with
  | some (e, r) => extent_Read.l0 k r (x2 ++ [⟨e.1, e.2.1, e.2.2.1, e.2.2.2.1, e.2.2.2.2⟩]) b0
  | none => some ([], 70)) else none
def extent_Read.J (gb : Nat) (ad : Addr) (A8 : Option Addr) (c0 : Nat) (l0 : List Int) (b0 : Int) (r1 : List S39) (r2 : Int) (w : World) (n : Nat) (a' : Act) (w' : World) : Prop :=
 ∃ (l : List Int) (A : Option Addr) (c : Nat) (x2 : List S39) (v2 u6 u7 u24 u25 u26 u27 u28 u29 u30 u31 u32 u33 u34 u35 u36 u37 u38 u39 u40 u41 u42 : Value), a' = { tmps := #[.slice (some ad) l0.length c0, .pointer (some ⟨gb, 0, none⟩), v2, .int .i64 0, .int .i64 b0, .func (.func 41) #[] #[.pointer (some ⟨gb, 0, none⟩)], u6, u7, .slice (some ad) l0.length c0, .int .i64 (l0.length : Int), .bool false, .bool false, .slice (some ad) l0.length c0, .pointer (some ad), .int .u8 b0, .bool false, .bool false, .slice (some ad) l0.length c0, .pointer (some ad), .int .u8 b0, .int .i64 b0, .slice (some ad) l0.length c0, .slice A8 (l0.length - 1) (c0 - 1), .func (.func 41) #[] #[.pointer (some ⟨gb, 0, none⟩)], u24, u25, u26, u27, u28, u29, u30, u31, u32, u33, u34, u35, u36, u37, u38, u39, u40, u41, u42], defers := [] } ∧ Aside0 (extent_Read.l0 n l x2 b0 = some (r1, r2)) ∧ Aside0 (w'.heap[gb]? = some (.cells #[.slice A l.length c] 23 (0, 0))) ∧ Aside0 (Kd.C (Kd.int .u8) w A l.length l) ∧ Aside0 (l.length ≤ c) ∧ Aside0 (Kd.S k39 39 w' w.heap.size (fun _ => True) v2 x2) ∧ Aside0 (Below w.heap.size w w')
set_option maxHeartbeats 1000000 in
set_option maxRecDepth 2000000 in
theorem extent_Read.callsK (K : Nat) (r1 : List S39) (r2 : Int) (A0 : Option Addr) (c0 : Nat) (l0 : List Int) (b0 : Int) (w : World) (hr0 : Kd.C (Kd.int .u8) w A0 l0.length l0) (hc0 : l0.length ≤ c0) (h1 : 1 ≤ l0.length) (hb : rd l0 0 = b0) (hb64 : b0 ≤ 64) (hb00 : 0 ≤ b0) (h : extent_Read.l0 K (l0.drop 1) [] b0 = some (r1, r2)) :
  Calls Try.prog 26 #[.slice A0 l0.length c0] w fun e w' => ∃ v0_ : Value, e = .returned (.tuple #[v0_, .int .i64 r2]) ∧ Kd.S k39 39 w' w.heap.size (fun _ => True) v0_ r1 ∧ Below w.heap.size w w' := by
 have hu46 := Try.underlying39
 have HB := Aside0.mk (Below.refl w.heap.size w)
 obtain ⟨ad, ea, hx0⟩ := Kd.at_int hr0 0 (by decide) (by omega)
 cases ea
 simp only [show (0 : Int).toNat = 0 from rfl, Addr.add_zero', hb] at hx0
 obtain ⟨i08, hi08, _, hsz8, _⟩ := info_parts info5
 obtain ⟨A8, hcut8, hA8, hC8⟩ := print_drop_of (P := Try.prog) (Value.int .u8) 0 23 5 .i64 Try.underlying23 hi08 hsz8 (some ad) c0 l0 1 (by decide) (by omega) hc0
 have HR8 := Aside0.mk (Kd.C_of_reads (h1 := fun _ => rfl) (hA8 _ (Kd.reads_of_C hr0)))
 have HC8 := Aside0.mk hC8
 have HX := Aside0.mk hx0
 have H1 := Aside0.mk h1
 have H := Aside0.mk h
 have d0 : ((l0.length : Int) == 0) = false := beq_eq_false_iff_ne.mpr (by omega)
 have d1 : (l0.length = 0) = False := eq_false (by omega)
 have d2 : (0 < l0.length) = True := eq_true (by omega)
 have d3 : (64 < b0) = False := eq_false (by omega)
 have d4 : decide (64 < b0) = false := decide_eq_false (by omega)
 have w0 : wrap64 b0 = b0 := by unfold wrap64; omega
 have w1 : IntKind.i64.wrap b0 = b0 := (i64_w _).trans w0
 clear hA8 hC8 hi08 hsz8 hr0 hc0 h1 hb hb64 hb00 h
 go_enter Try.func26, Try.ntmps26
 go_wp2_with (first | ((with_reducible refine gate_dst (N := 1) rfl ?_); refine Cz.bx (N := 1) #[.slice (some ad) l0.length c0] 23 ?_; intro gb hg w10 hbox hb; have HX' := Aside0.mk ((hb.cell (World.block_lt_of_cell? _ _ HX.out)).trans HX.out); have HB' := Aside0.mk (below_step HB.out hb); clear HB HX hx0; have HB := HB'; have hx0 := HX'.out; clear HB' HX'; have BKb := Aside0.mk hbox; have GE := Aside0.mk (show w.heap.size ≤ gb by rw [hg]; exact Nat.le_refl _); clear hb hbox hg; obtain ⟨hcb, hfb⟩ := Cz.d1 BKb))
 refine Kx.scope_ghost 0 (extent_Read.J gb ad A8 c0 l0 b0 r1 r2 w) rfl ?_ ?_
 case refine_2 =>
  intro go
  go_wp2_with fail
  go_step3
  rename_i Kk hKk
  refine hKk _ _ (go K _ _ ⟨l0.drop 1, A8, c0 - 1, [], .slice none 0 0, undef, undef, undef, undef, undef, undef, undef, undef, undef, undef, undef, undef, undef, undef, undef, undef, undef, undef, undef, undef, undef, rfl, H, ⟨blk_put BKb.out 0 _ (by rw [List.length_drop]; rfl)⟩, ⟨HR8.out⟩, ⟨HC8.out⟩, ⟨Kd.S_nil _ _ _ _ _⟩, ⟨below_set HB.out GE.out⟩⟩)
 case refine_1 =>
  intro n a' w0' hJ
  clear H
  obtain ⟨l, A, c, x2, v2, u6, u7, u24, u25, u26, u27, u28, u29, u30, u31, u32, u33, u34, u35, u36, u37, u38, u39, u40, u41, u42, rfl, H, BKg, HRl, HCl, HO2, HBw⟩ := hJ
  cases n with
  | zero => exact absurd H.out (by simp [extent_Read.l0])
  | succ n =>
   have H1 := H.out
   clear H
   rw [extent_Read.l0] at H1
   split at H1
   case isFalse => cases H1
   rename_i hg
   obtain ⟨g0, g1, g2⟩ := hg
   obtain ⟨A2, c2, rfl⟩ := Kd.S_slice HO2.out
   have hcb : w0'.cell? ⟨gb, 0, none⟩ = some (.slice A l.length c) := (blk_cell BKg.out 0).trans rfl
   have G0 := Aside0.mk g0
   have G1 := Aside0.mk g1
   have G2 := Aside0.mk g2
   clear g0 g1 g2
   by_cases he : (x2.length : Int) = b0
   ·rw [if_pos he] at H1
    have hbt : ((x2.length : Int) == b0) = true := beq_iff_eq.mpr he
    clear he
    by_cases hl : l.length = 0
    ·rw [if_pos hl] at H1
     simp only [Option.some.injEq, Prod.mk.injEq] at H1
     obtain ⟨rfl, rfl⟩ := H1
     have q0 : (0 < l.length) = False := eq_false (by omega)
     have q1 : decide (0 < (l.length : Int)) = false := decide_eq_false (by omega)
     clear hl
     go_wp2_with fail
     simp only [Exit.jump]
     go_ret2
     exact ⟨_, rfl, HO2.out, HBw.out⟩
    ·rw [if_neg hl] at H1
     simp only [Option.some.injEq, Prod.mk.injEq] at H1
     obtain ⟨rfl, rfl⟩ := H1
     have q0 : (0 < l.length) = True := eq_true (by omega)
     have q1 : decide (0 < (l.length : Int)) = true := decide_eq_true (by omega)
     clear hl
     go_wp2_with fail
     simp only [Exit.jump]
     go_ret2
     exact ⟨_, rfl, Kd.S_nil _ _ _ _ _, HBw.out⟩
   ·rw [if_neg he] at H1
    have hbt : ((x2.length : Int) == b0) = false := beq_eq_false_iff_ne.mpr he
    clear he
    go_wp2_with fail
    by_cases hs : l.length < 7
    ·rw [show Pl.extStep l = none from by unfold Pl.extStep; rw [if_pos hs]] at H1
     simp only [Option.some.injEq, Prod.mk.injEq] at H1
     obtain ⟨rfl, rfl⟩ := H1
     refine (extent_Read_next.short gb A c l w0' BKg.out hs).mono ?_
     rintro e' w11 ⟨rfl, hb⟩
     have HBn := Aside0.mk (below_step HBw.out hb)
     clear HBw hb BKg HO2 HRl HCl hcb hs
     have HBw := HBn
     clear HBn
     go_wp2_with (first | ((with_reducible refine gate_dst (N := 6) rfl ?_); refine Cz.bx (N := 6) #[.int .i64 0, .int .i64 0, .int .i64 0, .int .i64 0, .slice none 0 0] 39 ?_; intro gx hg w12 hbox hb; have BKx := Aside0.mk hbox; have GX := Aside0.mk (show w.heap.size ≤ gx by rw [hg]; exact below_size HBw.out); have HBw' := Aside0.mk (below_step HBw.out hb); clear HBw; have HBw := HBw'; clear HBw' hb hbox hg; obtain ⟨hcz0, hcz1, hcz2, hcz3, hcz4, hfz0, hfz1, hfz2, hfz3, hfz4⟩ := Cz.d5 BKx))
     simp only [Exit.jump]
     go_ret2
     exact ⟨_, rfl, Kd.S_nil _ _ _ _ _, below_set (below_set (below_set (below_set (below_set HBw.out GX.out) GX.out) GX.out) GX.out) GX.out⟩
    ·obtain ⟨n0, n1, n2, n3, hun, hu64, hpk⟩ := Pl.unpack_ext G0.out (by omega)
     obtain ⟨p0, p1, p2, p3⟩ := Pl.ext_bounds hpk
     have m0 := (Pl.u64B_iff.1 hu64 n0 (by simp)).1
     have m1 := (Pl.u64B_iff.1 hu64 n1 (by simp)).1
     have m2 := (Pl.u64B_iff.1 hu64 n2 (by simp)).1
     have m3 := (Pl.u64B_iff.1 hu64 n3 (by simp)).1
     obtain ⟨kk, hkk⟩ : ∃ kk : Nat, kk = if n2 = 2 then (n1 * 32).toNat else 0 := ⟨_, rfl⟩
     have hkb : kk < 1000000 := by rw [hkk]; split <;> omega
     have hdata : extent_data.f n0 n1 n2 n3 [] = some (kk : Int) := by
      unfold extent_data.f
      rw [hkk]
      split
      ·rw [Option.some.injEq]; unfold wrap64; omega
      ·rfl
     have hzl : (l.drop 7).length = l.length - 7 := List.length_drop
     obtain ⟨d, hd⟩ : ∃ d, d = if 0 < kk ∧ kk ≤ (l.drop 7).length then (l.drop 7).take kk else [] := ⟨_, rfl⟩
     obtain ⟨r, hr⟩ : ∃ r, r = if 0 < kk ∧ kk ≤ (l.drop 7).length then (l.drop 7).drop kk else l.drop 7 := ⟨_, rfl⟩
     have hstep : Pl.extStep l = if Pl.extOk n0 n1 n2 n3 d = true then some ((n0, n1, n2, n3, d), r) else none := by
      unfold Pl.extStep
      rw [if_neg hs, hun]
      simp only [hd, hr, hkk]
     have hdr : (0 < kk ∧ kk ≤ l.length - 7 ∧ d = (l.drop 7).take kk ∧ r = (l.drop 7).drop kk) ∨ (¬ (0 < kk ∧ kk ≤ l.length - 7) ∧ d = [] ∧ r = l.drop 7) := by
      rw [hzl] at hd hr
      by_cases h : 0 < kk ∧ kk ≤ l.length - 7
      ·rw [if_pos h] at hd hr; exact .inl ⟨h.1, h.2, hd, hr⟩
      ·rw [if_neg h] at hd hr; exact .inr ⟨h, hd, hr⟩
     have hle : le_Unpack.f (⟨#[98, 98, 98, 119]⟩ : ByteArray) (l.take 7) = some ([n0, n1, n2, n3], 0) := by
      unfold le_Unpack.f
      rw [if_pos ⟨Pl.byteB_take G0.out _, by rw [List.length_take]; omega, by decide⟩, show Pl.fb (⟨#[98, 98, 98, 119]⟩ : ByteArray) = Pl.extForm from by kernel_rfl, hun]
     rw [hstep] at H1
     refine (extent_Read_next.calls w gb A c l [n0, n1, n2, n3] n0 n1 n2 n3 w0' BKg.out HBw.out HRl.out HCl.out (by omega) hle rfl rfl rfl rfl rfl (by unfold wrap64; omega) (by unfold wrap64; omega) (by unfold wrap64; omega) (by unfold wrap64; omega) GE.out kk hkb hdata d r hdr).mono ?_
     rintro e' w11 ⟨v, A', c', rfl, ho, hC, hc, hb⟩
     obtain ⟨Ad, cd, rfl⟩ := Kd.R_slice ho
     by_cases hok : Pl.extOk n0 n1 n2 n3 d = true
     ·rw [if_pos hok] at H1
      rw [hok]
      have hsz : (w0'.setCell ⟨gb, 0, none⟩ (.slice A' r.length c')).heap.size = w0'.heap.size := by simp [World.setCell]
      rw [← hsz] at ho hb
      have BKb := Aside0.mk (blk_below (blk_put (cs' := #[.slice A' r.length c']) BKg.out 0 (.slice A' r.length c') rfl) hb)
      have HO4 := Aside0.mk (Kd.S_elder' (Cz.sf (Kd.S_types HO2.out BKg.out (by decide))) (Kd.R_base ho) hb)
      have HOb := Aside0.mk (Kd.R_lower ho (by rw [hsz]; exact below_size HBw.out))
      have HB := Aside0.mk ((below_set (j := 0) (v := .slice A' r.length c') HBw.out GE.out).trans (hb.mono (by rw [hsz]; exact below_size HBw.out)))
      have H := Aside0.mk H1
      clear H1 HBw hb BKg HO2 HRl HCl hcb hs ho hstep hdr hle hdata hkk hd hr hzl hkb hok hun hu64 hpk m0 m1 m2 m3 p0 p1 p2 p3 hsz
      have HCr := Aside0.mk hC
      have HCc := Aside0.mk hc
      clear hC hc
      go_wp2_with (first | ((with_reducible refine gate_dst (N := 6) rfl ?_); refine Cz.bx (N := 6) #[.int .i64 0, .int .i64 0, .int .i64 0, .int .i64 0, .slice none 0 0] 39 ?_; intro gx hg w12 hbox hb2; have m1 := Cz.bk BKb hb2; have m3 := Aside0.mk (Kd.S_below (Kd.S_elderB HO4.out gx (Nat.le_of_eq hg.symm)) hb2); have m5 := Aside0.mk (Kd.R_below HOb.out hb2); have m6 := Aside0.mk (below_step HB.out hb2); have BKx := Aside0.mk hbox; have GX := Aside0.mk (show w.heap.size ≤ gx by rw [hg]; exact below_size HB.out); clear BKb HO4 HOb HB hb2 hbox hg; have BKb := m1; have HO4 := m3; have HOb := m5; have HB := m6; clear m1 m3 m5 m6; obtain ⟨hcz0, hcz1, hcz2, hcz3, hcz4, hfz0, hfz1, hfz2, hfz3, hfz4⟩ := Cz.d5 BKx) | ((with_reducible refine gate_store (t := 39) (p := 6) rfl ?_); refine store_event (t := 39) (p := 6) (v := ?vo_w13) (w1 := (((((w12.setCell ⟨gx, 0, none⟩ (.int .i64 n0)).setCell ⟨gx, 1, none⟩ (.int .i64 n1)).setCell ⟨gx, 2, none⟩ (.int .i64 n2)).setCell ⟨gx, 3, none⟩ (.int .i64 n3)).setCell ⟨gx, 4, none⟩ (.slice Ad d.length cd))) ?hg ?ho ?hn ?hr ?_; (case ho => rfl); (case hg => rfl); (case hn => rfl); (case hr => first | (go_simp; done) | (go_simp; rfl)); intro w13 hw; have m1 : Aside0 (w13.heap[gb]? = some (.cells #[.slice A' r.length c'] 23 (0, 0))) := ⟨(by rw [hw]; exact (blk_far (blk_far (blk_far (blk_far (blk_far BKb.out (p := ⟨gx, 0, none⟩) (blk_ne BKb.out BKx.out (by decide)) _) (p := ⟨gx, 1, none⟩) (blk_ne BKb.out BKx.out (by decide)) _) (p := ⟨gx, 2, none⟩) (blk_ne BKb.out BKx.out (by decide)) _) (p := ⟨gx, 3, none⟩) (blk_ne BKb.out BKx.out (by decide)) _) (p := ⟨gx, 4, none⟩) (blk_ne BKb.out BKx.out (by decide)) _))⟩; have m3 : Aside0 (Kd.S k39 39 w13 w.heap.size (fun k_ => some k_ ≠ (.slice Ad d.length cd : Value).ownBlock ∧ k_ ≠ gx) (.slice A2 x2.length c2) x2) := ⟨(by rw [hw]; exact Kd.S_mono (Cz.sf (Cz.sf (Cz.sf (Cz.sf (Kd.S_far (p := ⟨gx, 0, none⟩) HO4.out (fun _ hk => hk.2) (.int .i64 n0)))))) (fun _ hk => ⟨hk.1.2, hk.2⟩))⟩; have m5 : Aside0 (Kd.R (Kd.int .u8) 5 w13 w.heap.size (fun _ => True) (.slice Ad d.length cd) d) := ⟨(by rw [hw]; exact Kd.R_mono (Cz.rf (Cz.rf (Cz.rf (Cz.rf (Cz.rf (Kd.R_types HOb.out BKx.out (by decide))))))) (fun _ hk => trivial))⟩; have m6 : Aside0 (w13.heap[gx]? = some (.cells #[.int .i64 n0, .int .i64 n1, .int .i64 n2, .int .i64 n3, .slice Ad d.length cd] 39 (0, 0))) := ⟨(by rw [hw]; apply Cz.a5; exact BKx.out)⟩; have m7 : Aside0 (Below w.heap.size w w13) := ⟨(by rw [hw]; exact (below_set (below_set (below_set (below_set (below_set HB.out GX.out) GX.out) GX.out) GX.out) GX.out))⟩; clear hw hcz0 hfz0 hcz1 hfz1 hcz2 hfz2 hcz3 hfz3 hcz4 hfz4 BKb HO4 HOb BKx HB; have BKb := m1; have HO4 := m3; have HOb := m5; have BKx := m6; have HB := m7; clear m1 m3 m5 m6 m7; obtain ⟨hcy0, hcy1, hcy2, hcy3, hcy4⟩ := Cz.c5 BKx) | ((with_reducible refine gate_builtin (b := .append) (xs := #[.tmp 39, .tmp 41]) rfl ?_); at_builtin; refine Kd.S_append k39 (w0 := w) w.heap.size rfl (.tmp 39) (.tmp 41) 24 39 (.agg #[(.int .i64 0), (.int .i64 0), (.int .i64 0), (.int .i64 0), (.slice none 0 0)]) 56 rfl Try.underlying24 info39 rfl (by decide) (by omega) (.slice A2 x2.length c2) x2 (⟨n0, n1, n2, n3, d⟩ : S39) [.int .i64 (n0), .int .i64 (n1), .int .i64 (n2), .int .i64 (n3), .slice Ad d.length cd] (fun k_ => k_ ≠ gx) (fun k_ => some k_ = (.slice Ad d.length cd : Value).ownBlock) rfl rfl ?aP (fun k_ hk_ => ((Kd.R_mono (ok' := fun k_ => ((fun k_ => k_ ≠ gx)) k_ ∧ some k_ ≠ (.slice A2 x2.length c2 : Value).ownBlock) (Kd.R_types (Kd.R_apart' (HOb.out) (Kd.S_typed HO4.out) (by decide)) BKx.out (by decide)) (fun k_ hk => ⟨hk.2, hk.1.2⟩))).1 k_ hk_.symm) ?aF ?aO ?aB ?aS ?aL ?_; (case aP => exact k39_mkM _ _ _ (⟨n0, n1, n2, n3, d⟩ : S39) (Kd.R_mono (Kd.R_tight rfl (Kd.R_mono (ok' := fun k_ => ((fun k_ => k_ ≠ gx)) k_ ∧ some k_ ≠ (.slice A2 x2.length c2 : Value).ownBlock) (Kd.R_types (Kd.R_apart' (HOb.out) (Kd.S_typed HO4.out) (by decide)) BKx.out (by decide)) (fun k_ hk => ⟨hk.2, hk.1.2⟩))) (fun _ h_ => h_))); (case aB => exact (Cz.bl (w := w))); (case aF => exact (fun k_ hk => Kd.freshB (g := gx) (o := .cells #[.int .i64 (n0), .int .i64 (n1), .int .i64 (n2), .int .i64 (n3), .slice Ad d.length cd] 39 (0, 0)) (by (with_reducible repeat (first | refine blk_drewN ?_ _ | refine blk_drew ?_ | refine blk_alloc ?_ _)); exact BKx.out) k_ hk)); (case aO => exact (by (with_reducible repeat (first | apply Kd.S_alloc | apply Kd.S_drewN | apply Kd.S_drew)); exact Kd.S_mono HO4.out (fun k_ hk => ⟨hk.2, fun e_ => hk.1 e_⟩))); (case aS => exact (below_size (Cz.bl (w := w)))); (case aL => have := G2.out; omega); intro v3 w20 ho hb2 hg hat; have m1 := Aside0.mk (blk_grown BKb.out hg (Kd.S_ne HO4.out BKb.out (by decide))); have m2 := Aside0.mk hb2; have m3 := Aside0.mk ho; clear BKb HB HO4 HOb BKx; have BKb := m1; have HB := m2; have HO4 := m3; clear m1 m2 m3 ho hb2 hg hat))
      go_step3
      refine ⟨rfl, n, Nat.lt_succ_self n, r, A', c', _, v3, _, _, _, _, _, _, _, _, _, _, _, _, _, _, _, _, _, _, _, _, _, rfl, ⟨H.out⟩, BKb, HCr, HCc, ⟨Kd.S_mono HO4.out (fun _ _ => trivial)⟩, HB⟩
     ·rw [if_neg hok] at H1
      simp only [Option.some.injEq, Prod.mk.injEq] at H1
      obtain ⟨rfl, rfl⟩ := H1
      rw [Bool.eq_false_iff.mpr hok]
      have HBn := Aside0.mk ((below_set HBw.out GE.out).trans (hb.mono (below_size HBw.out)))
      clear HBw hb BKg HO2 HRl HCl hcb hs ho hC hc hstep hdr hle hdata hkk hd hr hzl hkb hok hun hu64 hpk m0 m1 m2 m3 p0 p1 p2 p3
      have HBw := HBn
      clear HBn
      go_wp2_with (first | ((with_reducible refine gate_dst (N := 6) rfl ?_); refine Cz.bx (N := 6) #[.int .i64 0, .int .i64 0, .int .i64 0, .int .i64 0, .slice none 0 0] 39 ?_; intro gx hg w12 hbox hb; have BKx := Aside0.mk hbox; have GX := Aside0.mk (show w.heap.size ≤ gx by rw [hg]; exact below_size HBw.out); have HBw' := Aside0.mk (below_step HBw.out hb); clear HBw; have HBw := HBw'; clear HBw' hb hbox hg; obtain ⟨hcz0, hcz1, hcz2, hcz3, hcz4, hfz0, hfz1, hfz2, hfz3, hfz4⟩ := Cz.d5 BKx))
      simp only [Exit.jump]
      go_ret2
      exact ⟨_, rfl, Kd.S_nil _ _ _ _ _, below_set (below_set (below_set (below_set (below_set HBw.out GX.out) GX.out) GX.out) GX.out) GX.out⟩
set_option maxHeartbeats 1000000 in
theorem extent_Read.empty (A0 : Option Addr) (c0 : Nat) (w : World) :
  Calls Try.prog 26 #[.slice A0 0 c0] w fun e w' => e = .returned (.tuple #[.slice none 0 0, .int .i64 70]) ∧ Below w.heap.size w w' := by
 have HB := Aside0.mk (Below.refl w.heap.size w)
 go_enter Try.func26, Try.ntmps26
 go_wp2_with (first | ((with_reducible refine gate_dst (N := 1) rfl ?_); refine Cz.bx (N := 1) #[.slice A0 0 c0] 23 ?_; intro gb hg w10 hbox hb; have HB' := Aside0.mk (below_step HB.out hb); clear HB; have HB := HB'; clear HB'; have BKb := Aside0.mk hbox; clear hb hbox hg; obtain ⟨hcb, hfb⟩ := Cz.d1 BKb))
 go_step3
 go_wp2_with fail
 simp only [Exit.noGoto_ret]
 go_ret2
 exact ⟨rfl, HB.out⟩
set_option maxHeartbeats 1000000 in
theorem extent_Read.big (A0 : Option Addr) (c0 : Nat) (l0 : List Int) (b0 : Int) (w : World) (hr0 : Kd.C (Kd.int .u8) w A0 l0.length l0) (h1 : 1 ≤ l0.length) (hb : rd l0 0 = b0) (hb64 : 64 < b0) :
  Calls Try.prog 26 #[.slice A0 l0.length c0] w fun e w' => e = .returned (.tuple #[.slice none 0 0, .int .i64 70]) ∧ Below w.heap.size w w' := by
 have HB := Aside0.mk (Below.refl w.heap.size w)
 obtain ⟨ad, ea, hx0⟩ := Kd.at_int hr0 0 (by decide) (by omega)
 cases ea
 simp only [show (0 : Int).toNat = 0 from rfl, Addr.add_zero', hb] at hx0
 have HX := Aside0.mk hx0
 have d0 : ((l0.length : Int) == 0) = false := beq_eq_false_iff_ne.mpr (by omega)
 have d1 : (l0.length = 0) = False := eq_false (by omega)
 have d2 : (0 < l0.length) = True := eq_true (by omega)
 have d3 : (64 < b0) = True := eq_true (by omega)
 have d4 : decide (64 < b0) = true := decide_eq_true (by omega)
 clear hr0 h1 hb hb64
 go_enter Try.func26, Try.ntmps26
 go_wp2_with (first | ((with_reducible refine gate_dst (N := 1) rfl ?_); refine Cz.bx (N := 1) #[.slice (some ad) l0.length c0] 23 ?_; intro gb hg w10 hbox hb; have HX' := Aside0.mk ((hb.cell (World.block_lt_of_cell? _ _ HX.out)).trans HX.out); have HB' := Aside0.mk (below_step HB.out hb); clear HB HX hx0; have HB := HB'; have hx0 := HX'.out; clear HB' HX'; have BKb := Aside0.mk hbox; clear hb hbox hg; obtain ⟨hcb, hfb⟩ := Cz.d1 BKb))
 go_step3
 go_wp2_with fail
 simp only [Exit.noGoto_ret]
 go_ret2
 exact ⟨rfl, HB.out⟩
def extent_Read.ofE (e : Pl.Ext) : S39 := ⟨e.1, e.2.1, e.2.2.1, e.2.2.2.1, e.2.2.2.2⟩
theorem extent_Read.lens : ∀ (n k : Nat) (l : List Int) (x2 : List S39) (b0 : Int), Pl.byteB l = true → l.length < 1000000000 → x2.length + n < 100 → b0 = ((x2.length + n : Nat) : Int) → n < k →
  extent_Read.l0 k l x2 b0 = some (match Pl.eloop n l with | some m => (x2 ++ m.map extent_Read.ofE, 0) | none => ([], 70))
 | 0, k, l, x2, b0, hb, hl, hx, h0, hk => by
  obtain ⟨k, rfl⟩ : ∃ m, k = m + 1 := ⟨k - 1, by omega⟩
  rw [extent_Read.l0, if_pos ⟨hb, hl, by omega⟩, if_pos (by omega), Pl.eloop]
  by_cases h : l.length = 0
  ·rw [if_pos h, if_pos h]
   simp
  ·rw [if_neg h, if_neg h]
 | n + 1, k, l, x2, b0, hb, hl, hx, h0, hk => by
  obtain ⟨k, rfl⟩ : ∃ m, k = m + 1 := ⟨k - 1, by omega⟩
  rw [extent_Read.l0, if_pos ⟨hb, hl, by omega⟩, if_neg (by omega), Pl.eloop]
  cases hs : Pl.extStep l with
  | none => rfl
  | some p =>
   obtain ⟨e, r⟩ := p
   obtain ⟨ho, hbe⟩ := Pl.extStep_some hb hs
   have hlen := congrArg List.length hbe
   rw [List.length_append] at hlen
   dsimp only
   rw [extent_Read.lens n k r _ b0 (Pl.extW_byte hb hbe).1 (by omega) (by rw [List.length_append, List.length_singleton]; omega) (by rw [List.length_append, List.length_singleton]; omega) (by omega)]
   cases Pl.eloop n r with
   | none => rfl
   | some m => simp [extent_Read.ofE]
def extent_Read.f (l0 : List Int) : Option (List S39 × Int) := if Pl.byteB l0 = true ∧ l0.length < 1000000000 then some ((Pl.ereadS l0).1.map extent_Read.ofE, (Pl.ereadS l0).2) else none
theorem extent_Read.calls (A0 : Option Addr) (c0 : Nat) (l0 : List Int) (r1 : List S39) (r2 : Int) (w : World) (hr0 : Kd.C (Kd.int .u8) w A0 l0.length l0) (hc0 : l0.length ≤ c0) (h : extent_Read.f l0 = some (r1, r2)) :
  Calls Try.prog 26 #[.slice A0 l0.length c0] w fun e w' => ∃ v0_ : Value, e = .returned (.tuple #[v0_, .int .i64 r2]) ∧ Kd.S k39 39 w' w.heap.size (fun _ => True) v0_ r1 ∧ Below w.heap.size w w' := by
 unfold extent_Read.f at h
 split at h
 case isFalse => cases h
 rename_i hh
 obtain ⟨hb, hl⟩ := hh
 cases l0 with
 | nil =>
  simp only [Pl.ereadS, List.map_nil, Option.some.injEq, Prod.mk.injEq] at h
  obtain ⟨rfl, rfl⟩ := h
  refine (extent_Read.empty A0 c0 w).mono ?_
  rintro e w' ⟨rfl, hB⟩
  exact ⟨_, rfl, Kd.S_nil _ _ _ _ _, hB⟩
 | cons c r =>
  have hc := Pl.byteB_iff.1 hb c List.mem_cons_self
  have hbr : Pl.byteB r = true := Pl.byteB_iff.2 fun x hx => Pl.byteB_iff.1 hb x (List.mem_cons_of_mem _ hx)
  have hlr : r.length < 1000000000 := by rw [List.length_cons] at hl; omega
  rw [Pl.ereadS] at h
  by_cases hc64 : c > 64
  ·rw [if_pos hc64] at h
   simp only [List.map_nil, Option.some.injEq, Prod.mk.injEq] at h
   obtain ⟨rfl, rfl⟩ := h
   refine (extent_Read.big A0 c0 (c :: r) c w hr0 (by rw [List.length_cons]; omega) rfl hc64).mono ?_
   rintro e w' ⟨rfl, hB⟩
   exact ⟨_, rfl, Kd.S_nil _ _ _ _ _, hB⟩
  ·rw [if_neg hc64] at h
   refine extent_Read.callsK 66 r1 r2 A0 c0 (c :: r) c w hr0 hc0 (by rw [List.length_cons]; omega) rfl (by omega) hc.1 ?_
   rw [List.drop_succ_cons, List.drop_zero, extent_Read.lens c.toNat 66 r [] c hbr hlr (by simp; omega) (by simp; omega) (by omega), ← h]
   cases Pl.eloop c.toNat r <;> simp
end Go.Proofs.Ytmgohkffphogdaa.PU
