/- Words and walks that this claim names, of those that the kit's print and programs of this workplace have printed. -/
import Derived.Test.YtcemlfkboifncaaZAPAx12
import Derived.Test.YtcemlfkboifncaaZAPAx24
import Derived.Test.YtcemlfkboifncaaZAPAx33
namespace Go.Proofs.Ytcemlfkboifncaa.PA
open Go.RowKit Go.Proofs.YtcemlfkboifncaaW.PrintWords Go.Proofs.YtcemlfkboifncaaW.PrintLast Go.Proofs.YtcemlfkboifncaaW.PrintMore
attribute [local go_sem] max2_int min2_int max_two min_two max_three min_three max_four min_four
set_option linter.unusedVariables false
set_option linter.unusedSimpArgs false
def waggonerlaw05_awake.f : Option Bool := some true
theorem aw05_w : record_Write.f 1 9 [98, 111, 100, 121] = some (Pl.recB 1 9 [98, 111, 100, 121], 0) := by kernel_rfl
theorem aw05_r : record_Read.f (Pl.recB 1 9 [98, 111, 100, 121]) = some (1, 9, [98, 111, 100, 121], 24, 0) := by kernel_rfl
theorem aw05_n : record_Read.f [] = some (0, 0, [], 0, 50) := by kernel_rfl
theorem aw05_s : record_Scan.f (Pl.recB 1 9 [98, 111, 100, 121] ++ Pl.recB 1 9 [98, 111, 100, 121]) = some ([⟨1, 9, [98, 111, 100, 121]⟩, ⟨1, 9, [98, 111, 100, 121]⟩], [0, 24]) := by kernel_rfl
theorem aw05_e : waggonerref05_Same.f 1 9 [98, 111, 100, 121] 1 9 [98, 111, 100, 121] = some true := by kernel_rfl
theorem aw05_m : waggonerref05_Numbers.f 5 [0, 24] [0, 24] = some true := by kernel_rfl
theorem aw05_z : record_Size.f 0 = some 20 := by kernel_rfl
theorem aw05_y : record_Size.f 4097 = some 0 := by kernel_rfl
theorem aw05_c : record_Check.f 1 9 [98, 111, 100, 121] = some 0 := by kernel_rfl
theorem aw05_t : (Pl.recB 1 9 [98, 111, 100, 121]).take 8 = [87, 82, 76, 71, 1, 0, 4, 0] := by kernel_rfl
set_option maxHeartbeats 2000000 in
set_option maxRecDepth 2000000 in
theorem waggonerlaw05_awake.calls (r : Bool) (w : World) (h : waggonerlaw05_awake.f = some r) :
  Calls Try.prog 18 #[] w fun e w' => e = .returned (.bool r) ∧ Below w.heap.size w w' := by
 unfold waggonerlaw05_awake.f at h
 obtain rfl := Option.some.inj h
 clear h
 have hu25 := Try.underlying25
 have kc := fun (w : World) (C : Array Value) (n c : Nat) => Lib.run_convert_bytes_const (P := Try.prog) w 23 5 C n c Try.underlying23 Try.underlying5
 go_enter Try.func18, Try.ntmps18
 go_wp2_with fail
 obtain ⟨g1, hg1⟩ : ∃ g, g = w.heap.size + 1 := ⟨_, rfl⟩
 have BK1 := Aside0.mk (blk_new (w.alloc (.cells #[.int .u8 98, .int .u8 111, .int .u8 100, .int .u8 121] 5 (4, 5))) (.cells #[.int .i64 1, .int .i64 9, .slice (some ⟨w.heap.size, 0, none⟩) 4 4] 25))
 rw [show (w.alloc (.cells #[.int .u8 98, .int .u8 111, .int .u8 100, .int .u8 121] 5 (4, 5))).heap.size = g1 from by rw [hg1]; simp] at BK1
 rw [← hg1]
 clear hg1
 have HRy0 := Aside0.mk (Kd.C_alloc (Kx.C_lit w [98, 111, 100, 121] (by decide) 5 (4, 5)) (.cells #[.int .i64 1, .int .i64 9, .slice (some ⟨w.heap.size, 0, none⟩) 4 4] 25))
 refine (record_Write.calls 1 9 _ _ [98, 111, 100, 121] _ _ _ HRy0.out (Nat.le_refl _) aw05_w).mono ?_
 rintro e w1 ⟨v1, rfl, ho, hb⟩
 obtain ⟨Aq, cq, rfl, hcq, hrq⟩ := Kd.R_reads ho
 have HB := Aside0.mk (below_step (below_alloc (below_alloc (Below.refl w.heap.size w) _) _) hb)
 have HRy := Aside0.mk (Kd.C_below HRy0.out hb)
 have n1 := Aside0.mk (blk_below BK1.out hb)
 have HCq := Aside0.mk hcq
 have HRq := Aside0.mk hrq
 have HQr := Aside0.mk aw05_r
 have HQs := Aside0.mk aw05_s
 have HQt := Aside0.mk aw05_t
 have HQl : Aside0 ((Pl.recB 1 9 [98, 111, 100, 121]).length = 24) := ⟨by rw [Pl.recB_length]; rfl⟩
 clear BK1 HRy0 ho hb hcq hrq
 have BK1 := n1
 clear n1
 generalize w.heap.size = gy at BK1 HRy ⊢
 generalize Pl.recB 1 9 [98, 111, 100, 121] = q at HCq HRq HQr HQs HQt HQl ⊢
 go_wp2_with fail
 refine (record_Read.calls Aq cq q _ _ _ _ _ _ HRq.out HCq.out HQr.out).mono ?_
 rintro e w2 ⟨v2, rfl, ho, hb⟩
 obtain ⟨A2, c2, rfl, hc2, hr2⟩ := Kd.R_reads ho
 have n1 := Aside0.mk (below_step HB.out hb)
 have n2 := Aside0.mk (Kd.C_below HRy.out hb)
 have n3 := Aside0.mk (blk_below BK1.out hb)
 have n4 := Aside0.mk (Kd.C_below HRq.out hb)
 have HC2 := Aside0.mk hc2
 have HR2 := Aside0.mk hr2
 clear HB HRy BK1 HRq ho hb hc2 hr2 HQr
 have HB := n1
 have HRy := n2
 have BK1 := n3
 have HRq := n4
 clear n1 n2 n3 n4
 go_wp2_with fail
 refine (record_Read.calls none 0 [] _ _ _ _ _ _ (Kd.C_nil _ _) (Nat.le_refl _) aw05_n).mono ?_
 rintro e w3 ⟨v3, rfl, ho, hb⟩
 obtain ⟨A3, c3, rfl, hc3, hr3⟩ := Kd.R_reads ho
 have n1 := Aside0.mk (below_step (below_alloc HB.out _) hb)
 have n2 := Aside0.mk (Kd.C_below (Kd.C_alloc HRy.out _) hb)
 have n3 := Aside0.mk (blk_below (blk_alloc BK1.out _) hb)
 have n4 := Aside0.mk (Kd.C_below (Kd.C_alloc HRq.out _) hb)
 have n5 := Aside0.mk (Kd.C_below (Kd.C_alloc HR2.out _) hb)
 have BK4 := Aside0.mk (blk_below (blk_new w2 (.cells #[.int .i64 1, .int .i64 9, .slice A2 4 c2] 25)) hb)
 clear HB HRy BK1 HRq HR2 ho hb hc3 hr3
 have HB := n1
 have HRy := n2
 have BK1 := n3
 have HRq := n4
 have HR2 := n5
 clear n1 n2 n3 n4 n5
 generalize w2.heap.size = g4 at BK4 ⊢
 go_upto_region 5 with (fail)
 have n1 := Aside0.mk (below_alloc HB.out (.cells #[.int .i64 0, .int .i64 0, .slice A3 0 c3] 25))
 have n2 := Aside0.mk (Kd.C_alloc HRy.out (.cells #[.int .i64 0, .int .i64 0, .slice A3 0 c3] 25))
 have n3 := Aside0.mk (blk_alloc BK1.out (.cells #[.int .i64 0, .int .i64 0, .slice A3 0 c3] 25))
 have n4 := Aside0.mk (Kd.C_alloc HRq.out (.cells #[.int .i64 0, .int .i64 0, .slice A3 0 c3] 25))
 have n5 := Aside0.mk (Kd.C_alloc HR2.out (.cells #[.int .i64 0, .int .i64 0, .slice A3 0 c3] 25))
 have n6 := Aside0.mk (blk_alloc BK4.out (.cells #[.int .i64 0, .int .i64 0, .slice A3 0 c3] 25))
 clear HB HRy BK1 HRq HR2 BK4
 have HB := n1
 have HRy := n2
 have BK1 := n3
 have HRq := n4
 have HR2 := n5
 have BK4 := n6
 clear n1 n2 n3 n4 n5 n6
 generalize w3.alloc (.cells #[.int .i64 0, .int .i64 0, .slice A3 0 c3] 25) = w4 at HB HRy BK1 HRq HR2 BK4 ⊢
 go_wp2_with (first | ((with_reducible refine gate_dst (N := 33) rfl ?_); refine Kd.R_lit (Kd.int .u8) _ 5 ?hg (N := 33) ?hd (xs := ([] : List Int)) (inner := []) (ok := fun _ => True) (okp := fun _ => True) ?hr ?hp (fun _ hk => hk) trivial (Below.refl _ _) (Nat.le_refl _) (by simp) ?_; (case hd => rfl); (case hg => rfl); (case hr => first | (go_simp; done) | (go_simp; rfl)); (case hp => exact (Reps.none _ _)); intro v110 w13 ho14 hb hg_ hnew_; clear hg_ hnew_; have HL := Aside0.mk ho14; have HLB := Aside0.mk hb; clear hb ho14) | ((with_reducible refine gate_builtin (b := .append) (xs := #[.tmp 33, .tmp 34]) rfl ?_); at_builtin; go_must (refine Kd.R_append_rows (Kd.int .u8) (w0 := w4) w4.heap.size rfl (.tmp 33) (.tmp 34) 23 5 (.int .u8 0) 1 rfl Try.underlying23 info5 rfl (by decide) (by omega) v110 [] q _ _ _ (fun _ => True) (fun _ => False) rfl rfl ?aO ?aR (fun _ _ h => h) (fun _ h => h.elim) ?aF ?aB ?aS ?aL ?_); (case aR => exact (Kd.C_below HRq.out HLB.out)); (case aB => exact HLB.out); (case aF => exact (fun _ _ => trivial)); (case aO => exact HL.out); (case aS => exact HLB.out.size); (case aL => have := HQl.out; simp; omega); intro v113 w15c ho hb hg hat; rw [List.nil_append] at ho; have HOc := Aside0.mk ho; have HBOc := Aside0.mk hb; clear HL HLB ho hb hg hat) | ((with_reducible refine gate_builtin (b := .append) (xs := #[.tmp 35, .tmp 36]) rfl ?_); at_builtin; go_must (refine Kd.R_append_rows (Kd.int .u8) (w0 := w4) w4.heap.size rfl (.tmp 35) (.tmp 36) 23 5 (.int .u8 0) 1 rfl Try.underlying23 info5 rfl (by decide) (by omega) v113 q q _ _ _ (fun _ => True) (fun _ => False) rfl rfl ?bO ?bR (fun _ _ h => h) (fun _ h => h.elim) ?bF ?bB ?bS ?bL ?_); (case bR => exact (Kd.C_below HRq.out HBOc.out)); (case bB => exact HBOc.out); (case bF => exact (fun _ _ => trivial)); (case bO => exact HOc.out); (case bS => exact HBOc.out.size); (case bL => have := HQl.out; omega); intro v114 w16 ho hb hg hat; have HO2 := Aside0.mk ho; have HB2 := Aside0.mk hb; clear ho hb hg hat))
 obtain ⟨As, cs, rfl, hcs, hrs⟩ := Kd.R_reads HO2.out
 clear HOc HBOc
 refine (record_Scan.calls As cs (q ++ q) _ _ _ hrs hcs HQs.out).mono ?_
 rintro e w17 ⟨v10, v11, rfl, hs, hi, hb⟩
 obtain ⟨A10, c10, rfl, -, -⟩ := Kd.S_reads hs
 obtain ⟨A11, c11, rfl, hc11, hr11⟩ := Kd.R_reads hi
 have n1 := Aside0.mk (below_step (below_step HB.out HB2.out) hb)
 have n2 := Aside0.mk (Kd.C_below (Kd.C_below HRy.out HB2.out) hb)
 have n3 := Aside0.mk (blk_below (blk_below BK1.out HB2.out) hb)
 have n4 := Aside0.mk (Kd.C_below (Kd.C_below HRq.out HB2.out) hb)
 have n5 := Aside0.mk (Kd.C_below (Kd.C_below HR2.out HB2.out) hb)
 have n6 := Aside0.mk (blk_below (blk_below BK4.out HB2.out) hb)
 have HC11 := Aside0.mk hc11
 have HR11 := Aside0.mk hr11
 clear HB HRy BK1 HRq HR2 BK4 HO2 HB2 hs hi hb hc11 hr11 hcs hrs HQs
 have HB := n1
 have HRy := n2
 have BK1 := n3
 have HRq := n4
 have HR2 := n5
 have BK4 := n6
 clear n1 n2 n3 n4 n5 n6
 have dq : ((q.length : Int) != 24) = false := by rw [HQl.out]; rfl
 have dq' : (q.length != 24) = false := by rw [HQl.out]; rfl
 have c40 : w17.cell? ⟨g4, 0, none⟩ = some (.int .i64 1) := (blk_cell BK4.out 0).trans rfl
 have c41 : w17.cell? ⟨g4, 1, none⟩ = some (.int .i64 9) := (blk_cell BK4.out 1).trans rfl
 have c42 : w17.cell? ⟨g4, 2, none⟩ = some (.slice A2 4 c2) := (blk_cell BK4.out 2).trans rfl
 have c10_ : w17.cell? ⟨g1, 0, none⟩ = some (.int .i64 1) := (blk_cell BK1.out 0).trans rfl
 have c11_ : w17.cell? ⟨g1, 1, none⟩ = some (.int .i64 9) := (blk_cell BK1.out 1).trans rfl
 have c12_ : w17.cell? ⟨g1, 2, none⟩ = some (.slice (some ⟨gy, 0, none⟩) 4 4) := (blk_cell BK1.out 2).trans rfl
 go_wp2_with fail
 refine (waggonerref05_Same.calls 1 9 _ _ [98, 111, 100, 121] 1 9 _ _ [98, 111, 100, 121] true _ HR2.out HC2.out HRy.out (Nat.le_refl _) aw05_e).mono ?_
 rintro e w18 ⟨rfl, hb⟩
 have n1 := Aside0.mk (below_step HB.out hb)
 have n2 := Aside0.mk (Kd.C_below HRy.out hb)
 have n3 := Aside0.mk (blk_below BK1.out hb)
 have n4 := Aside0.mk (Kd.C_below HRq.out hb)
 have n5 := Aside0.mk (Kd.C_below HR11.out hb)
 clear HB HRy BK1 HRq HR2 HC2 BK4 HR11 hb c40 c41 c42 c10_ c11_ c12_ dq dq'
 have HB := n1
 have HRy := n2
 have BK1 := n3
 have HRq := n4
 have HR11 := n5
 clear n1 n2 n3 n4 n5
 obtain ⟨i0, hi, hz0, hz1, hz2⟩ := info_parts info5
 obtain ⟨hcut, -, hC⟩ := print_take_of (P := Try.prog) (Value.int .u8) 0 23 5 .i64 Try.underlying23 hi hz1 Aq cq q (8 : Int) (by omega) (by have := HQl.out; omega) HCq.out
 rw [show (8 : Int).toNat = 8 from rfl, HQt.out] at hcut
 replace hcut : ∀ W : World, (Instr.slice 23 (.slice Aq q.length cq) none (some (.int .i64 8)) none).run Try.prog W = .ok (.slice Aq 8 cq) W := hcut
 have HR8 := Aside0.mk (Kx.takeC 8 (by have := HQl.out; omega) HRq.out)
 rw [HQt.out] at HR8
 clear hi hz0 hz1 hz2 hC HRq
 go_wp2
 have n_HB := Aside0.mk (below_drew HB.out)
 have n_HRy := Aside0.mk (Kd.C_drew HRy.out)
 have n_BK1 := Aside0.mk (blk_drew BK1.out)
 have n_HR8 := Aside0.mk (Kd.C_drew HR8.out)
 have n_HR11 := Aside0.mk (Kd.C_drew HR11.out)
 clear HB HRy BK1 HR8 HR11
 have HB := n_HB
 have HRy := n_HRy
 have BK1 := n_BK1
 have HR8 := n_HR8
 have HR11 := n_HR11
 clear n_HB n_HRy n_BK1 n_HR8 n_HR11
 refine start_ (n := 49) (S := fun w' => w'.cell? ⟨g1, 0, none⟩ = some (.int .i64 1) ∧ w'.cell? ⟨g1, 1, none⟩ = some (.int .i64 9) ∧ w'.cell? ⟨g1, 2, none⟩ = some (.slice (some ⟨gy, 0, none⟩) 4 4) ∧ (convert 23 9 (.slice Aq 8 cq)).run Try.prog w' = .ok (.string (strOfNums [87, 82, 76, 71, 1, 0, 4, 0])) w') (ds := []) #[false, false, false, false, false, false, false, false, false, false, false, false, false, false, false, false, false, false, false, false, false, false, false, false, false, false, false, false, false, false, false, false, false, false, false, false, false, false, false, false, false, false, false, false, false, false, false, false, false] (by kernel_rfl) rfl rfl ⟨((blk_cell BK1.out 0).trans rfl), ((blk_cell BK1.out 1).trans rfl), ((blk_cell BK1.out 2).trans rfl), (Kd.C_string (P := Try.prog) (A := Aq) (c := cq) Try.underlying23 Try.underlying5 Try.underlying9 HR8.out)⟩ (fun hHeld => ?_)
 generalize w18.drew = wd at HB HRy BK1 HR8 HR11 hHeld ⊢
 refine one_ (i := 0) (N := some 47) #[true, false, false, false, false, false, false, false, false, false, false, false, false, false, false, false, false, false, false, false, false, false, false, false, false, false, false, false, false, false, false, false, false, false, false, false, false, false, false, false, false, false, false, false, false, false, false, false, false] rfl rfl (by kernel_rfl) (by decide) (fun K hK => ?_)
 refine goes_ Try.func26 (by kernel_rfl) rfl #[.int .i64 0] (by rfl) rfl rfl (by simp only [List.map_toArray, List.map_cons, List.map_nil]; rfl) ?_
 refine (record_Size.calls _ _ _ aw05_z).mono ?_
 rintro e wa0 ⟨rfl, hd⟩
 refine ⟨_, rfl, ?_⟩
 have n_HB := Aside0.mk (below_step HB.out hd.below)
 have n_HRy := Aside0.mk (Kd.C_below HRy.out hd.below)
 have n_BK1 := Aside0.mk (blk_below BK1.out hd.below)
 have n_HR8 := Aside0.mk (Kd.C_below HR8.out hd.below)
 have n_HR11 := Aside0.mk (Kd.C_below HR11.out hd.below)
 clear HB HRy BK1 HR8 HR11
 have HB := n_HB
 have HRy := n_HRy
 have BK1 := n_BK1
 have HR8 := n_HR8
 have HR11 := n_HR11
 clear n_HB n_HRy n_BK1 n_HR8 n_HR11
 clear hd
 refine hK.out _ _ ⟨((blk_cell BK1.out 0).trans rfl), ((blk_cell BK1.out 1).trans rfl), ((blk_cell BK1.out 2).trans rfl), (Kd.C_string (P := Try.prog) (A := Aq) (c := cq) Try.underlying23 Try.underlying5 Try.underlying9 HR8.out)⟩ (fun hHeld => ?_)
 clear hK K
 refine norm_ (a' := ?_) ?_ ?_
 rotate_left
 ·show Act.put _ (some 47) _ = _
  simp only [Act.put, Kx.sb, Kx.sz, Kx.ss, i64_w, i32_w]
  rfl
 refine pure_ (i := 1) (N := some 48) (v := ?_) (a' := ?_) #[true, true, false, false, false, false, false, false, false, false, false, false, false, false, false, false, false, false, false, false, false, false, false, false, false, false, false, false, false, false, false, false, false, false, false, false, false, false, false, false, false, false, false, false, false, false, false, false, false] rfl rfl (by kernel_rfl) (fun _ _ _ h => h) (Or.inl ⟨by rfl, ?_⟩) ?_ ?_
 rotate_left
 ·intro w'
  go_simp
  with_reducible rfl
 rotate_left
 ·simp only [Act.put, Kx.sb, Kx.sz, Kx.ss, i64_w, i32_w]
  rfl
 refine pure_ (i := 2) (N := some 49) (v := ?_) (a' := ?_) #[true, true, true, false, false, false, false, false, false, false, false, false, false, false, false, false, false, false, false, false, false, false, false, false, false, false, false, false, false, false, false, false, false, false, false, false, false, false, false, false, false, false, false, false, false, false, false, false, false] rfl rfl (by kernel_rfl) (fun _ _ _ h => h) (Or.inl ⟨by rfl, ?_⟩) ?_ ?_
 rotate_left
 ·intro w'
  go_simp
  with_reducible rfl
 rotate_left
 ·simp only [Act.put, Kx.sb, Kx.sz, Kx.ss, i64_w, i32_w]
  rfl
 refine one_ (i := 3) (N := some 50) #[true, true, true, true, false, false, false, false, false, false, false, false, false, false, false, false, false, false, false, false, false, false, false, false, false, false, false, false, false, false, false, false, false, false, false, false, false, false, false, false, false, false, false, false, false, false, false, false, false] rfl rfl (by kernel_rfl) (by decide) (fun K hK => ?_)
 refine goes_ Try.func26 (by kernel_rfl) rfl #[.int .i64 4097] (by rfl) rfl rfl (by simp only [List.map_toArray, List.map_cons, List.map_nil]; rfl) ?_
 refine (record_Size.calls _ _ _ aw05_y).mono ?_
 rintro e wa3 ⟨rfl, hd⟩
 refine ⟨_, rfl, ?_⟩
 have n_HB := Aside0.mk (below_step HB.out hd.below)
 have n_HRy := Aside0.mk (Kd.C_below HRy.out hd.below)
 have n_BK1 := Aside0.mk (blk_below BK1.out hd.below)
 have n_HR8 := Aside0.mk (Kd.C_below HR8.out hd.below)
 have n_HR11 := Aside0.mk (Kd.C_below HR11.out hd.below)
 clear HB HRy BK1 HR8 HR11
 have HB := n_HB
 have HRy := n_HRy
 have BK1 := n_BK1
 have HR8 := n_HR8
 have HR11 := n_HR11
 clear n_HB n_HRy n_BK1 n_HR8 n_HR11
 clear hd
 refine hK.out _ _ ⟨((blk_cell BK1.out 0).trans rfl), ((blk_cell BK1.out 1).trans rfl), ((blk_cell BK1.out 2).trans rfl), (Kd.C_string (P := Try.prog) (A := Aq) (c := cq) Try.underlying23 Try.underlying5 Try.underlying9 HR8.out)⟩ (fun hHeld => ?_)
 clear hK K
 refine norm_ (a' := ?_) ?_ ?_
 rotate_left
 ·show Act.put _ (some 50) _ = _
  simp only [Act.put, Kx.sb, Kx.sz, Kx.ss, i64_w, i32_w]
  rfl
 refine pure_ (i := 4) (N := some 51) (v := ?_) (a' := ?_) #[true, true, true, true, true, false, false, false, false, false, false, false, false, false, false, false, false, false, false, false, false, false, false, false, false, false, false, false, false, false, false, false, false, false, false, false, false, false, false, false, false, false, false, false, false, false, false, false, false] rfl rfl (by kernel_rfl) (fun _ _ _ h => h) (Or.inl ⟨by rfl, ?_⟩) ?_ ?_
 rotate_left
 ·intro w'
  go_simp
  with_reducible rfl
 rotate_left
 ·simp only [Act.put, Kx.sb, Kx.sz, Kx.ss, i64_w, i32_w]
  rfl
 refine pure_ (i := 5) (N := some 52) (v := ?_) (a' := ?_) #[true, true, true, true, true, true, false, false, false, false, false, false, false, false, false, false, false, false, false, false, false, false, false, false, false, false, false, false, false, false, false, false, false, false, false, false, false, false, false, false, false, false, false, false, false, false, false, false, false] rfl rfl (by kernel_rfl) (fun _ _ _ h => h) (Or.inl ⟨by rfl, ?_⟩) ?_ ?_
 rotate_left
 ·intro w'
  go_simp
  with_reducible rfl
 rotate_left
 ·simp only [Act.put, Kx.sb, Kx.sz, Kx.ss, i64_w, i32_w]
  rfl
 refine pure_ (i := 6) (N := some 53) (v := ?_) (a' := ?_) #[true, true, true, true, true, true, true, false, false, false, false, false, false, false, false, false, false, false, false, false, false, false, false, false, false, false, false, false, false, false, false, false, false, false, false, false, false, false, false, false, false, false, false, false, false, false, false, false, false] rfl rfl (by kernel_rfl) (fun _ _ _ h => h) (Or.inl ⟨by rfl, ?_⟩) ?_ ?_
 rotate_left
 ·intro w'
  go_simp
  with_reducible rfl
 rotate_left
 ·simp only [Act.put, Kx.sb, Kx.sz, Kx.ss, i64_w, i32_w]
  rfl
 refine pure_ (i := 7) (N := some 54) (v := ?_) (a' := ?_) #[true, true, true, true, true, true, true, true, false, false, false, false, false, false, false, false, false, false, false, false, false, false, false, false, false, false, false, false, false, false, false, false, false, false, false, false, false, false, false, false, false, false, false, false, false, false, false, false, false] rfl rfl (by kernel_rfl) (fun _ _ _ h => h) (Or.inl ⟨by rfl, ?_⟩) ?_ ?_
 rotate_left
 ·intro w'
  go_simp
  with_reducible rfl
 rotate_left
 ·simp only [Act.put, Kx.sb, Kx.sz, Kx.ss, i64_w, i32_w]
  rfl
 refine pure_ (i := 8) (N := some 55) (v := ?_) (a' := ?_) #[true, true, true, true, true, true, true, true, true, false, false, false, false, false, false, false, false, false, false, false, false, false, false, false, false, false, false, false, false, false, false, false, false, false, false, false, false, false, false, false, false, false, false, false, false, false, false, false, false] rfl rfl (by kernel_rfl) (fun _ _ _ h => h) (Or.inl ⟨by rfl, ?_⟩) ?_ ?_
 rotate_left
 ·intro w'
  go_simp
  with_reducible rfl
 rotate_left
 ·simp only [Act.put, Kx.sb, Kx.sz, Kx.ss, i64_w, i32_w]
  rfl
 refine pure_ (i := 9) (N := some 56) (v := ?_) (a' := ?_) #[true, true, true, true, true, true, true, true, true, true, false, false, false, false, false, false, false, false, false, false, false, false, false, false, false, false, false, false, false, false, false, false, false, false, false, false, false, false, false, false, false, false, false, false, false, false, false, false, false] rfl rfl (by kernel_rfl) (fun _ _ _ h => h) (Or.inl ⟨by rfl, ?_⟩) ?_ ?_
 rotate_left
 ·intro w'
  go_simp
  with_reducible rfl
 rotate_left
 ·simp only [Act.put, Kx.sb, Kx.sz, Kx.ss, i64_w, i32_w]
  rfl
 refine pure_ (i := 10) (N := some 57) (v := ?_) (a' := ?_) #[true, true, true, true, true, true, true, true, true, true, true, false, false, false, false, false, false, false, false, false, false, false, false, false, false, false, false, false, false, false, false, false, false, false, false, false, false, false, false, false, false, false, false, false, false, false, false, false, false] rfl rfl (by kernel_rfl) (fun _ _ _ h => h) (Or.inl ⟨by rfl, ?_⟩) ?_ ?_
 rotate_left
 ·intro w'
  go_simp
  with_reducible rfl
 rotate_left
 ·simp only [Act.put, Kx.sb, Kx.sz, Kx.ss, i64_w, i32_w]
  rfl
 refine pure_ (i := 11) (N := some 58) (v := ?_) (a' := ?_) #[true, true, true, true, true, true, true, true, true, true, true, true, false, false, false, false, false, false, false, false, false, false, false, false, false, false, false, false, false, false, false, false, false, false, false, false, false, false, false, false, false, false, false, false, false, false, false, false, false] rfl rfl (by kernel_rfl) (fun _ _ _ h => h) (Or.inl ⟨by rfl, ?_⟩) ?_ ?_
 rotate_left
 ·intro w'
  go_simp
  with_reducible rfl
 rotate_left
 ·simp only [Act.put, Kx.sb, Kx.sz, Kx.ss, i64_w, i32_w]
  rfl
 refine pure_ (i := 12) (N := some 59) (v := ?_) (a' := ?_) #[true, true, true, true, true, true, true, true, true, true, true, true, true, false, false, false, false, false, false, false, false, false, false, false, false, false, false, false, false, false, false, false, false, false, false, false, false, false, false, false, false, false, false, false, false, false, false, false, false] rfl rfl (by kernel_rfl) (fun _ _ _ h => h) (Or.inl ⟨by rfl, ?_⟩) ?_ ?_
 rotate_left
 ·intro w'
  go_simp
  with_reducible rfl
 rotate_left
 ·simp only [Act.put, Kx.sb, Kx.sz, Kx.ss, i64_w, i32_w]
  rfl
 refine pure_ (i := 13) (N := some 60) (v := ?_) (a' := ?_) #[true, true, true, true, true, true, true, true, true, true, true, true, true, true, false, false, false, false, false, false, false, false, false, false, false, false, false, false, false, false, false, false, false, false, false, false, false, false, false, false, false, false, false, false, false, false, false, false, false] rfl rfl (by kernel_rfl) (fun _ _ _ h => h) (Or.inl ⟨by rfl, ?_⟩) ?_ ?_
 rotate_left
 ·intro w'
  go_simp
  with_reducible rfl
 rotate_left
 ·simp only [Act.put, Kx.sb, Kx.sz, Kx.ss, i64_w, i32_w]
  rfl
 refine pure_ (i := 14) (N := some 61) (v := ?_) (a' := ?_) #[true, true, true, true, true, true, true, true, true, true, true, true, true, true, true, false, false, false, false, false, false, false, false, false, false, false, false, false, false, false, false, false, false, false, false, false, false, false, false, false, false, false, false, false, false, false, false, false, false] rfl rfl (by kernel_rfl) (fun _ _ _ h => h) (Or.inl ⟨by rfl, ?_⟩) ?_ ?_
 rotate_left
 ·intro w'
  go_simp
  with_reducible rfl
 rotate_left
 ·simp only [Act.put, Kx.sb, Kx.sz, Kx.ss, i64_w, i32_w]
  rfl
 refine pure_ (i := 15) (N := some 62) (v := ?_) (a' := ?_) #[true, true, true, true, true, true, true, true, true, true, true, true, true, true, true, true, false, false, false, false, false, false, false, false, false, false, false, false, false, false, false, false, false, false, false, false, false, false, false, false, false, false, false, false, false, false, false, false, false] rfl rfl (by kernel_rfl) (fun _ _ _ h => h) (Or.inl ⟨by rfl, ?_⟩) ?_ ?_
 rotate_left
 ·intro w'
  go_simp
  with_reducible rfl
 rotate_left
 ·simp only [Act.put, Kx.sb, Kx.sz, Kx.ss, i64_w, i32_w]
  rfl
 refine pure_ (i := 16) (N := some 63) (v := ?_) (a' := ?_) #[true, true, true, true, true, true, true, true, true, true, true, true, true, true, true, true, true, false, false, false, false, false, false, false, false, false, false, false, false, false, false, false, false, false, false, false, false, false, false, false, false, false, false, false, false, false, false, false, false] rfl rfl (by kernel_rfl) (fun _ _ _ h => h) (Or.inl ⟨by rfl, ?_⟩) ?_ ?_
 rotate_left
 ·intro w'
  go_simp
  with_reducible rfl
 rotate_left
 ·simp only [Act.put, Kx.sb, Kx.sz, Kx.ss, i64_w, i32_w]
  rfl
 refine pure_ (i := 17) (N := some 64) (v := ?_) (a' := ?_) #[true, true, true, true, true, true, true, true, true, true, true, true, true, true, true, true, true, true, false, false, false, false, false, false, false, false, false, false, false, false, false, false, false, false, false, false, false, false, false, false, false, false, false, false, false, false, false, false, false] rfl rfl (by kernel_rfl) (fun _ _ _ h => h) (Or.inl ⟨by rfl, ?_⟩) ?_ ?_
 rotate_left
 ·intro w'
  go_simp
  with_reducible rfl
 rotate_left
 ·simp only [Act.put, Kx.sb, Kx.sz, Kx.ss, i64_w, i32_w]
  rfl
 refine pure_ (i := 18) (N := some 65) (v := ?_) (a' := ?_) #[true, true, true, true, true, true, true, true, true, true, true, true, true, true, true, true, true, true, true, false, false, false, false, false, false, false, false, false, false, false, false, false, false, false, false, false, false, false, false, false, false, false, false, false, false, false, false, false, false] rfl rfl (by kernel_rfl) (fun _ _ _ h => h) (Or.inl ⟨by rfl, ?_⟩) ?_ ?_
 rotate_left
 ·intro w'
  go_simp
  with_reducible rfl
 rotate_left
 ·simp only [Act.put, Kx.sb, Kx.sz, Kx.ss, i64_w, i32_w]
  rfl
 refine pure_ (i := 19) (N := some 66) (v := ?_) (a' := ?_) #[true, true, true, true, true, true, true, true, true, true, true, true, true, true, true, true, true, true, true, true, false, false, false, false, false, false, false, false, false, false, false, false, false, false, false, false, false, false, false, false, false, false, false, false, false, false, false, false, false] rfl rfl (by kernel_rfl) (fun _ _ _ h => h) (Or.inl ⟨by rfl, ?_⟩) ?_ ?_
 rotate_left
 ·intro w'
  go_simp
  with_reducible rfl
 rotate_left
 ·simp only [Act.put, Kx.sb, Kx.sz, Kx.ss, i64_w, i32_w]
  rfl
 refine pure_ (i := 20) (N := some 67) (v := ?_) (a' := ?_) #[true, true, true, true, true, true, true, true, true, true, true, true, true, true, true, true, true, true, true, true, true, false, false, false, false, false, false, false, false, false, false, false, false, false, false, false, false, false, false, false, false, false, false, false, false, false, false, false, false] rfl rfl (by kernel_rfl) (fun _ _ _ h => h) (Or.inl ⟨by rfl, ?_⟩) ?_ ?_
 rotate_left
 ·intro w'
  go_simp
  with_reducible rfl
 rotate_left
 ·simp only [Act.put, Kx.sb, Kx.sz, Kx.ss, i64_w, i32_w]
  rfl
 refine pure_ (i := 21) (N := some 68) (v := ?_) (a' := ?_) #[true, true, true, true, true, true, true, true, true, true, true, true, true, true, true, true, true, true, true, true, true, true, false, false, false, false, false, false, false, false, false, false, false, false, false, false, false, false, false, false, false, false, false, false, false, false, false, false, false] rfl rfl (by kernel_rfl) (fun _ _ _ h => h) (Or.inl ⟨by rfl, ?_⟩) ?_ ?_
 rotate_left
 ·intro w'
  go_simp
  with_reducible rfl
 rotate_left
 ·simp only [Act.put, Kx.sb, Kx.sz, Kx.ss, i64_w, i32_w]
  rfl
 refine pure_ (i := 22) (N := some 69) (v := ?_) (a' := ?_) #[true, true, true, true, true, true, true, true, true, true, true, true, true, true, true, true, true, true, true, true, true, true, true, false, false, false, false, false, false, false, false, false, false, false, false, false, false, false, false, false, false, false, false, false, false, false, false, false, false] rfl rfl (by kernel_rfl) (fun _ _ _ h => h) (Or.inl ⟨by rfl, ?_⟩) ?_ ?_
 rotate_left
 ·intro w'
  go_simp
  with_reducible rfl
 rotate_left
 ·simp only [Act.put, Kx.sb, Kx.sz, Kx.ss, i64_w, i32_w]
  rfl
 refine pure_ (i := 23) (N := some 70) (v := ?_) (a' := ?_) #[true, true, true, true, true, true, true, true, true, true, true, true, true, true, true, true, true, true, true, true, true, true, true, true, false, false, false, false, false, false, false, false, false, false, false, false, false, false, false, false, false, false, false, false, false, false, false, false, false] rfl rfl (by kernel_rfl) (fun _ _ _ h => h) (Or.inl ⟨by rfl, ?_⟩) ?_ ?_
 rotate_left
 ·intro w'
  go_simp
  with_reducible rfl
 rotate_left
 ·simp only [Act.put, Kx.sb, Kx.sz, Kx.ss, i64_w, i32_w]
  rfl
 refine pure_ (i := 24) (N := some 71) (v := ?_) (a' := ?_) #[true, true, true, true, true, true, true, true, true, true, true, true, true, true, true, true, true, true, true, true, true, true, true, true, true, false, false, false, false, false, false, false, false, false, false, false, false, false, false, false, false, false, false, false, false, false, false, false, false] rfl rfl (by kernel_rfl) (fun _ _ _ h => h) (Or.inl ⟨by rfl, ?_⟩) ?_ ?_
 rotate_left
 ·intro w'
  go_simp
  with_reducible rfl
 rotate_left
 ·simp only [Act.put, Kx.sb, Kx.sz, Kx.ss, i64_w, i32_w]
  rfl
 refine pure_ (i := 25) (N := some 72) (v := ?_) (a' := ?_) #[true, true, true, true, true, true, true, true, true, true, true, true, true, true, true, true, true, true, true, true, true, true, true, true, true, true, false, false, false, false, false, false, false, false, false, false, false, false, false, false, false, false, false, false, false, false, false, false, false] rfl rfl (by kernel_rfl) (fun _ _ _ h => h) (Or.inl ⟨by rfl, ?_⟩) ?_ ?_
 rotate_left
 ·intro w'
  go_simp
  with_reducible rfl
 rotate_left
 ·simp only [Act.put, Kx.sb, Kx.sz, Kx.ss, i64_w, i32_w]
  rfl
 refine pure_ (i := 26) (N := some 73) (v := ?_) (a' := ?_) #[true, true, true, true, true, true, true, true, true, true, true, true, true, true, true, true, true, true, true, true, true, true, true, true, true, true, true, false, false, false, false, false, false, false, false, false, false, false, false, false, false, false, false, false, false, false, false, false, false] rfl rfl (by kernel_rfl) (fun _ _ _ h => h) (Or.inl ⟨by rfl, ?_⟩) ?_ ?_
 rotate_left
 ·intro w'
  go_simp
  with_reducible rfl
 rotate_left
 ·simp only [Act.put, Kx.sb, Kx.sz, Kx.ss, i64_w, i32_w]
  rfl
 refine pure_ (i := 27) (N := some 74) (v := ?_) (a' := ?_) #[true, true, true, true, true, true, true, true, true, true, true, true, true, true, true, true, true, true, true, true, true, true, true, true, true, true, true, true, false, false, false, false, false, false, false, false, false, false, false, false, false, false, false, false, false, false, false, false, false] rfl rfl (by kernel_rfl) (fun _ _ _ h => h) (Or.inl ⟨by rfl, ?_⟩) ?_ ?_
 rotate_left
 ·intro w'
  go_simp
  with_reducible rfl
 rotate_left
 ·simp only [Act.put, Kx.sb, Kx.sz, Kx.ss, i64_w, i32_w]
  rfl
 refine pure_ (i := 28) (N := some 75) (v := ?_) (a' := ?_) #[true, true, true, true, true, true, true, true, true, true, true, true, true, true, true, true, true, true, true, true, true, true, true, true, true, true, true, true, true, false, false, false, false, false, false, false, false, false, false, false, false, false, false, false, false, false, false, false, false] rfl rfl (by kernel_rfl) (fun _ _ _ h => h) (Or.inl ⟨by rfl, ?_⟩) ?_ ?_
 rotate_left
 ·intro w'
  go_simp
  with_reducible rfl
 rotate_left
 ·simp only [Act.put, Kx.sb, Kx.sz, Kx.ss, i64_w, i32_w]
  rfl
 refine pure_ (i := 29) (N := some 76) (v := ?_) (a' := ?_) #[true, true, true, true, true, true, true, true, true, true, true, true, true, true, true, true, true, true, true, true, true, true, true, true, true, true, true, true, true, true, false, false, false, false, false, false, false, false, false, false, false, false, false, false, false, false, false, false, false] rfl rfl (by kernel_rfl) (fun _ _ _ h => h) (Or.inl ⟨by rfl, ?_⟩) ?_ ?_
 rotate_left
 ·intro w'
  go_simp
  with_reducible rfl
 rotate_left
 ·simp only [Act.put, Kx.sb, Kx.sz, Kx.ss, i64_w, i32_w]
  rfl
 refine pure_ (i := 30) (N := some 77) (v := ?_) (a' := ?_) #[true, true, true, true, true, true, true, true, true, true, true, true, true, true, true, true, true, true, true, true, true, true, true, true, true, true, true, true, true, true, true, false, false, false, false, false, false, false, false, false, false, false, false, false, false, false, false, false, false] rfl rfl (by kernel_rfl) (fun _ _ _ h => h) (Or.inl ⟨by rfl, ?_⟩) ?_ ?_
 rotate_left
 ·intro w'
  go_simp
  with_reducible rfl
 rotate_left
 ·simp only [Act.put, Kx.sb, Kx.sz, Kx.ss, i64_w, i32_w]
  rfl
 refine pure_ (i := 31) (N := some 78) (v := ?_) (a' := ?_) #[true, true, true, true, true, true, true, true, true, true, true, true, true, true, true, true, true, true, true, true, true, true, true, true, true, true, true, true, true, true, true, true, false, false, false, false, false, false, false, false, false, false, false, false, false, false, false, false, false] rfl rfl (by kernel_rfl) (fun _ _ _ h => h) (Or.inl ⟨by rfl, ?_⟩) ?_ ?_
 rotate_left
 ·intro w'
  go_simp
  with_reducible rfl
 rotate_left
 ·simp only [Act.put, Kx.sb, Kx.sz, Kx.ss, i64_w, i32_w]
  rfl
 refine one_ (i := 32) (N := some 79) #[true, true, true, true, true, true, true, true, true, true, true, true, true, true, true, true, true, true, true, true, true, true, true, true, true, true, true, true, true, true, true, true, true, false, false, false, false, false, false, false, false, false, false, false, false, false, false, false, false] rfl rfl (by kernel_rfl) (by decide) (fun K hK => ?_)
 refine value_ (w1 := ?_) (v := ?_) (by rfl) rfl ?_ ?_
 rotate_left 2
 ·go_simp
  constructor
  ·rfl
  ·rfl
 have HRm := Aside0.mk (Kx.C_litk .i64 wa3 [0, 24] (by decide) 3 (0, 0))
 have n_HB := Aside0.mk (below_alloc HB.out (.cells #[.int .i64 0, .int .i64 24] 3))
 have n_HRy := Aside0.mk (Kd.C_alloc HRy.out (.cells #[.int .i64 0, .int .i64 24] 3))
 have n_BK1 := Aside0.mk (blk_alloc BK1.out (.cells #[.int .i64 0, .int .i64 24] 3))
 have n_HR8 := Aside0.mk (Kd.C_alloc HR8.out (.cells #[.int .i64 0, .int .i64 24] 3))
 have n_HR11 := Aside0.mk (Kd.C_alloc HR11.out (.cells #[.int .i64 0, .int .i64 24] 3))
 clear HB HRy BK1 HR8 HR11
 have HB := n_HB
 have HRy := n_HRy
 have BK1 := n_BK1
 have HR8 := n_HR8
 have HR11 := n_HR11
 clear n_HB n_HRy n_BK1 n_HR8 n_HR11
 refine hK.out _ _ ⟨((blk_cell BK1.out 0).trans rfl), ((blk_cell BK1.out 1).trans rfl), ((blk_cell BK1.out 2).trans rfl), (Kd.C_string (P := Try.prog) (A := Aq) (c := cq) Try.underlying23 Try.underlying5 Try.underlying9 HR8.out)⟩ (fun hHeld => ?_)
 clear hK K
 refine norm_ (a' := ?_) ?_ ?_
 rotate_left
 ·show Act.put _ (some 79) _ = _
  simp only [Act.put, Kx.sb, Kx.sz, Kx.ss, i64_w, i32_w]
  rfl
 refine one_ (i := 33) (N := some 80) #[true, true, true, true, true, true, true, true, true, true, true, true, true, true, true, true, true, true, true, true, true, true, true, true, true, true, true, true, true, true, true, true, true, true, false, false, false, false, false, false, false, false, false, false, false, false, false, false, false] rfl rfl (by kernel_rfl) (by decide) (fun K hK => ?_)
 refine goes_ Try.func31 (by kernel_rfl) rfl #[.slice A11 2 c11, .slice (some ⟨wa3.heap.size, 0, none⟩) 2 2] (by rfl) rfl rfl (by simp only [List.map_toArray, List.map_cons, List.map_nil]; rfl) ?_
 refine (waggonerref05_Numbers.calls 5 _ _ [0, 24] _ _ [0, 24] _ _ HR11.out HC11.out HRm.out (Nat.le_refl _) aw05_m).mono ?_
 rintro e wa33 ⟨rfl, hd⟩
 refine ⟨_, rfl, ?_⟩
 have n_HB := Aside0.mk (below_step HB.out hd.below)
 have n_HRy := Aside0.mk (Kd.C_below HRy.out hd.below)
 have n_BK1 := Aside0.mk (blk_below BK1.out hd.below)
 have n_HR8 := Aside0.mk (Kd.C_below HR8.out hd.below)
 have n_HR11 := Aside0.mk (Kd.C_below HR11.out hd.below)
 clear HB HRy BK1 HR8 HR11
 have HB := n_HB
 have HRy := n_HRy
 have BK1 := n_BK1
 have HR8 := n_HR8
 have HR11 := n_HR11
 clear n_HB n_HRy n_BK1 n_HR8 n_HR11
 clear hd
 refine hK.out _ _ ⟨((blk_cell BK1.out 0).trans rfl), ((blk_cell BK1.out 1).trans rfl), ((blk_cell BK1.out 2).trans rfl), (Kd.C_string (P := Try.prog) (A := Aq) (c := cq) Try.underlying23 Try.underlying5 Try.underlying9 HR8.out)⟩ (fun hHeld => ?_)
 clear hK K
 refine norm_ (a' := ?_) ?_ ?_
 rotate_left
 ·show Act.put _ (some 80) _ = _
  simp only [Act.put, Kx.sb, Kx.sz, Kx.ss, i64_w, i32_w]
  rfl
 refine pure_ (i := 34) (N := some 81) (v := ?_) (a' := ?_) #[true, true, true, true, true, true, true, true, true, true, true, true, true, true, true, true, true, true, true, true, true, true, true, true, true, true, true, true, true, true, true, true, true, true, true, false, false, false, false, false, false, false, false, false, false, false, false, false, false] rfl rfl (by kernel_rfl) (fun _ _ _ h => h) (Or.inl ⟨by rfl, ?_⟩) ?_ ?_
 rotate_left
 ·intro w'
  go_simp
  with_reducible rfl
 rotate_left
 ·simp only [Act.put, Kx.sb, Kx.sz, Kx.ss, i64_w, i32_w]
  rfl
 refine pure_ (i := 35) (N := some 82) (v := ?_) (a' := ?_) #[true, true, true, true, true, true, true, true, true, true, true, true, true, true, true, true, true, true, true, true, true, true, true, true, true, true, true, true, true, true, true, true, true, true, true, true, false, false, false, false, false, false, false, false, false, false, false, false, false] rfl rfl (by kernel_rfl) (fun _ _ _ h => h) (Or.inl ⟨by rfl, ?_⟩) ?_ ?_
 rotate_left
 ·intro w'
  go_simp
  with_reducible rfl
 rotate_left
 ·simp only [Act.put, Kx.sb, Kx.sz, Kx.ss, i64_w, i32_w]
  rfl
 refine pure_ (i := 36) (N := some 83) (v := ?_) (a' := ?_) #[true, true, true, true, true, true, true, true, true, true, true, true, true, true, true, true, true, true, true, true, true, true, true, true, true, true, true, true, true, true, true, true, true, true, true, true, true, false, false, false, false, false, false, false, false, false, false, false, false] rfl rfl (by kernel_rfl) (fun _ _ _ h => h) (Or.inl ⟨by rfl, ?_⟩) ?_ ?_
 rotate_left
 ·intro w'
  go_simp
  with_reducible rfl
 rotate_left
 ·simp only [Act.put, Kx.sb, Kx.sz, Kx.ss, i64_w, i32_w]
  rfl
 refine pure_ (i := 37) (N := some 84) (v := ?_) (a' := ?_) #[true, true, true, true, true, true, true, true, true, true, true, true, true, true, true, true, true, true, true, true, true, true, true, true, true, true, true, true, true, true, true, true, true, true, true, true, true, true, false, false, false, false, false, false, false, false, false, false, false] rfl rfl (by kernel_rfl) (fun _ _ _ h => h) (Or.inl ⟨by rfl, ?_⟩) ?_ ?_
 rotate_left
 ·intro w'
  go_simp
  with_reducible rfl
 rotate_left
 ·simp only [Act.put, Kx.sb, Kx.sz, Kx.ss, i64_w, i32_w]
  rfl
 refine take_ (i := 38) (N := some 85) (v := ?_) (a' := ?_) #[true, true, true, true, true, true, true, true, true, true, true, true, true, true, true, true, true, true, true, true, true, true, true, true, true, true, true, true, true, true, true, true, true, true, true, true, true, true, true, false, false, false, false, false, false, false, false, false, false] rfl rfl (by kernel_rfl) (fun _ _ _ h => h) (Or.inl ⟨by rfl, ?_⟩) hHeld ?_ ?_
 rotate_left
 ·rintro w' ⟨s0, s1, s2, s3⟩
  go_simp
  with_reducible rfl
 rotate_left
 ·simp only [Act.put, Kx.sb, Kx.sz, Kx.ss, i64_w, i32_w]
  rfl
 refine one_ (i := 39) (N := some 86) #[true, true, true, true, true, true, true, true, true, true, true, true, true, true, true, true, true, true, true, true, true, true, true, true, true, true, true, true, true, true, true, true, true, true, true, true, true, true, true, true, false, false, false, false, false, false, false, false, false] rfl rfl (by kernel_rfl) (by decide) (fun K hK => ?_)
 refine value_ (w1 := ?_) (v := ?_) (by rfl) rfl ?_ ?_
 rotate_left 2
 ·go_simp
  constructor
  ·rfl
  ·rfl
 obtain ⟨gl, hgl⟩ : ∃ gl, gl = wa33.heap.size := ⟨_, rfl⟩
 have HRl := Aside0.mk (Kx.C_lita .u8 gl wa33 hgl [87, 82, 76, 71, 1, 0, 4, 0] (by decide) 5 (0, 0))
 rw [← hgl]
 clear hgl
 have n_HB := Aside0.mk (below_alloc HB.out (.cells #[.int .u8 87, .int .u8 82, .int .u8 76, .int .u8 71, .int .u8 1, .int .u8 0, .int .u8 4, .int .u8 0] 5))
 have n_HRy := Aside0.mk (Kd.C_alloc HRy.out (.cells #[.int .u8 87, .int .u8 82, .int .u8 76, .int .u8 71, .int .u8 1, .int .u8 0, .int .u8 4, .int .u8 0] 5))
 have n_BK1 := Aside0.mk (blk_alloc BK1.out (.cells #[.int .u8 87, .int .u8 82, .int .u8 76, .int .u8 71, .int .u8 1, .int .u8 0, .int .u8 4, .int .u8 0] 5))
 have n_HR8 := Aside0.mk (Kd.C_alloc HR8.out (.cells #[.int .u8 87, .int .u8 82, .int .u8 76, .int .u8 71, .int .u8 1, .int .u8 0, .int .u8 4, .int .u8 0] 5))
 have n_HR11 := Aside0.mk (Kd.C_alloc HR11.out (.cells #[.int .u8 87, .int .u8 82, .int .u8 76, .int .u8 71, .int .u8 1, .int .u8 0, .int .u8 4, .int .u8 0] 5))
 clear HB HRy BK1 HR8 HR11
 have HB := n_HB
 have HRy := n_HRy
 have BK1 := n_BK1
 have HR8 := n_HR8
 have HR11 := n_HR11
 clear n_HB n_HRy n_BK1 n_HR8 n_HR11
 refine hK.out _ _ ⟨((blk_cell BK1.out 0).trans rfl), ((blk_cell BK1.out 1).trans rfl), ((blk_cell BK1.out 2).trans rfl), (Kd.C_string (P := Try.prog) (A := Aq) (c := cq) Try.underlying23 Try.underlying5 Try.underlying9 HR8.out)⟩ (fun hHeld => ?_)
 clear hK K
 refine norm_ (a' := ?_) ?_ ?_
 rotate_left
 ·show Act.put _ (some 86) _ = _
  simp only [Act.put, Kx.sb, Kx.sz, Kx.ss, i64_w, i32_w]
  rfl
 refine stronger_ (fun w' => (convert 23 9 (.slice (some ⟨gl, 0, none⟩) 8 8)).run Try.prog w' = .ok (.string (strOfNums [87, 82, 76, 71, 1, 0, 4, 0])) w') hHeld ((Kd.C_string (P := Try.prog) (A := some ⟨gl, 0, none⟩) (c := 8) Try.underlying23 Try.underlying5 Try.underlying9 HRl.out)) (fun hHeld => ?_)
 refine take_ (i := 40) (N := some 87) (v := ?_) (a' := ?_) #[true, true, true, true, true, true, true, true, true, true, true, true, true, true, true, true, true, true, true, true, true, true, true, true, true, true, true, true, true, true, true, true, true, true, true, true, true, true, true, true, true, false, false, false, false, false, false, false, false] rfl rfl (by kernel_rfl) (fun _ _ _ h => h) (Or.inl ⟨by rfl, ?_⟩) hHeld ?_ ?_
 rotate_left
 ·rintro w' ⟨⟨s0, s1, s2, s3⟩, s4⟩
  go_simp
  with_reducible rfl
 rotate_left
 ·simp only [Act.put, Kx.sb, Kx.sz, Kx.ss, i64_w, i32_w]
  rfl
 refine pure_ (i := 41) (N := some 88) (v := ?_) (a' := ?_) #[true, true, true, true, true, true, true, true, true, true, true, true, true, true, true, true, true, true, true, true, true, true, true, true, true, true, true, true, true, true, true, true, true, true, true, true, true, true, true, true, true, true, false, false, false, false, false, false, false] rfl rfl (by kernel_rfl) (fun _ _ _ h => h) (Or.inl ⟨by rfl, ?_⟩) ?_ ?_
 rotate_left
 ·intro w'
  go_simp
  with_reducible rfl
 rotate_left
 ·simp only [Act.put, Kx.sb, Kx.sz, Kx.ss, i64_w, i32_w]
  rfl
 refine pure_ (i := 42) (N := some 89) (v := ?_) (a' := ?_) #[true, true, true, true, true, true, true, true, true, true, true, true, true, true, true, true, true, true, true, true, true, true, true, true, true, true, true, true, true, true, true, true, true, true, true, true, true, true, true, true, true, true, true, false, false, false, false, false, false] rfl rfl (by kernel_rfl) (fun _ _ _ h => h) (Or.inl ⟨by rfl, ?_⟩) ?_ ?_
 rotate_left
 ·intro w'
  go_simp
  with_reducible rfl
 rotate_left
 ·simp only [Act.put, Kx.sb, Kx.sz, Kx.ss, i64_w, i32_w]
  rfl
 refine pure_ (i := 43) (N := some 90) (v := ?_) (a' := ?_) #[true, true, true, true, true, true, true, true, true, true, true, true, true, true, true, true, true, true, true, true, true, true, true, true, true, true, true, true, true, true, true, true, true, true, true, true, true, true, true, true, true, true, true, true, false, false, false, false, false] rfl rfl (by kernel_rfl) (fun _ _ _ h => h) (Or.inl ⟨by rfl, ?_⟩) ?_ ?_
 rotate_left
 ·intro w'
  go_simp
  with_reducible rfl
 rotate_left
 ·simp only [Act.put, Kx.sb, Kx.sz, Kx.ss, i64_w, i32_w]
  rfl
 refine take_ (i := 44) (N := some 91) (v := ?_) (a' := ?_) #[true, true, true, true, true, true, true, true, true, true, true, true, true, true, true, true, true, true, true, true, true, true, true, true, true, true, true, true, true, true, true, true, true, true, true, true, true, true, true, true, true, true, true, true, true, false, false, false, false] rfl rfl (by kernel_rfl) (fun _ _ _ h => h) (Or.inl ⟨by rfl, ?_⟩) hHeld ?_ ?_
 rotate_left
 ·rintro w' ⟨⟨s0, s1, s2, s3⟩, s4⟩
  go_simp
  with_reducible rfl
 rotate_left
 ·simp only [Act.put, Kx.sb, Kx.sz, Kx.ss, i64_w, i32_w]
  rfl
 refine one_ (i := 45) (N := some 92) #[true, true, true, true, true, true, true, true, true, true, true, true, true, true, true, true, true, true, true, true, true, true, true, true, true, true, true, true, true, true, true, true, true, true, true, true, true, true, true, true, true, true, true, true, true, true, false, false, false] rfl rfl (by kernel_rfl) (by decide) (fun K hK => ?_)
 refine goes_ Try.func24 (by kernel_rfl) rfl #[.agg #[.int .i64 1, .int .i64 9, .slice (some ⟨gy, 0, none⟩) 4 4]] (by rfl) rfl rfl (by simp only [List.map_toArray, List.map_cons, List.map_nil]; rfl) ?_
 refine (record_Check.calls 1 9 _ _ [98, 111, 100, 121] _ _ HRy.out (Nat.le_refl _) aw05_c).mono ?_
 rintro e wa45 ⟨rfl, hb⟩
 refine ⟨_, rfl, ?_⟩
 have n_HB := Aside0.mk (below_step HB.out hb)
 have n_HRy := Aside0.mk (Kd.C_below HRy.out hb)
 have n_BK1 := Aside0.mk (blk_below BK1.out hb)
 have n_HR8 := Aside0.mk (Kd.C_below HR8.out hb)
 have n_HR11 := Aside0.mk (Kd.C_below HR11.out hb)
 have n_HRl := Aside0.mk (Kd.C_below HRl.out hb)
 clear HB HRy BK1 HR8 HR11 HRl
 have HB := n_HB
 have HRy := n_HRy
 have BK1 := n_BK1
 have HR8 := n_HR8
 have HR11 := n_HR11
 have HRl := n_HRl
 clear n_HB n_HRy n_BK1 n_HR8 n_HR11 n_HRl
 clear hb
 refine hK.out _ _ ⟨⟨((blk_cell BK1.out 0).trans rfl), ((blk_cell BK1.out 1).trans rfl), ((blk_cell BK1.out 2).trans rfl), (Kd.C_string (P := Try.prog) (A := Aq) (c := cq) Try.underlying23 Try.underlying5 Try.underlying9 HR8.out)⟩, ((Kd.C_string (P := Try.prog) (A := some ⟨gl, 0, none⟩) (c := 8) Try.underlying23 Try.underlying5 Try.underlying9 HRl.out))⟩ (fun hHeld => ?_)
 clear hK K
 refine norm_ (a' := ?_) ?_ ?_
 rotate_left
 ·show Act.put _ (some 92) _ = _
  simp only [Act.put, Kx.sb, Kx.sz, Kx.ss, i64_w, i32_w]
  rfl
 refine pure_ (i := 46) (N := some 93) (v := ?_) (a' := ?_) #[true, true, true, true, true, true, true, true, true, true, true, true, true, true, true, true, true, true, true, true, true, true, true, true, true, true, true, true, true, true, true, true, true, true, true, true, true, true, true, true, true, true, true, true, true, true, true, false, false] rfl rfl (by kernel_rfl) (fun _ _ _ h => h) (Or.inl ⟨by rfl, ?_⟩) ?_ ?_
 rotate_left
 ·intro w'
  go_simp
  with_reducible rfl
 rotate_left
 ·simp only [Act.put, Kx.sb, Kx.sz, Kx.ss, i64_w, i32_w]
  rfl
 refine pure_ (i := 47) (N := some 94) (v := ?_) (a' := ?_) #[true, true, true, true, true, true, true, true, true, true, true, true, true, true, true, true, true, true, true, true, true, true, true, true, true, true, true, true, true, true, true, true, true, true, true, true, true, true, true, true, true, true, true, true, true, true, true, true, false] rfl rfl (by kernel_rfl) (fun _ _ _ h => h) (Or.inl ⟨by rfl, ?_⟩) ?_ ?_
 rotate_left
 ·intro w'
  go_simp
  with_reducible rfl
 rotate_left
 ·simp only [Act.put, Kx.sb, Kx.sz, Kx.ss, i64_w, i32_w]
  rfl
 refine pure_ (i := 48) (N := some 0) (v := ?_) (a' := ?_) #[true, true, true, true, true, true, true, true, true, true, true, true, true, true, true, true, true, true, true, true, true, true, true, true, true, true, true, true, true, true, true, true, true, true, true, true, true, true, true, true, true, true, true, true, true, true, true, true, true] rfl rfl (by kernel_rfl) (fun _ _ _ h => h) (Or.inl ⟨by rfl, ?_⟩) ?_ ?_
 rotate_left
 ·intro w'
  go_simp
  with_reducible rfl
 rotate_left
 ·simp only [Act.put, Kx.sb, Kx.sz, Kx.ss, i64_w, i32_w]
  rfl
 refine done_ (by kernel_rfl) ?_
 go_wp2
 go_ret
 exact ⟨rfl, HB.out⟩
def waggonerref05_All.l0 : Nat → List (S25) → List (S25) → Int → Option (Bool)
 | 0, _, _, _ => none
 | k + 1, x0, x1, x5 => if x5 < (x0.length : Int) then (if 0 ≤ x5 then (if x5 < (x1.length : Int) then ((waggonerref05_Same.f ((rd_T25 x0 x5).f0) ((rd_T25 x0 x5).f1) ((rd_T25 x0 x5).f2) ((rd_T25 x1 x5).f0) ((rd_T25 x1 x5).f1) ((rd_T25 x1 x5).f2)).bind fun t167 => (if t167 = true then (waggonerref05_All.l0 k x0 x1 (wrap64 (x5 + 1))) else (some false))) else (none)) else (none)) else (some true)
def waggonerref05_All.f (k : Nat) (l0 : List (S25)) (l1 : List (S25)) : Option (Bool) := if (l0.length : Int) = (l1.length : Int) then (waggonerref05_All.l0 k l0 l1 0) else (some false)
def waggonerref05_All.T6 : Bool × List (List Nat × List Nat) := (true, [([], []), ([], []), ([0, 1], [0, 1]), ([2], [2]), ([], []), ([], []), ([4, 5], [4, 5]), ([6], [6]), ([3, 7], [3, 7]), ([8, 8, 0, 1, 2, 3, 4, 5, 6, 7, 8], [8])])
def waggonerref05_All.B6 : List Nat := [0, 0, 3, 7, 0, 0, 48, 112, 255, 511]
theorem waggonerref05_All.tab6 : rtab .any (opsOf Try.f30 6) = waggonerref05_All.T6 := by kernel_rfl
theorem waggonerref05_All.bits6 : waitsOk waggonerref05_All.T6.2 waggonerref05_All.B6 = true := by kernel_rfl
set_option maxHeartbeats 8000000 in
set_option maxRecDepth 100000 in
theorem waggonerref05_All.calls (k : Nat) (A0 : Option Addr) (c0 : Nat) (l0 : List (S25)) (A1 : Option Addr) (c1 : Nat) (l1 : List (S25)) (r : Bool) (w : World) (hr0 : Kd.C k25 w A0 l0.length l0) (hc0 : l0.length ≤ c0) (hr1 : Kd.C k25 w A1 l1.length l1) (hc1 : l1.length ≤ c1) (h : waggonerref05_All.f k l0 l1 = some r) :
  Calls Try.prog 30 #[.slice A0 l0.length c0, .slice A1 l1.length c1] w fun e w' => e = .returned (.bool r) ∧ Below w.heap.size w w' := by
 have hu25 := Try.underlying25
 have HR0 := Aside0.mk hr0
 have HC0 := Aside0.mk hc0
 clear hr0 hc0
 have HR1 := Aside0.mk hr1
 have HC1 := Aside0.mk hc1
 clear hr1 hc1
 have HB := Aside0.mk (Below.refl w.heap.size w)
 have H : (if (l0.length : Int) = (l1.length : Int) then (waggonerref05_All.l0 k l0 l1 0) else (some false)) = some r := h
 clear h
 by_cases c3 : (l0.length : Int) = (l1.length : Int)
 ·rw [if_pos c3] at H
  have c3b0 : ((l0.length : Int) == (l1.length : Int)) = true := beq_iff_eq.mpr c3
  have c3b1 : ((l0.length : Int) != (l1.length : Int)) = false := bne_eq_false_iff_eq.mpr c3
  have c3b2 : (l0.length == l1.length) = true := by first | simpa using c3 | (simp at c3 ⊢; omega)
  clear c3
  have H' := Aside0.mk H
  clear H
  go_enter Try.func30, Try.ntmps30
  go_wp2
  go_loopg [5] k (fun kq v5 w' => ∃ (x5_1 : Int), v5 = .int .i64 x5_1 ∧ Aside0 (waggonerref05_All.l0 kq l0 l1 x5_1 = some r) ∧ Aside0 (kq ≤ k) ∧ Aside0 (Below w.heap.size w w'))
  case atStart => exact ⟨(0), (by first | rfl | (simp; done) | (simp [*]; done)), H', ⟨Nat.le_refl _⟩, ⟨by repeat (first | (with_reducible first | exact HB.out | apply below_alloc | apply pw_below_drewN | apply below_drew1) | exact HB.out)⟩⟩
  case round =>
   clear H'
   try clear c1
   try clear p2
   try clear c3
   try clear c3b0
   try clear c3b1
   try clear c3b2
   obtain ⟨x5_1, rfl, HA, HK1, HB⟩ := hrel
   cases gk with
   | zero => exact absurd HA.out (by simp [waggonerref05_All.l0])
   | succ k1 =>
    have H := HA.out
    clear HA
    simp only [waggonerref05_All.l0] at H
    by_cases c4 : x5_1 < (l0.length : Int)
    ·rw [if_pos c4] at H
     have c4b0 : decide (x5_1 < (l0.length : Int)) = true := decide_eq_true c4
     clear c4
     by_cases c5 : 0 ≤ x5_1
     ·rw [if_pos c5] at H
      have c5b0 : decide (0 ≤ x5_1) = true := decide_eq_true c5
      clear c5
      by_cases c6 : x5_1 < (l1.length : Int)
      ·rw [if_pos c6] at H
       have c6b0 : decide (x5_1 < (l1.length : Int)) = true := decide_eq_true c6
       clear c6
       replace H := Option.bind_eq_some_iff.mp H
       obtain ⟨t167, A70, H⟩ := H
       replace H : (if t167 = true then (waggonerref05_All.l0 k1 l0 l1 (wrap64 (x5_1 + 1))) else (some false)) = some r := H
       have A7 := Aside0.mk A70
       clear A70
       by_cases c8 : t167 = true
       ·subst c8
        have H1 : (waggonerref05_All.l0 k1 l0 l1 (wrap64 (x5_1 + 1))) = some r := by rw [if_pos rfl] at H <;> exact H
        clear H
        have H := H1
        clear H1
        have H' := Aside0.mk H
        clear H
        try go_wp2
        have n0_ := Aside0.mk (below_drew1 HB.out)
        clear HB
        have HB := n0_
        clear n0_
        have p165 : 0 ≤ (x5_1 : Int) := of_decide_eq_true (by first | (with_reducible assumption) | assumption)
        have q165 : x5_1 < (l0.length : Int) := of_decide_eq_true (by first | (with_reducible assumption) | assumption)
        obtain ⟨ad165, A165_2, c165_2, e165, hx165_0, hx165_1, hx165_2, hl165_2, hi165_2⟩ := at_T25 HR0.out x5_1 p165 q165
        have hw165_2 := hx165_2
        have hw165_1 := hx165_1
        have hw165_0 := hx165_0
        cases e165
        replace hx165_0 := (HB.out.cell (World.block_lt_of_cell? w _ hx165_0)).trans hx165_0
        replace hx165_1 := (HB.out.cell (World.block_lt_of_cell? w _ hx165_1)).trans hx165_1
        replace hx165_2 := (HB.out.cell (World.block_lt_of_cell? w _ hx165_2)).trans hx165_2
        have HR165_2 := Aside0.mk hi165_2
        have HC165_2 := Aside0.mk hl165_2
        clear hi165_2 hl165_2
        replace p165 := eq_true p165
        replace q165 := eq_true q165
        have p166 : 0 ≤ (x5_1 : Int) := of_decide_eq_true (by first | (with_reducible assumption) | assumption)
        have q166 : x5_1 < (l1.length : Int) := of_decide_eq_true (by first | (with_reducible assumption) | assumption)
        obtain ⟨ad166, A166_2, c166_2, e166, hx166_0, hx166_1, hx166_2, hl166_2, hi166_2⟩ := at_T25 HR1.out x5_1 p166 q166
        have hw166_2 := hx166_2
        have hw166_1 := hx166_1
        have hw166_0 := hx166_0
        cases e166
        replace hx166_0 := (HB.out.cell (World.block_lt_of_cell? w _ hx166_0)).trans hx166_0
        replace hx166_1 := (HB.out.cell (World.block_lt_of_cell? w _ hx166_1)).trans hx166_1
        replace hx166_2 := (HB.out.cell (World.block_lt_of_cell? w _ hx166_2)).trans hx166_2
        have HR166_2 := Aside0.mk hi166_2
        have HC166_2 := Aside0.mk hl166_2
        clear hi166_2 hl166_2
        replace p166 := eq_true p166
        replace q166 := eq_true q166
        refine start_ (n := 10) (S := fun w' => w'.cell? (ad165.add ((x5_1).toNat * 3)) = some (.int .i64 ((rd_T25 l0 x5_1).f0)) ∧ w'.cell? ⟨(ad165.add ((x5_1).toNat * 3)).block, (ad165.add ((x5_1).toNat * 3)).off + 1, none⟩ = some (.int .i64 ((rd_T25 l0 x5_1).f1)) ∧ w'.cell? ⟨(ad165.add ((x5_1).toNat * 3)).block, (ad165.add ((x5_1).toNat * 3)).off + 2, none⟩ = some (.slice A165_2 ((rd_T25 l0 x5_1).f2).length c165_2) ∧ w'.cell? (ad166.add ((x5_1).toNat * 3)) = some (.int .i64 ((rd_T25 l1 x5_1).f0)) ∧ w'.cell? ⟨(ad166.add ((x5_1).toNat * 3)).block, (ad166.add ((x5_1).toNat * 3)).off + 1, none⟩ = some (.int .i64 ((rd_T25 l1 x5_1).f1)) ∧ w'.cell? ⟨(ad166.add ((x5_1).toNat * 3)).block, (ad166.add ((x5_1).toNat * 3)).off + 2, none⟩ = some (.slice A166_2 ((rd_T25 l1 x5_1).f2).length c166_2)) (ds := []) #[false, false, false, false, false, false, false, false, false, false] (by kernel_rfl) rfl rfl ⟨((HB.out.cell (World.block_lt_of_cell? w _ hw165_0)).trans hw165_0), ((HB.out.cell (World.block_lt_of_cell? w _ hw165_1)).trans hw165_1), ((HB.out.cell (World.block_lt_of_cell? w _ hw165_2)).trans hw165_2), ((HB.out.cell (World.block_lt_of_cell? w _ hw166_0)).trans hw166_0), ((HB.out.cell (World.block_lt_of_cell? w _ hw166_1)).trans hw166_1), ((HB.out.cell (World.block_lt_of_cell? w _ hw166_2)).trans hw166_2)⟩ (fun hHeld => ?_); refine with_tabW waggonerref05_All.tab6 waggonerref05_All.bits6 (fun HT_ HW_ => ?_)
        generalize wr.drew = w9 at HB HR165_2 HR166_2 hx165_0 hx165_1 hx165_2 hx166_0 hx166_1 hx166_2 hHeld ⊢
        refine pure_ (i := 0) (N := some 18) (v := ?_) (a' := ?_) #[true, false, false, false, false, false, false, false, false, false] rfl rfl (any_of HT_.out (by kernel_rfl)) (fun _ _ _ h => h) (Or.inl ⟨by rfl, ?_⟩) ?_ ?_
        rotate_left
        ·intro w'
         go_simp
         with_reducible rfl
        rotate_left
        ·simp only [Act.put, Kx.sb, Kx.sz, Kx.ss, i64_w, i32_w]
         rfl
        refine pure_ (i := 1) (N := some 19) (v := ?_) (a' := ?_) #[true, true, false, false, false, false, false, false, false, false] rfl rfl (any_of HT_.out (by kernel_rfl)) (fun _ _ _ h => h) (Or.inl ⟨by rfl, ?_⟩) ?_ ?_
        rotate_left
        ·intro w'
         go_simp
         with_reducible rfl
        rotate_left
        ·simp only [Act.put, Kx.sb, Kx.sz, Kx.ss, i64_w, i32_w]
         rfl
        refine pure_ (i := 2) (N := some 20) (v := ?_) (a' := ?_) #[true, true, true, false, false, false, false, false, false, false] rfl rfl (any_of HT_.out (by kernel_rfl)) (fun _ _ _ h => h) (Or.inl ⟨by rfl, ?_⟩) ?_ ?_
        rotate_left
        ·intro w'
         go_simp
         with_reducible rfl
        rotate_left
        ·simp only [Act.put, Kx.sb, Kx.sz, Kx.ss, i64_w, i32_w]
         rfl
        refine pure_ (i := 4) (N := some 22) (v := ?_) (a' := ?_) #[true, true, true, false, true, false, false, false, false, false] rfl rfl (any_of HT_.out (by kernel_rfl)) (fun _ _ _ h => h) (Or.inl ⟨by rfl, ?_⟩) ?_ ?_
        rotate_left
        ·intro w'
         go_simp
         with_reducible rfl
        rotate_left
        ·simp only [Act.put, Kx.sb, Kx.sz, Kx.ss, i64_w, i32_w]
         rfl
        refine pure_ (i := 5) (N := some 23) (v := ?_) (a' := ?_) #[true, true, true, false, true, true, false, false, false, false] rfl rfl (any_of HT_.out (by kernel_rfl)) (fun _ _ _ h => h) (Or.inl ⟨by rfl, ?_⟩) ?_ ?_
        rotate_left
        ·intro w'
         go_simp
         with_reducible rfl
        rotate_left
        ·simp only [Act.put, Kx.sb, Kx.sz, Kx.ss, i64_w, i32_w]
         rfl
        refine pure_ (i := 6) (N := some 24) (v := ?_) (a' := ?_) #[true, true, true, false, true, true, true, false, false, false] rfl rfl (any_of HT_.out (by kernel_rfl)) (fun _ _ _ h => h) (Or.inl ⟨by rfl, ?_⟩) ?_ ?_
        rotate_left
        ·intro w'
         go_simp
         with_reducible rfl
        rotate_left
        ·simp only [Act.put, Kx.sb, Kx.sz, Kx.ss, i64_w, i32_w]
         rfl
        refine take_ (i := 3) (N := some 21) (v := ?_) (a' := ?_) #[true, true, true, true, true, true, true, false, false, false] rfl rfl (take_ofW HT_.out HW_.out (by kernel_rfl)) (fun _ _ _ h => h) (Or.inl ⟨by rfl, ?_⟩) hHeld ?_ ?_
        rotate_left
        ·rintro w' ⟨s0, s1, s2, s3, s4, s5⟩
         go_simp
         with_reducible rfl
        rotate_left
        ·simp only [Act.put, Kx.sb, Kx.sz, Kx.ss, i64_w, i32_w]
         rfl
        refine take_ (i := 7) (N := some 25) (v := ?_) (a' := ?_) #[true, true, true, true, true, true, true, true, false, false] rfl rfl (take_ofW HT_.out HW_.out (by kernel_rfl)) (fun _ _ _ h => h) (Or.inl ⟨by rfl, ?_⟩) hHeld ?_ ?_
        rotate_left
        ·rintro w' ⟨s0, s1, s2, s3, s4, s5⟩
         go_simp
         with_reducible rfl
        rotate_left
        ·simp only [Act.put, Kx.sb, Kx.sz, Kx.ss, i64_w, i32_w]
         rfl
        refine one_ (i := 8) (N := some 26) #[true, true, true, true, true, true, true, true, true, false] rfl rfl (one_of HT_.out (by kernel_rfl)) (by decide) (fun K hK => ?_)
        refine goes_ Try.func23 (by kernel_rfl) rfl #[.agg #[.int .i64 ((rd_T25 l0 x5_1).f0), .int .i64 ((rd_T25 l0 x5_1).f1), .slice A165_2 ((rd_T25 l0 x5_1).f2).length c165_2], .agg #[.int .i64 ((rd_T25 l1 x5_1).f0), .int .i64 ((rd_T25 l1 x5_1).f1), .slice A166_2 ((rd_T25 l1 x5_1).f2).length c166_2]] (by rfl) rfl rfl (by (try simp only [List.map_toArray, List.map_cons, List.map_nil]); first | done | rfl | (simp only [List.length_drop, List.length_take]; rfl)) ?_
        with_reducible refine (waggonerref05_Same.calls ((rd_T25 l0 x5_1).f0) ((rd_T25 l0 x5_1).f1) _ _ ((rd_T25 l0 x5_1).f2) ((rd_T25 l1 x5_1).f0) ((rd_T25 l1 x5_1).f1) _ _ ((rd_T25 l1 x5_1).f2) true _ ?side1 ?side2 ?side3 ?side4 A7.out).mono ?_
        (case side1 => repeat (first | exact (Kd.C_below HR165_2.out HB.out) | (with_reducible refine Kd.C_alloc ?_ _) | (with_reducible refine Kd.C_drewN ?_ _) | (with_reducible refine Kd.C_drew ?_)))
        (case side2 => exact HC165_2.out)
        (case side3 => repeat (first | exact (Kd.C_below HR166_2.out HB.out) | (with_reducible refine Kd.C_alloc ?_ _) | (with_reducible refine Kd.C_drewN ?_ _) | (with_reducible refine Kd.C_drew ?_)))
        (case side4 => exact HC166_2.out)
        rintro e w10 ⟨rfl, hb⟩
        refine ⟨_, rfl, ?_⟩
        have n0_ := Aside0.mk (below_step (by repeat (first | (with_reducible first | exact HB.out | apply below_alloc | apply pw_below_drewN | apply below_drew1) | exact HB.out)) hb)
        clear HB
        have HB := n0_
        clear n0_
        (try clear hb)
        (try clear hb2)
        (try clear hk)
        (try clear hi)
        refine hK.out _ _ ⟨((HB.out.cell (World.block_lt_of_cell? w _ hw165_0)).trans hw165_0), ((HB.out.cell (World.block_lt_of_cell? w _ hw165_1)).trans hw165_1), ((HB.out.cell (World.block_lt_of_cell? w _ hw165_2)).trans hw165_2), ((HB.out.cell (World.block_lt_of_cell? w _ hw166_0)).trans hw166_0), ((HB.out.cell (World.block_lt_of_cell? w _ hw166_1)).trans hw166_1), ((HB.out.cell (World.block_lt_of_cell? w _ hw166_2)).trans hw166_2)⟩ (fun hHeld => ?_)
        clear hK K
        refine norm_ (a' := ?_) ?_ ?_
        rotate_left
        ·show Act.put _ (some 26) _ = _
         simp only [Act.put, Kx.sb, Kx.sz, Kx.ss, i64_w, i32_w]
         rfl
        refine pure_ (i := 9) (N := some 6) (v := ?_) (a' := ?_) #[true, true, true, true, true, true, true, true, true, true] rfl rfl (any_of HT_.out (by kernel_rfl)) (fun _ _ _ h => h) (Or.inl ⟨by rfl, ?_⟩) ?_ ?_
        rotate_left
        ·intro w'
         go_simp
         with_reducible rfl
        rotate_left
        ·simp only [Act.put, Kx.sb, Kx.sz, Kx.ss, i64_w, i32_w]
         rfl
        refine done_ (done_of HT_.out (by kernel_rfl)) ?_
        try go_wp2
        go_roundg k1
        case measure => have := HK1.out; omega
        case rel => exact ⟨(wrap64 (x5_1 + 1)), (by first | rfl | (simp; done) | (simp [*]; done)), H', ⟨by have := HK1.out; omega⟩, ⟨by repeat (first | (with_reducible first | exact HB.out | apply below_alloc | apply pw_below_drewN | apply below_drew1) | exact HB.out)⟩⟩
       ·replace c8 := Bool.eq_false_iff.mpr c8
        subst c8
        have H1 : (some false) = some r := by rw [if_neg (show ¬ (false = true) by decide)] at H <;> exact H
        clear H
        have H := H1
        clear H1
        obtain rfl := Option.some.inj H
        try go_wp2
        have n0_ := Aside0.mk (below_drew1 HB.out)
        clear HB
        have HB := n0_
        clear n0_
        have p165 : 0 ≤ (x5_1 : Int) := of_decide_eq_true (by first | (with_reducible assumption) | assumption)
        have q165 : x5_1 < (l0.length : Int) := of_decide_eq_true (by first | (with_reducible assumption) | assumption)
        obtain ⟨ad165, A165_2, c165_2, e165, hx165_0, hx165_1, hx165_2, hl165_2, hi165_2⟩ := at_T25 HR0.out x5_1 p165 q165
        have hw165_2 := hx165_2
        have hw165_1 := hx165_1
        have hw165_0 := hx165_0
        cases e165
        replace hx165_0 := (HB.out.cell (World.block_lt_of_cell? w _ hx165_0)).trans hx165_0
        replace hx165_1 := (HB.out.cell (World.block_lt_of_cell? w _ hx165_1)).trans hx165_1
        replace hx165_2 := (HB.out.cell (World.block_lt_of_cell? w _ hx165_2)).trans hx165_2
        have HR165_2 := Aside0.mk hi165_2
        have HC165_2 := Aside0.mk hl165_2
        clear hi165_2 hl165_2
        replace p165 := eq_true p165
        replace q165 := eq_true q165
        have p166 : 0 ≤ (x5_1 : Int) := of_decide_eq_true (by first | (with_reducible assumption) | assumption)
        have q166 : x5_1 < (l1.length : Int) := of_decide_eq_true (by first | (with_reducible assumption) | assumption)
        obtain ⟨ad166, A166_2, c166_2, e166, hx166_0, hx166_1, hx166_2, hl166_2, hi166_2⟩ := at_T25 HR1.out x5_1 p166 q166
        have hw166_2 := hx166_2
        have hw166_1 := hx166_1
        have hw166_0 := hx166_0
        cases e166
        replace hx166_0 := (HB.out.cell (World.block_lt_of_cell? w _ hx166_0)).trans hx166_0
        replace hx166_1 := (HB.out.cell (World.block_lt_of_cell? w _ hx166_1)).trans hx166_1
        replace hx166_2 := (HB.out.cell (World.block_lt_of_cell? w _ hx166_2)).trans hx166_2
        have HR166_2 := Aside0.mk hi166_2
        have HC166_2 := Aside0.mk hl166_2
        clear hi166_2 hl166_2
        replace p166 := eq_true p166
        replace q166 := eq_true q166
        refine start_ (n := 10) (S := fun w' => w'.cell? (ad165.add ((x5_1).toNat * 3)) = some (.int .i64 ((rd_T25 l0 x5_1).f0)) ∧ w'.cell? ⟨(ad165.add ((x5_1).toNat * 3)).block, (ad165.add ((x5_1).toNat * 3)).off + 1, none⟩ = some (.int .i64 ((rd_T25 l0 x5_1).f1)) ∧ w'.cell? ⟨(ad165.add ((x5_1).toNat * 3)).block, (ad165.add ((x5_1).toNat * 3)).off + 2, none⟩ = some (.slice A165_2 ((rd_T25 l0 x5_1).f2).length c165_2) ∧ w'.cell? (ad166.add ((x5_1).toNat * 3)) = some (.int .i64 ((rd_T25 l1 x5_1).f0)) ∧ w'.cell? ⟨(ad166.add ((x5_1).toNat * 3)).block, (ad166.add ((x5_1).toNat * 3)).off + 1, none⟩ = some (.int .i64 ((rd_T25 l1 x5_1).f1)) ∧ w'.cell? ⟨(ad166.add ((x5_1).toNat * 3)).block, (ad166.add ((x5_1).toNat * 3)).off + 2, none⟩ = some (.slice A166_2 ((rd_T25 l1 x5_1).f2).length c166_2)) (ds := []) #[false, false, false, false, false, false, false, false, false, false] (by kernel_rfl) rfl rfl ⟨((HB.out.cell (World.block_lt_of_cell? w _ hw165_0)).trans hw165_0), ((HB.out.cell (World.block_lt_of_cell? w _ hw165_1)).trans hw165_1), ((HB.out.cell (World.block_lt_of_cell? w _ hw165_2)).trans hw165_2), ((HB.out.cell (World.block_lt_of_cell? w _ hw166_0)).trans hw166_0), ((HB.out.cell (World.block_lt_of_cell? w _ hw166_1)).trans hw166_1), ((HB.out.cell (World.block_lt_of_cell? w _ hw166_2)).trans hw166_2)⟩ (fun hHeld => ?_); refine with_tabW waggonerref05_All.tab6 waggonerref05_All.bits6 (fun HT_ HW_ => ?_)
        generalize wr.drew = w11 at HB HR165_2 HR166_2 hx165_0 hx165_1 hx165_2 hx166_0 hx166_1 hx166_2 hHeld ⊢
        refine pure_ (i := 0) (N := some 18) (v := ?_) (a' := ?_) #[true, false, false, false, false, false, false, false, false, false] rfl rfl (any_of HT_.out (by kernel_rfl)) (fun _ _ _ h => h) (Or.inl ⟨by rfl, ?_⟩) ?_ ?_
        rotate_left
        ·intro w'
         go_simp
         with_reducible rfl
        rotate_left
        ·simp only [Act.put, Kx.sb, Kx.sz, Kx.ss, i64_w, i32_w]
         rfl
        refine pure_ (i := 1) (N := some 19) (v := ?_) (a' := ?_) #[true, true, false, false, false, false, false, false, false, false] rfl rfl (any_of HT_.out (by kernel_rfl)) (fun _ _ _ h => h) (Or.inl ⟨by rfl, ?_⟩) ?_ ?_
        rotate_left
        ·intro w'
         go_simp
         with_reducible rfl
        rotate_left
        ·simp only [Act.put, Kx.sb, Kx.sz, Kx.ss, i64_w, i32_w]
         rfl
        refine pure_ (i := 2) (N := some 20) (v := ?_) (a' := ?_) #[true, true, true, false, false, false, false, false, false, false] rfl rfl (any_of HT_.out (by kernel_rfl)) (fun _ _ _ h => h) (Or.inl ⟨by rfl, ?_⟩) ?_ ?_
        rotate_left
        ·intro w'
         go_simp
         with_reducible rfl
        rotate_left
        ·simp only [Act.put, Kx.sb, Kx.sz, Kx.ss, i64_w, i32_w]
         rfl
        refine pure_ (i := 4) (N := some 22) (v := ?_) (a' := ?_) #[true, true, true, false, true, false, false, false, false, false] rfl rfl (any_of HT_.out (by kernel_rfl)) (fun _ _ _ h => h) (Or.inl ⟨by rfl, ?_⟩) ?_ ?_
        rotate_left
        ·intro w'
         go_simp
         with_reducible rfl
        rotate_left
        ·simp only [Act.put, Kx.sb, Kx.sz, Kx.ss, i64_w, i32_w]
         rfl
        refine pure_ (i := 5) (N := some 23) (v := ?_) (a' := ?_) #[true, true, true, false, true, true, false, false, false, false] rfl rfl (any_of HT_.out (by kernel_rfl)) (fun _ _ _ h => h) (Or.inl ⟨by rfl, ?_⟩) ?_ ?_
        rotate_left
        ·intro w'
         go_simp
         with_reducible rfl
        rotate_left
        ·simp only [Act.put, Kx.sb, Kx.sz, Kx.ss, i64_w, i32_w]
         rfl
        refine pure_ (i := 6) (N := some 24) (v := ?_) (a' := ?_) #[true, true, true, false, true, true, true, false, false, false] rfl rfl (any_of HT_.out (by kernel_rfl)) (fun _ _ _ h => h) (Or.inl ⟨by rfl, ?_⟩) ?_ ?_
        rotate_left
        ·intro w'
         go_simp
         with_reducible rfl
        rotate_left
        ·simp only [Act.put, Kx.sb, Kx.sz, Kx.ss, i64_w, i32_w]
         rfl
        refine take_ (i := 3) (N := some 21) (v := ?_) (a' := ?_) #[true, true, true, true, true, true, true, false, false, false] rfl rfl (take_ofW HT_.out HW_.out (by kernel_rfl)) (fun _ _ _ h => h) (Or.inl ⟨by rfl, ?_⟩) hHeld ?_ ?_
        rotate_left
        ·rintro w' ⟨s0, s1, s2, s3, s4, s5⟩
         go_simp
         with_reducible rfl
        rotate_left
        ·simp only [Act.put, Kx.sb, Kx.sz, Kx.ss, i64_w, i32_w]
         rfl
        refine take_ (i := 7) (N := some 25) (v := ?_) (a' := ?_) #[true, true, true, true, true, true, true, true, false, false] rfl rfl (take_ofW HT_.out HW_.out (by kernel_rfl)) (fun _ _ _ h => h) (Or.inl ⟨by rfl, ?_⟩) hHeld ?_ ?_
        rotate_left
        ·rintro w' ⟨s0, s1, s2, s3, s4, s5⟩
         go_simp
         with_reducible rfl
        rotate_left
        ·simp only [Act.put, Kx.sb, Kx.sz, Kx.ss, i64_w, i32_w]
         rfl
        refine one_ (i := 8) (N := some 26) #[true, true, true, true, true, true, true, true, true, false] rfl rfl (one_of HT_.out (by kernel_rfl)) (by decide) (fun K hK => ?_)
        refine goes_ Try.func23 (by kernel_rfl) rfl #[.agg #[.int .i64 ((rd_T25 l0 x5_1).f0), .int .i64 ((rd_T25 l0 x5_1).f1), .slice A165_2 ((rd_T25 l0 x5_1).f2).length c165_2], .agg #[.int .i64 ((rd_T25 l1 x5_1).f0), .int .i64 ((rd_T25 l1 x5_1).f1), .slice A166_2 ((rd_T25 l1 x5_1).f2).length c166_2]] (by rfl) rfl rfl (by (try simp only [List.map_toArray, List.map_cons, List.map_nil]); first | done | rfl | (simp only [List.length_drop, List.length_take]; rfl)) ?_
        with_reducible refine (waggonerref05_Same.calls ((rd_T25 l0 x5_1).f0) ((rd_T25 l0 x5_1).f1) _ _ ((rd_T25 l0 x5_1).f2) ((rd_T25 l1 x5_1).f0) ((rd_T25 l1 x5_1).f1) _ _ ((rd_T25 l1 x5_1).f2) false _ ?side1 ?side2 ?side3 ?side4 A7.out).mono ?_
        (case side1 => repeat (first | exact (Kd.C_below HR165_2.out HB.out) | (with_reducible refine Kd.C_alloc ?_ _) | (with_reducible refine Kd.C_drewN ?_ _) | (with_reducible refine Kd.C_drew ?_)))
        (case side2 => exact HC165_2.out)
        (case side3 => repeat (first | exact (Kd.C_below HR166_2.out HB.out) | (with_reducible refine Kd.C_alloc ?_ _) | (with_reducible refine Kd.C_drewN ?_ _) | (with_reducible refine Kd.C_drew ?_)))
        (case side4 => exact HC166_2.out)
        rintro e w12 ⟨rfl, hb⟩
        refine ⟨_, rfl, ?_⟩
        have n0_ := Aside0.mk (below_step (by repeat (first | (with_reducible first | exact HB.out | apply below_alloc | apply pw_below_drewN | apply below_drew1) | exact HB.out)) hb)
        clear HB
        have HB := n0_
        clear n0_
        (try clear hb)
        (try clear hb2)
        (try clear hk)
        (try clear hi)
        refine hK.out _ _ ⟨((HB.out.cell (World.block_lt_of_cell? w _ hw165_0)).trans hw165_0), ((HB.out.cell (World.block_lt_of_cell? w _ hw165_1)).trans hw165_1), ((HB.out.cell (World.block_lt_of_cell? w _ hw165_2)).trans hw165_2), ((HB.out.cell (World.block_lt_of_cell? w _ hw166_0)).trans hw166_0), ((HB.out.cell (World.block_lt_of_cell? w _ hw166_1)).trans hw166_1), ((HB.out.cell (World.block_lt_of_cell? w _ hw166_2)).trans hw166_2)⟩ (fun hHeld => ?_)
        clear hK K
        refine norm_ (a' := ?_) ?_ ?_
        rotate_left
        ·show Act.put _ (some 26) _ = _
         simp only [Act.put, Kx.sb, Kx.sz, Kx.ss, i64_w, i32_w]
         rfl
        refine pure_ (i := 9) (N := some 6) (v := ?_) (a' := ?_) #[true, true, true, true, true, true, true, true, true, true] rfl rfl (any_of HT_.out (by kernel_rfl)) (fun _ _ _ h => h) (Or.inl ⟨by rfl, ?_⟩) ?_ ?_
        rotate_left
        ·intro w'
         go_simp
         with_reducible rfl
        rotate_left
        ·simp only [Act.put, Kx.sb, Kx.sz, Kx.ss, i64_w, i32_w]
         rfl
        refine done_ (done_of HT_.out (by kernel_rfl)) ?_
        try go_wp2
        go_ret
        exact ⟨by first | rfl | (simp [errW_none, errW_some] <;> rfl) | (simp [*, errW_none, errW_some] <;> rfl), by repeat (first | (with_reducible first | exact HB.out | apply below_alloc | apply pw_below_drewN | apply below_drew1) | exact HB.out)⟩
      ·rw [if_neg c6] at H
       exact absurd H (by simp)
     ·rw [if_neg c5] at H
      exact absurd H (by simp)
    ·rw [if_neg c4] at H
     have c4b0 : decide (x5_1 < (l0.length : Int)) = false := decide_eq_false c4
     clear c4
     obtain rfl := Option.some.inj H
     go_wp2
     go_ret
     exact ⟨by first | rfl | (simp [errW_none, errW_some] <;> rfl) | (simp [*, errW_none, errW_some] <;> rfl), by repeat (first | (with_reducible first | exact HB.out | apply below_alloc | apply pw_below_drewN | apply below_drew1) | exact HB.out)⟩
 ·rw [if_neg c3] at H
  have c3b0 : ((l0.length : Int) == (l1.length : Int)) = false := beq_eq_false_iff_ne.mpr c3
  have c3b1 : ((l0.length : Int) != (l1.length : Int)) = true := bne_iff_ne.mpr c3
  have c3b2 : (l0.length == l1.length) = false := by first | simpa using c3 | (simp at c3 ⊢; omega)
  obtain rfl := Option.some.inj H
  go_enter Try.func30, Try.ntmps30
  go_wp2
  go_ret
  exact ⟨by first | rfl | (simp [errW_none, errW_some] <;> rfl) | (simp [*, errW_none, errW_some] <;> rfl), by repeat (first | (with_reducible first | exact HB.out | apply below_alloc | apply pw_below_drewN | apply below_drew1) | exact HB.out)⟩
end Go.Proofs.Ytcemlfkboifncaa.PA
