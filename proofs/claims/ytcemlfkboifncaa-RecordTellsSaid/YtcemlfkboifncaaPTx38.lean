/- Functions of the program as Lean functions, and that the Go code comes to just their answers: no condition but that the function says so. (Written by a program of this workplace over the kit's print, with contracts by hand.) -/
import Derived.Test.YtcemlfkboifncaaPTx12
import Derived.Test.YtcemlfkboifncaaPTx24
import Derived.Test.YtcemlfkboifncaaPTx33
namespace Go.Proofs.Ytcemlfkboifncaa.PT
open Go.RowKit Go.Proofs.YtcemlfkboifncaaW.PrintWords Go.Proofs.YtcemlfkboifncaaW.PrintLast Go.Proofs.YtcemlfkboifncaaW.PrintMore
attribute [local go_sem] max2_int min2_int max_two min_two max_three min_three max_four min_four   -- for this text's walks alone
set_option linter.unusedVariables false
set_option linter.unusedSimpArgs false

/-! ### waggonerlaw05_awake: function 18 -/
def waggonerlaw05_awake.f : Option Bool := some true
theorem aw05_w : record_Write.f 1 9 [98, 111, 100, 121] = some (Pl.recB 1 9 [98, 111, 100, 121], 0) := by kernel_rfl
theorem aw05_r : record_Read.f (Pl.recB 1 9 [98, 111, 100, 121]) = some (1, 9, [98, 111, 100, 121], 24, 0) := by kernel_rfl
theorem aw05_n : record_Read.f [] = some (0, 0, [], 0, 50) := by kernel_rfl
theorem aw05_s : record_Scan.f (Pl.recB 1 9 [98, 111, 100, 121] ++ Pl.recB 1 9 [98, 111, 100, 121]) = some ([⟨1, 9, [98, 111, 100, 121]⟩, ⟨1, 9, [98, 111, 100, 121]⟩], [0, 24]) := by kernel_rfl
theorem aw05_e : waggonerref05_Same.f 1 9 [98, 111, 100, 121] 1 9 [98, 111, 100, 121] = some true := by kernel_rfl
theorem aw05_m : waggonerref05_Numbers.f 5 [0, 24] [0, 24] = some true := by kernel_rfl
theorem aw05_z : record_Size.f 0 = some 20 := by kernel_rfl
theorem aw05_y : record_Size.f 4097 = some 0 := by kernel_rfl
theorem aw05_c : record_Check.f 1 9 [98, 111, 100, 121] = some 0 := by kernel_rfl
theorem aw05_t : (Pl.recB 1 9 [98, 111, 100, 121]).take 8 = [87, 82, 76, 71, 1, 0, 4, 0] := by kernel_rfl
set_option maxHeartbeats 2000000 in
set_option maxRecDepth 2000000 in
theorem waggonerlaw05_awake.calls (r : Bool) (w : World) (h : waggonerlaw05_awake.f = some r) :
  Calls Try.prog 18 #[] w fun e w' => e = .returned (.bool r) ∧ Below w.heap.size w w' := by
 unfold waggonerlaw05_awake.f at h
 obtain rfl := Option.some.inj h
 clear h
 have hu25 := Try.underlying25
 have kc := fun (w : World) (C : Array Value) (n c : Nat) => Lib.run_convert_bytes_const (P := Try.prog) w 23 5 C n c Try.underlying23 Try.underlying5
 go_enter Try.func18, Try.ntmps18
 go_wp2_with fail
 obtain ⟨g1, hg1⟩ : ∃ g, g = w.heap.size + 1 := ⟨_, rfl⟩
 have BK1 := Aside0.mk (blk_new (w.alloc (.cells #[.int .u8 98, .int .u8 111, .int .u8 100, .int .u8 121] 5 (4, 5))) (.cells #[.int .i64 1, .int .i64 9, .slice (some ⟨w.heap.size, 0, none⟩) 4 4] 25))
 rw [show (w.alloc (.cells #[.int .u8 98, .int .u8 111, .int .u8 100, .int .u8 121] 5 (4, 5))).heap.size = g1 from by rw [hg1]; simp] at BK1
 rw [← hg1]
 clear hg1
 have HRy0 := Aside0.mk (Kd.C_alloc (Kx.C_lit w [98, 111, 100, 121] (by decide) 5 (4, 5)) (.cells #[.int .i64 1, .int .i64 9, .slice (some ⟨w.heap.size, 0, none⟩) 4 4] 25))
 refine (record_Write.calls 1 9 _ _ [98, 111, 100, 121] _ _ _ HRy0.out (Nat.le_refl _) aw05_w).mono ?_
 rintro e w1 ⟨v1, rfl, ho, hb⟩
 obtain ⟨Aq, cq, rfl, hcq, hrq⟩ := Kd.R_reads ho
 have HB := Aside0.mk (below_step (below_alloc (below_alloc (Below.refl w.heap.size w) _) _) hb)
 have HRy := Aside0.mk (Kd.C_below HRy0.out hb)
 have n1 := Aside0.mk (blk_below BK1.out hb)
 have HCq := Aside0.mk hcq
 have HRq := Aside0.mk hrq
 have HQr := Aside0.mk aw05_r
 have HQs := Aside0.mk aw05_s
 have HQt := Aside0.mk aw05_t
 have HQl : Aside0 ((Pl.recB 1 9 [98, 111, 100, 121]).length = 24) := ⟨by rw [Pl.recB_length]; rfl⟩
 clear BK1 HRy0 ho hb hcq hrq
 have BK1 := n1
 clear n1
 generalize w.heap.size = gy at BK1 HRy ⊢
 generalize Pl.recB 1 9 [98, 111, 100, 121] = q at HCq HRq HQr HQs HQt HQl ⊢
 go_wp2_with fail
 refine (record_Read.calls Aq cq q _ _ _ _ _ _ HRq.out HCq.out HQr.out).mono ?_
 rintro e w2 ⟨v2, rfl, ho, hb⟩
 obtain ⟨A2, c2, rfl, hc2, hr2⟩ := Kd.R_reads ho
 have n1 := Aside0.mk (below_step HB.out hb)
 have n2 := Aside0.mk (Kd.C_below HRy.out hb)
 have n3 := Aside0.mk (blk_below BK1.out hb)
 have n4 := Aside0.mk (Kd.C_below HRq.out hb)
 have HC2 := Aside0.mk hc2
 have HR2 := Aside0.mk hr2
 clear HB HRy BK1 HRq ho hb hc2 hr2 HQr
 have HB := n1
 have HRy := n2
 have BK1 := n3
 have HRq := n4
 clear n1 n2 n3 n4
 go_wp2_with fail
 refine (record_Read.calls none 0 [] _ _ _ _ _ _ (Kd.C_nil _ _) (Nat.le_refl _) aw05_n).mono ?_
 rintro e w3 ⟨v3, rfl, ho, hb⟩
 obtain ⟨A3, c3, rfl, hc3, hr3⟩ := Kd.R_reads ho
 have n1 := Aside0.mk (below_step (below_alloc HB.out _) hb)
 have n2 := Aside0.mk (Kd.C_below (Kd.C_alloc HRy.out _) hb)
 have n3 := Aside0.mk (blk_below (blk_alloc BK1.out _) hb)
 have n4 := Aside0.mk (Kd.C_below (Kd.C_alloc HRq.out _) hb)
 have n5 := Aside0.mk (Kd.C_below (Kd.C_alloc HR2.out _) hb)
 have BK4 := Aside0.mk (blk_below (blk_new w2 (.cells #[.int .i64 1, .int .i64 9, .slice A2 4 c2] 25)) hb)
 clear HB HRy BK1 HRq HR2 ho hb hc3 hr3
 have HB := n1
 have HRy := n2
 have BK1 := n3
 have HRq := n4
 have HR2 := n5
 clear n1 n2 n3 n4 n5
 generalize w2.heap.size = g4 at BK4 ⊢
 go_upto_region 5 with (fail)
 have n1 := Aside0.mk (below_alloc HB.out (.cells #[.int .i64 0, .int .i64 0, .slice A3 0 c3] 25))
 have n2 := Aside0.mk (Kd.C_alloc HRy.out (.cells #[.int .i64 0, .int .i64 0, .slice A3 0 c3] 25))
 have n3 := Aside0.mk (blk_alloc BK1.out (.cells #[.int .i64 0, .int .i64 0, .slice A3 0 c3] 25))
 have n4 := Aside0.mk (Kd.C_alloc HRq.out (.cells #[.int .i64 0, .int .i64 0, .slice A3 0 c3] 25))
 have n5 := Aside0.mk (Kd.C_alloc HR2.out (.cells #[.int .i64 0, .int .i64 0, .slice A3 0 c3] 25))
 have n6 := Aside0.mk (blk_alloc BK4.out (.cells #[.int .i64 0, .int .i64 0, .slice A3 0 c3] 25))
 clear HB HRy BK1 HRq HR2 BK4
 have HB := n1
 have HRy := n2
 have BK1 := n3
 have HRq := n4
 have HR2 := n5
 have BK4 := n6
 clear n1 n2 n3 n4 n5 n6
 generalize w3.alloc (.cells #[.int .i64 0, .int .i64 0, .slice A3 0 c3] 25) = w4 at HB HRy BK1 HRq HR2 BK4 ⊢
 go_wp2_with (first | ((with_reducible refine gate_dst (N := 33) rfl ?_); refine Kd.R_lit (Kd.int .u8) _ 5 ?hg (N := 33) ?hd (xs := ([] : List Int)) (inner := []) (ok := fun _ => True) (okp := fun _ => True) ?hr ?hp (fun _ hk => hk) trivial (Below.refl _ _) (Nat.le_refl _) (by simp) ?_; (case hd => rfl); (case hg => rfl); (case hr => first | (go_simp; done) | (go_simp; rfl)); (case hp => exact (Reps.none _ _)); intro v110 w13 ho14 hb hg_ hnew_; clear hg_ hnew_; have HL := Aside0.mk ho14; have HLB := Aside0.mk hb; clear hb ho14) | ((with_reducible refine gate_builtin (b := .append) (xs := #[.tmp 33, .tmp 34]) rfl ?_); at_builtin; go_must (refine Kd.R_append_rows (Kd.int .u8) (w0 := w4) w4.heap.size rfl (.tmp 33) (.tmp 34) 23 5 (.int .u8 0) 1 rfl Try.underlying23 info5 rfl (by decide) (by omega) v110 [] q _ _ _ (fun _ => True) (fun _ => False) rfl rfl ?aO ?aR (fun _ _ h => h) (fun _ h => h.elim) ?aF ?aB ?aS ?aL ?_); (case aR => exact (Kd.C_below HRq.out HLB.out)); (case aB => exact HLB.out); (case aF => exact (fun _ _ => trivial)); (case aO => exact HL.out); (case aS => exact HLB.out.size); (case aL => have := HQl.out; simp; omega); intro v113 w15c ho hb hg hat; rw [List.nil_append] at ho; have HOc := Aside0.mk ho; have HBOc := Aside0.mk hb; clear HL HLB ho hb hg hat) | ((with_reducible refine gate_builtin (b := .append) (xs := #[.tmp 35, .tmp 36]) rfl ?_); at_builtin; go_must (refine Kd.R_append_rows (Kd.int .u8) (w0 := w4) w4.heap.size rfl (.tmp 35) (.tmp 36) 23 5 (.int .u8 0) 1 rfl Try.underlying23 info5 rfl (by decide) (by omega) v113 q q _ _ _ (fun _ => True) (fun _ => False) rfl rfl ?bO ?bR (fun _ _ h => h) (fun _ h => h.elim) ?bF ?bB ?bS ?bL ?_); (case bR => exact (Kd.C_below HRq.out HBOc.out)); (case bB => exact HBOc.out); (case bF => exact (fun _ _ => trivial)); (case bO => exact HOc.out); (case bS => exact HBOc.out.size); (case bL => have := HQl.out; omega); intro v114 w16 ho hb hg hat; have HO2 := Aside0.mk ho; have HB2 := Aside0.mk hb; clear ho hb hg hat))
 obtain ⟨As, cs, rfl, hcs, hrs⟩ := Kd.R_reads HO2.out
 clear HOc HBOc
 refine (record_Scan.calls As cs (q ++ q) _ _ _ hrs hcs HQs.out).mono ?_
 rintro e w17 ⟨v10, v11, rfl, hs, hi, hb⟩
 obtain ⟨A10, c10, rfl, -, -⟩ := Kd.S_reads hs
 obtain ⟨A11, c11, rfl, hc11, hr11⟩ := Kd.R_reads hi
 have n1 := Aside0.mk (below_step (below_step HB.out HB2.out) hb)
 have n2 := Aside0.mk (Kd.C_below (Kd.C_below HRy.out HB2.out) hb)
 have n3 := Aside0.mk (blk_below (blk_below BK1.out HB2.out) hb)
 have n4 := Aside0.mk (Kd.C_below (Kd.C_below HRq.out HB2.out) hb)
 have n5 := Aside0.mk (Kd.C_below (Kd.C_below HR2.out HB2.out) hb)
 have n6 := Aside0.mk (blk_below (blk_below BK4.out HB2.out) hb)
 have HC11 := Aside0.mk hc11
 have HR11 := Aside0.mk hr11
 clear HB HRy BK1 HRq HR2 BK4 HO2 HB2 hs hi hb hc11 hr11 hcs hrs HQs
 have HB := n1
 have HRy := n2
 have BK1 := n3
 have HRq := n4
 have HR2 := n5
 have BK4 := n6
 clear n1 n2 n3 n4 n5 n6
 have dq : ((q.length : Int) != 24) = false := by rw [HQl.out]; rfl
 have dq' : (q.length != 24) = false := by rw [HQl.out]; rfl
 have c40 : w17.cell? ⟨g4, 0, none⟩ = some (.int .i64 1) := (blk_cell BK4.out 0).trans rfl
 have c41 : w17.cell? ⟨g4, 1, none⟩ = some (.int .i64 9) := (blk_cell BK4.out 1).trans rfl
 have c42 : w17.cell? ⟨g4, 2, none⟩ = some (.slice A2 4 c2) := (blk_cell BK4.out 2).trans rfl
 have c10_ : w17.cell? ⟨g1, 0, none⟩ = some (.int .i64 1) := (blk_cell BK1.out 0).trans rfl
 have c11_ : w17.cell? ⟨g1, 1, none⟩ = some (.int .i64 9) := (blk_cell BK1.out 1).trans rfl
 have c12_ : w17.cell? ⟨g1, 2, none⟩ = some (.slice (some ⟨gy, 0, none⟩) 4 4) := (blk_cell BK1.out 2).trans rfl
 go_wp2_with fail
 refine (waggonerref05_Same.calls 1 9 _ _ [98, 111, 100, 121] 1 9 _ _ [98, 111, 100, 121] true _ HR2.out HC2.out HRy.out (Nat.le_refl _) aw05_e).mono ?_
 rintro e w18 ⟨rfl, hb⟩
 have n1 := Aside0.mk (below_step HB.out hb)
 have n2 := Aside0.mk (Kd.C_below HRy.out hb)
 have n3 := Aside0.mk (blk_below BK1.out hb)
 have n4 := Aside0.mk (Kd.C_below HRq.out hb)
 have n5 := Aside0.mk (Kd.C_below HR11.out hb)
 clear HB HRy BK1 HRq HR2 HC2 BK4 HR11 hb c40 c41 c42 c10_ c11_ c12_ dq dq'
 have HB := n1
 have HRy := n2
 have BK1 := n3
 have HRq := n4
 have HR11 := n5
 clear n1 n2 n3 n4 n5
 obtain ⟨i0, hi, hz0, hz1, hz2⟩ := info_parts info5
 obtain ⟨hcut, -, hC⟩ := print_take_of (P := Try.prog) (Value.int .u8) 0 23 5 .i64 Try.underlying23 hi hz1 Aq cq q (8 : Int) (by omega) (by have := HQl.out; omega) HCq.out
 rw [show (8 : Int).toNat = 8 from rfl, HQt.out] at hcut
 replace hcut : ∀ W : World, (Instr.slice 23 (.slice Aq q.length cq) none (some (.int .i64 8)) none).run Try.prog W = .ok (.slice Aq 8 cq) W := hcut
 have HR8 := Aside0.mk (Kx.takeC 8 (by have := HQl.out; omega) HRq.out)
 rw [HQt.out] at HR8
 clear hi hz0 hz1 hz2 hC HRq
 go_wp2
 have n_HB := Aside0.mk (below_drew HB.out)
 have n_HRy := Aside0.mk (Kd.C_drew HRy.out)
 have n_BK1 := Aside0.mk (blk_drew BK1.out)
 have n_HR8 := Aside0.mk (Kd.C_drew HR8.out)
 have n_HR11 := Aside0.mk (Kd.C_drew HR11.out)
 clear HB HRy BK1 HR8 HR11
 have HB := n_HB
 have HRy := n_HRy
 have BK1 := n_BK1
 have HR8 := n_HR8
 have HR11 := n_HR11
 clear n_HB n_HRy n_BK1 n_HR8 n_HR11
 refine start_ (n := 49) (S := fun w' => w'.cell? ⟨g1, 0, none⟩ = some (.int .i64 1) ∧ w'.cell? ⟨g1, 1, none⟩ = some (.int .i64 9) ∧ w'.cell? ⟨g1, 2, none⟩ = some (.slice (some ⟨gy, 0, none⟩) 4 4) ∧ (convert 23 9 (.slice Aq 8 cq)).run Try.prog w' = .ok (.string (strOfNums [87, 82, 76, 71, 1, 0, 4, 0])) w') (ds := []) #[false, false, false, false, false, false, false, false, false, false, false, false, false, false, false, false, false, false, false, false, false, false, false, false, false, false, false, false, false, false, false, false, false, false, false, false, false, false, false, false, false, false, false, false, false, false, false, false, false] (by kernel_rfl) rfl rfl ⟨((blk_cell BK1.out 0).trans rfl), ((blk_cell BK1.out 1).trans rfl), ((blk_cell BK1.out 2).trans rfl), (Kd.C_string (P := Try.prog) (A := Aq) (c := cq) Try.underlying23 Try.underlying5 Try.underlying9 HR8.out)⟩ (fun hHeld => ?_)
 generalize w18.drew = wd at HB HRy BK1 HR8 HR11 hHeld ⊢
 refine one_ (i := 0) (N := some 47) #[true, false, false, false, false, false, false, false, false, false, false, false, false, false, false, false, false, false, false, false, false, false, false, false, false, false, false, false, false, false, false, false, false, false, false, false, false, false, false, false, false, false, false, false, false, false, false, false, false] rfl rfl (by kernel_rfl) (by decide) (fun K hK => ?_)
 refine goes_ Try.func26 (by kernel_rfl) rfl #[.int .i64 0] (by rfl) rfl rfl (by simp only [List.map_toArray, List.map_cons, List.map_nil]; rfl) ?_
 refine (record_Size.calls _ _ _ aw05_z).mono ?_
 rintro e wa0 ⟨rfl, hd⟩
 refine ⟨_, rfl, ?_⟩
 have n_HB := Aside0.mk (below_step HB.out hd.below)
 have n_HRy := Aside0.mk (Kd.C_below HRy.out hd.below)
 have n_BK1 := Aside0.mk (blk_below BK1.out hd.below)
 have n_HR8 := Aside0.mk (Kd.C_below HR8.out hd.below)
 have n_HR11 := Aside0.mk (Kd.C_below HR11.out hd.below)
 clear HB HRy BK1 HR8 HR11
 have HB := n_HB
 have HRy := n_HRy
 have BK1 := n_BK1
 have HR8 := n_HR8
 have HR11 := n_HR11
 clear n_HB n_HRy n_BK1 n_HR8 n_HR11
 clear hd
 refine hK.out _ _ ⟨((blk_cell BK1.out 0).trans rfl), ((blk_cell BK1.out 1).trans rfl), ((blk_cell BK1.out 2).trans rfl), (Kd.C_string (P := Try.prog) (A := Aq) (c := cq) Try.underlying23 Try.underlying5 Try.underlying9 HR8.out)⟩ (fun hHeld => ?_)
 clear hK K
 refine norm_ (a' := ?_) ?_ ?_
 rotate_left
 ·show Act.put _ (some 47) _ = _
  simp only [Act.put, Kx.sb, Kx.sz, Kx.ss, i64_w, i32_w]
  rfl
 refine pure_ (i := 1) (N := some 48) (v := ?_) (a' := ?_) #[true, true, false, false, false, false, false, false, false, false, false, false, false, false, false, false, false, false, false, false, false, false, false, false, false, false, false, false, false, false, false, false, false, false, false, false, false, false, false, false, false, false, false, false, false, false, false, false, false] rfl rfl (by kernel_rfl) (fun _ _ _ h => h) (Or.inl ⟨by rfl, ?_⟩) ?_ ?_
 rotate_left
 ·intro w'
  go_simp
  with_reducible rfl
 rotate_left
 ·simp only [Act.put, Kx.sb, Kx.sz, Kx.ss, i64_w, i32_w]
  rfl
 refine pure_ (i := 2) (N := some 49) (v := ?_) (a' := ?_) #[true, true, true, false, false, false, false, false, false, false, false, false, false, false, false, false, false, false, false, false, false, false, false, false, false, false, false, false, false, false, false, false, false, false, false, false, false, false, false, false, false, false, false, false, false, false, false, false, false] rfl rfl (by kernel_rfl) (fun _ _ _ h => h) (Or.inl ⟨by rfl, ?_⟩) ?_ ?_
 rotate_left
 ·intro w'
  go_simp
  with_reducible rfl
 rotate_left
 ·simp only [Act.put, Kx.sb, Kx.sz, Kx.ss, i64_w, i32_w]
  rfl
 refine one_ (i := 3) (N := some 50) #[true, true, true, true, false, false, false, false, false, false, false, false, false, false, false, false, false, false, false, false, false, false, false, false, false, false, false, false, false, false, false, false, false, false, false, false, false, false, false, false, false, false, false, false, false, false, false, false, false] rfl rfl (by kernel_rfl) (by decide) (fun K hK => ?_)
 refine goes_ Try.func26 (by kernel_rfl) rfl #[.int .i64 4097] (by rfl) rfl rfl (by simp only [List.map_toArray, List.map_cons, List.map_nil]; rfl) ?_
 refine (record_Size.calls _ _ _ aw05_y).mono ?_
 rintro e wa3 ⟨rfl, hd⟩
 refine ⟨_, rfl, ?_⟩
 have n_HB := Aside0.mk (below_step HB.out hd.below)
 have n_HRy := Aside0.mk (Kd.C_below HRy.out hd.below)
 have n_BK1 := Aside0.mk (blk_below BK1.out hd.below)
 have n_HR8 := Aside0.mk (Kd.C_below HR8.out hd.below)
 have n_HR11 := Aside0.mk (Kd.C_below HR11.out hd.below)
 clear HB HRy BK1 HR8 HR11
 have HB := n_HB
 have HRy := n_HRy
 have BK1 := n_BK1
 have HR8 := n_HR8
 have HR11 := n_HR11
 clear n_HB n_HRy n_BK1 n_HR8 n_HR11
 clear hd
 refine hK.out _ _ ⟨((blk_cell BK1.out 0).trans rfl), ((blk_cell BK1.out 1).trans rfl), ((blk_cell BK1.out 2).trans rfl), (Kd.C_string (P := Try.prog) (A := Aq) (c := cq) Try.underlying23 Try.underlying5 Try.underlying9 HR8.out)⟩ (fun hHeld => ?_)
 clear hK K
 refine norm_ (a' := ?_) ?_ ?_
 rotate_left
 ·show Act.put _ (some 50) _ = _
  simp only [Act.put, Kx.sb, Kx.sz, Kx.ss, i64_w, i32_w]
  rfl
 refine pure_ (i := 4) (N := some 51) (v := ?_) (a' := ?_) #[true, true, true, true, true, false, false, false, false, false, false, false, false, false, false, false, false, false, false, false, false, false, false, false, false, false, false, false, false, false, false, false, false, false, false, false, false, false, false, false, false, false, false, false, false, false, false, false, false] rfl rfl (by kernel_rfl) (fun _ _ _ h => h) (Or.inl ⟨by rfl, ?_⟩) ?_ ?_
 rotate_left
 ·intro w'
  go_simp
  with_reducible rfl
 rotate_left
 ·simp only [Act.put, Kx.sb, Kx.sz, Kx.ss, i64_w, i32_w]
  rfl
 refine pure_ (i := 5) (N := some 52) (v := ?_) (a' := ?_) #[true, true, true, true, true, true, false, false, false, false, false, false, false, false, false, false, false, false, false, false, false, false, false, false, false, false, false, false, false, false, false, false, false, false, false, false, false, false, false, false, false, false, false, false, false, false, false, false, false] rfl rfl (by kernel_rfl) (fun _ _ _ h => h) (Or.inl ⟨by rfl, ?_⟩) ?_ ?_
 rotate_left
 ·intro w'
  go_simp
  with_reducible rfl
 rotate_left
 ·simp only [Act.put, Kx.sb, Kx.sz, Kx.ss, i64_w, i32_w]
  rfl
 refine pure_ (i := 6) (N := some 53) (v := ?_) (a' := ?_) #[true, true, true, true, true, true, true, false, false, false, false, false, false, false, false, false, false, false, false, false, false, false, false, false, false, false, false, false, false, false, false, false, false, false, false, false, false, false, false, false, false, false, false, false, false, false, false, false, false] rfl rfl (by kernel_rfl) (fun _ _ _ h => h) (Or.inl ⟨by rfl, ?_⟩) ?_ ?_
 rotate_left
 ·intro w'
  go_simp
  with_reducible rfl
 rotate_left
 ·simp only [Act.put, Kx.sb, Kx.sz, Kx.ss, i64_w, i32_w]
  rfl
 refine pure_ (i := 7) (N := some 54) (v := ?_) (a' := ?_) #[true, true, true, true, true, true, true, true, false, false, false, false, false, false, false, false, false, false, false, false, false, false, false, false, false, false, false, false, false, false, false, false, false, false, false, false, false, false, false, false, false, false, false, false, false, false, false, false, false] rfl rfl (by kernel_rfl) (fun _ _ _ h => h) (Or.inl ⟨by rfl, ?_⟩) ?_ ?_
 rotate_left
 ·intro w'
  go_simp
  with_reducible rfl
 rotate_left
 ·simp only [Act.put, Kx.sb, Kx.sz, Kx.ss, i64_w, i32_w]
  rfl
 refine pure_ (i := 8) (N := some 55) (v := ?_) (a' := ?_) #[true, true, true, true, true, true, true, true, true, false, false, false, false, false, false, false, false, false, false, false, false, false, false, false, false, false, false, false, false, false, false, false, false, false, false, false, false, false, false, false, false, false, false, false, false, false, false, false, false] rfl rfl (by kernel_rfl) (fun _ _ _ h => h) (Or.inl ⟨by rfl, ?_⟩) ?_ ?_
 rotate_left
 ·intro w'
  go_simp
  with_reducible rfl
 rotate_left
 ·simp only [Act.put, Kx.sb, Kx.sz, Kx.ss, i64_w, i32_w]
  rfl
 refine pure_ (i := 9) (N := some 56) (v := ?_) (a' := ?_) #[true, true, true, true, true, true, true, true, true, true, false, false, false, false, false, false, false, false, false, false, false, false, false, false, false, false, false, false, false, false, false, false, false, false, false, false, false, false, false, false, false, false, false, false, false, false, false, false, false] rfl rfl (by kernel_rfl) (fun _ _ _ h => h) (Or.inl ⟨by rfl, ?_⟩) ?_ ?_
 rotate_left
 ·intro w'
  go_simp
  with_reducible rfl
 rotate_left
 ·simp only [Act.put, Kx.sb, Kx.sz, Kx.ss, i64_w, i32_w]
  rfl
 refine pure_ (i := 10) (N := some 57) (v := ?_) (a' := ?_) #[true, true, true, true, true, true, true, true, true, true, true, false, false, false, false, false, false, false, false, false, false, false, false, false, false, false, false, false, false, false, false, false, false, false, false, false, false, false, false, false, false, false, false, false, false, false, false, false, false] rfl rfl (by kernel_rfl) (fun _ _ _ h => h) (Or.inl ⟨by rfl, ?_⟩) ?_ ?_
 rotate_left
 ·intro w'
  go_simp
  with_reducible rfl
 rotate_left
 ·simp only [Act.put, Kx.sb, Kx.sz, Kx.ss, i64_w, i32_w]
  rfl
 refine pure_ (i := 11) (N := some 58) (v := ?_) (a' := ?_) #[true, true, true, true, true, true, true, true, true, true, true, true, false, false, false, false, false, false, false, false, false, false, false, false, false, false, false, false, false, false, false, false, false, false, false, false, false, false, false, false, false, false, false, false, false, false, false, false, false] rfl rfl (by kernel_rfl) (fun _ _ _ h => h) (Or.inl ⟨by rfl, ?_⟩) ?_ ?_
 rotate_left
 ·intro w'
  go_simp
  with_reducible rfl
 rotate_left
 ·simp only [Act.put, Kx.sb, Kx.sz, Kx.ss, i64_w, i32_w]
  rfl
 refine pure_ (i := 12) (N := some 59) (v := ?_) (a' := ?_) #[true, true, true, true, true, true, true, true, true, true, true, true, true, false, false, false, false, false, false, false, false, false, false, false, false, false, false, false, false, false, false, false, false, false, false, false, false, false, false, false, false, false, false, false, false, false, false, false, false] rfl rfl (by kernel_rfl) (fun _ _ _ h => h) (Or.inl ⟨by rfl, ?_⟩) ?_ ?_
 rotate_left
 ·intro w'
  go_simp
  with_reducible rfl
 rotate_left
 ·simp only [Act.put, Kx.sb, Kx.sz, Kx.ss, i64_w, i32_w]
  rfl
 refine pure_ (i := 13) (N := some 60) (v := ?_) (a' := ?_) #[true, true, true, true, true, true, true, true, true, true, true, true, true, true, false, false, false, false, false, false, false, false, false, false, false, false, false, false, false, false, false, false, false, false, false, false, false, false, false, false, false, false, false, false, false, false, false, false, false] rfl rfl (by kernel_rfl) (fun _ _ _ h => h) (Or.inl ⟨by rfl, ?_⟩) ?_ ?_
 rotate_left
 ·intro w'
  go_simp
  with_reducible rfl
 rotate_left
 ·simp only [Act.put, Kx.sb, Kx.sz, Kx.ss, i64_w, i32_w]
  rfl
 refine pure_ (i := 14) (N := some 61) (v := ?_) (a' := ?_) #[true, true, true, true, true, true, true, true, true, true, true, true, true, true, true, false, false, false, false, false, false, false, false, false, false, false, false, false, false, false, false, false, false, false, false, false, false, false, false, false, false, false, false, false, false, false, false, false, false] rfl rfl (by kernel_rfl) (fun _ _ _ h => h) (Or.inl ⟨by rfl, ?_⟩) ?_ ?_
 rotate_left
 ·intro w'
  go_simp
  with_reducible rfl
 rotate_left
 ·simp only [Act.put, Kx.sb, Kx.sz, Kx.ss, i64_w, i32_w]
  rfl
 refine pure_ (i := 15) (N := some 62) (v := ?_) (a' := ?_) #[true, true, true, true, true, true, true, true, true, true, true, true, true, true, true, true, false, false, false, false, false, false, false, false, false, false, false, false, false, false, false, false, false, false, false, false, false, false, false, false, false, false, false, false, false, false, false, false, false] rfl rfl (by kernel_rfl) (fun _ _ _ h => h) (Or.inl ⟨by rfl, ?_⟩) ?_ ?_
 rotate_left
 ·intro w'
  go_simp
  with_reducible rfl
 rotate_left
 ·simp only [Act.put, Kx.sb, Kx.sz, Kx.ss, i64_w, i32_w]
  rfl
 refine pure_ (i := 16) (N := some 63) (v := ?_) (a' := ?_) #[true, true, true, true, true, true, true, true, true, true, true, true, true, true, true, true, true, false, false, false, false, false, false, false, false, false, false, false, false, false, false, false, false, false, false, false, false, false, false, false, false, false, false, false, false, false, false, false, false] rfl rfl (by kernel_rfl) (fun _ _ _ h => h) (Or.inl ⟨by rfl, ?_⟩) ?_ ?_
 rotate_left
 ·intro w'
  go_simp
  with_reducible rfl
 rotate_left
 ·simp only [Act.put, Kx.sb, Kx.sz, Kx.ss, i64_w, i32_w]
  rfl
 refine pure_ (i := 17) (N := some 64) (v := ?_) (a' := ?_) #[true, true, true, true, true, true, true, true, true, true, true, true, true, true, true, true, true, true, false, false, false, false, false, false, false, false, false, false, false, false, false, false, false, false, false, false, false, false, false, false, false, false, false, false, false, false, false, false, false] rfl rfl (by kernel_rfl) (fun _ _ _ h => h) (Or.inl ⟨by rfl, ?_⟩) ?_ ?_
 rotate_left
 ·intro w'
  go_simp
  with_reducible rfl
 rotate_left
 ·simp only [Act.put, Kx.sb, Kx.sz, Kx.ss, i64_w, i32_w]
  rfl
 refine pure_ (i := 18) (N := some 65) (v := ?_) (a' := ?_) #[true, true, true, true, true, true, true, true, true, true, true, true, true, true, true, true, true, true, true, false, false, false, false, false, false, false, false, false, false, false, false, false, false, false, false, false, false, false, false, false, false, false, false, false, false, false, false, false, false] rfl rfl (by kernel_rfl) (fun _ _ _ h => h) (Or.inl ⟨by rfl, ?_⟩) ?_ ?_
 rotate_left
 ·intro w'
  go_simp
  with_reducible rfl
 rotate_left
 ·simp only [Act.put, Kx.sb, Kx.sz, Kx.ss, i64_w, i32_w]
  rfl
 refine pure_ (i := 19) (N := some 66) (v := ?_) (a' := ?_) #[true, true, true, true, true, true, true, true, true, true, true, true, true, true, true, true, true, true, true, true, false, false, false, false, false, false, false, false, false, false, false, false, false, false, false, false, false, false, false, false, false, false, false, false, false, false, false, false, false] rfl rfl (by kernel_rfl) (fun _ _ _ h => h) (Or.inl ⟨by rfl, ?_⟩) ?_ ?_
 rotate_left
 ·intro w'
  go_simp
  with_reducible rfl
 rotate_left
 ·simp only [Act.put, Kx.sb, Kx.sz, Kx.ss, i64_w, i32_w]
  rfl
 refine pure_ (i := 20) (N := some 67) (v := ?_) (a' := ?_) #[true, true, true, true, true, true, true, true, true, true, true, true, true, true, true, true, true, true, true, true, true, false, false, false, false, false, false, false, false, false, false, false, false, false, false, false, false, false, false, false, false, false, false, false, false, false, false, false, false] rfl rfl (by kernel_rfl) (fun _ _ _ h => h) (Or.inl ⟨by rfl, ?_⟩) ?_ ?_
 rotate_left
 ·intro w'
  go_simp
  with_reducible rfl
 rotate_left
 ·simp only [Act.put, Kx.sb, Kx.sz, Kx.ss, i64_w, i32_w]
  rfl
 refine pure_ (i := 21) (N := some 68) (v := ?_) (a' := ?_) #[true, true, true, true, true, true, true, true, true, true, true, true, true, true, true, true, true, true, true, true, true, true, false, false, false, false, false, false, false, false, false, false, false, false, false, false, false, false, false, false, false, false, false, false, false, false, false, false, false] rfl rfl (by kernel_rfl) (fun _ _ _ h => h) (Or.inl ⟨by rfl, ?_⟩) ?_ ?_
 rotate_left
 ·intro w'
  go_simp
  with_reducible rfl
 rotate_left
 ·simp only [Act.put, Kx.sb, Kx.sz, Kx.ss, i64_w, i32_w]
  rfl
 refine pure_ (i := 22) (N := some 69) (v := ?_) (a' := ?_) #[true, true, true, true, true, true, true, true, true, true, true, true, true, true, true, true, true, true, true, true, true, true, true, false, false, false, false, false, false, false, false, false, false, false, false, false, false, false, false, false, false, false, false, false, false, false, false, false, false] rfl rfl (by kernel_rfl) (fun _ _ _ h => h) (Or.inl ⟨by rfl, ?_⟩) ?_ ?_
 rotate_left
 ·intro w'
  go_simp
  with_reducible rfl
 rotate_left
 ·simp only [Act.put, Kx.sb, Kx.sz, Kx.ss, i64_w, i32_w]
  rfl
 refine pure_ (i := 23) (N := some 70) (v := ?_) (a' := ?_) #[true, true, true, true, true, true, true, true, true, true, true, true, true, true, true, true, true, true, true, true, true, true, true, true, false, false, false, false, false, false, false, false, false, false, false, false, false, false, false, false, false, false, false, false, false, false, false, false, false] rfl rfl (by kernel_rfl) (fun _ _ _ h => h) (Or.inl ⟨by rfl, ?_⟩) ?_ ?_
 rotate_left
 ·intro w'
  go_simp
  with_reducible rfl
 rotate_left
 ·simp only [Act.put, Kx.sb, Kx.sz, Kx.ss, i64_w, i32_w]
  rfl
 refine pure_ (i := 24) (N := some 71) (v := ?_) (a' := ?_) #[true, true, true, true, true, true, true, true, true, true, true, true, true, true, true, true, true, true, true, true, true, true, true, true, true, false, false, false, false, false, false, false, false, false, false, false, false, false, false, false, false, false, false, false, false, false, false, false, false] rfl rfl (by kernel_rfl) (fun _ _ _ h => h) (Or.inl ⟨by rfl, ?_⟩) ?_ ?_
 rotate_left
 ·intro w'
  go_simp
  with_reducible rfl
 rotate_left
 ·simp only [Act.put, Kx.sb, Kx.sz, Kx.ss, i64_w, i32_w]
  rfl
 refine pure_ (i := 25) (N := some 72) (v := ?_) (a' := ?_) #[true, true, true, true, true, true, true, true, true, true, true, true, true, true, true, true, true, true, true, true, true, true, true, true, true, true, false, false, false, false, false, false, false, false, false, false, false, false, false, false, false, false, false, false, false, false, false, false, false] rfl rfl (by kernel_rfl) (fun _ _ _ h => h) (Or.inl ⟨by rfl, ?_⟩) ?_ ?_
 rotate_left
 ·intro w'
  go_simp
  with_reducible rfl
 rotate_left
 ·simp only [Act.put, Kx.sb, Kx.sz, Kx.ss, i64_w, i32_w]
  rfl
 refine pure_ (i := 26) (N := some 73) (v := ?_) (a' := ?_) #[true, true, true, true, true, true, true, true, true, true, true, true, true, true, true, true, true, true, true, true, true, true, true, true, true, true, true, false, false, false, false, false, false, false, false, false, false, false, false, false, false, false, false, false, false, false, false, false, false] rfl rfl (by kernel_rfl) (fun _ _ _ h => h) (Or.inl ⟨by rfl, ?_⟩) ?_ ?_
 rotate_left
 ·intro w'
  go_simp
  with_reducible rfl
 rotate_left
 ·simp only [Act.put, Kx.sb, Kx.sz, Kx.ss, i64_w, i32_w]
  rfl
 refine pure_ (i := 27) (N := some 74) (v := ?_) (a' := ?_) #[true, true, true, true, true, true, true, true, true, true, true, true, true, true, true, true, true, true, true, true, true, true, true, true, true, true, true, true, false, false, false, false, false, false, false, false, false, false, false, false, false, false, false, false, false, false, false, false, false] rfl rfl (by kernel_rfl) (fun _ _ _ h => h) (Or.inl ⟨by rfl, ?_⟩) ?_ ?_
 rotate_left
 ·intro w'
  go_simp
  with_reducible rfl
 rotate_left
 ·simp only [Act.put, Kx.sb, Kx.sz, Kx.ss, i64_w, i32_w]
  rfl
 refine pure_ (i := 28) (N := some 75) (v := ?_) (a' := ?_) #[true, true, true, true, true, true, true, true, true, true, true, true, true, true, true, true, true, true, true, true, true, true, true, true, true, true, true, true, true, false, false, false, false, false, false, false, false, false, false, false, false, false, false, false, false, false, false, false, false] rfl rfl (by kernel_rfl) (fun _ _ _ h => h) (Or.inl ⟨by rfl, ?_⟩) ?_ ?_
 rotate_left
 ·intro w'
  go_simp
  with_reducible rfl
 rotate_left
 ·simp only [Act.put, Kx.sb, Kx.sz, Kx.ss, i64_w, i32_w]
  rfl
 refine pure_ (i := 29) (N := some 76) (v := ?_) (a' := ?_) #[true, true, true, true, true, true, true, true, true, true, true, true, true, true, true, true, true, true, true, true, true, true, true, true, true, true, true, true, true, true, false, false, false, false, false, false, false, false, false, false, false, false, false, false, false, false, false, false, false] rfl rfl (by kernel_rfl) (fun _ _ _ h => h) (Or.inl ⟨by rfl, ?_⟩) ?_ ?_
 rotate_left
 ·intro w'
  go_simp
  with_reducible rfl
 rotate_left
 ·simp only [Act.put, Kx.sb, Kx.sz, Kx.ss, i64_w, i32_w]
  rfl
 refine pure_ (i := 30) (N := some 77) (v := ?_) (a' := ?_) #[true, true, true, true, true, true, true, true, true, true, true, true, true, true, true, true, true, true, true, true, true, true, true, true, true, true, true, true, true, true, true, false, false, false, false, false, false, false, false, false, false, false, false, false, false, false, false, false, false] rfl rfl (by kernel_rfl) (fun _ _ _ h => h) (Or.inl ⟨by rfl, ?_⟩) ?_ ?_
 rotate_left
 ·intro w'
  go_simp
  with_reducible rfl
 rotate_left
 ·simp only [Act.put, Kx.sb, Kx.sz, Kx.ss, i64_w, i32_w]
  rfl
 refine pure_ (i := 31) (N := some 78) (v := ?_) (a' := ?_) #[true, true, true, true, true, true, true, true, true, true, true, true, true, true, true, true, true, true, true, true, true, true, true, true, true, true, true, true, true, true, true, true, false, false, false, false, false, false, false, false, false, false, false, false, false, false, false, false, false] rfl rfl (by kernel_rfl) (fun _ _ _ h => h) (Or.inl ⟨by rfl, ?_⟩) ?_ ?_
 rotate_left
 ·intro w'
  go_simp
  with_reducible rfl
 rotate_left
 ·simp only [Act.put, Kx.sb, Kx.sz, Kx.ss, i64_w, i32_w]
  rfl
 refine one_ (i := 32) (N := some 79) #[true, true, true, true, true, true, true, true, true, true, true, true, true, true, true, true, true, true, true, true, true, true, true, true, true, true, true, true, true, true, true, true, true, false, false, false, false, false, false, false, false, false, false, false, false, false, false, false, false] rfl rfl (by kernel_rfl) (by decide) (fun K hK => ?_)
 refine value_ (w1 := ?_) (v := ?_) (by rfl) rfl ?_ ?_
 rotate_left 2
 ·go_simp
  constructor
  ·rfl
  ·rfl
 have HRm := Aside0.mk (Kx.C_litk .i64 wa3 [0, 24] (by decide) 3 (0, 0))
 have n_HB := Aside0.mk (below_alloc HB.out (.cells #[.int .i64 0, .int .i64 24] 3))
 have n_HRy := Aside0.mk (Kd.C_alloc HRy.out (.cells #[.int .i64 0, .int .i64 24] 3))
 have n_BK1 := Aside0.mk (blk_alloc BK1.out (.cells #[.int .i64 0, .int .i64 24] 3))
 have n_HR8 := Aside0.mk (Kd.C_alloc HR8.out (.cells #[.int .i64 0, .int .i64 24] 3))
 have n_HR11 := Aside0.mk (Kd.C_alloc HR11.out (.cells #[.int .i64 0, .int .i64 24] 3))
 clear HB HRy BK1 HR8 HR11
 have HB := n_HB
 have HRy := n_HRy
 have BK1 := n_BK1
 have HR8 := n_HR8
 have HR11 := n_HR11
 clear n_HB n_HRy n_BK1 n_HR8 n_HR11
 refine hK.out _ _ ⟨((blk_cell BK1.out 0).trans rfl), ((blk_cell BK1.out 1).trans rfl), ((blk_cell BK1.out 2).trans rfl), (Kd.C_string (P := Try.prog) (A := Aq) (c := cq) Try.underlying23 Try.underlying5 Try.underlying9 HR8.out)⟩ (fun hHeld => ?_)
 clear hK K
 refine norm_ (a' := ?_) ?_ ?_
 rotate_left
 ·show Act.put _ (some 79) _ = _
  simp only [Act.put, Kx.sb, Kx.sz, Kx.ss, i64_w, i32_w]
  rfl
 refine one_ (i := 33) (N := some 80) #[true, true, true, true, true, true, true, true, true, true, true, true, true, true, true, true, true, true, true, true, true, true, true, true, true, true, true, true, true, true, true, true, true, true, false, false, false, false, false, false, false, false, false, false, false, false, false, false, false] rfl rfl (by kernel_rfl) (by decide) (fun K hK => ?_)
 refine goes_ Try.func31 (by kernel_rfl) rfl #[.slice A11 2 c11, .slice (some ⟨wa3.heap.size, 0, none⟩) 2 2] (by rfl) rfl rfl (by simp only [List.map_toArray, List.map_cons, List.map_nil]; rfl) ?_
 refine (waggonerref05_Numbers.calls 5 _ _ [0, 24] _ _ [0, 24] _ _ HR11.out HC11.out HRm.out (Nat.le_refl _) aw05_m).mono ?_
 rintro e wa33 ⟨rfl, hd⟩
 refine ⟨_, rfl, ?_⟩
 have n_HB := Aside0.mk (below_step HB.out hd.below)
 have n_HRy := Aside0.mk (Kd.C_below HRy.out hd.below)
 have n_BK1 := Aside0.mk (blk_below BK1.out hd.below)
 have n_HR8 := Aside0.mk (Kd.C_below HR8.out hd.below)
 have n_HR11 := Aside0.mk (Kd.C_below HR11.out hd.below)
 clear HB HRy BK1 HR8 HR11
 have HB := n_HB
 have HRy := n_HRy
 have BK1 := n_BK1
 have HR8 := n_HR8
 have HR11 := n_HR11
 clear n_HB n_HRy n_BK1 n_HR8 n_HR11
 clear hd
 refine hK.out _ _ ⟨((blk_cell BK1.out 0).trans rfl), ((blk_cell BK1.out 1).trans rfl), ((blk_cell BK1.out 2).trans rfl), (Kd.C_string (P := Try.prog) (A := Aq) (c := cq) Try.underlying23 Try.underlying5 Try.underlying9 HR8.out)⟩ (fun hHeld => ?_)
 clear hK K
 refine norm_ (a' := ?_) ?_ ?_
 rotate_left
 ·show Act.put _ (some 80) _ = _
  simp only [Act.put, Kx.sb, Kx.sz, Kx.ss, i64_w, i32_w]
  rfl
 refine pure_ (i := 34) (N := some 81) (v := ?_) (a' := ?_) #[true, true, true, true, true, true, true, true, true, true, true, true, true, true, true, true, true, true, true, true, true, true, true, true, true, true, true, true, true, true, true, true, true, true, true, false, false, false, false, false, false, false, false, false, false, false, false, false, false] rfl rfl (by kernel_rfl) (fun _ _ _ h => h) (Or.inl ⟨by rfl, ?_⟩) ?_ ?_
 rotate_left
 ·intro w'
  go_simp
  with_reducible rfl
 rotate_left
 ·simp only [Act.put, Kx.sb, Kx.sz, Kx.ss, i64_w, i32_w]
  rfl
 refine pure_ (i := 35) (N := some 82) (v := ?_) (a' := ?_) #[true, true, true, true, true, true, true, true, true, true, true, true, true, true, true, true, true, true, true, true, true, true, true, true, true, true, true, true, true, true, true, true, true, true, true, true, false, false, false, false, false, false, false, false, false, false, false, false, false] rfl rfl (by kernel_rfl) (fun _ _ _ h => h) (Or.inl ⟨by rfl, ?_⟩) ?_ ?_
 rotate_left
 ·intro w'
  go_simp
  with_reducible rfl
 rotate_left
 ·simp only [Act.put, Kx.sb, Kx.sz, Kx.ss, i64_w, i32_w]
  rfl
 refine pure_ (i := 36) (N := some 83) (v := ?_) (a' := ?_) #[true, true, true, true, true, true, true, true, true, true, true, true, true, true, true, true, true, true, true, true, true, true, true, true, true, true, true, true, true, true, true, true, true, true, true, true, true, false, false, false, false, false, false, false, false, false, false, false, false] rfl rfl (by kernel_rfl) (fun _ _ _ h => h) (Or.inl ⟨by rfl, ?_⟩) ?_ ?_
 rotate_left
 ·intro w'
  go_simp
  with_reducible rfl
 rotate_left
 ·simp only [Act.put, Kx.sb, Kx.sz, Kx.ss, i64_w, i32_w]
  rfl
 refine pure_ (i := 37) (N := some 84) (v := ?_) (a' := ?_) #[true, true, true, true, true, true, true, true, true, true, true, true, true, true, true, true, true, true, true, true, true, true, true, true, true, true, true, true, true, true, true, true, true, true, true, true, true, true, false, false, false, false, false, false, false, false, false, false, false] rfl rfl (by kernel_rfl) (fun _ _ _ h => h) (Or.inl ⟨by rfl, ?_⟩) ?_ ?_
 rotate_left
 ·intro w'
  go_simp
  with_reducible rfl
 rotate_left
 ·simp only [Act.put, Kx.sb, Kx.sz, Kx.ss, i64_w, i32_w]
  rfl
 refine take_ (i := 38) (N := some 85) (v := ?_) (a' := ?_) #[true, true, true, true, true, true, true, true, true, true, true, true, true, true, true, true, true, true, true, true, true, true, true, true, true, true, true, true, true, true, true, true, true, true, true, true, true, true, true, false, false, false, false, false, false, false, false, false, false] rfl rfl (by kernel_rfl) (fun _ _ _ h => h) (Or.inl ⟨by rfl, ?_⟩) hHeld ?_ ?_
 rotate_left
 ·rintro w' ⟨s0, s1, s2, s3⟩
  go_simp
  with_reducible rfl
 rotate_left
 ·simp only [Act.put, Kx.sb, Kx.sz, Kx.ss, i64_w, i32_w]
  rfl
 refine one_ (i := 39) (N := some 86) #[true, true, true, true, true, true, true, true, true, true, true, true, true, true, true, true, true, true, true, true, true, true, true, true, true, true, true, true, true, true, true, true, true, true, true, true, true, true, true, true, false, false, false, false, false, false, false, false, false] rfl rfl (by kernel_rfl) (by decide) (fun K hK => ?_)
 refine value_ (w1 := ?_) (v := ?_) (by rfl) rfl ?_ ?_
 rotate_left 2
 ·go_simp
  constructor
  ·rfl
  ·rfl
 obtain ⟨gl, hgl⟩ : ∃ gl, gl = wa33.heap.size := ⟨_, rfl⟩
 have HRl := Aside0.mk (Kx.C_lita .u8 gl wa33 hgl [87, 82, 76, 71, 1, 0, 4, 0] (by decide) 5 (0, 0))
 rw [← hgl]
 clear hgl
 have n_HB := Aside0.mk (below_alloc HB.out (.cells #[.int .u8 87, .int .u8 82, .int .u8 76, .int .u8 71, .int .u8 1, .int .u8 0, .int .u8 4, .int .u8 0] 5))
 have n_HRy := Aside0.mk (Kd.C_alloc HRy.out (.cells #[.int .u8 87, .int .u8 82, .int .u8 76, .int .u8 71, .int .u8 1, .int .u8 0, .int .u8 4, .int .u8 0] 5))
 have n_BK1 := Aside0.mk (blk_alloc BK1.out (.cells #[.int .u8 87, .int .u8 82, .int .u8 76, .int .u8 71, .int .u8 1, .int .u8 0, .int .u8 4, .int .u8 0] 5))
 have n_HR8 := Aside0.mk (Kd.C_alloc HR8.out (.cells #[.int .u8 87, .int .u8 82, .int .u8 76, .int .u8 71, .int .u8 1, .int .u8 0, .int .u8 4, .int .u8 0] 5))
 have n_HR11 := Aside0.mk (Kd.C_alloc HR11.out (.cells #[.int .u8 87, .int .u8 82, .int .u8 76, .int .u8 71, .int .u8 1, .int .u8 0, .int .u8 4, .int .u8 0] 5))
 clear HB HRy BK1 HR8 HR11
 have HB := n_HB
 have HRy := n_HRy
 have BK1 := n_BK1
 have HR8 := n_HR8
 have HR11 := n_HR11
 clear n_HB n_HRy n_BK1 n_HR8 n_HR11
 refine hK.out _ _ ⟨((blk_cell BK1.out 0).trans rfl), ((blk_cell BK1.out 1).trans rfl), ((blk_cell BK1.out 2).trans rfl), (Kd.C_string (P := Try.prog) (A := Aq) (c := cq) Try.underlying23 Try.underlying5 Try.underlying9 HR8.out)⟩ (fun hHeld => ?_)
 clear hK K
 refine norm_ (a' := ?_) ?_ ?_
 rotate_left
 ·show Act.put _ (some 86) _ = _
  simp only [Act.put, Kx.sb, Kx.sz, Kx.ss, i64_w, i32_w]
  rfl
 refine stronger_ (fun w' => (convert 23 9 (.slice (some ⟨gl, 0, none⟩) 8 8)).run Try.prog w' = .ok (.string (strOfNums [87, 82, 76, 71, 1, 0, 4, 0])) w') hHeld ((Kd.C_string (P := Try.prog) (A := some ⟨gl, 0, none⟩) (c := 8) Try.underlying23 Try.underlying5 Try.underlying9 HRl.out)) (fun hHeld => ?_)
 refine take_ (i := 40) (N := some 87) (v := ?_) (a' := ?_) #[true, true, true, true, true, true, true, true, true, true, true, true, true, true, true, true, true, true, true, true, true, true, true, true, true, true, true, true, true, true, true, true, true, true, true, true, true, true, true, true, true, false, false, false, false, false, false, false, false] rfl rfl (by kernel_rfl) (fun _ _ _ h => h) (Or.inl ⟨by rfl, ?_⟩) hHeld ?_ ?_
 rotate_left
 ·rintro w' ⟨⟨s0, s1, s2, s3⟩, s4⟩
  go_simp
  with_reducible rfl
 rotate_left
 ·simp only [Act.put, Kx.sb, Kx.sz, Kx.ss, i64_w, i32_w]
  rfl
 refine pure_ (i := 41) (N := some 88) (v := ?_) (a' := ?_) #[true, true, true, true, true, true, true, true, true, true, true, true, true, true, true, true, true, true, true, true, true, true, true, true, true, true, true, true, true, true, true, true, true, true, true, true, true, true, true, true, true, true, false, false, false, false, false, false, false] rfl rfl (by kernel_rfl) (fun _ _ _ h => h) (Or.inl ⟨by rfl, ?_⟩) ?_ ?_
 rotate_left
 ·intro w'
  go_simp
  with_reducible rfl
 rotate_left
 ·simp only [Act.put, Kx.sb, Kx.sz, Kx.ss, i64_w, i32_w]
  rfl
 refine pure_ (i := 42) (N := some 89) (v := ?_) (a' := ?_) #[true, true, true, true, true, true, true, true, true, true, true, true, true, true, true, true, true, true, true, true, true, true, true, true, true, true, true, true, true, true, true, true, true, true, true, true, true, true, true, true, true, true, true, false, false, false, false, false, false] rfl rfl (by kernel_rfl) (fun _ _ _ h => h) (Or.inl ⟨by rfl, ?_⟩) ?_ ?_
 rotate_left
 ·intro w'
  go_simp
  with_reducible rfl
 rotate_left
 ·simp only [Act.put, Kx.sb, Kx.sz, Kx.ss, i64_w, i32_w]
  rfl
 refine pure_ (i := 43) (N := some 90) (v := ?_) (a' := ?_) #[true, true, true, true, true, true, true, true, true, true, true, true, true, true, true, true, true, true, true, true, true, true, true, true, true, true, true, true, true, true, true, true, true, true, true, true, true, true, true, true, true, true, true, true, false, false, false, false, false] rfl rfl (by kernel_rfl) (fun _ _ _ h => h) (Or.inl ⟨by rfl, ?_⟩) ?_ ?_
 rotate_left
 ·intro w'
  go_simp
  with_reducible rfl
 rotate_left
 ·simp only [Act.put, Kx.sb, Kx.sz, Kx.ss, i64_w, i32_w]
  rfl
 refine take_ (i := 44) (N := some 91) (v := ?_) (a' := ?_) #[true, true, true, true, true, true, true, true, true, true, true, true, true, true, true, true, true, true, true, true, true, true, true, true, true, true, true, true, true, true, true, true, true, true, true, true, true, true, true, true, true, true, true, true, true, false, false, false, false] rfl rfl (by kernel_rfl) (fun _ _ _ h => h) (Or.inl ⟨by rfl, ?_⟩) hHeld ?_ ?_
 rotate_left
 ·rintro w' ⟨⟨s0, s1, s2, s3⟩, s4⟩
  go_simp
  with_reducible rfl
 rotate_left
 ·simp only [Act.put, Kx.sb, Kx.sz, Kx.ss, i64_w, i32_w]
  rfl
 refine one_ (i := 45) (N := some 92) #[true, true, true, true, true, true, true, true, true, true, true, true, true, true, true, true, true, true, true, true, true, true, true, true, true, true, true, true, true, true, true, true, true, true, true, true, true, true, true, true, true, true, true, true, true, true, false, false, false] rfl rfl (by kernel_rfl) (by decide) (fun K hK => ?_)
 refine goes_ Try.func24 (by kernel_rfl) rfl #[.agg #[.int .i64 1, .int .i64 9, .slice (some ⟨gy, 0, none⟩) 4 4]] (by rfl) rfl rfl (by simp only [List.map_toArray, List.map_cons, List.map_nil]; rfl) ?_
 refine (record_Check.calls 1 9 _ _ [98, 111, 100, 121] _ _ HRy.out (Nat.le_refl _) aw05_c).mono ?_
 rintro e wa45 ⟨rfl, hb⟩
 refine ⟨_, rfl, ?_⟩
 have n_HB := Aside0.mk (below_step HB.out hb)
 have n_HRy := Aside0.mk (Kd.C_below HRy.out hb)
 have n_BK1 := Aside0.mk (blk_below BK1.out hb)
 have n_HR8 := Aside0.mk (Kd.C_below HR8.out hb)
 have n_HR11 := Aside0.mk (Kd.C_below HR11.out hb)
 have n_HRl := Aside0.mk (Kd.C_below HRl.out hb)
 clear HB HRy BK1 HR8 HR11 HRl
 have HB := n_HB
 have HRy := n_HRy
 have BK1 := n_BK1
 have HR8 := n_HR8
 have HR11 := n_HR11
 have HRl := n_HRl
 clear n_HB n_HRy n_BK1 n_HR8 n_HR11 n_HRl
 clear hb
 refine hK.out _ _ ⟨⟨((blk_cell BK1.out 0).trans rfl), ((blk_cell BK1.out 1).trans rfl), ((blk_cell BK1.out 2).trans rfl), (Kd.C_string (P := Try.prog) (A := Aq) (c := cq) Try.underlying23 Try.underlying5 Try.underlying9 HR8.out)⟩, ((Kd.C_string (P := Try.prog) (A := some ⟨gl, 0, none⟩) (c := 8) Try.underlying23 Try.underlying5 Try.underlying9 HRl.out))⟩ (fun hHeld => ?_)
 clear hK K
 refine norm_ (a' := ?_) ?_ ?_
 rotate_left
 ·show Act.put _ (some 92) _ = _
  simp only [Act.put, Kx.sb, Kx.sz, Kx.ss, i64_w, i32_w]
  rfl
 refine pure_ (i := 46) (N := some 93) (v := ?_) (a' := ?_) #[true, true, true, true, true, true, true, true, true, true, true, true, true, true, true, true, true, true, true, true, true, true, true, true, true, true, true, true, true, true, true, true, true, true, true, true, true, true, true, true, true, true, true, true, true, true, true, false, false] rfl rfl (by kernel_rfl) (fun _ _ _ h => h) (Or.inl ⟨by rfl, ?_⟩) ?_ ?_
 rotate_left
 ·intro w'
  go_simp
  with_reducible rfl
 rotate_left
 ·simp only [Act.put, Kx.sb, Kx.sz, Kx.ss, i64_w, i32_w]
  rfl
 refine pure_ (i := 47) (N := some 94) (v := ?_) (a' := ?_) #[true, true, true, true, true, true, true, true, true, true, true, true, true, true, true, true, true, true, true, true, true, true, true, true, true, true, true, true, true, true, true, true, true, true, true, true, true, true, true, true, true, true, true, true, true, true, true, true, false] rfl rfl (by kernel_rfl) (fun _ _ _ h => h) (Or.inl ⟨by rfl, ?_⟩) ?_ ?_
 rotate_left
 ·intro w'
  go_simp
  with_reducible rfl
 rotate_left
 ·simp only [Act.put, Kx.sb, Kx.sz, Kx.ss, i64_w, i32_w]
  rfl
 refine pure_ (i := 48) (N := some 0) (v := ?_) (a' := ?_) #[true, true, true, true, true, true, true, true, true, true, true, true, true, true, true, true, true, true, true, true, true, true, true, true, true, true, true, true, true, true, true, true, true, true, true, true, true, true, true, true, true, true, true, true, true, true, true, true, true] rfl rfl (by kernel_rfl) (fun _ _ _ h => h) (Or.inl ⟨by rfl, ?_⟩) ?_ ?_
 rotate_left
 ·intro w'
  go_simp
  with_reducible rfl
 rotate_left
 ·simp only [Act.put, Kx.sb, Kx.sz, Kx.ss, i64_w, i32_w]
  rfl
 refine done_ (by kernel_rfl) ?_
 go_wp2
 go_ret
 exact ⟨rfl, HB.out⟩
/-! ### waggonerref05_Check: function 25 -/
def waggonerref05_Check.f (a0_0 : Int) (a0_1 : Int) (l0_2 : List Int) : Option (Int) := if a0_0 < 1 then (some 50) else (if a0_0 > 5 then (some 50) else (if a0_1 < 0 then (some 50) else (if a0_1 ≥ 4611686018427387904 then (some 50) else (if (l0_2.length : Int) > 4096 then (some 50) else (some 0)))))
set_option maxHeartbeats 8000000 in
set_option maxRecDepth 100000 in
theorem waggonerref05_Check.calls (a0_0 : Int) (a0_1 : Int) (A0_2 : Option Addr) (c0_2 : Nat) (l0_2 : List Int) (r : Int) (w : World) (hr0_2 : Kd.C (Kd.int .u8) w A0_2 l0_2.length l0_2) (hc0_2 : l0_2.length ≤ c0_2) (h : waggonerref05_Check.f a0_0 a0_1 l0_2 = some r) :
  Calls Try.prog 25 #[.agg #[.int .i64 a0_0, .int .i64 a0_1, .slice A0_2 l0_2.length c0_2]] w fun e w' => e = .returned (.int .i64 r) ∧ Below w.heap.size w w' := by
 have hu25 := Try.underlying25
 have HR0_2 := Aside0.mk hr0_2
 have HC0_2 := Aside0.mk hc0_2
 clear hr0_2 hc0_2
 have HB := Aside0.mk (Below.refl w.heap.size w)
 have H : (if a0_0 < 1 then (some 50) else (if a0_0 > 5 then (some 50) else (if a0_1 < 0 then (some 50) else (if a0_1 ≥ 4611686018427387904 then (some 50) else (if (l0_2.length : Int) > 4096 then (some 50) else (some 0)))))) = some r := h
 clear h
 by_cases c2 : a0_0 < 1
 ·rw [if_pos c2] at H
  have c2b0 : decide (a0_0 < 1) = true := decide_eq_true c2
  clear c2
  obtain rfl := Option.some.inj H
  go_enter Try.func25, Try.ntmps25
  go_wp2_with (first | ((with_reducible refine gate_dst (N := 1) rfl ?_); (try (refine gate_guard (by rfl) ?_; dsimp only)); refine box_event ?hg (N := 1) ?hd (cs := #[.int .i64 a0_0, .int .i64 a0_1, .slice A0_2 l0_2.length c0_2]) (t := 25) ?hr ?_; (case hd => rfl); (case hg => rfl); (case hr => first | (go_simp; done) | (go_simp; rfl)); intro gb165 hg w3 hbox hb; have n0_ := Aside0.mk (below_step (by repeat (first | (with_reducible first | exact HB.out | apply below_alloc | apply pw_below_drewN | apply below_drew1) | exact HB.out)) hb); have n1_ := Aside0.mk (hbox); have n2_ := Aside0.mk ((by rw [hg]; exact (below_size (by repeat (first | (with_reducible first | exact HB.out | apply below_alloc | apply pw_below_drewN | apply below_drew1) | exact HB.out))) : w.heap.size ≤ gb165)); have n3_ := Aside0.mk ((by rw [hg]; exact (below_size (by repeat (first | (with_reducible first | exact HB.out | apply below_alloc | apply pw_below_drewN | apply below_drew1) | exact HB.out))) : w.heap.size ≤ gb165)); clear HB; have HB := n0_; have BK165 := n1_; have GW165 := n2_; have GE165 := n3_; clear n0_ n1_ n2_ n3_; clear hb hbox hg; have hcz4_0 : w3.cell? ⟨gb165, 0, none⟩ = some (.int .i64 a0_0) := (blk_cell BK165.out 0).trans rfl; have hcz4_1 : w3.cell? ⟨gb165, 1, none⟩ = some (.int .i64 a0_1) := (blk_cell BK165.out 1).trans rfl; have hcz4_2 : w3.cell? ⟨gb165, 2, none⟩ = some (.slice A0_2 l0_2.length c0_2) := (blk_cell BK165.out 2).trans rfl; have hfz4_0 := blk_frozen BK165.out 0; have hfz4_1 := blk_frozen BK165.out 1; have hfz4_2 := blk_frozen BK165.out 2))
  go_ret
  exact ⟨by first | rfl | (simp [errW_none, errW_some] <;> rfl) | (simp [*, errW_none, errW_some] <;> rfl), by repeat (first | (with_reducible first | exact HB.out | apply below_alloc | apply pw_below_drewN | apply below_drew1 | refine below_set ?_ GE165.out) | exact HB.out)⟩
 ·rw [if_neg c2] at H
  have c2b0 : decide (a0_0 < 1) = false := decide_eq_false c2
  clear c2
  by_cases c5 : a0_0 > 5
  ·rw [if_pos c5] at H
   have c5b0 : decide (5 < a0_0) = true := decide_eq_true c5
   clear c5
   obtain rfl := Option.some.inj H
   go_enter Try.func25, Try.ntmps25
   go_wp2_with (first | ((with_reducible refine gate_dst (N := 1) rfl ?_); (try (refine gate_guard (by rfl) ?_; dsimp only)); refine box_event ?hg (N := 1) ?hd (cs := #[.int .i64 a0_0, .int .i64 a0_1, .slice A0_2 l0_2.length c0_2]) (t := 25) ?hr ?_; (case hd => rfl); (case hg => rfl); (case hr => first | (go_simp; done) | (go_simp; rfl)); intro gb165 hg w6 hbox hb; have n0_ := Aside0.mk (below_step (by repeat (first | (with_reducible first | exact HB.out | apply below_alloc | apply pw_below_drewN | apply below_drew1) | exact HB.out)) hb); have n1_ := Aside0.mk (hbox); have n2_ := Aside0.mk ((by rw [hg]; exact (below_size (by repeat (first | (with_reducible first | exact HB.out | apply below_alloc | apply pw_below_drewN | apply below_drew1) | exact HB.out))) : w.heap.size ≤ gb165)); have n3_ := Aside0.mk ((by rw [hg]; exact (below_size (by repeat (first | (with_reducible first | exact HB.out | apply below_alloc | apply pw_below_drewN | apply below_drew1) | exact HB.out))) : w.heap.size ≤ gb165)); clear HB; have HB := n0_; have BK165 := n1_; have GW165 := n2_; have GE165 := n3_; clear n0_ n1_ n2_ n3_; clear hb hbox hg; have hcz7_0 : w6.cell? ⟨gb165, 0, none⟩ = some (.int .i64 a0_0) := (blk_cell BK165.out 0).trans rfl; have hcz7_1 : w6.cell? ⟨gb165, 1, none⟩ = some (.int .i64 a0_1) := (blk_cell BK165.out 1).trans rfl; have hcz7_2 : w6.cell? ⟨gb165, 2, none⟩ = some (.slice A0_2 l0_2.length c0_2) := (blk_cell BK165.out 2).trans rfl; have hfz7_0 := blk_frozen BK165.out 0; have hfz7_1 := blk_frozen BK165.out 1; have hfz7_2 := blk_frozen BK165.out 2))
   go_ret
   exact ⟨by first | rfl | (simp [errW_none, errW_some] <;> rfl) | (simp [*, errW_none, errW_some] <;> rfl), by repeat (first | (with_reducible first | exact HB.out | apply below_alloc | apply pw_below_drewN | apply below_drew1 | refine below_set ?_ GE165.out) | exact HB.out)⟩
  ·rw [if_neg c5] at H
   have c5b0 : decide (5 < a0_0) = false := decide_eq_false c5
   clear c5
   by_cases c8 : a0_1 < 0
   ·rw [if_pos c8] at H
    have c8b0 : decide (a0_1 < 0) = true := decide_eq_true c8
    clear c8
    obtain rfl := Option.some.inj H
    go_enter Try.func25, Try.ntmps25
    go_wp2_with (first | ((with_reducible refine gate_dst (N := 1) rfl ?_); (try (refine gate_guard (by rfl) ?_; dsimp only)); refine box_event ?hg (N := 1) ?hd (cs := #[.int .i64 a0_0, .int .i64 a0_1, .slice A0_2 l0_2.length c0_2]) (t := 25) ?hr ?_; (case hd => rfl); (case hg => rfl); (case hr => first | (go_simp; done) | (go_simp; rfl)); intro gb165 hg w9 hbox hb; have n0_ := Aside0.mk (below_step (by repeat (first | (with_reducible first | exact HB.out | apply below_alloc | apply pw_below_drewN | apply below_drew1) | exact HB.out)) hb); have n1_ := Aside0.mk (hbox); have n2_ := Aside0.mk ((by rw [hg]; exact (below_size (by repeat (first | (with_reducible first | exact HB.out | apply below_alloc | apply pw_below_drewN | apply below_drew1) | exact HB.out))) : w.heap.size ≤ gb165)); have n3_ := Aside0.mk ((by rw [hg]; exact (below_size (by repeat (first | (with_reducible first | exact HB.out | apply below_alloc | apply pw_below_drewN | apply below_drew1) | exact HB.out))) : w.heap.size ≤ gb165)); clear HB; have HB := n0_; have BK165 := n1_; have GW165 := n2_; have GE165 := n3_; clear n0_ n1_ n2_ n3_; clear hb hbox hg; have hcz10_0 : w9.cell? ⟨gb165, 0, none⟩ = some (.int .i64 a0_0) := (blk_cell BK165.out 0).trans rfl; have hcz10_1 : w9.cell? ⟨gb165, 1, none⟩ = some (.int .i64 a0_1) := (blk_cell BK165.out 1).trans rfl; have hcz10_2 : w9.cell? ⟨gb165, 2, none⟩ = some (.slice A0_2 l0_2.length c0_2) := (blk_cell BK165.out 2).trans rfl; have hfz10_0 := blk_frozen BK165.out 0; have hfz10_1 := blk_frozen BK165.out 1; have hfz10_2 := blk_frozen BK165.out 2))
    go_ret
    exact ⟨by first | rfl | (simp [errW_none, errW_some] <;> rfl) | (simp [*, errW_none, errW_some] <;> rfl), by repeat (first | (with_reducible first | exact HB.out | apply below_alloc | apply pw_below_drewN | apply below_drew1 | refine below_set ?_ GE165.out) | exact HB.out)⟩
   ·rw [if_neg c8] at H
    have c8b0 : decide (a0_1 < 0) = false := decide_eq_false c8
    clear c8
    by_cases c11 : a0_1 ≥ 4611686018427387904
    ·rw [if_pos c11] at H
     have c11b0 : decide (4611686018427387904 ≤ a0_1) = true := decide_eq_true c11
     clear c11
     obtain rfl := Option.some.inj H
     go_enter Try.func25, Try.ntmps25
     go_wp2_with (first | ((with_reducible refine gate_dst (N := 1) rfl ?_); (try (refine gate_guard (by rfl) ?_; dsimp only)); refine box_event ?hg (N := 1) ?hd (cs := #[.int .i64 a0_0, .int .i64 a0_1, .slice A0_2 l0_2.length c0_2]) (t := 25) ?hr ?_; (case hd => rfl); (case hg => rfl); (case hr => first | (go_simp; done) | (go_simp; rfl)); intro gb165 hg w12 hbox hb; have n0_ := Aside0.mk (below_step (by repeat (first | (with_reducible first | exact HB.out | apply below_alloc | apply pw_below_drewN | apply below_drew1) | exact HB.out)) hb); have n1_ := Aside0.mk (hbox); have n2_ := Aside0.mk ((by rw [hg]; exact (below_size (by repeat (first | (with_reducible first | exact HB.out | apply below_alloc | apply pw_below_drewN | apply below_drew1) | exact HB.out))) : w.heap.size ≤ gb165)); have n3_ := Aside0.mk ((by rw [hg]; exact (below_size (by repeat (first | (with_reducible first | exact HB.out | apply below_alloc | apply pw_below_drewN | apply below_drew1) | exact HB.out))) : w.heap.size ≤ gb165)); clear HB; have HB := n0_; have BK165 := n1_; have GW165 := n2_; have GE165 := n3_; clear n0_ n1_ n2_ n3_; clear hb hbox hg; have hcz13_0 : w12.cell? ⟨gb165, 0, none⟩ = some (.int .i64 a0_0) := (blk_cell BK165.out 0).trans rfl; have hcz13_1 : w12.cell? ⟨gb165, 1, none⟩ = some (.int .i64 a0_1) := (blk_cell BK165.out 1).trans rfl; have hcz13_2 : w12.cell? ⟨gb165, 2, none⟩ = some (.slice A0_2 l0_2.length c0_2) := (blk_cell BK165.out 2).trans rfl; have hfz13_0 := blk_frozen BK165.out 0; have hfz13_1 := blk_frozen BK165.out 1; have hfz13_2 := blk_frozen BK165.out 2))
     go_ret
     exact ⟨by first | rfl | (simp [errW_none, errW_some] <;> rfl) | (simp [*, errW_none, errW_some] <;> rfl), by repeat (first | (with_reducible first | exact HB.out | apply below_alloc | apply pw_below_drewN | apply below_drew1 | refine below_set ?_ GE165.out) | exact HB.out)⟩
    ·rw [if_neg c11] at H
     have c11b0 : decide (4611686018427387904 ≤ a0_1) = false := decide_eq_false c11
     clear c11
     by_cases c14 : (l0_2.length : Int) > 4096
     ·rw [if_pos c14] at H
      have c14b0 : decide (4096 < (l0_2.length : Int)) = true := decide_eq_true c14
      have c14b1 : decide (4096 < l0_2.length) = true := decide_eq_true (by omega)
      clear c14
      obtain rfl := Option.some.inj H
      go_enter Try.func25, Try.ntmps25
      go_wp2_with (first | ((with_reducible refine gate_dst (N := 1) rfl ?_); (try (refine gate_guard (by rfl) ?_; dsimp only)); refine box_event ?hg (N := 1) ?hd (cs := #[.int .i64 a0_0, .int .i64 a0_1, .slice A0_2 l0_2.length c0_2]) (t := 25) ?hr ?_; (case hd => rfl); (case hg => rfl); (case hr => first | (go_simp; done) | (go_simp; rfl)); intro gb165 hg w15 hbox hb; have n0_ := Aside0.mk (below_step (by repeat (first | (with_reducible first | exact HB.out | apply below_alloc | apply pw_below_drewN | apply below_drew1) | exact HB.out)) hb); have n1_ := Aside0.mk (hbox); have n2_ := Aside0.mk ((by rw [hg]; exact (below_size (by repeat (first | (with_reducible first | exact HB.out | apply below_alloc | apply pw_below_drewN | apply below_drew1) | exact HB.out))) : w.heap.size ≤ gb165)); have n3_ := Aside0.mk ((by rw [hg]; exact (below_size (by repeat (first | (with_reducible first | exact HB.out | apply below_alloc | apply pw_below_drewN | apply below_drew1) | exact HB.out))) : w.heap.size ≤ gb165)); clear HB; have HB := n0_; have BK165 := n1_; have GW165 := n2_; have GE165 := n3_; clear n0_ n1_ n2_ n3_; clear hb hbox hg; have hcz16_0 : w15.cell? ⟨gb165, 0, none⟩ = some (.int .i64 a0_0) := (blk_cell BK165.out 0).trans rfl; have hcz16_1 : w15.cell? ⟨gb165, 1, none⟩ = some (.int .i64 a0_1) := (blk_cell BK165.out 1).trans rfl; have hcz16_2 : w15.cell? ⟨gb165, 2, none⟩ = some (.slice A0_2 l0_2.length c0_2) := (blk_cell BK165.out 2).trans rfl; have hfz16_0 := blk_frozen BK165.out 0; have hfz16_1 := blk_frozen BK165.out 1; have hfz16_2 := blk_frozen BK165.out 2))
      go_ret
      exact ⟨by first | rfl | (simp [errW_none, errW_some] <;> rfl) | (simp [*, errW_none, errW_some] <;> rfl), by repeat (first | (with_reducible first | exact HB.out | apply below_alloc | apply pw_below_drewN | apply below_drew1 | refine below_set ?_ GE165.out) | exact HB.out)⟩
     ·rw [if_neg c14] at H
      have c14b0 : decide (4096 < (l0_2.length : Int)) = false := decide_eq_false c14
      have c14b1 : decide (4096 < l0_2.length) = false := decide_eq_false (by omega)
      clear c14
      obtain rfl := Option.some.inj H
      go_enter Try.func25, Try.ntmps25
      go_wp2_with (first | ((with_reducible refine gate_dst (N := 1) rfl ?_); (try (refine gate_guard (by rfl) ?_; dsimp only)); refine box_event ?hg (N := 1) ?hd (cs := #[.int .i64 a0_0, .int .i64 a0_1, .slice A0_2 l0_2.length c0_2]) (t := 25) ?hr ?_; (case hd => rfl); (case hg => rfl); (case hr => first | (go_simp; done) | (go_simp; rfl)); intro gb165 hg w17 hbox hb; have n0_ := Aside0.mk (below_step (by repeat (first | (with_reducible first | exact HB.out | apply below_alloc | apply pw_below_drewN | apply below_drew1) | exact HB.out)) hb); have n1_ := Aside0.mk (hbox); have n2_ := Aside0.mk ((by rw [hg]; exact (below_size (by repeat (first | (with_reducible first | exact HB.out | apply below_alloc | apply pw_below_drewN | apply below_drew1) | exact HB.out))) : w.heap.size ≤ gb165)); have n3_ := Aside0.mk ((by rw [hg]; exact (below_size (by repeat (first | (with_reducible first | exact HB.out | apply below_alloc | apply pw_below_drewN | apply below_drew1) | exact HB.out))) : w.heap.size ≤ gb165)); clear HB; have HB := n0_; have BK165 := n1_; have GW165 := n2_; have GE165 := n3_; clear n0_ n1_ n2_ n3_; clear hb hbox hg; have hcz18_0 : w17.cell? ⟨gb165, 0, none⟩ = some (.int .i64 a0_0) := (blk_cell BK165.out 0).trans rfl; have hcz18_1 : w17.cell? ⟨gb165, 1, none⟩ = some (.int .i64 a0_1) := (blk_cell BK165.out 1).trans rfl; have hcz18_2 : w17.cell? ⟨gb165, 2, none⟩ = some (.slice A0_2 l0_2.length c0_2) := (blk_cell BK165.out 2).trans rfl; have hfz18_0 := blk_frozen BK165.out 0; have hfz18_1 := blk_frozen BK165.out 1; have hfz18_2 := blk_frozen BK165.out 2))
      go_ret
      exact ⟨by first | rfl | (simp [errW_none, errW_some] <;> rfl) | (simp [*, errW_none, errW_some] <;> rfl), by repeat (first | (with_reducible first | exact HB.out | apply below_alloc | apply pw_below_drewN | apply below_drew1 | refine below_set ?_ GE165.out) | exact HB.out)⟩
/-! ### waggonerref01_may: function 75 -/
def waggonerref01_may.f (a0 : Int) : Option (Bool) := if a0 = 1 then (some true) else (if a0 = 2 then (some true) else (if a0 = 4 then (some true) else (some (a0 == 8))))
set_option maxHeartbeats 8000000 in
set_option maxRecDepth 100000 in
theorem waggonerref01_may.calls (a0 : Int) (r : Bool) (w : World) (h : waggonerref01_may.f a0 = some r) :
  Calls Try.prog 75 #[.int .i64 a0] w fun e w' => e = .returned (.bool r) ∧ Drawn0 w w' := by
 have H : (if a0 = 1 then (some true) else (if a0 = 2 then (some true) else (if a0 = 4 then (some true) else (some (a0 == 8))))) = some r := h
 clear h
 by_cases c2 : a0 = 1
 ·rw [if_pos c2] at H
  have c2b0 : (a0 == 1) = true := beq_iff_eq.mpr c2
  have c2b1 : (a0 != 1) = false := bne_eq_false_iff_eq.mpr c2
  clear c2
  obtain rfl := Option.some.inj H
  go_enter Try.func75, Try.ntmps75
  go_wp2
  go_ret
  exact ⟨by first | rfl | (simp; done) | (simp [*]; done), by repeat (first | exact Drawn0.refl _ | apply Drawn0.step)⟩
 ·rw [if_neg c2] at H
  have c2b0 : (a0 == 1) = false := beq_eq_false_iff_ne.mpr c2
  have c2b1 : (a0 != 1) = true := bne_iff_ne.mpr c2
  by_cases c3 : a0 = 2
  ·rw [if_pos c3] at H
   have c3b0 : (a0 == 2) = true := beq_iff_eq.mpr c3
   have c3b1 : (a0 != 2) = false := bne_eq_false_iff_eq.mpr c3
   clear c3
   obtain rfl := Option.some.inj H
   go_enter Try.func75, Try.ntmps75
   go_wp2
   go_ret
   exact ⟨by first | rfl | (simp; done) | (simp [*]; done), by repeat (first | exact Drawn0.refl _ | apply Drawn0.step)⟩
  ·rw [if_neg c3] at H
   have c3b0 : (a0 == 2) = false := beq_eq_false_iff_ne.mpr c3
   have c3b1 : (a0 != 2) = true := bne_iff_ne.mpr c3
   by_cases c4 : a0 = 4
   ·rw [if_pos c4] at H
    have c4b0 : (a0 == 4) = true := beq_iff_eq.mpr c4
    have c4b1 : (a0 != 4) = false := bne_eq_false_iff_eq.mpr c4
    clear c4
    obtain rfl := Option.some.inj H
    go_enter Try.func75, Try.ntmps75
    go_wp2
    go_ret
    exact ⟨by first | rfl | (simp; done) | (simp [*]; done), by repeat (first | exact Drawn0.refl _ | apply Drawn0.step)⟩
   ·rw [if_neg c4] at H
    have c4b0 : (a0 == 4) = false := beq_eq_false_iff_ne.mpr c4
    have c4b1 : (a0 != 4) = true := bne_iff_ne.mpr c4
    obtain rfl := Option.some.inj H
    go_enter Try.func75, Try.ntmps75
    go_wp2
    go_ret
    exact ⟨by first | rfl | (simp; done) | (simp [*]; done), by repeat (first | exact Drawn0.refl _ | apply Drawn0.step)⟩
/-! ### waggonerref01_Put_p: function 66 -/
mutual
def waggonerref01_Put_p.j0 : Nat → List Int → Int → Int → Bool → Option (List Int × Int)
 | 0, _, _, _, _ => none
 | k + 1, x0, x1, x2, x26 => if x26 = true then (some (([] : List Int), 10)) else ((some (([] : List Int) : List Int)).bind fun y167 => (if y167.length + x0.length < 140737488355328 then (waggonerref01_Put_p.l0 k x1 x2 (y167 ++ x0) 0) else (none)))
def waggonerref01_Put_p.l0 : Nat → Int → Int → List Int → Int → Option (List Int × Int)
 | 0, _, _, _, _ => none
 | k + 1, x1, x2, x9, x10 => if x10 < x2 then (if 0 ≤ (IntKind.u64.wrap (wrap64 (8 * x10))) then (if x9.length < 140737488355328 then (waggonerref01_Put_p.l0 k x1 x2 (x9 ++ [(shr .u64 x1 (IntKind.u64.wrap (wrap64 (8 * x10)))) % 256]) (wrap64 (x10 + 1))) else (none)) else (none)) else (some (x9, 0))
end
def waggonerref01_Put_p.f (k : Nat) (l0 : List Int) (a1 : Int) (a2 : Int) : Option (List Int × Int) := (waggonerref01_may.f a2).bind fun t166 => (if t166 = true then (if a2 < 8 then (if 0 ≤ (IntKind.u64.wrap (wrap64 (8 * a2))) then (waggonerref01_Put_p.j0 k l0 a1 a2 ((shr .u64 a1 (IntKind.u64.wrap (wrap64 (8 * a2)))) != 0)) else (none)) else (waggonerref01_Put_p.j0 k l0 a1 a2 false)) else (waggonerref01_Put_p.j0 k l0 a1 a2 true))
theorem waggonerref01_Put_p.mono_l : ∀ k, (∀ y0 y1 y2 y3, LeO (waggonerref01_Put_p.j0 k y0 y1 y2 y3) (waggonerref01_Put_p.j0 (k + 1) y0 y1 y2 y3)) ∧ (∀ y0 y1 y2 y3, LeO (waggonerref01_Put_p.l0 k y0 y1 y2 y3) (waggonerref01_Put_p.l0 (k + 1) y0 y1 y2 y3))
 | 0 => ⟨fun _ _ _ _ r h => by simp [waggonerref01_Put_p.j0] at h, fun _ _ _ _ r h => by simp [waggonerref01_Put_p.l0] at h⟩
 | k + 1 => by
  obtain ⟨ih0, ih1⟩ := waggonerref01_Put_p.mono_l k
  refine ⟨?_, ?_⟩
  ·intro y0 y1 y2 y3
   unfold waggonerref01_Put_p.j0
   repeat' first
   | (with_reducible exact ih0 _ _ _ _)
   | (with_reducible exact ih1 _ _ _ _)
   | (with_reducible exact LeO.refl _)
   | (with_reducible exact LeO.none _)
   | (with_reducible refine LeO.ite ?_ ?_)
   | (with_reducible refine LeO.bind ?_ (fun _ => ?_))
   | exact ih0 _ _ _ _
   | exact ih1 _ _ _ _
   | exact LeO.none _
   | refine LeO.ite ?_ ?_
   | refine LeO.bind ?_ (fun _ => ?_)
  ·intro y0 y1 y2 y3
   unfold waggonerref01_Put_p.l0
   repeat' first
   | (with_reducible exact ih0 _ _ _ _)
   | (with_reducible exact ih1 _ _ _ _)
   | (with_reducible exact LeO.refl _)
   | (with_reducible exact LeO.none _)
   | (with_reducible refine LeO.ite ?_ ?_)
   | (with_reducible refine LeO.bind ?_ (fun _ => ?_))
   | exact ih0 _ _ _ _
   | exact ih1 _ _ _ _
   | exact LeO.none _
   | refine LeO.ite ?_ ?_
   | refine LeO.bind ?_ (fun _ => ?_)
theorem waggonerref01_Put_p.mono : ∀ a0 a1 a2 k, LeO (waggonerref01_Put_p.f k a0 a1 a2) (waggonerref01_Put_p.f (k + 1) a0 a1 a2) := by
 intro a0 a1 a2 k
 obtain ⟨ih0, ih1⟩ := waggonerref01_Put_p.mono_l k
 unfold waggonerref01_Put_p.f
 repeat' first
   | (with_reducible exact ih0 _ _ _ _)
   | (with_reducible exact ih1 _ _ _ _)
   | (with_reducible exact LeO.refl _)
   | (with_reducible exact LeO.none _)
   | (with_reducible refine LeO.ite ?_ ?_)
   | (with_reducible refine LeO.bind ?_ (fun _ => ?_))
   | exact ih0 _ _ _ _
   | exact ih1 _ _ _ _
   | exact LeO.none _
   | refine LeO.ite ?_ ?_
   | refine LeO.bind ?_ (fun _ => ?_)
set_option maxHeartbeats 8000000 in
set_option maxRecDepth 100000 in
theorem waggonerref01_Put_p.calls (k : Nat) (A0 : Option Addr) (c0 : Nat) (l0 : List Int) (a1 : Int) (a2 : Int) (r1 : List Int) (r2 : Int) (w : World) (hr0 : Kd.C (Kd.int .u8) w A0 l0.length l0) (hc0 : l0.length ≤ c0) (h : waggonerref01_Put_p.f k l0 a1 a2 = some (r1, r2)) :
  Calls Try.prog 66 #[.slice A0 l0.length c0, .int .u64 a1, .int .i64 a2] w fun e w' => ∃ v0_ : Value, e = .returned (.tuple #[v0_, .int .i64 r2]) ∧ Kd.R (Kd.int .u8) 5 w' w.heap.size (fun _ => True) v0_ r1 ∧ Below w.heap.size w w' := by
 have HR0 := Aside0.mk hr0
 have HC0 := Aside0.mk hc0
 clear hr0 hc0
 have HB := Aside0.mk (Below.refl w.heap.size w)
 have H : ((waggonerref01_may.f a2).bind fun t166 => (if t166 = true then (if a2 < 8 then (if 0 ≤ (IntKind.u64.wrap (wrap64 (8 * a2))) then (waggonerref01_Put_p.j0 k l0 a1 a2 ((shr .u64 a1 (IntKind.u64.wrap (wrap64 (8 * a2)))) != 0)) else (none)) else (waggonerref01_Put_p.j0 k l0 a1 a2 false)) else (waggonerref01_Put_p.j0 k l0 a1 a2 true))) = some (r1, r2) := h
 clear h
 replace H := Option.bind_eq_some_iff.mp H
 obtain ⟨t166, A40, H⟩ := H
 replace H : (if t166 = true then (if a2 < 8 then (if 0 ≤ (IntKind.u64.wrap (wrap64 (8 * a2))) then (waggonerref01_Put_p.j0 k l0 a1 a2 ((shr .u64 a1 (IntKind.u64.wrap (wrap64 (8 * a2)))) != 0)) else (none)) else (waggonerref01_Put_p.j0 k l0 a1 a2 false)) else (waggonerref01_Put_p.j0 k l0 a1 a2 true)) = some (r1, r2) := H
 have A4 := Aside0.mk A40
 clear A40
 have HC5 := Aside0.mk H
 clear H
 go_enter Try.func66, Try.ntmps66
 go_upto_region 2 with (first | ((with_reducible refine gate_callee (f := 75) rfl ?_); refine goesL_ (some 12) rfl rfl Try.func75 (by kernel_rfl) rfl #[.int .i64 a2] rfl (by (try simp only [List.map_toArray, List.map_cons, List.map_nil]); first | done | rfl | (simp only [List.length_drop, List.length_take]; rfl)) ?_; (with_reducible refine (waggonerref01_may.calls a2 t166 _ A4.out).mono ?_); rintro e w' ⟨rfl, ⟨nd, rfl⟩⟩; refine ⟨_, rfl, ?_⟩))
 (try simp only [Act.put, Kx.sb, Kx.sz, Kx.ss])
 go_cut [26] (fun v26 wc => ∃ (kq : Nat) (x26_4 : Bool), v26 = .bool x26_4 ∧ Aside0 (waggonerref01_Put_p.j0 kq l0 a1 a2 x26_4 = some (r1, r2)) ∧ Aside0 (kq ≤ k) ∧ Aside0 (Below w.heap.size w wc))
 case first =>
  have H := HC5.out
  clear HC5
  by_cases c6 : t166 = true
  ·subst c6
   have H1 : (if a2 < 8 then (if 0 ≤ (IntKind.u64.wrap (wrap64 (8 * a2))) then (waggonerref01_Put_p.j0 k l0 a1 a2 ((shr .u64 a1 (IntKind.u64.wrap (wrap64 (8 * a2)))) != 0)) else (none)) else (waggonerref01_Put_p.j0 k l0 a1 a2 false)) = some (r1, r2) := by rw [if_pos rfl] at H <;> exact H
   clear H
   have H := H1
   clear H1
   by_cases c7 : a2 < 8
   ·rw [if_pos c7] at H
    have c7b0 : decide (a2 < 8) = true := decide_eq_true c7
    clear c7
    (first | rw [c7b0] | (simp only [i64_w, i32_w]; rw [c7b0]) | skip)
    obtain ⟨ji8, hji8⟩ : ∃ j_ : Int, (IntKind.u64.wrap (wrap64 (8 * a2))) = j_ := ⟨_, rfl⟩
    replace H : (if 0 ≤ (ji8) then (waggonerref01_Put_p.j0 k l0 a1 a2 ((shr .u64 a1 (ji8)) != 0)) else (none)) = some (r1, r2) := by first | (rw [hji8] at H; exact H) | (simp only [hji8] at H ⊢; exact H)
    by_cases c9 : 0 ≤ (ji8)
    ·rw [if_pos c9] at H
     have c9b0 := eq_true c9
     have c9b1 : decide (0 ≤ (ji8)) = true := decide_eq_true c9
     clear c9
     obtain ⟨ji10, hji10⟩ : ∃ j_ : Int, (shr .u64 a1 (ji8)) = j_ := ⟨_, rfl⟩
     replace H : (waggonerref01_Put_p.j0 k l0 a1 a2 ((ji10) != 0)) = some (r1, r2) := by first | (rw [hji10] at H; exact H) | (simp only [hji10] at H ⊢; exact H)
     have hji10_ : (a1 / 2 ^ min (ji8).toNat 64) = ji10 := hji10
     have hji10z : (ji8) ≤ 64 → (a1 / 2 ^ (ji8).toNat) = ji10 := shr_small hji10
     have H' := Aside0.mk H
     clear H
     go_wp2
     go_meet
     case rel => exact ⟨_, (((ji10) != 0)), (by first | rfl | (simp; done) | (simp only [← hji10] <;> (first | rfl | simp)) | (simp [*]; done)), H', ⟨by first | omega | exact Nat.le_refl _⟩, ⟨by repeat (first | (with_reducible first | exact HB.out | apply below_alloc | apply pw_below_drewN | apply below_drew1) | exact HB.out)⟩⟩
    ·rw [if_neg c9] at H
     exact absurd H (by simp)
   ·rw [if_neg c7] at H
    have c7b0 : decide (a2 < 8) = false := decide_eq_false c7
    clear c7
    (first | rw [c7b0] | (simp only [i64_w, i32_w]; rw [c7b0]) | skip)
    have H' := Aside0.mk H
    clear H
    go_wp2
    go_meet
    case rel => exact ⟨_, (false), (by first | rfl | (simp; done) | (simp [*]; done)), H', ⟨by first | omega | exact Nat.le_refl _⟩, ⟨by repeat (first | (with_reducible first | exact HB.out | apply below_alloc | apply pw_below_drewN | apply below_drew1) | exact HB.out)⟩⟩
  ·replace c6 := Bool.eq_false_iff.mpr c6
   subst c6
   have H1 : (waggonerref01_Put_p.j0 k l0 a1 a2 true) = some (r1, r2) := by rw [if_neg (show ¬ (false = true) by decide)] at H <;> exact H
   clear H
   have H := H1
   clear H1
   have H' := Aside0.mk H
   clear H
   go_wp2
   go_meet
   case rel => exact ⟨_, (true), (by first | rfl | (simp; done) | (simp [*]; done)), H', ⟨by first | omega | exact Nat.le_refl _⟩, ⟨by repeat (first | (with_reducible first | exact HB.out | apply below_alloc | apply pw_below_drewN | apply below_drew1) | exact HB.out)⟩⟩
 case rest =>
  clear HC5
  try clear p2
  try clear c6
  try clear p6
  try clear c7
  try clear c7b0
  try clear c9
  try clear c9b0
  try clear c9b1
  obtain ⟨kq, x26_4, rfl, HA, HJ4, HB⟩ := hcut
  cases kq with
  | zero => exact absurd HA.out (by simp [waggonerref01_Put_p.j0])
  | succ kj4 =>
   have H := HA.out
   clear HA
   simp only [waggonerref01_Put_p.j0] at H
   by_cases c11 : x26_4 = true
   ·subst c11
    have H1 : (some (([] : List Int), 10)) = some (r1, r2) := by rw [if_pos rfl] at H <;> exact H
    clear H
    have H := H1
    clear H1
    simp only [Option.some.injEq, Prod.mk.injEq] at H
    obtain ⟨rfl, rfl⟩ := H
    go_wp2
    go_ret2
    exact ⟨_, by first | rfl | (simp [errW_none, errW_some] <;> rfl) | (simp [*, errW_none, errW_some] <;> rfl), by first | exact Kd.R_nil _ _ _ _ _ | exact Kd.N_nil _ _ _ _ _ | exact Kd.V_nil _ _ _ _ _ | exact Kd.Q_nil _ _ _ _ _ | exact Kd.S_nil _ _ _ _ _, by repeat (first | (with_reducible first | exact HB.out | apply below_alloc | apply pw_below_drewN | apply below_drew1) | exact HB.out)⟩
   ·replace c11 := Bool.eq_false_iff.mpr c11
    subst c11
    have H1 : ((some (([] : List Int) : List Int)).bind fun y167 => (if y167.length + l0.length < 140737488355328 then (waggonerref01_Put_p.l0 kj4 a1 a2 (y167 ++ l0) 0) else (none))) = some (r1, r2) := by rw [if_neg (show ¬ (false = true) by decide)] at H <;> exact H
    clear H
    have H := H1
    clear H1
    obtain ⟨y167, hy167⟩ : ∃ y_ : List Int, y_ = (([] : List Int)) := ⟨_, rfl⟩
    replace H : (if y167.length + l0.length < 140737488355328 then (waggonerref01_Put_p.l0 kj4 a1 a2 (y167 ++ l0) 0) else (none)) = some (r1, r2) := by first | (rw [hy167]; with_reducible exact H) | (have H2_ := (Option.bind_some _ _).symm.trans H; rw [hy167]; with_reducible exact H2_) | (have H2_ := (Option.bind_some _ _).symm.trans H; with_reducible exact H2_) | with_reducible exact H | (rw [hy167]; exact H) | exact H
    have Ny167 := Aside0.mk hy167
    clear hy167
    by_cases c12 : y167.length + l0.length < 140737488355328
    ·rw [if_pos c12] at H
     have LMc12 := Aside0.mk c12
     clear c12
     obtain ⟨y170, hy170⟩ : ∃ y_ : List Int, y_ = (y167 ++ l0) := ⟨_, rfl⟩
     replace H : (waggonerref01_Put_p.l0 kj4 a1 a2 y170 0) = some (r1, r2) := by first | (rw [hy170]; with_reducible exact H) | (have H2_ := (Option.bind_some _ _).symm.trans H; rw [hy170]; with_reducible exact H2_) | (have H2_ := (Option.bind_some _ _).symm.trans H; with_reducible exact H2_) | with_reducible exact H | (rw [hy170]; exact H) | exact H
     have Ny170 := Aside0.mk hy170
     clear hy170
     have H' := Aside0.mk H
     clear H
     go_wp2_with (first | ((with_reducible refine gate_dst (N := 27) rfl ?_); refine Kd.R_lit (Kd.int .u8) _ 5 ?hg (N := 27) ?hd (xs := ([] : List Int)) (inner := []) (ok := fun _ => True) (okp := fun _ => True) ?hr ?hp (fun _ hk => hk) trivial (Below.refl _ _) (Nat.le_refl _) (by simp) ?_; (case hd => rfl); (case hg => rfl); (case hr => first | (go_simp; done) | (go_simp; rfl)); (case hp => exact (Reps.none _ _)); intro v168 w13 ho14 hb hg_ hnew_; clear hg_ hnew_; (first | rw [← Ny167.out] at ho14 | (simp only [Int.reduceToNat] at ho14; rw [← Ny167.out] at ho14)); have n0_ := Aside0.mk (Kd.R_lower ho14 (below_size (by repeat (first | (with_reducible first | exact HB.out | apply below_alloc | apply pw_below_drewN | apply below_drew1) | exact HB.out)))); have n1_ := Aside0.mk (below_step (by repeat (first | (with_reducible first | exact HB.out | apply below_alloc | apply pw_below_drewN | apply below_drew1) | exact HB.out)) hb); clear HB; have HO169 := n0_; have HB := n1_; clear n0_ n1_; clear hb ho14) | ((with_reducible refine gate_builtin (b := .append) (xs := #[.tmp 27, .tmp 28]) rfl ?_); at_builtin; refine Kd.R_append_rows (Kd.int .u8) (w0 := w) w.heap.size rfl (.tmp 27) (.tmp 28) 23 5 (.int .u8 0) 1 rfl Try.underlying23 info5 rfl (by decide) (by omega) v168 y167 l0 _ _ _ (fun _ => True) (fun _ => False) rfl rfl ?aO ?aR (fun _ _ h => h) (fun _ h => h.elim) ?aF ?aB ?aS ?aL ?_; (case aR => repeat (first | exact (Kd.C_below HR0.out HB.out) | (with_reducible refine Kd.C_alloc ?_ _) | (with_reducible refine Kd.C_drewN ?_ _) | (with_reducible refine Kd.C_drew ?_))); (case aB => exact (by repeat (first | (with_reducible first | exact HB.out | apply below_alloc | apply pw_below_drewN | apply below_drew1) | exact HB.out))); (case aF => exact (fun _ _ => trivial)); (case aO => exact (by (with_reducible repeat (first | apply Kd.R_alloc | apply Kd.R_drewN | apply Kd.R_drew)); exact HO169.out)); (case aS => exact (below_size (by repeat (first | (with_reducible first | exact HB.out | apply below_alloc | apply pw_below_drewN | apply below_drew1) | exact HB.out)))); (case aL => have := LMc12.out; omega); intro v171 w15 ho hb hg hat; rw [← Ny170.out] at ho; have n0_ := Aside0.mk (hb); have n1_ := Aside0.mk (ho); clear HB; clear HO169; have HB := n0_; have HO172 := n1_; clear n0_ n1_; clear ho hb hg hat))
     go_loopg [9, 10] kj4 (fun kq v9 v10 w' => ∃ (x9_2 : List Int) (x10_2 : Int), v10 = .int .i64 x10_2 ∧ Aside0 (waggonerref01_Put_p.l0 kq a1 a2 x9_2 x10_2 = some (r1, r2)) ∧ Aside0 (kq ≤ kj4) ∧ Aside0 (Kd.R (Kd.int .u8) 5 w' w.heap.size (fun _ => True) v9 x9_2) ∧ Aside0 (Below w.heap.size w w'))
     case atStart => exact ⟨(y170), (0), (by first | rfl | (simp; done) | (simp [*]; done)), H', ⟨Nat.le_refl _⟩, ⟨by (with_reducible repeat (first | apply Kd.R_alloc | apply Kd.R_drewN | apply Kd.R_drew)); exact HO172.out⟩, ⟨by repeat (first | (with_reducible first | exact HB.out | apply below_alloc | apply pw_below_drewN | apply below_drew1) | exact HB.out)⟩⟩
     case round =>
      clear H'
      try clear c1
      try clear p2
      try clear c6
      try clear p6
      try clear c7
      try clear c7b0
      try clear c9
      try clear c9b0
      try clear c9b1
      try clear c11
      try clear c12
      try clear p2
      try clear p6
      obtain ⟨x9_2, x10_2, rfl, HA, HK2, HO_9, HB⟩ := hrel
      cases gk with
      | zero => exact absurd HA.out (by simp [waggonerref01_Put_p.l0])
      | succ k2 =>
       have H := HA.out
       clear HA
       simp only [waggonerref01_Put_p.l0] at H
       by_cases c16 : x10_2 < a2
       ·rw [if_pos c16] at H
        have c16b0 : decide (x10_2 < a2) = true := decide_eq_true c16
        clear c16
        obtain ⟨ji17, hji17⟩ : ∃ j_ : Int, (IntKind.u64.wrap (wrap64 (8 * x10_2))) = j_ := ⟨_, rfl⟩
        replace H : (if 0 ≤ (ji17) then (if x9_2.length < 140737488355328 then (waggonerref01_Put_p.l0 k2 a1 a2 (x9_2 ++ [(shr .u64 a1 (ji17)) % 256]) (wrap64 (x10_2 + 1))) else (none)) else (none)) = some (r1, r2) := by first | (rw [hji17] at H; exact H) | (simp only [hji17] at H ⊢; exact H)
        by_cases c18 : 0 ≤ (ji17)
        ·rw [if_pos c18] at H
         have c18b0 := eq_true c18
         have c18b1 : decide (0 ≤ (ji17)) = true := decide_eq_true c18
         clear c18
         obtain ⟨ji19, hji19⟩ : ∃ j_ : Int, (shr .u64 a1 (ji17)) = j_ := ⟨_, rfl⟩
         replace H : (if x9_2.length < 140737488355328 then (waggonerref01_Put_p.l0 k2 a1 a2 (x9_2 ++ [(ji19) % 256]) (wrap64 (x10_2 + 1))) else (none)) = some (r1, r2) := by first | (rw [hji19] at H; exact H) | (simp only [hji19] at H ⊢; exact H)
         have hji19_ : (a1 / 2 ^ min (ji17).toNat 64) = ji19 := hji19
         have hji19z : (ji17) ≤ 64 → (a1 / 2 ^ (ji17).toNat) = ji19 := shr_small hji19
         by_cases c20 : x9_2.length < 140737488355328
         ·rw [if_pos c20] at H
          have LMc20 := Aside0.mk c20
          clear c20
          obtain ⟨y173, hy173⟩ : ∃ y_ : List Int, y_ = (x9_2 ++ [(ji19) % 256]) := ⟨_, rfl⟩
          replace H : (waggonerref01_Put_p.l0 k2 a1 a2 y173 (wrap64 (x10_2 + 1))) = some (r1, r2) := by first | (rw [hy173]; with_reducible exact H) | (have H2_ := (Option.bind_some _ _).symm.trans H; rw [hy173]; with_reducible exact H2_) | (have H2_ := (Option.bind_some _ _).symm.trans H; with_reducible exact H2_) | with_reducible exact H | (rw [hy173]; exact H) | exact H
          have Ny173 := Aside0.mk hy173
          clear hy173
          have H' := Aside0.mk H
          clear H
          go_wp2_with (first | ((with_reducible refine gate_builtin (b := .append) (xs := #[.tmp 35, .tmp 42]) rfl ?_); at_builtin; refine Kd.R_append (Kd.int .u8) (w0 := w) w.heap.size rfl (.tmp 35) (.tmp 42) 23 5 (.int .u8 0) 1 rfl Try.underlying23 info5 rfl (by decide) (by omega) u9 x9_2 ((ji19) % 256) [.int .u8 ((ji19) % 256)] (fun _ => True) (fun _ => False) rfl rfl ?aP (fun _ hk => hk.elim) ?aF ?aO ?aB ?aS ?aL ?_; (case aP => exact rfl); (case aB => exact (by repeat (first | (with_reducible first | exact HB.out | apply below_alloc | apply pw_below_drewN | apply below_drew1) | exact HB.out))); (case aF => exact (fun _ _ => trivial)); (case aO => exact (by (with_reducible repeat (first | apply Kd.R_alloc | apply Kd.R_drewN | apply Kd.R_drew)); exact HO_9.out)); (case aS => exact (below_size (by repeat (first | (with_reducible first | exact HB.out | apply below_alloc | apply pw_below_drewN | apply below_drew1) | exact HB.out)))); (case aL => have := LMc20.out; omega); intro v174 w21 ho hb hg hat; rw [← Ny173.out] at ho; have n0_ := Aside0.mk (hb); have n1_ := Aside0.mk (ho); clear HB; clear HO_9; have HB := n0_; have HO175 := n1_; clear n0_ n1_; clear ho hb hg hat))
          go_roundg k2
          case measure => have := HJ4.out; have := HK2.out; omega
          case rel => exact ⟨(y173), (wrap64 (x10_2 + 1)), (by first | rfl | (simp; done) | (simp [*]; done)), H', ⟨by have := HJ4.out; have := HK2.out; omega⟩, ⟨by (with_reducible repeat (first | apply Kd.R_alloc | apply Kd.R_drewN | apply Kd.R_drew)); exact HO175.out⟩, ⟨by repeat (first | (with_reducible first | exact HB.out | apply below_alloc | apply pw_below_drewN | apply below_drew1) | exact HB.out)⟩⟩
         ·rw [if_neg c20] at H
          exact absurd H (by simp)
        ·rw [if_neg c18] at H
         exact absurd H (by simp)
       ·rw [if_neg c16] at H
        have c16b0 : decide (x10_2 < a2) = false := decide_eq_false c16
        clear c16
        simp only [Option.some.injEq, Prod.mk.injEq] at H
        obtain ⟨rfl, rfl⟩ := H
        go_wp2
        go_ret2
        exact ⟨_, by first | rfl | (simp [errW_none, errW_some] <;> rfl) | (simp [*, errW_none, errW_some] <;> rfl), by (with_reducible repeat (first | apply Kd.R_alloc | apply Kd.R_drewN | apply Kd.R_drew)); exact HO_9.out, by repeat (first | (with_reducible first | exact HB.out | apply below_alloc | apply pw_below_drewN | apply below_drew1) | exact HB.out)⟩
    ·rw [if_neg c12] at H
     exact absurd H (by simp)
/-! ### waggonerref01_Put: function 66 -/
def waggonerref01_Put.f (l0 : List Int) (a1 : Int) (a2 : Int) : Option (List Int × Int) := if 0 ≤ a1 ∧ a1 < 18446744073709551616 ∧ l0.length < 70368744177664 then some (Pl.putS l0 a1 a2) else none
theorem waggonerref01_may.tells (s : Int) : waggonerref01_may.f s = some (Pl.okS s) := by
 unfold waggonerref01_may.f Pl.okS
 by_cases h1 : s = 1
 ·subst h1; rfl
 by_cases h2 : s = 2
 ·subst h2; rfl
 by_cases h4 : s = 4
 ·subst h4; rfl
 by_cases h8 : s = 8
 ·subst h8; rfl
 simp [h1, h2, h4, h8]
theorem u64_8 {x : Int} (h0 : 0 ≤ x) (h1 : x ≤ 8) : IntKind.u64.wrap (wrap64 (8 * x)) = 8 * x := by
 have e : wrap64 (8 * x) = 8 * x := by unfold wrap64; omega
 rw [e, IntKind.wrap_u64]
 omega
theorem shr_8 (n i : Nat) (hi : i ≤ 8) : shr .u64 (n : Int) (8 * (i : Int)) = ((n / 2 ^ (8 * i) : Nat) : Int) := by
 unfold shr
 rw [show (8 * (i : Int)).toNat = 8 * i from by omega, Nat.min_eq_left (show 8 * i ≤ IntKind.u64.bits from by show 8 * i ≤ 64; omega)]
 push_cast
 rfl
theorem waggonerref01_Put.loop : ∀ (d : Nat) (k : Nat) (n : Nat) (l : List Int) (s i : Nat), d < k → i + d = s → s ≤ 8 → l.length + d < 140737488355328 → waggonerref01_Put_p.l0 k (n : Int) (s : Int) l (i : Int) = some (l ++ Pl.leB d (n / 2 ^ (8 * i)), 0)
 | 0, k, n, l, s, i, hk, hd, hs, hl => by
  obtain ⟨k, rfl⟩ : ∃ m, k = m + 1 := ⟨k - 1, by omega⟩
  simp only [waggonerref01_Put_p.l0]
  rw [if_neg (by omega), Pl.leB, List.append_nil]
 | d + 1, k, n, l, s, i, hk, hd, hs, hl => by
  obtain ⟨k, rfl⟩ : ∃ m, k = m + 1 := ⟨k - 1, by omega⟩
  simp only [waggonerref01_Put_p.l0]
  rw [if_pos (by omega), u64_8 (by omega) (by omega), if_pos (by omega), if_pos (by omega), shr_8 n i (by omega), show wrap64 ((i : Int) + 1) = ((i + 1 : Nat) : Int) from by unfold wrap64; omega,
   waggonerref01_Put.loop d k n _ s (i + 1) (by omega) (by omega) hs (by rw [List.length_append, List.length_singleton]; omega)]
  rw [Pl.leB, List.append_assoc, List.singleton_append, show n / 2 ^ (8 * (i + 1)) = n / 2 ^ (8 * i) / 256 from by rw [Nat.div_div_eq_div_mul, show 8 * (i + 1) = 8 * i + 8 from by omega, Nat.pow_add]]
  rfl
theorem waggonerref01_Put.tells {l0 : List Int} {a1 a2 : Int} {r : List Int × Int} (h : waggonerref01_Put.f l0 a1 a2 = some r) : waggonerref01_Put_p.f 11 l0 a1 a2 = some r := by
 unfold waggonerref01_Put.f at h
 split at h
 case isFalse => cases h
 rename_i hh
 obtain ⟨h0, h1, h2⟩ := hh
 obtain rfl := Option.some.inj h
 obtain ⟨n, rfl⟩ := Int.eq_ofNat_of_zero_le h0
 have hgo : ∀ s : Nat, s ≤ 8 → waggonerref01_Put_p.j0 11 l0 (n : Int) (s : Int) false = some (l0 ++ Pl.leB s n, 0) := by
  intro s hs
  simp only [waggonerref01_Put_p.j0]
  rw [if_neg (by decide), Option.bind_some, if_pos (by rw [List.length_nil]; omega), List.nil_append]
  have := waggonerref01_Put.loop s 10 n l0 s 0 (by omega) (by omega) hs (by omega)
  rw [Nat.mul_zero, Nat.pow_zero, Nat.div_one] at this
  exact this
 unfold waggonerref01_Put_p.f
 rw [waggonerref01_may.tells, Option.bind_some]
 unfold Pl.putS
 by_cases hs : Pl.okS a2 = true
 ·rw [if_pos hs]
  rcases Pl.okS_iff.1 hs with rfl | rfl | rfl | rfl
  ·rw [if_pos (by decide), u64_8 (by decide) (by decide), if_pos (by decide), Pl.fits_1, show (8 * (1 : Int)) = 8 * ((1 : Nat) : Int) from rfl, shr_8 n 1 (by decide)]
   by_cases hf : (n : Int) < 256
   ·rw [if_pos (decide_eq_true hf), show ((((n / 2 ^ (8 * 1) : Nat) : Int) != 0)) = false from by simp; omega]
    exact hgo 1 (by decide)
   ·rw [if_neg (by simpa using hf), show ((((n / 2 ^ (8 * 1) : Nat) : Int) != 0)) = true from by simp; omega]
    rfl
  ·rw [if_pos (by decide), u64_8 (by decide) (by decide), if_pos (by decide), Pl.fits_2, show (8 * (2 : Int)) = 8 * ((2 : Nat) : Int) from rfl, shr_8 n 2 (by decide)]
   by_cases hf : (n : Int) < 65536
   ·rw [if_pos (decide_eq_true hf), show ((((n / 2 ^ (8 * 2) : Nat) : Int) != 0)) = false from by simp; omega]
    exact hgo 2 (by decide)
   ·rw [if_neg (by simpa using hf), show ((((n / 2 ^ (8 * 2) : Nat) : Int) != 0)) = true from by simp; omega]
    rfl
  ·rw [if_pos (by decide), u64_8 (by decide) (by decide), if_pos (by decide), Pl.fits_4, show (8 * (4 : Int)) = 8 * ((4 : Nat) : Int) from rfl, shr_8 n 4 (by decide)]
   by_cases hf : (n : Int) < 4294967296
   ·rw [if_pos (decide_eq_true hf), show ((((n / 2 ^ (8 * 4) : Nat) : Int) != 0)) = false from by simp; omega]
    exact hgo 4 (by decide)
   ·rw [if_neg (by simpa using hf), show ((((n / 2 ^ (8 * 4) : Nat) : Int) != 0)) = true from by simp; omega]
    rfl
  ·rw [if_neg (by decide), if_pos (Pl.fits_8 (by omega))]
   exact hgo 8 (by decide)
 ·rw [if_neg hs, if_neg (by rw [Pl.fits_no (by simpa using hs)]; decide)]
  rfl
theorem waggonerref01_Put.calls (A0 : Option Addr) (c0 : Nat) (l0 : List Int) (a1 : Int) (a2 : Int) (r1 : List Int) (r2 : Int) (w : World) (hr0 : Kd.C (Kd.int .u8) w A0 l0.length l0) (hc0 : l0.length ≤ c0) (h : waggonerref01_Put.f l0 a1 a2 = some (r1, r2)) :
  Calls Try.prog 66 #[.slice A0 l0.length c0, .int .u64 a1, .int .i64 a2] w fun e w' => ∃ v0_ : Value, e = .returned (.tuple #[v0_, .int .i64 r2]) ∧ Kd.R (Kd.int .u8) 5 w' w.heap.size (fun _ => True) v0_ r1 ∧ Below w.heap.size w w' :=
 waggonerref01_Put_p.calls 11 A0 c0 l0 a1 a2 r1 r2 w hr0 hc0 (waggonerref01_Put.tells h)
end Go.Proofs.Ytcemlfkboifncaa.PT
