/- Functions of the program as Lean functions, and that the Go code comes to just their answers: no condition but that the function says so. (Written by a program of this workplace over the kit's print, with contracts by hand.) -/
import Derived.Test.YtcemlfkboifncaaPUx12
import Derived.Test.YtcemlfkboifncaaPUx24
import Derived.Test.YtcemlfkboifncaaPUx33
namespace Go.Proofs.Ytcemlfkboifncaa.PU
open Go.RowKit Go.Proofs.YtcemlfkboifncaaW.PrintWords Go.Proofs.YtcemlfkboifncaaW.PrintLast Go.Proofs.YtcemlfkboifncaaW.PrintMore
attribute [local go_sem] max2_int min2_int max_two min_two max_three min_three max_four min_four   -- for this text's walks alone
set_option linter.unusedVariables false
set_option linter.unusedSimpArgs false

/-! ### waggonerlaw05_awake: function 18 -/
def waggonerlaw05_awake.f : Option Bool := some true
theorem aw05_w : record_Write.f 1 9 [98, 111, 100, 121] = some (Pl.recB 1 9 [98, 111, 100, 121], 0) := by kernel_rfl
theorem aw05_r : record_Read.f (Pl.recB 1 9 [98, 111, 100, 121]) = some (1, 9, [98, 111, 100, 121], 24, 0) := by kernel_rfl
theorem aw05_n : record_Read.f [] = some (0, 0, [], 0, 50) := by kernel_rfl
theorem aw05_s : record_Scan.f (Pl.recB 1 9 [98, 111, 100, 121] ++ Pl.recB 1 9 [98, 111, 100, 121]) = some ([⟨1, 9, [98, 111, 100, 121]⟩, ⟨1, 9, [98, 111, 100, 121]⟩], [0, 24]) := by kernel_rfl
theorem aw05_e : waggonerref05_Same.f 1 9 [98, 111, 100, 121] 1 9 [98, 111, 100, 121] = some true := by kernel_rfl
theorem aw05_m : waggonerref05_Numbers.f 5 [0, 24] [0, 24] = some true := by kernel_rfl
theorem aw05_z : record_Size.f 0 = some 20 := by kernel_rfl
theorem aw05_y : record_Size.f 4097 = some 0 := by kernel_rfl
theorem aw05_c : record_Check.f 1 9 [98, 111, 100, 121] = some 0 := by kernel_rfl
theorem aw05_t : (Pl.recB 1 9 [98, 111, 100, 121]).take 8 = [87, 82, 76, 71, 1, 0, 4, 0] := by kernel_rfl
set_option maxHeartbeats 2000000 in
set_option maxRecDepth 2000000 in
theorem waggonerlaw05_awake.calls (r : Bool) (w : World) (h : waggonerlaw05_awake.f = some r) :
  Calls Try.prog 18 #[] w fun e w' => e = .returned (.bool r) ∧ Below w.heap.size w w' := by
 unfold waggonerlaw05_awake.f at h
 obtain rfl := Option.some.inj h
 clear h
 have hu25 := Try.underlying25
 have kc := fun (w : World) (C : Array Value) (n c : Nat) => Lib.run_convert_bytes_const (P := Try.prog) w 23 5 C n c Try.underlying23 Try.underlying5
 go_enter Try.func18, Try.ntmps18
 go_wp2_with fail
 obtain ⟨g1, hg1⟩ : ∃ g, g = w.heap.size + 1 := ⟨_, rfl⟩
 have BK1 := Aside0.mk (blk_new (w.alloc (.cells #[.int .u8 98, .int .u8 111, .int .u8 100, .int .u8 121] 5 (4, 5))) (.cells #[.int .i64 1, .int .i64 9, .slice (some ⟨w.heap.size, 0, none⟩) 4 4] 25))
 rw [show (w.alloc (.cells #[.int .u8 98, .int .u8 111, .int .u8 100, .int .u8 121] 5 (4, 5))).heap.size = g1 from by rw [hg1]; simp] at BK1
 rw [← hg1]
 clear hg1
 have HRy0 := Aside0.mk (Kd.C_alloc (Kx.C_lit w [98, 111, 100, 121] (by decide) 5 (4, 5)) (.cells #[.int .i64 1, .int .i64 9, .slice (some ⟨w.heap.size, 0, none⟩) 4 4] 25))
 refine (record_Write.calls 1 9 _ _ [98, 111, 100, 121] _ _ _ HRy0.out (Nat.le_refl _) aw05_w).mono ?_
 rintro e w1 ⟨v1, rfl, ho, hb⟩
 obtain ⟨Aq, cq, rfl, hcq, hrq⟩ := Kd.R_reads ho
 have HB := Aside0.mk (below_step (below_alloc (below_alloc (Below.refl w.heap.size w) _) _) hb)
 have HRy := Aside0.mk (Kd.C_below HRy0.out hb)
 have n1 := Aside0.mk (blk_below BK1.out hb)
 have HCq := Aside0.mk hcq
 have HRq := Aside0.mk hrq
 have HQr := Aside0.mk aw05_r
 have HQs := Aside0.mk aw05_s
 have HQt := Aside0.mk aw05_t
 have HQl : Aside0 ((Pl.recB 1 9 [98, 111, 100, 121]).length = 24) := ⟨by rw [Pl.recB_length]; rfl⟩
 clear BK1 HRy0 ho hb hcq hrq
 have BK1 := n1
 clear n1
 generalize w.heap.size = gy at BK1 HRy ⊢
 generalize Pl.recB 1 9 [98, 111, 100, 121] = q at HCq HRq HQr HQs HQt HQl ⊢
 go_wp2_with fail
 refine (record_Read.calls Aq cq q _ _ _ _ _ _ HRq.out HCq.out HQr.out).mono ?_
 rintro e w2 ⟨v2, rfl, ho, hb⟩
 obtain ⟨A2, c2, rfl, hc2, hr2⟩ := Kd.R_reads ho
 have n1 := Aside0.mk (below_step HB.out hb)
 have n2 := Aside0.mk (Kd.C_below HRy.out hb)
 have n3 := Aside0.mk (blk_below BK1.out hb)
 have n4 := Aside0.mk (Kd.C_below HRq.out hb)
 have HC2 := Aside0.mk hc2
 have HR2 := Aside0.mk hr2
 clear HB HRy BK1 HRq ho hb hc2 hr2 HQr
 have HB := n1
 have HRy := n2
 have BK1 := n3
 have HRq := n4
 clear n1 n2 n3 n4
 go_wp2_with fail
 refine (record_Read.calls none 0 [] _ _ _ _ _ _ (Kd.C_nil _ _) (Nat.le_refl _) aw05_n).mono ?_
 rintro e w3 ⟨v3, rfl, ho, hb⟩
 obtain ⟨A3, c3, rfl, hc3, hr3⟩ := Kd.R_reads ho
 have n1 := Aside0.mk (below_step (below_alloc HB.out _) hb)
 have n2 := Aside0.mk (Kd.C_below (Kd.C_alloc HRy.out _) hb)
 have n3 := Aside0.mk (blk_below (blk_alloc BK1.out _) hb)
 have n4 := Aside0.mk (Kd.C_below (Kd.C_alloc HRq.out _) hb)
 have n5 := Aside0.mk (Kd.C_below (Kd.C_alloc HR2.out _) hb)
 have BK4 := Aside0.mk (blk_below (blk_new w2 (.cells #[.int .i64 1, .int .i64 9, .slice A2 4 c2] 25)) hb)
 clear HB HRy BK1 HRq HR2 ho hb hc3 hr3
 have HB := n1
 have HRy := n2
 have BK1 := n3
 have HRq := n4
 have HR2 := n5
 clear n1 n2 n3 n4 n5
 generalize w2.heap.size = g4 at BK4 ⊢
 go_upto_region 5 with (fail)
 have n1 := Aside0.mk (below_alloc HB.out (.cells #[.int .i64 0, .int .i64 0, .slice A3 0 c3] 25))
 have n2 := Aside0.mk (Kd.C_alloc HRy.out (.cells #[.int .i64 0, .int .i64 0, .slice A3 0 c3] 25))
 have n3 := Aside0.mk (blk_alloc BK1.out (.cells #[.int .i64 0, .int .i64 0, .slice A3 0 c3] 25))
 have n4 := Aside0.mk (Kd.C_alloc HRq.out (.cells #[.int .i64 0, .int .i64 0, .slice A3 0 c3] 25))
 have n5 := Aside0.mk (Kd.C_alloc HR2.out (.cells #[.int .i64 0, .int .i64 0, .slice A3 0 c3] 25))
 have n6 := Aside0.mk (blk_alloc BK4.out (.cells #[.int .i64 0, .int .i64 0, .slice A3 0 c3] 25))
 clear HB HRy BK1 HRq HR2 BK4
 have HB := n1
 have HRy := n2
 have BK1 := n3
 have HRq := n4
 have HR2 := n5
 have BK4 := n6
 clear n1 n2 n3 n4 n5 n6
 generalize w3.alloc (.cells #[.int .i64 0, .int .i64 0, .slice A3 0 c3] 25) = w4 at HB HRy BK1 HRq HR2 BK4 ⊢
 go_wp2_with (first | ((with_reducible refine gate_dst (N := 33) rfl ?_); refine Kd.R_lit (Kd.int .u8) _ 5 ?hg (N := 33) ?hd (xs := ([] : List Int)) (inner := []) (ok := fun _ => True) (okp := fun _ => True) ?hr ?hp (fun _ hk => hk) trivial (Below.refl _ _) (Nat.le_refl _) (by simp) ?_; (case hd => rfl); (case hg => rfl); (case hr => first | (go_simp; done) | (go_simp; rfl)); (case hp => exact (Reps.none _ _)); intro v110 w13 ho14 hb hg_ hnew_; clear hg_ hnew_; have HL := Aside0.mk ho14; have HLB := Aside0.mk hb; clear hb ho14) | ((with_reducible refine gate_builtin (b := .append) (xs := #[.tmp 33, .tmp 34]) rfl ?_); at_builtin; go_must (refine Kd.R_append_rows (Kd.int .u8) (w0 := w4) w4.heap.size rfl (.tmp 33) (.tmp 34) 23 5 (.int .u8 0) 1 rfl Try.underlying23 info5 rfl (by decide) (by omega) v110 [] q _ _ _ (fun _ => True) (fun _ => False) rfl rfl ?aO ?aR (fun _ _ h => h) (fun _ h => h.elim) ?aF ?aB ?aS ?aL ?_); (case aR => exact (Kd.C_below HRq.out HLB.out)); (case aB => exact HLB.out); (case aF => exact (fun _ _ => trivial)); (case aO => exact HL.out); (case aS => exact HLB.out.size); (case aL => have := HQl.out; simp; omega); intro v113 w15c ho hb hg hat; rw [List.nil_append] at ho; have HOc := Aside0.mk ho; have HBOc := Aside0.mk hb; clear HL HLB ho hb hg hat) | ((with_reducible refine gate_builtin (b := .append) (xs := #[.tmp 35, .tmp 36]) rfl ?_); at_builtin; go_must (refine Kd.R_append_rows (Kd.int .u8) (w0 := w4) w4.heap.size rfl (.tmp 35) (.tmp 36) 23 5 (.int .u8 0) 1 rfl Try.underlying23 info5 rfl (by decide) (by omega) v113 q q _ _ _ (fun _ => True) (fun _ => False) rfl rfl ?bO ?bR (fun _ _ h => h) (fun _ h => h.elim) ?bF ?bB ?bS ?bL ?_); (case bR => exact (Kd.C_below HRq.out HBOc.out)); (case bB => exact HBOc.out); (case bF => exact (fun _ _ => trivial)); (case bO => exact HOc.out); (case bS => exact HBOc.out.size); (case bL => have := HQl.out; omega); intro v114 w16 ho hb hg hat; have HO2 := Aside0.mk ho; have HB2 := Aside0.mk hb; clear ho hb hg hat))
 obtain ⟨As, cs, rfl, hcs, hrs⟩ := Kd.R_reads HO2.out
 clear HOc HBOc
 refine (record_Scan.calls As cs (q ++ q) _ _ _ hrs hcs HQs.out).mono ?_
 rintro e w17 ⟨v10, v11, rfl, hs, hi, hb⟩
 obtain ⟨A10, c10, rfl, -, -⟩ := Kd.S_reads hs
 obtain ⟨A11, c11, rfl, hc11, hr11⟩ := Kd.R_reads hi
 have n1 := Aside0.mk (below_step (below_step HB.out HB2.out) hb)
 have n2 := Aside0.mk (Kd.C_below (Kd.C_below HRy.out HB2.out) hb)
 have n3 := Aside0.mk (blk_below (blk_below BK1.out HB2.out) hb)
 have n4 := Aside0.mk (Kd.C_below (Kd.C_below HRq.out HB2.out) hb)
 have n5 := Aside0.mk (Kd.C_below (Kd.C_below HR2.out HB2.out) hb)
 have n6 := Aside0.mk (blk_below (blk_below BK4.out HB2.out) hb)
 have HC11 := Aside0.mk hc11
 have HR11 := Aside0.mk hr11
 clear HB HRy BK1 HRq HR2 BK4 HO2 HB2 hs hi hb hc11 hr11 hcs hrs HQs
 have HB := n1
 have HRy := n2
 have BK1 := n3
 have HRq := n4
 have HR2 := n5
 have BK4 := n6
 clear n1 n2 n3 n4 n5 n6
 have dq : ((q.length : Int) != 24) = false := by rw [HQl.out]; rfl
 have dq' : (q.length != 24) = false := by rw [HQl.out]; rfl
 have c40 : w17.cell? ⟨g4, 0, none⟩ = some (.int .i64 1) := (blk_cell BK4.out 0).trans rfl
 have c41 : w17.cell? ⟨g4, 1, none⟩ = some (.int .i64 9) := (blk_cell BK4.out 1).trans rfl
 have c42 : w17.cell? ⟨g4, 2, none⟩ = some (.slice A2 4 c2) := (blk_cell BK4.out 2).trans rfl
 have c10_ : w17.cell? ⟨g1, 0, none⟩ = some (.int .i64 1) := (blk_cell BK1.out 0).trans rfl
 have c11_ : w17.cell? ⟨g1, 1, none⟩ = some (.int .i64 9) := (blk_cell BK1.out 1).trans rfl
 have c12_ : w17.cell? ⟨g1, 2, none⟩ = some (.slice (some ⟨gy, 0, none⟩) 4 4) := (blk_cell BK1.out 2).trans rfl
 go_wp2_with fail
 refine (waggonerref05_Same.calls 1 9 _ _ [98, 111, 100, 121] 1 9 _ _ [98, 111, 100, 121] true _ HR2.out HC2.out HRy.out (Nat.le_refl _) aw05_e).mono ?_
 rintro e w18 ⟨rfl, hb⟩
 have n1 := Aside0.mk (below_step HB.out hb)
 have n2 := Aside0.mk (Kd.C_below HRy.out hb)
 have n3 := Aside0.mk (blk_below BK1.out hb)
 have n4 := Aside0.mk (Kd.C_below HRq.out hb)
 have n5 := Aside0.mk (Kd.C_below HR11.out hb)
 clear HB HRy BK1 HRq HR2 HC2 BK4 HR11 hb c40 c41 c42 c10_ c11_ c12_ dq dq'
 have HB := n1
 have HRy := n2
 have BK1 := n3
 have HRq := n4
 have HR11 := n5
 clear n1 n2 n3 n4 n5
 obtain ⟨i0, hi, hz0, hz1, hz2⟩ := info_parts info5
 obtain ⟨hcut, -, hC⟩ := print_take_of (P := Try.prog) (Value.int .u8) 0 23 5 .i64 Try.underlying23 hi hz1 Aq cq q (8 : Int) (by omega) (by have := HQl.out; omega) HCq.out
 rw [show (8 : Int).toNat = 8 from rfl, HQt.out] at hcut
 replace hcut : ∀ W : World, (Instr.slice 23 (.slice Aq q.length cq) none (some (.int .i64 8)) none).run Try.prog W = .ok (.slice Aq 8 cq) W := hcut
 have HR8 := Aside0.mk (Kx.takeC 8 (by have := HQl.out; omega) HRq.out)
 rw [HQt.out] at HR8
 clear hi hz0 hz1 hz2 hC HRq
 go_wp2
 have n_HB := Aside0.mk (below_drew HB.out)
 have n_HRy := Aside0.mk (Kd.C_drew HRy.out)
 have n_BK1 := Aside0.mk (blk_drew BK1.out)
 have n_HR8 := Aside0.mk (Kd.C_drew HR8.out)
 have n_HR11 := Aside0.mk (Kd.C_drew HR11.out)
 clear HB HRy BK1 HR8 HR11
 have HB := n_HB
 have HRy := n_HRy
 have BK1 := n_BK1
 have HR8 := n_HR8
 have HR11 := n_HR11
 clear n_HB n_HRy n_BK1 n_HR8 n_HR11
 refine start_ (n := 49) (S := fun w' => w'.cell? ⟨g1, 0, none⟩ = some (.int .i64 1) ∧ w'.cell? ⟨g1, 1, none⟩ = some (.int .i64 9) ∧ w'.cell? ⟨g1, 2, none⟩ = some (.slice (some ⟨gy, 0, none⟩) 4 4) ∧ (convert 23 9 (.slice Aq 8 cq)).run Try.prog w' = .ok (.string (strOfNums [87, 82, 76, 71, 1, 0, 4, 0])) w') (ds := []) #[false, false, false, false, false, false, false, false, false, false, false, false, false, false, false, false, false, false, false, false, false, false, false, false, false, false, false, false, false, false, false, false, false, false, false, false, false, false, false, false, false, false, false, false, false, false, false, false, false] (by kernel_rfl) rfl rfl ⟨((blk_cell BK1.out 0).trans rfl), ((blk_cell BK1.out 1).trans rfl), ((blk_cell BK1.out 2).trans rfl), (Kd.C_string (P := Try.prog) (A := Aq) (c := cq) Try.underlying23 Try.underlying5 Try.underlying9 HR8.out)⟩ (fun hHeld => ?_)
 generalize w18.drew = wd at HB HRy BK1 HR8 HR11 hHeld ⊢
 refine one_ (i := 0) (N := some 47) #[true, false, false, false, false, false, false, false, false, false, false, false, false, false, false, false, false, false, false, false, false, false, false, false, false, false, false, false, false, false, false, false, false, false, false, false, false, false, false, false, false, false, false, false, false, false, false, false, false] rfl rfl (by kernel_rfl) (by decide) (fun K hK => ?_)
 refine goes_ Try.func26 (by kernel_rfl) rfl #[.int .i64 0] (by rfl) rfl rfl (by simp only [List.map_toArray, List.map_cons, List.map_nil]; rfl) ?_
 refine (record_Size.calls _ _ _ aw05_z).mono ?_
 rintro e wa0 ⟨rfl, hd⟩
 refine ⟨_, rfl, ?_⟩
 have n_HB := Aside0.mk (below_step HB.out hd.below)
 have n_HRy := Aside0.mk (Kd.C_below HRy.out hd.below)
 have n_BK1 := Aside0.mk (blk_below BK1.out hd.below)
 have n_HR8 := Aside0.mk (Kd.C_below HR8.out hd.below)
 have n_HR11 := Aside0.mk (Kd.C_below HR11.out hd.below)
 clear HB HRy BK1 HR8 HR11
 have HB := n_HB
 have HRy := n_HRy
 have BK1 := n_BK1
 have HR8 := n_HR8
 have HR11 := n_HR11
 clear n_HB n_HRy n_BK1 n_HR8 n_HR11
 clear hd
 refine hK.out _ _ ⟨((blk_cell BK1.out 0).trans rfl), ((blk_cell BK1.out 1).trans rfl), ((blk_cell BK1.out 2).trans rfl), (Kd.C_string (P := Try.prog) (A := Aq) (c := cq) Try.underlying23 Try.underlying5 Try.underlying9 HR8.out)⟩ (fun hHeld => ?_)
 clear hK K
 refine norm_ (a' := ?_) ?_ ?_
 rotate_left
 ·show Act.put _ (some 47) _ = _
  simp only [Act.put, Kx.sb, Kx.sz, Kx.ss, i64_w, i32_w]
  rfl
 refine pure_ (i := 1) (N := some 48) (v := ?_) (a' := ?_) #[true, true, false, false, false, false, false, false, false, false, false, false, false, false, false, false, false, false, false, false, false, false, false, false, false, false, false, false, false, false, false, false, false, false, false, false, false, false, false, false, false, false, false, false, false, false, false, false, false] rfl rfl (by kernel_rfl) (fun _ _ _ h => h) (Or.inl ⟨by rfl, ?_⟩) ?_ ?_
 rotate_left
 ·intro w'
  go_simp
  with_reducible rfl
 rotate_left
 ·simp only [Act.put, Kx.sb, Kx.sz, Kx.ss, i64_w, i32_w]
  rfl
 refine pure_ (i := 2) (N := some 49) (v := ?_) (a' := ?_) #[true, true, true, false, false, false, false, false, false, false, false, false, false, false, false, false, false, false, false, false, false, false, false, false, false, false, false, false, false, false, false, false, false, false, false, false, false, false, false, false, false, false, false, false, false, false, false, false, false] rfl rfl (by kernel_rfl) (fun _ _ _ h => h) (Or.inl ⟨by rfl, ?_⟩) ?_ ?_
 rotate_left
 ·intro w'
  go_simp
  with_reducible rfl
 rotate_left
 ·simp only [Act.put, Kx.sb, Kx.sz, Kx.ss, i64_w, i32_w]
  rfl
 refine one_ (i := 3) (N := some 50) #[true, true, true, true, false, false, false, false, false, false, false, false, false, false, false, false, false, false, false, false, false, false, false, false, false, false, false, false, false, false, false, false, false, false, false, false, false, false, false, false, false, false, false, false, false, false, false, false, false] rfl rfl (by kernel_rfl) (by decide) (fun K hK => ?_)
 refine goes_ Try.func26 (by kernel_rfl) rfl #[.int .i64 4097] (by rfl) rfl rfl (by simp only [List.map_toArray, List.map_cons, List.map_nil]; rfl) ?_
 refine (record_Size.calls _ _ _ aw05_y).mono ?_
 rintro e wa3 ⟨rfl, hd⟩
 refine ⟨_, rfl, ?_⟩
 have n_HB := Aside0.mk (below_step HB.out hd.below)
 have n_HRy := Aside0.mk (Kd.C_below HRy.out hd.below)
 have n_BK1 := Aside0.mk (blk_below BK1.out hd.below)
 have n_HR8 := Aside0.mk (Kd.C_below HR8.out hd.below)
 have n_HR11 := Aside0.mk (Kd.C_below HR11.out hd.below)
 clear HB HRy BK1 HR8 HR11
 have HB := n_HB
 have HRy := n_HRy
 have BK1 := n_BK1
 have HR8 := n_HR8
 have HR11 := n_HR11
 clear n_HB n_HRy n_BK1 n_HR8 n_HR11
 clear hd
 refine hK.out _ _ ⟨((blk_cell BK1.out 0).trans rfl), ((blk_cell BK1.out 1).trans rfl), ((blk_cell BK1.out 2).trans rfl), (Kd.C_string (P := Try.prog) (A := Aq) (c := cq) Try.underlying23 Try.underlying5 Try.underlying9 HR8.out)⟩ (fun hHeld => ?_)
 clear hK K
 refine norm_ (a' := ?_) ?_ ?_
 rotate_left
 ·show Act.put _ (some 50) _ = _
  simp only [Act.put, Kx.sb, Kx.sz, Kx.ss, i64_w, i32_w]
  rfl
 refine pure_ (i := 4) (N := some 51) (v := ?_) (a' := ?_) #[true, true, true, true, true, false, false, false, false, false, false, false, false, false, false, false, false, false, false, false, false, false, false, false, false, false, false, false, false, false, false, false, false, false, false, false, false, false, false, false, false, false, false, false, false, false, false, false, false] rfl rfl (by kernel_rfl) (fun _ _ _ h => h) (Or.inl ⟨by rfl, ?_⟩) ?_ ?_
 rotate_left
 ·intro w'
  go_simp
  with_reducible rfl
 rotate_left
 ·simp only [Act.put, Kx.sb, Kx.sz, Kx.ss, i64_w, i32_w]
  rfl
 refine pure_ (i := 5) (N := some 52) (v := ?_) (a' := ?_) #[true, true, true, true, true, true, false, false, false, false, false, false, false, false, false, false, false, false, false, false, false, false, false, false, false, false, false, false, false, false, false, false, false, false, false, false, false, false, false, false, false, false, false, false, false, false, false, false, false] rfl rfl (by kernel_rfl) (fun _ _ _ h => h) (Or.inl ⟨by rfl, ?_⟩) ?_ ?_
 rotate_left
 ·intro w'
  go_simp
  with_reducible rfl
 rotate_left
 ·simp only [Act.put, Kx.sb, Kx.sz, Kx.ss, i64_w, i32_w]
  rfl
 refine pure_ (i := 6) (N := some 53) (v := ?_) (a' := ?_) #[true, true, true, true, true, true, true, false, false, false, false, false, false, false, false, false, false, false, false, false, false, false, false, false, false, false, false, false, false, false, false, false, false, false, false, false, false, false, false, false, false, false, false, false, false, false, false, false, false] rfl rfl (by kernel_rfl) (fun _ _ _ h => h) (Or.inl ⟨by rfl, ?_⟩) ?_ ?_
 rotate_left
 ·intro w'
  go_simp
  with_reducible rfl
 rotate_left
 ·simp only [Act.put, Kx.sb, Kx.sz, Kx.ss, i64_w, i32_w]
  rfl
 refine pure_ (i := 7) (N := some 54) (v := ?_) (a' := ?_) #[true, true, true, true, true, true, true, true, false, false, false, false, false, false, false, false, false, false, false, false, false, false, false, false, false, false, false, false, false, false, false, false, false, false, false, false, false, false, false, false, false, false, false, false, false, false, false, false, false] rfl rfl (by kernel_rfl) (fun _ _ _ h => h) (Or.inl ⟨by rfl, ?_⟩) ?_ ?_
 rotate_left
 ·intro w'
  go_simp
  with_reducible rfl
 rotate_left
 ·simp only [Act.put, Kx.sb, Kx.sz, Kx.ss, i64_w, i32_w]
  rfl
 refine pure_ (i := 8) (N := some 55) (v := ?_) (a' := ?_) #[true, true, true, true, true, true, true, true, true, false, false, false, false, false, false, false, false, false, false, false, false, false, false, false, false, false, false, false, false, false, false, false, false, false, false, false, false, false, false, false, false, false, false, false, false, false, false, false, false] rfl rfl (by kernel_rfl) (fun _ _ _ h => h) (Or.inl ⟨by rfl, ?_⟩) ?_ ?_
 rotate_left
 ·intro w'
  go_simp
  with_reducible rfl
 rotate_left
 ·simp only [Act.put, Kx.sb, Kx.sz, Kx.ss, i64_w, i32_w]
  rfl
 refine pure_ (i := 9) (N := some 56) (v := ?_) (a' := ?_) #[true, true, true, true, true, true, true, true, true, true, false, false, false, false, false, false, false, false, false, false, false, false, false, false, false, false, false, false, false, false, false, false, false, false, false, false, false, false, false, false, false, false, false, false, false, false, false, false, false] rfl rfl (by kernel_rfl) (fun _ _ _ h => h) (Or.inl ⟨by rfl, ?_⟩) ?_ ?_
 rotate_left
 ·intro w'
  go_simp
  with_reducible rfl
 rotate_left
 ·simp only [Act.put, Kx.sb, Kx.sz, Kx.ss, i64_w, i32_w]
  rfl
 refine pure_ (i := 10) (N := some 57) (v := ?_) (a' := ?_) #[true, true, true, true, true, true, true, true, true, true, true, false, false, false, false, false, false, false, false, false, false, false, false, false, false, false, false, false, false, false, false, false, false, false, false, false, false, false, false, false, false, false, false, false, false, false, false, false, false] rfl rfl (by kernel_rfl) (fun _ _ _ h => h) (Or.inl ⟨by rfl, ?_⟩) ?_ ?_
 rotate_left
 ·intro w'
  go_simp
  with_reducible rfl
 rotate_left
 ·simp only [Act.put, Kx.sb, Kx.sz, Kx.ss, i64_w, i32_w]
  rfl
 refine pure_ (i := 11) (N := some 58) (v := ?_) (a' := ?_) #[true, true, true, true, true, true, true, true, true, true, true, true, false, false, false, false, false, false, false, false, false, false, false, false, false, false, false, false, false, false, false, false, false, false, false, false, false, false, false, false, false, false, false, false, false, false, false, false, false] rfl rfl (by kernel_rfl) (fun _ _ _ h => h) (Or.inl ⟨by rfl, ?_⟩) ?_ ?_
 rotate_left
 ·intro w'
  go_simp
  with_reducible rfl
 rotate_left
 ·simp only [Act.put, Kx.sb, Kx.sz, Kx.ss, i64_w, i32_w]
  rfl
 refine pure_ (i := 12) (N := some 59) (v := ?_) (a' := ?_) #[true, true, true, true, true, true, true, true, true, true, true, true, true, false, false, false, false, false, false, false, false, false, false, false, false, false, false, false, false, false, false, false, false, false, false, false, false, false, false, false, false, false, false, false, false, false, false, false, false] rfl rfl (by kernel_rfl) (fun _ _ _ h => h) (Or.inl ⟨by rfl, ?_⟩) ?_ ?_
 rotate_left
 ·intro w'
  go_simp
  with_reducible rfl
 rotate_left
 ·simp only [Act.put, Kx.sb, Kx.sz, Kx.ss, i64_w, i32_w]
  rfl
 refine pure_ (i := 13) (N := some 60) (v := ?_) (a' := ?_) #[true, true, true, true, true, true, true, true, true, true, true, true, true, true, false, false, false, false, false, false, false, false, false, false, false, false, false, false, false, false, false, false, false, false, false, false, false, false, false, false, false, false, false, false, false, false, false, false, false] rfl rfl (by kernel_rfl) (fun _ _ _ h => h) (Or.inl ⟨by rfl, ?_⟩) ?_ ?_
 rotate_left
 ·intro w'
  go_simp
  with_reducible rfl
 rotate_left
 ·simp only [Act.put, Kx.sb, Kx.sz, Kx.ss, i64_w, i32_w]
  rfl
 refine pure_ (i := 14) (N := some 61) (v := ?_) (a' := ?_) #[true, true, true, true, true, true, true, true, true, true, true, true, true, true, true, false, false, false, false, false, false, false, false, false, false, false, false, false, false, false, false, false, false, false, false, false, false, false, false, false, false, false, false, false, false, false, false, false, false] rfl rfl (by kernel_rfl) (fun _ _ _ h => h) (Or.inl ⟨by rfl, ?_⟩) ?_ ?_
 rotate_left
 ·intro w'
  go_simp
  with_reducible rfl
 rotate_left
 ·simp only [Act.put, Kx.sb, Kx.sz, Kx.ss, i64_w, i32_w]
  rfl
 refine pure_ (i := 15) (N := some 62) (v := ?_) (a' := ?_) #[true, true, true, true, true, true, true, true, true, true, true, true, true, true, true, true, false, false, false, false, false, false, false, false, false, false, false, false, false, false, false, false, false, false, false, false, false, false, false, false, false, false, false, false, false, false, false, false, false] rfl rfl (by kernel_rfl) (fun _ _ _ h => h) (Or.inl ⟨by rfl, ?_⟩) ?_ ?_
 rotate_left
 ·intro w'
  go_simp
  with_reducible rfl
 rotate_left
 ·simp only [Act.put, Kx.sb, Kx.sz, Kx.ss, i64_w, i32_w]
  rfl
 refine pure_ (i := 16) (N := some 63) (v := ?_) (a' := ?_) #[true, true, true, true, true, true, true, true, true, true, true, true, true, true, true, true, true, false, false, false, false, false, false, false, false, false, false, false, false, false, false, false, false, false, false, false, false, false, false, false, false, false, false, false, false, false, false, false, false] rfl rfl (by kernel_rfl) (fun _ _ _ h => h) (Or.inl ⟨by rfl, ?_⟩) ?_ ?_
 rotate_left
 ·intro w'
  go_simp
  with_reducible rfl
 rotate_left
 ·simp only [Act.put, Kx.sb, Kx.sz, Kx.ss, i64_w, i32_w]
  rfl
 refine pure_ (i := 17) (N := some 64) (v := ?_) (a' := ?_) #[true, true, true, true, true, true, true, true, true, true, true, true, true, true, true, true, true, true, false, false, false, false, false, false, false, false, false, false, false, false, false, false, false, false, false, false, false, false, false, false, false, false, false, false, false, false, false, false, false] rfl rfl (by kernel_rfl) (fun _ _ _ h => h) (Or.inl ⟨by rfl, ?_⟩) ?_ ?_
 rotate_left
 ·intro w'
  go_simp
  with_reducible rfl
 rotate_left
 ·simp only [Act.put, Kx.sb, Kx.sz, Kx.ss, i64_w, i32_w]
  rfl
 refine pure_ (i := 18) (N := some 65) (v := ?_) (a' := ?_) #[true, true, true, true, true, true, true, true, true, true, true, true, true, true, true, true, true, true, true, false, false, false, false, false, false, false, false, false, false, false, false, false, false, false, false, false, false, false, false, false, false, false, false, false, false, false, false, false, false] rfl rfl (by kernel_rfl) (fun _ _ _ h => h) (Or.inl ⟨by rfl, ?_⟩) ?_ ?_
 rotate_left
 ·intro w'
  go_simp
  with_reducible rfl
 rotate_left
 ·simp only [Act.put, Kx.sb, Kx.sz, Kx.ss, i64_w, i32_w]
  rfl
 refine pure_ (i := 19) (N := some 66) (v := ?_) (a' := ?_) #[true, true, true, true, true, true, true, true, true, true, true, true, true, true, true, true, true, true, true, true, false, false, false, false, false, false, false, false, false, false, false, false, false, false, false, false, false, false, false, false, false, false, false, false, false, false, false, false, false] rfl rfl (by kernel_rfl) (fun _ _ _ h => h) (Or.inl ⟨by rfl, ?_⟩) ?_ ?_
 rotate_left
 ·intro w'
  go_simp
  with_reducible rfl
 rotate_left
 ·simp only [Act.put, Kx.sb, Kx.sz, Kx.ss, i64_w, i32_w]
  rfl
 refine pure_ (i := 20) (N := some 67) (v := ?_) (a' := ?_) #[true, true, true, true, true, true, true, true, true, true, true, true, true, true, true, true, true, true, true, true, true, false, false, false, false, false, false, false, false, false, false, false, false, false, false, false, false, false, false, false, false, false, false, false, false, false, false, false, false] rfl rfl (by kernel_rfl) (fun _ _ _ h => h) (Or.inl ⟨by rfl, ?_⟩) ?_ ?_
 rotate_left
 ·intro w'
  go_simp
  with_reducible rfl
 rotate_left
 ·simp only [Act.put, Kx.sb, Kx.sz, Kx.ss, i64_w, i32_w]
  rfl
 refine pure_ (i := 21) (N := some 68) (v := ?_) (a' := ?_) #[true, true, true, true, true, true, true, true, true, true, true, true, true, true, true, true, true, true, true, true, true, true, false, false, false, false, false, false, false, false, false, false, false, false, false, false, false, false, false, false, false, false, false, false, false, false, false, false, false] rfl rfl (by kernel_rfl) (fun _ _ _ h => h) (Or.inl ⟨by rfl, ?_⟩) ?_ ?_
 rotate_left
 ·intro w'
  go_simp
  with_reducible rfl
 rotate_left
 ·simp only [Act.put, Kx.sb, Kx.sz, Kx.ss, i64_w, i32_w]
  rfl
 refine pure_ (i := 22) (N := some 69) (v := ?_) (a' := ?_) #[true, true, true, true, true, true, true, true, true, true, true, true, true, true, true, true, true, true, true, true, true, true, true, false, false, false, false, false, false, false, false, false, false, false, false, false, false, false, false, false, false, false, false, false, false, false, false, false, false] rfl rfl (by kernel_rfl) (fun _ _ _ h => h) (Or.inl ⟨by rfl, ?_⟩) ?_ ?_
 rotate_left
 ·intro w'
  go_simp
  with_reducible rfl
 rotate_left
 ·simp only [Act.put, Kx.sb, Kx.sz, Kx.ss, i64_w, i32_w]
  rfl
 refine pure_ (i := 23) (N := some 70) (v := ?_) (a' := ?_) #[true, true, true, true, true, true, true, true, true, true, true, true, true, true, true, true, true, true, true, true, true, true, true, true, false, false, false, false, false, false, false, false, false, false, false, false, false, false, false, false, false, false, false, false, false, false, false, false, false] rfl rfl (by kernel_rfl) (fun _ _ _ h => h) (Or.inl ⟨by rfl, ?_⟩) ?_ ?_
 rotate_left
 ·intro w'
  go_simp
  with_reducible rfl
 rotate_left
 ·simp only [Act.put, Kx.sb, Kx.sz, Kx.ss, i64_w, i32_w]
  rfl
 refine pure_ (i := 24) (N := some 71) (v := ?_) (a' := ?_) #[true, true, true, true, true, true, true, true, true, true, true, true, true, true, true, true, true, true, true, true, true, true, true, true, true, false, false, false, false, false, false, false, false, false, false, false, false, false, false, false, false, false, false, false, false, false, false, false, false] rfl rfl (by kernel_rfl) (fun _ _ _ h => h) (Or.inl ⟨by rfl, ?_⟩) ?_ ?_
 rotate_left
 ·intro w'
  go_simp
  with_reducible rfl
 rotate_left
 ·simp only [Act.put, Kx.sb, Kx.sz, Kx.ss, i64_w, i32_w]
  rfl
 refine pure_ (i := 25) (N := some 72) (v := ?_) (a' := ?_) #[true, true, true, true, true, true, true, true, true, true, true, true, true, true, true, true, true, true, true, true, true, true, true, true, true, true, false, false, false, false, false, false, false, false, false, false, false, false, false, false, false, false, false, false, false, false, false, false, false] rfl rfl (by kernel_rfl) (fun _ _ _ h => h) (Or.inl ⟨by rfl, ?_⟩) ?_ ?_
 rotate_left
 ·intro w'
  go_simp
  with_reducible rfl
 rotate_left
 ·simp only [Act.put, Kx.sb, Kx.sz, Kx.ss, i64_w, i32_w]
  rfl
 refine pure_ (i := 26) (N := some 73) (v := ?_) (a' := ?_) #[true, true, true, true, true, true, true, true, true, true, true, true, true, true, true, true, true, true, true, true, true, true, true, true, true, true, true, false, false, false, false, false, false, false, false, false, false, false, false, false, false, false, false, false, false, false, false, false, false] rfl rfl (by kernel_rfl) (fun _ _ _ h => h) (Or.inl ⟨by rfl, ?_⟩) ?_ ?_
 rotate_left
 ·intro w'
  go_simp
  with_reducible rfl
 rotate_left
 ·simp only [Act.put, Kx.sb, Kx.sz, Kx.ss, i64_w, i32_w]
  rfl
 refine pure_ (i := 27) (N := some 74) (v := ?_) (a' := ?_) #[true, true, true, true, true, true, true, true, true, true, true, true, true, true, true, true, true, true, true, true, true, true, true, true, true, true, true, true, false, false, false, false, false, false, false, false, false, false, false, false, false, false, false, false, false, false, false, false, false] rfl rfl (by kernel_rfl) (fun _ _ _ h => h) (Or.inl ⟨by rfl, ?_⟩) ?_ ?_
 rotate_left
 ·intro w'
  go_simp
  with_reducible rfl
 rotate_left
 ·simp only [Act.put, Kx.sb, Kx.sz, Kx.ss, i64_w, i32_w]
  rfl
 refine pure_ (i := 28) (N := some 75) (v := ?_) (a' := ?_) #[true, true, true, true, true, true, true, true, true, true, true, true, true, true, true, true, true, true, true, true, true, true, true, true, true, true, true, true, true, false, false, false, false, false, false, false, false, false, false, false, false, false, false, false, false, false, false, false, false] rfl rfl (by kernel_rfl) (fun _ _ _ h => h) (Or.inl ⟨by rfl, ?_⟩) ?_ ?_
 rotate_left
 ·intro w'
  go_simp
  with_reducible rfl
 rotate_left
 ·simp only [Act.put, Kx.sb, Kx.sz, Kx.ss, i64_w, i32_w]
  rfl
 refine pure_ (i := 29) (N := some 76) (v := ?_) (a' := ?_) #[true, true, true, true, true, true, true, true, true, true, true, true, true, true, true, true, true, true, true, true, true, true, true, true, true, true, true, true, true, true, false, false, false, false, false, false, false, false, false, false, false, false, false, false, false, false, false, false, false] rfl rfl (by kernel_rfl) (fun _ _ _ h => h) (Or.inl ⟨by rfl, ?_⟩) ?_ ?_
 rotate_left
 ·intro w'
  go_simp
  with_reducible rfl
 rotate_left
 ·simp only [Act.put, Kx.sb, Kx.sz, Kx.ss, i64_w, i32_w]
  rfl
 refine pure_ (i := 30) (N := some 77) (v := ?_) (a' := ?_) #[true, true, true, true, true, true, true, true, true, true, true, true, true, true, true, true, true, true, true, true, true, true, true, true, true, true, true, true, true, true, true, false, false, false, false, false, false, false, false, false, false, false, false, false, false, false, false, false, false] rfl rfl (by kernel_rfl) (fun _ _ _ h => h) (Or.inl ⟨by rfl, ?_⟩) ?_ ?_
 rotate_left
 ·intro w'
  go_simp
  with_reducible rfl
 rotate_left
 ·simp only [Act.put, Kx.sb, Kx.sz, Kx.ss, i64_w, i32_w]
  rfl
 refine pure_ (i := 31) (N := some 78) (v := ?_) (a' := ?_) #[true, true, true, true, true, true, true, true, true, true, true, true, true, true, true, true, true, true, true, true, true, true, true, true, true, true, true, true, true, true, true, true, false, false, false, false, false, false, false, false, false, false, false, false, false, false, false, false, false] rfl rfl (by kernel_rfl) (fun _ _ _ h => h) (Or.inl ⟨by rfl, ?_⟩) ?_ ?_
 rotate_left
 ·intro w'
  go_simp
  with_reducible rfl
 rotate_left
 ·simp only [Act.put, Kx.sb, Kx.sz, Kx.ss, i64_w, i32_w]
  rfl
 refine one_ (i := 32) (N := some 79) #[true, true, true, true, true, true, true, true, true, true, true, true, true, true, true, true, true, true, true, true, true, true, true, true, true, true, true, true, true, true, true, true, true, false, false, false, false, false, false, false, false, false, false, false, false, false, false, false, false] rfl rfl (by kernel_rfl) (by decide) (fun K hK => ?_)
 refine value_ (w1 := ?_) (v := ?_) (by rfl) rfl ?_ ?_
 rotate_left 2
 ·go_simp
  constructor
  ·rfl
  ·rfl
 have HRm := Aside0.mk (Kx.C_litk .i64 wa3 [0, 24] (by decide) 3 (0, 0))
 have n_HB := Aside0.mk (below_alloc HB.out (.cells #[.int .i64 0, .int .i64 24] 3))
 have n_HRy := Aside0.mk (Kd.C_alloc HRy.out (.cells #[.int .i64 0, .int .i64 24] 3))
 have n_BK1 := Aside0.mk (blk_alloc BK1.out (.cells #[.int .i64 0, .int .i64 24] 3))
 have n_HR8 := Aside0.mk (Kd.C_alloc HR8.out (.cells #[.int .i64 0, .int .i64 24] 3))
 have n_HR11 := Aside0.mk (Kd.C_alloc HR11.out (.cells #[.int .i64 0, .int .i64 24] 3))
 clear HB HRy BK1 HR8 HR11
 have HB := n_HB
 have HRy := n_HRy
 have BK1 := n_BK1
 have HR8 := n_HR8
 have HR11 := n_HR11
 clear n_HB n_HRy n_BK1 n_HR8 n_HR11
 refine hK.out _ _ ⟨((blk_cell BK1.out 0).trans rfl), ((blk_cell BK1.out 1).trans rfl), ((blk_cell BK1.out 2).trans rfl), (Kd.C_string (P := Try.prog) (A := Aq) (c := cq) Try.underlying23 Try.underlying5 Try.underlying9 HR8.out)⟩ (fun hHeld => ?_)
 clear hK K
 refine norm_ (a' := ?_) ?_ ?_
 rotate_left
 ·show Act.put _ (some 79) _ = _
  simp only [Act.put, Kx.sb, Kx.sz, Kx.ss, i64_w, i32_w]
  rfl
 refine one_ (i := 33) (N := some 80) #[true, true, true, true, true, true, true, true, true, true, true, true, true, true, true, true, true, true, true, true, true, true, true, true, true, true, true, true, true, true, true, true, true, true, false, false, false, false, false, false, false, false, false, false, false, false, false, false, false] rfl rfl (by kernel_rfl) (by decide) (fun K hK => ?_)
 refine goes_ Try.func31 (by kernel_rfl) rfl #[.slice A11 2 c11, .slice (some ⟨wa3.heap.size, 0, none⟩) 2 2] (by rfl) rfl rfl (by simp only [List.map_toArray, List.map_cons, List.map_nil]; rfl) ?_
 refine (waggonerref05_Numbers.calls 5 _ _ [0, 24] _ _ [0, 24] _ _ HR11.out HC11.out HRm.out (Nat.le_refl _) aw05_m).mono ?_
 rintro e wa33 ⟨rfl, hd⟩
 refine ⟨_, rfl, ?_⟩
 have n_HB := Aside0.mk (below_step HB.out hd.below)
 have n_HRy := Aside0.mk (Kd.C_below HRy.out hd.below)
 have n_BK1 := Aside0.mk (blk_below BK1.out hd.below)
 have n_HR8 := Aside0.mk (Kd.C_below HR8.out hd.below)
 have n_HR11 := Aside0.mk (Kd.C_below HR11.out hd.below)
 clear HB HRy BK1 HR8 HR11
 have HB := n_HB
 have HRy := n_HRy
 have BK1 := n_BK1
 have HR8 := n_HR8
 have HR11 := n_HR11
 clear n_HB n_HRy n_BK1 n_HR8 n_HR11
 clear hd
 refine hK.out _ _ ⟨((blk_cell BK1.out 0).trans rfl), ((blk_cell BK1.out 1).trans rfl), ((blk_cell BK1.out 2).trans rfl), (Kd.C_string (P := Try.prog) (A := Aq) (c := cq) Try.underlying23 Try.underlying5 Try.underlying9 HR8.out)⟩ (fun hHeld => ?_)
 clear hK K
 refine norm_ (a' := ?_) ?_ ?_
 rotate_left
 ·show Act.put _ (some 80) _ = _
  simp only [Act.put, Kx.sb, Kx.sz, Kx.ss, i64_w, i32_w]
  rfl
 refine pure_ (i := 34) (N := some 81) (v := ?_) (a' := ?_) #[true, true, true, true, true, true, true, true, true, true, true, true, true, true, true, true, true, true, true, true, true, true, true, true, true, true, true, true, true, true, true, true, true, true, true, false, false, false, false, false, false, false, false, false, false, false, false, false, false] rfl rfl (by kernel_rfl) (fun _ _ _ h => h) (Or.inl ⟨by rfl, ?_⟩) ?_ ?_
 rotate_left
 ·intro w'
  go_simp
  with_reducible rfl
 rotate_left
 ·simp only [Act.put, Kx.sb, Kx.sz, Kx.ss, i64_w, i32_w]
  rfl
 refine pure_ (i := 35) (N := some 82) (v := ?_) (a' := ?_) #[true, true, true, true, true, true, true, true, true, true, true, true, true, true, true, true, true, true, true, true, true, true, true, true, true, true, true, true, true, true, true, true, true, true, true, true, false, false, false, false, false, false, false, false, false, false, false, false, false] rfl rfl (by kernel_rfl) (fun _ _ _ h => h) (Or.inl ⟨by rfl, ?_⟩) ?_ ?_
 rotate_left
 ·intro w'
  go_simp
  with_reducible rfl
 rotate_left
 ·simp only [Act.put, Kx.sb, Kx.sz, Kx.ss, i64_w, i32_w]
  rfl
 refine pure_ (i := 36) (N := some 83) (v := ?_) (a' := ?_) #[true, true, true, true, true, true, true, true, true, true, true, true, true, true, true, true, true, true, true, true, true, true, true, true, true, true, true, true, true, true, true, true, true, true, true, true, true, false, false, false, false, false, false, false, false, false, false, false, false] rfl rfl (by kernel_rfl) (fun _ _ _ h => h) (Or.inl ⟨by rfl, ?_⟩) ?_ ?_
 rotate_left
 ·intro w'
  go_simp
  with_reducible rfl
 rotate_left
 ·simp only [Act.put, Kx.sb, Kx.sz, Kx.ss, i64_w, i32_w]
  rfl
 refine pure_ (i := 37) (N := some 84) (v := ?_) (a' := ?_) #[true, true, true, true, true, true, true, true, true, true, true, true, true, true, true, true, true, true, true, true, true, true, true, true, true, true, true, true, true, true, true, true, true, true, true, true, true, true, false, false, false, false, false, false, false, false, false, false, false] rfl rfl (by kernel_rfl) (fun _ _ _ h => h) (Or.inl ⟨by rfl, ?_⟩) ?_ ?_
 rotate_left
 ·intro w'
  go_simp
  with_reducible rfl
 rotate_left
 ·simp only [Act.put, Kx.sb, Kx.sz, Kx.ss, i64_w, i32_w]
  rfl
 refine take_ (i := 38) (N := some 85) (v := ?_) (a' := ?_) #[true, true, true, true, true, true, true, true, true, true, true, true, true, true, true, true, true, true, true, true, true, true, true, true, true, true, true, true, true, true, true, true, true, true, true, true, true, true, true, false, false, false, false, false, false, false, false, false, false] rfl rfl (by kernel_rfl) (fun _ _ _ h => h) (Or.inl ⟨by rfl, ?_⟩) hHeld ?_ ?_
 rotate_left
 ·rintro w' ⟨s0, s1, s2, s3⟩
  go_simp
  with_reducible rfl
 rotate_left
 ·simp only [Act.put, Kx.sb, Kx.sz, Kx.ss, i64_w, i32_w]
  rfl
 refine one_ (i := 39) (N := some 86) #[true, true, true, true, true, true, true, true, true, true, true, true, true, true, true, true, true, true, true, true, true, true, true, true, true, true, true, true, true, true, true, true, true, true, true, true, true, true, true, true, false, false, false, false, false, false, false, false, false] rfl rfl (by kernel_rfl) (by decide) (fun K hK => ?_)
 refine value_ (w1 := ?_) (v := ?_) (by rfl) rfl ?_ ?_
 rotate_left 2
 ·go_simp
  constructor
  ·rfl
  ·rfl
 obtain ⟨gl, hgl⟩ : ∃ gl, gl = wa33.heap.size := ⟨_, rfl⟩
 have HRl := Aside0.mk (Kx.C_lita .u8 gl wa33 hgl [87, 82, 76, 71, 1, 0, 4, 0] (by decide) 5 (0, 0))
 rw [← hgl]
 clear hgl
 have n_HB := Aside0.mk (below_alloc HB.out (.cells #[.int .u8 87, .int .u8 82, .int .u8 76, .int .u8 71, .int .u8 1, .int .u8 0, .int .u8 4, .int .u8 0] 5))
 have n_HRy := Aside0.mk (Kd.C_alloc HRy.out (.cells #[.int .u8 87, .int .u8 82, .int .u8 76, .int .u8 71, .int .u8 1, .int .u8 0, .int .u8 4, .int .u8 0] 5))
 have n_BK1 := Aside0.mk (blk_alloc BK1.out (.cells #[.int .u8 87, .int .u8 82, .int .u8 76, .int .u8 71, .int .u8 1, .int .u8 0, .int .u8 4, .int .u8 0] 5))
 have n_HR8 := Aside0.mk (Kd.C_alloc HR8.out (.cells #[.int .u8 87, .int .u8 82, .int .u8 76, .int .u8 71, .int .u8 1, .int .u8 0, .int .u8 4, .int .u8 0] 5))
 have n_HR11 := Aside0.mk (Kd.C_alloc HR11.out (.cells #[.int .u8 87, .int .u8 82, .int .u8 76, .int .u8 71, .int .u8 1, .int .u8 0, .int .u8 4, .int .u8 0] 5))
 clear HB HRy BK1 HR8 HR11
 have HB := n_HB
 have HRy := n_HRy
 have BK1 := n_BK1
 have HR8 := n_HR8
 have HR11 := n_HR11
 clear n_HB n_HRy n_BK1 n_HR8 n_HR11
 refine hK.out _ _ ⟨((blk_cell BK1.out 0).trans rfl), ((blk_cell BK1.out 1).trans rfl), ((blk_cell BK1.out 2).trans rfl), (Kd.C_string (P := Try.prog) (A := Aq) (c := cq) Try.underlying23 Try.underlying5 Try.underlying9 HR8.out)⟩ (fun hHeld => ?_)
 clear hK K
 refine norm_ (a' := ?_) ?_ ?_
 rotate_left
 ·show Act.put _ (some 86) _ = _
  simp only [Act.put, Kx.sb, Kx.sz, Kx.ss, i64_w, i32_w]
  rfl
 refine stronger_ (fun w' => (convert 23 9 (.slice (some ⟨gl, 0, none⟩) 8 8)).run Try.prog w' = .ok (.string (strOfNums [87, 82, 76, 71, 1, 0, 4, 0])) w') hHeld ((Kd.C_string (P := Try.prog) (A := some ⟨gl, 0, none⟩) (c := 8) Try.underlying23 Try.underlying5 Try.underlying9 HRl.out)) (fun hHeld => ?_)
 refine take_ (i := 40) (N := some 87) (v := ?_) (a' := ?_) #[true, true, true, true, true, true, true, true, true, true, true, true, true, true, true, true, true, true, true, true, true, true, true, true, true, true, true, true, true, true, true, true, true, true, true, true, true, true, true, true, true, false, false, false, false, false, false, false, false] rfl rfl (by kernel_rfl) (fun _ _ _ h => h) (Or.inl ⟨by rfl, ?_⟩) hHeld ?_ ?_
 rotate_left
 ·rintro w' ⟨⟨s0, s1, s2, s3⟩, s4⟩
  go_simp
  with_reducible rfl
 rotate_left
 ·simp only [Act.put, Kx.sb, Kx.sz, Kx.ss, i64_w, i32_w]
  rfl
 refine pure_ (i := 41) (N := some 88) (v := ?_) (a' := ?_) #[true, true, true, true, true, true, true, true, true, true, true, true, true, true, true, true, true, true, true, true, true, true, true, true, true, true, true, true, true, true, true, true, true, true, true, true, true, true, true, true, true, true, false, false, false, false, false, false, false] rfl rfl (by kernel_rfl) (fun _ _ _ h => h) (Or.inl ⟨by rfl, ?_⟩) ?_ ?_
 rotate_left
 ·intro w'
  go_simp
  with_reducible rfl
 rotate_left
 ·simp only [Act.put, Kx.sb, Kx.sz, Kx.ss, i64_w, i32_w]
  rfl
 refine pure_ (i := 42) (N := some 89) (v := ?_) (a' := ?_) #[true, true, true, true, true, true, true, true, true, true, true, true, true, true, true, true, true, true, true, true, true, true, true, true, true, true, true, true, true, true, true, true, true, true, true, true, true, true, true, true, true, true, true, false, false, false, false, false, false] rfl rfl (by kernel_rfl) (fun _ _ _ h => h) (Or.inl ⟨by rfl, ?_⟩) ?_ ?_
 rotate_left
 ·intro w'
  go_simp
  with_reducible rfl
 rotate_left
 ·simp only [Act.put, Kx.sb, Kx.sz, Kx.ss, i64_w, i32_w]
  rfl
 refine pure_ (i := 43) (N := some 90) (v := ?_) (a' := ?_) #[true, true, true, true, true, true, true, true, true, true, true, true, true, true, true, true, true, true, true, true, true, true, true, true, true, true, true, true, true, true, true, true, true, true, true, true, true, true, true, true, true, true, true, true, false, false, false, false, false] rfl rfl (by kernel_rfl) (fun _ _ _ h => h) (Or.inl ⟨by rfl, ?_⟩) ?_ ?_
 rotate_left
 ·intro w'
  go_simp
  with_reducible rfl
 rotate_left
 ·simp only [Act.put, Kx.sb, Kx.sz, Kx.ss, i64_w, i32_w]
  rfl
 refine take_ (i := 44) (N := some 91) (v := ?_) (a' := ?_) #[true, true, true, true, true, true, true, true, true, true, true, true, true, true, true, true, true, true, true, true, true, true, true, true, true, true, true, true, true, true, true, true, true, true, true, true, true, true, true, true, true, true, true, true, true, false, false, false, false] rfl rfl (by kernel_rfl) (fun _ _ _ h => h) (Or.inl ⟨by rfl, ?_⟩) hHeld ?_ ?_
 rotate_left
 ·rintro w' ⟨⟨s0, s1, s2, s3⟩, s4⟩
  go_simp
  with_reducible rfl
 rotate_left
 ·simp only [Act.put, Kx.sb, Kx.sz, Kx.ss, i64_w, i32_w]
  rfl
 refine one_ (i := 45) (N := some 92) #[true, true, true, true, true, true, true, true, true, true, true, true, true, true, true, true, true, true, true, true, true, true, true, true, true, true, true, true, true, true, true, true, true, true, true, true, true, true, true, true, true, true, true, true, true, true, false, false, false] rfl rfl (by kernel_rfl) (by decide) (fun K hK => ?_)
 refine goes_ Try.func24 (by kernel_rfl) rfl #[.agg #[.int .i64 1, .int .i64 9, .slice (some ⟨gy, 0, none⟩) 4 4]] (by rfl) rfl rfl (by simp only [List.map_toArray, List.map_cons, List.map_nil]; rfl) ?_
 refine (record_Check.calls 1 9 _ _ [98, 111, 100, 121] _ _ HRy.out (Nat.le_refl _) aw05_c).mono ?_
 rintro e wa45 ⟨rfl, hb⟩
 refine ⟨_, rfl, ?_⟩
 have n_HB := Aside0.mk (below_step HB.out hb)
 have n_HRy := Aside0.mk (Kd.C_below HRy.out hb)
 have n_BK1 := Aside0.mk (blk_below BK1.out hb)
 have n_HR8 := Aside0.mk (Kd.C_below HR8.out hb)
 have n_HR11 := Aside0.mk (Kd.C_below HR11.out hb)
 have n_HRl := Aside0.mk (Kd.C_below HRl.out hb)
 clear HB HRy BK1 HR8 HR11 HRl
 have HB := n_HB
 have HRy := n_HRy
 have BK1 := n_BK1
 have HR8 := n_HR8
 have HR11 := n_HR11
 have HRl := n_HRl
 clear n_HB n_HRy n_BK1 n_HR8 n_HR11 n_HRl
 clear hb
 refine hK.out _ _ ⟨⟨((blk_cell BK1.out 0).trans rfl), ((blk_cell BK1.out 1).trans rfl), ((blk_cell BK1.out 2).trans rfl), (Kd.C_string (P := Try.prog) (A := Aq) (c := cq) Try.underlying23 Try.underlying5 Try.underlying9 HR8.out)⟩, ((Kd.C_string (P := Try.prog) (A := some ⟨gl, 0, none⟩) (c := 8) Try.underlying23 Try.underlying5 Try.underlying9 HRl.out))⟩ (fun hHeld => ?_)
 clear hK K
 refine norm_ (a' := ?_) ?_ ?_
 rotate_left
 ·show Act.put _ (some 92) _ = _
  simp only [Act.put, Kx.sb, Kx.sz, Kx.ss, i64_w, i32_w]
  rfl
 refine pure_ (i := 46) (N := some 93) (v := ?_) (a' := ?_) #[true, true, true, true, true, true, true, true, true, true, true, true, true, true, true, true, true, true, true, true, true, true, true, true, true, true, true, true, true, true, true, true, true, true, true, true, true, true, true, true, true, true, true, true, true, true, true, false, false] rfl rfl (by kernel_rfl) (fun _ _ _ h => h) (Or.inl ⟨by rfl, ?_⟩) ?_ ?_
 rotate_left
 ·intro w'
  go_simp
  with_reducible rfl
 rotate_left
 ·simp only [Act.put, Kx.sb, Kx.sz, Kx.ss, i64_w, i32_w]
  rfl
 refine pure_ (i := 47) (N := some 94) (v := ?_) (a' := ?_) #[true, true, true, true, true, true, true, true, true, true, true, true, true, true, true, true, true, true, true, true, true, true, true, true, true, true, true, true, true, true, true, true, true, true, true, true, true, true, true, true, true, true, true, true, true, true, true, true, false] rfl rfl (by kernel_rfl) (fun _ _ _ h => h) (Or.inl ⟨by rfl, ?_⟩) ?_ ?_
 rotate_left
 ·intro w'
  go_simp
  with_reducible rfl
 rotate_left
 ·simp only [Act.put, Kx.sb, Kx.sz, Kx.ss, i64_w, i32_w]
  rfl
 refine pure_ (i := 48) (N := some 0) (v := ?_) (a' := ?_) #[true, true, true, true, true, true, true, true, true, true, true, true, true, true, true, true, true, true, true, true, true, true, true, true, true, true, true, true, true, true, true, true, true, true, true, true, true, true, true, true, true, true, true, true, true, true, true, true, true] rfl rfl (by kernel_rfl) (fun _ _ _ h => h) (Or.inl ⟨by rfl, ?_⟩) ?_ ?_
 rotate_left
 ·intro w'
  go_simp
  with_reducible rfl
 rotate_left
 ·simp only [Act.put, Kx.sb, Kx.sz, Kx.ss, i64_w, i32_w]
  rfl
 refine done_ (by kernel_rfl) ?_
 go_wp2
 go_ret
 exact ⟨rfl, HB.out⟩
end Go.Proofs.Ytcemlfkboifncaa.PU
