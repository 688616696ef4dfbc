/- Functions of the program as Lean functions, and that the Go code comes to just their answers: no condition but that the function says so. (Written by a program of this workplace over the kit's print, with contracts by hand.) -/
import Derived.Test.YtcemlfkboifncaaPVx12
import Derived.Test.YtcemlfkboifncaaPVx24
import Derived.Test.YtcemlfkboifncaaPVx33
namespace Go.Proofs.Ytcemlfkboifncaa.PV
open Go.RowKit Go.Proofs.YtcemlfkboifncaaW.PrintWords Go.Proofs.YtcemlfkboifncaaW.PrintLast Go.Proofs.YtcemlfkboifncaaW.PrintMore
attribute [local go_sem] max2_int min2_int max_two min_two max_three min_three max_four min_four   -- for this text's walks alone
set_option linter.unusedVariables false
set_option linter.unusedSimpArgs false

/-! ### waggonerlaw05_awake: function 18 -/
def waggonerlaw05_awake.f : Option Bool := some true
theorem aw05_w : record_Write.f 1 9 [98, 111, 100, 121] = some (Pl.recB 1 9 [98, 111, 100, 121], 0) := by kernel_rfl
theorem aw05_r : record_Read.f (Pl.recB 1 9 [98, 111, 100, 121]) = some (1, 9, [98, 111, 100, 121], 24, 0) := by kernel_rfl
theorem aw05_n : record_Read.f [] = some (0, 0, [], 0, 50) := by kernel_rfl
theorem aw05_s : record_Scan.f (Pl.recB 1 9 [98, 111, 100, 121] ++ Pl.recB 1 9 [98, 111, 100, 121]) = some ([⟨1, 9, [98, 111, 100, 121]⟩, ⟨1, 9, [98, 111, 100, 121]⟩], [0, 24]) := by kernel_rfl
theorem aw05_e : waggonerref05_Same.f 1 9 [98, 111, 100, 121] 1 9 [98, 111, 100, 121] = some true := by kernel_rfl
theorem aw05_m : waggonerref05_Numbers.f 5 [0, 24] [0, 24] = some true := by kernel_rfl
theorem aw05_z : record_Size.f 0 = some 20 := by kernel_rfl
theorem aw05_y : record_Size.f 4097 = some 0 := by kernel_rfl
theorem aw05_c : record_Check.f 1 9 [98, 111, 100, 121] = some 0 := by kernel_rfl
theorem aw05_t : (Pl.recB 1 9 [98, 111, 100, 121]).take 8 = [87, 82, 76, 71, 1, 0, 4, 0] := by kernel_rfl
set_option maxHeartbeats 2000000 in
set_option maxRecDepth 2000000 in
theorem waggonerlaw05_awake.calls (r : Bool) (w : World) (h : waggonerlaw05_awake.f = some r) :
  Calls Try.prog 18 #[] w fun e w' => e = .returned (.bool r) ∧ Below w.heap.size w w' := by
 unfold waggonerlaw05_awake.f at h
 obtain rfl := Option.some.inj h
 clear h
 have hu25 := Try.underlying25
 have kc := fun (w : World) (C : Array Value) (n c : Nat) => Lib.run_convert_bytes_const (P := Try.prog) w 23 5 C n c Try.underlying23 Try.underlying5
 go_enter Try.func18, Try.ntmps18
 go_wp2_with fail
 obtain ⟨g1, hg1⟩ : ∃ g, g = w.heap.size + 1 := ⟨_, rfl⟩
 have BK1 := Aside0.mk (blk_new (w.alloc (.cells #[.int .u8 98, .int .u8 111, .int .u8 100, .int .u8 121] 5 (4, 5))) (.cells #[.int .i64 1, .int .i64 9, .slice (some ⟨w.heap.size, 0, none⟩) 4 4] 25))
 rw [show (w.alloc (.cells #[.int .u8 98, .int .u8 111, .int .u8 100, .int .u8 121] 5 (4, 5))).heap.size = g1 from by rw [hg1]; simp] at BK1
 rw [← hg1]
 clear hg1
 have HRy0 := Aside0.mk (Kd.C_alloc (Kx.C_lit w [98, 111, 100, 121] (by decide) 5 (4, 5)) (.cells #[.int .i64 1, .int .i64 9, .slice (some ⟨w.heap.size, 0, none⟩) 4 4] 25))
 refine (record_Write.calls 1 9 _ _ [98, 111, 100, 121] _ _ _ HRy0.out (Nat.le_refl _) aw05_w).mono ?_
 rintro e w1 ⟨v1, rfl, ho, hb⟩
 obtain ⟨Aq, cq, rfl, hcq, hrq⟩ := Kd.R_reads ho
 have HB := Aside0.mk (below_step (below_alloc (below_alloc (Below.refl w.heap.size w) _) _) hb)
 have HRy := Aside0.mk (Kd.C_below HRy0.out hb)
 have n1 := Aside0.mk (blk_below BK1.out hb)
 have HCq := Aside0.mk hcq
 have HRq := Aside0.mk hrq
 have HQr := Aside0.mk aw05_r
 have HQs := Aside0.mk aw05_s
 have HQt := Aside0.mk aw05_t
 have HQl : Aside0 ((Pl.recB 1 9 [98, 111, 100, 121]).length = 24) := ⟨by rw [Pl.recB_length]; rfl⟩
 clear BK1 HRy0 ho hb hcq hrq
 have BK1 := n1
 clear n1
 generalize w.heap.size = gy at BK1 HRy ⊢
 generalize Pl.recB 1 9 [98, 111, 100, 121] = q at HCq HRq HQr HQs HQt HQl ⊢
 go_wp2_with fail
 refine (record_Read.calls Aq cq q _ _ _ _ _ _ HRq.out HCq.out HQr.out).mono ?_
 rintro e w2 ⟨v2, rfl, ho, hb⟩
 obtain ⟨A2, c2, rfl, hc2, hr2⟩ := Kd.R_reads ho
 have n1 := Aside0.mk (below_step HB.out hb)
 have n2 := Aside0.mk (Kd.C_below HRy.out hb)
 have n3 := Aside0.mk (blk_below BK1.out hb)
 have n4 := Aside0.mk (Kd.C_below HRq.out hb)
 have HC2 := Aside0.mk hc2
 have HR2 := Aside0.mk hr2
 clear HB HRy BK1 HRq ho hb hc2 hr2 HQr
 have HB := n1
 have HRy := n2
 have BK1 := n3
 have HRq := n4
 clear n1 n2 n3 n4
 go_wp2_with fail
 refine (record_Read.calls none 0 [] _ _ _ _ _ _ (Kd.C_nil _ _) (Nat.le_refl _) aw05_n).mono ?_
 rintro e w3 ⟨v3, rfl, ho, hb⟩
 obtain ⟨A3, c3, rfl, hc3, hr3⟩ := Kd.R_reads ho
 have n1 := Aside0.mk (below_step (below_alloc HB.out _) hb)
 have n2 := Aside0.mk (Kd.C_below (Kd.C_alloc HRy.out _) hb)
 have n3 := Aside0.mk (blk_below (blk_alloc BK1.out _) hb)
 have n4 := Aside0.mk (Kd.C_below (Kd.C_alloc HRq.out _) hb)
 have n5 := Aside0.mk (Kd.C_below (Kd.C_alloc HR2.out _) hb)
 have BK4 := Aside0.mk (blk_below (blk_new w2 (.cells #[.int .i64 1, .int .i64 9, .slice A2 4 c2] 25)) hb)
 clear HB HRy BK1 HRq HR2 ho hb hc3 hr3
 have HB := n1
 have HRy := n2
 have BK1 := n3
 have HRq := n4
 have HR2 := n5
 clear n1 n2 n3 n4 n5
 generalize w2.heap.size = g4 at BK4 ⊢
 go_upto_region 5 with (fail)
 have n1 := Aside0.mk (below_alloc HB.out (.cells #[.int .i64 0, .int .i64 0, .slice A3 0 c3] 25))
 have n2 := Aside0.mk (Kd.C_alloc HRy.out (.cells #[.int .i64 0, .int .i64 0, .slice A3 0 c3] 25))
 have n3 := Aside0.mk (blk_alloc BK1.out (.cells #[.int .i64 0, .int .i64 0, .slice A3 0 c3] 25))
 have n4 := Aside0.mk (Kd.C_alloc HRq.out (.cells #[.int .i64 0, .int .i64 0, .slice A3 0 c3] 25))
 have n5 := Aside0.mk (Kd.C_alloc HR2.out (.cells #[.int .i64 0, .int .i64 0, .slice A3 0 c3] 25))
 have n6 := Aside0.mk (blk_alloc BK4.out (.cells #[.int .i64 0, .int .i64 0, .slice A3 0 c3] 25))
 clear HB HRy BK1 HRq HR2 BK4
 have HB := n1
 have HRy := n2
 have BK1 := n3
 have HRq := n4
 have HR2 := n5
 have BK4 := n6
 clear n1 n2 n3 n4 n5 n6
 generalize w3.alloc (.cells #[.int .i64 0, .int .i64 0, .slice A3 0 c3] 25) = w4 at HB HRy BK1 HRq HR2 BK4 ⊢
 go_wp2_with (first | ((with_reducible refine gate_dst (N := 33) rfl ?_); refine Kd.R_lit (Kd.int .u8) _ 5 ?hg (N := 33) ?hd (xs := ([] : List Int)) (inner := []) (ok := fun _ => True) (okp := fun _ => True) ?hr ?hp (fun _ hk => hk) trivial (Below.refl _ _) (Nat.le_refl _) (by simp) ?_; (case hd => rfl); (case hg => rfl); (case hr => first | (go_simp; done) | (go_simp; rfl)); (case hp => exact (Reps.none _ _)); intro v110 w13 ho14 hb hg_ hnew_; clear hg_ hnew_; have HL := Aside0.mk ho14; have HLB := Aside0.mk hb; clear hb ho14) | ((with_reducible refine gate_builtin (b := .append) (xs := #[.tmp 33, .tmp 34]) rfl ?_); at_builtin; go_must (refine Kd.R_append_rows (Kd.int .u8) (w0 := w4) w4.heap.size rfl (.tmp 33) (.tmp 34) 23 5 (.int .u8 0) 1 rfl Try.underlying23 info5 rfl (by decide) (by omega) v110 [] q _ _ _ (fun _ => True) (fun _ => False) rfl rfl ?aO ?aR (fun _ _ h => h) (fun _ h => h.elim) ?aF ?aB ?aS ?aL ?_); (case aR => exact (Kd.C_below HRq.out HLB.out)); (case aB => exact HLB.out); (case aF => exact (fun _ _ => trivial)); (case aO => exact HL.out); (case aS => exact HLB.out.size); (case aL => have := HQl.out; simp; omega); intro v113 w15c ho hb hg hat; rw [List.nil_append] at ho; have HOc := Aside0.mk ho; have HBOc := Aside0.mk hb; clear HL HLB ho hb hg hat) | ((with_reducible refine gate_builtin (b := .append) (xs := #[.tmp 35, .tmp 36]) rfl ?_); at_builtin; go_must (refine Kd.R_append_rows (Kd.int .u8) (w0 := w4) w4.heap.size rfl (.tmp 35) (.tmp 36) 23 5 (.int .u8 0) 1 rfl Try.underlying23 info5 rfl (by decide) (by omega) v113 q q _ _ _ (fun _ => True) (fun _ => False) rfl rfl ?bO ?bR (fun _ _ h => h) (fun _ h => h.elim) ?bF ?bB ?bS ?bL ?_); (case bR => exact (Kd.C_below HRq.out HBOc.out)); (case bB => exact HBOc.out); (case bF => exact (fun _ _ => trivial)); (case bO => exact HOc.out); (case bS => exact HBOc.out.size); (case bL => have := HQl.out; omega); intro v114 w16 ho hb hg hat; have HO2 := Aside0.mk ho; have HB2 := Aside0.mk hb; clear ho hb hg hat))
 obtain ⟨As, cs, rfl, hcs, hrs⟩ := Kd.R_reads HO2.out
 clear HOc HBOc
 refine (record_Scan.calls As cs (q ++ q) _ _ _ hrs hcs HQs.out).mono ?_
 rintro e w17 ⟨v10, v11, rfl, hs, hi, hb⟩
 obtain ⟨A10, c10, rfl, -, -⟩ := Kd.S_reads hs
 obtain ⟨A11, c11, rfl, hc11, hr11⟩ := Kd.R_reads hi
 have n1 := Aside0.mk (below_step (below_step HB.out HB2.out) hb)
 have n2 := Aside0.mk (Kd.C_below (Kd.C_below HRy.out HB2.out) hb)
 have n3 := Aside0.mk (blk_below (blk_below BK1.out HB2.out) hb)
 have n4 := Aside0.mk (Kd.C_below (Kd.C_below HRq.out HB2.out) hb)
 have n5 := Aside0.mk (Kd.C_below (Kd.C_below HR2.out HB2.out) hb)
 have n6 := Aside0.mk (blk_below (blk_below BK4.out HB2.out) hb)
 have HC11 := Aside0.mk hc11
 have HR11 := Aside0.mk hr11
 clear HB HRy BK1 HRq HR2 BK4 HO2 HB2 hs hi hb hc11 hr11 hcs hrs HQs
 have HB := n1
 have HRy := n2
 have BK1 := n3
 have HRq := n4
 have HR2 := n5
 have BK4 := n6
 clear n1 n2 n3 n4 n5 n6
 have dq : ((q.length : Int) != 24) = false := by rw [HQl.out]; rfl
 have dq' : (q.length != 24) = false := by rw [HQl.out]; rfl
 have c40 : w17.cell? ⟨g4, 0, none⟩ = some (.int .i64 1) := (blk_cell BK4.out 0).trans rfl
 have c41 : w17.cell? ⟨g4, 1, none⟩ = some (.int .i64 9) := (blk_cell BK4.out 1).trans rfl
 have c42 : w17.cell? ⟨g4, 2, none⟩ = some (.slice A2 4 c2) := (blk_cell BK4.out 2).trans rfl
 have c10_ : w17.cell? ⟨g1, 0, none⟩ = some (.int .i64 1) := (blk_cell BK1.out 0).trans rfl
 have c11_ : w17.cell? ⟨g1, 1, none⟩ = some (.int .i64 9) := (blk_cell BK1.out 1).trans rfl
 have c12_ : w17.cell? ⟨g1, 2, none⟩ = some (.slice (some ⟨gy, 0, none⟩) 4 4) := (blk_cell BK1.out 2).trans rfl
 go_wp2_with fail
 refine (waggonerref05_Same.calls 1 9 _ _ [98, 111, 100, 121] 1 9 _ _ [98, 111, 100, 121] true _ HR2.out HC2.out HRy.out (Nat.le_refl _) aw05_e).mono ?_
 rintro e w18 ⟨rfl, hb⟩
 have n1 := Aside0.mk (below_step HB.out hb)
 have n2 := Aside0.mk (Kd.C_below HRy.out hb)
 have n3 := Aside0.mk (blk_below BK1.out hb)
 have n4 := Aside0.mk (Kd.C_below HRq.out hb)
 have n5 := Aside0.mk (Kd.C_below HR11.out hb)
 clear HB HRy BK1 HRq HR2 HC2 BK4 HR11 hb c40 c41 c42 c10_ c11_ c12_ dq dq'
 have HB := n1
 have HRy := n2
 have BK1 := n3
 have HRq := n4
 have HR11 := n5
 clear n1 n2 n3 n4 n5
 obtain ⟨i0, hi, hz0, hz1, hz2⟩ := info_parts info5
 obtain ⟨hcut, -, hC⟩ := print_take_of (P := Try.prog) (Value.int .u8) 0 23 5 .i64 Try.underlying23 hi hz1 Aq cq q (8 : Int) (by omega) (by have := HQl.out; omega) HCq.out
 rw [show (8 : Int).toNat = 8 from rfl, HQt.out] at hcut
 replace hcut : ∀ W : World, (Instr.slice 23 (.slice Aq q.length cq) none (some (.int .i64 8)) none).run Try.prog W = .ok (.slice Aq 8 cq) W := hcut
 have HR8 := Aside0.mk (Kx.takeC 8 (by have := HQl.out; omega) HRq.out)
 rw [HQt.out] at HR8
 clear hi hz0 hz1 hz2 hC HRq
 go_wp2
 have n_HB := Aside0.mk (below_drew HB.out)
 have n_HRy := Aside0.mk (Kd.C_drew HRy.out)
 have n_BK1 := Aside0.mk (blk_drew BK1.out)
 have n_HR8 := Aside0.mk (Kd.C_drew HR8.out)
 have n_HR11 := Aside0.mk (Kd.C_drew HR11.out)
 clear HB HRy BK1 HR8 HR11
 have HB := n_HB
 have HRy := n_HRy
 have BK1 := n_BK1
 have HR8 := n_HR8
 have HR11 := n_HR11
 clear n_HB n_HRy n_BK1 n_HR8 n_HR11
 refine start_ (n := 49) (S := fun w' => w'.cell? ⟨g1, 0, none⟩ = some (.int .i64 1) ∧ w'.cell? ⟨g1, 1, none⟩ = some (.int .i64 9) ∧ w'.cell? ⟨g1, 2, none⟩ = some (.slice (some ⟨gy, 0, none⟩) 4 4) ∧ (convert 23 9 (.slice Aq 8 cq)).run Try.prog w' = .ok (.string (strOfNums [87, 82, 76, 71, 1, 0, 4, 0])) w') (ds := []) #[false, false, false, false, false, false, false, false, false, false, false, false, false, false, false, false, false, false, false, false, false, false, false, false, false, false, false, false, false, false, false, false, false, false, false, false, false, false, false, false, false, false, false, false, false, false, false, false, false] (by kernel_rfl) rfl rfl ⟨((blk_cell BK1.out 0).trans rfl), ((blk_cell BK1.out 1).trans rfl), ((blk_cell BK1.out 2).trans rfl), (Kd.C_string (P := Try.prog) (A := Aq) (c := cq) Try.underlying23 Try.underlying5 Try.underlying9 HR8.out)⟩ (fun hHeld => ?_)
 generalize w18.drew = wd at HB HRy BK1 HR8 HR11 hHeld ⊢
 refine one_ (i := 0) (N := some 47) #[true, false, false, false, false, false, false, false, false, false, false, false, false, false, false, false, false, false, false, false, false, false, false, false, false, false, false, false, false, false, false, false, false, false, false, false, false, false, false, false, false, false, false, false, false, false, false, false, false] rfl rfl (by kernel_rfl) (by decide) (fun K hK => ?_)
 refine goes_ Try.func26 (by kernel_rfl) rfl #[.int .i64 0] (by rfl) rfl rfl (by simp only [List.map_toArray, List.map_cons, List.map_nil]; rfl) ?_
 refine (record_Size.calls _ _ _ aw05_z).mono ?_
 rintro e wa0 ⟨rfl, hd⟩
 refine ⟨_, rfl, ?_⟩
 have n_HB := Aside0.mk (below_step HB.out hd.below)
 have n_HRy := Aside0.mk (Kd.C_below HRy.out hd.below)
 have n_BK1 := Aside0.mk (blk_below BK1.out hd.below)
 have n_HR8 := Aside0.mk (Kd.C_below HR8.out hd.below)
 have n_HR11 := Aside0.mk (Kd.C_below HR11.out hd.below)
 clear HB HRy BK1 HR8 HR11
 have HB := n_HB
 have HRy := n_HRy
 have BK1 := n_BK1
 have HR8 := n_HR8
 have HR11 := n_HR11
 clear n_HB n_HRy n_BK1 n_HR8 n_HR11
 clear hd
 refine hK.out _ _ ⟨((blk_cell BK1.out 0).trans rfl), ((blk_cell BK1.out 1).trans rfl), ((blk_cell BK1.out 2).trans rfl), (Kd.C_string (P := Try.prog) (A := Aq) (c := cq) Try.underlying23 Try.underlying5 Try.underlying9 HR8.out)⟩ (fun hHeld => ?_)
 clear hK K
 refine norm_ (a' := ?_) ?_ ?_
 rotate_left
 ·show Act.put _ (some 47) _ = _
  simp only [Act.put, Kx.sb, Kx.sz, Kx.ss, i64_w, i32_w]
  rfl
 refine pure_ (i := 1) (N := some 48) (v := ?_) (a' := ?_) #[true, true, false, false, false, false, false, false, false, false, false, false, false, false, false, false, false, false, false, false, false, false, false, false, false, false, false, false, false, false, false, false, false, false, false, false, false, false, false, false, false, false, false, false, false, false, false, false, false] rfl rfl (by kernel_rfl) (fun _ _ _ h => h) (Or.inl ⟨by rfl, ?_⟩) ?_ ?_
 rotate_left
 ·intro w'
  go_simp
  with_reducible rfl
 rotate_left
 ·simp only [Act.put, Kx.sb, Kx.sz, Kx.ss, i64_w, i32_w]
  rfl
 refine pure_ (i := 2) (N := some 49) (v := ?_) (a' := ?_) #[true, true, true, false, false, false, false, false, false, false, false, false, false, false, false, false, false, false, false, false, false, false, false, false, false, false, false, false, false, false, false, false, false, false, false, false, false, false, false, false, false, false, false, false, false, false, false, false, false] rfl rfl (by kernel_rfl) (fun _ _ _ h => h) (Or.inl ⟨by rfl, ?_⟩) ?_ ?_
 rotate_left
 ·intro w'
  go_simp
  with_reducible rfl
 rotate_left
 ·simp only [Act.put, Kx.sb, Kx.sz, Kx.ss, i64_w, i32_w]
  rfl
 refine one_ (i := 3) (N := some 50) #[true, true, true, true, false, false, false, false, false, false, false, false, false, false, false, false, false, false, false, false, false, false, false, false, false, false, false, false, false, false, false, false, false, false, false, false, false, false, false, false, false, false, false, false, false, false, false, false, false] rfl rfl (by kernel_rfl) (by decide) (fun K hK => ?_)
 refine goes_ Try.func26 (by kernel_rfl) rfl #[.int .i64 4097] (by rfl) rfl rfl (by simp only [List.map_toArray, List.map_cons, List.map_nil]; rfl) ?_
 refine (record_Size.calls _ _ _ aw05_y).mono ?_
 rintro e wa3 ⟨rfl, hd⟩
 refine ⟨_, rfl, ?_⟩
 have n_HB := Aside0.mk (below_step HB.out hd.below)
 have n_HRy := Aside0.mk (Kd.C_below HRy.out hd.below)
 have n_BK1 := Aside0.mk (blk_below BK1.out hd.below)
 have n_HR8 := Aside0.mk (Kd.C_below HR8.out hd.below)
 have n_HR11 := Aside0.mk (Kd.C_below HR11.out hd.below)
 clear HB HRy BK1 HR8 HR11
 have HB := n_HB
 have HRy := n_HRy
 have BK1 := n_BK1
 have HR8 := n_HR8
 have HR11 := n_HR11
 clear n_HB n_HRy n_BK1 n_HR8 n_HR11
 clear hd
 refine hK.out _ _ ⟨((blk_cell BK1.out 0).trans rfl), ((blk_cell BK1.out 1).trans rfl), ((blk_cell BK1.out 2).trans rfl), (Kd.C_string (P := Try.prog) (A := Aq) (c := cq) Try.underlying23 Try.underlying5 Try.underlying9 HR8.out)⟩ (fun hHeld => ?_)
 clear hK K
 refine norm_ (a' := ?_) ?_ ?_
 rotate_left
 ·show Act.put _ (some 50) _ = _
  simp only [Act.put, Kx.sb, Kx.sz, Kx.ss, i64_w, i32_w]
  rfl
 refine pure_ (i := 4) (N := some 51) (v := ?_) (a' := ?_) #[true, true, true, true, true, false, false, false, false, false, false, false, false, false, false, false, false, false, false, false, false, false, false, false, false, false, false, false, false, false, false, false, false, false, false, false, false, false, false, false, false, false, false, false, false, false, false, false, false] rfl rfl (by kernel_rfl) (fun _ _ _ h => h) (Or.inl ⟨by rfl, ?_⟩) ?_ ?_
 rotate_left
 ·intro w'
  go_simp
  with_reducible rfl
 rotate_left
 ·simp only [Act.put, Kx.sb, Kx.sz, Kx.ss, i64_w, i32_w]
  rfl
 refine pure_ (i := 5) (N := some 52) (v := ?_) (a' := ?_) #[true, true, true, true, true, true, false, false, false, false, false, false, false, false, false, false, false, false, false, false, false, false, false, false, false, false, false, false, false, false, false, false, false, false, false, false, false, false, false, false, false, false, false, false, false, false, false, false, false] rfl rfl (by kernel_rfl) (fun _ _ _ h => h) (Or.inl ⟨by rfl, ?_⟩) ?_ ?_
 rotate_left
 ·intro w'
  go_simp
  with_reducible rfl
 rotate_left
 ·simp only [Act.put, Kx.sb, Kx.sz, Kx.ss, i64_w, i32_w]
  rfl
 refine pure_ (i := 6) (N := some 53) (v := ?_) (a' := ?_) #[true, true, true, true, true, true, true, false, false, false, false, false, false, false, false, false, false, false, false, false, false, false, false, false, false, false, false, false, false, false, false, false, false, false, false, false, false, false, false, false, false, false, false, false, false, false, false, false, false] rfl rfl (by kernel_rfl) (fun _ _ _ h => h) (Or.inl ⟨by rfl, ?_⟩) ?_ ?_
 rotate_left
 ·intro w'
  go_simp
  with_reducible rfl
 rotate_left
 ·simp only [Act.put, Kx.sb, Kx.sz, Kx.ss, i64_w, i32_w]
  rfl
 refine pure_ (i := 7) (N := some 54) (v := ?_) (a' := ?_) #[true, true, true, true, true, true, true, true, false, false, false, false, false, false, false, false, false, false, false, false, false, false, false, false, false, false, false, false, false, false, false, false, false, false, false, false, false, false, false, false, false, false, false, false, false, false, false, false, false] rfl rfl (by kernel_rfl) (fun _ _ _ h => h) (Or.inl ⟨by rfl, ?_⟩) ?_ ?_
 rotate_left
 ·intro w'
  go_simp
  with_reducible rfl
 rotate_left
 ·simp only [Act.put, Kx.sb, Kx.sz, Kx.ss, i64_w, i32_w]
  rfl
 refine pure_ (i := 8) (N := some 55) (v := ?_) (a' := ?_) #[true, true, true, true, true, true, true, true, true, false, false, false, false, false, false, false, false, false, false, false, false, false, false, false, false, false, false, false, false, false, false, false, false, false, false, false, false, false, false, false, false, false, false, false, false, false, false, false, false] rfl rfl (by kernel_rfl) (fun _ _ _ h => h) (Or.inl ⟨by rfl, ?_⟩) ?_ ?_
 rotate_left
 ·intro w'
  go_simp
  with_reducible rfl
 rotate_left
 ·simp only [Act.put, Kx.sb, Kx.sz, Kx.ss, i64_w, i32_w]
  rfl
 refine pure_ (i := 9) (N := some 56) (v := ?_) (a' := ?_) #[true, true, true, true, true, true, true, true, true, true, false, false, false, false, false, false, false, false, false, false, false, false, false, false, false, false, false, false, false, false, false, false, false, false, false, false, false, false, false, false, false, false, false, false, false, false, false, false, false] rfl rfl (by kernel_rfl) (fun _ _ _ h => h) (Or.inl ⟨by rfl, ?_⟩) ?_ ?_
 rotate_left
 ·intro w'
  go_simp
  with_reducible rfl
 rotate_left
 ·simp only [Act.put, Kx.sb, Kx.sz, Kx.ss, i64_w, i32_w]
  rfl
 refine pure_ (i := 10) (N := some 57) (v := ?_) (a' := ?_) #[true, true, true, true, true, true, true, true, true, true, true, false, false, false, false, false, false, false, false, false, false, false, false, false, false, false, false, false, false, false, false, false, false, false, false, false, false, false, false, false, false, false, false, false, false, false, false, false, false] rfl rfl (by kernel_rfl) (fun _ _ _ h => h) (Or.inl ⟨by rfl, ?_⟩) ?_ ?_
 rotate_left
 ·intro w'
  go_simp
  with_reducible rfl
 rotate_left
 ·simp only [Act.put, Kx.sb, Kx.sz, Kx.ss, i64_w, i32_w]
  rfl
 refine pure_ (i := 11) (N := some 58) (v := ?_) (a' := ?_) #[true, true, true, true, true, true, true, true, true, true, true, true, false, false, false, false, false, false, false, false, false, false, false, false, false, false, false, false, false, false, false, false, false, false, false, false, false, false, false, false, false, false, false, false, false, false, false, false, false] rfl rfl (by kernel_rfl) (fun _ _ _ h => h) (Or.inl ⟨by rfl, ?_⟩) ?_ ?_
 rotate_left
 ·intro w'
  go_simp
  with_reducible rfl
 rotate_left
 ·simp only [Act.put, Kx.sb, Kx.sz, Kx.ss, i64_w, i32_w]
  rfl
 refine pure_ (i := 12) (N := some 59) (v := ?_) (a' := ?_) #[true, true, true, true, true, true, true, true, true, true, true, true, true, false, false, false, false, false, false, false, false, false, false, false, false, false, false, false, false, false, false, false, false, false, false, false, false, false, false, false, false, false, false, false, false, false, false, false, false] rfl rfl (by kernel_rfl) (fun _ _ _ h => h) (Or.inl ⟨by rfl, ?_⟩) ?_ ?_
 rotate_left
 ·intro w'
  go_simp
  with_reducible rfl
 rotate_left
 ·simp only [Act.put, Kx.sb, Kx.sz, Kx.ss, i64_w, i32_w]
  rfl
 refine pure_ (i := 13) (N := some 60) (v := ?_) (a' := ?_) #[true, true, true, true, true, true, true, true, true, true, true, true, true, true, false, false, false, false, false, false, false, false, false, false, false, false, false, false, false, false, false, false, false, false, false, false, false, false, false, false, false, false, false, false, false, false, false, false, false] rfl rfl (by kernel_rfl) (fun _ _ _ h => h) (Or.inl ⟨by rfl, ?_⟩) ?_ ?_
 rotate_left
 ·intro w'
  go_simp
  with_reducible rfl
 rotate_left
 ·simp only [Act.put, Kx.sb, Kx.sz, Kx.ss, i64_w, i32_w]
  rfl
 refine pure_ (i := 14) (N := some 61) (v := ?_) (a' := ?_) #[true, true, true, true, true, true, true, true, true, true, true, true, true, true, true, false, false, false, false, false, false, false, false, false, false, false, false, false, false, false, false, false, false, false, false, false, false, false, false, false, false, false, false, false, false, false, false, false, false] rfl rfl (by kernel_rfl) (fun _ _ _ h => h) (Or.inl ⟨by rfl, ?_⟩) ?_ ?_
 rotate_left
 ·intro w'
  go_simp
  with_reducible rfl
 rotate_left
 ·simp only [Act.put, Kx.sb, Kx.sz, Kx.ss, i64_w, i32_w]
  rfl
 refine pure_ (i := 15) (N := some 62) (v := ?_) (a' := ?_) #[true, true, true, true, true, true, true, true, true, true, true, true, true, true, true, true, false, false, false, false, false, false, false, false, false, false, false, false, false, false, false, false, false, false, false, false, false, false, false, false, false, false, false, false, false, false, false, false, false] rfl rfl (by kernel_rfl) (fun _ _ _ h => h) (Or.inl ⟨by rfl, ?_⟩) ?_ ?_
 rotate_left
 ·intro w'
  go_simp
  with_reducible rfl
 rotate_left
 ·simp only [Act.put, Kx.sb, Kx.sz, Kx.ss, i64_w, i32_w]
  rfl
 refine pure_ (i := 16) (N := some 63) (v := ?_) (a' := ?_) #[true, true, true, true, true, true, true, true, true, true, true, true, true, true, true, true, true, false, false, false, false, false, false, false, false, false, false, false, false, false, false, false, false, false, false, false, false, false, false, false, false, false, false, false, false, false, false, false, false] rfl rfl (by kernel_rfl) (fun _ _ _ h => h) (Or.inl ⟨by rfl, ?_⟩) ?_ ?_
 rotate_left
 ·intro w'
  go_simp
  with_reducible rfl
 rotate_left
 ·simp only [Act.put, Kx.sb, Kx.sz, Kx.ss, i64_w, i32_w]
  rfl
 refine pure_ (i := 17) (N := some 64) (v := ?_) (a' := ?_) #[true, true, true, true, true, true, true, true, true, true, true, true, true, true, true, true, true, true, false, false, false, false, false, false, false, false, false, false, false, false, false, false, false, false, false, false, false, false, false, false, false, false, false, false, false, false, false, false, false] rfl rfl (by kernel_rfl) (fun _ _ _ h => h) (Or.inl ⟨by rfl, ?_⟩) ?_ ?_
 rotate_left
 ·intro w'
  go_simp
  with_reducible rfl
 rotate_left
 ·simp only [Act.put, Kx.sb, Kx.sz, Kx.ss, i64_w, i32_w]
  rfl
 refine pure_ (i := 18) (N := some 65) (v := ?_) (a' := ?_) #[true, true, true, true, true, true, true, true, true, true, true, true, true, true, true, true, true, true, true, false, false, false, false, false, false, false, false, false, false, false, false, false, false, false, false, false, false, false, false, false, false, false, false, false, false, false, false, false, false] rfl rfl (by kernel_rfl) (fun _ _ _ h => h) (Or.inl ⟨by rfl, ?_⟩) ?_ ?_
 rotate_left
 ·intro w'
  go_simp
  with_reducible rfl
 rotate_left
 ·simp only [Act.put, Kx.sb, Kx.sz, Kx.ss, i64_w, i32_w]
  rfl
 refine pure_ (i := 19) (N := some 66) (v := ?_) (a' := ?_) #[true, true, true, true, true, true, true, true, true, true, true, true, true, true, true, true, true, true, true, true, false, false, false, false, false, false, false, false, false, false, false, false, false, false, false, false, false, false, false, false, false, false, false, false, false, false, false, false, false] rfl rfl (by kernel_rfl) (fun _ _ _ h => h) (Or.inl ⟨by rfl, ?_⟩) ?_ ?_
 rotate_left
 ·intro w'
  go_simp
  with_reducible rfl
 rotate_left
 ·simp only [Act.put, Kx.sb, Kx.sz, Kx.ss, i64_w, i32_w]
  rfl
 refine pure_ (i := 20) (N := some 67) (v := ?_) (a' := ?_) #[true, true, true, true, true, true, true, true, true, true, true, true, true, true, true, true, true, true, true, true, true, false, false, false, false, false, false, false, false, false, false, false, false, false, false, false, false, false, false, false, false, false, false, false, false, false, false, false, false] rfl rfl (by kernel_rfl) (fun _ _ _ h => h) (Or.inl ⟨by rfl, ?_⟩) ?_ ?_
 rotate_left
 ·intro w'
  go_simp
  with_reducible rfl
 rotate_left
 ·simp only [Act.put, Kx.sb, Kx.sz, Kx.ss, i64_w, i32_w]
  rfl
 refine pure_ (i := 21) (N := some 68) (v := ?_) (a' := ?_) #[true, true, true, true, true, true, true, true, true, true, true, true, true, true, true, true, true, true, true, true, true, true, false, false, false, false, false, false, false, false, false, false, false, false, false, false, false, false, false, false, false, false, false, false, false, false, false, false, false] rfl rfl (by kernel_rfl) (fun _ _ _ h => h) (Or.inl ⟨by rfl, ?_⟩) ?_ ?_
 rotate_left
 ·intro w'
  go_simp
  with_reducible rfl
 rotate_left
 ·simp only [Act.put, Kx.sb, Kx.sz, Kx.ss, i64_w, i32_w]
  rfl
 refine pure_ (i := 22) (N := some 69) (v := ?_) (a' := ?_) #[true, true, true, true, true, true, true, true, true, true, true, true, true, true, true, true, true, true, true, true, true, true, true, false, false, false, false, false, false, false, false, false, false, false, false, false, false, false, false, false, false, false, false, false, false, false, false, false, false] rfl rfl (by kernel_rfl) (fun _ _ _ h => h) (Or.inl ⟨by rfl, ?_⟩) ?_ ?_
 rotate_left
 ·intro w'
  go_simp
  with_reducible rfl
 rotate_left
 ·simp only [Act.put, Kx.sb, Kx.sz, Kx.ss, i64_w, i32_w]
  rfl
 refine pure_ (i := 23) (N := some 70) (v := ?_) (a' := ?_) #[true, true, true, true, true, true, true, true, true, true, true, true, true, true, true, true, true, true, true, true, true, true, true, true, false, false, false, false, false, false, false, false, false, false, false, false, false, false, false, false, false, false, false, false, false, false, false, false, false] rfl rfl (by kernel_rfl) (fun _ _ _ h => h) (Or.inl ⟨by rfl, ?_⟩) ?_ ?_
 rotate_left
 ·intro w'
  go_simp
  with_reducible rfl
 rotate_left
 ·simp only [Act.put, Kx.sb, Kx.sz, Kx.ss, i64_w, i32_w]
  rfl
 refine pure_ (i := 24) (N := some 71) (v := ?_) (a' := ?_) #[true, true, true, true, true, true, true, true, true, true, true, true, true, true, true, true, true, true, true, true, true, true, true, true, true, false, false, false, false, false, false, false, false, false, false, false, false, false, false, false, false, false, false, false, false, false, false, false, false] rfl rfl (by kernel_rfl) (fun _ _ _ h => h) (Or.inl ⟨by rfl, ?_⟩) ?_ ?_
 rotate_left
 ·intro w'
  go_simp
  with_reducible rfl
 rotate_left
 ·simp only [Act.put, Kx.sb, Kx.sz, Kx.ss, i64_w, i32_w]
  rfl
 refine pure_ (i := 25) (N := some 72) (v := ?_) (a' := ?_) #[true, true, true, true, true, true, true, true, true, true, true, true, true, true, true, true, true, true, true, true, true, true, true, true, true, true, false, false, false, false, false, false, false, false, false, false, false, false, false, false, false, false, false, false, false, false, false, false, false] rfl rfl (by kernel_rfl) (fun _ _ _ h => h) (Or.inl ⟨by rfl, ?_⟩) ?_ ?_
 rotate_left
 ·intro w'
  go_simp
  with_reducible rfl
 rotate_left
 ·simp only [Act.put, Kx.sb, Kx.sz, Kx.ss, i64_w, i32_w]
  rfl
 refine pure_ (i := 26) (N := some 73) (v := ?_) (a' := ?_) #[true, true, true, true, true, true, true, true, true, true, true, true, true, true, true, true, true, true, true, true, true, true, true, true, true, true, true, false, false, false, false, false, false, false, false, false, false, false, false, false, false, false, false, false, false, false, false, false, false] rfl rfl (by kernel_rfl) (fun _ _ _ h => h) (Or.inl ⟨by rfl, ?_⟩) ?_ ?_
 rotate_left
 ·intro w'
  go_simp
  with_reducible rfl
 rotate_left
 ·simp only [Act.put, Kx.sb, Kx.sz, Kx.ss, i64_w, i32_w]
  rfl
 refine pure_ (i := 27) (N := some 74) (v := ?_) (a' := ?_) #[true, true, true, true, true, true, true, true, true, true, true, true, true, true, true, true, true, true, true, true, true, true, true, true, true, true, true, true, false, false, false, false, false, false, false, false, false, false, false, false, false, false, false, false, false, false, false, false, false] rfl rfl (by kernel_rfl) (fun _ _ _ h => h) (Or.inl ⟨by rfl, ?_⟩) ?_ ?_
 rotate_left
 ·intro w'
  go_simp
  with_reducible rfl
 rotate_left
 ·simp only [Act.put, Kx.sb, Kx.sz, Kx.ss, i64_w, i32_w]
  rfl
 refine pure_ (i := 28) (N := some 75) (v := ?_) (a' := ?_) #[true, true, true, true, true, true, true, true, true, true, true, true, true, true, true, true, true, true, true, true, true, true, true, true, true, true, true, true, true, false, false, false, false, false, false, false, false, false, false, false, false, false, false, false, false, false, false, false, false] rfl rfl (by kernel_rfl) (fun _ _ _ h => h) (Or.inl ⟨by rfl, ?_⟩) ?_ ?_
 rotate_left
 ·intro w'
  go_simp
  with_reducible rfl
 rotate_left
 ·simp only [Act.put, Kx.sb, Kx.sz, Kx.ss, i64_w, i32_w]
  rfl
 refine pure_ (i := 29) (N := some 76) (v := ?_) (a' := ?_) #[true, true, true, true, true, true, true, true, true, true, true, true, true, true, true, true, true, true, true, true, true, true, true, true, true, true, true, true, true, true, false, false, false, false, false, false, false, false, false, false, false, false, false, false, false, false, false, false, false] rfl rfl (by kernel_rfl) (fun _ _ _ h => h) (Or.inl ⟨by rfl, ?_⟩) ?_ ?_
 rotate_left
 ·intro w'
  go_simp
  with_reducible rfl
 rotate_left
 ·simp only [Act.put, Kx.sb, Kx.sz, Kx.ss, i64_w, i32_w]
  rfl
 refine pure_ (i := 30) (N := some 77) (v := ?_) (a' := ?_) #[true, true, true, true, true, true, true, true, true, true, true, true, true, true, true, true, true, true, true, true, true, true, true, true, true, true, true, true, true, true, true, false, false, false, false, false, false, false, false, false, false, false, false, false, false, false, false, false, false] rfl rfl (by kernel_rfl) (fun _ _ _ h => h) (Or.inl ⟨by rfl, ?_⟩) ?_ ?_
 rotate_left
 ·intro w'
  go_simp
  with_reducible rfl
 rotate_left
 ·simp only [Act.put, Kx.sb, Kx.sz, Kx.ss, i64_w, i32_w]
  rfl
 refine pure_ (i := 31) (N := some 78) (v := ?_) (a' := ?_) #[true, true, true, true, true, true, true, true, true, true, true, true, true, true, true, true, true, true, true, true, true, true, true, true, true, true, true, true, true, true, true, true, false, false, false, false, false, false, false, false, false, false, false, false, false, false, false, false, false] rfl rfl (by kernel_rfl) (fun _ _ _ h => h) (Or.inl ⟨by rfl, ?_⟩) ?_ ?_
 rotate_left
 ·intro w'
  go_simp
  with_reducible rfl
 rotate_left
 ·simp only [Act.put, Kx.sb, Kx.sz, Kx.ss, i64_w, i32_w]
  rfl
 refine one_ (i := 32) (N := some 79) #[true, true, true, true, true, true, true, true, true, true, true, true, true, true, true, true, true, true, true, true, true, true, true, true, true, true, true, true, true, true, true, true, true, false, false, false, false, false, false, false, false, false, false, false, false, false, false, false, false] rfl rfl (by kernel_rfl) (by decide) (fun K hK => ?_)
 refine value_ (w1 := ?_) (v := ?_) (by rfl) rfl ?_ ?_
 rotate_left 2
 ·go_simp
  constructor
  ·rfl
  ·rfl
 have HRm := Aside0.mk (Kx.C_litk .i64 wa3 [0, 24] (by decide) 3 (0, 0))
 have n_HB := Aside0.mk (below_alloc HB.out (.cells #[.int .i64 0, .int .i64 24] 3))
 have n_HRy := Aside0.mk (Kd.C_alloc HRy.out (.cells #[.int .i64 0, .int .i64 24] 3))
 have n_BK1 := Aside0.mk (blk_alloc BK1.out (.cells #[.int .i64 0, .int .i64 24] 3))
 have n_HR8 := Aside0.mk (Kd.C_alloc HR8.out (.cells #[.int .i64 0, .int .i64 24] 3))
 have n_HR11 := Aside0.mk (Kd.C_alloc HR11.out (.cells #[.int .i64 0, .int .i64 24] 3))
 clear HB HRy BK1 HR8 HR11
 have HB := n_HB
 have HRy := n_HRy
 have BK1 := n_BK1
 have HR8 := n_HR8
 have HR11 := n_HR11
 clear n_HB n_HRy n_BK1 n_HR8 n_HR11
 refine hK.out _ _ ⟨((blk_cell BK1.out 0).trans rfl), ((blk_cell BK1.out 1).trans rfl), ((blk_cell BK1.out 2).trans rfl), (Kd.C_string (P := Try.prog) (A := Aq) (c := cq) Try.underlying23 Try.underlying5 Try.underlying9 HR8.out)⟩ (fun hHeld => ?_)
 clear hK K
 refine norm_ (a' := ?_) ?_ ?_
 rotate_left
 ·show Act.put _ (some 79) _ = _
  simp only [Act.put, Kx.sb, Kx.sz, Kx.ss, i64_w, i32_w]
  rfl
 refine one_ (i := 33) (N := some 80) #[true, true, true, true, true, true, true, true, true, true, true, true, true, true, true, true, true, true, true, true, true, true, true, true, true, true, true, true, true, true, true, true, true, true, false, false, false, false, false, false, false, false, false, false, false, false, false, false, false] rfl rfl (by kernel_rfl) (by decide) (fun K hK => ?_)
 refine goes_ Try.func31 (by kernel_rfl) rfl #[.slice A11 2 c11, .slice (some ⟨wa3.heap.size, 0, none⟩) 2 2] (by rfl) rfl rfl (by simp only [List.map_toArray, List.map_cons, List.map_nil]; rfl) ?_
 refine (waggonerref05_Numbers.calls 5 _ _ [0, 24] _ _ [0, 24] _ _ HR11.out HC11.out HRm.out (Nat.le_refl _) aw05_m).mono ?_
 rintro e wa33 ⟨rfl, hd⟩
 refine ⟨_, rfl, ?_⟩
 have n_HB := Aside0.mk (below_step HB.out hd.below)
 have n_HRy := Aside0.mk (Kd.C_below HRy.out hd.below)
 have n_BK1 := Aside0.mk (blk_below BK1.out hd.below)
 have n_HR8 := Aside0.mk (Kd.C_below HR8.out hd.below)
 have n_HR11 := Aside0.mk (Kd.C_below HR11.out hd.below)
 clear HB HRy BK1 HR8 HR11
 have HB := n_HB
 have HRy := n_HRy
 have BK1 := n_BK1
 have HR8 := n_HR8
 have HR11 := n_HR11
 clear n_HB n_HRy n_BK1 n_HR8 n_HR11
 clear hd
 refine hK.out _ _ ⟨((blk_cell BK1.out 0).trans rfl), ((blk_cell BK1.out 1).trans rfl), ((blk_cell BK1.out 2).trans rfl), (Kd.C_string (P := Try.prog) (A := Aq) (c := cq) Try.underlying23 Try.underlying5 Try.underlying9 HR8.out)⟩ (fun hHeld => ?_)
 clear hK K
 refine norm_ (a' := ?_) ?_ ?_
 rotate_left
 ·show Act.put _ (some 80) _ = _
  simp only [Act.put, Kx.sb, Kx.sz, Kx.ss, i64_w, i32_w]
  rfl
 refine pure_ (i := 34) (N := some 81) (v := ?_) (a' := ?_) #[true, true, true, true, true, true, true, true, true, true, true, true, true, true, true, true, true, true, true, true, true, true, true, true, true, true, true, true, true, true, true, true, true, true, true, false, false, false, false, false, false, false, false, false, false, false, false, false, false] rfl rfl (by kernel_rfl) (fun _ _ _ h => h) (Or.inl ⟨by rfl, ?_⟩) ?_ ?_
 rotate_left
 ·intro w'
  go_simp
  with_reducible rfl
 rotate_left
 ·simp only [Act.put, Kx.sb, Kx.sz, Kx.ss, i64_w, i32_w]
  rfl
 refine pure_ (i := 35) (N := some 82) (v := ?_) (a' := ?_) #[true, true, true, true, true, true, true, true, true, true, true, true, true, true, true, true, true, true, true, true, true, true, true, true, true, true, true, true, true, true, true, true, true, true, true, true, false, false, false, false, false, false, false, false, false, false, false, false, false] rfl rfl (by kernel_rfl) (fun _ _ _ h => h) (Or.inl ⟨by rfl, ?_⟩) ?_ ?_
 rotate_left
 ·intro w'
  go_simp
  with_reducible rfl
 rotate_left
 ·simp only [Act.put, Kx.sb, Kx.sz, Kx.ss, i64_w, i32_w]
  rfl
 refine pure_ (i := 36) (N := some 83) (v := ?_) (a' := ?_) #[true, true, true, true, true, true, true, true, true, true, true, true, true, true, true, true, true, true, true, true, true, true, true, true, true, true, true, true, true, true, true, true, true, true, true, true, true, false, false, false, false, false, false, false, false, false, false, false, false] rfl rfl (by kernel_rfl) (fun _ _ _ h => h) (Or.inl ⟨by rfl, ?_⟩) ?_ ?_
 rotate_left
 ·intro w'
  go_simp
  with_reducible rfl
 rotate_left
 ·simp only [Act.put, Kx.sb, Kx.sz, Kx.ss, i64_w, i32_w]
  rfl
 refine pure_ (i := 37) (N := some 84) (v := ?_) (a' := ?_) #[true, true, true, true, true, true, true, true, true, true, true, true, true, true, true, true, true, true, true, true, true, true, true, true, true, true, true, true, true, true, true, true, true, true, true, true, true, true, false, false, false, false, false, false, false, false, false, false, false] rfl rfl (by kernel_rfl) (fun _ _ _ h => h) (Or.inl ⟨by rfl, ?_⟩) ?_ ?_
 rotate_left
 ·intro w'
  go_simp
  with_reducible rfl
 rotate_left
 ·simp only [Act.put, Kx.sb, Kx.sz, Kx.ss, i64_w, i32_w]
  rfl
 refine take_ (i := 38) (N := some 85) (v := ?_) (a' := ?_) #[true, true, true, true, true, true, true, true, true, true, true, true, true, true, true, true, true, true, true, true, true, true, true, true, true, true, true, true, true, true, true, true, true, true, true, true, true, true, true, false, false, false, false, false, false, false, false, false, false] rfl rfl (by kernel_rfl) (fun _ _ _ h => h) (Or.inl ⟨by rfl, ?_⟩) hHeld ?_ ?_
 rotate_left
 ·rintro w' ⟨s0, s1, s2, s3⟩
  go_simp
  with_reducible rfl
 rotate_left
 ·simp only [Act.put, Kx.sb, Kx.sz, Kx.ss, i64_w, i32_w]
  rfl
 refine one_ (i := 39) (N := some 86) #[true, true, true, true, true, true, true, true, true, true, true, true, true, true, true, true, true, true, true, true, true, true, true, true, true, true, true, true, true, true, true, true, true, true, true, true, true, true, true, true, false, false, false, false, false, false, false, false, false] rfl rfl (by kernel_rfl) (by decide) (fun K hK => ?_)
 refine value_ (w1 := ?_) (v := ?_) (by rfl) rfl ?_ ?_
 rotate_left 2
 ·go_simp
  constructor
  ·rfl
  ·rfl
 obtain ⟨gl, hgl⟩ : ∃ gl, gl = wa33.heap.size := ⟨_, rfl⟩
 have HRl := Aside0.mk (Kx.C_lita .u8 gl wa33 hgl [87, 82, 76, 71, 1, 0, 4, 0] (by decide) 5 (0, 0))
 rw [← hgl]
 clear hgl
 have n_HB := Aside0.mk (below_alloc HB.out (.cells #[.int .u8 87, .int .u8 82, .int .u8 76, .int .u8 71, .int .u8 1, .int .u8 0, .int .u8 4, .int .u8 0] 5))
 have n_HRy := Aside0.mk (Kd.C_alloc HRy.out (.cells #[.int .u8 87, .int .u8 82, .int .u8 76, .int .u8 71, .int .u8 1, .int .u8 0, .int .u8 4, .int .u8 0] 5))
 have n_BK1 := Aside0.mk (blk_alloc BK1.out (.cells #[.int .u8 87, .int .u8 82, .int .u8 76, .int .u8 71, .int .u8 1, .int .u8 0, .int .u8 4, .int .u8 0] 5))
 have n_HR8 := Aside0.mk (Kd.C_alloc HR8.out (.cells #[.int .u8 87, .int .u8 82, .int .u8 76, .int .u8 71, .int .u8 1, .int .u8 0, .int .u8 4, .int .u8 0] 5))
 have n_HR11 := Aside0.mk (Kd.C_alloc HR11.out (.cells #[.int .u8 87, .int .u8 82, .int .u8 76, .int .u8 71, .int .u8 1, .int .u8 0, .int .u8 4, .int .u8 0] 5))
 clear HB HRy BK1 HR8 HR11
 have HB := n_HB
 have HRy := n_HRy
 have BK1 := n_BK1
 have HR8 := n_HR8
 have HR11 := n_HR11
 clear n_HB n_HRy n_BK1 n_HR8 n_HR11
 refine hK.out _ _ ⟨((blk_cell BK1.out 0).trans rfl), ((blk_cell BK1.out 1).trans rfl), ((blk_cell BK1.out 2).trans rfl), (Kd.C_string (P := Try.prog) (A := Aq) (c := cq) Try.underlying23 Try.underlying5 Try.underlying9 HR8.out)⟩ (fun hHeld => ?_)
 clear hK K
 refine norm_ (a' := ?_) ?_ ?_
 rotate_left
 ·show Act.put _ (some 86) _ = _
  simp only [Act.put, Kx.sb, Kx.sz, Kx.ss, i64_w, i32_w]
  rfl
 refine stronger_ (fun w' => (convert 23 9 (.slice (some ⟨gl, 0, none⟩) 8 8)).run Try.prog w' = .ok (.string (strOfNums [87, 82, 76, 71, 1, 0, 4, 0])) w') hHeld ((Kd.C_string (P := Try.prog) (A := some ⟨gl, 0, none⟩) (c := 8) Try.underlying23 Try.underlying5 Try.underlying9 HRl.out)) (fun hHeld => ?_)
 refine take_ (i := 40) (N := some 87) (v := ?_) (a' := ?_) #[true, true, true, true, true, true, true, true, true, true, true, true, true, true, true, true, true, true, true, true, true, true, true, true, true, true, true, true, true, true, true, true, true, true, true, true, true, true, true, true, true, false, false, false, false, false, false, false, false] rfl rfl (by kernel_rfl) (fun _ _ _ h => h) (Or.inl ⟨by rfl, ?_⟩) hHeld ?_ ?_
 rotate_left
 ·rintro w' ⟨⟨s0, s1, s2, s3⟩, s4⟩
  go_simp
  with_reducible rfl
 rotate_left
 ·simp only [Act.put, Kx.sb, Kx.sz, Kx.ss, i64_w, i32_w]
  rfl
 refine pure_ (i := 41) (N := some 88) (v := ?_) (a' := ?_) #[true, true, true, true, true, true, true, true, true, true, true, true, true, true, true, true, true, true, true, true, true, true, true, true, true, true, true, true, true, true, true, true, true, true, true, true, true, true, true, true, true, true, false, false, false, false, false, false, false] rfl rfl (by kernel_rfl) (fun _ _ _ h => h) (Or.inl ⟨by rfl, ?_⟩) ?_ ?_
 rotate_left
 ·intro w'
  go_simp
  with_reducible rfl
 rotate_left
 ·simp only [Act.put, Kx.sb, Kx.sz, Kx.ss, i64_w, i32_w]
  rfl
 refine pure_ (i := 42) (N := some 89) (v := ?_) (a' := ?_) #[true, true, true, true, true, true, true, true, true, true, true, true, true, true, true, true, true, true, true, true, true, true, true, true, true, true, true, true, true, true, true, true, true, true, true, true, true, true, true, true, true, true, true, false, false, false, false, false, false] rfl rfl (by kernel_rfl) (fun _ _ _ h => h) (Or.inl ⟨by rfl, ?_⟩) ?_ ?_
 rotate_left
 ·intro w'
  go_simp
  with_reducible rfl
 rotate_left
 ·simp only [Act.put, Kx.sb, Kx.sz, Kx.ss, i64_w, i32_w]
  rfl
 refine pure_ (i := 43) (N := some 90) (v := ?_) (a' := ?_) #[true, true, true, true, true, true, true, true, true, true, true, true, true, true, true, true, true, true, true, true, true, true, true, true, true, true, true, true, true, true, true, true, true, true, true, true, true, true, true, true, true, true, true, true, false, false, false, false, false] rfl rfl (by kernel_rfl) (fun _ _ _ h => h) (Or.inl ⟨by rfl, ?_⟩) ?_ ?_
 rotate_left
 ·intro w'
  go_simp
  with_reducible rfl
 rotate_left
 ·simp only [Act.put, Kx.sb, Kx.sz, Kx.ss, i64_w, i32_w]
  rfl
 refine take_ (i := 44) (N := some 91) (v := ?_) (a' := ?_) #[true, true, true, true, true, true, true, true, true, true, true, true, true, true, true, true, true, true, true, true, true, true, true, true, true, true, true, true, true, true, true, true, true, true, true, true, true, true, true, true, true, true, true, true, true, false, false, false, false] rfl rfl (by kernel_rfl) (fun _ _ _ h => h) (Or.inl ⟨by rfl, ?_⟩) hHeld ?_ ?_
 rotate_left
 ·rintro w' ⟨⟨s0, s1, s2, s3⟩, s4⟩
  go_simp
  with_reducible rfl
 rotate_left
 ·simp only [Act.put, Kx.sb, Kx.sz, Kx.ss, i64_w, i32_w]
  rfl
 refine one_ (i := 45) (N := some 92) #[true, true, true, true, true, true, true, true, true, true, true, true, true, true, true, true, true, true, true, true, true, true, true, true, true, true, true, true, true, true, true, true, true, true, true, true, true, true, true, true, true, true, true, true, true, true, false, false, false] rfl rfl (by kernel_rfl) (by decide) (fun K hK => ?_)
 refine goes_ Try.func24 (by kernel_rfl) rfl #[.agg #[.int .i64 1, .int .i64 9, .slice (some ⟨gy, 0, none⟩) 4 4]] (by rfl) rfl rfl (by simp only [List.map_toArray, List.map_cons, List.map_nil]; rfl) ?_
 refine (record_Check.calls 1 9 _ _ [98, 111, 100, 121] _ _ HRy.out (Nat.le_refl _) aw05_c).mono ?_
 rintro e wa45 ⟨rfl, hb⟩
 refine ⟨_, rfl, ?_⟩
 have n_HB := Aside0.mk (below_step HB.out hb)
 have n_HRy := Aside0.mk (Kd.C_below HRy.out hb)
 have n_BK1 := Aside0.mk (blk_below BK1.out hb)
 have n_HR8 := Aside0.mk (Kd.C_below HR8.out hb)
 have n_HR11 := Aside0.mk (Kd.C_below HR11.out hb)
 have n_HRl := Aside0.mk (Kd.C_below HRl.out hb)
 clear HB HRy BK1 HR8 HR11 HRl
 have HB := n_HB
 have HRy := n_HRy
 have BK1 := n_BK1
 have HR8 := n_HR8
 have HR11 := n_HR11
 have HRl := n_HRl
 clear n_HB n_HRy n_BK1 n_HR8 n_HR11 n_HRl
 clear hb
 refine hK.out _ _ ⟨⟨((blk_cell BK1.out 0).trans rfl), ((blk_cell BK1.out 1).trans rfl), ((blk_cell BK1.out 2).trans rfl), (Kd.C_string (P := Try.prog) (A := Aq) (c := cq) Try.underlying23 Try.underlying5 Try.underlying9 HR8.out)⟩, ((Kd.C_string (P := Try.prog) (A := some ⟨gl, 0, none⟩) (c := 8) Try.underlying23 Try.underlying5 Try.underlying9 HRl.out))⟩ (fun hHeld => ?_)
 clear hK K
 refine norm_ (a' := ?_) ?_ ?_
 rotate_left
 ·show Act.put _ (some 92) _ = _
  simp only [Act.put, Kx.sb, Kx.sz, Kx.ss, i64_w, i32_w]
  rfl
 refine pure_ (i := 46) (N := some 93) (v := ?_) (a' := ?_) #[true, true, true, true, true, true, true, true, true, true, true, true, true, true, true, true, true, true, true, true, true, true, true, true, true, true, true, true, true, true, true, true, true, true, true, true, true, true, true, true, true, true, true, true, true, true, true, false, false] rfl rfl (by kernel_rfl) (fun _ _ _ h => h) (Or.inl ⟨by rfl, ?_⟩) ?_ ?_
 rotate_left
 ·intro w'
  go_simp
  with_reducible rfl
 rotate_left
 ·simp only [Act.put, Kx.sb, Kx.sz, Kx.ss, i64_w, i32_w]
  rfl
 refine pure_ (i := 47) (N := some 94) (v := ?_) (a' := ?_) #[true, true, true, true, true, true, true, true, true, true, true, true, true, true, true, true, true, true, true, true, true, true, true, true, true, true, true, true, true, true, true, true, true, true, true, true, true, true, true, true, true, true, true, true, true, true, true, true, false] rfl rfl (by kernel_rfl) (fun _ _ _ h => h) (Or.inl ⟨by rfl, ?_⟩) ?_ ?_
 rotate_left
 ·intro w'
  go_simp
  with_reducible rfl
 rotate_left
 ·simp only [Act.put, Kx.sb, Kx.sz, Kx.ss, i64_w, i32_w]
  rfl
 refine pure_ (i := 48) (N := some 0) (v := ?_) (a' := ?_) #[true, true, true, true, true, true, true, true, true, true, true, true, true, true, true, true, true, true, true, true, true, true, true, true, true, true, true, true, true, true, true, true, true, true, true, true, true, true, true, true, true, true, true, true, true, true, true, true, true] rfl rfl (by kernel_rfl) (fun _ _ _ h => h) (Or.inl ⟨by rfl, ?_⟩) ?_ ?_
 rotate_left
 ·intro w'
  go_simp
  with_reducible rfl
 rotate_left
 ·simp only [Act.put, Kx.sb, Kx.sz, Kx.ss, i64_w, i32_w]
  rfl
 refine done_ (by kernel_rfl) ?_
 go_wp2
 go_ret
 exact ⟨rfl, HB.out⟩
/-! ### waggonerlaw05_RecordSizes: function 8 -/
def waggonerlaw05_RecordSizes.f (a0_0 : Int) (a0_1 : Int) (l0_2 : List Int) (a1 : Int) : Option (Bool) := (waggonerlaw05_awake.f).bind fun t166 => (if (l0_2.length : Int) > 4096 then (some t166) else ((record_Write.f a0_0 a0_1 l0_2).bind fun bt167 => (if bt167.2 = 0 then (if (mx 1 (bt167.1.length : Int)) = 0 then (none) else (if 0 ≤ (Int.tmod (wrap64 (a1)) (mx 1 (bt167.1.length : Int))) then (if (Int.tmod (wrap64 (a1)) (mx 1 (bt167.1.length : Int))) ≤ (bt167.1.length : Int) then ((record_Read.f (bt167.1.take ((Int.tmod (wrap64 (a1)) (mx 1 (bt167.1.length : Int))) : Int).toNat)).bind fun bt175 => ((record_Read.f bt167.1).bind fun bt183 => (if t166 = true then ((record_Size.f (l0_2.length : Int)).bind fun t191 => (if (bt167.1.length : Int) = t191 then (if (bt167.1.length : Int) = (wrap64 ((l0_2.length : Int) + 20)) then (if bt175.2.2.2.2 = 50 then (if bt175.2.2.2.1 = 0 then (if bt183.2.2.2.2 = 0 then (some (bt183.2.2.2.1 == (bt167.1.length : Int))) else (some false)) else (some false)) else (some false)) else (some false)) else (some false))) else (some false)))) else (none)) else (none))) else (if t166 = true then (if bt167.2 = 50 then (some ((bt167.1.length : Int) == 0)) else (some false)) else (some false)))))
set_option maxHeartbeats 8000000 in
set_option maxRecDepth 100000 in
theorem waggonerlaw05_RecordSizes.calls (a0_0 : Int) (a0_1 : Int) (A0_2 : Option Addr) (c0_2 : Nat) (l0_2 : List Int) (a1 : Int) (r : Bool) (hT : r = true) (w : World) (hr0_2 : Kd.C (Kd.int .u8) w A0_2 l0_2.length l0_2) (hc0_2 : l0_2.length ≤ c0_2) (h : waggonerlaw05_RecordSizes.f a0_0 a0_1 l0_2 a1 = some r) :
  Calls Try.prog 8 #[.agg #[.int .i64 a0_0, .int .i64 a0_1, .slice A0_2 l0_2.length c0_2], .int .u16 a1] w fun e w' => e = .returned (.bool r) ∧ Below w.heap.size w w' := by
 subst hT
 have hu25 := Try.underlying25
 have HR0_2 := Aside0.mk hr0_2
 have HC0_2 := Aside0.mk hc0_2
 clear hr0_2 hc0_2
 have HB := Aside0.mk (Below.refl w.heap.size w)
 have H : ((waggonerlaw05_awake.f).bind fun t166 => (if (l0_2.length : Int) > 4096 then (some t166) else ((record_Write.f a0_0 a0_1 l0_2).bind fun bt167 => (if bt167.2 = 0 then (if (mx 1 (bt167.1.length : Int)) = 0 then (none) else (if 0 ≤ (Int.tmod (wrap64 (a1)) (mx 1 (bt167.1.length : Int))) then (if (Int.tmod (wrap64 (a1)) (mx 1 (bt167.1.length : Int))) ≤ (bt167.1.length : Int) then ((record_Read.f (bt167.1.take ((Int.tmod (wrap64 (a1)) (mx 1 (bt167.1.length : Int))) : Int).toNat)).bind fun bt175 => ((record_Read.f bt167.1).bind fun bt183 => (if t166 = true then ((record_Size.f (l0_2.length : Int)).bind fun t191 => (if (bt167.1.length : Int) = t191 then (if (bt167.1.length : Int) = (wrap64 ((l0_2.length : Int) + 20)) then (if bt175.2.2.2.2 = 50 then (if bt175.2.2.2.1 = 0 then (if bt183.2.2.2.2 = 0 then (some (bt183.2.2.2.1 == (bt167.1.length : Int))) else (some false)) else (some false)) else (some false)) else (some false)) else (some false))) else (some false)))) else (none)) else (none))) else (if t166 = true then (if bt167.2 = 50 then (some ((bt167.1.length : Int) == 0)) else (some false)) else (some false)))))) = some true := h
 clear h
 replace H := Option.bind_eq_some_iff.mp H
 obtain ⟨t166, A30, H⟩ := H
 replace H : (if (l0_2.length : Int) > 4096 then (some t166) else ((record_Write.f a0_0 a0_1 l0_2).bind fun bt167 => (if bt167.2 = 0 then (if (mx 1 (bt167.1.length : Int)) = 0 then (none) else (if 0 ≤ (Int.tmod (wrap64 (a1)) (mx 1 (bt167.1.length : Int))) then (if (Int.tmod (wrap64 (a1)) (mx 1 (bt167.1.length : Int))) ≤ (bt167.1.length : Int) then ((record_Read.f (bt167.1.take ((Int.tmod (wrap64 (a1)) (mx 1 (bt167.1.length : Int))) : Int).toNat)).bind fun bt175 => ((record_Read.f bt167.1).bind fun bt183 => (if t166 = true then ((record_Size.f (l0_2.length : Int)).bind fun t191 => (if (bt167.1.length : Int) = t191 then (if (bt167.1.length : Int) = (wrap64 ((l0_2.length : Int) + 20)) then (if bt175.2.2.2.2 = 50 then (if bt175.2.2.2.1 = 0 then (if bt183.2.2.2.2 = 0 then (some (bt183.2.2.2.1 == (bt167.1.length : Int))) else (some false)) else (some false)) else (some false)) else (some false)) else (some false))) else (some false)))) else (none)) else (none))) else (if t166 = true then (if bt167.2 = 50 then (some ((bt167.1.length : Int) == 0)) else (some false)) else (some false))))) = some true := H
 have A3 := Aside0.mk A30
 clear A30
 by_cases c4 : (l0_2.length : Int) > 4096
 ·rw [if_pos c4] at H
  have c4b0 : decide (4096 < (l0_2.length : Int)) = true := decide_eq_true c4
  have c4b1 : decide (4096 < l0_2.length) = true := decide_eq_true (by omega)
  clear c4
  (have HRT := Aside0.mk (Option.some.inj H); clear H)
  go_enter Try.func8, Try.ntmps8
  go_wp2_with (first | ((with_reducible refine gate_dst (N := 2) rfl ?_); (try (refine gate_guard (by rfl) ?_; dsimp only)); refine box_event ?hg (N := 2) ?hd (cs := #[.int .i64 a0_0, .int .i64 a0_1, .slice A0_2 l0_2.length c0_2]) (t := 25) ?hr ?_; (case hd => rfl); (case hg => rfl); (case hr => first | (go_simp; done) | (go_simp; rfl)); intro gb165 hg w5 hbox hb; have n0_ := Aside0.mk (below_step (by repeat (first | (with_reducible first | exact HB.out | apply below_alloc | apply pw_below_drewN | apply below_drew1) | exact HB.out)) hb); have n1_ := Aside0.mk (hbox); have n2_ := Aside0.mk ((by rw [hg]; exact (below_size (by repeat (first | (with_reducible first | exact HB.out | apply below_alloc | apply pw_below_drewN | apply below_drew1) | exact HB.out))) : w.heap.size ≤ gb165)); have n3_ := Aside0.mk ((by rw [hg]; exact (below_size (by repeat (first | (with_reducible first | exact HB.out | apply below_alloc | apply pw_below_drewN | apply below_drew1) | exact HB.out))) : w.heap.size ≤ gb165)); clear HB; have HB := n0_; have BK165 := n1_; have GW165 := n2_; have GE165 := n3_; clear n0_ n1_ n2_ n3_; clear hb hbox hg) | ((with_reducible refine gate_callee (f := 18) rfl ?_); refine goesL_ (some 14) rfl rfl Try.func18 (by kernel_rfl) rfl #[] rfl (by (try simp only [List.map_toArray, List.map_cons, List.map_nil]); first | done | rfl | (simp only [List.length_drop, List.length_take]; rfl)) ?_; (with_reducible refine (waggonerlaw05_awake.calls  t166 _ A3.out).mono ?_); rintro e w6 ⟨rfl, hb⟩; refine ⟨_, rfl, ?_⟩; have n0_ := Aside0.mk (blk_below (g := gb165) (o := .cells #[.int .i64 a0_0, .int .i64 a0_1, .slice A0_2 l0_2.length c0_2] 25 (0, 0)) (by (with_reducible repeat (first | refine blk_drewN ?_ _ | refine blk_drew ?_ | refine blk_alloc ?_ _)); exact BK165.out) hb); have n1_ := Aside0.mk (below_step (by repeat (first | (with_reducible first | exact HB.out | apply below_alloc | apply pw_below_drewN | apply below_drew1 | refine below_set ?_ GE165.out) | exact HB.out)) hb); clear BK165; clear HB; have BK165 := n0_; have HB := n1_; clear n0_ n1_; (try clear hb); (try clear hb2); (try clear hk); (try clear hi); have hcz7_0 : w6.cell? ⟨gb165, 0, none⟩ = some (.int .i64 a0_0) := (blk_cell BK165.out 0).trans rfl; have hcz7_1 : w6.cell? ⟨gb165, 1, none⟩ = some (.int .i64 a0_1) := (blk_cell BK165.out 1).trans rfl; have hcz7_2 : w6.cell? ⟨gb165, 2, none⟩ = some (.slice A0_2 l0_2.length c0_2) := (blk_cell BK165.out 2).trans rfl; have hfz7_0 := blk_frozen BK165.out 0; have hfz7_1 := blk_frozen BK165.out 1; have hfz7_2 := blk_frozen BK165.out 2))
  go_ret
  exact ⟨by first | rfl | (exact congrArg (fun z_ => Ending.returned (Value.bool z_)) HRT.out) | (rw [HRT.out]; done) | (simp [errW_none, errW_some] <;> rfl) | (simp [*, errW_none, errW_some] <;> rfl), by repeat (first | (with_reducible first | exact HB.out | apply below_alloc | apply pw_below_drewN | apply below_drew1 | refine below_set ?_ GE165.out) | exact HB.out)⟩
 ·rw [if_neg c4] at H
  have c4b0 : decide (4096 < (l0_2.length : Int)) = false := decide_eq_false c4
  have c4b1 : decide (4096 < l0_2.length) = false := decide_eq_false (by omega)
  clear c4
  replace H := Option.bind_eq_some_iff.mp H
  obtain ⟨⟨t167, t170⟩, A80, H⟩ := H
  replace H : (if t170 = 0 then (if (mx 1 (t167.length : Int)) = 0 then (none) else (if 0 ≤ (Int.tmod (wrap64 (a1)) (mx 1 (t167.length : Int))) then (if (Int.tmod (wrap64 (a1)) (mx 1 (t167.length : Int))) ≤ (t167.length : Int) then ((record_Read.f (t167.take ((Int.tmod (wrap64 (a1)) (mx 1 (t167.length : Int))) : Int).toNat)).bind fun bt175 => ((record_Read.f t167).bind fun bt183 => (if t166 = true then ((record_Size.f (l0_2.length : Int)).bind fun t191 => (if (t167.length : Int) = t191 then (if (t167.length : Int) = (wrap64 ((l0_2.length : Int) + 20)) then (if bt175.2.2.2.2 = 50 then (if bt175.2.2.2.1 = 0 then (if bt183.2.2.2.2 = 0 then (some (bt183.2.2.2.1 == (t167.length : Int))) else (some false)) else (some false)) else (some false)) else (some false)) else (some false))) else (some false)))) else (none)) else (none))) else (if t166 = true then (if t170 = 50 then (some ((t167.length : Int) == 0)) else (some false)) else (some false))) = some true := H
  have A8 := Aside0.mk A80
  clear A80
  by_cases c9 : t170 = 0
  ·rw [if_pos c9] at H
   have c9b0 : (t170 == 0) = true := beq_iff_eq.mpr c9
   have c9b1 : (t170 != 0) = false := bne_eq_false_iff_eq.mpr c9
   clear c9
   obtain ⟨ji10, hji10⟩ : ∃ j_ : Int, (mx 1 (t167.length : Int)) = j_ := ⟨_, rfl⟩
   replace H : (if (ji10) = 0 then (none) else (if 0 ≤ (Int.tmod (wrap64 (a1)) (ji10)) then (if (Int.tmod (wrap64 (a1)) (ji10)) ≤ (t167.length : Int) then ((record_Read.f (t167.take ((Int.tmod (wrap64 (a1)) (ji10)) : Int).toNat)).bind fun bt175 => ((record_Read.f t167).bind fun bt183 => (if t166 = true then ((record_Size.f (l0_2.length : Int)).bind fun t191 => (if (t167.length : Int) = t191 then (if (t167.length : Int) = (wrap64 ((l0_2.length : Int) + 20)) then (if bt175.2.2.2.2 = 50 then (if bt175.2.2.2.1 = 0 then (if bt183.2.2.2.2 = 0 then (some (bt183.2.2.2.1 == (t167.length : Int))) else (some false)) else (some false)) else (some false)) else (some false)) else (some false))) else (some false)))) else (none)) else (none))) = some true := by first | (rw [hji10] at H; exact H) | (simp only [hji10] at H ⊢; exact H)
   (try rw [hji10] at A3)
   (try rw [hji10] at A8)
   (try (have hji10l : 1 ≤ ji10 := by (rw [← hji10]; unfold mx; (repeat' split) <;> omega)))
   (try (have hji10m : 0 ≤ ji10 := by omega))
   have hji10_ : (if 1 < (t167.length : Int) then (t167.length : Int) else 1) = ji10 := hji10
   (try (have hji10n : (if 1 < t167.length then (t167.length : Int) else 1) = ji10 := by (rw [← hji10_]; exact ite_congr (propext (by omega)) (fun _ => rfl) (fun _ => rfl))))
   by_cases c11 : (ji10) = 0
   ·rw [if_pos c11] at H
    exact absurd H (by simp)
   ·rw [if_neg c11] at H
    have c11b0 : ((ji10) == 0) = false := beq_eq_false_iff_ne.mpr c11
    have c11b1 : ((ji10) != 0) = true := bne_iff_ne.mpr c11
    obtain ⟨ji12, hji12⟩ : ∃ j_ : Int, (Int.tmod (wrap64 (a1)) (ji10)) = j_ := ⟨_, rfl⟩
    replace H : (if 0 ≤ (ji12) then (if (ji12) ≤ (t167.length : Int) then ((record_Read.f (t167.take ((ji12) : Int).toNat)).bind fun bt175 => ((record_Read.f t167).bind fun bt183 => (if t166 = true then ((record_Size.f (l0_2.length : Int)).bind fun t191 => (if (t167.length : Int) = t191 then (if (t167.length : Int) = (wrap64 ((l0_2.length : Int) + 20)) then (if bt175.2.2.2.2 = 50 then (if bt175.2.2.2.1 = 0 then (if bt183.2.2.2.2 = 0 then (some (bt183.2.2.2.1 == (t167.length : Int))) else (some false)) else (some false)) else (some false)) else (some false)) else (some false))) else (some false)))) else (none)) else (none)) = some true := by first | (rw [hji12] at H; exact H) | (simp only [hji12] at H ⊢; exact H)
    (try rw [hji12] at A3)
    (try rw [hji12] at A8)
    by_cases c13 : 0 ≤ (ji12)
    ·rw [if_pos c13] at H
     have c13b0 := eq_true c13
     have c13b1 : decide (0 ≤ (ji12)) = true := decide_eq_true c13
     clear c13
     by_cases c14 : (ji12) ≤ (t167.length : Int)
     ·rw [if_pos c14] at H
      have c14b0 := eq_true c14
      have c14b1 : decide ((ji12) ≤ (t167.length : Int)) = true := decide_eq_true c14
      clear c14
      obtain ⟨y171, hy171⟩ : ∃ y_ : List Int, y_ = (t167.take ((ji12) : Int).toNat) := ⟨_, rfl⟩
      replace H : ((record_Read.f y171).bind fun bt175 => ((record_Read.f t167).bind fun bt183 => (if t166 = true then ((record_Size.f (l0_2.length : Int)).bind fun t191 => (if (t167.length : Int) = t191 then (if (t167.length : Int) = (wrap64 ((l0_2.length : Int) + 20)) then (if bt175.2.2.2.2 = 50 then (if bt175.2.2.2.1 = 0 then (if bt183.2.2.2.2 = 0 then (some (bt183.2.2.2.1 == (t167.length : Int))) else (some false)) else (some false)) else (some false)) else (some false)) else (some false))) else (some false)))) = some true := by first | (rw [hy171]; with_reducible exact H) | (have H2_ := (Option.bind_some _ _).symm.trans H; rw [hy171]; with_reducible exact H2_) | (have H2_ := (Option.bind_some _ _).symm.trans H; with_reducible exact H2_) | with_reducible exact H | (rw [hy171]; exact H) | exact H
      have Ny171 := Aside0.mk hy171
      clear hy171
      replace H := Option.bind_eq_some_iff.mp H
      obtain ⟨⟨t175, t176, t177, t180, t181⟩, A150, H⟩ := H
      replace H : ((record_Read.f t167).bind fun bt183 => (if t166 = true then ((record_Size.f (l0_2.length : Int)).bind fun t191 => (if (t167.length : Int) = t191 then (if (t167.length : Int) = (wrap64 ((l0_2.length : Int) + 20)) then (if t181 = 50 then (if t180 = 0 then (if bt183.2.2.2.2 = 0 then (some (bt183.2.2.2.1 == (t167.length : Int))) else (some false)) else (some false)) else (some false)) else (some false)) else (some false))) else (some false))) = some true := H
      have A15 := Aside0.mk A150
      clear A150
      replace H := Option.bind_eq_some_iff.mp H
      obtain ⟨⟨t183, t184, t185, t188, t189⟩, A160, H⟩ := H
      replace H : (if t166 = true then ((record_Size.f (l0_2.length : Int)).bind fun t191 => (if (t167.length : Int) = t191 then (if (t167.length : Int) = (wrap64 ((l0_2.length : Int) + 20)) then (if t181 = 50 then (if t180 = 0 then (if t189 = 0 then (some (t188 == (t167.length : Int))) else (some false)) else (some false)) else (some false)) else (some false)) else (some false))) else (some false)) = some true := H
      have A16 := Aside0.mk A160
      clear A160
      by_cases c17 : t166 = true
      ·subst c17
       have H1 : ((record_Size.f (l0_2.length : Int)).bind fun t191 => (if (t167.length : Int) = t191 then (if (t167.length : Int) = (wrap64 ((l0_2.length : Int) + 20)) then (if t181 = 50 then (if t180 = 0 then (if t189 = 0 then (some (t188 == (t167.length : Int))) else (some false)) else (some false)) else (some false)) else (some false)) else (some false))) = some true := by rw [if_pos rfl] at H <;> exact H
       clear H
       have H := H1
       clear H1
       replace H := Option.bind_eq_some_iff.mp H
       obtain ⟨t191, A180, H⟩ := H
       replace H : (if (t167.length : Int) = t191 then (if (t167.length : Int) = (wrap64 ((l0_2.length : Int) + 20)) then (if t181 = 50 then (if t180 = 0 then (if t189 = 0 then (some (t188 == (t167.length : Int))) else (some false)) else (some false)) else (some false)) else (some false)) else (some false)) = some true := H
       have A18 := Aside0.mk A180
       clear A180
       by_cases c19 : (t167.length : Int) = t191
       ·rw [if_pos c19] at H
        have c19b0 : ((t167.length : Int) == t191) = true := beq_iff_eq.mpr c19
        have c19b1 : ((t167.length : Int) != t191) = false := bne_eq_false_iff_eq.mpr c19
        clear c19
        by_cases c20 : (t167.length : Int) = (wrap64 ((l0_2.length : Int) + 20))
        ·rw [if_pos c20] at H
         have c20b0 : ((t167.length : Int) == (wrap64 ((l0_2.length : Int) + 20))) = true := beq_iff_eq.mpr c20
         have c20b1 : ((t167.length : Int) != (wrap64 ((l0_2.length : Int) + 20))) = false := bne_eq_false_iff_eq.mpr c20
         clear c20
         by_cases c21 : t181 = 50
         ·rw [if_pos c21] at H
          have c21b0 : (t181 == 50) = true := beq_iff_eq.mpr c21
          have c21b1 : (t181 != 50) = false := bne_eq_false_iff_eq.mpr c21
          clear c21
          by_cases c22 : t180 = 0
          ·rw [if_pos c22] at H
           have c22b0 : (t180 == 0) = true := beq_iff_eq.mpr c22
           have c22b1 : (t180 != 0) = false := bne_eq_false_iff_eq.mpr c22
           clear c22
           by_cases c23 : t189 = 0
           ·rw [if_pos c23] at H
            have c23b0 : (t189 == 0) = true := beq_iff_eq.mpr c23
            have c23b1 : (t189 != 0) = false := bne_eq_false_iff_eq.mpr c23
            clear c23
            (have HRT := Aside0.mk (Option.some.inj H); clear H)
            go_enter Try.func8, Try.ntmps8
            go_wp2_with (first | ((with_reducible refine gate_dst (N := 2) rfl ?_); (try (refine gate_guard (by rfl) ?_; dsimp only)); refine box_event ?hg (N := 2) ?hd (cs := #[.int .i64 a0_0, .int .i64 a0_1, .slice A0_2 l0_2.length c0_2]) (t := 25) ?hr ?_; (case hd => rfl); (case hg => rfl); (case hr => first | (go_simp; done) | (go_simp; rfl)); intro gb165 hg w24 hbox hb; have n0_ := Aside0.mk (below_step (by repeat (first | (with_reducible first | exact HB.out | apply below_alloc | apply pw_below_drewN | apply below_drew1) | exact HB.out)) hb); have n1_ := Aside0.mk (hbox); have n2_ := Aside0.mk ((by rw [hg]; exact (below_size (by repeat (first | (with_reducible first | exact HB.out | apply below_alloc | apply pw_below_drewN | apply below_drew1) | exact HB.out))) : w.heap.size ≤ gb165)); have n3_ := Aside0.mk ((by rw [hg]; exact (below_size (by repeat (first | (with_reducible first | exact HB.out | apply below_alloc | apply pw_below_drewN | apply below_drew1) | exact HB.out))) : w.heap.size ≤ gb165)); clear HB; have HB := n0_; have BK165 := n1_; have GW165 := n2_; have GE165 := n3_; clear n0_ n1_ n2_ n3_; clear hb hbox hg) | ((with_reducible refine gate_callee (f := 18) rfl ?_); refine goesL_ (some 14) rfl rfl Try.func18 (by kernel_rfl) rfl #[] rfl (by (try simp only [List.map_toArray, List.map_cons, List.map_nil]); first | done | rfl | (simp only [List.length_drop, List.length_take]; rfl)) ?_; (with_reducible refine (waggonerlaw05_awake.calls  true _ A3.out).mono ?_); rintro e w25 ⟨rfl, hb⟩; refine ⟨_, rfl, ?_⟩; have n0_ := Aside0.mk (blk_below (g := gb165) (o := .cells #[.int .i64 a0_0, .int .i64 a0_1, .slice A0_2 l0_2.length c0_2] 25 (0, 0)) (by (with_reducible repeat (first | refine blk_drewN ?_ _ | refine blk_drew ?_ | refine blk_alloc ?_ _)); exact BK165.out) hb); have n1_ := Aside0.mk (below_step (by repeat (first | (with_reducible first | exact HB.out | apply below_alloc | apply pw_below_drewN | apply below_drew1 | refine below_set ?_ GE165.out) | exact HB.out)) hb); clear BK165; clear HB; have BK165 := n0_; have HB := n1_; clear n0_ n1_; (try clear hb); (try clear hb2); (try clear hk); (try clear hi); have hcz26_0 : w25.cell? ⟨gb165, 0, none⟩ = some (.int .i64 a0_0) := (blk_cell BK165.out 0).trans rfl; have hcz26_1 : w25.cell? ⟨gb165, 1, none⟩ = some (.int .i64 a0_1) := (blk_cell BK165.out 1).trans rfl; have hcz26_2 : w25.cell? ⟨gb165, 2, none⟩ = some (.slice A0_2 l0_2.length c0_2) := (blk_cell BK165.out 2).trans rfl; have hfz26_0 := blk_frozen BK165.out 0; have hfz26_1 := blk_frozen BK165.out 1; have hfz26_2 := blk_frozen BK165.out 2) | ((with_reducible refine gate_callee (f := 19) rfl ?_); refine goesL_ (some 22) rfl rfl Try.func19 (by kernel_rfl) rfl #[.agg #[.int .i64 a0_0, .int .i64 a0_1, .slice A0_2 l0_2.length c0_2]] rfl (by (try simp only [List.map_toArray, List.map_cons, List.map_nil]); first | done | rfl | (simp only [List.length_drop, List.length_take]; rfl)) ?_; (with_reducible refine (record_Write.calls a0_0 a0_1 _ _ l0_2 t167 t170 _ ?side1 ?side2 A8.out).mono ?_); (case side1 => repeat (first | exact (Kd.C_below HR0_2.out HB.out) | (with_reducible refine Kd.C_alloc ?_ _) | (with_reducible refine Kd.C_drewN ?_ _) | (with_reducible refine Kd.C_drew ?_))); (case side2 => exact HC0_2.out); rintro e w27 ⟨v168, rfl, ho0, hb⟩; refine ⟨_, rfl, ?_⟩; have n0_ := Aside0.mk (Kd.R_lower ho0 (below_size (by repeat (first | (with_reducible first | exact HB.out | apply below_alloc | apply pw_below_drewN | apply below_drew1 | refine below_set ?_ GE165.out) | exact HB.out)))); have n1_ := Aside0.mk (blk_below (g := gb165) (o := .cells #[.int .i64 a0_0, .int .i64 a0_1, .slice A0_2 l0_2.length c0_2] 25 (0, 0)) (by (with_reducible repeat (first | refine blk_drewN ?_ _ | refine blk_drew ?_ | refine blk_alloc ?_ _)); exact BK165.out) hb); have n2_ := Aside0.mk (below_step (by repeat (first | (with_reducible first | exact HB.out | apply below_alloc | apply pw_below_drewN | apply below_drew1 | refine below_set ?_ GE165.out) | exact HB.out)) hb); clear BK165; clear HB; have HO169 := n0_; have BK165 := n1_; have HB := n2_; clear n0_ n1_ n2_; (try clear hb); (try clear hb2); (try clear hk); (try clear hi); (try clear ho0); obtain ⟨Ao28, co28, eo28⟩ := Kd.R_slice HO169.out; subst eo28; have q29 : ((ji12) : Int) ≤ ((t167.length : Int) : Int) := of_decide_eq_true (by first | (with_reducible assumption) | assumption); obtain ⟨i029, hi029, _, hsz29, _⟩ := info_parts info5; have hroom29 : t167.length ≤ co28 := (Kd.R_reads' HO169.out).2.1; have hC29 : Kd.C (Kd.int .u8) _ Ao28 t167.length t167 := (Kd.R_reads' HO169.out).2.2; have hcut29 := cut_to (P := Try.prog) 23 5 .i64 Try.underlying23 hi029 Ao28 t167.length co28 (ji12) (of_decide_eq_true (by first | (with_reducible assumption) | assumption)) q29 hroom29; have hr29 := Kd.C_take (m := ((ji12) : Int).toNat) hC29 (by omega); have hy29 : y171.length = ((ji12) : Int).toNat := (by rw [Ny171.out, List.length_take]; omega); rw [← Ny171.out] at hr29; rw [← hy29] at hcut29; have HR174 := Aside0.mk hr29; have HC174 := Aside0.mk (show y171.length ≤ co28 from by omega); clear hr29 hC29 hroom29 hi029 hsz29; have KY29 := Aside0.mk hy29; clear hy29; have KL29 := Aside0.mk (show ((ji12) : Int).toNat ≤ t167.length from by omega); replace q29 := eq_true q29) | ((with_reducible refine gate_callee (f := 21) rfl ?_); refine goesL_ (some 46) rfl rfl Try.func21 (by kernel_rfl) rfl #[.slice Ao28 y171.length co28] rfl (by (try simp only [List.map_toArray, List.map_cons, List.map_nil]); first | done | rfl | (simp only [List.length_drop, List.length_take]; rfl)) ?_; (with_reducible refine (record_Read.calls _ _ y171 t175 t176 t177 t180 t181 _ ?side1 ?side2 A15.out).mono ?_); (case side1 => repeat (first | exact (by repeat (first | (with_reducible exact HR174.out) | (with_reducible refine Kd.C_alloc ?_ _) | (with_reducible refine Kd.C_drewN ?_ _) | (with_reducible refine Kd.C_drew ?_) | exact HR174.out)) | (with_reducible refine Kd.C_alloc ?_ _) | (with_reducible refine Kd.C_drewN ?_ _) | (with_reducible refine Kd.C_drew ?_))); (case side2 => exact HC174.out); rintro e w30 ⟨v178, rfl, ho0, hb⟩; refine ⟨_, rfl, ?_⟩; have n0_ := Aside0.mk (Kd.R_elder' (by (with_reducible repeat (first | apply Kd.R_alloc | apply Kd.R_drewN | apply Kd.R_drew)); exact HO169.out) (Kd.R_base ho0) hb); have n1_ := Aside0.mk (Kd.R_lower (Kd.R_new' ho0 (Kd.R_lt (by (with_reducible repeat (first | apply Kd.R_alloc | apply Kd.R_drewN | apply Kd.R_drew)); exact HO169.out))) (below_size (by repeat (first | (with_reducible first | exact HB.out | apply below_alloc | apply pw_below_drewN | apply below_drew1 | refine below_set ?_ GE165.out) | exact HB.out)))); have n2_ := Aside0.mk (blk_below (g := gb165) (o := .cells #[.int .i64 a0_0, .int .i64 a0_1, .slice A0_2 l0_2.length c0_2] 25 (0, 0)) (by (with_reducible repeat (first | refine blk_drewN ?_ _ | refine blk_drew ?_ | refine blk_alloc ?_ _)); exact BK165.out) hb); have n3_ := Aside0.mk (Kd.C_below (by repeat (first | (with_reducible exact HR174.out) | (with_reducible refine Kd.C_alloc ?_ _) | (with_reducible refine Kd.C_drewN ?_ _) | (with_reducible refine Kd.C_drew ?_) | exact HR174.out)) hb); have n4_ := Aside0.mk (below_step (by repeat (first | (with_reducible first | exact HB.out | apply below_alloc | apply pw_below_drewN | apply below_drew1 | refine below_set ?_ GE165.out) | exact HB.out)) hb); clear HO169; clear BK165; clear HR174; clear HB; have HO169 := n0_; have HO179 := n1_; have BK165 := n2_; have HR174 := n3_; have HB := n4_; clear n0_ n1_ n2_ n3_ n4_; (try clear hb); (try clear hb2); (try clear hk); (try clear hi); (try clear ho0)) | ((with_reducible refine gate_dst (N := 8) rfl ?_); (try (refine gate_guard (by rfl) ?_; dsimp only)); refine box_event ?hg (N := 8) ?hd (cs := #[.int .i64 0, .int .i64 0, .slice none 0 0]) (t := 25) ?hr ?_; (case hd => rfl); (case hg => rfl); (case hr => first | (go_simp; done) | (go_simp; rfl)); intro gb182 hg w31 hbox hb; have n0_ := Aside0.mk (Kd.R_below (by (with_reducible repeat (first | apply Kd.R_alloc | apply Kd.R_drewN | apply Kd.R_drew)); exact HO169.out) hb); have n1_ := Aside0.mk (Kd.R_below (by (with_reducible repeat (first | apply Kd.R_alloc | apply Kd.R_drewN | apply Kd.R_drew)); exact HO179.out) hb); have n2_ := Aside0.mk (blk_below (g := gb165) (o := .cells #[.int .i64 a0_0, .int .i64 a0_1, .slice A0_2 l0_2.length c0_2] 25 (0, 0)) (by (with_reducible repeat (first | refine blk_drewN ?_ _ | refine blk_drew ?_ | refine blk_alloc ?_ _)); exact BK165.out) hb); have n3_ := Aside0.mk (Kd.C_below (by repeat (first | (with_reducible exact HR174.out) | (with_reducible refine Kd.C_alloc ?_ _) | (with_reducible refine Kd.C_drewN ?_ _) | (with_reducible refine Kd.C_drew ?_) | exact HR174.out)) hb); have n4_ := Aside0.mk (below_step (by repeat (first | (with_reducible first | exact HB.out | apply below_alloc | apply pw_below_drewN | apply below_drew1 | refine below_set ?_ GE165.out) | exact HB.out)) hb); have n5_ := Aside0.mk (hbox); have n6_ := Aside0.mk ((by rw [hg]; exact (below_size (by repeat (first | (with_reducible first | exact HB.out | apply below_alloc | apply pw_below_drewN | apply below_drew1 | refine below_set ?_ GE165.out) | exact HB.out))) : w.heap.size ≤ gb182)); have n7_ := Aside0.mk ((by rw [hg]; exact (below_size (by repeat (first | (with_reducible first | exact HB.out | apply below_alloc | apply pw_below_drewN | apply below_drew1 | refine below_set ?_ GE165.out) | exact HB.out))) : w.heap.size ≤ gb182)); have n8_ := Aside0.mk ((by rw [hg]; exact Nat.ne_of_lt (blk_lt (g := gb165) (o := .cells #[.int .i64 a0_0, .int .i64 a0_1, .slice A0_2 l0_2.length c0_2] 25 (0, 0)) (by (with_reducible repeat (first | refine blk_drewN ?_ _ | refine blk_drew ?_ | refine blk_alloc ?_ _)); exact BK165.out)) : gb165 ≠ gb182)); have n9_ := Aside0.mk ((by rw [hg]; exact Nat.ne_of_gt (blk_lt (g := gb165) (o := .cells #[.int .i64 a0_0, .int .i64 a0_1, .slice A0_2 l0_2.length c0_2] 25 (0, 0)) (by (with_reducible repeat (first | refine blk_drewN ?_ _ | refine blk_drew ?_ | refine blk_alloc ?_ _)); exact BK165.out)) : gb182 ≠ gb165)); clear HO169; clear HO179; clear BK165; clear HR174; clear HB; have HO169 := n0_; have HO179 := n1_; have BK165 := n2_; have HR174 := n3_; have HB := n4_; have BK182 := n5_; have GW182 := n6_; have GE182 := n7_; have NB165_182 := n8_; have NB182_165 := n9_; clear n0_ n1_ n2_ n3_ n4_ n5_ n6_ n7_ n8_ n9_; clear hb hbox hg; have hnb32 := NB182_165.out; have hnc32 := NB165_182.out; have hcz33_0 : w31.cell? ⟨gb182, 0, none⟩ = some (.int .i64 0) := (blk_cell BK182.out 0).trans rfl; have hcz33_1 : w31.cell? ⟨gb182, 1, none⟩ = some (.int .i64 0) := (blk_cell BK182.out 1).trans rfl; have hcz33_2 : w31.cell? ⟨gb182, 2, none⟩ = some (.slice none 0 0) := (blk_cell BK182.out 2).trans rfl; have hfz33_0 := blk_frozen BK182.out 0; have hfz33_1 := blk_frozen BK182.out 1; have hfz33_2 := blk_frozen BK182.out 2; obtain ⟨Ao34, co34, eo34⟩ := Kd.R_slice HO179.out; subst eo34) | ((with_reducible refine gate_callee (f := 21) rfl ?_); refine goesL_ (some 52) rfl rfl Try.func21 (by kernel_rfl) rfl #[.slice Ao28 t167.length co28] rfl (by (try simp only [List.map_toArray, List.map_cons, List.map_nil]); first | done | rfl | (simp only [List.length_drop, List.length_take]; rfl)) ?_; (with_reducible refine (record_Read.calls _ _ t167 t183 t184 t185 t188 t189 _ ?side1 ?side2 A16.out).mono ?_); (case side1 => refine (Kd.R_reads' (e := 5) (base := w.heap.size) (ok := fun k_ => (True ∧ some k_ ≠ (.slice Ao34 t177.length co34 : Value).ownBlock)) (n := t167.length) (c := co28) ?_).2.2; exact (by (with_reducible repeat (first | apply Kd.R_alloc | apply Kd.R_drewN | apply Kd.R_drew)); exact (Kd.R_mono (Kd.R_far (p := ⟨gb182, 2, none⟩) (Kd.R_far (p := ⟨gb182, 1, none⟩) (Kd.R_far (p := ⟨gb182, 0, none⟩) (Kd.R_types HO169.out BK182.out (by decide)) (fun _ hk => hk.2) (.int .i64 t175)) (fun _ hk => hk.2) (.int .i64 t176)) (fun _ hk => hk.2) (.slice Ao34 t177.length co34)) (fun _ h_ => h_.1)))); (case side2 => exact (Kd.R_reads' HO169.out).2.1); rintro e w35 ⟨v186, rfl, ho0, hb⟩; refine ⟨_, rfl, ?_⟩; have n0_ := Aside0.mk (Kd.R_elder' (by (with_reducible repeat (first | apply Kd.R_alloc | apply Kd.R_drewN | apply Kd.R_drew)); exact (Kd.R_mono (Kd.R_far (p := ⟨gb182, 2, none⟩) (Kd.R_far (p := ⟨gb182, 1, none⟩) (Kd.R_far (p := ⟨gb182, 0, none⟩) (Kd.R_types HO169.out BK182.out (by decide)) (fun _ hk => hk.2) (.int .i64 t175)) (fun _ hk => hk.2) (.int .i64 t176)) (fun _ hk => hk.2) (.slice Ao34 t177.length co34)) (fun _ h_ => h_.1))) (Kd.R_base ho0) hb); have n1_ := Aside0.mk (Kd.R_elder' (by (with_reducible repeat (first | apply Kd.R_alloc | apply Kd.R_drewN | apply Kd.R_drew)); exact (Kd.R_mono (Kd.R_far (p := ⟨gb182, 2, none⟩) (Kd.R_far (p := ⟨gb182, 1, none⟩) (Kd.R_far (p := ⟨gb182, 0, none⟩) (Kd.R_types HO179.out BK182.out (by decide)) (fun _ hk => hk.2) (.int .i64 t175)) (fun _ hk => hk.2) (.int .i64 t176)) (fun _ hk => hk.2) (.slice Ao34 t177.length co34)) (fun _ h_ => h_.1))) (Kd.R_base ho0) hb); have n2_ := Aside0.mk (Kd.R_lower (Kd.R_new' (Kd.R_new' ho0 (Kd.R_lt (by (with_reducible repeat (first | apply Kd.R_alloc | apply Kd.R_drewN | apply Kd.R_drew)); exact (Kd.R_mono (Kd.R_far (p := ⟨gb182, 2, none⟩) (Kd.R_far (p := ⟨gb182, 1, none⟩) (Kd.R_far (p := ⟨gb182, 0, none⟩) (Kd.R_types HO169.out BK182.out (by decide)) (fun _ hk => hk.2) (.int .i64 t175)) (fun _ hk => hk.2) (.int .i64 t176)) (fun _ hk => hk.2) (.slice Ao34 t177.length co34)) (fun _ h_ => h_.1))))) (Kd.R_lt (by (with_reducible repeat (first | apply Kd.R_alloc | apply Kd.R_drewN | apply Kd.R_drew)); exact (Kd.R_mono (Kd.R_far (p := ⟨gb182, 2, none⟩) (Kd.R_far (p := ⟨gb182, 1, none⟩) (Kd.R_far (p := ⟨gb182, 0, none⟩) (Kd.R_types HO179.out BK182.out (by decide)) (fun _ hk => hk.2) (.int .i64 t175)) (fun _ hk => hk.2) (.int .i64 t176)) (fun _ hk => hk.2) (.slice Ao34 t177.length co34)) (fun _ h_ => h_.1))))) (below_size (by repeat (first | (with_reducible first | exact HB.out | apply below_alloc | apply pw_below_drewN | apply below_drew1 | refine below_set ?_ GE165.out | refine below_set ?_ GE182.out) | exact HB.out)))); have n3_ := Aside0.mk (blk_below (g := gb165) (o := .cells #[.int .i64 a0_0, .int .i64 a0_1, .slice A0_2 l0_2.length c0_2] 25 (0, 0)) (by (with_reducible repeat (first | refine blk_drewN ?_ _ | refine blk_drew ?_ | refine blk_alloc ?_ _)); refine blk_far ?_ NB165_182.out _; (with_reducible repeat (first | refine blk_drewN ?_ _ | refine blk_drew ?_ | refine blk_alloc ?_ _)); refine blk_far ?_ NB165_182.out _; (with_reducible repeat (first | refine blk_drewN ?_ _ | refine blk_drew ?_ | refine blk_alloc ?_ _)); refine blk_far ?_ NB165_182.out _; (with_reducible repeat (first | refine blk_drewN ?_ _ | refine blk_drew ?_ | refine blk_alloc ?_ _)); exact BK165.out) hb); have n4_ := Aside0.mk (blk_below (g := gb182) (o := .cells #[.int .i64 t175, .int .i64 t176, .slice Ao34 t177.length co34] 25 (0, 0)) (by (with_reducible repeat (first | refine blk_drewN ?_ _ | refine blk_drew ?_ | refine blk_alloc ?_ _)); refine blk_put (cs := #[.int .i64 t175, .int .i64 t176, .slice none 0 0]) ?_ 2 _ rfl; (with_reducible repeat (first | refine blk_drewN ?_ _ | refine blk_drew ?_ | refine blk_alloc ?_ _)); refine blk_put (cs := #[.int .i64 t175, .int .i64 0, .slice none 0 0]) ?_ 1 _ rfl; (with_reducible repeat (first | refine blk_drewN ?_ _ | refine blk_drew ?_ | refine blk_alloc ?_ _)); refine blk_put (cs := #[.int .i64 0, .int .i64 0, .slice none 0 0]) ?_ 0 _ rfl; (with_reducible repeat (first | refine blk_drewN ?_ _ | refine blk_drew ?_ | refine blk_alloc ?_ _)); exact BK182.out) hb); have n5_ := Aside0.mk (below_step (by repeat (first | (with_reducible first | exact HB.out | apply below_alloc | apply pw_below_drewN | apply below_drew1 | refine below_set ?_ GE165.out | refine below_set ?_ GE182.out) | exact HB.out)) hb); clear HO169; clear HO179; clear BK165; clear BK182; clear HB; have HO169 := n0_; have HO179 := n1_; have HO187 := n2_; have BK165 := n3_; have BK182 := n4_; have HB := n5_; clear n0_ n1_ n2_ n3_ n4_ n5_; (try clear hb); (try clear hb2); (try clear hk); (try clear hi); (try clear ho0)) | ((with_reducible refine gate_dst (N := 11) rfl ?_); (try (refine gate_guard (by rfl) ?_; dsimp only)); refine box_event ?hg (N := 11) ?hd (cs := #[.int .i64 0, .int .i64 0, .slice none 0 0]) (t := 25) ?hr ?_; (case hd => rfl); (case hg => rfl); (case hr => first | (go_simp; done) | (go_simp; rfl)); intro gb190 hg w36 hbox hb; have n0_ := Aside0.mk (Kd.R_below (by (with_reducible repeat (first | apply Kd.R_alloc | apply Kd.R_drewN | apply Kd.R_drew)); exact HO169.out) hb); have n1_ := Aside0.mk (Kd.R_below (by (with_reducible repeat (first | apply Kd.R_alloc | apply Kd.R_drewN | apply Kd.R_drew)); exact HO179.out) hb); have n2_ := Aside0.mk (Kd.R_below (by (with_reducible repeat (first | apply Kd.R_alloc | apply Kd.R_drewN | apply Kd.R_drew)); exact HO187.out) hb); have n3_ := Aside0.mk (blk_below (g := gb165) (o := .cells #[.int .i64 a0_0, .int .i64 a0_1, .slice A0_2 l0_2.length c0_2] 25 (0, 0)) (by (with_reducible repeat (first | refine blk_drewN ?_ _ | refine blk_drew ?_ | refine blk_alloc ?_ _)); exact BK165.out) hb); have n4_ := Aside0.mk (blk_below (g := gb182) (o := .cells #[.int .i64 t175, .int .i64 t176, .slice Ao34 t177.length co34] 25 (0, 0)) (by (with_reducible repeat (first | refine blk_drewN ?_ _ | refine blk_drew ?_ | refine blk_alloc ?_ _)); exact BK182.out) hb); have n5_ := Aside0.mk (below_step (by repeat (first | (with_reducible first | exact HB.out | apply below_alloc | apply pw_below_drewN | apply below_drew1 | refine below_set ?_ GE165.out | refine below_set ?_ GE182.out) | exact HB.out)) hb); have n6_ := Aside0.mk (hbox); have n7_ := Aside0.mk ((by rw [hg]; exact (below_size (by repeat (first | (with_reducible first | exact HB.out | apply below_alloc | apply pw_below_drewN | apply below_drew1 | refine below_set ?_ GE165.out | refine below_set ?_ GE182.out) | exact HB.out))) : w.heap.size ≤ gb190)); have n8_ := Aside0.mk ((by rw [hg]; exact (below_size (by repeat (first | (with_reducible first | exact HB.out | apply below_alloc | apply pw_below_drewN | apply below_drew1 | refine below_set ?_ GE165.out | refine below_set ?_ GE182.out) | exact HB.out))) : w.heap.size ≤ gb190)); have n9_ := Aside0.mk ((by rw [hg]; exact Nat.ne_of_lt (blk_lt (g := gb165) (o := .cells #[.int .i64 a0_0, .int .i64 a0_1, .slice A0_2 l0_2.length c0_2] 25 (0, 0)) (by (with_reducible repeat (first | refine blk_drewN ?_ _ | refine blk_drew ?_ | refine blk_alloc ?_ _)); exact BK165.out)) : gb165 ≠ gb190)); have n10_ := Aside0.mk ((by rw [hg]; exact Nat.ne_of_gt (blk_lt (g := gb165) (o := .cells #[.int .i64 a0_0, .int .i64 a0_1, .slice A0_2 l0_2.length c0_2] 25 (0, 0)) (by (with_reducible repeat (first | refine blk_drewN ?_ _ | refine blk_drew ?_ | refine blk_alloc ?_ _)); exact BK165.out)) : gb190 ≠ gb165)); have n11_ := Aside0.mk ((by rw [hg]; exact Nat.ne_of_lt (blk_lt (g := gb182) (o := .cells #[.int .i64 t175, .int .i64 t176, .slice Ao34 t177.length co34] 25 (0, 0)) (by (with_reducible repeat (first | refine blk_drewN ?_ _ | refine blk_drew ?_ | refine blk_alloc ?_ _)); exact BK182.out)) : gb182 ≠ gb190)); have n12_ := Aside0.mk ((by rw [hg]; exact Nat.ne_of_gt (blk_lt (g := gb182) (o := .cells #[.int .i64 t175, .int .i64 t176, .slice Ao34 t177.length co34] 25 (0, 0)) (by (with_reducible repeat (first | refine blk_drewN ?_ _ | refine blk_drew ?_ | refine blk_alloc ?_ _)); exact BK182.out)) : gb190 ≠ gb182)); clear HO169; clear HO179; clear HO187; clear BK165; clear BK182; clear HB; have HO169 := n0_; have HO179 := n1_; have HO187 := n2_; have BK165 := n3_; have BK182 := n4_; have HB := n5_; have BK190 := n6_; have GW190 := n7_; have GE190 := n8_; have NB165_190 := n9_; have NB190_165 := n10_; have NB182_190 := n11_; have NB190_182 := n12_; clear n0_ n1_ n2_ n3_ n4_ n5_ n6_ n7_ n8_ n9_ n10_ n11_ n12_; clear hb hbox hg; have hnb37 := NB190_165.out; have hnc37 := NB165_190.out; have hnb38 := NB190_182.out; have hnc38 := NB182_190.out; have hcz39_0 : w36.cell? ⟨gb190, 0, none⟩ = some (.int .i64 0) := (blk_cell BK190.out 0).trans rfl; have hcz39_1 : w36.cell? ⟨gb190, 1, none⟩ = some (.int .i64 0) := (blk_cell BK190.out 1).trans rfl; have hcz39_2 : w36.cell? ⟨gb190, 2, none⟩ = some (.slice none 0 0) := (blk_cell BK190.out 2).trans rfl; have hfz39_0 := blk_frozen BK190.out 0; have hfz39_1 := blk_frozen BK190.out 1; have hfz39_2 := blk_frozen BK190.out 2; obtain ⟨Ao40, co40, eo40⟩ := Kd.R_slice HO187.out; subst eo40; have hcz41_0 : w36.cell? ⟨gb165, 0, none⟩ = some (.int .i64 a0_0) := (blk_cell BK165.out 0).trans rfl; have hcz41_1 : w36.cell? ⟨gb165, 1, none⟩ = some (.int .i64 a0_1) := (blk_cell BK165.out 1).trans rfl; have hcz41_2 : w36.cell? ⟨gb165, 2, none⟩ = some (.slice A0_2 l0_2.length c0_2) := (blk_cell BK165.out 2).trans rfl; have hfz41_0 := blk_frozen BK165.out 0; have hfz41_1 := blk_frozen BK165.out 1; have hfz41_2 := blk_frozen BK165.out 2) | (go_at_call 26; (with_reducible refine (record_Size.calls (l0_2.length : Int) t191 _ A18.out).mono ?_); rintro e w' ⟨rfl, ⟨nd, rfl⟩⟩))
            go_ret
            exact ⟨by first | rfl | (exact congrArg (fun z_ => Ending.returned (Value.bool z_)) HRT.out) | (rw [HRT.out]; done) | (simp [errW_none, errW_some] <;> rfl) | (simp only [← hji10, ← hji12]; first | rfl | (simp [errW_none, errW_some] <;> rfl)) | (simp [*, errW_none, errW_some] <;> rfl), by repeat (first | (with_reducible first | exact HB.out | apply below_alloc | apply pw_below_drewN | apply below_drew1 | refine below_set ?_ GE165.out | refine below_set ?_ GE182.out | refine below_set ?_ GE190.out) | exact HB.out)⟩
           ·rw [if_neg c23] at H
            first | exact absurd H (by simp; done) | skip
          ·rw [if_neg c22] at H
           first | exact absurd H (by simp; done) | skip
         ·rw [if_neg c21] at H
          first | exact absurd H (by simp; done) | skip
        ·rw [if_neg c20] at H
         first | exact absurd H (by simp; done) | skip
       ·rw [if_neg c19] at H
        first | exact absurd H (by simp; done) | skip
      ·replace c17 := Bool.eq_false_iff.mpr c17
       subst c17
       have H1 : (some false) = some true := by rw [if_neg (show ¬ (false = true) by decide)] at H <;> exact H
       exact absurd H1 (by simp)
     ·rw [if_neg c14] at H
      exact absurd H (by simp)
    ·rw [if_neg c13] at H
     exact absurd H (by simp)
  ·rw [if_neg c9] at H
   have c9b0 : (t170 == 0) = false := beq_eq_false_iff_ne.mpr c9
   have c9b1 : (t170 != 0) = true := bne_iff_ne.mpr c9
   by_cases c149 : t166 = true
   ·subst c149
    have H1 : (if t170 = 50 then (some ((t167.length : Int) == 0)) else (some false)) = some true := by rw [if_pos rfl] at H <;> exact H
    clear H
    have H := H1
    clear H1
    by_cases c150 : t170 = 50
    ·rw [if_pos c150] at H
     have c150b0 : (t170 == 50) = true := beq_iff_eq.mpr c150
     have c150b1 : (t170 != 50) = false := bne_eq_false_iff_eq.mpr c150
     clear c150
     (have HRT := Aside0.mk (Option.some.inj H); clear H)
     go_enter Try.func8, Try.ntmps8
     go_wp2_with (first | ((with_reducible refine gate_dst (N := 2) rfl ?_); (try (refine gate_guard (by rfl) ?_; dsimp only)); refine box_event ?hg (N := 2) ?hd (cs := #[.int .i64 a0_0, .int .i64 a0_1, .slice A0_2 l0_2.length c0_2]) (t := 25) ?hr ?_; (case hd => rfl); (case hg => rfl); (case hr => first | (go_simp; done) | (go_simp; rfl)); intro gb165 hg w151 hbox hb; have n0_ := Aside0.mk (below_step (by repeat (first | (with_reducible first | exact HB.out | apply below_alloc | apply pw_below_drewN | apply below_drew1) | exact HB.out)) hb); have n1_ := Aside0.mk (hbox); have n2_ := Aside0.mk ((by rw [hg]; exact (below_size (by repeat (first | (with_reducible first | exact HB.out | apply below_alloc | apply pw_below_drewN | apply below_drew1) | exact HB.out))) : w.heap.size ≤ gb165)); have n3_ := Aside0.mk ((by rw [hg]; exact (below_size (by repeat (first | (with_reducible first | exact HB.out | apply below_alloc | apply pw_below_drewN | apply below_drew1) | exact HB.out))) : w.heap.size ≤ gb165)); clear HB; have HB := n0_; have BK165 := n1_; have GW165 := n2_; have GE165 := n3_; clear n0_ n1_ n2_ n3_; clear hb hbox hg) | ((with_reducible refine gate_callee (f := 18) rfl ?_); refine goesL_ (some 14) rfl rfl Try.func18 (by kernel_rfl) rfl #[] rfl (by (try simp only [List.map_toArray, List.map_cons, List.map_nil]); first | done | rfl | (simp only [List.length_drop, List.length_take]; rfl)) ?_; (with_reducible refine (waggonerlaw05_awake.calls  true _ A3.out).mono ?_); rintro e w152 ⟨rfl, hb⟩; refine ⟨_, rfl, ?_⟩; have n0_ := Aside0.mk (blk_below (g := gb165) (o := .cells #[.int .i64 a0_0, .int .i64 a0_1, .slice A0_2 l0_2.length c0_2] 25 (0, 0)) (by (with_reducible repeat (first | refine blk_drewN ?_ _ | refine blk_drew ?_ | refine blk_alloc ?_ _)); exact BK165.out) hb); have n1_ := Aside0.mk (below_step (by repeat (first | (with_reducible first | exact HB.out | apply below_alloc | apply pw_below_drewN | apply below_drew1 | refine below_set ?_ GE165.out) | exact HB.out)) hb); clear BK165; clear HB; have BK165 := n0_; have HB := n1_; clear n0_ n1_; (try clear hb); (try clear hb2); (try clear hk); (try clear hi); have hcz153_0 : w152.cell? ⟨gb165, 0, none⟩ = some (.int .i64 a0_0) := (blk_cell BK165.out 0).trans rfl; have hcz153_1 : w152.cell? ⟨gb165, 1, none⟩ = some (.int .i64 a0_1) := (blk_cell BK165.out 1).trans rfl; have hcz153_2 : w152.cell? ⟨gb165, 2, none⟩ = some (.slice A0_2 l0_2.length c0_2) := (blk_cell BK165.out 2).trans rfl; have hfz153_0 := blk_frozen BK165.out 0; have hfz153_1 := blk_frozen BK165.out 1; have hfz153_2 := blk_frozen BK165.out 2) | ((with_reducible refine gate_callee (f := 19) rfl ?_); refine goesL_ (some 22) rfl rfl Try.func19 (by kernel_rfl) rfl #[.agg #[.int .i64 a0_0, .int .i64 a0_1, .slice A0_2 l0_2.length c0_2]] rfl (by (try simp only [List.map_toArray, List.map_cons, List.map_nil]); first | done | rfl | (simp only [List.length_drop, List.length_take]; rfl)) ?_; (with_reducible refine (record_Write.calls a0_0 a0_1 _ _ l0_2 t167 t170 _ ?side1 ?side2 A8.out).mono ?_); (case side1 => repeat (first | exact (Kd.C_below HR0_2.out HB.out) | (with_reducible refine Kd.C_alloc ?_ _) | (with_reducible refine Kd.C_drewN ?_ _) | (with_reducible refine Kd.C_drew ?_))); (case side2 => exact HC0_2.out); rintro e w154 ⟨v168, rfl, ho0, hb⟩; refine ⟨_, rfl, ?_⟩; have n0_ := Aside0.mk (Kd.R_lower ho0 (below_size (by repeat (first | (with_reducible first | exact HB.out | apply below_alloc | apply pw_below_drewN | apply below_drew1 | refine below_set ?_ GE165.out) | exact HB.out)))); have n1_ := Aside0.mk (blk_below (g := gb165) (o := .cells #[.int .i64 a0_0, .int .i64 a0_1, .slice A0_2 l0_2.length c0_2] 25 (0, 0)) (by (with_reducible repeat (first | refine blk_drewN ?_ _ | refine blk_drew ?_ | refine blk_alloc ?_ _)); exact BK165.out) hb); have n2_ := Aside0.mk (below_step (by repeat (first | (with_reducible first | exact HB.out | apply below_alloc | apply pw_below_drewN | apply below_drew1 | refine below_set ?_ GE165.out) | exact HB.out)) hb); clear BK165; clear HB; have HO169 := n0_; have BK165 := n1_; have HB := n2_; clear n0_ n1_ n2_; (try clear hb); (try clear hb2); (try clear hk); (try clear hi); (try clear ho0); obtain ⟨Ao155, co155, eo155⟩ := Kd.R_slice HO169.out; subst eo155))
     go_ret
     exact ⟨by first | rfl | (exact congrArg (fun z_ => Ending.returned (Value.bool z_)) HRT.out) | (rw [HRT.out]; done) | (simp [errW_none, errW_some] <;> rfl) | (simp [*, errW_none, errW_some] <;> rfl), by repeat (first | (with_reducible first | exact HB.out | apply below_alloc | apply pw_below_drewN | apply below_drew1 | refine below_set ?_ GE165.out) | exact HB.out)⟩
    ·rw [if_neg c150] at H
     first | exact absurd H (by simp; done) | skip
   ·replace c149 := Bool.eq_false_iff.mpr c149
    subst c149
    have H1 : (some false) = some true := by rw [if_neg (show ¬ (false = true) by decide)] at H <;> exact H
    exact absurd H1 (by simp)
end Go.Proofs.Ytcemlfkboifncaa.PV
