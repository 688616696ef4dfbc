/- Functions of the program as Lean functions, and that the Go code comes to just their answers: no condition but that the function says so. (Written by a program of this workplace over the kit's print, with contracts by hand.) -/
import Derived.Test.YtiaoehjldbnpkaaPTx17
import Derived.Test.YtiaoehjldbnpkaaPTx27
namespace Go.Proofs.Ytiaoehjldbnpkaa.PT
open Go.RowKit Go.Proofs.YtiaoehjldbnpkaaW.PrintWords Go.Proofs.YtiaoehjldbnpkaaW.PrintLast Go.Proofs.YtiaoehjldbnpkaaW.PrintMore
attribute [local go_sem] max2_int min2_int max_two min_two max_three min_three max_four min_four   -- for this text's walks alone
set_option linter.unusedVariables false
set_option linter.unusedSimpArgs false

/-! ### waggonerlaw02_CrcTells: function 3 -/
def waggonerlaw02_CrcTells.f (a0 : Int) (l1 : List Int) (a2 : Int) (a3 : Int) : Option Bool := if Pl.byteB l1 = true ∧ 0 ≤ a0 ∧ a0 < 4294967296 ∧ 0 ≤ a2 ∧ a2 < 4294967296 then some true else none
set_option maxHeartbeats 8000000 in
set_option maxRecDepth 2000000 in
theorem waggonerlaw02_CrcTells.calls (a0 : Int) (A1 : Option Addr) (c1 : Nat) (l1 : List Int) (a2 : Int) (a3 : Int) (r : Bool) (w : World) (hr1 : Kd.C (Kd.int .u8) w A1 l1.length l1) (hc1 : l1.length ≤ c1) (h : waggonerlaw02_CrcTells.f a0 l1 a2 a3 = some r) :
    Calls Try.prog 3 #[.int .u32 a0, .slice A1 l1.length c1, .int .u32 a2, .int .i64 a3] w fun e w' => e = .returned (.bool r) ∧ Below w.heap.size w w' := by
  unfold waggonerlaw02_CrcTells.f at h
  split at h
  case isFalse => cases h
  rename_i hh
  obtain ⟨hb1, h1, h2, h3, h4⟩ := hh
  obtain rfl := Option.some.inj h
  clear h
  have HR1 := Aside0.mk hr1
  have HC1 := Aside0.mk hc1
  have HB1 := Aside0.mk hb1
  clear hr1 hc1 hb1
  obtain ⟨a, rfl⟩ := Int.eq_ofNat_of_zero_le h1
  obtain ⟨o, rfl⟩ := Int.eq_ofNat_of_zero_le h3
  have ha : a < 4294967296 := by omega
  have ho : o < 4294967296 := by omega
  clear h1 h2 h3 h4
  by_cases c0' : (300 : Int) < (l1.length : Int)
  · have d0 : decide ((300 : Int) < (l1.length : Int)) = true := decide_eq_true c0'
    have HB := Aside0.mk (Below.refl w.heap.size w)
    go_enter Try.func3, Try.ntmps3
    go_wp2_with fail
    refine (waggonerlaw02_awake.calls  true _ rfl).mono ?_
    rintro e w1 ⟨rfl, hb⟩
    have HB' := Aside0.mk (below_step HB.out hb)
    have HR1' := Aside0.mk (Kd.C_below HR1.out hb)
    clear HR1; have HR1 := HR1'; clear HR1'
    clear HB; have HB := HB'; clear HB'
    clear hb
    go_wp2
    go_ret
    exact ⟨rfl, HB.out⟩
  have d0 : decide ((300 : Int) < (l1.length : Int)) = false := decide_eq_false c0'
  have n1 : l1.length ≤ 300 := by omega
  clear c0'
  obtain ⟨⟨X, E⟩, hX⟩ : ∃ p : List Int × Int, p = Pl.openS l1 := ⟨_, rfl⟩
  have HO1 : Aside0 (crc_Open.f l1 = some (X, E)) := ⟨by unfold crc_Open.f; rw [if_pos ⟨HB1.out, by omega⟩, hX]⟩
  have HO2 : Aside0 (waggonerref02_Open.f l1 = some (X, E)) := ⟨by unfold waggonerref02_Open.f; rw [if_pos ⟨HB1.out, by omega⟩, hX]⟩
  obtain ⟨q, hq⟩ : ∃ q, q = Pl.seal4 l1 := ⟨_, rfl⟩
  have HS1 : Aside0 (crc_Seal.f l1 = some q) := ⟨by unfold crc_Seal.f; rw [if_pos ⟨HB1.out, by omega⟩, hq]⟩
  have HS2 : Aside0 (waggonerref02_Seal.f l1 = some q) := ⟨by unfold waggonerref02_Seal.f; rw [if_pos ⟨HB1.out, by omega⟩, hq]⟩
  obtain ⟨m, hm⟩ : ∃ m, m = Pl.more a (Pl.nats l1) := ⟨_, rfl⟩
  have HM1 : Aside0 (crc_More.f (a : Int) l1 = some (m : Int)) := ⟨by unfold crc_More.f; rw [if_pos ⟨by omega, by omega, HB1.out⟩, Int.toNat_natCast, hm]⟩
  have HM2 : Aside0 (waggonerref02_More.f (a : Int) l1 = some (m : Int)) := ⟨by unfold waggonerref02_More.f; rw [if_pos ⟨by omega, by omega, HB1.out, by omega⟩, Int.toNat_natCast, hm]⟩
  obtain ⟨s, hs⟩ : ∃ s, s = Pl.more 0 (Pl.nats l1) := ⟨_, rfl⟩
  have HU1 : Aside0 (crc_Sum.f l1 = some (s : Int)) := ⟨by rw [hs]; exact crc_Sum.tells l1 HB1.out⟩
  have HU2 : Aside0 (waggonerref02_More.f 0 l1 = some (s : Int)) := ⟨by unfold waggonerref02_More.f; rw [if_pos ⟨by omega, by omega, HB1.out, by omega⟩, hs]; rfl⟩
  obtain ⟨j, hj⟩ : ∃ j, j = Pl.join a o a3 := ⟨_, rfl⟩
  have HJ1 : Aside0 (crc_Join.f (a : Int) (o : Int) a3 = some (j : Int)) := ⟨by rw [crc_Join.tells _ _ _ ha ho, hj]⟩
  have HJ2 : Aside0 (waggonerref02_Join.f (a : Int) (o : Int) a3 = some (j : Int)) := ⟨by rw [waggonerref02_Join.tells _ _ _ ha ho, hj]⟩
  clear hX hq hm hs hj
  have HB := Aside0.mk (Below.refl w.heap.size w)
  go_enter Try.func3, Try.ntmps3
  go_wp2_with fail
  refine (waggonerlaw02_awake.calls  true _ rfl).mono ?_
  rintro e w1 ⟨rfl, hb⟩
  have HB' := Aside0.mk (below_step HB.out hb)
  have HR1' := Aside0.mk (Kd.C_below HR1.out hb)
  clear HR1; have HR1 := HR1'; clear HR1'
  clear HB; have HB := HB'; clear HB'
  clear hb
  go_wp2_with fail
  refine (crc_Open.calls _ _ l1 X E _ HR1.out HC1.out HO1.out).mono ?_
  rintro e w2 ⟨vx, rfl, hox, hb⟩
  have HB' := Aside0.mk (below_step HB.out hb)
  have HR1' := Aside0.mk (Kd.C_below HR1.out hb)
  clear HR1; have HR1 := HR1'; clear HR1'
  clear HB; have HB := HB'; clear HB'
  clear hb
  obtain ⟨Ax, cx, rfl, hcx, hrx⟩ := Kd.R_reads hox
  have HRx := Aside0.mk hrx
  have HCx := Aside0.mk hcx
  clear hrx hcx hox
  go_wp2_with fail
  refine (waggonerref02_Open.calls _ _ l1 X E _ HR1.out HC1.out HO2.out).mono ?_
  rintro e w3 ⟨vy, rfl, hoy, hb⟩
  have HB' := Aside0.mk (below_step HB.out hb)
  have HR1' := Aside0.mk (Kd.C_below HR1.out hb)
  clear HR1; have HR1 := HR1'; clear HR1'
  have HRx' := Aside0.mk (Kd.C_below HRx.out hb)
  clear HRx; have HRx := HRx'; clear HRx'
  clear HB; have HB := HB'; clear HB'
  clear hb
  obtain ⟨Ay, cy, rfl, hcy, hry⟩ := Kd.R_reads hoy
  have HRy := Aside0.mk hry
  have HCy := Aside0.mk hcy
  clear hry hcy hoy
  go_wp2_with fail
  have HB' := Aside0.mk (below_drew HB.out); clear HB; have HB := HB'; clear HB'
  have HR1' := Aside0.mk (Kd.C_drew HR1.out); clear HR1; have HR1 := HR1'; clear HR1'
  have HRx' := Aside0.mk (Kd.C_drew HRx.out); clear HRx; have HRx := HRx'; clear HRx'
  have HRy' := Aside0.mk (Kd.C_drew HRy.out); clear HRy; have HRy := HRy'; clear HRy'
  refine start_ (n := 50) (S := fun w' => (convert 23 9 (.slice Ax X.length cx)).run Try.prog w' = .ok (.string (strOfNums X)) w' ∧ (convert 23 9 (.slice Ay X.length cy)).run Try.prog w' = .ok (.string (strOfNums X)) w') (ds := []) #[false, false, false, false, false, false, false, false, false, false, false, false, false, false, false, false, false, false, false, false, false, false, false, false, false, false, false, false, false, false, false, false, false, false, false, false, false, false, false, false, false, false, false, false, false, false, false, false, false, false] (by kernel_rfl) rfl rfl ⟨(Kd.C_string (P := Try.prog) (A := Ax) (c := cx) Try.underlying23 Try.underlying5 Try.underlying9 HRx.out), (Kd.C_string (P := Try.prog) (A := Ay) (c := cy) Try.underlying23 Try.underlying5 Try.underlying9 HRy.out)⟩ (fun hHeld => ?_)
  generalize w3.drew = wd4 at HB HR1 HRx HRy hHeld ⊢
  refine pure_ (i := 0) (N := some 29) (v := ?_) (a' := ?_) #[true, false, false, false, false, false, false, false, false, false, false, false, false, false, false, false, false, false, false, false, false, false, false, false, false, false, false, false, false, false, false, false, false, false, false, false, false, false, false, false, false, false, false, false, false, false, false, false, false, false] rfl rfl (by kernel_rfl) (fun _ _ _ h => h) (Or.inl ⟨by rfl, ?_⟩) ?_ ?_
  rotate_left
  · intro w'
    go_simp
    with_reducible rfl
  rotate_left
  · simp only [Act.put, List.setIfInBounds_toArray, List.set_cons_zero, List.set_cons_succ, i64_w, i32_w]
    rfl
  refine pure_ (i := 1) (N := some 30) (v := ?_) (a' := ?_) #[true, true, false, false, false, false, false, false, false, false, false, false, false, false, false, false, false, false, false, false, false, false, false, false, false, false, false, false, false, false, false, false, false, false, false, false, false, false, false, false, false, false, false, false, false, false, false, false, false, false] rfl rfl (by kernel_rfl) (fun _ _ _ h => h) (Or.inl ⟨by rfl, ?_⟩) ?_ ?_
  rotate_left
  · intro w'
    go_simp
    with_reducible rfl
  rotate_left
  · simp only [Act.put, List.setIfInBounds_toArray, List.set_cons_zero, List.set_cons_succ, i64_w, i32_w]
    rfl
  refine pure_ (i := 2) (N := some 31) (v := ?_) (a' := ?_) #[true, true, true, false, false, false, false, false, false, false, false, false, false, false, false, false, false, false, false, false, false, false, false, false, false, false, false, false, false, false, false, false, false, false, false, false, false, false, false, false, false, false, false, false, false, false, false, false, false, false] rfl rfl (by kernel_rfl) (fun _ _ _ h => h) (Or.inl ⟨by rfl, ?_⟩) ?_ ?_
  rotate_left
  · intro w'
    go_simp
    with_reducible rfl
  rotate_left
  · simp only [Act.put, List.setIfInBounds_toArray, List.set_cons_zero, List.set_cons_succ, i64_w, i32_w]
    rfl
  refine pure_ (i := 3) (N := some 32) (v := ?_) (a' := ?_) #[true, true, true, true, false, false, false, false, false, false, false, false, false, false, false, false, false, false, false, false, false, false, false, false, false, false, false, false, false, false, false, false, false, false, false, false, false, false, false, false, false, false, false, false, false, false, false, false, false, false] rfl rfl (by kernel_rfl) (fun _ _ _ h => h) (Or.inl ⟨by rfl, ?_⟩) ?_ ?_
  rotate_left
  · intro w'
    go_simp
    with_reducible rfl
  rotate_left
  · simp only [Act.put, List.setIfInBounds_toArray, List.set_cons_zero, List.set_cons_succ, i64_w, i32_w]
    rfl
  refine pure_ (i := 5) (N := some 34) (v := ?_) (a' := ?_) #[true, true, true, true, false, true, false, false, false, false, false, false, false, false, false, false, false, false, false, false, false, false, false, false, false, false, false, false, false, false, false, false, false, false, false, false, false, false, false, false, false, false, false, false, false, false, false, false, false, false] rfl rfl (by kernel_rfl) (fun _ _ _ h => h) (Or.inl ⟨by rfl, ?_⟩) ?_ ?_
  rotate_left
  · intro w'
    go_simp
    with_reducible rfl
  rotate_left
  · simp only [Act.put, List.setIfInBounds_toArray, List.set_cons_zero, List.set_cons_succ, i64_w, i32_w]
    rfl
  refine pure_ (i := 6) (N := some 35) (v := ?_) (a' := ?_) #[true, true, true, true, false, true, true, false, false, false, false, false, false, false, false, false, false, false, false, false, false, false, false, false, false, false, false, false, false, false, false, false, false, false, false, false, false, false, false, false, false, false, false, false, false, false, false, false, false, false] rfl rfl (by kernel_rfl) (fun _ _ _ h => h) (Or.inl ⟨by rfl, ?_⟩) ?_ ?_
  rotate_left
  · intro w'
    go_simp
    with_reducible rfl
  rotate_left
  · simp only [Act.put, List.setIfInBounds_toArray, List.set_cons_zero, List.set_cons_succ, i64_w, i32_w]
    rfl
  refine one_ (i := 4) (N := some 33) #[true, true, true, true, true, true, true, false, false, false, false, false, false, false, false, false, false, false, false, false, false, false, false, false, false, false, false, false, false, false, false, false, false, false, false, false, false, false, false, false, false, false, false, false, false, false, false, false, false, false] rfl rfl (by kernel_rfl) (by decide) (fun K hK => ?_)
  refine goes_ Try.func19 (by kernel_rfl) rfl #[.int .u32 (a : Int), .slice A1 l1.length c1] (by rfl) rfl rfl (by simp only [List.map_toArray, List.map_cons, List.map_nil]; rfl) ?_
  refine (crc_More.calls _ _ _ l1 _ _ HR1.out HC1.out HM1.out).mono ?_
  rintro e w404 ⟨rfl, hb⟩
  refine ⟨_, rfl, ?_⟩
  have HB' := Aside0.mk (below_step HB.out hb); clear HB; have HB := HB'; clear HB'
  have HR1' := Aside0.mk (Kd.C_below HR1.out hb); clear HR1; have HR1 := HR1'; clear HR1'
  have HRx' := Aside0.mk (Kd.C_below HRx.out hb); clear HRx; have HRx := HRx'; clear HRx'
  have HRy' := Aside0.mk (Kd.C_below HRy.out hb); clear HRy; have HRy := HRy'; clear HRy'
  clear hb
  refine hK.out _ _ ⟨(Kd.C_string (P := Try.prog) (A := Ax) (c := cx) Try.underlying23 Try.underlying5 Try.underlying9 HRx.out), (Kd.C_string (P := Try.prog) (A := Ay) (c := cy) Try.underlying23 Try.underlying5 Try.underlying9 HRy.out)⟩ (fun hHeld => ?_)
  clear hK K
  refine norm_ (a' := ?_) ?_ ?_
  rotate_left
  · show Act.put _ (some 33) _ = _
    simp only [Act.put, List.setIfInBounds_toArray, List.set_cons_zero, List.set_cons_succ, i64_w, i32_w]
    rfl
  refine one_ (i := 7) (N := some 36) #[true, true, true, true, true, true, true, true, false, false, false, false, false, false, false, false, false, false, false, false, false, false, false, false, false, false, false, false, false, false, false, false, false, false, false, false, false, false, false, false, false, false, false, false, false, false, false, false, false, false] rfl rfl (by kernel_rfl) (by decide) (fun K hK => ?_)
  refine goes_ Try.func20 (by kernel_rfl) rfl #[.int .u32 (a : Int), .slice A1 l1.length c1] (by rfl) rfl rfl (by simp only [List.map_toArray, List.map_cons, List.map_nil]; rfl) ?_
  refine (waggonerref02_More.calls _ _ _ l1 _ _ HR1.out HC1.out HM2.out).mono ?_
  rintro e w407 ⟨rfl, ⟨nd, rfl⟩⟩
  refine ⟨_, rfl, ?_⟩
  have HB' := Aside0.mk (pw_below_drewN HB.out nd); clear HB; have HB := HB'; clear HB'
  have HR1' := Aside0.mk (Kd.C_drewN HR1.out nd); clear HR1; have HR1 := HR1'; clear HR1'
  have HRx' := Aside0.mk (Kd.C_drewN HRx.out nd); clear HRx; have HRx := HRx'; clear HRx'
  have HRy' := Aside0.mk (Kd.C_drewN HRy.out nd); clear HRy; have HRy := HRy'; clear HRy'
  refine hK.out _ _ ⟨(Kd.C_string (P := Try.prog) (A := Ax) (c := cx) Try.underlying23 Try.underlying5 Try.underlying9 HRx.out), (Kd.C_string (P := Try.prog) (A := Ay) (c := cy) Try.underlying23 Try.underlying5 Try.underlying9 HRy.out)⟩ (fun hHeld => ?_)
  clear hK K
  refine norm_ (a' := ?_) ?_ ?_
  rotate_left
  · show Act.put _ (some 36) _ = _
    simp only [Act.put, List.setIfInBounds_toArray, List.set_cons_zero, List.set_cons_succ, i64_w, i32_w]
    rfl
  refine pure_ (i := 8) (N := some 37) (v := ?_) (a' := ?_) #[true, true, true, true, true, true, true, true, true, false, false, false, false, false, false, false, false, false, false, false, false, false, false, false, false, false, false, false, false, false, false, false, false, false, false, false, false, false, false, false, false, false, false, false, false, false, false, false, false, false] rfl rfl (by kernel_rfl) (fun _ _ _ h => h) (Or.inl ⟨by rfl, ?_⟩) ?_ ?_
  rotate_left
  · intro w'
    go_simp
    with_reducible rfl
  rotate_left
  · simp only [Act.put, List.setIfInBounds_toArray, List.set_cons_zero, List.set_cons_succ, i64_w, i32_w]
    rfl
  refine pure_ (i := 9) (N := some 38) (v := ?_) (a' := ?_) #[true, true, true, true, true, true, true, true, true, true, false, false, false, false, false, false, false, false, false, false, false, false, false, false, false, false, false, false, false, false, false, false, false, false, false, false, false, false, false, false, false, false, false, false, false, false, false, false, false, false] rfl rfl (by kernel_rfl) (fun _ _ _ h => h) (Or.inl ⟨by rfl, ?_⟩) ?_ ?_
  rotate_left
  · intro w'
    go_simp
    with_reducible rfl
  rotate_left
  · simp only [Act.put, List.setIfInBounds_toArray, List.set_cons_zero, List.set_cons_succ, i64_w, i32_w]
    rfl
  refine pure_ (i := 10) (N := some 39) (v := ?_) (a' := ?_) #[true, true, true, true, true, true, true, true, true, true, true, false, false, false, false, false, false, false, false, false, false, false, false, false, false, false, false, false, false, false, false, false, false, false, false, false, false, false, false, false, false, false, false, false, false, false, false, false, false, false] rfl rfl (by kernel_rfl) (fun _ _ _ h => h) (Or.inl ⟨by rfl, ?_⟩) ?_ ?_
  rotate_left
  · intro w'
    go_simp
    with_reducible rfl
  rotate_left
  · simp only [Act.put, List.setIfInBounds_toArray, List.set_cons_zero, List.set_cons_succ, i64_w, i32_w]
    rfl
  refine pure_ (i := 11) (N := some 40) (v := ?_) (a' := ?_) #[true, true, true, true, true, true, true, true, true, true, true, true, false, false, false, false, false, false, false, false, false, false, false, false, false, false, false, false, false, false, false, false, false, false, false, false, false, false, false, false, false, false, false, false, false, false, false, false, false, false] rfl rfl (by kernel_rfl) (fun _ _ _ h => h) (Or.inl ⟨by rfl, ?_⟩) ?_ ?_
  rotate_left
  · intro w'
    go_simp
    with_reducible rfl
  rotate_left
  · simp only [Act.put, List.setIfInBounds_toArray, List.set_cons_zero, List.set_cons_succ, i64_w, i32_w]
    rfl
  refine pure_ (i := 13) (N := some 42) (v := ?_) (a' := ?_) #[true, true, true, true, true, true, true, true, true, true, true, true, false, true, false, false, false, false, false, false, false, false, false, false, false, false, false, false, false, false, false, false, false, false, false, false, false, false, false, false, false, false, false, false, false, false, false, false, false, false] rfl rfl (by kernel_rfl) (fun _ _ _ h => h) (Or.inl ⟨by rfl, ?_⟩) ?_ ?_
  rotate_left
  · intro w'
    go_simp
    with_reducible rfl
  rotate_left
  · simp only [Act.put, List.setIfInBounds_toArray, List.set_cons_zero, List.set_cons_succ, i64_w, i32_w]
    rfl
  refine one_ (i := 12) (N := some 41) #[true, true, true, true, true, true, true, true, true, true, true, true, true, true, false, false, false, false, false, false, false, false, false, false, false, false, false, false, false, false, false, false, false, false, false, false, false, false, false, false, false, false, false, false, false, false, false, false, false, false] rfl rfl (by kernel_rfl) (by decide) (fun K hK => ?_)
  refine goes_ Try.func21 (by kernel_rfl) rfl #[.slice A1 l1.length c1] (by rfl) rfl rfl (by simp only [List.map_toArray, List.map_cons, List.map_nil]; rfl) ?_
  refine (crc_Sum.calls _ _ l1 _ _ HR1.out HC1.out HU1.out).mono ?_
  rintro e w412 ⟨rfl, hb⟩
  refine ⟨_, rfl, ?_⟩
  have HB' := Aside0.mk (below_step HB.out hb); clear HB; have HB := HB'; clear HB'
  have HR1' := Aside0.mk (Kd.C_below HR1.out hb); clear HR1; have HR1 := HR1'; clear HR1'
  have HRx' := Aside0.mk (Kd.C_below HRx.out hb); clear HRx; have HRx := HRx'; clear HRx'
  have HRy' := Aside0.mk (Kd.C_below HRy.out hb); clear HRy; have HRy := HRy'; clear HRy'
  clear hb
  refine hK.out _ _ ⟨(Kd.C_string (P := Try.prog) (A := Ax) (c := cx) Try.underlying23 Try.underlying5 Try.underlying9 HRx.out), (Kd.C_string (P := Try.prog) (A := Ay) (c := cy) Try.underlying23 Try.underlying5 Try.underlying9 HRy.out)⟩ (fun hHeld => ?_)
  clear hK K
  refine norm_ (a' := ?_) ?_ ?_
  rotate_left
  · show Act.put _ (some 41) _ = _
    simp only [Act.put, List.setIfInBounds_toArray, List.set_cons_zero, List.set_cons_succ, i64_w, i32_w]
    rfl
  refine one_ (i := 14) (N := some 43) #[true, true, true, true, true, true, true, true, true, true, true, true, true, true, true, false, false, false, false, false, false, false, false, false, false, false, false, false, false, false, false, false, false, false, false, false, false, false, false, false, false, false, false, false, false, false, false, false, false, false] rfl rfl (by kernel_rfl) (by decide) (fun K hK => ?_)
  refine goes_ Try.func20 (by kernel_rfl) rfl #[.int .u32 0, .slice A1 l1.length c1] (by rfl) rfl rfl (by simp only [List.map_toArray, List.map_cons, List.map_nil]; rfl) ?_
  refine (waggonerref02_More.calls _ _ _ l1 _ _ HR1.out HC1.out HU2.out).mono ?_
  rintro e w414 ⟨rfl, ⟨nd, rfl⟩⟩
  refine ⟨_, rfl, ?_⟩
  have HB' := Aside0.mk (pw_below_drewN HB.out nd); clear HB; have HB := HB'; clear HB'
  have HR1' := Aside0.mk (Kd.C_drewN HR1.out nd); clear HR1; have HR1 := HR1'; clear HR1'
  have HRx' := Aside0.mk (Kd.C_drewN HRx.out nd); clear HRx; have HRx := HRx'; clear HRx'
  have HRy' := Aside0.mk (Kd.C_drewN HRy.out nd); clear HRy; have HRy := HRy'; clear HRy'
  refine hK.out _ _ ⟨(Kd.C_string (P := Try.prog) (A := Ax) (c := cx) Try.underlying23 Try.underlying5 Try.underlying9 HRx.out), (Kd.C_string (P := Try.prog) (A := Ay) (c := cy) Try.underlying23 Try.underlying5 Try.underlying9 HRy.out)⟩ (fun hHeld => ?_)
  clear hK K
  refine norm_ (a' := ?_) ?_ ?_
  rotate_left
  · show Act.put _ (some 43) _ = _
    simp only [Act.put, List.setIfInBounds_toArray, List.set_cons_zero, List.set_cons_succ, i64_w, i32_w]
    rfl
  refine pure_ (i := 15) (N := some 44) (v := ?_) (a' := ?_) #[true, true, true, true, true, true, true, true, true, true, true, true, true, true, true, true, false, false, false, false, false, false, false, false, false, false, false, false, false, false, false, false, false, false, false, false, false, false, false, false, false, false, false, false, false, false, false, false, false, false] rfl rfl (by kernel_rfl) (fun _ _ _ h => h) (Or.inl ⟨by rfl, ?_⟩) ?_ ?_
  rotate_left
  · intro w'
    go_simp
    with_reducible rfl
  rotate_left
  · simp only [Act.put, List.setIfInBounds_toArray, List.set_cons_zero, List.set_cons_succ, i64_w, i32_w]
    rfl
  refine pure_ (i := 16) (N := some 45) (v := ?_) (a' := ?_) #[true, true, true, true, true, true, true, true, true, true, true, true, true, true, true, true, true, false, false, false, false, false, false, false, false, false, false, false, false, false, false, false, false, false, false, false, false, false, false, false, false, false, false, false, false, false, false, false, false, false] rfl rfl (by kernel_rfl) (fun _ _ _ h => h) (Or.inl ⟨by rfl, ?_⟩) ?_ ?_
  rotate_left
  · intro w'
    go_simp
    with_reducible rfl
  rotate_left
  · simp only [Act.put, List.setIfInBounds_toArray, List.set_cons_zero, List.set_cons_succ, i64_w, i32_w]
    rfl
  refine pure_ (i := 17) (N := some 46) (v := ?_) (a' := ?_) #[true, true, true, true, true, true, true, true, true, true, true, true, true, true, true, true, true, true, false, false, false, false, false, false, false, false, false, false, false, false, false, false, false, false, false, false, false, false, false, false, false, false, false, false, false, false, false, false, false, false] rfl rfl (by kernel_rfl) (fun _ _ _ h => h) (Or.inl ⟨by rfl, ?_⟩) ?_ ?_
  rotate_left
  · intro w'
    go_simp
    with_reducible rfl
  rotate_left
  · simp only [Act.put, List.setIfInBounds_toArray, List.set_cons_zero, List.set_cons_succ, i64_w, i32_w]
    rfl
  refine pure_ (i := 18) (N := some 47) (v := ?_) (a' := ?_) #[true, true, true, true, true, true, true, true, true, true, true, true, true, true, true, true, true, true, true, false, false, false, false, false, false, false, false, false, false, false, false, false, false, false, false, false, false, false, false, false, false, false, false, false, false, false, false, false, false, false] rfl rfl (by kernel_rfl) (fun _ _ _ h => h) (Or.inl ⟨by rfl, ?_⟩) ?_ ?_
  rotate_left
  · intro w'
    go_simp
    with_reducible rfl
  rotate_left
  · simp only [Act.put, List.setIfInBounds_toArray, List.set_cons_zero, List.set_cons_succ, i64_w, i32_w]
    rfl
  refine pure_ (i := 19) (N := some 48) (v := ?_) (a' := ?_) #[true, true, true, true, true, true, true, true, true, true, true, true, true, true, true, true, true, true, true, true, false, false, false, false, false, false, false, false, false, false, false, false, false, false, false, false, false, false, false, false, false, false, false, false, false, false, false, false, false, false] rfl rfl (by kernel_rfl) (fun _ _ _ h => h) (Or.inl ⟨by rfl, ?_⟩) ?_ ?_
  rotate_left
  · intro w'
    go_simp
    with_reducible rfl
  rotate_left
  · simp only [Act.put, List.setIfInBounds_toArray, List.set_cons_zero, List.set_cons_succ, i64_w, i32_w]
    rfl
  refine pure_ (i := 20) (N := some 49) (v := ?_) (a' := ?_) #[true, true, true, true, true, true, true, true, true, true, true, true, true, true, true, true, true, true, true, true, true, false, false, false, false, false, false, false, false, false, false, false, false, false, false, false, false, false, false, false, false, false, false, false, false, false, false, false, false, false] rfl rfl (by kernel_rfl) (fun _ _ _ h => h) (Or.inl ⟨by rfl, ?_⟩) ?_ ?_
  rotate_left
  · intro w'
    go_simp
    with_reducible rfl
  rotate_left
  · simp only [Act.put, List.setIfInBounds_toArray, List.set_cons_zero, List.set_cons_succ, i64_w, i32_w]
    rfl
  refine pure_ (i := 22) (N := some 51) (v := ?_) (a' := ?_) #[true, true, true, true, true, true, true, true, true, true, true, true, true, true, true, true, true, true, true, true, true, false, true, false, false, false, false, false, false, false, false, false, false, false, false, false, false, false, false, false, false, false, false, false, false, false, false, false, false, false] rfl rfl (by kernel_rfl) (fun _ _ _ h => h) (Or.inl ⟨by rfl, ?_⟩) ?_ ?_
  rotate_left
  · intro w'
    go_simp
    with_reducible rfl
  rotate_left
  · simp only [Act.put, List.setIfInBounds_toArray, List.set_cons_zero, List.set_cons_succ, i64_w, i32_w]
    rfl
  refine pure_ (i := 23) (N := some 52) (v := ?_) (a' := ?_) #[true, true, true, true, true, true, true, true, true, true, true, true, true, true, true, true, true, true, true, true, true, false, true, true, false, false, false, false, false, false, false, false, false, false, false, false, false, false, false, false, false, false, false, false, false, false, false, false, false, false] rfl rfl (by kernel_rfl) (fun _ _ _ h => h) (Or.inl ⟨by rfl, ?_⟩) ?_ ?_
  rotate_left
  · intro w'
    go_simp
    with_reducible rfl
  rotate_left
  · simp only [Act.put, List.setIfInBounds_toArray, List.set_cons_zero, List.set_cons_succ, i64_w, i32_w]
    rfl
  refine pure_ (i := 24) (N := some 53) (v := ?_) (a' := ?_) #[true, true, true, true, true, true, true, true, true, true, true, true, true, true, true, true, true, true, true, true, true, false, true, true, true, false, false, false, false, false, false, false, false, false, false, false, false, false, false, false, false, false, false, false, false, false, false, false, false, false] rfl rfl (by kernel_rfl) (fun _ _ _ h => h) (Or.inl ⟨by rfl, ?_⟩) ?_ ?_
  rotate_left
  · intro w'
    go_simp
    with_reducible rfl
  rotate_left
  · simp only [Act.put, List.setIfInBounds_toArray, List.set_cons_zero, List.set_cons_succ, i64_w, i32_w]
    rfl
  refine one_ (i := 21) (N := some 50) #[true, true, true, true, true, true, true, true, true, true, true, true, true, true, true, true, true, true, true, true, true, true, true, true, true, false, false, false, false, false, false, false, false, false, false, false, false, false, false, false, false, false, false, false, false, false, false, false, false, false] rfl rfl (by kernel_rfl) (by decide) (fun K hK => ?_)
  refine goes_ Try.func22 (by kernel_rfl) rfl #[.int .u32 (a : Int), .int .u32 (o : Int), .int .i64 a3] (by rfl) rfl rfl (by simp only [List.map_toArray, List.map_cons, List.map_nil]; rfl) ?_
  refine (crc_Join.calls _ _ _ _ _ HJ1.out).mono ?_
  rintro e w421 ⟨rfl, hb⟩
  refine ⟨_, rfl, ?_⟩
  have HB' := Aside0.mk (below_step HB.out hb); clear HB; have HB := HB'; clear HB'
  have HR1' := Aside0.mk (Kd.C_below HR1.out hb); clear HR1; have HR1 := HR1'; clear HR1'
  have HRx' := Aside0.mk (Kd.C_below HRx.out hb); clear HRx; have HRx := HRx'; clear HRx'
  have HRy' := Aside0.mk (Kd.C_below HRy.out hb); clear HRy; have HRy := HRy'; clear HRy'
  clear hb
  refine hK.out _ _ ⟨(Kd.C_string (P := Try.prog) (A := Ax) (c := cx) Try.underlying23 Try.underlying5 Try.underlying9 HRx.out), (Kd.C_string (P := Try.prog) (A := Ay) (c := cy) Try.underlying23 Try.underlying5 Try.underlying9 HRy.out)⟩ (fun hHeld => ?_)
  clear hK K
  refine norm_ (a' := ?_) ?_ ?_
  rotate_left
  · show Act.put _ (some 50) _ = _
    simp only [Act.put, List.setIfInBounds_toArray, List.set_cons_zero, List.set_cons_succ, i64_w, i32_w]
    rfl
  refine one_ (i := 25) (N := some 54) #[true, true, true, true, true, true, true, true, true, true, true, true, true, true, true, true, true, true, true, true, true, true, true, true, true, true, false, false, false, false, false, false, false, false, false, false, false, false, false, false, false, false, false, false, false, false, false, false, false, false] rfl rfl (by kernel_rfl) (by decide) (fun K hK => ?_)
  refine goes_ Try.func23 (by kernel_rfl) rfl #[.int .u32 (a : Int), .int .u32 (o : Int), .int .i64 a3] (by rfl) rfl rfl (by simp only [List.map_toArray, List.map_cons, List.map_nil]; rfl) ?_
  refine (waggonerref02_Join.calls _ _ _ _ _ HJ2.out).mono ?_
  rintro e w425 ⟨rfl, hb⟩
  refine ⟨_, rfl, ?_⟩
  have HB' := Aside0.mk (below_step HB.out hb); clear HB; have HB := HB'; clear HB'
  have HR1' := Aside0.mk (Kd.C_below HR1.out hb); clear HR1; have HR1 := HR1'; clear HR1'
  have HRx' := Aside0.mk (Kd.C_below HRx.out hb); clear HRx; have HRx := HRx'; clear HRx'
  have HRy' := Aside0.mk (Kd.C_below HRy.out hb); clear HRy; have HRy := HRy'; clear HRy'
  clear hb
  refine hK.out _ _ ⟨(Kd.C_string (P := Try.prog) (A := Ax) (c := cx) Try.underlying23 Try.underlying5 Try.underlying9 HRx.out), (Kd.C_string (P := Try.prog) (A := Ay) (c := cy) Try.underlying23 Try.underlying5 Try.underlying9 HRy.out)⟩ (fun hHeld => ?_)
  clear hK K
  refine norm_ (a' := ?_) ?_ ?_
  rotate_left
  · show Act.put _ (some 54) _ = _
    simp only [Act.put, List.setIfInBounds_toArray, List.set_cons_zero, List.set_cons_succ, i64_w, i32_w]
    rfl
  refine pure_ (i := 26) (N := some 55) (v := ?_) (a' := ?_) #[true, true, true, true, true, true, true, true, true, true, true, true, true, true, true, true, true, true, true, true, true, true, true, true, true, true, true, false, false, false, false, false, false, false, false, false, false, false, false, false, false, false, false, false, false, false, false, false, false, false] rfl rfl (by kernel_rfl) (fun _ _ _ h => h) (Or.inl ⟨by rfl, ?_⟩) ?_ ?_
  rotate_left
  · intro w'
    go_simp
    with_reducible rfl
  rotate_left
  · simp only [Act.put, List.setIfInBounds_toArray, List.set_cons_zero, List.set_cons_succ, i64_w, i32_w]
    rfl
  refine pure_ (i := 27) (N := some 56) (v := ?_) (a' := ?_) #[true, true, true, true, true, true, true, true, true, true, true, true, true, true, true, true, true, true, true, true, true, true, true, true, true, true, true, true, false, false, false, false, false, false, false, false, false, false, false, false, false, false, false, false, false, false, false, false, false, false] rfl rfl (by kernel_rfl) (fun _ _ _ h => h) (Or.inl ⟨by rfl, ?_⟩) ?_ ?_
  rotate_left
  · intro w'
    go_simp
    with_reducible rfl
  rotate_left
  · simp only [Act.put, List.setIfInBounds_toArray, List.set_cons_zero, List.set_cons_succ, i64_w, i32_w]
    rfl
  refine pure_ (i := 28) (N := some 57) (v := ?_) (a' := ?_) #[true, true, true, true, true, true, true, true, true, true, true, true, true, true, true, true, true, true, true, true, true, true, true, true, true, true, true, true, true, false, false, false, false, false, false, false, false, false, false, false, false, false, false, false, false, false, false, false, false, false] rfl rfl (by kernel_rfl) (fun _ _ _ h => h) (Or.inl ⟨by rfl, ?_⟩) ?_ ?_
  rotate_left
  · intro w'
    go_simp
    with_reducible rfl
  rotate_left
  · simp only [Act.put, List.setIfInBounds_toArray, List.set_cons_zero, List.set_cons_succ, i64_w, i32_w]
    rfl
  refine pure_ (i := 29) (N := some 58) (v := ?_) (a' := ?_) #[true, true, true, true, true, true, true, true, true, true, true, true, true, true, true, true, true, true, true, true, true, true, true, true, true, true, true, true, true, true, false, false, false, false, false, false, false, false, false, false, false, false, false, false, false, false, false, false, false, false] rfl rfl (by kernel_rfl) (fun _ _ _ h => h) (Or.inl ⟨by rfl, ?_⟩) ?_ ?_
  rotate_left
  · intro w'
    go_simp
    with_reducible rfl
  rotate_left
  · simp only [Act.put, List.setIfInBounds_toArray, List.set_cons_zero, List.set_cons_succ, i64_w, i32_w]
    rfl
  refine pure_ (i := 32) (N := some 61) (v := ?_) (a' := ?_) #[true, true, true, true, true, true, true, true, true, true, true, true, true, true, true, true, true, true, true, true, true, true, true, true, true, true, true, true, true, true, false, false, true, false, false, false, false, false, false, false, false, false, false, false, false, false, false, false, false, false] rfl rfl (by kernel_rfl) (fun _ _ _ h => h) (Or.inl ⟨by rfl, ?_⟩) ?_ ?_
  rotate_left
  · intro w'
    go_simp
    with_reducible rfl
  rotate_left
  · simp only [Act.put, List.setIfInBounds_toArray, List.set_cons_zero, List.set_cons_succ, i64_w, i32_w]
    rfl
  refine one_ (i := 30) (N := some 59) #[true, true, true, true, true, true, true, true, true, true, true, true, true, true, true, true, true, true, true, true, true, true, true, true, true, true, true, true, true, true, true, false, true, false, false, false, false, false, false, false, false, false, false, false, false, false, false, false, false, false] rfl rfl (by kernel_rfl) (by decide) (fun K hK => ?_)
  refine goes_ Try.func24 (by kernel_rfl) rfl #[.slice A1 l1.length c1] (by rfl) rfl rfl (by simp only [List.map_toArray, List.map_cons, List.map_nil]; rfl) ?_
  refine (crc_Seal.calls _ _ l1 _ _ HR1.out HC1.out HS1.out).mono ?_
  rintro e w430 ⟨vp, rfl, hop, hb⟩
  refine ⟨_, rfl, ?_⟩
  have HB' := Aside0.mk (below_step HB.out hb); clear HB; have HB := HB'; clear HB'
  have HR1' := Aside0.mk (Kd.C_below HR1.out hb); clear HR1; have HR1 := HR1'; clear HR1'
  have HRx' := Aside0.mk (Kd.C_below HRx.out hb); clear HRx; have HRx := HRx'; clear HRx'
  have HRy' := Aside0.mk (Kd.C_below HRy.out hb); clear HRy; have HRy := HRy'; clear HRy'
  clear hb
  obtain ⟨Ap, cp, rfl, hcp, hrp⟩ := Kd.R_reads hop
  have HRp := Aside0.mk hrp
  have HCp := Aside0.mk hcp
  clear hrp hcp hop
  refine hK.out _ _ ⟨(Kd.C_string (P := Try.prog) (A := Ax) (c := cx) Try.underlying23 Try.underlying5 Try.underlying9 HRx.out), (Kd.C_string (P := Try.prog) (A := Ay) (c := cy) Try.underlying23 Try.underlying5 Try.underlying9 HRy.out)⟩ (fun hHeld => ?_)
  clear hK K
  refine norm_ (a' := ?_) ?_ ?_
  rotate_left
  · show Act.put _ (some 59) _ = _
    simp only [Act.put, List.setIfInBounds_toArray, List.set_cons_zero, List.set_cons_succ, i64_w, i32_w]
    rfl
  refine stronger_ (fun w' => (convert 23 9 (.slice Ap q.length cp)).run Try.prog w' = .ok (.string (strOfNums q)) w') hHeld ((Kd.C_string (P := Try.prog) (A := Ap) (c := cp) Try.underlying23 Try.underlying5 Try.underlying9 HRp.out)) (fun hHeld => ?_)
  refine take_ (i := 31) (N := some 60) (v := ?_) (a' := ?_) #[true, true, true, true, true, true, true, true, true, true, true, true, true, true, true, true, true, true, true, true, true, true, true, true, true, true, true, true, true, true, true, true, true, false, false, false, false, false, false, false, false, false, false, false, false, false, false, false, false, false] rfl rfl (by kernel_rfl) (fun _ _ _ h => h) (Or.inl ⟨by rfl, ?_⟩) hHeld ?_ ?_
  rotate_left
  · rintro w' ⟨⟨s0, s1⟩, s2⟩
    go_simp
    with_reducible rfl
  rotate_left
  · simp only [Act.put, List.setIfInBounds_toArray, List.set_cons_zero, List.set_cons_succ, i64_w, i32_w]
    rfl
  refine one_ (i := 33) (N := some 62) #[true, true, true, true, true, true, true, true, true, true, true, true, true, true, true, true, true, true, true, true, true, true, true, true, true, true, true, true, true, true, true, true, true, true, false, false, false, false, false, false, false, false, false, false, false, false, false, false, false, false] rfl rfl (by kernel_rfl) (by decide) (fun K hK => ?_)
  refine goes_ Try.func25 (by kernel_rfl) rfl #[.slice A1 l1.length c1] (by rfl) rfl rfl (by simp only [List.map_toArray, List.map_cons, List.map_nil]; rfl) ?_
  refine (waggonerref02_Seal.calls _ _ l1 _ _ HR1.out HC1.out HS2.out).mono ?_
  rintro e w433 ⟨vz, rfl, hoz, hb⟩
  refine ⟨_, rfl, ?_⟩
  have HB' := Aside0.mk (below_step HB.out hb); clear HB; have HB := HB'; clear HB'
  have HR1' := Aside0.mk (Kd.C_below HR1.out hb); clear HR1; have HR1 := HR1'; clear HR1'
  have HRx' := Aside0.mk (Kd.C_below HRx.out hb); clear HRx; have HRx := HRx'; clear HRx'
  have HRy' := Aside0.mk (Kd.C_below HRy.out hb); clear HRy; have HRy := HRy'; clear HRy'
  have HRp' := Aside0.mk (Kd.C_below HRp.out hb); clear HRp; have HRp := HRp'; clear HRp'
  clear hb
  obtain ⟨Az, cz, rfl, hcz, hrz⟩ := Kd.R_reads hoz
  have HRz := Aside0.mk hrz
  have HCz := Aside0.mk hcz
  clear hrz hcz hoz
  refine hK.out _ _ ⟨⟨(Kd.C_string (P := Try.prog) (A := Ax) (c := cx) Try.underlying23 Try.underlying5 Try.underlying9 HRx.out), (Kd.C_string (P := Try.prog) (A := Ay) (c := cy) Try.underlying23 Try.underlying5 Try.underlying9 HRy.out)⟩, ((Kd.C_string (P := Try.prog) (A := Ap) (c := cp) Try.underlying23 Try.underlying5 Try.underlying9 HRp.out))⟩ (fun hHeld => ?_)
  clear hK K
  refine norm_ (a' := ?_) ?_ ?_
  rotate_left
  · show Act.put _ (some 62) _ = _
    simp only [Act.put, List.setIfInBounds_toArray, List.set_cons_zero, List.set_cons_succ, i64_w, i32_w]
    rfl
  refine stronger_ (fun w' => (convert 23 9 (.slice Az q.length cz)).run Try.prog w' = .ok (.string (strOfNums q)) w') hHeld ((Kd.C_string (P := Try.prog) (A := Az) (c := cz) Try.underlying23 Try.underlying5 Try.underlying9 HRz.out)) (fun hHeld => ?_)
  refine take_ (i := 34) (N := some 63) (v := ?_) (a' := ?_) #[true, true, true, true, true, true, true, true, true, true, true, true, true, true, true, true, true, true, true, true, true, true, true, true, true, true, true, true, true, true, true, true, true, true, true, false, false, false, false, false, false, false, false, false, false, false, false, false, false, false] rfl rfl (by kernel_rfl) (fun _ _ _ h => h) (Or.inl ⟨by rfl, ?_⟩) hHeld ?_ ?_
  rotate_left
  · rintro w' ⟨⟨⟨s0, s1⟩, s2⟩, s3⟩
    go_simp
    with_reducible rfl
  rotate_left
  · simp only [Act.put, List.setIfInBounds_toArray, List.set_cons_zero, List.set_cons_succ, i64_w, i32_w]
    rfl
  refine pure_ (i := 35) (N := some 64) (v := ?_) (a' := ?_) #[true, true, true, true, true, true, true, true, true, true, true, true, true, true, true, true, true, true, true, true, true, true, true, true, true, true, true, true, true, true, true, true, true, true, true, true, false, false, false, false, false, false, false, false, false, false, false, false, false, false] rfl rfl (by kernel_rfl) (fun _ _ _ h => h) (Or.inl ⟨by rfl, ?_⟩) ?_ ?_
  rotate_left
  · intro w'
    go_simp
    with_reducible rfl
  rotate_left
  · simp only [Act.put, List.setIfInBounds_toArray, List.set_cons_zero, List.set_cons_succ, i64_w, i32_w]
    rfl
  refine pure_ (i := 36) (N := some 65) (v := ?_) (a' := ?_) #[true, true, true, true, true, true, true, true, true, true, true, true, true, true, true, true, true, true, true, true, true, true, true, true, true, true, true, true, true, true, true, true, true, true, true, true, true, false, false, false, false, false, false, false, false, false, false, false, false, false] rfl rfl (by kernel_rfl) (fun _ _ _ h => h) (Or.inl ⟨by rfl, ?_⟩) ?_ ?_
  rotate_left
  · intro w'
    go_simp
    with_reducible rfl
  rotate_left
  · simp only [Act.put, List.setIfInBounds_toArray, List.set_cons_zero, List.set_cons_succ, i64_w, i32_w]
    rfl
  refine pure_ (i := 37) (N := some 66) (v := ?_) (a' := ?_) #[true, true, true, true, true, true, true, true, true, true, true, true, true, true, true, true, true, true, true, true, true, true, true, true, true, true, true, true, true, true, true, true, true, true, true, true, true, true, false, false, false, false, false, false, false, false, false, false, false, false] rfl rfl (by kernel_rfl) (fun _ _ _ h => h) (Or.inl ⟨by rfl, ?_⟩) ?_ ?_
  rotate_left
  · intro w'
    go_simp
    with_reducible rfl
  rotate_left
  · simp only [Act.put, List.setIfInBounds_toArray, List.set_cons_zero, List.set_cons_succ, i64_w, i32_w]
    rfl
  refine pure_ (i := 38) (N := some 67) (v := ?_) (a' := ?_) #[true, true, true, true, true, true, true, true, true, true, true, true, true, true, true, true, true, true, true, true, true, true, true, true, true, true, true, true, true, true, true, true, true, true, true, true, true, true, true, false, false, false, false, false, false, false, false, false, false, false] rfl rfl (by kernel_rfl) (fun _ _ _ h => h) (Or.inl ⟨by rfl, ?_⟩) ?_ ?_
  rotate_left
  · intro w'
    go_simp
    with_reducible rfl
  rotate_left
  · simp only [Act.put, List.setIfInBounds_toArray, List.set_cons_zero, List.set_cons_succ, i64_w, i32_w]
    rfl
  refine pure_ (i := 40) (N := some 69) (v := ?_) (a' := ?_) #[true, true, true, true, true, true, true, true, true, true, true, true, true, true, true, true, true, true, true, true, true, true, true, true, true, true, true, true, true, true, true, true, true, true, true, true, true, true, true, false, true, false, false, false, false, false, false, false, false, false] rfl rfl (by kernel_rfl) (fun _ _ _ h => h) (Or.inl ⟨by rfl, ?_⟩) ?_ ?_
  rotate_left
  · intro w'
    go_simp
    with_reducible rfl
  rotate_left
  · simp only [Act.put, List.setIfInBounds_toArray, List.set_cons_zero, List.set_cons_succ, i64_w, i32_w]
    rfl
  refine take_ (i := 39) (N := some 68) (v := ?_) (a' := ?_) #[true, true, true, true, true, true, true, true, true, true, true, true, true, true, true, true, true, true, true, true, true, true, true, true, true, true, true, true, true, true, true, true, true, true, true, true, true, true, true, true, true, false, false, false, false, false, false, false, false, false] rfl rfl (by kernel_rfl) (fun _ _ _ h => h) (Or.inl ⟨by rfl, ?_⟩) hHeld ?_ ?_
  rotate_left
  · rintro w' ⟨⟨⟨s0, s1⟩, s2⟩, s3⟩
    go_simp
    with_reducible rfl
  rotate_left
  · simp only [Act.put, List.setIfInBounds_toArray, List.set_cons_zero, List.set_cons_succ, i64_w, i32_w]
    rfl
  refine take_ (i := 41) (N := some 70) (v := ?_) (a' := ?_) #[true, true, true, true, true, true, true, true, true, true, true, true, true, true, true, true, true, true, true, true, true, true, true, true, true, true, true, true, true, true, true, true, true, true, true, true, true, true, true, true, true, true, false, false, false, false, false, false, false, false] rfl rfl (by kernel_rfl) (fun _ _ _ h => h) (Or.inl ⟨by rfl, ?_⟩) hHeld ?_ ?_
  rotate_left
  · rintro w' ⟨⟨⟨s0, s1⟩, s2⟩, s3⟩
    go_simp
    with_reducible rfl
  rotate_left
  · simp only [Act.put, List.setIfInBounds_toArray, List.set_cons_zero, List.set_cons_succ, i64_w, i32_w]
    rfl
  refine pure_ (i := 42) (N := some 71) (v := ?_) (a' := ?_) #[true, true, true, true, true, true, true, true, true, true, true, true, true, true, true, true, true, true, true, true, true, true, true, true, true, true, true, true, true, true, true, true, true, true, true, true, true, true, true, true, true, true, true, false, false, false, false, false, false, false] rfl rfl (by kernel_rfl) (fun _ _ _ h => h) (Or.inl ⟨by rfl, ?_⟩) ?_ ?_
  rotate_left
  · intro w'
    go_simp
    with_reducible rfl
  rotate_left
  · simp only [Act.put, List.setIfInBounds_toArray, List.set_cons_zero, List.set_cons_succ, i64_w, i32_w]
    rfl
  refine pure_ (i := 43) (N := some 72) (v := ?_) (a' := ?_) #[true, true, true, true, true, true, true, true, true, true, true, true, true, true, true, true, true, true, true, true, true, true, true, true, true, true, true, true, true, true, true, true, true, true, true, true, true, true, true, true, true, true, true, true, false, false, false, false, false, false] rfl rfl (by kernel_rfl) (fun _ _ _ h => h) (Or.inl ⟨by rfl, ?_⟩) ?_ ?_
  rotate_left
  · intro w'
    go_simp
    with_reducible rfl
  rotate_left
  · simp only [Act.put, List.setIfInBounds_toArray, List.set_cons_zero, List.set_cons_succ, i64_w, i32_w]
    rfl
  refine pure_ (i := 44) (N := some 73) (v := ?_) (a' := ?_) #[true, true, true, true, true, true, true, true, true, true, true, true, true, true, true, true, true, true, true, true, true, true, true, true, true, true, true, true, true, true, true, true, true, true, true, true, true, true, true, true, true, true, true, true, true, false, false, false, false, false] rfl rfl (by kernel_rfl) (fun _ _ _ h => h) (Or.inl ⟨by rfl, ?_⟩) ?_ ?_
  rotate_left
  · intro w'
    go_simp
    with_reducible rfl
  rotate_left
  · simp only [Act.put, List.setIfInBounds_toArray, List.set_cons_zero, List.set_cons_succ, i64_w, i32_w]
    rfl
  refine pure_ (i := 45) (N := some 74) (v := ?_) (a' := ?_) #[true, true, true, true, true, true, true, true, true, true, true, true, true, true, true, true, true, true, true, true, true, true, true, true, true, true, true, true, true, true, true, true, true, true, true, true, true, true, true, true, true, true, true, true, true, true, false, false, false, false] rfl rfl (by kernel_rfl) (fun _ _ _ h => h) (Or.inl ⟨by rfl, ?_⟩) ?_ ?_
  rotate_left
  · intro w'
    go_simp
    with_reducible rfl
  rotate_left
  · simp only [Act.put, List.setIfInBounds_toArray, List.set_cons_zero, List.set_cons_succ, i64_w, i32_w]
    rfl
  refine pure_ (i := 46) (N := some 75) (v := ?_) (a' := ?_) #[true, true, true, true, true, true, true, true, true, true, true, true, true, true, true, true, true, true, true, true, true, true, true, true, true, true, true, true, true, true, true, true, true, true, true, true, true, true, true, true, true, true, true, true, true, true, true, false, false, false] rfl rfl (by kernel_rfl) (fun _ _ _ h => h) (Or.inl ⟨by rfl, ?_⟩) ?_ ?_
  rotate_left
  · intro w'
    go_simp
    with_reducible rfl
  rotate_left
  · simp only [Act.put, List.setIfInBounds_toArray, List.set_cons_zero, List.set_cons_succ, i64_w, i32_w]
    rfl
  refine pure_ (i := 47) (N := some 76) (v := ?_) (a' := ?_) #[true, true, true, true, true, true, true, true, true, true, true, true, true, true, true, true, true, true, true, true, true, true, true, true, true, true, true, true, true, true, true, true, true, true, true, true, true, true, true, true, true, true, true, true, true, true, true, true, false, false] rfl rfl (by kernel_rfl) (fun _ _ _ h => h) (Or.inl ⟨by rfl, ?_⟩) ?_ ?_
  rotate_left
  · intro w'
    go_simp
    with_reducible rfl
  rotate_left
  · simp only [Act.put, List.setIfInBounds_toArray, List.set_cons_zero, List.set_cons_succ, i64_w, i32_w]
    rfl
  refine pure_ (i := 48) (N := some 77) (v := ?_) (a' := ?_) #[true, true, true, true, true, true, true, true, true, true, true, true, true, true, true, true, true, true, true, true, true, true, true, true, true, true, true, true, true, true, true, true, true, true, true, true, true, true, true, true, true, true, true, true, true, true, true, true, true, false] rfl rfl (by kernel_rfl) (fun _ _ _ h => h) (Or.inl ⟨by rfl, ?_⟩) ?_ ?_
  rotate_left
  · intro w'
    go_simp
    with_reducible rfl
  rotate_left
  · simp only [Act.put, List.setIfInBounds_toArray, List.set_cons_zero, List.set_cons_succ, i64_w, i32_w]
    rfl
  refine pure_ (i := 49) (N := some 8) (v := ?_) (a' := ?_) #[true, true, true, true, true, true, true, true, true, true, true, true, true, true, true, true, true, true, true, true, true, true, true, true, true, true, true, true, true, true, true, true, true, true, true, true, true, true, true, true, true, true, true, true, true, true, true, true, true, true] rfl rfl (by kernel_rfl) (fun _ _ _ h => h) (Or.inl ⟨by rfl, ?_⟩) ?_ ?_
  rotate_left
  · intro w'
    go_simp
    with_reducible rfl
  rotate_left
  · simp only [Act.put, List.setIfInBounds_toArray, List.set_cons_zero, List.set_cons_succ, i64_w, i32_w]
    rfl
  refine done_ (by kernel_rfl) ?_
  go_wp2
  go_ret
  exact ⟨rfl, HB.out⟩

def waggonerlaw02_CrcTells.Pure : Prop := ∀ (a0 : Int) (l1 : List Int) (a2 : Int) (a3 : Int), (Lit.int .u32 a0).wf = true → l1.length ≤ maxLen → l1.length * 1 ≤ 140737488351232 → (∀ x ∈ l1, (Lit.int .u8 x).wf = true) → (Lit.int .u32 a2).wf = true → (Lit.int .i64 a3).wf = true → waggonerlaw02_CrcTells.f a0 l1 a2 a3 = some true
theorem waggonerlaw02_CrcTells.walk (P : waggonerlaw02_CrcTells.Pure) (a0 : Int) (a1 : Option Addr) (len1 cap1 : Nat) (z1 : List Int) (a2 : Int) (a3 : Int) (w : World) (w0 : (Lit.int .u32 a0).wf = true) (w1 : (a1 = none ∧ len1 = 0 ∧ cap1 = 0 ∧ z1 = []) ∨ ∃ x, a1 = some x ∧ len1 ≤ cap1 ∧ cap1 ≤ maxLen ∧ z1.length = cap1 ∧ (∀ i, i < z1.length → w.cell? (x.add i) = some (.int .u8 (z1.getD i 0))) ∧ ∀ n ∈ z1, (Lit.int .u8 n).wf = true) (y1 : len1 * 1 ≤ 140737488351232) (w2 : (Lit.int .u32 a2).wf = true) (w3 : (Lit.int .i64 a3).wf = true) :
    Calls Try.prog 3 #[.int .u32 a0, .slice a1 len1 cap1, .int .u32 a2, .int .i64 a3] w fun e w' => e = .returned (.bool true) ∧ Below w.heap.size w w' := by
  obtain ⟨l1, rfl, hr1, hm1, hw1, hc1⟩ := ReadsInt.ofRowC w1
  have h := P a0 l1 a2 a3 w0 hm1 y1 hw1 w2 w3
  refine (waggonerlaw02_CrcTells.calls a0 _ _ l1 a2 a3 true w (Kd.C_of_reads (d := (0 : Int)) (h1 := fun _ => rfl) hr1) hc1 h).mono ?_
  rintro e w' ⟨rfl, hd⟩
  exact ⟨rfl, hd⟩

end Go.Proofs.Ytiaoehjldbnpkaa.PT
