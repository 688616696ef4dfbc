/- Functions of the program as Lean functions, and that the Go code comes to just their answers: no condition but that the function says so. (Written by a program of this workplace over the kit's print, with contracts by hand.) -/
import Derived.Test.YtiaoehjldbnpkaaPAx0
import Derived.Test.YtiaoehjldbnpkaaPAx4
import Derived.Test.YtiaoehjldbnpkaaPAx10
import Derived.Test.YtiaoehjldbnpkaaPAx15
import Derived.Test.YtiaoehjldbnpkaaPAx16
namespace Go.Proofs.Ytiaoehjldbnpkaa.PA
open Go.RowKit Go.Proofs.YtiaoehjldbnpkaaW.PrintWords Go.Proofs.YtiaoehjldbnpkaaW.PrintLast Go.Proofs.YtiaoehjldbnpkaaW.PrintMore
attribute [local go_sem] max2_int min2_int max_two min_two max_three min_three max_four min_four   -- for this text's walks alone
set_option linter.unusedVariables false
set_option linter.unusedSimpArgs false

/-! ### waggonerlaw02_CrcSeals: function 7 -/
def waggonerlaw02_CrcSeals.f (l0 : List Int) (l1 : List Int) (l2 : List Int) : Option Bool := if Pl.byteB l0 = true ∧ Pl.byteB l1 = true ∧ Pl.byteB l2 = true then some true else none
set_option maxHeartbeats 8000000 in
set_option maxRecDepth 2000000 in
theorem waggonerlaw02_CrcSeals.calls (A0 : Option Addr) (c0 : Nat) (l0 : List Int) (A1 : Option Addr) (c1 : Nat) (l1 : List Int) (A2 : Option Addr) (c2 : Nat) (l2 : List Int) (r : Bool) (w : World) (hr0 : Kd.C (Kd.int .u8) w A0 l0.length l0) (hc0 : l0.length ≤ c0) (hr1 : Kd.C (Kd.int .u8) w A1 l1.length l1) (hc1 : l1.length ≤ c1) (hr2 : Kd.C (Kd.int .u8) w A2 l2.length l2) (hc2 : l2.length ≤ c2) (h : waggonerlaw02_CrcSeals.f l0 l1 l2 = some r) :
    Calls Try.prog 7 #[.slice A0 l0.length c0, .slice A1 l1.length c1, .slice A2 l2.length c2] w fun e w' => e = .returned (.bool r) ∧ Below w.heap.size w w' := by
  unfold waggonerlaw02_CrcSeals.f at h
  split at h
  case isFalse => cases h
  rename_i hh
  obtain ⟨hb0, hb1, hb2⟩ := hh
  obtain rfl := Option.some.inj h
  clear h
  have HR0 := Aside0.mk hr0
  have HC0 := Aside0.mk hc0
  have HB0 := Aside0.mk hb0
  clear hr0 hc0 hb0
  have HR1 := Aside0.mk hr1
  have HC1 := Aside0.mk hc1
  have HB1 := Aside0.mk hb1
  clear hr1 hc1 hb1
  have HR2 := Aside0.mk hr2
  have HC2 := Aside0.mk hc2
  have HB2 := Aside0.mk hb2
  clear hr2 hc2 hb2
  by_cases c0' : (300 : Int) < (l0.length : Int)
  · have d0 : decide ((300 : Int) < (l0.length : Int)) = true := decide_eq_true c0'
    have HB := Aside0.mk (Below.refl w.heap.size w)
    go_enter Try.func7, Try.ntmps7
    go_wp2_with fail
    refine (waggonerlaw02_awake.calls  true _ rfl).mono ?_
    rintro e w1 ⟨rfl, hb⟩
    have HB' := Aside0.mk (below_step HB.out hb)
    have HR0' := Aside0.mk (Kd.C_below HR0.out hb)
    clear HR0; have HR0 := HR0'; clear HR0'
    have HR1' := Aside0.mk (Kd.C_below HR1.out hb)
    clear HR1; have HR1 := HR1'; clear HR1'
    have HR2' := Aside0.mk (Kd.C_below HR2.out hb)
    clear HR2; have HR2 := HR2'; clear HR2'
    clear HB; have HB := HB'; clear HB'
    clear hb
    go_wp2
    go_ret
    exact ⟨rfl, HB.out⟩
  have d0 : decide ((300 : Int) < (l0.length : Int)) = false := decide_eq_false c0'
  by_cases c1' : (300 : Int) < (l1.length : Int)
  · have d1 : decide ((300 : Int) < (l1.length : Int)) = true := decide_eq_true c1'
    have HB := Aside0.mk (Below.refl w.heap.size w)
    go_enter Try.func7, Try.ntmps7
    go_wp2_with fail
    refine (waggonerlaw02_awake.calls  true _ rfl).mono ?_
    rintro e w1 ⟨rfl, hb⟩
    have HB' := Aside0.mk (below_step HB.out hb)
    have HR0' := Aside0.mk (Kd.C_below HR0.out hb)
    clear HR0; have HR0 := HR0'; clear HR0'
    have HR1' := Aside0.mk (Kd.C_below HR1.out hb)
    clear HR1; have HR1 := HR1'; clear HR1'
    have HR2' := Aside0.mk (Kd.C_below HR2.out hb)
    clear HR2; have HR2 := HR2'; clear HR2'
    clear HB; have HB := HB'; clear HB'
    clear hb
    go_wp2
    go_ret
    exact ⟨rfl, HB.out⟩
  have d1 : decide ((300 : Int) < (l1.length : Int)) = false := decide_eq_false c1'
  by_cases c2' : (300 : Int) < (l2.length : Int)
  · have d2 : decide ((300 : Int) < (l2.length : Int)) = true := decide_eq_true c2'
    have HB := Aside0.mk (Below.refl w.heap.size w)
    go_enter Try.func7, Try.ntmps7
    go_wp2_with fail
    refine (waggonerlaw02_awake.calls  true _ rfl).mono ?_
    rintro e w1 ⟨rfl, hb⟩
    have HB' := Aside0.mk (below_step HB.out hb)
    have HR0' := Aside0.mk (Kd.C_below HR0.out hb)
    clear HR0; have HR0 := HR0'; clear HR0'
    have HR1' := Aside0.mk (Kd.C_below HR1.out hb)
    clear HR1; have HR1 := HR1'; clear HR1'
    have HR2' := Aside0.mk (Kd.C_below HR2.out hb)
    clear HR2; have HR2 := HR2'; clear HR2'
    clear HB; have HB := HB'; clear HB'
    clear hb
    go_wp2
    go_ret
    exact ⟨rfl, HB.out⟩
  have d2 : decide ((300 : Int) < (l2.length : Int)) = false := decide_eq_false c2'
  have n0 : l0.length ≤ 300 := by omega
  have n1 : l1.length ≤ 300 := by omega
  have n2 : l2.length ≤ 300 := by omega
  clear c0' c1' c2'
  have B0 := Aside0.mk (Pl.byteB_bytes HB0.out)
  have B1 := Aside0.mk (Pl.byteB_bytes HB1.out)
  have B2 := Aside0.mk (Pl.byteB_bytes HB2.out)
  obtain ⟨q, hq⟩ : ∃ q, q = Pl.seal4 l0 := ⟨_, rfl⟩
  have HQ := Aside0.mk hq
  clear hq
  have HS : Aside0 (crc_Seal.f l0 = some q) := ⟨by unfold crc_Seal.f; rw [if_pos ⟨HB0.out, by omega⟩, HQ.out]⟩
  have hql : ((q.length : Int) == (l0.length : Int) + 4) = true := by rw [HQ.out, Pl.seal4_length]; simp
  have hqb : Aside0 (Pl.byteB q = true) := ⟨by rw [HQ.out]; exact Pl.seal4_byte HB0.out⟩
  have HT : Aside0 (crc_Sum.f q = some 1214729159) := ⟨by rw [crc_Sum.tells q hqb.out, HQ.out, Pl.sum_seal _ B0.out]; rfl⟩
  obtain ⟨x, hx⟩ : ∃ x, x = Pl.sum (Pl.nats l0) := ⟨_, rfl⟩
  obtain ⟨y, hy⟩ : ∃ y, y = Pl.sum (Pl.nats l1) := ⟨_, rfl⟩
  obtain ⟨z, hz⟩ : ∃ z, z = Pl.sum (Pl.nats l2) := ⟨_, rfl⟩
  have HX : Aside0 (crc_Sum.f l0 = some (x : Int)) := ⟨by rw [hx]; exact crc_Sum.tells l0 HB0.out⟩
  have HY : Aside0 (crc_Sum.f l1 = some (y : Int)) := ⟨by rw [hy]; exact crc_Sum.tells l1 HB1.out⟩
  have HZ : Aside0 (crc_Sum.f l2 = some (z : Int)) := ⟨by rw [hz]; exact crc_Sum.tells l2 HB2.out⟩
  have x32 : x < 4294967296 := by rw [hx]; exact Pl.sum_lt B0.out
  have y32 : y < 4294967296 := by rw [hy]; exact Pl.sum_lt B1.out
  have z32 : z < 4294967296 := by rw [hz]; exact Pl.sum_lt B2.out
  obtain ⟨xy, hxy⟩ : ∃ xy, xy = Pl.join x y (l1.length : Int) := ⟨_, rfl⟩
  obtain ⟨yz, hyz⟩ : ∃ yz, yz = Pl.join y z (l2.length : Int) := ⟨_, rfl⟩
  have xy32 : xy < 4294967296 := by rw [hxy]; exact Pl.join_lt x32 y32 _
  have yz32 : yz < 4294967296 := by rw [hyz]; exact Pl.join_lt y32 z32 _
  obtain ⟨u, hu⟩ : ∃ u, u = Pl.join xy z (l2.length : Int) := ⟨_, rfl⟩
  have hu2 : u = Pl.join x yz ((l1.length : Int) + (l2.length : Int)) := by rw [hu, hxy, hyz]; exact Pl.join_three x y z l1.length l2.length ⟨by omega, by omega⟩
  have J1 : Aside0 (crc_Join.f x y (l1.length : Int) = some (xy : Int)) := ⟨by rw [crc_Join.tells _ _ _ x32 y32, hxy]⟩
  have J2 : Aside0 (crc_Join.f xy z (l2.length : Int) = some (u : Int)) := ⟨by rw [crc_Join.tells _ _ _ xy32 z32, hu]⟩
  have J3 : Aside0 (crc_Join.f y z (l2.length : Int) = some (yz : Int)) := ⟨by rw [crc_Join.tells _ _ _ y32 z32, hyz]⟩
  have J4 : Aside0 (crc_Join.f x yz ((l1.length : Int) + (l2.length : Int)) = some (u : Int)) := ⟨by rw [crc_Join.tells _ _ _ x32 yz32, hu2]⟩
  have QT : Aside0 (q.take l0.length = l0) := ⟨by rw [HQ.out, Pl.seal4, List.take_left]⟩
  have QL : Aside0 (l0.length ≤ q.length) := ⟨by rw [HQ.out, Pl.seal4_length]; omega⟩
  clear hx hy hz hxy hyz hu hu2 x32 y32 z32 xy32 yz32
  have HB := Aside0.mk (Below.refl w.heap.size w)
  go_enter Try.func7, Try.ntmps7
  go_wp2_with fail
  refine (waggonerlaw02_awake.calls  true _ rfl).mono ?_
  rintro e w1 ⟨rfl, hb⟩
  have HB' := Aside0.mk (below_step HB.out hb)
  have HR0' := Aside0.mk (Kd.C_below HR0.out hb)
  clear HR0; have HR0 := HR0'; clear HR0'
  have HR1' := Aside0.mk (Kd.C_below HR1.out hb)
  clear HR1; have HR1 := HR1'; clear HR1'
  have HR2' := Aside0.mk (Kd.C_below HR2.out hb)
  clear HR2; have HR2 := HR2'; clear HR2'
  clear HB; have HB := HB'; clear HB'
  clear hb
  go_wp2_with fail
  refine (crc_Seal.calls _ _ l0 q _ HR0.out HC0.out HS.out).mono ?_
  rintro e w2 ⟨vq, rfl, hoq, hb⟩
  have HB' := Aside0.mk (below_step HB.out hb)
  have HR0' := Aside0.mk (Kd.C_below HR0.out hb)
  clear HR0; have HR0 := HR0'; clear HR0'
  have HR1' := Aside0.mk (Kd.C_below HR1.out hb)
  clear HR1; have HR1 := HR1'; clear HR1'
  have HR2' := Aside0.mk (Kd.C_below HR2.out hb)
  clear HR2; have HR2 := HR2'; clear HR2'
  clear HB; have HB := HB'; clear HB'
  clear hb
  obtain ⟨Aq, cq, rfl, hcq, hrq⟩ := Kd.R_reads hoq
  have HRq := Aside0.mk hrq
  have HCq := Aside0.mk hcq
  clear hrq hcq hoq
  go_wp2_with fail
  refine (crc_Sum.calls _ _ l0 _ _ HR0.out HC0.out HX.out).mono ?_
  rintro e w3 ⟨rfl, hb⟩
  have HB' := Aside0.mk (below_step HB.out hb)
  have HR0' := Aside0.mk (Kd.C_below HR0.out hb)
  clear HR0; have HR0 := HR0'; clear HR0'
  have HR1' := Aside0.mk (Kd.C_below HR1.out hb)
  clear HR1; have HR1 := HR1'; clear HR1'
  have HR2' := Aside0.mk (Kd.C_below HR2.out hb)
  clear HR2; have HR2 := HR2'; clear HR2'
  have HRq' := Aside0.mk (Kd.C_below HRq.out hb)
  clear HRq; have HRq := HRq'; clear HRq'
  clear HB; have HB := HB'; clear HB'
  clear hb
  go_wp2_with fail
  refine (crc_Sum.calls _ _ l1 _ _ HR1.out HC1.out HY.out).mono ?_
  rintro e w4 ⟨rfl, hb⟩
  have HB' := Aside0.mk (below_step HB.out hb)
  have HR0' := Aside0.mk (Kd.C_below HR0.out hb)
  clear HR0; have HR0 := HR0'; clear HR0'
  have HR1' := Aside0.mk (Kd.C_below HR1.out hb)
  clear HR1; have HR1 := HR1'; clear HR1'
  have HR2' := Aside0.mk (Kd.C_below HR2.out hb)
  clear HR2; have HR2 := HR2'; clear HR2'
  have HRq' := Aside0.mk (Kd.C_below HRq.out hb)
  clear HRq; have HRq := HRq'; clear HRq'
  clear HB; have HB := HB'; clear HB'
  clear hb
  go_wp2_with fail
  refine (crc_Sum.calls _ _ l2 _ _ HR2.out HC2.out HZ.out).mono ?_
  rintro e w5 ⟨rfl, hb⟩
  have HB' := Aside0.mk (below_step HB.out hb)
  have HR0' := Aside0.mk (Kd.C_below HR0.out hb)
  clear HR0; have HR0 := HR0'; clear HR0'
  have HR1' := Aside0.mk (Kd.C_below HR1.out hb)
  clear HR1; have HR1 := HR1'; clear HR1'
  have HR2' := Aside0.mk (Kd.C_below HR2.out hb)
  clear HR2; have HR2 := HR2'; clear HR2'
  have HRq' := Aside0.mk (Kd.C_below HRq.out hb)
  clear HRq; have HRq := HRq'; clear HRq'
  clear HB; have HB := HB'; clear HB'
  clear hb
  go_wp2_with fail
  refine (crc_Join.calls _ _ _ _ _ J1.out).mono ?_
  rintro e w6 ⟨rfl, hb⟩
  have HB' := Aside0.mk (below_step HB.out hb)
  have HR0' := Aside0.mk (Kd.C_below HR0.out hb)
  clear HR0; have HR0 := HR0'; clear HR0'
  have HR1' := Aside0.mk (Kd.C_below HR1.out hb)
  clear HR1; have HR1 := HR1'; clear HR1'
  have HR2' := Aside0.mk (Kd.C_below HR2.out hb)
  clear HR2; have HR2 := HR2'; clear HR2'
  have HRq' := Aside0.mk (Kd.C_below HRq.out hb)
  clear HRq; have HRq := HRq'; clear HRq'
  clear HB; have HB := HB'; clear HB'
  clear hb
  go_wp2_with fail
  refine (crc_Join.calls _ _ _ _ _ J2.out).mono ?_
  rintro e w7 ⟨rfl, hb⟩
  have HB' := Aside0.mk (below_step HB.out hb)
  have HR0' := Aside0.mk (Kd.C_below HR0.out hb)
  clear HR0; have HR0 := HR0'; clear HR0'
  have HR1' := Aside0.mk (Kd.C_below HR1.out hb)
  clear HR1; have HR1 := HR1'; clear HR1'
  have HR2' := Aside0.mk (Kd.C_below HR2.out hb)
  clear HR2; have HR2 := HR2'; clear HR2'
  have HRq' := Aside0.mk (Kd.C_below HRq.out hb)
  clear HRq; have HRq := HRq'; clear HRq'
  clear HB; have HB := HB'; clear HB'
  clear hb
  go_wp2_with fail
  refine (crc_Join.calls _ _ _ _ _ J3.out).mono ?_
  rintro e w8 ⟨rfl, hb⟩
  have HB' := Aside0.mk (below_step HB.out hb)
  have HR0' := Aside0.mk (Kd.C_below HR0.out hb)
  clear HR0; have HR0 := HR0'; clear HR0'
  have HR1' := Aside0.mk (Kd.C_below HR1.out hb)
  clear HR1; have HR1 := HR1'; clear HR1'
  have HR2' := Aside0.mk (Kd.C_below HR2.out hb)
  clear HR2; have HR2 := HR2'; clear HR2'
  have HRq' := Aside0.mk (Kd.C_below HRq.out hb)
  clear HRq; have HRq := HRq'; clear HRq'
  clear HB; have HB := HB'; clear HB'
  clear hb
  go_wp2_with fail
  refine (crc_Join.calls _ _ _ _ _ J4.out).mono ?_
  rintro e w9 ⟨rfl, hb⟩
  have HB' := Aside0.mk (below_step HB.out hb)
  have HR0' := Aside0.mk (Kd.C_below HR0.out hb)
  clear HR0; have HR0 := HR0'; clear HR0'
  have HR1' := Aside0.mk (Kd.C_below HR1.out hb)
  clear HR1; have HR1 := HR1'; clear HR1'
  have HR2' := Aside0.mk (Kd.C_below HR2.out hb)
  clear HR2; have HR2 := HR2'; clear HR2'
  have HRq' := Aside0.mk (Kd.C_below HRq.out hb)
  clear HRq; have HRq := HRq'; clear HRq'
  clear HB; have HB := HB'; clear HB'
  clear hb
  obtain ⟨i0, hi, hz0, hz1, hz2⟩ := info_parts info5
  obtain ⟨hcut, -, hC⟩ := print_take_of (P := Try.prog) (Value.int .u8) 0 23 5 .i64 Try.underlying23 hi hz1 Aq cq q (l0.length : Int) (by omega) (by have := QL.out; omega) HCq.out
  have HTk' := Kx.takeC l0.length QL.out HRq.out
  rw [Int.toNat_natCast, QT.out] at hcut
  rw [QT.out] at HTk'
  have HRt := Aside0.mk HTk'
  have hsm1 : wrap64 ((l0.length : Int) + 4) = (l0.length : Int) + 4 := by unfold wrap64; omega
  have hsm2 : IntKind.i64.wrap ((l0.length : Int) + 4) = (l0.length : Int) + 4 := (i64_w _).trans hsm1
  clear hi hz0 hz1 hz2 hC HTk'
  go_wp2_with fail
  have HB' := Aside0.mk (below_drew HB.out); clear HB; have HB := HB'; clear HB'
  have HR0' := Aside0.mk (Kd.C_drew HR0.out); clear HR0; have HR0 := HR0'; clear HR0'
  have HR1' := Aside0.mk (Kd.C_drew HR1.out); clear HR1; have HR1 := HR1'; clear HR1'
  have HR2' := Aside0.mk (Kd.C_drew HR2.out); clear HR2; have HR2 := HR2'; clear HR2'
  have HRq' := Aside0.mk (Kd.C_drew HRq.out); clear HRq; have HRq := HRq'; clear HRq'
  have HRt' := Aside0.mk (Kd.C_drew HRt.out); clear HRt; have HRt := HRt'; clear HRt'
  refine start_ (n := 30) (S := fun w' => (convert 23 9 (.slice Aq l0.length cq)).run Try.prog w' = .ok (.string (strOfNums l0)) w' ∧ (convert 23 9 (.slice A0 l0.length c0)).run Try.prog w' = .ok (.string (strOfNums l0)) w') (ds := []) #[false, false, false, false, false, false, false, false, false, false, false, false, false, false, false, false, false, false, false, false, false, false, false, false, false, false, false, false, false, false] (by kernel_rfl) rfl rfl ⟨(Kd.C_string (P := Try.prog) (A := Aq) (c := cq) Try.underlying23 Try.underlying5 Try.underlying9 HRt.out), (Kd.C_string (P := Try.prog) (A := A0) (c := c0) Try.underlying23 Try.underlying5 Try.underlying9 HR0.out)⟩ (fun hHeld => ?_)
  generalize w9.drew = wd10 at HB HR0 HR1 HR2 HRq HRt hHeld ⊢
  refine pure_ (i := 0) (N := some 58) (v := ?_) (a' := ?_) #[true, false, false, false, false, false, false, false, false, false, false, false, false, false, false, false, false, false, false, false, false, false, false, false, false, false, false, false, false, false] rfl rfl (by kernel_rfl) (fun _ _ _ h => h) (Or.inl ⟨by rfl, ?_⟩) ?_ ?_
  rotate_left
  · intro w'
    go_simp
    with_reducible rfl
  rotate_left
  · simp only [Act.put, List.setIfInBounds_toArray, List.set_cons_zero, List.set_cons_succ, i64_w, i32_w]
    rfl
  refine pure_ (i := 1) (N := some 59) (v := ?_) (a' := ?_) #[true, true, false, false, false, false, false, false, false, false, false, false, false, false, false, false, false, false, false, false, false, false, false, false, false, false, false, false, false, false] rfl rfl (by kernel_rfl) (fun _ _ _ h => h) (Or.inl ⟨by rfl, ?_⟩) ?_ ?_
  rotate_left
  · intro w'
    go_simp
    with_reducible rfl
  rotate_left
  · simp only [Act.put, List.setIfInBounds_toArray, List.set_cons_zero, List.set_cons_succ, i64_w, i32_w]
    rfl
  refine pure_ (i := 2) (N := some 60) (v := ?_) (a' := ?_) #[true, true, true, false, false, false, false, false, false, false, false, false, false, false, false, false, false, false, false, false, false, false, false, false, false, false, false, false, false, false] rfl rfl (by kernel_rfl) (fun _ _ _ h => h) (Or.inl ⟨by rfl, ?_⟩) ?_ ?_
  rotate_left
  · intro w'
    go_simp
    with_reducible rfl
  rotate_left
  · simp only [Act.put, List.setIfInBounds_toArray, List.set_cons_zero, List.set_cons_succ, i64_w, i32_w]
    rfl
  refine pure_ (i := 3) (N := some 61) (v := ?_) (a' := ?_) #[true, true, true, true, false, false, false, false, false, false, false, false, false, false, false, false, false, false, false, false, false, false, false, false, false, false, false, false, false, false] rfl rfl (by kernel_rfl) (fun _ _ _ h => h) (Or.inl ⟨by rfl, ?_⟩) ?_ ?_
  rotate_left
  · intro w'
    go_simp
    with_reducible rfl
  rotate_left
  · simp only [Act.put, List.setIfInBounds_toArray, List.set_cons_zero, List.set_cons_succ, i64_w, i32_w]
    rfl
  refine pure_ (i := 4) (N := some 62) (v := ?_) (a' := ?_) #[true, true, true, true, true, false, false, false, false, false, false, false, false, false, false, false, false, false, false, false, false, false, false, false, false, false, false, false, false, false] rfl rfl (by kernel_rfl) (fun _ _ _ h => h) (Or.inl ⟨by rfl, ?_⟩) ?_ ?_
  rotate_left
  · intro w'
    go_simp
    with_reducible rfl
  rotate_left
  · simp only [Act.put, List.setIfInBounds_toArray, List.set_cons_zero, List.set_cons_succ, i64_w, i32_w]
    rfl
  refine pure_ (i := 5) (N := some 63) (v := ?_) (a' := ?_) #[true, true, true, true, true, true, false, false, false, false, false, false, false, false, false, false, false, false, false, false, false, false, false, false, false, false, false, false, false, false] rfl rfl (by kernel_rfl) (fun _ _ _ h => h) (Or.inl ⟨by rfl, ?_⟩) ?_ ?_
  rotate_left
  · intro w'
    go_simp
    with_reducible rfl
  rotate_left
  · simp only [Act.put, List.setIfInBounds_toArray, List.set_cons_zero, List.set_cons_succ, i64_w, i32_w]
    rfl
  refine pure_ (i := 6) (N := some 64) (v := ?_) (a' := ?_) #[true, true, true, true, true, true, true, false, false, false, false, false, false, false, false, false, false, false, false, false, false, false, false, false, false, false, false, false, false, false] rfl rfl (by kernel_rfl) (fun _ _ _ h => h) (Or.inl ⟨by rfl, ?_⟩) ?_ ?_
  rotate_left
  · intro w'
    go_simp
    with_reducible rfl
  rotate_left
  · simp only [Act.put, List.setIfInBounds_toArray, List.set_cons_zero, List.set_cons_succ, i64_w, i32_w]
    rfl
  refine pure_ (i := 7) (N := some 65) (v := ?_) (a' := ?_) #[true, true, true, true, true, true, true, true, false, false, false, false, false, false, false, false, false, false, false, false, false, false, false, false, false, false, false, false, false, false] rfl rfl (by kernel_rfl) (fun _ _ _ h => h) (Or.inl ⟨by rfl, ?_⟩) ?_ ?_
  rotate_left
  · intro w'
    go_simp
    with_reducible rfl
  rotate_left
  · simp only [Act.put, List.setIfInBounds_toArray, List.set_cons_zero, List.set_cons_succ, i64_w, i32_w]
    rfl
  refine pure_ (i := 8) (N := some 66) (v := ?_) (a' := ?_) #[true, true, true, true, true, true, true, true, true, false, false, false, false, false, false, false, false, false, false, false, false, false, false, false, false, false, false, false, false, false] rfl rfl (by kernel_rfl) (fun _ _ _ h => h) (Or.inl ⟨by rfl, ?_⟩) ?_ ?_
  rotate_left
  · intro w'
    go_simp
    with_reducible rfl
  rotate_left
  · simp only [Act.put, List.setIfInBounds_toArray, List.set_cons_zero, List.set_cons_succ, i64_w, i32_w]
    rfl
  refine pure_ (i := 9) (N := some 67) (v := ?_) (a' := ?_) #[true, true, true, true, true, true, true, true, true, true, false, false, false, false, false, false, false, false, false, false, false, false, false, false, false, false, false, false, false, false] rfl rfl (by kernel_rfl) (fun _ _ _ h => h) (Or.inl ⟨by rfl, ?_⟩) ?_ ?_
  rotate_left
  · intro w'
    go_simp
    with_reducible rfl
  rotate_left
  · simp only [Act.put, List.setIfInBounds_toArray, List.set_cons_zero, List.set_cons_succ, i64_w, i32_w]
    rfl
  refine pure_ (i := 10) (N := some 68) (v := ?_) (a' := ?_) #[true, true, true, true, true, true, true, true, true, true, true, false, false, false, false, false, false, false, false, false, false, false, false, false, false, false, false, false, false, false] rfl rfl (by kernel_rfl) (fun _ _ _ h => h) (Or.inl ⟨by rfl, ?_⟩) ?_ ?_
  rotate_left
  · intro w'
    go_simp
    with_reducible rfl
  rotate_left
  · simp only [Act.put, List.setIfInBounds_toArray, List.set_cons_zero, List.set_cons_succ, i64_w, i32_w]
    rfl
  refine pure_ (i := 11) (N := some 69) (v := ?_) (a' := ?_) #[true, true, true, true, true, true, true, true, true, true, true, true, false, false, false, false, false, false, false, false, false, false, false, false, false, false, false, false, false, false] rfl rfl (by kernel_rfl) (fun _ _ _ h => h) (Or.inl ⟨by rfl, ?_⟩) ?_ ?_
  rotate_left
  · intro w'
    go_simp
    with_reducible rfl
  rotate_left
  · simp only [Act.put, List.setIfInBounds_toArray, List.set_cons_zero, List.set_cons_succ, i64_w, i32_w]
    rfl
  refine pure_ (i := 12) (N := some 70) (v := ?_) (a' := ?_) #[true, true, true, true, true, true, true, true, true, true, true, true, true, false, false, false, false, false, false, false, false, false, false, false, false, false, false, false, false, false] rfl rfl (by kernel_rfl) (fun _ _ _ h => h) (Or.inl ⟨by rfl, ?_⟩) ?_ ?_
  rotate_left
  · intro w'
    go_simp
    with_reducible rfl
  rotate_left
  · simp only [Act.put, List.setIfInBounds_toArray, List.set_cons_zero, List.set_cons_succ, i64_w, i32_w]
    rfl
  refine pure_ (i := 13) (N := some 71) (v := ?_) (a' := ?_) #[true, true, true, true, true, true, true, true, true, true, true, true, true, true, false, false, false, false, false, false, false, false, false, false, false, false, false, false, false, false] rfl rfl (by kernel_rfl) (fun _ _ _ h => h) (Or.inl ⟨by rfl, ?_⟩) ?_ ?_
  rotate_left
  · intro w'
    go_simp
    with_reducible rfl
  rotate_left
  · simp only [Act.put, List.setIfInBounds_toArray, List.set_cons_zero, List.set_cons_succ, i64_w, i32_w]
    rfl
  refine pure_ (i := 15) (N := some 73) (v := ?_) (a' := ?_) #[true, true, true, true, true, true, true, true, true, true, true, true, true, true, false, true, false, false, false, false, false, false, false, false, false, false, false, false, false, false] rfl rfl (by kernel_rfl) (fun _ _ _ h => h) (Or.inl ⟨by rfl, ?_⟩) ?_ ?_
  rotate_left
  · intro w'
    go_simp
    with_reducible rfl
  rotate_left
  · simp only [Act.put, List.setIfInBounds_toArray, List.set_cons_zero, List.set_cons_succ, i64_w, i32_w]
    rfl
  refine take_ (i := 14) (N := some 72) (v := ?_) (a' := ?_) #[true, true, true, true, true, true, true, true, true, true, true, true, true, true, true, true, false, false, false, false, false, false, false, false, false, false, false, false, false, false] rfl rfl (by kernel_rfl) (fun _ _ _ h => h) (Or.inl ⟨by rfl, ?_⟩) hHeld ?_ ?_
  rotate_left
  · rintro w' ⟨s0, s1⟩
    go_simp
    with_reducible rfl
  rotate_left
  · simp only [Act.put, List.setIfInBounds_toArray, List.set_cons_zero, List.set_cons_succ, i64_w, i32_w]
    rfl
  refine take_ (i := 16) (N := some 74) (v := ?_) (a' := ?_) #[true, true, true, true, true, true, true, true, true, true, true, true, true, true, true, true, true, false, false, false, false, false, false, false, false, false, false, false, false, false] rfl rfl (by kernel_rfl) (fun _ _ _ h => h) (Or.inl ⟨by rfl, ?_⟩) hHeld ?_ ?_
  rotate_left
  · rintro w' ⟨s0, s1⟩
    go_simp
    with_reducible rfl
  rotate_left
  · simp only [Act.put, List.setIfInBounds_toArray, List.set_cons_zero, List.set_cons_succ, i64_w, i32_w]
    rfl
  refine pure_ (i := 17) (N := some 75) (v := ?_) (a' := ?_) #[true, true, true, true, true, true, true, true, true, true, true, true, true, true, true, true, true, true, false, false, false, false, false, false, false, false, false, false, false, false] rfl rfl (by kernel_rfl) (fun _ _ _ h => h) (Or.inl ⟨by rfl, ?_⟩) ?_ ?_
  rotate_left
  · intro w'
    go_simp
    with_reducible rfl
  rotate_left
  · simp only [Act.put, List.setIfInBounds_toArray, List.set_cons_zero, List.set_cons_succ, i64_w, i32_w]
    rfl
  refine pure_ (i := 18) (N := some 76) (v := ?_) (a' := ?_) #[true, true, true, true, true, true, true, true, true, true, true, true, true, true, true, true, true, true, true, false, false, false, false, false, false, false, false, false, false, false] rfl rfl (by kernel_rfl) (fun _ _ _ h => h) (Or.inl ⟨by rfl, ?_⟩) ?_ ?_
  rotate_left
  · intro w'
    go_simp
    with_reducible rfl
  rotate_left
  · simp only [Act.put, List.setIfInBounds_toArray, List.set_cons_zero, List.set_cons_succ, i64_w, i32_w]
    rfl
  refine pure_ (i := 19) (N := some 77) (v := ?_) (a' := ?_) #[true, true, true, true, true, true, true, true, true, true, true, true, true, true, true, true, true, true, true, true, false, false, false, false, false, false, false, false, false, false] rfl rfl (by kernel_rfl) (fun _ _ _ h => h) (Or.inl ⟨by rfl, ?_⟩) ?_ ?_
  rotate_left
  · intro w'
    go_simp
    with_reducible rfl
  rotate_left
  · simp only [Act.put, List.setIfInBounds_toArray, List.set_cons_zero, List.set_cons_succ, i64_w, i32_w]
    rfl
  refine pure_ (i := 20) (N := some 78) (v := ?_) (a' := ?_) #[true, true, true, true, true, true, true, true, true, true, true, true, true, true, true, true, true, true, true, true, true, false, false, false, false, false, false, false, false, false] rfl rfl (by kernel_rfl) (fun _ _ _ h => h) (Or.inl ⟨by rfl, ?_⟩) ?_ ?_
  rotate_left
  · intro w'
    go_simp
    with_reducible rfl
  rotate_left
  · simp only [Act.put, List.setIfInBounds_toArray, List.set_cons_zero, List.set_cons_succ, i64_w, i32_w]
    rfl
  refine one_ (i := 21) (N := some 79) #[true, true, true, true, true, true, true, true, true, true, true, true, true, true, true, true, true, true, true, true, true, true, false, false, false, false, false, false, false, false] rfl rfl (by kernel_rfl) (by decide) (fun K hK => ?_)
  refine goes_ Try.func21 (by kernel_rfl) rfl #[.slice Aq q.length cq] (by rfl) rfl rfl (by simp only [List.map_toArray, List.map_cons, List.map_nil]; rfl) ?_
  refine (crc_Sum.calls _ _ q _ _ HRq.out HCq.out HT.out).mono ?_
  rintro e w1021 ⟨rfl, hb⟩
  refine ⟨_, rfl, ?_⟩
  have HB' := Aside0.mk (below_step HB.out hb); clear HB; have HB := HB'; clear HB'
  have HR0' := Aside0.mk (Kd.C_below HR0.out hb); clear HR0; have HR0 := HR0'; clear HR0'
  have HR1' := Aside0.mk (Kd.C_below HR1.out hb); clear HR1; have HR1 := HR1'; clear HR1'
  have HR2' := Aside0.mk (Kd.C_below HR2.out hb); clear HR2; have HR2 := HR2'; clear HR2'
  have HRq' := Aside0.mk (Kd.C_below HRq.out hb); clear HRq; have HRq := HRq'; clear HRq'
  have HRt' := Aside0.mk (Kd.C_below HRt.out hb); clear HRt; have HRt := HRt'; clear HRt'
  clear hb
  refine hK.out _ _ ⟨(Kd.C_string (P := Try.prog) (A := Aq) (c := cq) Try.underlying23 Try.underlying5 Try.underlying9 HRt.out), (Kd.C_string (P := Try.prog) (A := A0) (c := c0) Try.underlying23 Try.underlying5 Try.underlying9 HR0.out)⟩ (fun hHeld => ?_)
  clear hK K
  refine norm_ (a' := ?_) ?_ ?_
  rotate_left
  · show Act.put _ (some 79) _ = _
    simp only [Act.put, List.setIfInBounds_toArray, List.set_cons_zero, List.set_cons_succ, i64_w, i32_w]
    rfl
  refine pure_ (i := 22) (N := some 80) (v := ?_) (a' := ?_) #[true, true, true, true, true, true, true, true, true, true, true, true, true, true, true, true, true, true, true, true, true, true, true, false, false, false, false, false, false, false] rfl rfl (by kernel_rfl) (fun _ _ _ h => h) (Or.inl ⟨by rfl, ?_⟩) ?_ ?_
  rotate_left
  · intro w'
    go_simp
    with_reducible rfl
  rotate_left
  · simp only [Act.put, List.setIfInBounds_toArray, List.set_cons_zero, List.set_cons_succ, i64_w, i32_w]
    rfl
  refine pure_ (i := 23) (N := some 81) (v := ?_) (a' := ?_) #[true, true, true, true, true, true, true, true, true, true, true, true, true, true, true, true, true, true, true, true, true, true, true, true, false, false, false, false, false, false] rfl rfl (by kernel_rfl) (fun _ _ _ h => h) (Or.inl ⟨by rfl, ?_⟩) ?_ ?_
  rotate_left
  · intro w'
    go_simp
    with_reducible rfl
  rotate_left
  · simp only [Act.put, List.setIfInBounds_toArray, List.set_cons_zero, List.set_cons_succ, i64_w, i32_w]
    rfl
  refine pure_ (i := 24) (N := some 82) (v := ?_) (a' := ?_) #[true, true, true, true, true, true, true, true, true, true, true, true, true, true, true, true, true, true, true, true, true, true, true, true, true, false, false, false, false, false] rfl rfl (by kernel_rfl) (fun _ _ _ h => h) (Or.inl ⟨by rfl, ?_⟩) ?_ ?_
  rotate_left
  · intro w'
    go_simp
    with_reducible rfl
  rotate_left
  · simp only [Act.put, List.setIfInBounds_toArray, List.set_cons_zero, List.set_cons_succ, i64_w, i32_w]
    rfl
  refine pure_ (i := 25) (N := some 83) (v := ?_) (a' := ?_) #[true, true, true, true, true, true, true, true, true, true, true, true, true, true, true, true, true, true, true, true, true, true, true, true, true, true, false, false, false, false] rfl rfl (by kernel_rfl) (fun _ _ _ h => h) (Or.inl ⟨by rfl, ?_⟩) ?_ ?_
  rotate_left
  · intro w'
    go_simp
    with_reducible rfl
  rotate_left
  · simp only [Act.put, List.setIfInBounds_toArray, List.set_cons_zero, List.set_cons_succ, i64_w, i32_w]
    rfl
  refine pure_ (i := 26) (N := some 84) (v := ?_) (a' := ?_) #[true, true, true, true, true, true, true, true, true, true, true, true, true, true, true, true, true, true, true, true, true, true, true, true, true, true, true, false, false, false] rfl rfl (by kernel_rfl) (fun _ _ _ h => h) (Or.inl ⟨by rfl, ?_⟩) ?_ ?_
  rotate_left
  · intro w'
    go_simp
    with_reducible rfl
  rotate_left
  · simp only [Act.put, List.setIfInBounds_toArray, List.set_cons_zero, List.set_cons_succ, i64_w, i32_w]
    rfl
  refine pure_ (i := 27) (N := some 85) (v := ?_) (a' := ?_) #[true, true, true, true, true, true, true, true, true, true, true, true, true, true, true, true, true, true, true, true, true, true, true, true, true, true, true, true, false, false] rfl rfl (by kernel_rfl) (fun _ _ _ h => h) (Or.inl ⟨by rfl, ?_⟩) ?_ ?_
  rotate_left
  · intro w'
    go_simp
    with_reducible rfl
  rotate_left
  · simp only [Act.put, List.setIfInBounds_toArray, List.set_cons_zero, List.set_cons_succ, i64_w, i32_w]
    rfl
  refine pure_ (i := 28) (N := some 86) (v := ?_) (a' := ?_) #[true, true, true, true, true, true, true, true, true, true, true, true, true, true, true, true, true, true, true, true, true, true, true, true, true, true, true, true, true, false] rfl rfl (by kernel_rfl) (fun _ _ _ h => h) (Or.inl ⟨by rfl, ?_⟩) ?_ ?_
  rotate_left
  · intro w'
    go_simp
    with_reducible rfl
  rotate_left
  · simp only [Act.put, List.setIfInBounds_toArray, List.set_cons_zero, List.set_cons_succ, i64_w, i32_w]
    rfl
  refine pure_ (i := 29) (N := some 6) (v := ?_) (a' := ?_) #[true, true, true, true, true, true, true, true, true, true, true, true, true, true, true, true, true, true, true, true, true, true, true, true, true, true, true, true, true, true] rfl rfl (by kernel_rfl) (fun _ _ _ h => h) (Or.inl ⟨by rfl, ?_⟩) ?_ ?_
  rotate_left
  · intro w'
    go_simp
    with_reducible rfl
  rotate_left
  · simp only [Act.put, List.setIfInBounds_toArray, List.set_cons_zero, List.set_cons_succ, i64_w, i32_w]
    rfl
  refine done_ (by kernel_rfl) ?_
  
  go_wp2
  go_ret
  exact ⟨rfl, HB.out⟩

def waggonerlaw02_CrcSeals.Pure : Prop := ∀ (l0 : List Int) (l1 : List Int) (l2 : List Int), l0.length ≤ maxLen → l0.length * 1 ≤ 140737488351232 → (∀ x ∈ l0, (Lit.int .u8 x).wf = true) → l1.length ≤ maxLen → l1.length * 1 ≤ 140737488351232 → (∀ x ∈ l1, (Lit.int .u8 x).wf = true) → l2.length ≤ maxLen → l2.length * 1 ≤ 140737488351232 → (∀ x ∈ l2, (Lit.int .u8 x).wf = true) → waggonerlaw02_CrcSeals.f l0 l1 l2 = some true
theorem waggonerlaw02_CrcSeals.walk (P : waggonerlaw02_CrcSeals.Pure) (a0 : Option Addr) (len0 cap0 : Nat) (z0 : List Int) (a1 : Option Addr) (len1 cap1 : Nat) (z1 : List Int) (a2 : Option Addr) (len2 cap2 : Nat) (z2 : List Int) (w : World) (w0 : (a0 = none ∧ len0 = 0 ∧ cap0 = 0 ∧ z0 = []) ∨ ∃ x, a0 = some x ∧ len0 ≤ cap0 ∧ cap0 ≤ maxLen ∧ z0.length = cap0 ∧ (∀ i, i < z0.length → w.cell? (x.add i) = some (.int .u8 (z0.getD i 0))) ∧ ∀ n ∈ z0, (Lit.int .u8 n).wf = true) (y0 : len0 * 1 ≤ 140737488351232) (w1 : (a1 = none ∧ len1 = 0 ∧ cap1 = 0 ∧ z1 = []) ∨ ∃ x, a1 = some x ∧ len1 ≤ cap1 ∧ cap1 ≤ maxLen ∧ z1.length = cap1 ∧ (∀ i, i < z1.length → w.cell? (x.add i) = some (.int .u8 (z1.getD i 0))) ∧ ∀ n ∈ z1, (Lit.int .u8 n).wf = true) (y1 : len1 * 1 ≤ 140737488351232) (w2 : (a2 = none ∧ len2 = 0 ∧ cap2 = 0 ∧ z2 = []) ∨ ∃ x, a2 = some x ∧ len2 ≤ cap2 ∧ cap2 ≤ maxLen ∧ z2.length = cap2 ∧ (∀ i, i < z2.length → w.cell? (x.add i) = some (.int .u8 (z2.getD i 0))) ∧ ∀ n ∈ z2, (Lit.int .u8 n).wf = true) (y2 : len2 * 1 ≤ 140737488351232) :
    Calls Try.prog 7 #[.slice a0 len0 cap0, .slice a1 len1 cap1, .slice a2 len2 cap2] w fun e w' => e = .returned (.bool true) ∧ Below w.heap.size w w' := by
  obtain ⟨l0, rfl, hr0, hm0, hw0, hc0⟩ := ReadsInt.ofRowC w0
  obtain ⟨l1, rfl, hr1, hm1, hw1, hc1⟩ := ReadsInt.ofRowC w1
  obtain ⟨l2, rfl, hr2, hm2, hw2, hc2⟩ := ReadsInt.ofRowC w2
  have h := P l0 l1 l2 hm0 y0 hw0 hm1 y1 hw1 hm2 y2 hw2
  refine (waggonerlaw02_CrcSeals.calls _ _ l0 _ _ l1 _ _ l2 true w (Kd.C_of_reads (d := (0 : Int)) (h1 := fun _ => rfl) hr0) hc0 (Kd.C_of_reads (d := (0 : Int)) (h1 := fun _ => rfl) hr1) hc1 (Kd.C_of_reads (d := (0 : Int)) (h1 := fun _ => rfl) hr2) hc2 h).mono ?_
  rintro e w' ⟨rfl, hd⟩
  exact ⟨rfl, hd⟩

end Go.Proofs.Ytiaoehjldbnpkaa.PA
