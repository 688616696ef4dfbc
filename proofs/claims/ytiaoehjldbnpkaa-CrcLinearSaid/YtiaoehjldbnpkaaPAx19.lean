/- Functions of the program as Lean functions, and that the Go code comes to just their answers: no condition but that the function says so. (Written by a program of this workplace over the kit's print, with contracts by hand.) -/
import Derived.Test.YtiaoehjldbnpkaaPAx0
import Derived.Test.YtiaoehjldbnpkaaPAx4
import Derived.Test.YtiaoehjldbnpkaaPAx16
namespace Go.Proofs.Ytiaoehjldbnpkaa.PA
open Go.RowKit Go.Proofs.YtiaoehjldbnpkaaW.PrintWords Go.Proofs.YtiaoehjldbnpkaaW.PrintLast Go.Proofs.YtiaoehjldbnpkaaW.PrintMore
attribute [local go_sem] max2_int min2_int max_two min_two max_three min_three max_four min_four   -- for this text's walks alone
set_option linter.unusedVariables false
set_option linter.unusedSimpArgs false

/-! ### waggonerlaw02_CrcLinear: function 6 -/
def waggonerlaw02_CrcLinear.f (l0 : List Int) (l1 : List Int) (l2 : List Int) : Option Bool := if Pl.byteB l0 = true ∧ Pl.byteB l1 = true ∧ Pl.byteB l2 = true then some true else none
set_option maxHeartbeats 8000000 in
set_option maxRecDepth 2000000 in
theorem waggonerlaw02_CrcLinear.calls (A0 : Option Addr) (c0 : Nat) (l0 : List Int) (A1 : Option Addr) (c1 : Nat) (l1 : List Int) (A2 : Option Addr) (c2 : Nat) (l2 : List Int) (r : Bool) (w : World) (hr0 : Kd.C (Kd.int .u8) w A0 l0.length l0) (hc0 : l0.length ≤ c0) (hr1 : Kd.C (Kd.int .u8) w A1 l1.length l1) (hc1 : l1.length ≤ c1) (hr2 : Kd.C (Kd.int .u8) w A2 l2.length l2) (hc2 : l2.length ≤ c2) (h : waggonerlaw02_CrcLinear.f l0 l1 l2 = some r) :
    Calls Try.prog 6 #[.slice A0 l0.length c0, .slice A1 l1.length c1, .slice A2 l2.length c2] w fun e w' => e = .returned (.bool r) ∧ Below w.heap.size w w' := by
  unfold waggonerlaw02_CrcLinear.f at h
  split at h
  case isFalse => cases h
  rename_i hh
  obtain ⟨hb0, hb1, hb2⟩ := hh
  obtain rfl := Option.some.inj h
  clear h
  have HR0 := Aside0.mk hr0
  have HC0 := Aside0.mk hc0
  have HB0 := Aside0.mk hb0
  clear hr0 hc0 hb0
  have HR1 := Aside0.mk hr1
  have HC1 := Aside0.mk hc1
  have HB1 := Aside0.mk hb1
  clear hr1 hc1 hb1
  have HR2 := Aside0.mk hr2
  have HC2 := Aside0.mk hc2
  have HB2 := Aside0.mk hb2
  clear hr2 hc2 hb2
  obtain ⟨m, hm⟩ : ∃ m, m = min l0.length l1.length := ⟨_, rfl⟩
  obtain ⟨n, hn⟩ : ∃ n, n = min m l2.length := ⟨_, rfl⟩
  have n0 : n ≤ l0.length := by omega
  have n1 : n ≤ l1.length := by omega
  have n2 : n ≤ l2.length := by omega
  have hji5 : (if l1.length < l0.length then (l1.length : Int) else (l0.length : Int)) = (m : Int) := by split <;> omega
  have hji6 : (if l2.length < m then (l2.length : Int) else (m : Int)) = (n : Int) := by split <;> omega
  clear hm hn
  by_cases c0' : (300 : Int) < (n : Int)
  · have d0 : decide ((300 : Int) < (n : Int)) = true := decide_eq_true c0'
    have HB := Aside0.mk (Below.refl w.heap.size w)
    go_enter Try.func6, Try.ntmps6
    go_wp2_with fail
    refine (waggonerlaw02_awake.calls  true _ rfl).mono ?_
    rintro e w1 ⟨rfl, hb⟩
    have HB' := Aside0.mk (below_step HB.out hb)
    have HR0' := Aside0.mk (Kd.C_below HR0.out hb)
    clear HR0; have HR0 := HR0'; clear HR0'
    have HR1' := Aside0.mk (Kd.C_below HR1.out hb)
    clear HR1; have HR1 := HR1'; clear HR1'
    have HR2' := Aside0.mk (Kd.C_below HR2.out hb)
    clear HR2; have HR2 := HR2'; clear HR2'
    clear HB; have HB := HB'; clear HB'
    clear hb
    go_wp2
    go_ret
    exact ⟨rfl, HB.out⟩
  have d0 : decide ((300 : Int) < (n : Int)) = false := decide_eq_false c0'
  have nn : n ≤ 300 := by omega
  clear c0'
  have HB := Aside0.mk (Below.refl w.heap.size w)
  go_enter Try.func6, Try.ntmps6
  go_wp2_with fail
  refine (waggonerlaw02_awake.calls  true _ rfl).mono ?_
  rintro e w1 ⟨rfl, hb⟩
  have HB' := Aside0.mk (below_step HB.out hb)
  have HR0' := Aside0.mk (Kd.C_below HR0.out hb)
  clear HR0; have HR0 := HR0'; clear HR0'
  have HR1' := Aside0.mk (Kd.C_below HR1.out hb)
  clear HR1; have HR1 := HR1'; clear HR1'
  have HR2' := Aside0.mk (Kd.C_below HR2.out hb)
  clear HR2; have HR2 := HR2'; clear HR2'
  clear HB; have HB := HB'; clear HB'
  clear hb
  go_upto_region 6 with (first | ((with_reducible refine gate_dst (N := 23) rfl ?_); refine Kd.R_make (Kd.int .u8) _ 5 rfl (N := 23) rfl 23 _ _ rfl (n : Int) rfl rfl Try.underlying23 (.int .u8 0) 1 info5 rfl (by decide) (by omega) 0 (ok := fun _ => True) (okp := fun _ => True) rfl (fun _ hk => hk) trivial (by omega) (by omega) (Below.refl _ _) (Nat.le_refl _) ?_; intro v w2 ho hb hg_ hnew_; rw [Int.toNat_natCast] at ho; have HOv := Aside0.mk ho; have HBv := Aside0.mk hb; clear ho hb hg_ hnew_))
  rw [Lin.start l0 l1 l2 n] at HOv
  go_wp2
  go_loopw [10] (fun i wr => ∃ k : Nat, k ≤ n ∧ i = .int .i64 k ∧ Aside0 (Kd.R (Kd.int .u8) 5 wr w1.heap.size (fun _ => True) v (Lin.upto l0 l1 l2 n k)) ∧ Aside0 (Below w1.heap.size w1 wr)) (fun i _ => n - (intOf i).toNat)
  case atStart => exact ⟨0, by omega, rfl, HOv, HBv⟩
  case round =>
    clear HOv HBv
    obtain ⟨k, hk, rfl, HOu, HBu⟩ := hrel
    by_cases hlt : k < n
    · have e0 : decide ((k : Int) < (n : Int)) = true := decide_eq_true (by omega)
      obtain ⟨x, y, z, hx, hy, hz, hx8, hy8, hz8, hset⟩ := Lin.at' (n := n) HB0.out HB1.out HB2.out k (by omega) (by omega) (by omega) hlt
      have q1 : bits .xor .u8 (x : Int) (y : Int) = ((x ^^^ y : Nat) : Int) := u8_xor_nat x y hx8 hy8
      obtain ⟨xy, hxy⟩ : ∃ xy, xy = x ^^^ y := ⟨_, rfl⟩
      rw [← hxy] at q1
      have hxy8 : xy < 256 := by rw [hxy]; exact Nat.xor_lt_two_pow (n := 8) hx8 hy8
      have q2 : bits .xor .u8 (xy : Int) (z : Int) = ((xy ^^^ z : Nat) : Int) := u8_xor_nat xy z hxy8 hz8
      obtain ⟨xyz, hxyz⟩ : ∃ xyz, xyz = xy ^^^ z := ⟨_, rfl⟩
      rw [← hxyz] at q2
      rw [← hxy, ← hxyz] at hset
      go_wp2_with fail
      go_wp2
      have hLen : (Lin.upto l0 l1 l2 n k).length = n := Lin.upto_length ..
      have HOd := Aside0.mk (Kd.R_drew HOu.out)
      have HBd := Aside0.mk (below_drew HBu.out)
      obtain ⟨ad0, rfl, hx0⟩ := Kd.at_int (Kd.C_below HR0.out HBd.out) (k : Int) (by omega) (by omega)
      obtain ⟨ad1, rfl, hx1⟩ := Kd.at_int (Kd.C_below HR1.out HBd.out) (k : Int) (by omega) (by omega)
      obtain ⟨ad2, rfl, hx2⟩ := Kd.at_int (Kd.C_below HR2.out HBd.out) (k : Int) (by omega) (by omega)
      rw [hx] at hx0
      rw [hy] at hx1
      rw [hz] at hx2
      obtain ⟨g, cap, rfl, hgb, hgl, -, HG⟩ := Kd.R_form HOd.out (by omega)
      have HGB := Aside0.mk hgb
      obtain ⟨hcl, hfz⟩ := Kd.R_celln 0 HOd.out (k : Int) (by omega) (by omega)
      have HP := Kd.R_putn HOd.out (k : Int) (xyz : Int)
      rw [Int.toNat_natCast, hset] at HP
      have HP' := Aside0.mk HP
      clear HP hgb hgl hset
      have p0 : decide (0 ≤ (k : Int)) = true := decide_eq_true (by omega)
      have k0 := eq_true (show k < l0.length from by omega)
      have k1 := eq_true (show k < l1.length from by omega)
      have k2 := eq_true (show k < l2.length from by omega)
      have k3 := eq_true (show k < (Lin.upto l0 l1 l2 n k).length from by omega)
      obtain ⟨old, hcl'⟩ : ∃ old, wr.drew.cell? ⟨g, k, none⟩ = some old := ⟨_, hcl⟩
      have hfz' : wr.drew.frozen? ⟨g, k, none⟩ = false := hfz
      clear hcl hfz hx8 hy8 hz8 hxy hxy8 hxyz HOd HOu HBu
      refine start_ (n := 18) (S := fun w' => w'.cell? (ad0.add k) = some (.int .u8 (x : Int)) ∧ w'.cell? (ad1.add k) = some (.int .u8 (y : Int)) ∧ w'.cell? (ad2.add k) = some (.int .u8 (z : Int))) (ds := [17]) #[false, false, false, false, false, false, false, false, false, false, false, false, false, false, false, false, false, false] (by kernel_rfl) rfl rfl ⟨hx0, hx1, hx2⟩ (fun hHeld => ?_)
      generalize wr.drew = wd at HP' HBd hcl' hfz' hHeld ⊢
      clear hx0 hx1 hx2
      refine pure_ (i := 0) (N := some 29) (v := ?_) (a' := ?_) #[true, false, false, false, false, false, false, false, false, false, false, false, false, false, false, false, false, false] rfl rfl (by kernel_rfl) (fun _ _ _ h => h) (Or.inl ⟨by rfl, ?_⟩) ?_ ?_
      rotate_left
      · intro w'
        go_simp
        with_reducible rfl
      rotate_left
      · simp only [Act.put, List.setIfInBounds_toArray, List.set_cons_zero, List.set_cons_succ, i64_w, i32_w]
        rfl
      refine pure_ (i := 1) (N := some 30) (v := ?_) (a' := ?_) #[true, true, false, false, false, false, false, false, false, false, false, false, false, false, false, false, false, false] rfl rfl (by kernel_rfl) (fun _ _ _ h => h) (Or.inl ⟨by rfl, ?_⟩) ?_ ?_
      rotate_left
      · intro w'
        go_simp
        with_reducible rfl
      rotate_left
      · simp only [Act.put, List.setIfInBounds_toArray, List.set_cons_zero, List.set_cons_succ, i64_w, i32_w]
        rfl
      refine pure_ (i := 2) (N := some 31) (v := ?_) (a' := ?_) #[true, true, true, false, false, false, false, false, false, false, false, false, false, false, false, false, false, false] rfl rfl (by kernel_rfl) (fun _ _ _ h => h) (Or.inl ⟨by rfl, ?_⟩) ?_ ?_
      rotate_left
      · intro w'
        go_simp
        with_reducible rfl
      rotate_left
      · simp only [Act.put, List.setIfInBounds_toArray, List.set_cons_zero, List.set_cons_succ, i64_w, i32_w]
        rfl
      refine pure_ (i := 3) (N := some 32) (v := ?_) (a' := ?_) #[true, true, true, true, false, false, false, false, false, false, false, false, false, false, false, false, false, false] rfl rfl (by kernel_rfl) (fun _ _ _ h => h) (Or.inl ⟨by rfl, ?_⟩) ?_ ?_
      rotate_left
      · intro w'
        go_simp
        with_reducible rfl
      rotate_left
      · simp only [Act.put, List.setIfInBounds_toArray, List.set_cons_zero, List.set_cons_succ, i64_w, i32_w]
        rfl
      refine pure_ (i := 4) (N := some 33) (v := ?_) (a' := ?_) #[true, true, true, true, true, false, false, false, false, false, false, false, false, false, false, false, false, false] rfl rfl (by kernel_rfl) (fun _ _ _ h => h) (Or.inl ⟨by rfl, ?_⟩) ?_ ?_
      rotate_left
      · intro w'
        go_simp
        with_reducible rfl
      rotate_left
      · simp only [Act.put, List.setIfInBounds_toArray, List.set_cons_zero, List.set_cons_succ, i64_w, i32_w]
        rfl
      refine pure_ (i := 6) (N := some 35) (v := ?_) (a' := ?_) #[true, true, true, true, true, false, true, false, false, false, false, false, false, false, false, false, false, false] rfl rfl (by kernel_rfl) (fun _ _ _ h => h) (Or.inl ⟨by rfl, ?_⟩) ?_ ?_
      rotate_left
      · intro w'
        go_simp
        with_reducible rfl
      rotate_left
      · simp only [Act.put, List.setIfInBounds_toArray, List.set_cons_zero, List.set_cons_succ, i64_w, i32_w]
        rfl
      refine pure_ (i := 7) (N := some 36) (v := ?_) (a' := ?_) #[true, true, true, true, true, false, true, true, false, false, false, false, false, false, false, false, false, false] rfl rfl (by kernel_rfl) (fun _ _ _ h => h) (Or.inl ⟨by rfl, ?_⟩) ?_ ?_
      rotate_left
      · intro w'
        go_simp
        with_reducible rfl
      rotate_left
      · simp only [Act.put, List.setIfInBounds_toArray, List.set_cons_zero, List.set_cons_succ, i64_w, i32_w]
        rfl
      refine pure_ (i := 8) (N := some 37) (v := ?_) (a' := ?_) #[true, true, true, true, true, false, true, true, true, false, false, false, false, false, false, false, false, false] rfl rfl (by kernel_rfl) (fun _ _ _ h => h) (Or.inl ⟨by rfl, ?_⟩) ?_ ?_
      rotate_left
      · intro w'
        go_simp
        with_reducible rfl
      rotate_left
      · simp only [Act.put, List.setIfInBounds_toArray, List.set_cons_zero, List.set_cons_succ, i64_w, i32_w]
        rfl
      refine pure_ (i := 11) (N := some 40) (v := ?_) (a' := ?_) #[true, true, true, true, true, false, true, true, true, false, false, true, false, false, false, false, false, false] rfl rfl (by kernel_rfl) (fun _ _ _ h => h) (Or.inl ⟨by rfl, ?_⟩) ?_ ?_
      rotate_left
      · intro w'
        go_simp
        with_reducible rfl
      rotate_left
      · simp only [Act.put, List.setIfInBounds_toArray, List.set_cons_zero, List.set_cons_succ, i64_w, i32_w]
        rfl
      refine pure_ (i := 12) (N := some 41) (v := ?_) (a' := ?_) #[true, true, true, true, true, false, true, true, true, false, false, true, true, false, false, false, false, false] rfl rfl (by kernel_rfl) (fun _ _ _ h => h) (Or.inl ⟨by rfl, ?_⟩) ?_ ?_
      rotate_left
      · intro w'
        go_simp
        with_reducible rfl
      rotate_left
      · simp only [Act.put, List.setIfInBounds_toArray, List.set_cons_zero, List.set_cons_succ, i64_w, i32_w]
        rfl
      refine pure_ (i := 13) (N := some 42) (v := ?_) (a' := ?_) #[true, true, true, true, true, false, true, true, true, false, false, true, true, true, false, false, false, false] rfl rfl (by kernel_rfl) (fun _ _ _ h => h) (Or.inl ⟨by rfl, ?_⟩) ?_ ?_
      rotate_left
      · intro w'
        go_simp
        with_reducible rfl
      rotate_left
      · simp only [Act.put, List.setIfInBounds_toArray, List.set_cons_zero, List.set_cons_succ, i64_w, i32_w]
        rfl
      refine take_ (i := 5) (N := some 34) (v := ?_) (a' := ?_) #[true, true, true, true, true, true, true, true, true, false, false, true, true, true, false, false, false, false] rfl rfl (by kernel_rfl) (fun _ _ _ h => h) (Or.inl ⟨by rfl, ?_⟩) hHeld ?_ ?_
      rotate_left
      · rintro w' ⟨s0, s1, s2⟩
        go_simp
        with_reducible rfl
      rotate_left
      · simp only [Act.put, List.setIfInBounds_toArray, List.set_cons_zero, List.set_cons_succ, i64_w, i32_w]
        rfl
      refine take_ (i := 9) (N := some 38) (v := ?_) (a' := ?_) #[true, true, true, true, true, true, true, true, true, true, false, true, true, true, false, false, false, false] rfl rfl (by kernel_rfl) (fun _ _ _ h => h) (Or.inl ⟨by rfl, ?_⟩) hHeld ?_ ?_
      rotate_left
      · rintro w' ⟨s0, s1, s2⟩
        go_simp
        with_reducible rfl
      rotate_left
      · simp only [Act.put, List.setIfInBounds_toArray, List.set_cons_zero, List.set_cons_succ, i64_w, i32_w]
        rfl
      refine pure_ (i := 10) (N := some 39) (v := ?_) (a' := ?_) #[true, true, true, true, true, true, true, true, true, true, true, true, true, true, false, false, false, false] rfl rfl (by kernel_rfl) (fun _ _ _ h => h) (Or.inl ⟨by rfl, ?_⟩) ?_ ?_
      rotate_left
      · intro w'
        go_simp
        with_reducible rfl
      rotate_left
      · simp only [Act.put, List.setIfInBounds_toArray, List.set_cons_zero, List.set_cons_succ, i64_w, i32_w]
        rfl
      refine take_ (i := 14) (N := some 43) (v := ?_) (a' := ?_) #[true, true, true, true, true, true, true, true, true, true, true, true, true, true, true, false, false, false] rfl rfl (by kernel_rfl) (fun _ _ _ h => h) (Or.inl ⟨by rfl, ?_⟩) hHeld ?_ ?_
      rotate_left
      · rintro w' ⟨s0, s1, s2⟩
        go_simp
        with_reducible rfl
      rotate_left
      · simp only [Act.put, List.setIfInBounds_toArray, List.set_cons_zero, List.set_cons_succ, i64_w, i32_w]
        rfl
      refine pure_ (i := 15) (N := some 44) (v := ?_) (a' := ?_) #[true, true, true, true, true, true, true, true, true, true, true, true, true, true, true, true, false, false] rfl rfl (by kernel_rfl) (fun _ _ _ h => h) (Or.inl ⟨by rfl, ?_⟩) ?_ ?_
      rotate_left
      · intro w'
        go_simp
        with_reducible rfl
      rotate_left
      · simp only [Act.put, List.setIfInBounds_toArray, List.set_cons_zero, List.set_cons_succ, i64_w, i32_w]
        rfl
      refine pure_ (i := 16) (N := some 45) (v := ?_) (a' := ?_) #[true, true, true, true, true, true, true, true, true, true, true, true, true, true, true, true, true, false] rfl rfl (by kernel_rfl) (fun _ _ _ h => h) (Or.inl ⟨by rfl, ?_⟩) ?_ ?_
      rotate_left
      · intro w'
        go_simp
        with_reducible rfl
      rotate_left
      · simp only [Act.put, List.setIfInBounds_toArray, List.set_cons_zero, List.set_cons_succ, i64_w, i32_w]
        rfl
      refine last_ (i := 17) (N := none) #[true, true, true, true, true, true, true, true, true, true, true, true, true, true, true, true, true, true] rfl rfl (by kernel_rfl) (by decide) (fun K hK => ?_)
      refine skip_ (w1 := ?_) (by rfl) rfl ?_ ?_
      rotate_left
      · go_simp
        rfl
      refine hK.out _ _ ?_
      clear hK K
      refine done_ (by kernel_rfl) ?_
      go_wp2
      go_roundw
      case rel => exact ⟨k + 1, by omega, by go_num, HP', ⟨below_set HBd.out HGB.out⟩⟩
      case measure => simp [intOf]; omega
    · have e0 : decide ((k : Int) < (n : Int)) = false := decide_eq_false (by omega)
      obtain rfl : k = n := by omega
      obtain ⟨Ad, cd, rfl, hcd, hrd⟩ := Kd.R_reads HOu.out
      obtain ⟨D, hD⟩ : ∃ D, D = Lin.upto l0 l1 l2 k k := ⟨_, rfl⟩
      have hDl : Aside0 (D.length = k) := ⟨by rw [hD]; exact Lin.upto_length ..⟩
      rw [← hD] at hcd hrd ⊢
      have hDb : Pl.byteB D = true := by rw [hD]; exact Lin.upto_byte HB0.out HB1.out HB2.out n0 n1 n2
      have hDs := Lin.sum l0 l1 l2 k n0 n1 n2
      rw [← hD] at hDs
      have HRd := Aside0.mk hrd
      have HCd := Aside0.mk hcd
      have HB' := Aside0.mk (below_step HB.out HBu.out)
      obtain ⟨i0, hi, hz0, hz1, hz2⟩ := info_parts info5
      obtain ⟨p0, hp0⟩ : ∃ p, p = l0.take k := ⟨_, rfl⟩
      obtain ⟨hcut0, -, -⟩ := print_take_of (P := Try.prog) (Value.int .u8) 0 23 5 .i64 Try.underlying23 hi hz1 A0 c0 l0 (k : Int) (by omega) (by omega) HC0.out
      rw [Int.toNat_natCast, ← hp0] at hcut0
      have HRp0 := Aside0.mk (Kx.takeC k n0 (Kd.C_below HR0.out HBu.out))
      rw [← hp0] at HRp0
      have HCp0 : Aside0 (p0.length ≤ c0) := ⟨by have := HC0.out; rw [hp0, List.length_take]; omega⟩
      have hpb0 : Pl.byteB p0 = true := by rw [hp0]; exact Lin.byteB_take HB0.out k
      obtain ⟨s0, hs0⟩ : ∃ s, s = Pl.sum (Pl.nats p0) := ⟨_, rfl⟩
      have hs032 : s0 < 4294967296 := by rw [hs0]; exact Pl.sum_lt (Pl.byteB_bytes hpb0)
      have HS0 : Aside0 (crc_Sum.f p0 = some (s0 : Int)) := ⟨by rw [hs0]; exact crc_Sum.tells p0 hpb0⟩
      rw [← hp0, ← hs0] at hDs
      obtain ⟨p1, hp1⟩ : ∃ p, p = l1.take k := ⟨_, rfl⟩
      obtain ⟨hcut1, -, -⟩ := print_take_of (P := Try.prog) (Value.int .u8) 0 23 5 .i64 Try.underlying23 hi hz1 A1 c1 l1 (k : Int) (by omega) (by omega) HC1.out
      rw [Int.toNat_natCast, ← hp1] at hcut1
      have HRp1 := Aside0.mk (Kx.takeC k n1 (Kd.C_below HR1.out HBu.out))
      rw [← hp1] at HRp1
      have HCp1 : Aside0 (p1.length ≤ c1) := ⟨by have := HC1.out; rw [hp1, List.length_take]; omega⟩
      have hpb1 : Pl.byteB p1 = true := by rw [hp1]; exact Lin.byteB_take HB1.out k
      obtain ⟨s1, hs1⟩ : ∃ s, s = Pl.sum (Pl.nats p1) := ⟨_, rfl⟩
      have hs132 : s1 < 4294967296 := by rw [hs1]; exact Pl.sum_lt (Pl.byteB_bytes hpb1)
      have HS1 : Aside0 (crc_Sum.f p1 = some (s1 : Int)) := ⟨by rw [hs1]; exact crc_Sum.tells p1 hpb1⟩
      rw [← hp1, ← hs1] at hDs
      obtain ⟨p2, hp2⟩ : ∃ p, p = l2.take k := ⟨_, rfl⟩
      obtain ⟨hcut2, -, -⟩ := print_take_of (P := Try.prog) (Value.int .u8) 0 23 5 .i64 Try.underlying23 hi hz1 A2 c2 l2 (k : Int) (by omega) (by omega) HC2.out
      rw [Int.toNat_natCast, ← hp2] at hcut2
      have HRp2 := Aside0.mk (Kx.takeC k n2 (Kd.C_below HR2.out HBu.out))
      rw [← hp2] at HRp2
      have HCp2 : Aside0 (p2.length ≤ c2) := ⟨by have := HC2.out; rw [hp2, List.length_take]; omega⟩
      have hpb2 : Pl.byteB p2 = true := by rw [hp2]; exact Lin.byteB_take HB2.out k
      obtain ⟨s2, hs2⟩ : ∃ s, s = Pl.sum (Pl.nats p2) := ⟨_, rfl⟩
      have hs232 : s2 < 4294967296 := by rw [hs2]; exact Pl.sum_lt (Pl.byteB_bytes hpb2)
      have HS2 : Aside0 (crc_Sum.f p2 = some (s2 : Int)) := ⟨by rw [hs2]; exact crc_Sum.tells p2 hpb2⟩
      rw [← hp2, ← hs2] at hDs
      have HSd : Aside0 (crc_Sum.f D = some ((s0 ^^^ s1 ^^^ s2 : Nat) : Int)) := ⟨by rw [← hDs]; exact crc_Sum.tells D hDb⟩
      have q1 : bits .xor .u32 (s0 : Int) (s1 : Int) = ((s0 ^^^ s1 : Nat) : Int) := u32_xor_nat s0 s1 hs032 hs132
      obtain ⟨s01, hs01⟩ : ∃ s, s = s0 ^^^ s1 := ⟨_, rfl⟩
      have hs0132 : s01 < 4294967296 := by rw [hs01]; exact Nat.xor_lt_two_pow (n := 32) hs032 hs132
      rw [← hs01] at q1 HSd
      have q2 : bits .xor .u32 (s01 : Int) (s2 : Int) = ((s01 ^^^ s2 : Nat) : Int) := u32_xor_nat s01 s2 hs0132 hs232
      obtain ⟨s012, hs012⟩ : ∃ s, s = s01 ^^^ s2 := ⟨_, rfl⟩
      rw [← hs012] at q2 HSd
      clear HB hi hz0 hz1 hz2 hp0 hp1 hp2 hpb0 hpb1 hpb2 hs0 hs1 hs2 hs032 hs132 hs232 hs01 hs0132 hs012 hD hDb hDs HR0 HR1 HR2 HOu HBu hrd hcd
      have HB := HB'
      clear HB'
      go_wp2_with fail
      have HB' := Aside0.mk (below_drew HB.out); clear HB; have HB := HB'; clear HB'
      have HRp0' := Aside0.mk (Kd.C_drew HRp0.out); clear HRp0; have HRp0 := HRp0'; clear HRp0'
      have HRp1' := Aside0.mk (Kd.C_drew HRp1.out); clear HRp1; have HRp1 := HRp1'; clear HRp1'
      have HRp2' := Aside0.mk (Kd.C_drew HRp2.out); clear HRp2; have HRp2 := HRp2'; clear HRp2'
      have HRd' := Aside0.mk (Kd.C_drew HRd.out); clear HRd; have HRd := HRd'; clear HRd'
      refine start_ (n := 21) (S := fun w' => True) (ds := []) #[false, false, false, false, false, false, false, false, false, false, false, false, false, false, false, false, false, false, false, false, false] (by kernel_rfl) rfl rfl trivial (fun hHeld => ?_)
      generalize wr.drew = wd51 at HB HRp0 HRp1 HRp2 HRd hHeld ⊢
      refine pure_ (i := 0) (N := some 46) (v := ?_) (a' := ?_) #[true, false, false, false, false, false, false, false, false, false, false, false, false, false, false, false, false, false, false, false, false] rfl rfl (by kernel_rfl) (fun _ _ _ h => h) (Or.inl ⟨by rfl, ?_⟩) ?_ ?_
      rotate_left
      · intro w'
        go_simp
        with_reducible rfl
      rotate_left
      · simp only [Act.put, List.setIfInBounds_toArray, List.set_cons_zero, List.set_cons_succ, i64_w, i32_w]
        rfl
      refine pure_ (i := 1) (N := some 47) (v := ?_) (a' := ?_) #[true, true, false, false, false, false, false, false, false, false, false, false, false, false, false, false, false, false, false, false, false] rfl rfl (by kernel_rfl) (fun _ _ _ h => h) (Or.inl ⟨by rfl, ?_⟩) ?_ ?_
      rotate_left
      · intro w'
        go_simp
        with_reducible rfl
      rotate_left
      · simp only [Act.put, List.setIfInBounds_toArray, List.set_cons_zero, List.set_cons_succ, i64_w, i32_w]
        rfl
      refine pure_ (i := 2) (N := some 48) (v := ?_) (a' := ?_) #[true, true, true, false, false, false, false, false, false, false, false, false, false, false, false, false, false, false, false, false, false] rfl rfl (by kernel_rfl) (fun _ _ _ h => h) (Or.inl ⟨by rfl, ?_⟩) ?_ ?_
      rotate_left
      · intro w'
        go_simp
        with_reducible rfl
      rotate_left
      · simp only [Act.put, List.setIfInBounds_toArray, List.set_cons_zero, List.set_cons_succ, i64_w, i32_w]
        rfl
      refine pure_ (i := 4) (N := some 50) (v := ?_) (a' := ?_) #[true, true, true, false, true, false, false, false, false, false, false, false, false, false, false, false, false, false, false, false, false] rfl rfl (by kernel_rfl) (fun _ _ _ h => h) (Or.inl ⟨by rfl, ?_⟩) ?_ ?_
      rotate_left
      · intro w'
        go_simp
        with_reducible rfl
      rotate_left
      · simp only [Act.put, List.setIfInBounds_toArray, List.set_cons_zero, List.set_cons_succ, i64_w, i32_w]
        rfl
      refine pure_ (i := 5) (N := some 51) (v := ?_) (a' := ?_) #[true, true, true, false, true, true, false, false, false, false, false, false, false, false, false, false, false, false, false, false, false] rfl rfl (by kernel_rfl) (fun _ _ _ h => h) (Or.inl ⟨by rfl, ?_⟩) ?_ ?_
      rotate_left
      · intro w'
        go_simp
        with_reducible rfl
      rotate_left
      · simp only [Act.put, List.setIfInBounds_toArray, List.set_cons_zero, List.set_cons_succ, i64_w, i32_w]
        rfl
      refine pure_ (i := 6) (N := some 52) (v := ?_) (a' := ?_) #[true, true, true, false, true, true, true, false, false, false, false, false, false, false, false, false, false, false, false, false, false] rfl rfl (by kernel_rfl) (fun _ _ _ h => h) (Or.inl ⟨by rfl, ?_⟩) ?_ ?_
      rotate_left
      · intro w'
        go_simp
        with_reducible rfl
      rotate_left
      · simp only [Act.put, List.setIfInBounds_toArray, List.set_cons_zero, List.set_cons_succ, i64_w, i32_w]
        rfl
      refine pure_ (i := 8) (N := some 54) (v := ?_) (a' := ?_) #[true, true, true, false, true, true, true, false, true, false, false, false, false, false, false, false, false, false, false, false, false] rfl rfl (by kernel_rfl) (fun _ _ _ h => h) (Or.inl ⟨by rfl, ?_⟩) ?_ ?_
      rotate_left
      · intro w'
        go_simp
        with_reducible rfl
      rotate_left
      · simp only [Act.put, List.setIfInBounds_toArray, List.set_cons_zero, List.set_cons_succ, i64_w, i32_w]
        rfl
      refine pure_ (i := 9) (N := some 55) (v := ?_) (a' := ?_) #[true, true, true, false, true, true, true, false, true, true, false, false, false, false, false, false, false, false, false, false, false] rfl rfl (by kernel_rfl) (fun _ _ _ h => h) (Or.inl ⟨by rfl, ?_⟩) ?_ ?_
      rotate_left
      · intro w'
        go_simp
        with_reducible rfl
      rotate_left
      · simp only [Act.put, List.setIfInBounds_toArray, List.set_cons_zero, List.set_cons_succ, i64_w, i32_w]
        rfl
      refine pure_ (i := 10) (N := some 56) (v := ?_) (a' := ?_) #[true, true, true, false, true, true, true, false, true, true, true, false, false, false, false, false, false, false, false, false, false] rfl rfl (by kernel_rfl) (fun _ _ _ h => h) (Or.inl ⟨by rfl, ?_⟩) ?_ ?_
      rotate_left
      · intro w'
        go_simp
        with_reducible rfl
      rotate_left
      · simp only [Act.put, List.setIfInBounds_toArray, List.set_cons_zero, List.set_cons_succ, i64_w, i32_w]
        rfl
      refine pure_ (i := 13) (N := some 59) (v := ?_) (a' := ?_) #[true, true, true, false, true, true, true, false, true, true, true, false, false, true, false, false, false, false, false, false, false] rfl rfl (by kernel_rfl) (fun _ _ _ h => h) (Or.inl ⟨by rfl, ?_⟩) ?_ ?_
      rotate_left
      · intro w'
        go_simp
        with_reducible rfl
      rotate_left
      · simp only [Act.put, List.setIfInBounds_toArray, List.set_cons_zero, List.set_cons_succ, i64_w, i32_w]
        rfl
      refine pure_ (i := 14) (N := some 60) (v := ?_) (a' := ?_) #[true, true, true, false, true, true, true, false, true, true, true, false, false, true, true, false, false, false, false, false, false] rfl rfl (by kernel_rfl) (fun _ _ _ h => h) (Or.inl ⟨by rfl, ?_⟩) ?_ ?_
      rotate_left
      · intro w'
        go_simp
        with_reducible rfl
      rotate_left
      · simp only [Act.put, List.setIfInBounds_toArray, List.set_cons_zero, List.set_cons_succ, i64_w, i32_w]
        rfl
      refine pure_ (i := 15) (N := some 61) (v := ?_) (a' := ?_) #[true, true, true, false, true, true, true, false, true, true, true, false, false, true, true, true, false, false, false, false, false] rfl rfl (by kernel_rfl) (fun _ _ _ h => h) (Or.inl ⟨by rfl, ?_⟩) ?_ ?_
      rotate_left
      · intro w'
        go_simp
        with_reducible rfl
      rotate_left
      · simp only [Act.put, List.setIfInBounds_toArray, List.set_cons_zero, List.set_cons_succ, i64_w, i32_w]
        rfl
      refine one_ (i := 3) (N := some 49) #[true, true, true, true, true, true, true, false, true, true, true, false, false, true, true, true, false, false, false, false, false] rfl rfl (by kernel_rfl) (by decide) (fun K hK => ?_)
      refine goes_ Try.func21 (by kernel_rfl) rfl #[.slice Ad D.length cd] (by rfl) rfl rfl (by simp only [List.map_toArray, List.map_cons, List.map_nil]; rfl) ?_
      refine (crc_Sum.calls _ _ D _ _ HRd.out HCd.out HSd.out).mono ?_
      rintro e w5103 ⟨rfl, hb⟩
      refine ⟨_, rfl, ?_⟩
      have HB' := Aside0.mk (below_step HB.out hb); clear HB; have HB := HB'; clear HB'
      have HRp0' := Aside0.mk (Kd.C_below HRp0.out hb); clear HRp0; have HRp0 := HRp0'; clear HRp0'
      have HRp1' := Aside0.mk (Kd.C_below HRp1.out hb); clear HRp1; have HRp1 := HRp1'; clear HRp1'
      have HRp2' := Aside0.mk (Kd.C_below HRp2.out hb); clear HRp2; have HRp2 := HRp2'; clear HRp2'
      have HRd' := Aside0.mk (Kd.C_below HRd.out hb); clear HRd; have HRd := HRd'; clear HRd'
      clear hb
      refine hK.out _ _ trivial (fun hHeld => ?_)
      clear hK K
      refine norm_ (a' := ?_) ?_ ?_
      rotate_left
      · show Act.put _ (some 49) _ = _
        simp only [Act.put, List.setIfInBounds_toArray, List.set_cons_zero, List.set_cons_succ, i64_w, i32_w]
        rfl
      refine one_ (i := 7) (N := some 53) #[true, true, true, true, true, true, true, true, true, true, true, false, false, true, true, true, false, false, false, false, false] rfl rfl (by kernel_rfl) (by decide) (fun K hK => ?_)
      refine goes_ Try.func21 (by kernel_rfl) rfl #[.slice A0 p0.length c0] (by rfl) rfl rfl (by simp only [List.map_toArray, List.map_cons, List.map_nil]; rfl) ?_
      refine (crc_Sum.calls _ _ p0 _ _ HRp0.out HCp0.out HS0.out).mono ?_
      rintro e w5107 ⟨rfl, hb⟩
      refine ⟨_, rfl, ?_⟩
      have HB' := Aside0.mk (below_step HB.out hb); clear HB; have HB := HB'; clear HB'
      have HRp0' := Aside0.mk (Kd.C_below HRp0.out hb); clear HRp0; have HRp0 := HRp0'; clear HRp0'
      have HRp1' := Aside0.mk (Kd.C_below HRp1.out hb); clear HRp1; have HRp1 := HRp1'; clear HRp1'
      have HRp2' := Aside0.mk (Kd.C_below HRp2.out hb); clear HRp2; have HRp2 := HRp2'; clear HRp2'
      have HRd' := Aside0.mk (Kd.C_below HRd.out hb); clear HRd; have HRd := HRd'; clear HRd'
      clear hb
      refine hK.out _ _ trivial (fun hHeld => ?_)
      clear hK K
      refine norm_ (a' := ?_) ?_ ?_
      rotate_left
      · show Act.put _ (some 53) _ = _
        simp only [Act.put, List.setIfInBounds_toArray, List.set_cons_zero, List.set_cons_succ, i64_w, i32_w]
        rfl
      refine one_ (i := 11) (N := some 57) #[true, true, true, true, true, true, true, true, true, true, true, true, false, true, true, true, false, false, false, false, false] rfl rfl (by kernel_rfl) (by decide) (fun K hK => ?_)
      refine goes_ Try.func21 (by kernel_rfl) rfl #[.slice A1 p1.length c1] (by rfl) rfl rfl (by simp only [List.map_toArray, List.map_cons, List.map_nil]; rfl) ?_
      refine (crc_Sum.calls _ _ p1 _ _ HRp1.out HCp1.out HS1.out).mono ?_
      rintro e w5111 ⟨rfl, hb⟩
      refine ⟨_, rfl, ?_⟩
      have HB' := Aside0.mk (below_step HB.out hb); clear HB; have HB := HB'; clear HB'
      have HRp0' := Aside0.mk (Kd.C_below HRp0.out hb); clear HRp0; have HRp0 := HRp0'; clear HRp0'
      have HRp1' := Aside0.mk (Kd.C_below HRp1.out hb); clear HRp1; have HRp1 := HRp1'; clear HRp1'
      have HRp2' := Aside0.mk (Kd.C_below HRp2.out hb); clear HRp2; have HRp2 := HRp2'; clear HRp2'
      have HRd' := Aside0.mk (Kd.C_below HRd.out hb); clear HRd; have HRd := HRd'; clear HRd'
      clear hb
      refine hK.out _ _ trivial (fun hHeld => ?_)
      clear hK K
      refine norm_ (a' := ?_) ?_ ?_
      rotate_left
      · show Act.put _ (some 57) _ = _
        simp only [Act.put, List.setIfInBounds_toArray, List.set_cons_zero, List.set_cons_succ, i64_w, i32_w]
        rfl
      refine pure_ (i := 12) (N := some 58) (v := ?_) (a' := ?_) #[true, true, true, true, true, true, true, true, true, true, true, true, true, true, true, true, false, false, false, false, false] rfl rfl (by kernel_rfl) (fun _ _ _ h => h) (Or.inl ⟨by rfl, ?_⟩) ?_ ?_
      rotate_left
      · intro w'
        go_simp
        with_reducible rfl
      rotate_left
      · simp only [Act.put, List.setIfInBounds_toArray, List.set_cons_zero, List.set_cons_succ, i64_w, i32_w]
        rfl
      refine one_ (i := 16) (N := some 62) #[true, true, true, true, true, true, true, true, true, true, true, true, true, true, true, true, true, false, false, false, false] rfl rfl (by kernel_rfl) (by decide) (fun K hK => ?_)
      refine goes_ Try.func21 (by kernel_rfl) rfl #[.slice A2 p2.length c2] (by rfl) rfl rfl (by simp only [List.map_toArray, List.map_cons, List.map_nil]; rfl) ?_
      refine (crc_Sum.calls _ _ p2 _ _ HRp2.out HCp2.out HS2.out).mono ?_
      rintro e w5116 ⟨rfl, hb⟩
      refine ⟨_, rfl, ?_⟩
      have HB' := Aside0.mk (below_step HB.out hb); clear HB; have HB := HB'; clear HB'
      have HRp0' := Aside0.mk (Kd.C_below HRp0.out hb); clear HRp0; have HRp0 := HRp0'; clear HRp0'
      have HRp1' := Aside0.mk (Kd.C_below HRp1.out hb); clear HRp1; have HRp1 := HRp1'; clear HRp1'
      have HRp2' := Aside0.mk (Kd.C_below HRp2.out hb); clear HRp2; have HRp2 := HRp2'; clear HRp2'
      have HRd' := Aside0.mk (Kd.C_below HRd.out hb); clear HRd; have HRd := HRd'; clear HRd'
      clear hb
      refine hK.out _ _ trivial (fun hHeld => ?_)
      clear hK K
      refine norm_ (a' := ?_) ?_ ?_
      rotate_left
      · show Act.put _ (some 62) _ = _
        simp only [Act.put, List.setIfInBounds_toArray, List.set_cons_zero, List.set_cons_succ, i64_w, i32_w]
        rfl
      refine pure_ (i := 17) (N := some 63) (v := ?_) (a' := ?_) #[true, true, true, true, true, true, true, true, true, true, true, true, true, true, true, true, true, true, false, false, false] rfl rfl (by kernel_rfl) (fun _ _ _ h => h) (Or.inl ⟨by rfl, ?_⟩) ?_ ?_
      rotate_left
      · intro w'
        go_simp
        with_reducible rfl
      rotate_left
      · simp only [Act.put, List.setIfInBounds_toArray, List.set_cons_zero, List.set_cons_succ, i64_w, i32_w]
        rfl
      refine pure_ (i := 18) (N := some 64) (v := ?_) (a' := ?_) #[true, true, true, true, true, true, true, true, true, true, true, true, true, true, true, true, true, true, true, false, false] rfl rfl (by kernel_rfl) (fun _ _ _ h => h) (Or.inl ⟨by rfl, ?_⟩) ?_ ?_
      rotate_left
      · intro w'
        go_simp
        with_reducible rfl
      rotate_left
      · simp only [Act.put, List.setIfInBounds_toArray, List.set_cons_zero, List.set_cons_succ, i64_w, i32_w]
        rfl
      refine pure_ (i := 19) (N := some 65) (v := ?_) (a' := ?_) #[true, true, true, true, true, true, true, true, true, true, true, true, true, true, true, true, true, true, true, true, false] rfl rfl (by kernel_rfl) (fun _ _ _ h => h) (Or.inl ⟨by rfl, ?_⟩) ?_ ?_
      rotate_left
      · intro w'
        go_simp
        with_reducible rfl
      rotate_left
      · simp only [Act.put, List.setIfInBounds_toArray, List.set_cons_zero, List.set_cons_succ, i64_w, i32_w]
        rfl
      refine pure_ (i := 20) (N := some 6) (v := ?_) (a' := ?_) #[true, true, true, true, true, true, true, true, true, true, true, true, true, true, true, true, true, true, true, true, true] rfl rfl (by kernel_rfl) (fun _ _ _ h => h) (Or.inl ⟨by rfl, ?_⟩) ?_ ?_
      rotate_left
      · intro w'
        go_simp
        with_reducible rfl
      rotate_left
      · simp only [Act.put, List.setIfInBounds_toArray, List.set_cons_zero, List.set_cons_succ, i64_w, i32_w]
        rfl
      refine done_ (by kernel_rfl) ?_
      
      go_wp2
      go_ret
      exact ⟨rfl, HB.out⟩

def waggonerlaw02_CrcLinear.Pure : Prop := ∀ (l0 : List Int) (l1 : List Int) (l2 : List Int), l0.length ≤ maxLen → l0.length * 1 ≤ 140737488351232 → (∀ x ∈ l0, (Lit.int .u8 x).wf = true) → l1.length ≤ maxLen → l1.length * 1 ≤ 140737488351232 → (∀ x ∈ l1, (Lit.int .u8 x).wf = true) → l2.length ≤ maxLen → l2.length * 1 ≤ 140737488351232 → (∀ x ∈ l2, (Lit.int .u8 x).wf = true) → waggonerlaw02_CrcLinear.f l0 l1 l2 = some true
theorem waggonerlaw02_CrcLinear.walk (P : waggonerlaw02_CrcLinear.Pure) (a0 : Option Addr) (len0 cap0 : Nat) (z0 : List Int) (a1 : Option Addr) (len1 cap1 : Nat) (z1 : List Int) (a2 : Option Addr) (len2 cap2 : Nat) (z2 : List Int) (w : World) (w0 : (a0 = none ∧ len0 = 0 ∧ cap0 = 0 ∧ z0 = []) ∨ ∃ x, a0 = some x ∧ len0 ≤ cap0 ∧ cap0 ≤ maxLen ∧ z0.length = cap0 ∧ (∀ i, i < z0.length → w.cell? (x.add i) = some (.int .u8 (z0.getD i 0))) ∧ ∀ n ∈ z0, (Lit.int .u8 n).wf = true) (y0 : len0 * 1 ≤ 140737488351232) (w1 : (a1 = none ∧ len1 = 0 ∧ cap1 = 0 ∧ z1 = []) ∨ ∃ x, a1 = some x ∧ len1 ≤ cap1 ∧ cap1 ≤ maxLen ∧ z1.length = cap1 ∧ (∀ i, i < z1.length → w.cell? (x.add i) = some (.int .u8 (z1.getD i 0))) ∧ ∀ n ∈ z1, (Lit.int .u8 n).wf = true) (y1 : len1 * 1 ≤ 140737488351232) (w2 : (a2 = none ∧ len2 = 0 ∧ cap2 = 0 ∧ z2 = []) ∨ ∃ x, a2 = some x ∧ len2 ≤ cap2 ∧ cap2 ≤ maxLen ∧ z2.length = cap2 ∧ (∀ i, i < z2.length → w.cell? (x.add i) = some (.int .u8 (z2.getD i 0))) ∧ ∀ n ∈ z2, (Lit.int .u8 n).wf = true) (y2 : len2 * 1 ≤ 140737488351232) :
    Calls Try.prog 6 #[.slice a0 len0 cap0, .slice a1 len1 cap1, .slice a2 len2 cap2] w fun e w' => e = .returned (.bool true) ∧ Below w.heap.size w w' := by
  obtain ⟨l0, rfl, hr0, hm0, hw0, hc0⟩ := ReadsInt.ofRowC w0
  obtain ⟨l1, rfl, hr1, hm1, hw1, hc1⟩ := ReadsInt.ofRowC w1
  obtain ⟨l2, rfl, hr2, hm2, hw2, hc2⟩ := ReadsInt.ofRowC w2
  have h := P l0 l1 l2 hm0 y0 hw0 hm1 y1 hw1 hm2 y2 hw2
  refine (waggonerlaw02_CrcLinear.calls _ _ l0 _ _ l1 _ _ l2 true w (Kd.C_of_reads (d := (0 : Int)) (h1 := fun _ => rfl) hr0) hc0 (Kd.C_of_reads (d := (0 : Int)) (h1 := fun _ => rfl) hr1) hc1 (Kd.C_of_reads (d := (0 : Int)) (h1 := fun _ => rfl) hr2) hc2 h).mono ?_
  rintro e w' ⟨rfl, hd⟩
  exact ⟨rfl, hd⟩

end Go.Proofs.Ytiaoehjldbnpkaa.PA
