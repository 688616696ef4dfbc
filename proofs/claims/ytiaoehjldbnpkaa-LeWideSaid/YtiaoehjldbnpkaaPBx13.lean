/- Functions of the program as Lean functions, and that the Go code comes to just their answers: no condition but that the function says so. (Written by a program of this workplace over the kit's print, with contracts by hand.) -/
import Derived.Test.YtiaoehjldbnpkaaPBx0
import Derived.Test.YtiaoehjldbnpkaaPBx9
import Derived.Test.YtiaoehjldbnpkaaPBx10
namespace Go.Proofs.Ytiaoehjldbnpkaa.PB
open Go.RowKit Go.Proofs.YtiaoehjldbnpkaaW.PrintWords Go.Proofs.YtiaoehjldbnpkaaW.PrintLast Go.Proofs.YtiaoehjldbnpkaaW.PrintMore
attribute [local go_sem] max2_int min2_int max_two min_two max_three min_three max_four min_four   -- for this text's walks alone
set_option linter.unusedVariables false
set_option linter.unusedSimpArgs false

/-! ### strings_IndexRune: function 46 -/
set_option maxRecDepth 2000000 in
theorem strings_IndexRune.low (s : ByteArray) (r : Int) (w : World) (h0 : 0 ≤ r) (h1 : r < 128) :
    Calls Try.prog 46 #[.string s, .int .i32 r] w fun e w' => e = .returned (.int .i64 (firstIdx s r.toNat.toUInt8)) ∧ Below w.heap.size w w' := by
  have hr : r % 256 = r := by omega
  go_enter Try.func46, Try.ntmps46
  go_wp2_with (first | (go_at_call 47; refine (strings_IndexByte.goes s r _).mono ?_; rintro e w' ⟨rfl, ⟨nd, rfl⟩⟩))
  go_ret
  exact ⟨rfl, pw_below_drewN (Below.refl _ _) nd⟩
set_option maxHeartbeats 8000000 in
set_option maxRecDepth 2000000 in
/-- The rune that stands for what is none: it is not among ASCII bytes. -/
theorem strings_IndexRune.none' (s : ByteArray) (w : World) (hs : ∀ i (h : i < s.size), (s[i]'h).toNat < 128) :
    Calls Try.prog 46 #[.string s, .int .i32 65533] w fun e w' => e = .returned (.int .i64 (-1)) ∧ Below w.heap.size w w' := by
  obtain ⟨B, hB⟩ : ∃ B, B = w.heap.size := ⟨_, rfl⟩
  have HBN := Aside0.mk hB
  clear hB
  have hk0 : Aside0 ((w.iter s 0).heap[B]? = some (.stringIter s 0)) := ⟨by rw [HBN.out]; exact World.iter_heap w s 0⟩
  have hb0 : Aside0 (Below w.heap.size w (w.iter s 0)) := ⟨(Below.refl _ w).alloc (Nat.le_refl _) _⟩
  go_enter Try.func46, Try.ntmps46
  go_wp2
  rw [← HBN.out]
  generalize w.iter s 0 = w0 at hk0 hb0 ⊢
  go_loopw [] (fun wr => ∃ pos : Nat, pos ≤ s.size ∧ Aside0 (wr.heap[B]? = some (.stringIter s pos)) ∧ Aside0 (Below w.heap.size w wr)) (fun wr => s.size - wr.iterPos B)
  case atStart => exact ⟨0, Nat.zero_le _, hk0, hb0⟩
  case round =>
    obtain ⟨pos, hps, hk, hnx⟩ := hrel
    clear hk0 hb0
    by_cases hp : pos < s.size
    · have hnext : ∀ ty, (Instr.next (.pointer (some ⟨B, 0, none⟩)) true ty).run Try.prog wr = _ := fun ty => Lib.run_next_ascii_at wr B s pos ty hk.out hp (hs pos hp)
      have hk1 := Aside0.mk (Lib.iterAt_heap wr B s pos (pos + 1) hk.out)
      have hn1 := Aside0.mk (Lib.below_iterAt (k := B) hnx.out (by rw [HBN.out]; exact Nat.le_refl _) s (pos + 1))
      have hmu : Aside0 (wr.iterPos B = pos) := ⟨by simp [World.iterPos, hk.out]⟩
      have hmu2 : Aside0 ((wr.iterAt B s (pos + 1)).iterPos B = pos + 1) := ⟨by simp [World.iterPos, hk1.out]⟩
      have hb := hs pos hp
      obtain ⟨x, hx⟩ : ∃ x, x = (s[pos]'hp).toNat := ⟨_, rfl⟩
      rw [← hx] at hnext hb
      have hne : ((x : Int) == 65533) = false := by simp; omega
      clear hx
      generalize wr.iterAt B s (pos + 1) = W1 at hnext hk1 hn1 hmu2
      go_wp2
      go_roundw
      case rel => exact ⟨pos + 1, by omega, hk1, hn1⟩
      case measure => rw [hmu.out, hmu2.out]; omega
    · have hnext : ∀ ty, (Instr.next (.pointer (some ⟨B, 0, none⟩)) true ty).run Try.prog wr = _ := fun ty => Lib.run_next_end_at wr B s pos ty hk.out hp
      go_wp2
      go_ret
      exact ⟨rfl, hnx.out⟩
set_option maxHeartbeats 8000000 in
set_option maxRecDepth 2000000 in
/-- A rune of more bytes than one is not among ASCII bytes. -/
theorem strings_IndexRune.high (s : ByteArray) (r : Nat) (w : World) (hs : ∀ b ∈ s.data.toList, b.toNat < 128) (h4 : 4 ≤ s.size) (h5 : s.size < 2147483648) (h1 : 128 ≤ r) (h2 : r ≤ 2147483647) (h3 : r ≠ 65533) :
    Calls Try.prog 46 #[.string s, .int .i32 r] w fun e w' => e = .returned (.int .i64 (-1)) ∧ Below w.heap.size w w' := by
  have d1 : decide ((r : Int) < 128) = false := decide_eq_false (by omega)
  have d2 : ((r : Int) == 65533) = false := by simp; omega
  have HV : ∀ w, Calls Try.prog 48 #[.int .i32 (r : Int)] w fun e w' => e = .returned (.bool (Utf8.valid r)) ∧ Drawn0 w w' := fun w => utf8_ValidRune.calls 1 (r : Int) _ w (by
    rw [validRune_eq]
    unfold utf8_ValidRune.f validRune
    rw [if_pos (by omega)]
    have hj : ∀ b, utf8_ValidRune.j0 1 (r : Int) b = if b = true then some true else (if 57343 < (r : Int) then (if (r : Int) ≤ 1114111 then some true else some false) else some false) := fun b => rfl
    rw [hj]
    by_cases ha : (r : Int) < 55296
    · rw [decide_eq_true ha, if_pos rfl, decide_eq_true (Or.inl ⟨by omega, ha⟩)]
    · rw [decide_eq_false ha, if_neg (by simp)]
      by_cases hb : (57343 : Int) < (r : Int)
      · rw [if_pos hb]
        by_cases hc : (r : Int) ≤ 1114111
        · rw [if_pos hc, decide_eq_true (Or.inr ⟨hb, hc⟩)]
        · rw [if_neg hc, decide_eq_false (by omega)]
      · rw [if_neg hb, decide_eq_false (by omega)])
  have HV' := Aside0.mk HV
  clear HV
  have HB := Aside0.mk (Below.refl w.heap.size w)
  cases hv : Utf8.valid (r : Int) with
  | false =>
    rw [hv] at HV'
    go_enter Try.func46, Try.ntmps46
    go_wp2_with (first | (go_at_call 48; refine (HV'.out _).mono ?_; rintro e w' ⟨rfl, ⟨nd, rfl⟩⟩))
    go_ret
    exact ⟨rfl, pw_below_drewN (Below.refl _ _) nd⟩
  | true =>
    rw [hv] at HV'
    obtain ⟨e2, e4, elast⟩ := encode_facts (r : Int) hv (by omega)
    obtain ⟨t, ht⟩ : ∃ t, t = Utf8.encode (r : Int) := ⟨_, rfl⟩
    have hcv : ∀ w : World, (convert 21 9 (.int .i32 (r : Int))).run Try.prog w = .ok (.string t) w := fun w => by rw [ht]; exact run_convert_int_string w 21 9 .i32 (r : Int) rfl rfl
    rw [← ht] at e2 e4 elast
    clear ht
    obtain ⟨n, hn⟩ : ∃ n, n = t.size - 1 := ⟨_, rfl⟩
    have hnt : n < t.size := by omega
    have hl : Aside0 (128 ≤ (t[n]'hnt).toNat) := ⟨by have := elast (by omega); simp only [← hn] at this; exact this⟩
    have hn1 : (t.size : Int) - 1 = (n : Int) := by omega
    have hns : n < s.size := by omega
    have hne : Aside0 ((s[n]'hns).toNat < 128) := ⟨hs _ (by
      have : s[n]'hns = s.data.toList[n]'(by simpa using hns) := by cases s; rfl
      rw [this]; exact List.getElem_mem _)⟩
    obtain ⟨m, hm⟩ : ∃ m, m = n + 1 := ⟨_, rfl⟩
    have hw : wrap64 ((n : Int) + 1) = (m : Int) := by rw [hm]; unfold wrap64; omega
    have k1 := eq_true (show m ≤ s.size from by omega)
    have k2 := eq_true (show (m : Int) ≤ (s.size : Int) from by omega)
    have HC : ∀ w : World, Calls Try.prog 47 #[.string (s.extract m s.size), .int .u8 ((t[n]'hnt).toNat : Int)] w fun e w' => e = .returned (.int .i64 (-1)) ∧ Drawn0 w w' := fun w => by
      have h := strings_IndexByte.goes (s.extract m s.size) ((t[n]'hnt).toNat : Int) w
      rw [show ((t[n]'hnt).toNat : Int).toNat.toUInt8 = t[n]'hnt from by simp, firstIdx_ascii s m s.size _ hs hl.out] at h
      exact h
    have HC' := Aside0.mk HC
    clear hn elast hm HC
    go_enter Try.func46, Try.ntmps46
    go_wp2_with (first | (go_at_call 48; refine (HV'.out _).mono ?_; rintro e w' ⟨rfl, ⟨nd, rfl⟩⟩))
    have HB' := Aside0.mk (pw_below_drewN HB.out nd)
    clear HB
    generalize w.drewN nd = w1 at HB' ⊢
    refine Arr.wp_scope_once 1 (fun _ _ => False) (fun _ _ => 0) rfl (fun _ => ?_) (fun _ _ h => h.elim)
    go_wp2
    go_loopw [9] (fun i wr => i = .int .i64 (n : Int) ∧ Aside0 (Below w.heap.size w wr)) (fun _ _ => 0)
    case atStart => exact ⟨rfl, HB'⟩
    case round =>
      clear HB'
      obtain ⟨rfl, HB⟩ := hrel
      have d3 : decide ((n : Int) < (s.size : Int)) = true := decide_eq_true (by omega)
      have d4 : decide (n < s.size) = true := decide_eq_true (by omega)
      go_wp2
      refine Arr.wp_scope_once 0 (fun _ _ => False) (fun _ _ => 0) rfl (fun _ => ?_) (fun _ _ h => h.elim)
      go_wp2
      have HB' := Aside0.mk (below_drew HB.out); clear HB; have HB := HB'; clear HB'
      refine start_ (n := 7) (S := fun w' => True) (ds := []) #[false, false, false, false, false, false, false] (by kernel_rfl) rfl rfl trivial (fun hHeld => ?_)
      generalize wr.drew = wd901 at HB hHeld ⊢
      refine pure_ (i := 0) (N := some 27) (v := ?_) (a' := ?_) #[true, false, false, false, false, false, false] rfl rfl (by kernel_rfl) (fun _ _ _ h => h) (Or.inl ⟨by rfl, ?_⟩) ?_ ?_
      rotate_left
      · intro w'
        go_simp
        with_reducible rfl
      rotate_left
      · simp only [Act.put, List.setIfInBounds_toArray, List.set_cons_zero, List.set_cons_succ, i64_w, i32_w]
        rfl
      refine pure_ (i := 1) (N := some 28) (v := ?_) (a' := ?_) #[true, true, false, false, false, false, false] rfl rfl (by kernel_rfl) (fun _ _ _ h => h) (Or.inl ⟨by rfl, ?_⟩) ?_ ?_
      rotate_left
      · intro w'
        go_simp
        with_reducible rfl
      rotate_left
      · simp only [Act.put, List.setIfInBounds_toArray, List.set_cons_zero, List.set_cons_succ, i64_w, i32_w]
        rfl
      refine pure_ (i := 3) (N := some 30) (v := ?_) (a' := ?_) #[true, true, false, true, false, false, false] rfl rfl (by kernel_rfl) (fun _ _ _ h => h) (Or.inl ⟨by rfl, ?_⟩) ?_ ?_
      rotate_left
      · intro w'
        go_simp
        with_reducible rfl
      rotate_left
      · simp only [Act.put, List.setIfInBounds_toArray, List.set_cons_zero, List.set_cons_succ, i64_w, i32_w]
        rfl
      refine pure_ (i := 4) (N := some 31) (v := ?_) (a' := ?_) #[true, true, false, true, true, false, false] rfl rfl (by kernel_rfl) (fun _ _ _ h => h) (Or.inl ⟨by rfl, ?_⟩) ?_ ?_
      rotate_left
      · intro w'
        go_simp
        with_reducible rfl
      rotate_left
      · simp only [Act.put, List.setIfInBounds_toArray, List.set_cons_zero, List.set_cons_succ, i64_w, i32_w]
        rfl
      refine take_ (i := 2) (N := some 29) (v := ?_) (a' := ?_) #[true, true, true, true, true, false, false] rfl rfl (by kernel_rfl) (fun _ _ _ h => h) (Or.inl ⟨by rfl, ?_⟩) hHeld ?_ ?_
      rotate_left
      · rintro w' _
        go_simp
        with_reducible rfl
      rotate_left
      · simp only [Act.put, List.setIfInBounds_toArray, List.set_cons_zero, List.set_cons_succ, i64_w, i32_w]
        rfl
      refine take_ (i := 5) (N := some 32) (v := ?_) (a' := ?_) #[true, true, true, true, true, true, false] rfl rfl (by kernel_rfl) (fun _ _ _ h => h) (Or.inl ⟨by rfl, ?_⟩) hHeld ?_ ?_
      rotate_left
      · rintro w' _
        go_simp
        with_reducible rfl
      rotate_left
      · simp only [Act.put, List.setIfInBounds_toArray, List.set_cons_zero, List.set_cons_succ, i64_w, i32_w]
        rfl
      refine pure_ (i := 6) (N := some 33) (v := ?_) (a' := ?_) #[true, true, true, true, true, true, true] rfl rfl (by kernel_rfl) (fun _ _ _ h => h) (Or.inl ⟨by rfl, ?_⟩) ?_ ?_
      rotate_left
      · intro w'
        go_simp
        with_reducible rfl
      rotate_left
      · simp only [Act.put, List.setIfInBounds_toArray, List.set_cons_zero, List.set_cons_succ, i64_w, i32_w]
        rfl
      refine done_ (by kernel_rfl) ?_
      have d5 : (((s[n]'hns).toNat : Int) != ((t[n]'hnt).toNat : Int)) = true := by have := hne.out; have := hl.out; simp; omega
      go_wp2
      have HB' := Aside0.mk (below_drew HB.out); clear HB; have HB := HB'; clear HB'
      refine start_ (n := 9) (S := fun w' => True) (ds := []) #[false, false, false, false, false, false, false, false, false] (by kernel_rfl) rfl rfl trivial (fun hHeld => ?_)
      generalize wd901.drew = wd911 at HB hHeld ⊢
      refine pure_ (i := 0) (N := some 34) (v := ?_) (a' := ?_) #[true, false, false, false, false, false, false, false, false] rfl rfl (by kernel_rfl) (fun _ _ _ h => h) (Or.inl ⟨by rfl, ?_⟩) ?_ ?_
      rotate_left
      · intro w'
        go_simp
        with_reducible rfl
      rotate_left
      · simp only [Act.put, List.setIfInBounds_toArray, List.set_cons_zero, List.set_cons_succ, i64_w, i32_w]
        rfl
      refine pure_ (i := 1) (N := some 35) (v := ?_) (a' := ?_) #[true, true, false, false, false, false, false, false, false] rfl rfl (by kernel_rfl) (fun _ _ _ h => h) (Or.inl ⟨by rfl, ?_⟩) ?_ ?_
      rotate_left
      · intro w'
        go_simp
        with_reducible rfl
      rotate_left
      · simp only [Act.put, List.setIfInBounds_toArray, List.set_cons_zero, List.set_cons_succ, i64_w, i32_w]
        rfl
      refine pure_ (i := 2) (N := some 36) (v := ?_) (a' := ?_) #[true, true, true, false, false, false, false, false, false] rfl rfl (by kernel_rfl) (fun _ _ _ h => h) (Or.inl ⟨by rfl, ?_⟩) ?_ ?_
      rotate_left
      · intro w'
        go_simp
        with_reducible rfl
      rotate_left
      · simp only [Act.put, List.setIfInBounds_toArray, List.set_cons_zero, List.set_cons_succ, i64_w, i32_w]
        rfl
      refine pure_ (i := 3) (N := some 37) (v := ?_) (a' := ?_) #[true, true, true, true, false, false, false, false, false] rfl rfl (by kernel_rfl) (fun _ _ _ h => h) (Or.inl ⟨by rfl, ?_⟩) ?_ ?_
      rotate_left
      · intro w'
        go_simp
        with_reducible rfl
      rotate_left
      · simp only [Act.put, List.setIfInBounds_toArray, List.set_cons_zero, List.set_cons_succ, i64_w, i32_w]
        rfl
      refine pure_ (i := 4) (N := some 38) (v := ?_) (a' := ?_) #[true, true, true, true, true, false, false, false, false] rfl rfl (by kernel_rfl) (fun _ _ _ h => h) (Or.inl ⟨by rfl, ?_⟩) ?_ ?_
      rotate_left
      · intro w'
        go_simp
        with_reducible rfl
      rotate_left
      · simp only [Act.put, List.setIfInBounds_toArray, List.set_cons_zero, List.set_cons_succ, i64_w, i32_w]
        rfl
      refine pure_ (i := 5) (N := some 39) (v := ?_) (a' := ?_) #[true, true, true, true, true, true, false, false, false] rfl rfl (by kernel_rfl) (fun _ _ _ h => h) (Or.inl ⟨by rfl, ?_⟩) ?_ ?_
      rotate_left
      · intro w'
        go_simp
        with_reducible rfl
      rotate_left
      · simp only [Act.put, List.setIfInBounds_toArray, List.set_cons_zero, List.set_cons_succ, i64_w, i32_w]
        rfl
      refine take_ (i := 6) (N := some 40) (v := ?_) (a' := ?_) #[true, true, true, true, true, true, true, false, false] rfl rfl (by kernel_rfl) (fun _ _ _ h => h) (Or.inl ⟨by rfl, ?_⟩) hHeld ?_ ?_
      rotate_left
      · rintro w' _
        go_simp
        with_reducible rfl
      rotate_left
      · simp only [Act.put, List.setIfInBounds_toArray, List.set_cons_zero, List.set_cons_succ, i64_w, i32_w]
        rfl
      refine one_ (i := 7) (N := some 41) #[true, true, true, true, true, true, true, true, false] rfl rfl (by kernel_rfl) (by decide) (fun K hK => ?_)
      refine goes_ Try.func47 (by kernel_rfl) rfl #[.string (s.extract m s.size), .int .u8 ((t[n]'hnt).toNat : Int)] (by rfl) rfl rfl (by simp only [List.map_toArray, List.map_cons, List.map_nil]; rfl) ?_
      refine (HC'.out _).mono ?_
      rintro e w91107 ⟨rfl, ⟨nd, rfl⟩⟩
      refine ⟨_, rfl, ?_⟩
      have HB' := Aside0.mk (pw_below_drewN HB.out nd); clear HB; have HB := HB'; clear HB'
      refine hK.out _ _ trivial (fun hHeld => ?_)
      clear hK K
      refine norm_ (a' := ?_) ?_ ?_
      rotate_left
      · show Act.put _ (some 41) _ = _
        simp only [Act.put, List.setIfInBounds_toArray, List.set_cons_zero, List.set_cons_succ, i64_w, i32_w]
        rfl
      refine pure_ (i := 8) (N := some 11) (v := ?_) (a' := ?_) #[true, true, true, true, true, true, true, true, true] rfl rfl (by kernel_rfl) (fun _ _ _ h => h) (Or.inl ⟨by rfl, ?_⟩) ?_ ?_
      rotate_left
      · intro w'
        go_simp
        with_reducible rfl
      rotate_left
      · simp only [Act.put, List.setIfInBounds_toArray, List.set_cons_zero, List.set_cons_succ, i64_w, i32_w]
        rfl
      refine done_ (by kernel_rfl) ?_
      go_wp2
      simp only [Exit.jump]
      (try go_wp2)
      (try simp only [Exit.jump])
      go_ret
      exact ⟨rfl, HB.out⟩

end Go.Proofs.Ytiaoehjldbnpkaa.PB
