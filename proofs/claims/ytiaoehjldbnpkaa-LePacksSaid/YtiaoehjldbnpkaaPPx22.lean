/- Functions of the program as Lean functions, and that the Go code comes to just their answers: no condition but that the function says so. (Written by a program of this workplace over the kit's print, with contracts by hand.) -/
import Derived.Test.YtiaoehjldbnpkaaPPx13
namespace Go.Proofs.Ytiaoehjldbnpkaa.PP
open Go.RowKit Go.Proofs.YtiaoehjldbnpkaaW.PrintWords Go.Proofs.YtiaoehjldbnpkaaW.PrintLast Go.Proofs.YtiaoehjldbnpkaaW.PrintMore
attribute [local go_sem] max2_int min2_int max_two min_two max_three min_three max_four min_four   -- for this text's walks alone
set_option linter.unusedVariables false
set_option linter.unusedSimpArgs false

/-! ### le_Pack: function 31 -/
def le_Pack.f (a0 : ByteArray) (l1 : List Int) : Option (List Int × Int) := if Pl.u64B l1 = true ∧ a0.size < 2147483648 then some (Pl.packS (Pl.fb a0) l1) else none
/-- A row of the call's own is kept when an iterator ahead of it moves on. -/
theorem R_iter {α : Type} {d : Kd α} {e base : Nat} {ok : Nat → Prop} {v : Value} {xs : List α} {w : World} {B : Nat} (h : d.R e w base ok v xs) (hB : B < base) (s : ByteArray) (p : Nat) : d.R e (w.iterAt B s p) base ok v xs :=
  Kd.R_mono (Kd.R_move (Kd.R_bound h) (fun k hk => Lib.iterAt_other w B k s p (by have := hk.2.1; omega))) (fun _ hk => hk.1)
theorem rune_size (s : ByteArray) (i : Nat) (h : i < s.size) : Pl.letS ((Utf8.decode s i).1 : Int) = Pl.letS ((Pl.fb s)[i]'(by rw [Pl.fb_length]; exact h)) ∧ (Pl.letS ((Pl.fb s)[i]'(by rw [Pl.fb_length]; exact h)) ≠ 0 → (Utf8.decode s i).2 = 1) := by
  have e : (Pl.fb s)[i]'(by rw [Pl.fb_length]; exact h) = (((s[i]'h).toNat : Nat) : Int) := by
    simp only [Pl.fb, List.getElem_map]
    rfl
  rw [e]
  by_cases ha : (s[i]'h).toNat < 128
  · rw [decode_ascii s i h ha]
    exact ⟨rfl, fun _ => rfl⟩
  · have hd := decode_high s i h (by omega)
    have z : ∀ c : Nat, 128 ≤ c → Pl.letS (c : Int) = 0 := fun c hc => by
      unfold Pl.letS
      rw [if_neg (by omega), if_neg (by omega), if_neg (by omega), if_neg (by omega)]
    rw [z _ hd.1, z _ (by omega)]
    exact ⟨rfl, fun h => absurd rfl h⟩
set_option maxHeartbeats 8000000 in
set_option maxRecDepth 2000000 in
theorem le_Pack.calls (a0 : ByteArray) (A1 : Option Addr) (c1 : Nat) (l1 : List Int) (r1 : List Int) (r2 : Int) (w : World) (hr1 : Kd.C (Kd.int .u64) w A1 l1.length l1) (hc1 : l1.length ≤ c1) (h : le_Pack.f a0 l1 = some (r1, r2)) :
    Calls Try.prog 31 #[.string a0, .slice A1 l1.length c1] w fun e w' => ∃ v0_ : Value, e = .returned (.tuple #[v0_, .int .i64 r2]) ∧ Kd.R (Kd.int .u8) 5 w' w.heap.size (fun _ => True) v0_ r1 ∧ Below w.heap.size w w' := by
  unfold le_Pack.f at h
  split at h
  case isFalse => cases h
  rename_i hh
  obtain ⟨hu, hsz⟩ := hh
  have HP0 := Aside0.mk (Option.some.inj h)
  have HU := Aside0.mk hu
  have HR1 := Aside0.mk hr1
  have HC1 := Aside0.mk hc1
  clear h hu hr1 hc1
  obtain ⟨B, hB⟩ : ∃ B, B = w.heap.size := ⟨_, rfl⟩
  have HBN := Aside0.mk hB
  clear hB
  have hk0 : Aside0 ((w.iter a0 0).heap[B]? = some (.stringIter a0 0)) := ⟨by rw [HBN.out]; exact World.iter_heap w a0 0⟩
  have hb0 : Aside0 (Below w.heap.size w (w.iter a0 0)) := ⟨(Below.refl _ w).alloc (Nat.le_refl _) _⟩
  have hs0 : Aside0 (B + 1 ≤ (w.iter a0 0).heap.size) := ⟨by rw [HBN.out]; simp [World.iter]⟩
  go_enter Try.func31, Try.ntmps31
  go_wp2
  rw [← HBN.out]
  generalize w.iter a0 0 = w0 at hk0 hb0 hs0 ⊢
  go_loopw [4, 6] (fun v at_ wr => ∃ (i : Nat) (out : List Int), i ≤ a0.size ∧ i ≤ l1.length ∧ at_ = .int .i64 i ∧ Aside0 (out.length ≤ 8 * i) ∧ Aside0 (wr.heap[B]? = some (.stringIter a0 i)) ∧ Aside0 (Kd.R (Kd.int .u8) 5 wr (B + 1) (fun _ => True) v out) ∧ Aside0 (Pl.packGo out ((Pl.fb a0).drop i) (l1.drop i) = (r1, r2)) ∧ Aside0 (B + 1 ≤ wr.heap.size) ∧ Aside0 (Below w.heap.size w wr)) (fun _ at_ _ => a0.size - (intOf at_).toNat)
  case atStart => exact ⟨0, [], by omega, by omega, rfl, ⟨by simp⟩, hk0, ⟨Kd.R_nil _ _ _ _ _⟩, HP0, hs0, hb0⟩
  case round =>
    clear hk0 hb0 hs0 HP0
    obtain ⟨i, out, hi, hil, rfl, HOL, hk, HO, HP, HS, HB⟩ := hrel
    by_cases hp : i < a0.size
    · obtain ⟨rs, rn⟩ := rune_size a0 i hp
      have hif : i < (Pl.fb a0).length := by rw [Pl.fb_length]; exact hp
      have hle := decode_le a0 i
      obtain ⟨z, hz⟩ : ∃ z, z = Pl.letS ((Pl.fb a0)[i]'hif) := ⟨_, rfl⟩
      rw [← hz] at rs rn
      have hnext : ∀ ty, (Instr.next (.pointer (some ⟨B, 0, none⟩)) true ty).run Try.prog wr = _ := fun ty => Lib.run_next_any_at wr B a0 i ty hk.out hp
      obtain ⟨q, hq⟩ : ∃ q, q = i + (Utf8.decode a0 i).2 := ⟨_, rfl⟩
      rw [← hq] at hnext
      have HRN : Aside0 (z ≠ 0 → q = i + 1) := ⟨fun h => by rw [hq, rn h]⟩
      obtain ⟨c, hc⟩ : ∃ c, c = (Utf8.decode a0 i).1 := ⟨_, rfl⟩
      rw [← hc] at hnext rs hle
      have HRS : Aside0 (le_size.f (c : Int) = some z) := ⟨by unfold le_size.f; rw [if_pos ⟨by omega, by omega⟩, rs]⟩
      clear hq hc rs rn hle
      have hk1 := Aside0.mk (Lib.iterAt_heap wr B a0 i q hk.out)
      have hn1 := Aside0.mk (Lib.below_iterAt (k := B) HB.out (by rw [HBN.out]; exact Nat.le_refl _) a0 q)
      have HO1 := Aside0.mk (R_iter HO.out (Nat.lt_succ_self B) a0 q)
      have hs1 : Aside0 (B + 1 ≤ (wr.iterAt B a0 q).heap.size) := ⟨by rw [Lib.iterAt_size]; exact HS.out⟩
      clear hk HO HS HB
      generalize wr.iterAt B a0 q = W1 at hnext hk1 hn1 HO1 hs1
      by_cases hl : i < l1.length
      · have d0 : ((i : Int) == (l1.length : Int)) = false := by simp; omega
        have d1 : (i == l1.length) = false := by simp; omega
        have hrd : rd l1 (i : Int) = l1[i]'hl := by unfold rd; rw [Int.toNat_natCast, List.getD_eq_getElem?_getD, List.getElem?_eq_getElem hl, Option.getD_some]
        have hnb := Pl.u64B_iff.1 HU.out _ (List.getElem_mem hl)
        obtain ⟨x, hx⟩ : ∃ x, x = l1[i]'hl := ⟨_, rfl⟩
        rw [← hx] at hrd hnb
        have HX := Aside0.mk hx
        clear hx
        have HRX := Aside0.mk (Kd.C_below HR1.out hn1.out)
        obtain ⟨ad, rfl, -⟩ := Kd.at_int HRX.out (i : Int) (by omega) (by omega)
        have hcell : ∀ W : World, Kd.C (Kd.int .u64) W (some ad) l1.length l1 → W.cell? (ad.add i) = some (.int .u64 x) := fun W h => by
          obtain ⟨ad', e, hx'⟩ := Kd.at_int h (i : Int) (by omega) (by omega)
          cases e
          rw [hrd, Int.toNat_natCast] at hx'
          exact hx'
        obtain ⟨Ao, co, rfl, hco, hro⟩ := Kd.R_reads HO1.out
        have HCo := Aside0.mk hco
        have HRo := Aside0.mk hro
        have HRn := HRX
        have HB := Aside0.mk (Below.refl W1.heap.size W1)
        have HL := Aside0.mk hcell
        have k0 := eq_true hl
        have HPut : Aside0 (le_Put.f out x z = some (Pl.putS out x z)) := ⟨by unfold le_Put.f; rw [if_pos ⟨hnb.1, hnb.2, by have := HOL.out; omega⟩]⟩
        clear hro hco HRX hcell hrd
        obtain ⟨p, E, HPE⟩ : ∃ p E, Aside0 (Pl.putS out x z = (p, E)) := ⟨_, _, ⟨rfl⟩⟩
        rw [HPE.out] at HPut
        go_wp2
        have HB' := Aside0.mk (below_drew HB.out); clear HB; have HB := HB'; clear HB'
        have HRn' := Aside0.mk (Kd.C_drew HRn.out); clear HRn; have HRn := HRn'; clear HRn'
        have HRo' := Aside0.mk (Kd.C_drew HRo.out); clear HRo; have HRo := HRo'; clear HRo'
        refine start_ (n := 13) (S := fun w' => w'.cell? (ad.add i) = some (.int .u64 x)) (ds := []) #[false, false, false, false, false, false, false, false, false, false, false, false, false] (by kernel_rfl) rfl rfl ((HL.out _ HRn.out)) (fun hHeld => ?_)
        generalize W1.drew = wd951 at HB HRn HRo hHeld ⊢
        refine pure_ (i := 0) (N := some 19) (v := ?_) (a' := ?_) #[true, false, false, false, false, false, false, false, false, false, false, false, false] rfl rfl (by kernel_rfl) (fun _ _ _ h => h) (Or.inl ⟨by rfl, ?_⟩) ?_ ?_
        rotate_left
        · intro w'
          go_simp
          with_reducible rfl
        rotate_left
        · simp only [Act.put, List.setIfInBounds_toArray, List.set_cons_zero, List.set_cons_succ, i64_w, i32_w]
          rfl
        refine pure_ (i := 1) (N := some 20) (v := ?_) (a' := ?_) #[true, true, false, false, false, false, false, false, false, false, false, false, false] rfl rfl (by kernel_rfl) (fun _ _ _ h => h) (Or.inl ⟨by rfl, ?_⟩) ?_ ?_
        rotate_left
        · intro w'
          go_simp
          with_reducible rfl
        rotate_left
        · simp only [Act.put, List.setIfInBounds_toArray, List.set_cons_zero, List.set_cons_succ, i64_w, i32_w]
          rfl
        refine pure_ (i := 2) (N := some 21) (v := ?_) (a' := ?_) #[true, true, true, false, false, false, false, false, false, false, false, false, false] rfl rfl (by kernel_rfl) (fun _ _ _ h => h) (Or.inl ⟨by rfl, ?_⟩) ?_ ?_
        rotate_left
        · intro w'
          go_simp
          with_reducible rfl
        rotate_left
        · simp only [Act.put, List.setIfInBounds_toArray, List.set_cons_zero, List.set_cons_succ, i64_w, i32_w]
          rfl
        refine pure_ (i := 3) (N := some 22) (v := ?_) (a' := ?_) #[true, true, true, true, false, false, false, false, false, false, false, false, false] rfl rfl (by kernel_rfl) (fun _ _ _ h => h) (Or.inl ⟨by rfl, ?_⟩) ?_ ?_
        rotate_left
        · intro w'
          go_simp
          with_reducible rfl
        rotate_left
        · simp only [Act.put, List.setIfInBounds_toArray, List.set_cons_zero, List.set_cons_succ, i64_w, i32_w]
          rfl
        refine pure_ (i := 5) (N := some 24) (v := ?_) (a' := ?_) #[true, true, true, true, false, true, false, false, false, false, false, false, false] rfl rfl (by kernel_rfl) (fun _ _ _ h => h) (Or.inl ⟨by rfl, ?_⟩) ?_ ?_
        rotate_left
        · intro w'
          go_simp
          with_reducible rfl
        rotate_left
        · simp only [Act.put, List.setIfInBounds_toArray, List.set_cons_zero, List.set_cons_succ, i64_w, i32_w]
          rfl
        refine take_ (i := 4) (N := some 23) (v := ?_) (a' := ?_) #[true, true, true, true, true, true, false, false, false, false, false, false, false] rfl rfl (by kernel_rfl) (fun _ _ _ h => h) (Or.inl ⟨by rfl, ?_⟩) hHeld ?_ ?_
        rotate_left
        · rintro w' s0
          go_simp
          with_reducible rfl
        rotate_left
        · simp only [Act.put, List.setIfInBounds_toArray, List.set_cons_zero, List.set_cons_succ, i64_w, i32_w]
          rfl
        refine one_ (i := 6) (N := some 25) #[true, true, true, true, true, true, true, false, false, false, false, false, false] rfl rfl (by kernel_rfl) (by decide) (fun K hK => ?_)
        refine goes_ Try.func44 (by kernel_rfl) rfl #[.int .i32 (c : Int)] (by rfl) rfl rfl (by simp only [List.map_toArray, List.map_cons, List.map_nil]; rfl) ?_
        refine (le_size.calls _ _ _ HRS.out).mono ?_
        rintro e w95106 ⟨rfl, hb⟩
        refine ⟨_, rfl, ?_⟩
        have HB' := Aside0.mk (below_step HB.out hb); clear HB; have HB := HB'; clear HB'
        have HRn' := Aside0.mk (Kd.C_below HRn.out hb); clear HRn; have HRn := HRn'; clear HRn'
        have HRo' := Aside0.mk (Kd.C_below HRo.out hb); clear HRo; have HRo := HRo'; clear HRo'
        clear hb
        refine hK.out _ _ ((HL.out _ HRn.out)) (fun hHeld => ?_)
        clear hK K
        refine norm_ (a' := ?_) ?_ ?_
        rotate_left
        · show Act.put _ (some 25) _ = _
          simp only [Act.put, List.setIfInBounds_toArray, List.set_cons_zero, List.set_cons_succ, i64_w, i32_w]
          rfl
        refine one_ (i := 7) (N := some 26) #[true, true, true, true, true, true, true, true, false, false, false, false, false] rfl rfl (by kernel_rfl) (by decide) (fun K hK => ?_)
        refine goes_ Try.func27 (by kernel_rfl) rfl #[.slice Ao out.length co, .int .u64 x, .int .i64 z] (by rfl) rfl rfl (by simp only [List.map_toArray, List.map_cons, List.map_nil]; rfl) ?_
        refine (le_Put.calls Ao co out x z _ _ _ HRo.out HCo.out HPut.out).mono ?_
        rintro e w95107 ⟨vp, rfl, hop, hb⟩
        refine ⟨_, rfl, ?_⟩
        have HZp := Aside0.mk HB.out.size
        have HB' := Aside0.mk (below_step HB.out hb); clear HB; have HB := HB'; clear HB'
        have HRn' := Aside0.mk (Kd.C_below HRn.out hb); clear HRn; have HRn := HRn'; clear HRn'
        have HRo' := Aside0.mk (Kd.C_below HRo.out hb); clear HRo; have HRo := HRo'; clear HRo'
        clear hb
        have HOp := Aside0.mk hop
        obtain ⟨Ap, cp, rfl, hcp, hrp⟩ := Kd.R_reads hop
        have HRp := Aside0.mk hrp
        have HCp := Aside0.mk hcp
        clear hrp hcp hop
        refine hK.out _ _ ((HL.out _ HRn.out)) (fun hHeld => ?_)
        clear hK K
        refine norm_ (a' := ?_) ?_ ?_
        rotate_left
        · show Act.put _ (some 26) _ = _
          simp only [Act.put, List.setIfInBounds_toArray, List.set_cons_zero, List.set_cons_succ, i64_w, i32_w]
          rfl
        refine pure_ (i := 8) (N := some 18) (v := ?_) (a' := ?_) #[true, true, true, true, true, true, true, true, true, false, false, false, false] rfl rfl (by kernel_rfl) (fun _ _ _ h => h) (Or.inl ⟨by rfl, ?_⟩) ?_ ?_
        rotate_left
        · intro w'
          go_simp
          with_reducible rfl
        rotate_left
        · simp only [Act.put, List.setIfInBounds_toArray, List.set_cons_zero, List.set_cons_succ, i64_w, i32_w]
          rfl
        refine pure_ (i := 9) (N := some 27) (v := ?_) (a' := ?_) #[true, true, true, true, true, true, true, true, true, true, false, false, false] rfl rfl (by kernel_rfl) (fun _ _ _ h => h) (Or.inl ⟨by rfl, ?_⟩) ?_ ?_
        rotate_left
        · intro w'
          go_simp
          with_reducible rfl
        rotate_left
        · simp only [Act.put, List.setIfInBounds_toArray, List.set_cons_zero, List.set_cons_succ, i64_w, i32_w]
          rfl
        refine pure_ (i := 10) (N := some 28) (v := ?_) (a' := ?_) #[true, true, true, true, true, true, true, true, true, true, true, false, false] rfl rfl (by kernel_rfl) (fun _ _ _ h => h) (Or.inl ⟨by rfl, ?_⟩) ?_ ?_
        rotate_left
        · intro w'
          go_simp
          with_reducible rfl
        rotate_left
        · simp only [Act.put, List.setIfInBounds_toArray, List.set_cons_zero, List.set_cons_succ, i64_w, i32_w]
          rfl
        refine pure_ (i := 11) (N := some 4) (v := ?_) (a' := ?_) #[true, true, true, true, true, true, true, true, true, true, true, true, false] rfl rfl (by kernel_rfl) (fun _ _ _ h => h) (Or.inl ⟨by rfl, ?_⟩) ?_ ?_
        rotate_left
        · intro w'
          go_simp
          with_reducible rfl
        rotate_left
        · simp only [Act.put, List.setIfInBounds_toArray, List.set_cons_zero, List.set_cons_succ, i64_w, i32_w]
          rfl
        refine pure_ (i := 12) (N := some 5) (v := ?_) (a' := ?_) #[true, true, true, true, true, true, true, true, true, true, true, true, true] rfl rfl (by kernel_rfl) (fun _ _ _ h => h) (Or.inl ⟨by rfl, ?_⟩) ?_ ?_
        rotate_left
        · intro w'
          go_simp
          with_reducible rfl
        rotate_left
        · simp only [Act.put, List.setIfInBounds_toArray, List.set_cons_zero, List.set_cons_succ, i64_w, i32_w]
          rfl
        refine done_ (by kernel_rfl) ?_
        have HBz := Aside0.mk (below_then hn1.out hn1.out.size HB.out)
        by_cases hf : Pl.fits x z = true
        · have e := HPE.out
          unfold Pl.putS at e
          rw [if_pos hf] at e
          injection e with e1 e2
          have HE1 := Aside0.mk e1
          subst e2
          clear e1
          go_wp2
          go_roundw
          case rel =>
            have h8 : z ≤ 8 ∧ 0 ≤ z ∧ z ≠ 0 := by
              unfold Pl.fits at hf
              rw [Bool.and_eq_true, Pl.okS_iff] at hf
              omega
            refine ⟨i + 1, p, by omega, by omega, by go_num, ⟨?_⟩, ⟨?_⟩, ⟨Kd.R_lower HOp.out (Nat.le_trans hs1.out ?_)⟩, ⟨?_⟩, ⟨?_⟩, HBz⟩
            · rw [← HE1.out, List.length_append, Pl.leB_length]; have := HOL.out; omega
            · rw [HB.out.block B (by have := hs1.out; omega), hk1.out, HRN.out h8.2.2]
            · exact HZp.out
            · have e := HP.out
              rw [List.drop_eq_getElem_cons hif, List.drop_eq_getElem_cons hl, Pl.packGo, ← hz, ← HX.out, if_pos hf, HE1.out] at e
              exact e
            · exact Nat.le_trans hs1.out HB.out.size
          case measure => simp [intOf]; omega
        · have e := HPE.out
          unfold Pl.putS at e
          rw [if_neg hf] at e
          injection e with e1 e2
          subst e2
          clear e1
          go_wp2
          go_ret2
          have e := HP.out
          rw [List.drop_eq_getElem_cons hif, List.drop_eq_getElem_cons hl, Pl.packGo, ← hz, ← HX.out, if_neg hf] at e
          injection e with e1 e2
          subst e1 e2
          exact ⟨_, rfl, Kd.R_nil _ _ _ _ _, HBz.out⟩
      · have d0 : ((i : Int) == (l1.length : Int)) = true := by simp; omega
        have d1 : (i == l1.length) = true := by simp; omega
        go_wp2
        go_ret2
        have e := HP.out
        rw [Pl.packGo_ne _ _ _ (by rw [List.length_drop, List.length_drop, Pl.fb_length]; omega)] at e
        injection e with e1 e2
        subst e1 e2
        exact ⟨_, rfl, Kd.R_nil _ _ _ _ _, hn1.out⟩
    · have hnext : ∀ ty, (Instr.next (.pointer (some ⟨B, 0, none⟩)) true ty).run Try.prog wr = _ := fun ty => Lib.run_next_end_at wr B a0 i ty hk.out hp
      by_cases hl : i < l1.length
      · have d0 : decide ((i : Int) < (l1.length : Int)) = true := decide_eq_true (by omega)
        have d1 : decide (i < l1.length) = true := decide_eq_true hl
        go_wp2
        go_ret2
        have e := HP.out
        rw [Pl.packGo_ne _ _ _ (by rw [List.length_drop, List.length_drop, Pl.fb_length]; omega)] at e
        injection e with e1 e2
        subst e1 e2
        exact ⟨_, rfl, Kd.R_nil _ _ _ _ _, HB.out⟩
      · have d0 : decide ((i : Int) < (l1.length : Int)) = false := decide_eq_false (by omega)
        have d1 : decide (i < l1.length) = false := decide_eq_false hl
        go_wp2
        go_ret2
        have e := HP.out
        rw [List.drop_eq_nil_of_le (by rw [Pl.fb_length]; omega), List.drop_eq_nil_of_le (by omega), Pl.packGo] at e
        injection e with e1 e2
        subst e1 e2
        exact ⟨_, rfl, Kd.R_lower HO.out (by rw [HBN.out]; omega), HB.out⟩

end Go.Proofs.Ytiaoehjldbnpkaa.PP

namespace Go.Proofs.Ytiaoehjldbnpkaa.PP
open Go.RowKit Go.Proofs.YtiaoehjldbnpkaaW.PrintWords Go.Proofs.YtiaoehjldbnpkaaW.PrintLast Go.Proofs.YtiaoehjldbnpkaaW.PrintMore
attribute [local go_sem] max2_int min2_int max_two min_two max_three min_three max_four min_four   -- for this text's walks alone
set_option linter.unusedVariables false
set_option linter.unusedSimpArgs false

/-! ### le_Unpack: function 33 -/
def le_Unpack.f (a0 : ByteArray) (l1 : List Int) : Option (List Int × Int) := if Pl.byteB l1 = true ∧ l1.length < 70368744177664 ∧ a0.size < 2147483648 then some (Pl.unpackS (Pl.fb a0) l1) else none
theorem le_Unpack.R_iter {α : Type} {d : Kd α} {e base : Nat} {ok : Nat → Prop} {v : Value} {xs : List α} {w : World} {B : Nat} (h : d.R e w base ok v xs) (hB : B < base) (s : ByteArray) (p : Nat) : d.R e (w.iterAt B s p) base ok v xs :=
  Kd.R_mono (Kd.R_move (Kd.R_bound h) (fun k hk => Lib.iterAt_other w B k s p (by have := hk.2.1; omega))) (fun _ hk => hk.1)
theorem le_Unpack.drop {b : List Int} (h : Pl.byteB b = true) (n : Nat) : Pl.byteB (b.drop n) = true := by
  rw [Pl.byteB_iff] at h ⊢
  exact fun x hx => h x (List.mem_of_mem_drop hx)
theorem le_Unpack.rune (s : ByteArray) (i : Nat) (h : i < s.size) : Pl.letS ((Utf8.decode s i).1 : Int) = Pl.letS ((Pl.fb s)[i]'(by rw [Pl.fb_length]; exact h)) ∧ (Pl.letS ((Pl.fb s)[i]'(by rw [Pl.fb_length]; exact h)) ≠ 0 → (Utf8.decode s i).2 = 1) := by
  have e : (Pl.fb s)[i]'(by rw [Pl.fb_length]; exact h) = (((s[i]'h).toNat : Nat) : Int) := by
    simp only [Pl.fb, List.getElem_map]
    rfl
  rw [e]
  by_cases ha : (s[i]'h).toNat < 128
  · rw [decode_ascii s i h ha]
    exact ⟨rfl, fun _ => rfl⟩
  · have hd := decode_high s i h (by omega)
    have z : ∀ c : Nat, 128 ≤ c → Pl.letS (c : Int) = 0 := fun c hc => by
      unfold Pl.letS
      rw [if_neg (by omega), if_neg (by omega), if_neg (by omega), if_neg (by omega)]
    rw [z _ hd.1, z _ (by omega)]
    exact ⟨rfl, fun h => absurd rfl h⟩
set_option maxHeartbeats 8000000 in
set_option maxRecDepth 2000000 in
theorem le_Unpack.callsV (a0 : ByteArray) (P1_ : Nat → Prop) (A1 : Option Addr) (c1 : Nat) (l1 : List Int) (r1 : List Int) (r2 : Int) (w : World) (hs1 : Kd.V (Kd.int .u8) 5 w w.heap.size (fun k_ => P1_ k_) (.slice A1 l1.length c1) l1) (h : le_Unpack.f a0 l1 = some (r1, r2)) :
    Calls Try.prog 33 #[.string a0, .slice A1 l1.length c1] w fun e w' => ∃ v0_ : Value, e = .returned (.tuple #[v0_, .int .i64 r2]) ∧ Kd.R (Kd.int .u64) 39 w' w.heap.size (fun k_ => (w.heap.size ≤ k_)) v0_ r1 ∧ Below w.heap.size w w' := by
  unfold le_Unpack.f at h
  split at h
  case isFalse => cases h
  rename_i hh
  obtain ⟨hb, hbl, hsz⟩ := hh
  have HP0 := Aside0.mk (Option.some.inj h)
  have HBY := Aside0.mk hb
  have HBL := Aside0.mk hbl
  clear h hb hbl
  obtain ⟨B, hB⟩ : ∃ B, B = w.heap.size := ⟨_, rfl⟩
  have HBN := Aside0.mk hB
  clear hB
  have HV0 : Aside0 (Kd.V (Kd.int .u8) 5 (w.iter a0 0) 0 (fun k => k ≠ B) (.slice A1 l1.length c1) l1) := ⟨Kd.V_mono (Kd.V_alloc (Kd.V_bound (Kd.V_lower (base' := 0) hs1 (Nat.zero_le _))) _) (fun k hk => by have := hk.2; rw [HBN.out]; omega)⟩
  have hk0 : Aside0 ((w.iter a0 0).heap[B]? = some (.stringIter a0 0)) := ⟨by rw [HBN.out]; exact World.iter_heap w a0 0⟩
  have hb0 : Aside0 (Below w.heap.size w (w.iter a0 0)) := ⟨(Below.refl _ w).alloc (Nat.le_refl _) _⟩
  have hs0 : Aside0 (B + 1 ≤ (w.iter a0 0).heap.size) := ⟨by rw [HBN.out]; simp [World.iter]⟩
  clear hs1
  go_enter Try.func33, Try.ntmps33
  go_wp2
  rw [← HBN.out]
  generalize w.iter a0 0 = w0 at hk0 hb0 hs0 HV0 ⊢
  go_loopw [1, 4] (fun v u wr => ∃ (i : Nat) (out b : List Int), i ≤ a0.size ∧ Aside0 (out.length ≤ i) ∧ Aside0 (Pl.byteB b = true) ∧ Aside0 (b.length < 70368744177664) ∧ Aside0 (wr.heap[B]? = some (.stringIter a0 i)) ∧ Aside0 (Kd.V (Kd.int .u8) 5 wr 0 (fun k => k ≠ B) v b) ∧ Aside0 (Kd.R (Kd.int .u64) 39 wr (B + 1) (fun k => B + 1 ≤ k) u out) ∧ Aside0 (Pl.unpackGo out ((Pl.fb a0).drop i) b = (r1, r2)) ∧ Aside0 (B + 1 ≤ wr.heap.size) ∧ Aside0 (Below w.heap.size w wr)) (fun _ _ wr => a0.size - wr.iterPos B)
  case atStart => exact ⟨0, [], l1, by omega, ⟨Nat.le_refl _⟩, HBY, HBL, hk0, HV0, ⟨Kd.R_nil _ _ _ _ _⟩, HP0, hs0, hb0⟩
  case round =>
    clear hk0 hb0 hs0 HP0 HV0 HBY HBL
    obtain ⟨i, out, b, hi, HOL, HBY, HBL, hk, HV, HO, HP, HS, HB⟩ := hrel
    obtain ⟨Ab, cb, rfl⟩ := Kd.V_slice HV.out
    by_cases hp : i < a0.size
    · obtain ⟨rs, rn⟩ := le_Unpack.rune a0 i hp
      have hif : i < (Pl.fb a0).length := by rw [Pl.fb_length]; exact hp
      have hle := decode_le a0 i
      obtain ⟨z, hz⟩ : ∃ z, z = Pl.letS ((Pl.fb a0)[i]'hif) := ⟨_, rfl⟩
      rw [← hz] at rs rn
      have HZ := Aside0.mk hz
      have hnext : ∀ ty, (Instr.next (.pointer (some ⟨B, 0, none⟩)) true ty).run Try.prog wr = _ := fun ty => Lib.run_next_any_at wr B a0 i ty hk.out hp
      obtain ⟨q, hq⟩ : ∃ q, q = i + (Utf8.decode a0 i).2 := ⟨_, rfl⟩
      rw [← hq] at hnext
      have HRN : Aside0 (z ≠ 0 → q = i + 1) := ⟨fun h => by rw [hq, rn h]⟩
      obtain ⟨c, hc⟩ : ∃ c, c = (Utf8.decode a0 i).1 := ⟨_, rfl⟩
      rw [← hc] at hnext rs hle
      have HRS : Aside0 (le_size.f (c : Int) = some z) := ⟨by unfold le_size.f; rw [if_pos ⟨by omega, by omega⟩, rs]⟩
      have hmu : Aside0 (wr.iterPos B = i) := ⟨by simp [World.iterPos, hk.out]⟩
      clear hq hc rs rn hle hz
      have hk1 := Aside0.mk (Lib.iterAt_heap wr B a0 i q hk.out)
      have hn1 := Aside0.mk (Lib.below_iterAt (k := B) HB.out (by rw [HBN.out]; exact Nat.le_refl _) a0 q)
      have HO1 := Aside0.mk (le_Unpack.R_iter HO.out (Nat.lt_succ_self B) a0 q)
      have HV1 := Aside0.mk (Kd.V_step (w1 := wr.iterAt B a0 q) HV.out (fun k hk _ => Lib.iterAt_other wr B k a0 q hk))
      have hs1 : Aside0 (B + 1 ≤ (wr.iterAt B a0 q).heap.size) := ⟨by rw [Lib.iterAt_size]; exact HS.out⟩
      clear hk HO HS HB HV
      generalize wr.iterAt B a0 q = W1 at hnext hk1 hn1 HO1 HV1 hs1
      obtain ⟨x, rest, E, HTK⟩ : ∃ x rest E, Aside0 (Pl.takeS b z = (x, rest, E)) := ⟨_, _, _, ⟨rfl⟩⟩
      have HTake : Aside0 (le_Take.f b z = some (x, rest, E)) := ⟨by unfold le_Take.f; rw [if_pos ⟨HBY.out, HBL.out⟩, HTK.out]⟩
      by_cases hf : Pl.okS z = true ∧ z ≤ b.length
      · have e := HTK.out
        unfold Pl.takeS at e
        rw [if_pos hf] at e
        injection e with e1 e2
        injection e2 with e2 e3
        have HX := Aside0.mk e1
        have HRE := Aside0.mk e2
        subst e3
        clear e1 e2
        have LM := Aside0.mk (show out.length < 17592186044416 from by have := HOL.out; omega)
        go_wp2_with (first | (go_at_call 44; refine (le_size.calls _ _ _ HRS.out).mono ?_; rintro e w2 ⟨rfl, hb2⟩; have HV2 := Aside0.mk (Kd.V_below HV1.out hb2); have HO2 := Aside0.mk (Kd.R_below HO1.out hb2); have hn2 := Aside0.mk (below_step hn1.out hb2); have hs2 := Aside0.mk (Nat.le_trans hs1.out hb2.size); have hk2 := Aside0.mk ((hb2.block B (by have := hs1.out; omega)).trans hk1.out); clear hb2) | (go_at_call 29; refine (le_Take.calls _ _ b z x rest 0 _ (Kd.V_reads' HV2.out).2.2 (Kd.V_reads' HV2.out).2.1 HTake.out).mono ?_; rintro e w3 ⟨vr, rfl, ho, hb3⟩; have HR3 := Aside0.mk (Kd.R_lower ho hs2.out); have HO3 := Aside0.mk (Kd.R_below HO2.out hb3); have hn3 := Aside0.mk (below_step hn2.out hb3); have hs3 := Aside0.mk (Nat.le_trans hs2.out hb3.size); have hk3 := Aside0.mk ((hb3.block B (by have := hs2.out; omega)).trans hk2.out); clear hb3 ho) | ((with_reducible refine gate_builtin (b := .append) (xs := #[.tmp 25, .tmp 27]) rfl ?_); at_builtin; refine Kd.R_append (Kd.int .u64) (w0 := w3) (B + 1) rfl (.tmp 25) (.tmp 27) 44 39 (.int .u64 0) 8 rfl Try.underlying44 info39 rfl (by decide) (by omega) u4 out x [.int .u64 x] (fun k_ => B + 1 ≤ k_) (fun _ => False) rfl rfl ?aP (fun _ hk => hk.elim) ?aF ?aO ?aB ?aS ?aL ?_; (case aP => exact rfl); (case aB => exact Below.refl _ _); (case aF => exact (fun k_ hk => Nat.le_trans hs3.out hk)); (case aO => exact HO3.out); (case aS => exact hs3.out); (case aL => have := LM.out; omega); intro v9 w4 ho hb4 hg hat; have HO4 := Aside0.mk ho; have HR4 := Aside0.mk (Kd.R_over' HR3.out (Kd.R_typed HO3.out) (by decide) hg); have hb4' := Aside0.mk hb4; clear ho hb4 hg hat))
        have h8 : z ≤ 8 ∧ 0 ≤ z ∧ z ≠ 0 := by have := hf.1; rw [Pl.okS_iff] at this; omega
        have hk4 : Aside0 (w4.heap[B]? = some (.stringIter a0 (i + 1))) := ⟨by rw [hb4'.out.block B (Nat.lt_succ_self B), hk3.out, HRN.out h8.2.2]⟩
        have hm4 : Aside0 (w4.iterPos B = i + 1) := ⟨by simp [World.iterPos, hk4.out]⟩
        go_roundw
        case rel =>
          refine ⟨i + 1, out ++ [x], rest, by omega, ⟨?_⟩, ⟨?_⟩, ⟨?_⟩, ⟨?_⟩, ⟨?_⟩, HO4, ⟨?_⟩, ⟨?_⟩, ⟨?_⟩⟩
          · rw [List.length_append, List.length_singleton]; have := HOL.out; omega
          · rw [← HRE.out]; exact le_Unpack.drop HBY.out _
          · rw [← HRE.out, List.length_drop]; have := HBL.out; omega
          · exact hk4.out
          · exact Kd.V_mono (Kd.R_V (Kd.R_bound HR4.out)) (fun k hk => by have := hk.2.1; omega)
          · have e := HP.out
            rw [List.drop_eq_getElem_cons hif, Pl.unpackGo, ← HZ.out, if_pos hf, HX.out, HRE.out] at e
            exact e
          · exact Nat.le_trans hs3.out hb4'.out.size
          · exact hn3.out.trans (hb4'.out.mono (by have := HBN.out; omega))
        case measure => rw [hmu.out, hm4.out]; omega
      · have e := HTK.out
        unfold Pl.takeS at e
        rw [if_neg hf] at e
        injection e with e1 e2
        injection e2 with e2 e3
        subst e1 e2 e3
        go_wp2_with (first | (go_at_call 44; refine (le_size.calls _ _ _ HRS.out).mono ?_; rintro e w2 ⟨rfl, hb2⟩; have HV2 := Aside0.mk (Kd.V_below HV1.out hb2); have hn2 := Aside0.mk (below_step hn1.out hb2); clear hb2) | (go_at_call 29; refine (le_Take.calls _ _ b z 0 [] 10 _ (Kd.V_reads' HV2.out).2.2 (Kd.V_reads' HV2.out).2.1 HTake.out).mono ?_; rintro e w3 ⟨vr, rfl, ho, hb3⟩; have hn3 := Aside0.mk (below_step hn2.out hb3); clear hb3 ho))
        go_ret2
        have e := HP.out
        rw [List.drop_eq_getElem_cons hif, Pl.unpackGo, ← HZ.out, if_neg hf] at e
        injection e with e1 e2
        subst e1 e2
        exact ⟨_, rfl, Kd.R_nil _ _ _ _ _, hn3.out⟩
    · have hnext : ∀ ty, (Instr.next (.pointer (some ⟨B, 0, none⟩)) true ty).run Try.prog wr = _ := fun ty => Lib.run_next_end_at wr B a0 i ty hk.out hp
      have e := HP.out
      rw [List.drop_eq_nil_of_le (by rw [Pl.fb_length]; omega), Pl.unpackGo] at e
      by_cases hl : 0 < b.length
      · have d0 : decide ((0 : Int) < (b.length : Int)) = true := decide_eq_true (by omega)
        have d1 : decide (0 < b.length) = true := decide_eq_true hl
        rw [if_neg (by intro h0; rw [h0] at hl; exact absurd hl (by decide))] at e
        injection e with e1 e2
        subst e1 e2
        go_wp2
        go_ret2
        exact ⟨_, rfl, Kd.R_nil _ _ _ _ _, HB.out⟩
      · have d0 : decide ((0 : Int) < (b.length : Int)) = false := decide_eq_false (by omega)
        have d1 : decide (0 < b.length) = false := decide_eq_false hl
        rw [if_pos (List.length_eq_zero_iff.1 (by omega))] at e
        injection e with e1 e2
        subst e1 e2
        go_wp2
        go_ret2
        exact ⟨_, rfl, Kd.R_mono (Kd.R_lower HO.out (by rw [HBN.out]; omega)) (fun k hk => by rw [← HBN.out]; omega), HB.out⟩
theorem le_Unpack.calls (a0 : ByteArray) (A1 : Option Addr) (c1 : Nat) (l1 : List Int) (r1 : List Int) (r2 : Int) (w : World) (hr1 : Kd.C (Kd.int .u8) w A1 l1.length l1) (hc1 : l1.length ≤ c1) (h : le_Unpack.f a0 l1 = some (r1, r2)) :
    Calls Try.prog 33 #[.string a0, .slice A1 l1.length c1] w fun e w' => ∃ v0_ : Value, e = .returned (.tuple #[v0_, .int .i64 r2]) ∧ Kd.R (Kd.int .u64) 39 w' w.heap.size (fun _ => True) v0_ r1 ∧ Below w.heap.size w w' :=
  (le_Unpack.callsV a0 _ A1 c1 l1 r1 r2 w (Kx.V_of_C _ _ hc1 hr1) h).mono fun e w' h => by
    obtain ⟨v, he, hr, hb⟩ := h
    exact ⟨v, he, Kd.R_mono hr (fun _ _ => trivial), hb⟩

end Go.Proofs.Ytiaoehjldbnpkaa.PP

namespace Go.Proofs.Ytiaoehjldbnpkaa.PP
open Go.RowKit Go.Proofs.YtiaoehjldbnpkaaW.PrintWords Go.Proofs.YtiaoehjldbnpkaaW.PrintLast Go.Proofs.YtiaoehjldbnpkaaW.PrintMore
attribute [local go_sem] max2_int min2_int max_two min_two max_three min_three max_four min_four   -- for this text's walks alone
set_option linter.unusedVariables false
set_option linter.unusedSimpArgs false

/-! ### waggonerref01_Same_p: function 35 -/
def waggonerref01_Same_p.l0 : Nat → List Int → List Int → Int → Option (Bool)
  | 0, _, _, _ => none
  | k + 1, x0, x1, x5 => if x5 < (x0.length : Int) then (if 0 ≤ x5 then (if x5 < (x1.length : Int) then (if (rd x0 x5) = (rd x1 x5) then (waggonerref01_Same_p.l0 k x0 x1 (wrap64 (x5 + 1))) else (some false)) else (none)) else (none)) else (some true)
def waggonerref01_Same_p.f (k : Nat) (l0 : List Int) (l1 : List Int) : Option (Bool) := if (l0.length : Int) = (l1.length : Int) then (waggonerref01_Same_p.l0 k l0 l1 0) else (some false)
theorem waggonerref01_Same_p.mono_l : ∀ k, (∀ y0 y1 y2, LeO (waggonerref01_Same_p.l0 k y0 y1 y2) (waggonerref01_Same_p.l0 (k + 1) y0 y1 y2))
  | 0 => fun _ _ _ r h => by simp [waggonerref01_Same_p.l0] at h
  | k + 1 => by
    have ih0 := waggonerref01_Same_p.mono_l k
    · intro y0 y1 y2
      unfold waggonerref01_Same_p.l0
      repeat' first
      | (with_reducible exact ih0 _ _ _)
      | (with_reducible exact LeO.refl _)
      | (with_reducible exact LeO.none _)
      | (with_reducible refine LeO.ite ?_ ?_)
      | (with_reducible refine LeO.bind ?_ (fun _ => ?_))
      | exact ih0 _ _ _
      | exact LeO.none _
      | refine LeO.ite ?_ ?_
      | refine LeO.bind ?_ (fun _ => ?_)
theorem waggonerref01_Same_p.mono : ∀ a0 a1 k, LeO (waggonerref01_Same_p.f k a0 a1) (waggonerref01_Same_p.f (k + 1) a0 a1) := by
  intro a0 a1 k
  have ih0 := waggonerref01_Same_p.mono_l k
  unfold waggonerref01_Same_p.f
  repeat' first
      | (with_reducible exact ih0 _ _ _)
      | (with_reducible exact LeO.refl _)
      | (with_reducible exact LeO.none _)
      | (with_reducible refine LeO.ite ?_ ?_)
      | (with_reducible refine LeO.bind ?_ (fun _ => ?_))
      | exact ih0 _ _ _
      | exact LeO.none _
      | refine LeO.ite ?_ ?_
      | refine LeO.bind ?_ (fun _ => ?_)
set_option maxHeartbeats 8000000 in
set_option maxRecDepth 100000 in
theorem waggonerref01_Same_p.calls (k : Nat) (A0 : Option Addr) (c0 : Nat) (l0 : List Int) (A1 : Option Addr) (c1 : Nat) (l1 : List Int) (r : Bool) (w : World) (hr0 : Kd.C (Kd.int .u64) w A0 l0.length l0) (hc0 : l0.length ≤ c0) (hr1 : Kd.C (Kd.int .u64) w A1 l1.length l1) (hc1 : l1.length ≤ c1) (h : waggonerref01_Same_p.f k l0 l1 = some r) :
    Calls Try.prog 35 #[.slice A0 l0.length c0, .slice A1 l1.length c1] w fun e w' => e = .returned (.bool r) ∧ Drawn0 w w' := by
  have HR0 := Aside0.mk hr0
  have HC0 := Aside0.mk hc0
  clear hr0 hc0
  have HR1 := Aside0.mk hr1
  have HC1 := Aside0.mk hc1
  clear hr1 hc1
  have H : (if (l0.length : Int) = (l1.length : Int) then (waggonerref01_Same_p.l0 k l0 l1 0) else (some false)) = some r := h
  clear h
  by_cases c3 : (l0.length : Int) = (l1.length : Int)
  · rw [if_pos c3] at H
    have c3b0 : ((l0.length : Int) == (l1.length : Int)) = true := beq_iff_eq.mpr c3
    have c3b1 : ((l0.length : Int) != (l1.length : Int)) = false := bne_eq_false_iff_eq.mpr c3
    have c3b2 : (l0.length == l1.length) = true := by first | simpa using c3 | (simp at c3 ⊢; omega)
    clear c3
    have H' := Aside0.mk H
    clear H
    go_enter Try.func35, Try.ntmps35
    go_wp2
    repeat (go_quiet (fail); try go_wp2)
    go_loopg [5] k (fun kq v5 w' => ∃ (x5_1 : Int), v5 = .int .i64 x5_1 ∧ Aside0 (waggonerref01_Same_p.l0 kq l0 l1 x5_1 = some r) ∧ Aside0 (kq ≤ k) ∧ Drawn0 w w')
    case atStart => exact ⟨(0), (by first | rfl | (simp; done) | (simp [*]; done)), H', ⟨Nat.le_refl _⟩, by repeat (first | exact Drawn0.refl _ | apply Drawn0.step)⟩
    case round =>
      clear H'
      try clear c1
      try clear p2
      try clear c3
      try clear c3b0
      try clear c3b1
      try clear c3b2
      obtain ⟨x5_1, rfl, HA, HK1, ⟨m1, rfl⟩⟩ := hrel
      cases gk with
      | zero => exact absurd HA.out (by simp [waggonerref01_Same_p.l0])
      | succ k1 =>
        have H := HA.out
        clear HA
        simp only [waggonerref01_Same_p.l0] at H
        by_cases c4 : x5_1 < (l0.length : Int)
        · rw [if_pos c4] at H
          have c4b0 : decide (x5_1 < (l0.length : Int)) = true := decide_eq_true c4
          clear c4
          by_cases c5 : 0 ≤ x5_1
          · rw [if_pos c5] at H
            have c5b0 : decide (0 ≤ x5_1) = true := decide_eq_true c5
            clear c5
            by_cases c6 : x5_1 < (l1.length : Int)
            · rw [if_pos c6] at H
              have c6b0 : decide (x5_1 < (l1.length : Int)) = true := decide_eq_true c6
              clear c6
              by_cases c7 : (rd l0 x5_1) = (rd l1 x5_1)
              · rw [if_pos c7] at H
                have c7b0 : ((rd l0 x5_1) == (rd l1 x5_1)) = true := beq_iff_eq.mpr c7
                have c7b1 : ((rd l0 x5_1) != (rd l1 x5_1)) = false := bne_eq_false_iff_eq.mpr c7
                clear c7
                have H' := Aside0.mk H
                clear H
                have p114 : 0 ≤ (x5_1 : Int) := of_decide_eq_true (by first | (with_reducible assumption) | assumption)
                have q114 : x5_1 < (l0.length : Int) := of_decide_eq_true (by first | (with_reducible assumption) | assumption)
                obtain ⟨ad114, e114, hx114_0⟩ := Kd.at_int HR0.out x5_1 p114 q114
                cases e114
                replace p114 := eq_true p114
                replace q114 := eq_true q114
                have p115 : 0 ≤ (x5_1 : Int) := of_decide_eq_true (by first | (with_reducible assumption) | assumption)
                have q115 : x5_1 < (l1.length : Int) := of_decide_eq_true (by first | (with_reducible assumption) | assumption)
                obtain ⟨ad115, e115, hx115_0⟩ := Kd.at_int HR1.out x5_1 p115 q115
                cases e115
                replace p115 := eq_true p115
                replace q115 := eq_true q115
                go_wp2
                repeat (go_quiet (fail); try go_wp2)
                go_roundg k1
                case measure => have := HK1.out; omega
                case rel => exact ⟨(wrap64 (x5_1 + 1)), (by first | rfl | (simp; done) | (simp [*]; done)), H', ⟨by have := HK1.out; omega⟩, by repeat (first | exact Drawn0.refl _ | apply Drawn0.step)⟩
              · rw [if_neg c7] at H
                have c7b0 : ((rd l0 x5_1) == (rd l1 x5_1)) = false := beq_eq_false_iff_ne.mpr c7
                have c7b1 : ((rd l0 x5_1) != (rd l1 x5_1)) = true := bne_iff_ne.mpr c7
                obtain rfl := Option.some.inj H
                have p114 : 0 ≤ (x5_1 : Int) := of_decide_eq_true (by first | (with_reducible assumption) | assumption)
                have q114 : x5_1 < (l0.length : Int) := of_decide_eq_true (by first | (with_reducible assumption) | assumption)
                obtain ⟨ad114, e114, hx114_0⟩ := Kd.at_int HR0.out x5_1 p114 q114
                cases e114
                replace p114 := eq_true p114
                replace q114 := eq_true q114
                have p115 : 0 ≤ (x5_1 : Int) := of_decide_eq_true (by first | (with_reducible assumption) | assumption)
                have q115 : x5_1 < (l1.length : Int) := of_decide_eq_true (by first | (with_reducible assumption) | assumption)
                obtain ⟨ad115, e115, hx115_0⟩ := Kd.at_int HR1.out x5_1 p115 q115
                cases e115
                replace p115 := eq_true p115
                replace q115 := eq_true q115
                go_wp2
                repeat (go_quiet (fail); try go_wp2)
                go_ret
                exact ⟨by first | rfl | (simp; done) | (simp [*]; done), by repeat (first | exact Drawn0.refl _ | apply Drawn0.step)⟩
            · rw [if_neg c6] at H
              exact absurd H (by simp)
          · rw [if_neg c5] at H
            exact absurd H (by simp)
        · rw [if_neg c4] at H
          have c4b0 : decide (x5_1 < (l0.length : Int)) = false := decide_eq_false c4
          clear c4
          obtain rfl := Option.some.inj H
          go_wp2
          repeat (go_quiet (fail); try go_wp2)
          go_ret
          exact ⟨by first | rfl | (simp; done) | (simp [*]; done), by repeat (first | exact Drawn0.refl _ | apply Drawn0.step)⟩
  · rw [if_neg c3] at H
    have c3b0 : ((l0.length : Int) == (l1.length : Int)) = false := beq_eq_false_iff_ne.mpr c3
    have c3b1 : ((l0.length : Int) != (l1.length : Int)) = true := bne_iff_ne.mpr c3
    have c3b2 : (l0.length == l1.length) = false := by first | simpa using c3 | (simp at c3 ⊢; omega)
    obtain rfl := Option.some.inj H
    go_enter Try.func35, Try.ntmps35
    go_wp2
    repeat (go_quiet (fail); try go_wp2)
    go_ret
    exact ⟨by first | rfl | (simp; done) | (simp [*]; done), by repeat (first | exact Drawn0.refl _ | apply Drawn0.step)⟩

end Go.Proofs.Ytiaoehjldbnpkaa.PP

namespace Go.Proofs.Ytiaoehjldbnpkaa.PP
open Go.RowKit Go.Proofs.YtiaoehjldbnpkaaW.PrintWords Go.Proofs.YtiaoehjldbnpkaaW.PrintLast Go.Proofs.YtiaoehjldbnpkaaW.PrintMore
attribute [local go_sem] max2_int min2_int max_two min_two max_three min_three max_four min_four   -- for this text's walks alone
set_option linter.unusedVariables false
set_option linter.unusedSimpArgs false

/-! ### waggonerref01_Same: function 35 -/
def waggonerref01_Same.f (l0 : List Int) (l1 : List Int) : Option Bool := if l0.length < 4611686018427387904 then some (l0 == l1) else none
theorem waggonerref01_Same.loop (l m : List Int) (hn : l.length = m.length) (hl : l.length < 4611686018427387904) : ∀ (d k i : Nat), i + d = l.length → d < k → waggonerref01_Same_p.l0 k l m (i : Int) = some (l.drop i == m.drop i)
  | 0, k, i, hi, hk => by
    obtain ⟨k, rfl⟩ : ∃ m, k = m + 1 := ⟨k - 1, by omega⟩
    simp only [waggonerref01_Same_p.l0]
    rw [if_neg (by omega), List.drop_eq_nil_of_le (by omega), List.drop_eq_nil_of_le (by omega)]
    rfl
  | d + 1, k, i, hi, hk => by
    obtain ⟨k, rfl⟩ : ∃ m, k = m + 1 := ⟨k - 1, by omega⟩
    have h1 : i < l.length := by omega
    have h2 : i < m.length := by omega
    have r1 : rd l (i : Int) = l[i]'h1 := by unfold rd; rw [Int.toNat_natCast, List.getD_eq_getElem?_getD, List.getElem?_eq_getElem h1, Option.getD_some]
    have r2 : rd m (i : Int) = m[i]'h2 := by unfold rd; rw [Int.toNat_natCast, List.getD_eq_getElem?_getD, List.getElem?_eq_getElem h2, Option.getD_some]
    simp only [waggonerref01_Same_p.l0]
    rw [if_pos (by omega), if_pos (by omega), if_pos (by omega), r1, r2, List.drop_eq_getElem_cons h1, List.drop_eq_getElem_cons h2]
    by_cases he : l[i]'h1 = m[i]'h2
    · rw [if_pos he, show wrap64 ((i : Int) + 1) = ((i + 1 : Nat) : Int) from by unfold wrap64; omega, waggonerref01_Same.loop l m hn hl d k (i + 1) (by omega) (by omega), he]
      congr 1
      rw [Bool.eq_iff_iff, beq_iff_eq, beq_iff_eq, List.cons.injEq]
      exact ⟨fun h => ⟨rfl, h⟩, fun h => h.2⟩
    · rw [if_neg he]
      congr 1
      symm
      rw [beq_eq_false_iff_ne]
      intro e
      injection e with e1
      exact he e1
theorem waggonerref01_Same.tells {l0 l1 : List Int} {r : Bool} (h : waggonerref01_Same.f l0 l1 = some r) : waggonerref01_Same_p.f (l0.length + 1) l0 l1 = some r := by
  unfold waggonerref01_Same.f at h
  split at h
  case isFalse => cases h
  rename_i h0
  obtain rfl := Option.some.inj h
  unfold waggonerref01_Same_p.f
  by_cases he : (l0.length : Int) = (l1.length : Int)
  · rw [if_pos he]
    exact waggonerref01_Same.loop l0 l1 (by omega) h0 l0.length (l0.length + 1) 0 (by omega) (by omega)
  · rw [if_neg he]
    have : (l0 == l1) = false := by
      rw [beq_eq_false_iff_ne]
      intro e
      exact he (by rw [e])
    rw [this]
theorem waggonerref01_Same.calls (A0 : Option Addr) (c0 : Nat) (l0 : List Int) (A1 : Option Addr) (c1 : Nat) (l1 : List Int) (r : Bool) (w : World) (hr0 : Kd.C (Kd.int .u64) w A0 l0.length l0) (hc0 : l0.length ≤ c0) (hr1 : Kd.C (Kd.int .u64) w A1 l1.length l1) (hc1 : l1.length ≤ c1) (h : waggonerref01_Same.f l0 l1 = some r) :
    Calls Try.prog 35 #[.slice A0 l0.length c0, .slice A1 l1.length c1] w fun e w' => e = .returned (.bool r) ∧ Drawn0 w w' :=
  waggonerref01_Same_p.calls (l0.length + 1) A0 c0 l0 A1 c1 l1 r w hr0 hc0 hr1 hc1 (waggonerref01_Same.tells h)

end Go.Proofs.Ytiaoehjldbnpkaa.PP

namespace Go.Proofs.Ytiaoehjldbnpkaa.PP
open Go.RowKit Go.Proofs.YtiaoehjldbnpkaaW.PrintWords Go.Proofs.YtiaoehjldbnpkaaW.PrintLast Go.Proofs.YtiaoehjldbnpkaaW.PrintMore
attribute [local go_sem] max2_int min2_int max_two min_two max_three min_three max_four min_four   -- for this text's walks alone
set_option linter.unusedVariables false
set_option linter.unusedSimpArgs false

/-! ### waggonerlaw01_awake: function 26 -/
def waggonerlaw01_awake.f : Option Bool := some true
theorem aw01_p1 : le_Pack.f ⟨#[98, 104]⟩ [7, 258] = some ([7, 2, 1], 0) := by kernel_rfl
theorem aw01_u1 : le_Unpack.f ⟨#[98, 104]⟩ [7, 2, 1] = some ([7, 258], 0) := by kernel_rfl
theorem aw01_p2 : le_Pack.f ⟨#[98]⟩ [256] = some ([], 10) := by kernel_rfl
theorem aw01_p3 : le_Pack.f ⟨#[120]⟩ [1] = some ([], 10) := by kernel_rfl
theorem aw01_t1 : le_Take.f [2, 1, 9] 2 = some (258, [9], 0) := by kernel_rfl
theorem aw01_w : le_Put.f [5] 258 2 = some ([5, 2, 1], 0) := by kernel_rfl
theorem aw01_t2 : le_Take.f [1] 2 = some (0, [], 10) := by kernel_rfl
theorem aw01_s : waggonerref01_Same.f [7, 258] [7, 258] = some true := by kernel_rfl
set_option maxHeartbeats 1000000 in
set_option maxRecDepth 2000000 in
theorem waggonerlaw01_awake.calls (r : Bool) (w : World) (h : waggonerlaw01_awake.f = some r) :
    Calls Try.prog 26 #[] w fun e w' => e = .returned (.bool r) ∧ Below w.heap.size w w' := by
  unfold waggonerlaw01_awake.f at h
  obtain rfl := Option.some.inj h
  clear h
  have hlit7_2_1 : ∀ (W : World) (g : Nat), g = W.heap.size → (convert 23 9 (.slice (some ⟨g, 0, none⟩) 3 3)).run Try.prog (W.alloc (.cells #[.int .u8 7, .int .u8 2, .int .u8 1] 5)) = .ok (.string (strOfNums [7, 2, 1])) (W.alloc (.cells #[.int .u8 7, .int .u8 2, .int .u8 1] 5)) := fun W g hg => Kd.C_string (P := Try.prog) (A := _) (c := _) Try.underlying23 Try.underlying5 Try.underlying9 (Kx.C_lita .u8 g W hg [7, 2, 1] (by decide) _ _)
  have hlit9 : ∀ (W : World) (g : Nat), g = W.heap.size → (convert 23 9 (.slice (some ⟨g, 0, none⟩) 1 1)).run Try.prog (W.alloc (.cells #[.int .u8 9] 5)) = .ok (.string (strOfNums [9])) (W.alloc (.cells #[.int .u8 9] 5)) := fun W g hg => Kd.C_string (P := Try.prog) (A := _) (c := _) Try.underlying23 Try.underlying5 Try.underlying9 (Kx.C_lita .u8 g W hg [9] (by decide) _ _)
  have hlit5_2_1 : ∀ (W : World) (g : Nat), g = W.heap.size → (convert 23 9 (.slice (some ⟨g, 0, none⟩) 3 3)).run Try.prog (W.alloc (.cells #[.int .u8 5, .int .u8 2, .int .u8 1] 5)) = .ok (.string (strOfNums [5, 2, 1])) (W.alloc (.cells #[.int .u8 5, .int .u8 2, .int .u8 1] 5)) := fun W g hg => Kd.C_string (P := Try.prog) (A := _) (c := _) Try.underlying23 Try.underlying5 Try.underlying9 (Kx.C_lita .u8 g W hg [5, 2, 1] (by decide) _ _)
  have HB := Aside0.mk (Below.refl w.heap.size w)
  go_enter Try.func26, Try.ntmps26
  go_wp2_with fail
  refine (le_Pack.calls _ _ _ [7, 258] [7, 2, 1] 0 _ (Kx.C_litk .u64 _ [7, 258] (by decide) _ _) (Nat.le_refl _) aw01_p1).mono ?_
  rintro e w1 ⟨va, rfl, hoa, hb⟩
  have HB' := Aside0.mk (below_step (below_alloc HB.out _) hb)
  clear HB; have HB := HB'; clear HB'
  clear hb
  obtain ⟨Aa, ca, rfl, hca, hra⟩ := Kd.R_reads hoa
  have HRa := Aside0.mk hra
  have HCa := Aside0.mk hca
  clear hra hca hoa
  go_wp2_with fail
  refine (le_Unpack.calls _ _ _ [7, 2, 1] [7, 258] 0 _ HRa.out HCa.out aw01_u1).mono ?_
  rintro e w2 ⟨vl, rfl, hol, hb⟩
  have HB' := Aside0.mk (below_step HB.out hb)
  have HRa' := Aside0.mk (Kd.C_below HRa.out hb)
  clear HRa; have HRa := HRa'; clear HRa'
  clear HB; have HB := HB'; clear HB'
  clear hb
  obtain ⟨Al, cl, rfl, hcl, hrl⟩ := Kd.R_reads hol
  have HRl := Aside0.mk hrl
  have HCl := Aside0.mk hcl
  clear hrl hcl hol
  go_wp2_with fail
  refine (le_Pack.calls _ _ _ [256] [] 10 _ (Kx.C_litk .u64 _ [256] (by decide) _ _) (Nat.le_refl _) aw01_p2).mono ?_
  rintro e w3 ⟨vx, rfl, hox, hb⟩
  have HB' := Aside0.mk (below_step (below_alloc HB.out _) hb)
  have HRa' := Aside0.mk (Kd.C_below (Kd.C_alloc HRa.out _) hb)
  clear HRa; have HRa := HRa'; clear HRa'
  have HRl' := Aside0.mk (Kd.C_below (Kd.C_alloc HRl.out _) hb)
  clear HRl; have HRl := HRl'; clear HRl'
  clear HB; have HB := HB'; clear HB'
  clear hb
  obtain ⟨Ax, cx, rfl, hcx, hrx⟩ := Kd.R_reads hox
  have HRx := Aside0.mk hrx
  have HCx := Aside0.mk hcx
  clear hrx hcx hox
  clear HRx HCx
  go_wp2_with fail
  refine (le_Pack.calls _ _ _ [1] [] 10 _ (Kx.C_litk .u64 _ [1] (by decide) _ _) (Nat.le_refl _) aw01_p3).mono ?_
  rintro e w4 ⟨vx, rfl, hox, hb⟩
  have HB' := Aside0.mk (below_step (below_alloc HB.out _) hb)
  have HRa' := Aside0.mk (Kd.C_below (Kd.C_alloc HRa.out _) hb)
  clear HRa; have HRa := HRa'; clear HRa'
  have HRl' := Aside0.mk (Kd.C_below (Kd.C_alloc HRl.out _) hb)
  clear HRl; have HRl := HRl'; clear HRl'
  clear HB; have HB := HB'; clear HB'
  clear hb
  obtain ⟨Ax, cx, rfl, hcx, hrx⟩ := Kd.R_reads hox
  have HRx := Aside0.mk hrx
  have HCx := Aside0.mk hcx
  clear hrx hcx hox
  clear HRx HCx
  go_wp2_with fail
  refine (le_Take.calls _ _ [2, 1, 9] _ 258 [9] 0 _ (Kx.C_litk .u8 _ [2, 1, 9] (by decide) _ _) (Nat.le_refl _) aw01_t1).mono ?_
  rintro e w5 ⟨vr, rfl, hor, hb⟩
  have HB' := Aside0.mk (below_step (below_alloc HB.out _) hb)
  have HRa' := Aside0.mk (Kd.C_below (Kd.C_alloc HRa.out _) hb)
  clear HRa; have HRa := HRa'; clear HRa'
  have HRl' := Aside0.mk (Kd.C_below (Kd.C_alloc HRl.out _) hb)
  clear HRl; have HRl := HRl'; clear HRl'
  clear HB; have HB := HB'; clear HB'
  clear hb
  obtain ⟨Ar, cr, rfl, hcr, hrr⟩ := Kd.R_reads hor
  have HRr := Aside0.mk hrr
  have HCr := Aside0.mk hcr
  clear hrr hcr hor
  go_wp2_with fail
  refine (le_Put.calls _ _ [5] _ _ [5, 2, 1] 0 _ (Kx.C_litk .u8 _ [5] (by decide) _ _) (Nat.le_refl _) aw01_w).mono ?_
  rintro e w6 ⟨vp, rfl, hop, hb⟩
  have HB' := Aside0.mk (below_step (below_alloc HB.out _) hb)
  have HRa' := Aside0.mk (Kd.C_below (Kd.C_alloc HRa.out _) hb)
  clear HRa; have HRa := HRa'; clear HRa'
  have HRl' := Aside0.mk (Kd.C_below (Kd.C_alloc HRl.out _) hb)
  clear HRl; have HRl := HRl'; clear HRl'
  have HRr' := Aside0.mk (Kd.C_below (Kd.C_alloc HRr.out _) hb)
  clear HRr; have HRr := HRr'; clear HRr'
  clear HB; have HB := HB'; clear HB'
  clear hb
  obtain ⟨Ap, cp, rfl, hcp, hrp⟩ := Kd.R_reads hop
  have HRp := Aside0.mk hrp
  have HCp := Aside0.mk hcp
  clear hrp hcp hop
  go_wp2_with fail
  refine (le_Take.calls _ _ [1] _ 0 [] 10 _ (Kx.C_litk .u8 _ [1] (by decide) _ _) (Nat.le_refl _) aw01_t2).mono ?_
  rintro e w7 ⟨vx, rfl, hox, hb⟩
  have HB' := Aside0.mk (below_step (below_alloc HB.out _) hb)
  have HRa' := Aside0.mk (Kd.C_below (Kd.C_alloc HRa.out _) hb)
  clear HRa; have HRa := HRa'; clear HRa'
  have HRl' := Aside0.mk (Kd.C_below (Kd.C_alloc HRl.out _) hb)
  clear HRl; have HRl := HRl'; clear HRl'
  have HRr' := Aside0.mk (Kd.C_below (Kd.C_alloc HRr.out _) hb)
  clear HRr; have HRr := HRr'; clear HRr'
  have HRp' := Aside0.mk (Kd.C_below (Kd.C_alloc HRp.out _) hb)
  clear HRp; have HRp := HRp'; clear HRp'
  clear HB; have HB := HB'; clear HB'
  clear hb
  obtain ⟨Ax, cx, rfl, hcx, hrx⟩ := Kd.R_reads hox
  have HRx := Aside0.mk hrx
  have HCx := Aside0.mk hcx
  clear hrx hcx hox
  clear HRx HCx
  have ha : (convert 23 9 (.slice Aa 3 ca)).run Try.prog w7 = .ok (.string (strOfNums [7, 2, 1])) w7 := Kd.C_string (P := Try.prog) (A := Aa) (c := ca) Try.underlying23 Try.underlying5 Try.underlying9 HRa.out
  go_wp2_with fail
  refine (waggonerref01_Same.calls _ _ [7, 258] _ _ [7, 258] _ _ (Kd.C_alloc (Kd.C_alloc HRl.out _) _) HCl.out (Kx.C_lita .u64 _ _ (by simp) [7, 258] (by decide) _ _) (Nat.le_refl _) aw01_s).mono ?_
  rintro e w8 ⟨rfl, hd⟩
  have hb := hd.below
  clear hd
  have HB' := Aside0.mk (below_step (below_alloc (below_alloc HB.out _) _) hb)
  have HRa' := Aside0.mk (Kd.C_below (Kd.C_alloc (Kd.C_alloc HRa.out _) _) hb)
  clear HRa; have HRa := HRa'; clear HRa'
  have HRl' := Aside0.mk (Kd.C_below (Kd.C_alloc (Kd.C_alloc HRl.out _) _) hb)
  clear HRl; have HRl := HRl'; clear HRl'
  have HRr' := Aside0.mk (Kd.C_below (Kd.C_alloc (Kd.C_alloc HRr.out _) _) hb)
  clear HRr; have HRr := HRr'; clear HRr'
  have HRp' := Aside0.mk (Kd.C_below (Kd.C_alloc (Kd.C_alloc HRp.out _) _) hb)
  clear HRp; have HRp := HRp'; clear HRp'
  clear HB; have HB := HB'; clear HB'
  clear hb
  have hr0 := fun (_ : Unit) => (show (convert 23 9 (.slice Ar 1 cr)).run Try.prog w8 = .ok (.string (strOfNums [9])) w8 from Kd.C_string (P := Try.prog) (A := Ar) (c := cr) Try.underlying23 Try.underlying5 Try.underlying9 HRr.out)
  have hp0 := fun (o : Obj) => (show (convert 23 9 (.slice Ap 3 cp)).run Try.prog (w8.alloc o) = .ok (.string (strOfNums [5, 2, 1])) (w8.alloc o) from Kd.C_string (P := Try.prog) (A := Ap) (c := cp) Try.underlying23 Try.underlying5 Try.underlying9 (Kd.C_alloc HRp.out _))
  have hr1 := hr0 (); clear hr0 ha hlit7_2_1
  go_wp2
  go_ret
  exact ⟨rfl, below_alloc (below_alloc HB.out _) _⟩

end Go.Proofs.Ytiaoehjldbnpkaa.PP

namespace Go.Proofs.Ytiaoehjldbnpkaa.PP
open Go.RowKit Go.Proofs.YtiaoehjldbnpkaaW.PrintWords Go.Proofs.YtiaoehjldbnpkaaW.PrintLast Go.Proofs.YtiaoehjldbnpkaaW.PrintMore
attribute [local go_sem] max2_int min2_int max_two min_two max_three min_three max_four min_four   -- for this text's walks alone
set_option linter.unusedVariables false
set_option linter.unusedSimpArgs false

/-! ### waggonerref01_may: function 43 -/
def waggonerref01_may.f (a0 : Int) : Option (Bool) := if a0 = 1 then (some true) else (if a0 = 2 then (some true) else (if a0 = 4 then (some true) else (some (a0 == 8))))
set_option maxHeartbeats 8000000 in
set_option maxRecDepth 100000 in
theorem waggonerref01_may.calls (a0 : Int) (r : Bool) (w : World) (h : waggonerref01_may.f a0 = some r) :
    Calls Try.prog 43 #[.int .i64 a0] w fun e w' => e = .returned (.bool r) ∧ Drawn0 w w' := by
  have H : (if a0 = 1 then (some true) else (if a0 = 2 then (some true) else (if a0 = 4 then (some true) else (some (a0 == 8))))) = some r := h
  clear h
  by_cases c2 : a0 = 1
  · rw [if_pos c2] at H
    have c2b0 : (a0 == 1) = true := beq_iff_eq.mpr c2
    have c2b1 : (a0 != 1) = false := bne_eq_false_iff_eq.mpr c2
    clear c2
    obtain rfl := Option.some.inj H
    go_enter Try.func43, Try.ntmps43
    go_wp2
    go_ret
    exact ⟨by first | rfl | (simp; done) | (simp [*]; done), by repeat (first | exact Drawn0.refl _ | apply Drawn0.step)⟩
  · rw [if_neg c2] at H
    have c2b0 : (a0 == 1) = false := beq_eq_false_iff_ne.mpr c2
    have c2b1 : (a0 != 1) = true := bne_iff_ne.mpr c2
    by_cases c3 : a0 = 2
    · rw [if_pos c3] at H
      have c3b0 : (a0 == 2) = true := beq_iff_eq.mpr c3
      have c3b1 : (a0 != 2) = false := bne_eq_false_iff_eq.mpr c3
      clear c3
      obtain rfl := Option.some.inj H
      go_enter Try.func43, Try.ntmps43
      go_wp2
      go_ret
      exact ⟨by first | rfl | (simp; done) | (simp [*]; done), by repeat (first | exact Drawn0.refl _ | apply Drawn0.step)⟩
    · rw [if_neg c3] at H
      have c3b0 : (a0 == 2) = false := beq_eq_false_iff_ne.mpr c3
      have c3b1 : (a0 != 2) = true := bne_iff_ne.mpr c3
      by_cases c4 : a0 = 4
      · rw [if_pos c4] at H
        have c4b0 : (a0 == 4) = true := beq_iff_eq.mpr c4
        have c4b1 : (a0 != 4) = false := bne_eq_false_iff_eq.mpr c4
        clear c4
        obtain rfl := Option.some.inj H
        go_enter Try.func43, Try.ntmps43
        go_wp2
        go_ret
        exact ⟨by first | rfl | (simp; done) | (simp [*]; done), by repeat (first | exact Drawn0.refl _ | apply Drawn0.step)⟩
      · rw [if_neg c4] at H
        have c4b0 : (a0 == 4) = false := beq_eq_false_iff_ne.mpr c4
        have c4b1 : (a0 != 4) = true := bne_iff_ne.mpr c4
        obtain rfl := Option.some.inj H
        go_enter Try.func43, Try.ntmps43
        go_wp2
        go_ret
        exact ⟨by first | rfl | (simp; done) | (simp [*]; done), by repeat (first | exact Drawn0.refl _ | apply Drawn0.step)⟩

end Go.Proofs.Ytiaoehjldbnpkaa.PP

namespace Go.Proofs.Ytiaoehjldbnpkaa.PP
open Go.RowKit Go.Proofs.YtiaoehjldbnpkaaW.PrintWords Go.Proofs.YtiaoehjldbnpkaaW.PrintLast Go.Proofs.YtiaoehjldbnpkaaW.PrintMore
attribute [local go_sem] max2_int min2_int max_two min_two max_three min_three max_four min_four   -- for this text's walks alone
set_option linter.unusedVariables false
set_option linter.unusedSimpArgs false

/-! ### waggonerref01_Put_p: function 28 -/
mutual
def waggonerref01_Put_p.j0 : Nat → List Int → Int → Int → Bool → Option (List Int × Int)
  | 0, _, _, _, _ => none
  | k + 1, x0, x1, x2, x26 => if x26 = true then (some (([] : List Int), 10)) else ((some (([] : List Int) : List Int)).bind fun y117 => (if y117.length + x0.length < 140737488355328 then (waggonerref01_Put_p.l0 k x1 x2 (y117 ++ x0) 0) else (none)))
def waggonerref01_Put_p.l0 : Nat → Int → Int → List Int → Int → Option (List Int × Int)
  | 0, _, _, _, _ => none
  | k + 1, x1, x2, x9, x10 => if x10 < x2 then (if 0 ≤ (IntKind.u64.wrap (wrap64 (8 * x10))) then (if x9.length < 140737488355328 then (waggonerref01_Put_p.l0 k x1 x2 (x9 ++ [(shr .u64 x1 (IntKind.u64.wrap (wrap64 (8 * x10)))) % 256]) (wrap64 (x10 + 1))) else (none)) else (none)) else (some (x9, 0))
end
def waggonerref01_Put_p.f (k : Nat) (l0 : List Int) (a1 : Int) (a2 : Int) : Option (List Int × Int) := (waggonerref01_may.f a2).bind fun t116 => (if t116 = true then (if a2 < 8 then (if 0 ≤ (IntKind.u64.wrap (wrap64 (8 * a2))) then (waggonerref01_Put_p.j0 k l0 a1 a2 ((shr .u64 a1 (IntKind.u64.wrap (wrap64 (8 * a2)))) != 0)) else (none)) else (waggonerref01_Put_p.j0 k l0 a1 a2 false)) else (waggonerref01_Put_p.j0 k l0 a1 a2 true))
theorem waggonerref01_Put_p.mono_l : ∀ k, (∀ y0 y1 y2 y3, LeO (waggonerref01_Put_p.j0 k y0 y1 y2 y3) (waggonerref01_Put_p.j0 (k + 1) y0 y1 y2 y3)) ∧ (∀ y0 y1 y2 y3, LeO (waggonerref01_Put_p.l0 k y0 y1 y2 y3) (waggonerref01_Put_p.l0 (k + 1) y0 y1 y2 y3))
  | 0 => ⟨fun _ _ _ _ r h => by simp [waggonerref01_Put_p.j0] at h, fun _ _ _ _ r h => by simp [waggonerref01_Put_p.l0] at h⟩
  | k + 1 => by
    obtain ⟨ih0, ih1⟩ := waggonerref01_Put_p.mono_l k
    refine ⟨?_, ?_⟩
    · intro y0 y1 y2 y3
      unfold waggonerref01_Put_p.j0
      repeat' first
      | (with_reducible exact ih0 _ _ _ _)
      | (with_reducible exact ih1 _ _ _ _)
      | (with_reducible exact LeO.refl _)
      | (with_reducible exact LeO.none _)
      | (with_reducible refine LeO.ite ?_ ?_)
      | (with_reducible refine LeO.bind ?_ (fun _ => ?_))
      | exact ih0 _ _ _ _
      | exact ih1 _ _ _ _
      | exact LeO.none _
      | refine LeO.ite ?_ ?_
      | refine LeO.bind ?_ (fun _ => ?_)
    · intro y0 y1 y2 y3
      unfold waggonerref01_Put_p.l0
      repeat' first
      | (with_reducible exact ih0 _ _ _ _)
      | (with_reducible exact ih1 _ _ _ _)
      | (with_reducible exact LeO.refl _)
      | (with_reducible exact LeO.none _)
      | (with_reducible refine LeO.ite ?_ ?_)
      | (with_reducible refine LeO.bind ?_ (fun _ => ?_))
      | exact ih0 _ _ _ _
      | exact ih1 _ _ _ _
      | exact LeO.none _
      | refine LeO.ite ?_ ?_
      | refine LeO.bind ?_ (fun _ => ?_)
theorem waggonerref01_Put_p.mono : ∀ a0 a1 a2 k, LeO (waggonerref01_Put_p.f k a0 a1 a2) (waggonerref01_Put_p.f (k + 1) a0 a1 a2) := by
  intro a0 a1 a2 k
  obtain ⟨ih0, ih1⟩ := waggonerref01_Put_p.mono_l k
  unfold waggonerref01_Put_p.f
  repeat' first
      | (with_reducible exact ih0 _ _ _ _)
      | (with_reducible exact ih1 _ _ _ _)
      | (with_reducible exact LeO.refl _)
      | (with_reducible exact LeO.none _)
      | (with_reducible refine LeO.ite ?_ ?_)
      | (with_reducible refine LeO.bind ?_ (fun _ => ?_))
      | exact ih0 _ _ _ _
      | exact ih1 _ _ _ _
      | exact LeO.none _
      | refine LeO.ite ?_ ?_
      | refine LeO.bind ?_ (fun _ => ?_)
set_option maxHeartbeats 8000000 in
set_option maxRecDepth 100000 in
theorem waggonerref01_Put_p.calls (k : Nat) (A0 : Option Addr) (c0 : Nat) (l0 : List Int) (a1 : Int) (a2 : Int) (r1 : List Int) (r2 : Int) (w : World) (hr0 : Kd.C (Kd.int .u8) w A0 l0.length l0) (hc0 : l0.length ≤ c0) (h : waggonerref01_Put_p.f k l0 a1 a2 = some (r1, r2)) :
    Calls Try.prog 28 #[.slice A0 l0.length c0, .int .u64 a1, .int .i64 a2] w fun e w' => ∃ v0_ : Value, e = .returned (.tuple #[v0_, .int .i64 r2]) ∧ Kd.R (Kd.int .u8) 5 w' w.heap.size (fun _ => True) v0_ r1 ∧ Below w.heap.size w w' := by
  have HR0 := Aside0.mk hr0
  have HC0 := Aside0.mk hc0
  clear hr0 hc0
  have HB := Aside0.mk (Below.refl w.heap.size w)
  have H : ((waggonerref01_may.f a2).bind fun t116 => (if t116 = true then (if a2 < 8 then (if 0 ≤ (IntKind.u64.wrap (wrap64 (8 * a2))) then (waggonerref01_Put_p.j0 k l0 a1 a2 ((shr .u64 a1 (IntKind.u64.wrap (wrap64 (8 * a2)))) != 0)) else (none)) else (waggonerref01_Put_p.j0 k l0 a1 a2 false)) else (waggonerref01_Put_p.j0 k l0 a1 a2 true))) = some (r1, r2) := h
  clear h
  replace H := Option.bind_eq_some_iff.mp H
  obtain ⟨t116, A40, H⟩ := H
  replace H : (if t116 = true then (if a2 < 8 then (if 0 ≤ (IntKind.u64.wrap (wrap64 (8 * a2))) then (waggonerref01_Put_p.j0 k l0 a1 a2 ((shr .u64 a1 (IntKind.u64.wrap (wrap64 (8 * a2)))) != 0)) else (none)) else (waggonerref01_Put_p.j0 k l0 a1 a2 false)) else (waggonerref01_Put_p.j0 k l0 a1 a2 true)) = some (r1, r2) := H
  have A4 := Aside0.mk A40
  clear A40
  have HC5 := Aside0.mk H
  clear H
  go_enter Try.func28, Try.ntmps28
  go_upto_region 2 with (first | ((with_reducible refine gate_callee (f := 43) rfl ?_); refine goesL_ (some 12) rfl rfl Try.func43 (by kernel_rfl) rfl #[.int .i64 a2] rfl (by (try simp only [List.map_toArray, List.map_cons, List.map_nil]); first | done | rfl | (simp only [List.length_drop, List.length_take]; rfl)) ?_; (with_reducible refine (waggonerref01_may.calls a2 t116 _ A4.out).mono ?_); rintro e w' ⟨rfl, ⟨nd, rfl⟩⟩; refine ⟨_, rfl, ?_⟩))
  (try simp only [Act.put, List.setIfInBounds_toArray, List.set_cons_zero, List.set_cons_succ])
  go_cut [26] (fun v26 wc => ∃ (kq : Nat) (x26_4 : Bool), v26 = .bool x26_4 ∧ Aside0 (waggonerref01_Put_p.j0 kq l0 a1 a2 x26_4 = some (r1, r2)) ∧ Aside0 (kq ≤ k) ∧ Aside0 (Below w.heap.size w wc))
  case first =>
    have H := HC5.out
    clear HC5
    by_cases c6 : t116 = true
    · subst c6
      have H1 : (if a2 < 8 then (if 0 ≤ (IntKind.u64.wrap (wrap64 (8 * a2))) then (waggonerref01_Put_p.j0 k l0 a1 a2 ((shr .u64 a1 (IntKind.u64.wrap (wrap64 (8 * a2)))) != 0)) else (none)) else (waggonerref01_Put_p.j0 k l0 a1 a2 false)) = some (r1, r2) := by rw [if_pos rfl] at H; exact H
      clear H
      have H := H1
      clear H1
      by_cases c7 : a2 < 8
      · rw [if_pos c7] at H
        have c7b0 : decide (a2 < 8) = true := decide_eq_true c7
        clear c7
        (first | rw [c7b0] | (simp only [i64_w, i32_w]; rw [c7b0]) | skip)
        obtain ⟨ji8, hji8⟩ : ∃ j_ : Int, (IntKind.u64.wrap (wrap64 (8 * a2))) = j_ := ⟨_, rfl⟩
        replace H : (if 0 ≤ (ji8) then (waggonerref01_Put_p.j0 k l0 a1 a2 ((shr .u64 a1 (ji8)) != 0)) else (none)) = some (r1, r2) := by first | (rw [hji8] at H; exact H) | (simp only [hji8] at H ⊢; exact H)
        by_cases c9 : 0 ≤ (ji8)
        · rw [if_pos c9] at H
          have c9b0 := eq_true c9
          have c9b1 : decide (0 ≤ (ji8)) = true := decide_eq_true c9
          clear c9
          obtain ⟨ji10, hji10⟩ : ∃ j_ : Int, (shr .u64 a1 (ji8)) = j_ := ⟨_, rfl⟩
          replace H : (waggonerref01_Put_p.j0 k l0 a1 a2 ((ji10) != 0)) = some (r1, r2) := by first | (rw [hji10] at H; exact H) | (simp only [hji10] at H ⊢; exact H)
          have hji10_ : (a1 / 2 ^ min (ji8).toNat 64) = ji10 := hji10
          have hji10z : (ji8) ≤ 64 → (a1 / 2 ^ (ji8).toNat) = ji10 := shr_small hji10
          have H' := Aside0.mk H
          clear H
          go_wp2
          go_meet
          case rel => exact ⟨_, (((ji10) != 0)), (by first | rfl | (simp; done) | (simp only [← hji10] <;> (first | rfl | simp)) | (simp [*]; done)), H', ⟨by first | omega | exact Nat.le_refl _⟩, ⟨by repeat (first | (with_reducible first | exact HB.out | apply below_alloc | apply pw_below_drewN | apply below_drew1) | exact HB.out)⟩⟩
        · rw [if_neg c9] at H
          exact absurd H (by simp)
      · rw [if_neg c7] at H
        have c7b0 : decide (a2 < 8) = false := decide_eq_false c7
        clear c7
        (first | rw [c7b0] | (simp only [i64_w, i32_w]; rw [c7b0]) | skip)
        have H' := Aside0.mk H
        clear H
        go_wp2
        go_meet
        case rel => exact ⟨_, (false), (by first | rfl | (simp; done) | (simp [*]; done)), H', ⟨by first | omega | exact Nat.le_refl _⟩, ⟨by repeat (first | (with_reducible first | exact HB.out | apply below_alloc | apply pw_below_drewN | apply below_drew1) | exact HB.out)⟩⟩
    · replace c6 := Bool.eq_false_iff.mpr c6
      subst c6
      have H1 : (waggonerref01_Put_p.j0 k l0 a1 a2 true) = some (r1, r2) := by rw [if_neg (show ¬ (false = true) by decide)] at H; exact H
      clear H
      have H := H1
      clear H1
      have H' := Aside0.mk H
      clear H
      go_wp2
      go_meet
      case rel => exact ⟨_, (true), (by first | rfl | (simp; done) | (simp [*]; done)), H', ⟨by first | omega | exact Nat.le_refl _⟩, ⟨by repeat (first | (with_reducible first | exact HB.out | apply below_alloc | apply pw_below_drewN | apply below_drew1) | exact HB.out)⟩⟩
  case rest =>
    clear HC5
    try clear c2
    try clear p2
    try clear c4
    try clear c6
    try clear p6
    try clear c7
    try clear c7b0
    try clear c9
    try clear c9b0
    try clear c9b1
    obtain ⟨kq, x26_4, rfl, HA, HJ4, HB⟩ := hcut
    cases kq with
    | zero => exact absurd HA.out (by simp [waggonerref01_Put_p.j0])
    | succ kj4 =>
      have H := HA.out
      clear HA
      simp only [waggonerref01_Put_p.j0] at H
      by_cases c11 : x26_4 = true
      · subst c11
        have H1 : (some (([] : List Int), 10)) = some (r1, r2) := by rw [if_pos rfl] at H; exact H
        clear H
        have H := H1
        clear H1
        simp only [Option.some.injEq, Prod.mk.injEq] at H
        obtain ⟨rfl, rfl⟩ := H
        go_wp2
        go_ret2
        exact ⟨_, by first | rfl | (simp [errW_none, errW_some] <;> rfl) | (simp [*, errW_none, errW_some] <;> rfl), by first | exact Kd.R_nil _ _ _ _ _ | exact Kd.N_nil _ _ _ _ _ | exact Kd.V_nil _ _ _ _ _ | exact Kd.Q_nil _ _ _ _ _ | exact Kd.S_nil _ _ _ _ _, by repeat (first | (with_reducible first | exact HB.out | apply below_alloc | apply pw_below_drewN | apply below_drew1) | exact HB.out)⟩
      · replace c11 := Bool.eq_false_iff.mpr c11
        subst c11
        have H1 : ((some (([] : List Int) : List Int)).bind fun y117 => (if y117.length + l0.length < 140737488355328 then (waggonerref01_Put_p.l0 kj4 a1 a2 (y117 ++ l0) 0) else (none))) = some (r1, r2) := by rw [if_neg (show ¬ (false = true) by decide)] at H; exact H
        clear H
        have H := H1
        clear H1
        obtain ⟨y117, hy117⟩ : ∃ y_ : List Int, y_ = (([] : List Int)) := ⟨_, rfl⟩
        replace H : (if y117.length + l0.length < 140737488355328 then (waggonerref01_Put_p.l0 kj4 a1 a2 (y117 ++ l0) 0) else (none)) = some (r1, r2) := by first | (rw [hy117]; with_reducible exact H) | (have H2_ := (Option.bind_some _ _).symm.trans H; rw [hy117]; with_reducible exact H2_) | (have H2_ := (Option.bind_some _ _).symm.trans H; with_reducible exact H2_) | with_reducible exact H | (rw [hy117]; exact H) | exact H
        have Ny117 := Aside0.mk hy117
        clear hy117
        by_cases c12 : y117.length + l0.length < 140737488355328
        · rw [if_pos c12] at H
          have LMc12 := Aside0.mk c12
          clear c12
          obtain ⟨y120, hy120⟩ : ∃ y_ : List Int, y_ = (y117 ++ l0) := ⟨_, rfl⟩
          replace H : (waggonerref01_Put_p.l0 kj4 a1 a2 y120 0) = some (r1, r2) := by first | (rw [hy120]; with_reducible exact H) | (have H2_ := (Option.bind_some _ _).symm.trans H; rw [hy120]; with_reducible exact H2_) | (have H2_ := (Option.bind_some _ _).symm.trans H; with_reducible exact H2_) | with_reducible exact H | (rw [hy120]; exact H) | exact H
          have Ny120 := Aside0.mk hy120
          clear hy120
          have H' := Aside0.mk H
          clear H
          go_wp2_with (first | ((with_reducible refine gate_dst (N := 27) rfl ?_); refine Kd.R_lit (Kd.int .u8) _ 5 ?hg (N := 27) ?hd (xs := ([] : List Int)) (inner := []) (ok := fun _ => True) (okp := fun _ => True) ?hr ?hp (fun _ hk => hk) trivial (Below.refl _ _) (Nat.le_refl _) (by simp) ?_; (case hd => rfl); (case hg => rfl); (case hr => first | (go_simp; done) | (go_simp; rfl)); (case hp => exact (Reps.none _ _)); intro v118 w13 ho14 hb hg_ hnew_; clear hg_ hnew_; (first | rw [← Ny117.out] at ho14 | (simp only [Int.reduceToNat] at ho14; rw [← Ny117.out] at ho14)); have n0_ := Aside0.mk (Kd.R_lower ho14 (below_size (by repeat (first | (with_reducible first | exact HB.out | apply below_alloc | apply pw_below_drewN | apply below_drew1) | exact HB.out)))); have n1_ := Aside0.mk (below_step (by repeat (first | (with_reducible first | exact HB.out | apply below_alloc | apply pw_below_drewN | apply below_drew1) | exact HB.out)) hb); clear HB; have HO119 := n0_; have HB := n1_; clear n0_ n1_; clear hb ho14) | ((with_reducible refine gate_builtin (b := .append) (xs := #[.tmp 27, .tmp 28]) rfl ?_); at_builtin; refine Kd.R_append_rows (Kd.int .u8) (w0 := w) w.heap.size rfl (.tmp 27) (.tmp 28) 23 5 (.int .u8 0) 1 rfl Try.underlying23 info5 rfl (by decide) (by omega) v118 y117 l0 _ _ _ (fun _ => True) (fun _ => False) rfl rfl ?aO ?aR (fun _ _ h => h) (fun _ h => h.elim) ?aF ?aB ?aS ?aL ?_; (case aR => repeat (first | exact (Kd.C_below HR0.out HB.out) | (with_reducible refine Kd.C_alloc ?_ _) | (with_reducible refine Kd.C_drewN ?_ _) | (with_reducible refine Kd.C_drew ?_))); (case aB => exact (by repeat (first | (with_reducible first | exact HB.out | apply below_alloc | apply pw_below_drewN | apply below_drew1) | exact HB.out))); (case aF => exact (fun _ _ => trivial)); (case aO => exact (by (with_reducible repeat (first | apply Kd.R_alloc | apply Kd.R_drewN | apply Kd.R_drew)); exact HO119.out)); (case aS => exact (below_size (by repeat (first | (with_reducible first | exact HB.out | apply below_alloc | apply pw_below_drewN | apply below_drew1) | exact HB.out)))); (case aL => have := LMc12.out; omega); intro v121 w15 ho hb hg hat; rw [← Ny120.out] at ho; have n0_ := Aside0.mk (hb); have n1_ := Aside0.mk (ho); clear HB; clear HO119; have HB := n0_; have HO122 := n1_; clear n0_ n1_; clear ho hb hg hat))
          go_loopg [9, 10] kj4 (fun kq v9 v10 w' => ∃ (x9_2 : List Int) (x10_2 : Int), v10 = .int .i64 x10_2 ∧ Aside0 (waggonerref01_Put_p.l0 kq a1 a2 x9_2 x10_2 = some (r1, r2)) ∧ Aside0 (kq ≤ kj4) ∧ Aside0 (Kd.R (Kd.int .u8) 5 w' w.heap.size (fun _ => True) v9 x9_2) ∧ Aside0 (Below w.heap.size w w'))
          case atStart => exact ⟨(y120), (0), (by first | rfl | (simp; done) | (simp [*]; done)), H', ⟨Nat.le_refl _⟩, ⟨by (with_reducible repeat (first | apply Kd.R_alloc | apply Kd.R_drewN | apply Kd.R_drew)); exact HO122.out⟩, ⟨by repeat (first | (with_reducible first | exact HB.out | apply below_alloc | apply pw_below_drewN | apply below_drew1) | exact HB.out)⟩⟩
          case round =>
            clear H'
            try clear c1
            try clear c2
            try clear p2
            try clear c4
            try clear c6
            try clear p6
            try clear c7
            try clear c7b0
            try clear c9
            try clear c9b0
            try clear c9b1
            try clear c11
            try clear c12
            try clear p2
            try clear p6
            obtain ⟨x9_2, x10_2, rfl, HA, HK2, HO_9, HB⟩ := hrel
            cases gk with
            | zero => exact absurd HA.out (by simp [waggonerref01_Put_p.l0])
            | succ k2 =>
              have H := HA.out
              clear HA
              simp only [waggonerref01_Put_p.l0] at H
              by_cases c16 : x10_2 < a2
              · rw [if_pos c16] at H
                have c16b0 : decide (x10_2 < a2) = true := decide_eq_true c16
                clear c16
                obtain ⟨ji17, hji17⟩ : ∃ j_ : Int, (IntKind.u64.wrap (wrap64 (8 * x10_2))) = j_ := ⟨_, rfl⟩
                replace H : (if 0 ≤ (ji17) then (if x9_2.length < 140737488355328 then (waggonerref01_Put_p.l0 k2 a1 a2 (x9_2 ++ [(shr .u64 a1 (ji17)) % 256]) (wrap64 (x10_2 + 1))) else (none)) else (none)) = some (r1, r2) := by first | (rw [hji17] at H; exact H) | (simp only [hji17] at H ⊢; exact H)
                by_cases c18 : 0 ≤ (ji17)
                · rw [if_pos c18] at H
                  have c18b0 := eq_true c18
                  have c18b1 : decide (0 ≤ (ji17)) = true := decide_eq_true c18
                  clear c18
                  obtain ⟨ji19, hji19⟩ : ∃ j_ : Int, (shr .u64 a1 (ji17)) = j_ := ⟨_, rfl⟩
                  replace H : (if x9_2.length < 140737488355328 then (waggonerref01_Put_p.l0 k2 a1 a2 (x9_2 ++ [(ji19) % 256]) (wrap64 (x10_2 + 1))) else (none)) = some (r1, r2) := by first | (rw [hji19] at H; exact H) | (simp only [hji19] at H ⊢; exact H)
                  have hji19_ : (a1 / 2 ^ min (ji17).toNat 64) = ji19 := hji19
                  have hji19z : (ji17) ≤ 64 → (a1 / 2 ^ (ji17).toNat) = ji19 := shr_small hji19
                  by_cases c20 : x9_2.length < 140737488355328
                  · rw [if_pos c20] at H
                    have LMc20 := Aside0.mk c20
                    clear c20
                    obtain ⟨y123, hy123⟩ : ∃ y_ : List Int, y_ = (x9_2 ++ [(ji19) % 256]) := ⟨_, rfl⟩
                    replace H : (waggonerref01_Put_p.l0 k2 a1 a2 y123 (wrap64 (x10_2 + 1))) = some (r1, r2) := by first | (rw [hy123]; with_reducible exact H) | (have H2_ := (Option.bind_some _ _).symm.trans H; rw [hy123]; with_reducible exact H2_) | (have H2_ := (Option.bind_some _ _).symm.trans H; with_reducible exact H2_) | with_reducible exact H | (rw [hy123]; exact H) | exact H
                    have Ny123 := Aside0.mk hy123
                    clear hy123
                    have H' := Aside0.mk H
                    clear H
                    go_wp2_with (first | ((with_reducible refine gate_builtin (b := .append) (xs := #[.tmp 35, .tmp 42]) rfl ?_); at_builtin; refine Kd.R_append (Kd.int .u8) (w0 := w) w.heap.size rfl (.tmp 35) (.tmp 42) 23 5 (.int .u8 0) 1 rfl Try.underlying23 info5 rfl (by decide) (by omega) u9 x9_2 ((ji19) % 256) [.int .u8 ((ji19) % 256)] (fun _ => True) (fun _ => False) rfl rfl ?aP (fun _ hk => hk.elim) ?aF ?aO ?aB ?aS ?aL ?_; (case aP => exact rfl); (case aB => exact (by repeat (first | (with_reducible first | exact HB.out | apply below_alloc | apply pw_below_drewN | apply below_drew1) | exact HB.out))); (case aF => exact (fun _ _ => trivial)); (case aO => exact (by (with_reducible repeat (first | apply Kd.R_alloc | apply Kd.R_drewN | apply Kd.R_drew)); exact HO_9.out)); (case aS => exact (below_size (by repeat (first | (with_reducible first | exact HB.out | apply below_alloc | apply pw_below_drewN | apply below_drew1) | exact HB.out)))); (case aL => have := LMc20.out; omega); intro v124 w21 ho hb hg hat; rw [← Ny123.out] at ho; have n0_ := Aside0.mk (hb); have n1_ := Aside0.mk (ho); clear HB; clear HO_9; have HB := n0_; have HO125 := n1_; clear n0_ n1_; clear ho hb hg hat))
                    go_roundg k2
                    case measure => have := HJ4.out; have := HK2.out; omega
                    case rel => exact ⟨(y123), (wrap64 (x10_2 + 1)), (by first | rfl | (simp; done) | (simp [*]; done)), H', ⟨by have := HJ4.out; have := HK2.out; omega⟩, ⟨by (with_reducible repeat (first | apply Kd.R_alloc | apply Kd.R_drewN | apply Kd.R_drew)); exact HO125.out⟩, ⟨by repeat (first | (with_reducible first | exact HB.out | apply below_alloc | apply pw_below_drewN | apply below_drew1) | exact HB.out)⟩⟩
                  · rw [if_neg c20] at H
                    exact absurd H (by simp)
                · rw [if_neg c18] at H
                  exact absurd H (by simp)
              · rw [if_neg c16] at H
                have c16b0 : decide (x10_2 < a2) = false := decide_eq_false c16
                clear c16
                simp only [Option.some.injEq, Prod.mk.injEq] at H
                obtain ⟨rfl, rfl⟩ := H
                go_wp2
                go_ret2
                exact ⟨_, by first | rfl | (simp [errW_none, errW_some] <;> rfl) | (simp [*, errW_none, errW_some] <;> rfl), by (with_reducible repeat (first | apply Kd.R_alloc | apply Kd.R_drewN | apply Kd.R_drew)); exact HO_9.out, by repeat (first | (with_reducible first | exact HB.out | apply below_alloc | apply pw_below_drewN | apply below_drew1) | exact HB.out)⟩
        · rw [if_neg c12] at H
          exact absurd H (by simp)

end Go.Proofs.Ytiaoehjldbnpkaa.PP

namespace Go.Proofs.Ytiaoehjldbnpkaa.PP
open Go.RowKit Go.Proofs.YtiaoehjldbnpkaaW.PrintWords Go.Proofs.YtiaoehjldbnpkaaW.PrintLast Go.Proofs.YtiaoehjldbnpkaaW.PrintMore
attribute [local go_sem] max2_int min2_int max_two min_two max_three min_three max_four min_four   -- for this text's walks alone
set_option linter.unusedVariables false
set_option linter.unusedSimpArgs false

/-! ### waggonerref01_Put: function 28 -/
def waggonerref01_Put.f (l0 : List Int) (a1 : Int) (a2 : Int) : Option (List Int × Int) := if 0 ≤ a1 ∧ a1 < 18446744073709551616 ∧ l0.length < 70368744177664 then some (Pl.putS l0 a1 a2) else none
theorem waggonerref01_may.tells (s : Int) : waggonerref01_may.f s = some (Pl.okS s) := by
  unfold waggonerref01_may.f Pl.okS
  by_cases h1 : s = 1
  · subst h1; rfl
  by_cases h2 : s = 2
  · subst h2; rfl
  by_cases h4 : s = 4
  · subst h4; rfl
  by_cases h8 : s = 8
  · subst h8; rfl
  simp [h1, h2, h4, h8]
theorem u64_8 {x : Int} (h0 : 0 ≤ x) (h1 : x ≤ 8) : IntKind.u64.wrap (wrap64 (8 * x)) = 8 * x := by
  have e : wrap64 (8 * x) = 8 * x := by unfold wrap64; omega
  rw [e, IntKind.wrap_u64]
  omega
theorem shr_8 (n i : Nat) (hi : i ≤ 8) : shr .u64 (n : Int) (8 * (i : Int)) = ((n / 2 ^ (8 * i) : Nat) : Int) := by
  unfold shr
  rw [show (8 * (i : Int)).toNat = 8 * i from by omega, Nat.min_eq_left (show 8 * i ≤ IntKind.u64.bits from by show 8 * i ≤ 64; omega)]
  push_cast
  rfl
theorem waggonerref01_Put.loop : ∀ (d : Nat) (k : Nat) (n : Nat) (l : List Int) (s i : Nat), d < k → i + d = s → s ≤ 8 → l.length + d < 140737488355328 → waggonerref01_Put_p.l0 k (n : Int) (s : Int) l (i : Int) = some (l ++ Pl.leB d (n / 2 ^ (8 * i)), 0)
  | 0, k, n, l, s, i, hk, hd, hs, hl => by
    obtain ⟨k, rfl⟩ : ∃ m, k = m + 1 := ⟨k - 1, by omega⟩
    simp only [waggonerref01_Put_p.l0]
    rw [if_neg (by omega), Pl.leB, List.append_nil]
  | d + 1, k, n, l, s, i, hk, hd, hs, hl => by
    obtain ⟨k, rfl⟩ : ∃ m, k = m + 1 := ⟨k - 1, by omega⟩
    simp only [waggonerref01_Put_p.l0]
    rw [if_pos (by omega), u64_8 (by omega) (by omega), if_pos (by omega), if_pos (by omega), shr_8 n i (by omega), show wrap64 ((i : Int) + 1) = ((i + 1 : Nat) : Int) from by unfold wrap64; omega,
      waggonerref01_Put.loop d k n _ s (i + 1) (by omega) (by omega) hs (by rw [List.length_append, List.length_singleton]; omega)]
    rw [Pl.leB, List.append_assoc, List.singleton_append, show n / 2 ^ (8 * (i + 1)) = n / 2 ^ (8 * i) / 256 from by rw [Nat.div_div_eq_div_mul, show 8 * (i + 1) = 8 * i + 8 from by omega, Nat.pow_add]]
    rfl
theorem waggonerref01_Put.tells {l0 : List Int} {a1 a2 : Int} {r : List Int × Int} (h : waggonerref01_Put.f l0 a1 a2 = some r) : waggonerref01_Put_p.f 11 l0 a1 a2 = some r := by
  unfold waggonerref01_Put.f at h
  split at h
  case isFalse => cases h
  rename_i hh
  obtain ⟨h0, h1, h2⟩ := hh
  obtain rfl := Option.some.inj h
  obtain ⟨n, rfl⟩ := Int.eq_ofNat_of_zero_le h0
  have hgo : ∀ s : Nat, s ≤ 8 → waggonerref01_Put_p.j0 11 l0 (n : Int) (s : Int) false = some (l0 ++ Pl.leB s n, 0) := by
    intro s hs
    simp only [waggonerref01_Put_p.j0]
    rw [if_neg (by decide), Option.bind_some, if_pos (by rw [List.length_nil]; omega), List.nil_append]
    have := waggonerref01_Put.loop s 10 n l0 s 0 (by omega) (by omega) hs (by omega)
    rw [Nat.mul_zero, Nat.pow_zero, Nat.div_one] at this
    exact this
  unfold waggonerref01_Put_p.f
  rw [waggonerref01_may.tells, Option.bind_some]
  unfold Pl.putS
  by_cases hs : Pl.okS a2 = true
  · rw [if_pos hs]
    rcases Pl.okS_iff.1 hs with rfl | rfl | rfl | rfl
    · rw [if_pos (by decide), u64_8 (by decide) (by decide), if_pos (by decide), Pl.fits_1, show (8 * (1 : Int)) = 8 * ((1 : Nat) : Int) from rfl, shr_8 n 1 (by decide)]
      by_cases hf : (n : Int) < 256
      · rw [if_pos (decide_eq_true hf), show ((((n / 2 ^ (8 * 1) : Nat) : Int) != 0)) = false from by simp; omega]
        exact hgo 1 (by decide)
      · rw [if_neg (by simpa using hf), show ((((n / 2 ^ (8 * 1) : Nat) : Int) != 0)) = true from by simp; omega]
        rfl
    · rw [if_pos (by decide), u64_8 (by decide) (by decide), if_pos (by decide), Pl.fits_2, show (8 * (2 : Int)) = 8 * ((2 : Nat) : Int) from rfl, shr_8 n 2 (by decide)]
      by_cases hf : (n : Int) < 65536
      · rw [if_pos (decide_eq_true hf), show ((((n / 2 ^ (8 * 2) : Nat) : Int) != 0)) = false from by simp; omega]
        exact hgo 2 (by decide)
      · rw [if_neg (by simpa using hf), show ((((n / 2 ^ (8 * 2) : Nat) : Int) != 0)) = true from by simp; omega]
        rfl
    · rw [if_pos (by decide), u64_8 (by decide) (by decide), if_pos (by decide), Pl.fits_4, show (8 * (4 : Int)) = 8 * ((4 : Nat) : Int) from rfl, shr_8 n 4 (by decide)]
      by_cases hf : (n : Int) < 4294967296
      · rw [if_pos (decide_eq_true hf), show ((((n / 2 ^ (8 * 4) : Nat) : Int) != 0)) = false from by simp; omega]
        exact hgo 4 (by decide)
      · rw [if_neg (by simpa using hf), show ((((n / 2 ^ (8 * 4) : Nat) : Int) != 0)) = true from by simp; omega]
        rfl
    · rw [if_neg (by decide), if_pos (Pl.fits_8 (by omega))]
      exact hgo 8 (by decide)
  · rw [if_neg hs, if_neg (by rw [Pl.fits_no (by simpa using hs)]; decide)]
    rfl
theorem waggonerref01_Put.calls (A0 : Option Addr) (c0 : Nat) (l0 : List Int) (a1 : Int) (a2 : Int) (r1 : List Int) (r2 : Int) (w : World) (hr0 : Kd.C (Kd.int .u8) w A0 l0.length l0) (hc0 : l0.length ≤ c0) (h : waggonerref01_Put.f l0 a1 a2 = some (r1, r2)) :
    Calls Try.prog 28 #[.slice A0 l0.length c0, .int .u64 a1, .int .i64 a2] w fun e w' => ∃ v0_ : Value, e = .returned (.tuple #[v0_, .int .i64 r2]) ∧ Kd.R (Kd.int .u8) 5 w' w.heap.size (fun _ => True) v0_ r1 ∧ Below w.heap.size w w' :=
  waggonerref01_Put_p.calls 11 A0 c0 l0 a1 a2 r1 r2 w hr0 hc0 (waggonerref01_Put.tells h)

end Go.Proofs.Ytiaoehjldbnpkaa.PP

namespace Go.Proofs.Ytiaoehjldbnpkaa.PP
open Go.RowKit Go.Proofs.YtiaoehjldbnpkaaW.PrintWords Go.Proofs.YtiaoehjldbnpkaaW.PrintLast Go.Proofs.YtiaoehjldbnpkaaW.PrintMore
attribute [local go_sem] max2_int min2_int max_two min_two max_three min_three max_four min_four   -- for this text's walks alone
set_option linter.unusedVariables false
set_option linter.unusedSimpArgs false

/-! ### waggonerref01_size: function 45 -/
def waggonerref01_size.f (a0 : Int) : Option (Int) := if a0 = 98 then (some 1) else (if a0 = 104 then (some 2) else (if a0 = 119 then (some 4) else (if a0 = 113 then (some 8) else (some 0))))
set_option maxHeartbeats 8000000 in
set_option maxRecDepth 100000 in
theorem waggonerref01_size.calls (a0 : Int) (r : Int) (w : World) (h : waggonerref01_size.f a0 = some r) :
    Calls Try.prog 45 #[.int .u8 a0] w fun e w' => e = .returned (.int .i64 r) ∧ Drawn0 w w' := by
  have H : (if a0 = 98 then (some 1) else (if a0 = 104 then (some 2) else (if a0 = 119 then (some 4) else (if a0 = 113 then (some 8) else (some 0))))) = some r := h
  clear h
  by_cases c2 : a0 = 98
  · rw [if_pos c2] at H
    have c2b0 : (a0 == 98) = true := beq_iff_eq.mpr c2
    have c2b1 : (a0 != 98) = false := bne_eq_false_iff_eq.mpr c2
    clear c2
    obtain rfl := Option.some.inj H
    go_enter Try.func45, Try.ntmps45
    go_wp2
    go_ret
    exact ⟨by first | rfl | (simp; done) | (simp [*]; done), by repeat (first | exact Drawn0.refl _ | apply Drawn0.step)⟩
  · rw [if_neg c2] at H
    have c2b0 : (a0 == 98) = false := beq_eq_false_iff_ne.mpr c2
    have c2b1 : (a0 != 98) = true := bne_iff_ne.mpr c2
    by_cases c3 : a0 = 104
    · rw [if_pos c3] at H
      have c3b0 : (a0 == 104) = true := beq_iff_eq.mpr c3
      have c3b1 : (a0 != 104) = false := bne_eq_false_iff_eq.mpr c3
      clear c3
      obtain rfl := Option.some.inj H
      go_enter Try.func45, Try.ntmps45
      go_wp2
      go_ret
      exact ⟨by first | rfl | (simp; done) | (simp [*]; done), by repeat (first | exact Drawn0.refl _ | apply Drawn0.step)⟩
    · rw [if_neg c3] at H
      have c3b0 : (a0 == 104) = false := beq_eq_false_iff_ne.mpr c3
      have c3b1 : (a0 != 104) = true := bne_iff_ne.mpr c3
      by_cases c4 : a0 = 119
      · rw [if_pos c4] at H
        have c4b0 : (a0 == 119) = true := beq_iff_eq.mpr c4
        have c4b1 : (a0 != 119) = false := bne_eq_false_iff_eq.mpr c4
        clear c4
        obtain rfl := Option.some.inj H
        go_enter Try.func45, Try.ntmps45
        go_wp2
        go_ret
        exact ⟨by first | rfl | (simp; done) | (simp [*]; done), by repeat (first | exact Drawn0.refl _ | apply Drawn0.step)⟩
      · rw [if_neg c4] at H
        have c4b0 : (a0 == 119) = false := beq_eq_false_iff_ne.mpr c4
        have c4b1 : (a0 != 119) = true := bne_iff_ne.mpr c4
        by_cases c5 : a0 = 113
        · rw [if_pos c5] at H
          have c5b0 : (a0 == 113) = true := beq_iff_eq.mpr c5
          have c5b1 : (a0 != 113) = false := bne_eq_false_iff_eq.mpr c5
          clear c5
          obtain rfl := Option.some.inj H
          go_enter Try.func45, Try.ntmps45
          go_wp2
          go_ret
          exact ⟨by first | rfl | (simp; done) | (simp [*]; done), by repeat (first | exact Drawn0.refl _ | apply Drawn0.step)⟩
        · rw [if_neg c5] at H
          have c5b0 : (a0 == 113) = false := beq_eq_false_iff_ne.mpr c5
          have c5b1 : (a0 != 113) = true := bne_iff_ne.mpr c5
          obtain rfl := Option.some.inj H
          go_enter Try.func45, Try.ntmps45
          go_wp2
          go_ret
          exact ⟨by first | rfl | (simp; done) | (simp [*]; done), by repeat (first | exact Drawn0.refl _ | apply Drawn0.step)⟩

end Go.Proofs.Ytiaoehjldbnpkaa.PP
