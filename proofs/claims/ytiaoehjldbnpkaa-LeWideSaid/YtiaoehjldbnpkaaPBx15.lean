/- Functions of the program as Lean functions, and that the Go code comes to just their answers: no condition but that the function says so. (Written by a program of this workplace over the kit's print, with contracts by hand.) -/
import Derived.Test.YtiaoehjldbnpkaaPBx0
import Derived.Test.YtiaoehjldbnpkaaPBx4
import Derived.Test.YtiaoehjldbnpkaaPBx14
namespace Go.Proofs.Ytiaoehjldbnpkaa.PB
open Go.RowKit Go.Proofs.YtiaoehjldbnpkaaW.PrintWords Go.Proofs.YtiaoehjldbnpkaaW.PrintLast Go.Proofs.YtiaoehjldbnpkaaW.PrintMore
attribute [local go_sem] max2_int min2_int max_two min_two max_three min_three max_four min_four   -- for this text's walks alone
set_option linter.unusedVariables false
set_option linter.unusedSimpArgs false

/-! ### le_Pack: function 31 -/
def le_Pack.f (a0 : ByteArray) (l1 : List Int) : Option (List Int × Int) := if Pl.u64B l1 = true ∧ a0.size < 2147483648 then some (Pl.packS (Pl.fb a0) l1) else none
/-- A row of the call's own is kept when an iterator ahead of it moves on. -/
theorem R_iter {α : Type} {d : Kd α} {e base : Nat} {ok : Nat → Prop} {v : Value} {xs : List α} {w : World} {B : Nat} (h : d.R e w base ok v xs) (hB : B < base) (s : ByteArray) (p : Nat) : d.R e (w.iterAt B s p) base ok v xs :=
  Kd.R_mono (Kd.R_move (Kd.R_bound h) (fun k hk => Lib.iterAt_other w B k s p (by have := hk.2.1; omega))) (fun _ hk => hk.1)
theorem rune_size (s : ByteArray) (i : Nat) (h : i < s.size) : Pl.letS ((Utf8.decode s i).1 : Int) = Pl.letS ((Pl.fb s)[i]'(by rw [Pl.fb_length]; exact h)) ∧ (Pl.letS ((Pl.fb s)[i]'(by rw [Pl.fb_length]; exact h)) ≠ 0 → (Utf8.decode s i).2 = 1) := by
  have e : (Pl.fb s)[i]'(by rw [Pl.fb_length]; exact h) = (((s[i]'h).toNat : Nat) : Int) := by
    simp only [Pl.fb, List.getElem_map]
    rfl
  rw [e]
  by_cases ha : (s[i]'h).toNat < 128
  · rw [decode_ascii s i h ha]
    exact ⟨rfl, fun _ => rfl⟩
  · have hd := decode_high s i h (by omega)
    have z : ∀ c : Nat, 128 ≤ c → Pl.letS (c : Int) = 0 := fun c hc => by
      unfold Pl.letS
      rw [if_neg (by omega), if_neg (by omega), if_neg (by omega), if_neg (by omega)]
    rw [z _ hd.1, z _ (by omega)]
    exact ⟨rfl, fun h => absurd rfl h⟩
set_option maxHeartbeats 8000000 in
set_option maxRecDepth 2000000 in
theorem le_Pack.calls (a0 : ByteArray) (A1 : Option Addr) (c1 : Nat) (l1 : List Int) (r1 : List Int) (r2 : Int) (w : World) (hr1 : Kd.C (Kd.int .u64) w A1 l1.length l1) (hc1 : l1.length ≤ c1) (h : le_Pack.f a0 l1 = some (r1, r2)) :
    Calls Try.prog 31 #[.string a0, .slice A1 l1.length c1] w fun e w' => ∃ v0_ : Value, e = .returned (.tuple #[v0_, .int .i64 r2]) ∧ Kd.R (Kd.int .u8) 5 w' w.heap.size (fun _ => True) v0_ r1 ∧ Below w.heap.size w w' := by
  unfold le_Pack.f at h
  split at h
  case isFalse => cases h
  rename_i hh
  obtain ⟨hu, hsz⟩ := hh
  have HP0 := Aside0.mk (Option.some.inj h)
  have HU := Aside0.mk hu
  have HR1 := Aside0.mk hr1
  have HC1 := Aside0.mk hc1
  clear h hu hr1 hc1
  obtain ⟨B, hB⟩ : ∃ B, B = w.heap.size := ⟨_, rfl⟩
  have HBN := Aside0.mk hB
  clear hB
  have hk0 : Aside0 ((w.iter a0 0).heap[B]? = some (.stringIter a0 0)) := ⟨by rw [HBN.out]; exact World.iter_heap w a0 0⟩
  have hb0 : Aside0 (Below w.heap.size w (w.iter a0 0)) := ⟨(Below.refl _ w).alloc (Nat.le_refl _) _⟩
  have hs0 : Aside0 (B + 1 ≤ (w.iter a0 0).heap.size) := ⟨by rw [HBN.out]; simp [World.iter]⟩
  go_enter Try.func31, Try.ntmps31
  go_wp2
  rw [← HBN.out]
  generalize w.iter a0 0 = w0 at hk0 hb0 hs0 ⊢
  go_loopw [4, 6] (fun v at_ wr => ∃ (i : Nat) (out : List Int), i ≤ a0.size ∧ i ≤ l1.length ∧ at_ = .int .i64 i ∧ Aside0 (out.length ≤ 8 * i) ∧ Aside0 (wr.heap[B]? = some (.stringIter a0 i)) ∧ Aside0 (Kd.R (Kd.int .u8) 5 wr (B + 1) (fun _ => True) v out) ∧ Aside0 (Pl.packGo out ((Pl.fb a0).drop i) (l1.drop i) = (r1, r2)) ∧ Aside0 (B + 1 ≤ wr.heap.size) ∧ Aside0 (Below w.heap.size w wr)) (fun _ at_ _ => a0.size - (intOf at_).toNat)
  case atStart => exact ⟨0, [], by omega, by omega, rfl, ⟨by simp⟩, hk0, ⟨Kd.R_nil _ _ _ _ _⟩, HP0, hs0, hb0⟩
  case round =>
    clear hk0 hb0 hs0 HP0
    obtain ⟨i, out, hi, hil, rfl, HOL, hk, HO, HP, HS, HB⟩ := hrel
    by_cases hp : i < a0.size
    · obtain ⟨rs, rn⟩ := rune_size a0 i hp
      have hif : i < (Pl.fb a0).length := by rw [Pl.fb_length]; exact hp
      have hle := decode_le a0 i
      obtain ⟨z, hz⟩ : ∃ z, z = Pl.letS ((Pl.fb a0)[i]'hif) := ⟨_, rfl⟩
      rw [← hz] at rs rn
      have hnext : ∀ ty, (Instr.next (.pointer (some ⟨B, 0, none⟩)) true ty).run Try.prog wr = _ := fun ty => Lib.run_next_any_at wr B a0 i ty hk.out hp
      obtain ⟨q, hq⟩ : ∃ q, q = i + (Utf8.decode a0 i).2 := ⟨_, rfl⟩
      rw [← hq] at hnext
      have HRN : Aside0 (z ≠ 0 → q = i + 1) := ⟨fun h => by rw [hq, rn h]⟩
      obtain ⟨c, hc⟩ : ∃ c, c = (Utf8.decode a0 i).1 := ⟨_, rfl⟩
      rw [← hc] at hnext rs hle
      have HRS : Aside0 (le_size.f (c : Int) = some z) := ⟨by unfold le_size.f; rw [if_pos ⟨by omega, by omega⟩, rs]⟩
      clear hq hc rs rn hle
      have hk1 := Aside0.mk (Lib.iterAt_heap wr B a0 i q hk.out)
      have hn1 := Aside0.mk (Lib.below_iterAt (k := B) HB.out (by rw [HBN.out]; exact Nat.le_refl _) a0 q)
      have HO1 := Aside0.mk (R_iter HO.out (Nat.lt_succ_self B) a0 q)
      have hs1 : Aside0 (B + 1 ≤ (wr.iterAt B a0 q).heap.size) := ⟨by rw [Lib.iterAt_size]; exact HS.out⟩
      clear hk HO HS HB
      generalize wr.iterAt B a0 q = W1 at hnext hk1 hn1 HO1 hs1
      by_cases hl : i < l1.length
      · have d0 : ((i : Int) == (l1.length : Int)) = false := by simp; omega
        have d1 : (i == l1.length) = false := by simp; omega
        have hrd : rd l1 (i : Int) = l1[i]'hl := by unfold rd; rw [Int.toNat_natCast, List.getD_eq_getElem?_getD, List.getElem?_eq_getElem hl, Option.getD_some]
        have hnb := Pl.u64B_iff.1 HU.out _ (List.getElem_mem hl)
        obtain ⟨x, hx⟩ : ∃ x, x = l1[i]'hl := ⟨_, rfl⟩
        rw [← hx] at hrd hnb
        have HX := Aside0.mk hx
        clear hx
        have HRX := Aside0.mk (Kd.C_below HR1.out hn1.out)
        obtain ⟨ad, rfl, -⟩ := Kd.at_int HRX.out (i : Int) (by omega) (by omega)
        have hcell : ∀ W : World, Kd.C (Kd.int .u64) W (some ad) l1.length l1 → W.cell? (ad.add i) = some (.int .u64 x) := fun W h => by
          obtain ⟨ad', e, hx'⟩ := Kd.at_int h (i : Int) (by omega) (by omega)
          cases e
          rw [hrd, Int.toNat_natCast] at hx'
          exact hx'
        obtain ⟨Ao, co, rfl, hco, hro⟩ := Kd.R_reads HO1.out
        have HCo := Aside0.mk hco
        have HRo := Aside0.mk hro
        have HRn := HRX
        have HB := Aside0.mk (Below.refl W1.heap.size W1)
        have HL := Aside0.mk hcell
        have k0 := eq_true hl
        have HPut : Aside0 (le_Put.f out x z = some (Pl.putS out x z)) := ⟨by unfold le_Put.f; rw [if_pos ⟨hnb.1, hnb.2, by have := HOL.out; omega⟩]⟩
        clear hro hco HRX hcell hrd
        obtain ⟨p, E, HPE⟩ : ∃ p E, Aside0 (Pl.putS out x z = (p, E)) := ⟨_, _, ⟨rfl⟩⟩
        rw [HPE.out] at HPut
        go_wp2
        have HB' := Aside0.mk (below_drew HB.out); clear HB; have HB := HB'; clear HB'
        have HRn' := Aside0.mk (Kd.C_drew HRn.out); clear HRn; have HRn := HRn'; clear HRn'
        have HRo' := Aside0.mk (Kd.C_drew HRo.out); clear HRo; have HRo := HRo'; clear HRo'
        refine start_ (n := 13) (S := fun w' => w'.cell? (ad.add i) = some (.int .u64 x)) (ds := []) #[false, false, false, false, false, false, false, false, false, false, false, false, false] (by kernel_rfl) rfl rfl ((HL.out _ HRn.out)) (fun hHeld => ?_)
        generalize W1.drew = wd951 at HB HRn HRo hHeld ⊢
        refine pure_ (i := 0) (N := some 19) (v := ?_) (a' := ?_) #[true, false, false, false, false, false, false, false, false, false, false, false, false] rfl rfl (by kernel_rfl) (fun _ _ _ h => h) (Or.inl ⟨by rfl, ?_⟩) ?_ ?_
        rotate_left
        · intro w'
          go_simp
          with_reducible rfl
        rotate_left
        · simp only [Act.put, List.setIfInBounds_toArray, List.set_cons_zero, List.set_cons_succ, i64_w, i32_w]
          rfl
        refine pure_ (i := 1) (N := some 20) (v := ?_) (a' := ?_) #[true, true, false, false, false, false, false, false, false, false, false, false, false] rfl rfl (by kernel_rfl) (fun _ _ _ h => h) (Or.inl ⟨by rfl, ?_⟩) ?_ ?_
        rotate_left
        · intro w'
          go_simp
          with_reducible rfl
        rotate_left
        · simp only [Act.put, List.setIfInBounds_toArray, List.set_cons_zero, List.set_cons_succ, i64_w, i32_w]
          rfl
        refine pure_ (i := 2) (N := some 21) (v := ?_) (a' := ?_) #[true, true, true, false, false, false, false, false, false, false, false, false, false] rfl rfl (by kernel_rfl) (fun _ _ _ h => h) (Or.inl ⟨by rfl, ?_⟩) ?_ ?_
        rotate_left
        · intro w'
          go_simp
          with_reducible rfl
        rotate_left
        · simp only [Act.put, List.setIfInBounds_toArray, List.set_cons_zero, List.set_cons_succ, i64_w, i32_w]
          rfl
        refine pure_ (i := 3) (N := some 22) (v := ?_) (a' := ?_) #[true, true, true, true, false, false, false, false, false, false, false, false, false] rfl rfl (by kernel_rfl) (fun _ _ _ h => h) (Or.inl ⟨by rfl, ?_⟩) ?_ ?_
        rotate_left
        · intro w'
          go_simp
          with_reducible rfl
        rotate_left
        · simp only [Act.put, List.setIfInBounds_toArray, List.set_cons_zero, List.set_cons_succ, i64_w, i32_w]
          rfl
        refine pure_ (i := 5) (N := some 24) (v := ?_) (a' := ?_) #[true, true, true, true, false, true, false, false, false, false, false, false, false] rfl rfl (by kernel_rfl) (fun _ _ _ h => h) (Or.inl ⟨by rfl, ?_⟩) ?_ ?_
        rotate_left
        · intro w'
          go_simp
          with_reducible rfl
        rotate_left
        · simp only [Act.put, List.setIfInBounds_toArray, List.set_cons_zero, List.set_cons_succ, i64_w, i32_w]
          rfl
        refine take_ (i := 4) (N := some 23) (v := ?_) (a' := ?_) #[true, true, true, true, true, true, false, false, false, false, false, false, false] rfl rfl (by kernel_rfl) (fun _ _ _ h => h) (Or.inl ⟨by rfl, ?_⟩) hHeld ?_ ?_
        rotate_left
        · rintro w' s0
          go_simp
          with_reducible rfl
        rotate_left
        · simp only [Act.put, List.setIfInBounds_toArray, List.set_cons_zero, List.set_cons_succ, i64_w, i32_w]
          rfl
        refine one_ (i := 6) (N := some 25) #[true, true, true, true, true, true, true, false, false, false, false, false, false] rfl rfl (by kernel_rfl) (by decide) (fun K hK => ?_)
        refine goes_ Try.func44 (by kernel_rfl) rfl #[.int .i32 (c : Int)] (by rfl) rfl rfl (by simp only [List.map_toArray, List.map_cons, List.map_nil]; rfl) ?_
        refine (le_size.calls _ _ _ HRS.out).mono ?_
        rintro e w95106 ⟨rfl, hb⟩
        refine ⟨_, rfl, ?_⟩
        have HB' := Aside0.mk (below_step HB.out hb); clear HB; have HB := HB'; clear HB'
        have HRn' := Aside0.mk (Kd.C_below HRn.out hb); clear HRn; have HRn := HRn'; clear HRn'
        have HRo' := Aside0.mk (Kd.C_below HRo.out hb); clear HRo; have HRo := HRo'; clear HRo'
        clear hb
        refine hK.out _ _ ((HL.out _ HRn.out)) (fun hHeld => ?_)
        clear hK K
        refine norm_ (a' := ?_) ?_ ?_
        rotate_left
        · show Act.put _ (some 25) _ = _
          simp only [Act.put, List.setIfInBounds_toArray, List.set_cons_zero, List.set_cons_succ, i64_w, i32_w]
          rfl
        refine one_ (i := 7) (N := some 26) #[true, true, true, true, true, true, true, true, false, false, false, false, false] rfl rfl (by kernel_rfl) (by decide) (fun K hK => ?_)
        refine goes_ Try.func27 (by kernel_rfl) rfl #[.slice Ao out.length co, .int .u64 x, .int .i64 z] (by rfl) rfl rfl (by simp only [List.map_toArray, List.map_cons, List.map_nil]; rfl) ?_
        refine (le_Put.calls Ao co out x z _ _ _ HRo.out HCo.out HPut.out).mono ?_
        rintro e w95107 ⟨vp, rfl, hop, hb⟩
        refine ⟨_, rfl, ?_⟩
        have HZp := Aside0.mk HB.out.size
        have HB' := Aside0.mk (below_step HB.out hb); clear HB; have HB := HB'; clear HB'
        have HRn' := Aside0.mk (Kd.C_below HRn.out hb); clear HRn; have HRn := HRn'; clear HRn'
        have HRo' := Aside0.mk (Kd.C_below HRo.out hb); clear HRo; have HRo := HRo'; clear HRo'
        clear hb
        have HOp := Aside0.mk hop
        obtain ⟨Ap, cp, rfl, hcp, hrp⟩ := Kd.R_reads hop
        have HRp := Aside0.mk hrp
        have HCp := Aside0.mk hcp
        clear hrp hcp hop
        refine hK.out _ _ ((HL.out _ HRn.out)) (fun hHeld => ?_)
        clear hK K
        refine norm_ (a' := ?_) ?_ ?_
        rotate_left
        · show Act.put _ (some 26) _ = _
          simp only [Act.put, List.setIfInBounds_toArray, List.set_cons_zero, List.set_cons_succ, i64_w, i32_w]
          rfl
        refine pure_ (i := 8) (N := some 18) (v := ?_) (a' := ?_) #[true, true, true, true, true, true, true, true, true, false, false, false, false] rfl rfl (by kernel_rfl) (fun _ _ _ h => h) (Or.inl ⟨by rfl, ?_⟩) ?_ ?_
        rotate_left
        · intro w'
          go_simp
          with_reducible rfl
        rotate_left
        · simp only [Act.put, List.setIfInBounds_toArray, List.set_cons_zero, List.set_cons_succ, i64_w, i32_w]
          rfl
        refine pure_ (i := 9) (N := some 27) (v := ?_) (a' := ?_) #[true, true, true, true, true, true, true, true, true, true, false, false, false] rfl rfl (by kernel_rfl) (fun _ _ _ h => h) (Or.inl ⟨by rfl, ?_⟩) ?_ ?_
        rotate_left
        · intro w'
          go_simp
          with_reducible rfl
        rotate_left
        · simp only [Act.put, List.setIfInBounds_toArray, List.set_cons_zero, List.set_cons_succ, i64_w, i32_w]
          rfl
        refine pure_ (i := 10) (N := some 28) (v := ?_) (a' := ?_) #[true, true, true, true, true, true, true, true, true, true, true, false, false] rfl rfl (by kernel_rfl) (fun _ _ _ h => h) (Or.inl ⟨by rfl, ?_⟩) ?_ ?_
        rotate_left
        · intro w'
          go_simp
          with_reducible rfl
        rotate_left
        · simp only [Act.put, List.setIfInBounds_toArray, List.set_cons_zero, List.set_cons_succ, i64_w, i32_w]
          rfl
        refine pure_ (i := 11) (N := some 4) (v := ?_) (a' := ?_) #[true, true, true, true, true, true, true, true, true, true, true, true, false] rfl rfl (by kernel_rfl) (fun _ _ _ h => h) (Or.inl ⟨by rfl, ?_⟩) ?_ ?_
        rotate_left
        · intro w'
          go_simp
          with_reducible rfl
        rotate_left
        · simp only [Act.put, List.setIfInBounds_toArray, List.set_cons_zero, List.set_cons_succ, i64_w, i32_w]
          rfl
        refine pure_ (i := 12) (N := some 5) (v := ?_) (a' := ?_) #[true, true, true, true, true, true, true, true, true, true, true, true, true] rfl rfl (by kernel_rfl) (fun _ _ _ h => h) (Or.inl ⟨by rfl, ?_⟩) ?_ ?_
        rotate_left
        · intro w'
          go_simp
          with_reducible rfl
        rotate_left
        · simp only [Act.put, List.setIfInBounds_toArray, List.set_cons_zero, List.set_cons_succ, i64_w, i32_w]
          rfl
        refine done_ (by kernel_rfl) ?_
        have HBz := Aside0.mk (below_then hn1.out hn1.out.size HB.out)
        by_cases hf : Pl.fits x z = true
        · have e := HPE.out
          unfold Pl.putS at e
          rw [if_pos hf] at e
          injection e with e1 e2
          have HE1 := Aside0.mk e1
          subst e2
          clear e1
          go_wp2
          go_roundw
          case rel =>
            have h8 : z ≤ 8 ∧ 0 ≤ z ∧ z ≠ 0 := by
              unfold Pl.fits at hf
              rw [Bool.and_eq_true, Pl.okS_iff] at hf
              omega
            refine ⟨i + 1, p, by omega, by omega, by go_num, ⟨?_⟩, ⟨?_⟩, ⟨Kd.R_lower HOp.out (Nat.le_trans hs1.out ?_)⟩, ⟨?_⟩, ⟨?_⟩, HBz⟩
            · rw [← HE1.out, List.length_append, Pl.leB_length]; have := HOL.out; omega
            · rw [HB.out.block B (by have := hs1.out; omega), hk1.out, HRN.out h8.2.2]
            · exact HZp.out
            · have e := HP.out
              rw [List.drop_eq_getElem_cons hif, List.drop_eq_getElem_cons hl, Pl.packGo, ← hz, ← HX.out, if_pos hf, HE1.out] at e
              exact e
            · exact Nat.le_trans hs1.out HB.out.size
          case measure => simp [intOf]; omega
        · have e := HPE.out
          unfold Pl.putS at e
          rw [if_neg hf] at e
          injection e with e1 e2
          subst e2
          clear e1
          go_wp2
          go_ret2
          have e := HP.out
          rw [List.drop_eq_getElem_cons hif, List.drop_eq_getElem_cons hl, Pl.packGo, ← hz, ← HX.out, if_neg hf] at e
          injection e with e1 e2
          subst e1 e2
          exact ⟨_, rfl, Kd.R_nil _ _ _ _ _, HBz.out⟩
      · have d0 : ((i : Int) == (l1.length : Int)) = true := by simp; omega
        have d1 : (i == l1.length) = true := by simp; omega
        go_wp2
        go_ret2
        have e := HP.out
        rw [Pl.packGo_ne _ _ _ (by rw [List.length_drop, List.length_drop, Pl.fb_length]; omega)] at e
        injection e with e1 e2
        subst e1 e2
        exact ⟨_, rfl, Kd.R_nil _ _ _ _ _, hn1.out⟩
    · have hnext : ∀ ty, (Instr.next (.pointer (some ⟨B, 0, none⟩)) true ty).run Try.prog wr = _ := fun ty => Lib.run_next_end_at wr B a0 i ty hk.out hp
      by_cases hl : i < l1.length
      · have d0 : decide ((i : Int) < (l1.length : Int)) = true := decide_eq_true (by omega)
        have d1 : decide (i < l1.length) = true := decide_eq_true hl
        go_wp2
        go_ret2
        have e := HP.out
        rw [Pl.packGo_ne _ _ _ (by rw [List.length_drop, List.length_drop, Pl.fb_length]; omega)] at e
        injection e with e1 e2
        subst e1 e2
        exact ⟨_, rfl, Kd.R_nil _ _ _ _ _, HB.out⟩
      · have d0 : decide ((i : Int) < (l1.length : Int)) = false := decide_eq_false (by omega)
        have d1 : decide (i < l1.length) = false := decide_eq_false hl
        go_wp2
        go_ret2
        have e := HP.out
        rw [List.drop_eq_nil_of_le (by rw [Pl.fb_length]; omega), List.drop_eq_nil_of_le (by omega), Pl.packGo] at e
        injection e with e1 e2
        subst e1 e2
        exact ⟨_, rfl, Kd.R_lower HO.out (by rw [HBN.out]; omega), HB.out⟩

end Go.Proofs.Ytiaoehjldbnpkaa.PB
