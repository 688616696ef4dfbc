/- Words and walks that this claim names, of those that the kit's print and programs of this workplace have printed. -/
import Derived.Test.YtcemlfkboifncaaZAPAx12
namespace Go.Proofs.Ytcemlfkboifncaa.PA
open Go.RowKit Go.Proofs.YtcemlfkboifncaaW.PrintWords Go.Proofs.YtcemlfkboifncaaW.PrintLast Go.Proofs.YtcemlfkboifncaaW.PrintMore
attribute [local go_sem] max2_int min2_int max_two min_two max_three min_three max_four min_four
set_option linter.unusedVariables false
set_option linter.unusedSimpArgs false
def le_Pack.f (a0 : ByteArray) (l1 : List Int) : Option (List Int × Int) := if Pl.u64B l1 = true ∧ a0.size < 2147483648 then some (Pl.packS (Pl.fb a0) l1) else none
theorem R_iter {α : Type} {d : Kd α} {e base : Nat} {ok : Nat → Prop} {v : Value} {xs : List α} {w : World} {B : Nat} (h : d.R e w base ok v xs) (hB : B < base) (s : ByteArray) (p : Nat) : d.R e (w.iterAt B s p) base ok v xs :=
 Kd.R_mono (Kd.R_move (Kd.R_bound h) (fun k hk => Lib.iterAt_other w B k s p (by have := hk.2.1; omega))) (fun _ hk => hk.1)
theorem rune_size (s : ByteArray) (i : Nat) (h : i < s.size) : Pl.letS ((Utf8.decode s i).1 : Int) = Pl.letS ((Pl.fb s)[i]'(by rw [Pl.fb_length]; exact h)) ∧ (Pl.letS ((Pl.fb s)[i]'(by rw [Pl.fb_length]; exact h)) ≠ 0 → (Utf8.decode s i).2 = 1) := by
 have e : (Pl.fb s)[i]'(by rw [Pl.fb_length]; exact h) = (((s[i]'h).toNat : Nat) : Int) := by
  simp only [Pl.fb, List.getElem_map]
  rfl
 rw [e]
 by_cases ha : (s[i]'h).toNat < 128
 ·rw [decode_ascii s i h ha]
  exact ⟨rfl, fun _ => rfl⟩
 ·have hd := decode_high s i h (by omega)
  have z : ∀ c : Nat, 128 ≤ c → Pl.letS (c : Int) = 0 := fun c hc => by
   unfold Pl.letS
   rw [if_neg (by omega), if_neg (by omega), if_neg (by omega), if_neg (by omega)]
  rw [z _ hd.1, z _ (by omega)]
  exact ⟨rfl, fun h => absurd rfl h⟩
set_option maxHeartbeats 8000000 in
set_option maxRecDepth 2000000 in
theorem le_Pack.calls (a0 : ByteArray) (A1 : Option Addr) (c1 : Nat) (l1 : List Int) (r1 : List Int) (r2 : Int) (w : World) (hr1 : Kd.C (Kd.int .u64) w A1 l1.length l1) (hc1 : l1.length ≤ c1) (h : le_Pack.f a0 l1 = some (r1, r2)) :
  Calls Try.prog 50 #[.string a0, .slice A1 l1.length c1] w fun e w' => ∃ v0_ : Value, e = .returned (.tuple #[v0_, .int .i64 r2]) ∧ Kd.R (Kd.int .u8) 5 w' w.heap.size (fun _ => True) v0_ r1 ∧ Below w.heap.size w w' := by
 unfold le_Pack.f at h
 split at h
 case isFalse => cases h
 rename_i hh
 obtain ⟨hu, hsz⟩ := hh
 have HP0 := Aside0.mk (Option.some.inj h)
 have HU := Aside0.mk hu
 have HR1 := Aside0.mk hr1
 have HC1 := Aside0.mk hc1
 clear h hu hr1 hc1
 obtain ⟨B, hB⟩ : ∃ B, B = w.heap.size := ⟨_, rfl⟩
 have HBN := Aside0.mk hB
 clear hB
 have hk0 : Aside0 ((w.iter a0 0).heap[B]? = some (.stringIter a0 0)) := ⟨by rw [HBN.out]; exact World.iter_heap w a0 0⟩
 have hb0 : Aside0 (Below w.heap.size w (w.iter a0 0)) := ⟨(Below.refl _ w).alloc (Nat.le_refl _) _⟩
 have hs0 : Aside0 (B + 1 ≤ (w.iter a0 0).heap.size) := ⟨by rw [HBN.out]; simp [World.iter]⟩
 go_enter Try.func50, Try.ntmps50
 go_wp2
 rw [← HBN.out]
 generalize w.iter a0 0 = w0 at hk0 hb0 hs0 ⊢
 go_loopw [4, 6] (fun v at_ wr => ∃ (i : Nat) (out : List Int), i ≤ a0.size ∧ i ≤ l1.length ∧ at_ = .int .i64 i ∧ Aside0 (out.length ≤ 8 * i) ∧ Aside0 (wr.heap[B]? = some (.stringIter a0 i)) ∧ Aside0 (Kd.R (Kd.int .u8) 5 wr (B + 1) (fun _ => True) v out) ∧ Aside0 (Pl.packGo out ((Pl.fb a0).drop i) (l1.drop i) = (r1, r2)) ∧ Aside0 (B + 1 ≤ wr.heap.size) ∧ Aside0 (Below w.heap.size w wr)) (fun _ at_ _ => a0.size - (intOf at_).toNat)
 case atStart => exact ⟨0, [], by omega, by omega, rfl, ⟨by simp⟩, hk0, ⟨Kd.R_nil _ _ _ _ _⟩, HP0, hs0, hb0⟩
 case round =>
  clear hk0 hb0 hs0 HP0
  obtain ⟨i, out, hi, hil, rfl, HOL, hk, HO, HP, HS, HB⟩ := hrel
  by_cases hp : i < a0.size
  ·obtain ⟨rs, rn⟩ := rune_size a0 i hp
   have hif : i < (Pl.fb a0).length := by rw [Pl.fb_length]; exact hp
   have hle := decode_le a0 i
   obtain ⟨z, hz⟩ : ∃ z, z = Pl.letS ((Pl.fb a0)[i]'hif) := ⟨_, rfl⟩
   rw [← hz] at rs rn
   have hnext : ∀ ty, (Instr.next (.pointer (some ⟨B, 0, none⟩)) true ty).run Try.prog wr = _ := fun ty => Lib.run_next_any_at wr B a0 i ty hk.out hp
   obtain ⟨q, hq⟩ : ∃ q, q = i + (Utf8.decode a0 i).2 := ⟨_, rfl⟩
   rw [← hq] at hnext
   have HRN : Aside0 (z ≠ 0 → q = i + 1) := ⟨fun h => by rw [hq, rn h]⟩
   obtain ⟨c, hc⟩ : ∃ c, c = (Utf8.decode a0 i).1 := ⟨_, rfl⟩
   rw [← hc] at hnext rs hle
   have HRS : Aside0 (le_size.f (c : Int) = some z) := ⟨by unfold le_size.f; rw [if_pos ⟨by omega, by omega⟩, rs]⟩
   clear hq hc rs rn hle
   have hk1 := Aside0.mk (Lib.iterAt_heap wr B a0 i q hk.out)
   have hn1 := Aside0.mk (Lib.below_iterAt (k := B) HB.out (by rw [HBN.out]; exact Nat.le_refl _) a0 q)
   have HO1 := Aside0.mk (R_iter HO.out (Nat.lt_succ_self B) a0 q)
   have hs1 : Aside0 (B + 1 ≤ (wr.iterAt B a0 q).heap.size) := ⟨by rw [Lib.iterAt_size]; exact HS.out⟩
   clear hk HO HS HB
   generalize wr.iterAt B a0 q = W1 at hnext hk1 hn1 HO1 hs1
   by_cases hl : i < l1.length
   ·have d0 : ((i : Int) == (l1.length : Int)) = false := by simp; omega
    have d1 : (i == l1.length) = false := by simp; omega
    have hrd : rd l1 (i : Int) = l1[i]'hl := by unfold rd; rw [Int.toNat_natCast, List.getD_eq_getElem?_getD, List.getElem?_eq_getElem hl, Option.getD_some]
    have hnb := Pl.u64B_iff.1 HU.out _ (List.getElem_mem hl)
    obtain ⟨x, hx⟩ : ∃ x, x = l1[i]'hl := ⟨_, rfl⟩
    rw [← hx] at hrd hnb
    have HX := Aside0.mk hx
    clear hx
    have HRX := Aside0.mk (Kd.C_below HR1.out hn1.out)
    obtain ⟨ad, rfl, -⟩ := Kd.at_int HRX.out (i : Int) (by omega) (by omega)
    have hcell : ∀ W : World, Kd.C (Kd.int .u64) W (some ad) l1.length l1 → W.cell? (ad.add i) = some (.int .u64 x) := fun W h => by
     obtain ⟨ad', e, hx'⟩ := Kd.at_int h (i : Int) (by omega) (by omega)
     cases e
     rw [hrd, Int.toNat_natCast] at hx'
     exact hx'
    obtain ⟨Ao, co, rfl, hco, hro⟩ := Kd.R_reads HO1.out
    have HCo := Aside0.mk hco
    have HRo := Aside0.mk hro
    have HRn := HRX
    have HB := Aside0.mk (Below.refl W1.heap.size W1)
    have HL := Aside0.mk hcell
    have k0 := eq_true hl
    have HPut : Aside0 (le_Put.f out x z = some (Pl.putS out x z)) := ⟨by unfold le_Put.f; rw [if_pos ⟨hnb.1, hnb.2, by have := HOL.out; omega⟩]⟩
    clear hro hco HRX hcell hrd
    obtain ⟨p, E, HPE⟩ : ∃ p E, Aside0 (Pl.putS out x z = (p, E)) := ⟨_, _, ⟨rfl⟩⟩
    rw [HPE.out] at HPut
    go_wp2
    have HB' := Aside0.mk (below_drew HB.out); clear HB; have HB := HB'; clear HB'
    have HRn' := Aside0.mk (Kd.C_drew HRn.out); clear HRn; have HRn := HRn'; clear HRn'
    have HRo' := Aside0.mk (Kd.C_drew HRo.out); clear HRo; have HRo := HRo'; clear HRo'
    refine start_ (n := 13) (S := fun w' => w'.cell? (ad.add i) = some (.int .u64 x)) (ds := []) #[false, false, false, false, false, false, false, false, false, false, false, false, false] (by kernel_rfl) rfl rfl ((HL.out _ HRn.out)) (fun hHeld => ?_)
    generalize W1.drew = wd951 at HB HRn HRo hHeld ⊢
    refine pure_ (i := 0) (N := some 19) (v := ?_) (a' := ?_) #[true, false, false, false, false, false, false, false, false, false, false, false, false] rfl rfl (by kernel_rfl) (fun _ _ _ h => h) (Or.inl ⟨by rfl, ?_⟩) ?_ ?_
    rotate_left
    ·intro w'
     go_simp
     with_reducible rfl
    rotate_left
    ·simp only [Act.put, Kx.sb, Kx.sz, Kx.ss, i64_w, i32_w]
     rfl
    refine pure_ (i := 1) (N := some 20) (v := ?_) (a' := ?_) #[true, true, false, false, false, false, false, false, false, false, false, false, false] rfl rfl (by kernel_rfl) (fun _ _ _ h => h) (Or.inl ⟨by rfl, ?_⟩) ?_ ?_
    rotate_left
    ·intro w'
     go_simp
     with_reducible rfl
    rotate_left
    ·simp only [Act.put, Kx.sb, Kx.sz, Kx.ss, i64_w, i32_w]
     rfl
    refine pure_ (i := 2) (N := some 21) (v := ?_) (a' := ?_) #[true, true, true, false, false, false, false, false, false, false, false, false, false] rfl rfl (by kernel_rfl) (fun _ _ _ h => h) (Or.inl ⟨by rfl, ?_⟩) ?_ ?_
    rotate_left
    ·intro w'
     go_simp
     with_reducible rfl
    rotate_left
    ·simp only [Act.put, Kx.sb, Kx.sz, Kx.ss, i64_w, i32_w]
     rfl
    refine pure_ (i := 3) (N := some 22) (v := ?_) (a' := ?_) #[true, true, true, true, false, false, false, false, false, false, false, false, false] rfl rfl (by kernel_rfl) (fun _ _ _ h => h) (Or.inl ⟨by rfl, ?_⟩) ?_ ?_
    rotate_left
    ·intro w'
     go_simp
     with_reducible rfl
    rotate_left
    ·simp only [Act.put, Kx.sb, Kx.sz, Kx.ss, i64_w, i32_w]
     rfl
    refine pure_ (i := 5) (N := some 24) (v := ?_) (a' := ?_) #[true, true, true, true, false, true, false, false, false, false, false, false, false] rfl rfl (by kernel_rfl) (fun _ _ _ h => h) (Or.inl ⟨by rfl, ?_⟩) ?_ ?_
    rotate_left
    ·intro w'
     go_simp
     with_reducible rfl
    rotate_left
    ·simp only [Act.put, Kx.sb, Kx.sz, Kx.ss, i64_w, i32_w]
     rfl
    refine take_ (i := 4) (N := some 23) (v := ?_) (a' := ?_) #[true, true, true, true, true, true, false, false, false, false, false, false, false] rfl rfl (by kernel_rfl) (fun _ _ _ h => h) (Or.inl ⟨by rfl, ?_⟩) hHeld ?_ ?_
    rotate_left
    ·rintro w' s0
     go_simp
     with_reducible rfl
    rotate_left
    ·simp only [Act.put, Kx.sb, Kx.sz, Kx.ss, i64_w, i32_w]
     rfl
    refine one_ (i := 6) (N := some 25) #[true, true, true, true, true, true, true, false, false, false, false, false, false] rfl rfl (by kernel_rfl) (by decide) (fun K hK => ?_)
    refine goes_ Try.func64 (by kernel_rfl) rfl #[.int .i32 (c : Int)] (by rfl) rfl rfl (by simp only [List.map_toArray, List.map_cons, List.map_nil]; rfl) ?_
    refine (le_size.calls _ _ _ HRS.out).mono ?_
    rintro e w95106 ⟨rfl, hb⟩
    refine ⟨_, rfl, ?_⟩
    have HB' := Aside0.mk (below_step HB.out hb); clear HB; have HB := HB'; clear HB'
    have HRn' := Aside0.mk (Kd.C_below HRn.out hb); clear HRn; have HRn := HRn'; clear HRn'
    have HRo' := Aside0.mk (Kd.C_below HRo.out hb); clear HRo; have HRo := HRo'; clear HRo'
    clear hb
    refine hK.out _ _ ((HL.out _ HRn.out)) (fun hHeld => ?_)
    clear hK K
    refine norm_ (a' := ?_) ?_ ?_
    rotate_left
    ·show Act.put _ (some 25) _ = _
     simp only [Act.put, Kx.sb, Kx.sz, Kx.ss, i64_w, i32_w]
     rfl
    refine one_ (i := 7) (N := some 26) #[true, true, true, true, true, true, true, true, false, false, false, false, false] rfl rfl (by kernel_rfl) (by decide) (fun K hK => ?_)
    refine goes_ Try.func63 (by kernel_rfl) rfl #[.slice Ao out.length co, .int .u64 x, .int .i64 z] (by rfl) rfl rfl (by simp only [List.map_toArray, List.map_cons, List.map_nil]; rfl) ?_
    refine (le_Put.calls Ao co out x z _ _ _ HRo.out HCo.out HPut.out).mono ?_
    rintro e w95107 ⟨vp, rfl, hop, hb⟩
    refine ⟨_, rfl, ?_⟩
    have HZp := Aside0.mk HB.out.size
    have HB' := Aside0.mk (below_step HB.out hb); clear HB; have HB := HB'; clear HB'
    have HRn' := Aside0.mk (Kd.C_below HRn.out hb); clear HRn; have HRn := HRn'; clear HRn'
    have HRo' := Aside0.mk (Kd.C_below HRo.out hb); clear HRo; have HRo := HRo'; clear HRo'
    clear hb
    have HOp := Aside0.mk hop
    obtain ⟨Ap, cp, rfl, hcp, hrp⟩ := Kd.R_reads hop
    have HRp := Aside0.mk hrp
    have HCp := Aside0.mk hcp
    clear hrp hcp hop
    refine hK.out _ _ ((HL.out _ HRn.out)) (fun hHeld => ?_)
    clear hK K
    refine norm_ (a' := ?_) ?_ ?_
    rotate_left
    ·show Act.put _ (some 26) _ = _
     simp only [Act.put, Kx.sb, Kx.sz, Kx.ss, i64_w, i32_w]
     rfl
    refine pure_ (i := 8) (N := some 18) (v := ?_) (a' := ?_) #[true, true, true, true, true, true, true, true, true, false, false, false, false] rfl rfl (by kernel_rfl) (fun _ _ _ h => h) (Or.inl ⟨by rfl, ?_⟩) ?_ ?_
    rotate_left
    ·intro w'
     go_simp
     with_reducible rfl
    rotate_left
    ·simp only [Act.put, Kx.sb, Kx.sz, Kx.ss, i64_w, i32_w]
     rfl
    refine pure_ (i := 9) (N := some 27) (v := ?_) (a' := ?_) #[true, true, true, true, true, true, true, true, true, true, false, false, false] rfl rfl (by kernel_rfl) (fun _ _ _ h => h) (Or.inl ⟨by rfl, ?_⟩) ?_ ?_
    rotate_left
    ·intro w'
     go_simp
     with_reducible rfl
    rotate_left
    ·simp only [Act.put, Kx.sb, Kx.sz, Kx.ss, i64_w, i32_w]
     rfl
    refine pure_ (i := 10) (N := some 28) (v := ?_) (a' := ?_) #[true, true, true, true, true, true, true, true, true, true, true, false, false] rfl rfl (by kernel_rfl) (fun _ _ _ h => h) (Or.inl ⟨by rfl, ?_⟩) ?_ ?_
    rotate_left
    ·intro w'
     go_simp
     with_reducible rfl
    rotate_left
    ·simp only [Act.put, Kx.sb, Kx.sz, Kx.ss, i64_w, i32_w]
     rfl
    refine pure_ (i := 11) (N := some 4) (v := ?_) (a' := ?_) #[true, true, true, true, true, true, true, true, true, true, true, true, false] rfl rfl (by kernel_rfl) (fun _ _ _ h => h) (Or.inl ⟨by rfl, ?_⟩) ?_ ?_
    rotate_left
    ·intro w'
     go_simp
     with_reducible rfl
    rotate_left
    ·simp only [Act.put, Kx.sb, Kx.sz, Kx.ss, i64_w, i32_w]
     rfl
    refine pure_ (i := 12) (N := some 5) (v := ?_) (a' := ?_) #[true, true, true, true, true, true, true, true, true, true, true, true, true] rfl rfl (by kernel_rfl) (fun _ _ _ h => h) (Or.inl ⟨by rfl, ?_⟩) ?_ ?_
    rotate_left
    ·intro w'
     go_simp
     with_reducible rfl
    rotate_left
    ·simp only [Act.put, Kx.sb, Kx.sz, Kx.ss, i64_w, i32_w]
     rfl
    refine done_ (by kernel_rfl) ?_
    have HBz := Aside0.mk (below_then hn1.out hn1.out.size HB.out)
    by_cases hf : Pl.fits x z = true
    ·have e := HPE.out
     unfold Pl.putS at e
     rw [if_pos hf] at e
     injection e with e1 e2
     have HE1 := Aside0.mk e1
     subst e2
     clear e1
     go_wp2
     go_roundw
     case rel =>
      have h8 : z ≤ 8 ∧ 0 ≤ z ∧ z ≠ 0 := by
       unfold Pl.fits at hf
       rw [Bool.and_eq_true, Pl.okS_iff] at hf
       omega
      refine ⟨i + 1, p, by omega, by omega, by go_num, ⟨?_⟩, ⟨?_⟩, ⟨Kd.R_lower HOp.out (Nat.le_trans hs1.out ?_)⟩, ⟨?_⟩, ⟨?_⟩, HBz⟩
      ·rw [← HE1.out, List.length_append, Pl.leB_length]; have := HOL.out; omega
      ·rw [HB.out.block B (by have := hs1.out; omega), hk1.out, HRN.out h8.2.2]
      ·exact HZp.out
      ·have e := HP.out
       rw [List.drop_eq_getElem_cons hif, List.drop_eq_getElem_cons hl, Pl.packGo, ← hz, ← HX.out, if_pos hf, HE1.out] at e
       exact e
      ·exact Nat.le_trans hs1.out HB.out.size
     case measure => simp [intOf]; omega
    ·have e := HPE.out
     unfold Pl.putS at e
     rw [if_neg hf] at e
     injection e with e1 e2
     subst e2
     clear e1
     go_wp2
     go_ret2
     have e := HP.out
     rw [List.drop_eq_getElem_cons hif, List.drop_eq_getElem_cons hl, Pl.packGo, ← hz, ← HX.out, if_neg hf] at e
     injection e with e1 e2
     subst e1 e2
     exact ⟨_, rfl, Kd.R_nil _ _ _ _ _, HBz.out⟩
   ·have d0 : ((i : Int) == (l1.length : Int)) = true := by simp; omega
    have d1 : (i == l1.length) = true := by simp; omega
    go_wp2
    go_ret2
    have e := HP.out
    rw [Pl.packGo_ne _ _ _ (by rw [List.length_drop, List.length_drop, Pl.fb_length]; omega)] at e
    injection e with e1 e2
    subst e1 e2
    exact ⟨_, rfl, Kd.R_nil _ _ _ _ _, hn1.out⟩
  ·have hnext : ∀ ty, (Instr.next (.pointer (some ⟨B, 0, none⟩)) true ty).run Try.prog wr = _ := fun ty => Lib.run_next_end_at wr B a0 i ty hk.out hp
   by_cases hl : i < l1.length
   ·have d0 : decide ((i : Int) < (l1.length : Int)) = true := decide_eq_true (by omega)
    have d1 : decide (i < l1.length) = true := decide_eq_true hl
    go_wp2
    go_ret2
    have e := HP.out
    rw [Pl.packGo_ne _ _ _ (by rw [List.length_drop, List.length_drop, Pl.fb_length]; omega)] at e
    injection e with e1 e2
    subst e1 e2
    exact ⟨_, rfl, Kd.R_nil _ _ _ _ _, HB.out⟩
   ·have d0 : decide ((i : Int) < (l1.length : Int)) = false := decide_eq_false (by omega)
    have d1 : decide (i < l1.length) = false := decide_eq_false hl
    go_wp2
    go_ret2
    have e := HP.out
    rw [List.drop_eq_nil_of_le (by rw [Pl.fb_length]; omega), List.drop_eq_nil_of_le (by omega), Pl.packGo] at e
    injection e with e1 e2
    subst e1 e2
    exact ⟨_, rfl, Kd.R_lower HO.out (by rw [HBN.out]; omega), HB.out⟩
def halvesA : Array Value := Arr.numA .u32 16 (fun i => (Pl.stpN 4 i : Nat))
set_option maxHeartbeats 1000000 in
theorem crc_halves.calls (w : World) : Calls Try.prog 81 #[] w fun e w' => e = .returned (.agg halvesA) ∧ w' = w.alloc (.cells halvesA 98) := by
 have e : halvesA = #[.int .u32 0, .int .u32 274646895, .int .u32 549293790, .int .u32 820201905, .int .u32 1098587580, .int .u32 1361435347, .int .u32 1640403810, .int .u32 1905808397, .int .u32 2197175160, .int .u32 2460548119, .int .u32 2722870694, .int .u32 2987750089, .int .u32 3280807620, .int .u32 3553878443, .int .u32 3811616794, .int .u32 4084100981] := by
  kernel_rfl
 rw [e]
 clear e
 go_enter Try.func81, Try.ntmps81
 go_wp2
 refine bodyPost_ret (results_single rfl (.cell _ 98 _ (0, 0) _ rfl (heap_alloc_new w _) Try.underlying98 rfl (by kernel_rfl) .nil)) rfl ?_
 exact ⟨rfl, rfl⟩
theorem halves_in (w : World) (g : Nat) (h : w.heap[g]? = some (.cells halvesA 98 (0, 0))) : Arr.IsA w g 98 .u32 16 (fun i => (Pl.stpN 4 i : Nat)) := h
def crc_More.f (a0 : Int) (l1 : List Int) : Option Int := if 0 ≤ a0 ∧ a0 < 4294967296 ∧ Pl.byteB l1 = true then some ((Pl.more a0.toNat (Pl.nats l1) : Nat) : Int) else none
set_option maxHeartbeats 2000000 in
theorem crc_More.calls (a0 : Int) (A1 : Option Addr) (c1 : Nat) (l1 : List Int) (r : Int) (w : World) (hr1 : Kd.C (Kd.int .u8) w A1 l1.length l1) (hc1 : l1.length ≤ c1) (h : crc_More.f a0 l1 = some r) :
  Calls Try.prog 74 #[.int .u32 a0, .slice A1 l1.length c1] w fun e w' => e = .returned (.int .u32 r) ∧ Below w.heap.size w w' := by
 unfold crc_More.f at h
 split at h
 case isFalse => cases h
 rename_i hh
 obtain ⟨h0, h1, hb⟩ := hh
 obtain ⟨a, rfl⟩ := Int.eq_ofNat_of_zero_le h0
 rw [Int.toNat_natCast] at h
 have ha : a < 4294967296 := by omega
 obtain rfl := Option.some.inj h
 have HR1 := Aside0.mk hr1
 have hlen : l1.length ≤ 9223372036854775807 := hr1.2.1
 have HBY := Aside0.mk hb
 clear h0 h1 hb h hr1 hc1
 have e0 : bits .xor .u32 (a : Int) 4294967295 = ((Pl.inv a : Nat) : Int) := Arr.x32 ha (by decide)
 obtain ⟨B, hB⟩ : ∃ B, B = w.heap.size + 1 := ⟨_, rfl⟩
 have HBN := Aside0.mk hB
 clear hB
 go_enter Try.func74, Try.ntmps74
 go_wp2_with (first | (go_at_call 81; refine (crc_halves.calls _).mono ?_; rintro e w' ⟨rfl, rfl⟩) | ((with_reducible refine Arr.wpList_store_row rfl 98 (.tmp 5) (.tmp 8) rfl rfl (w.heap.size + 1) rfl 98 _ halvesA rfl (heap_alloc2_new w _ _) (by kernel_rfl) rfl (by kernel_rfl) ?_)))
 rw [← HBN.out]
 go_loopw [0, 13] (fun s i wr => ∃ (n : Nat) (k : Nat), k ≤ l1.length ∧ i = .int .i64 k ∧ s = .int .u32 (n : Int) ∧ n < 4294967296 ∧ Aside0 (n = Pl.raw (Pl.inv a) ((Pl.nats l1).take k)) ∧ Aside0 (wr.heap[B]? = some (.cells halvesA 98 (0, 0))) ∧ Aside0 (Below w.heap.size w wr)) (fun _ i _ => l1.length - (intOf i).toNat)
 case atStart =>
  refine ⟨Pl.inv a, 0, Nat.zero_le _, rfl, rfl, Pl.inv_lt ha, ⟨by rw [List.take_zero, Pl.raw_nil]⟩, ⟨?_⟩, ⟨?_⟩⟩
  ·rw [HBN.out]; exact setRow_heap _ _ _ _ _ _ (heap_alloc2_new w _ _)
  ·rw [HBN.out]; exact below_setRow (((Below.refl _ _).alloc (Nat.le_refl _) _).alloc (by simp) _) (by omega) _
 case round =>
  obtain ⟨n, k, hk, rfl, rfl, hn, hst, hT, hBel⟩ := hrel
  by_cases hlt : k < l1.length
  ·obtain ⟨x, hx, hxr, htk⟩ := Pl.byteB_at HBY.out k hlt
   have hxr : rd l1 (k : Int) = (x : Int) := by unfold rd; rw [Int.toNat_natCast]; exact hxr
   obtain ⟨ad, hA, hcell⟩ := Kd.at_int (Kd.C_below HR1.out hBel.out) (k : Int) (by omega) (by omega)
   subst hA
   rw [hxr] at hcell
   simp only [Int.toNat_natCast] at hcell
   obtain ⟨y, hy⟩ : ∃ y, y = n ^^^ x := ⟨_, rfl⟩
   have hy32 : y < 4294967296 := by rw [hy]; exact Pl.xor_lt hn (by omega)
   have q1 : bits .xor .u32 (n : Int) (x : Int) = (y : Int) := by rw [hy]; exact Arr.x32 hn (by omega)
   obtain ⟨i1, hi1⟩ : ∃ i, i = y % 16 := ⟨_, rfl⟩
   have q2 : bits .and .u32 (y : Int) 15 = (i1 : Int) := by rw [hi1]; exact (Arr.a32 hy32 (by decide)).trans (by rw [nat_mask4])
   have hi1' : i1 < 16 := by omega
   have t1 := (halves_in wr B hT.out).cell i1 hi1'
   obtain ⟨v1, hv1⟩ : ∃ v, v = Pl.stpN 4 i1 := ⟨_, rfl⟩
   have hv1' : v1 < 4294967296 := by rw [hv1]; exact Pl.stpN_lt 4 (by omega)
   rw [← hv1] at t1
   obtain ⟨z, hz⟩ : ∃ z, z = Pl.half y := ⟨_, rfl⟩
   have hz32 : z < 4294967296 := by rw [hz, Pl.half_eq]; exact Pl.stpN_lt 4 hy32
   have q3 : bits .xor .u32 ((y : Int) / 16) (v1 : Int) = (z : Int) := by
    rw [show (y : Int) / 16 = ((y / 16 : Nat) : Int) from by omega, Arr.x32 (by omega) hv1', hz, Pl.half, hv1, hi1]
   obtain ⟨i2, hi2⟩ : ∃ i, i = z % 16 := ⟨_, rfl⟩
   have q4 : bits .and .u32 (z : Int) 15 = (i2 : Int) := by rw [hi2]; exact (Arr.a32 hz32 (by decide)).trans (by rw [nat_mask4])
   have hi2' : i2 < 16 := by omega
   have t2 := (halves_in wr B hT.out).cell i2 hi2'
   obtain ⟨v2, hv2⟩ : ∃ v, v = Pl.stpN 4 i2 := ⟨_, rfl⟩
   have hv2' : v2 < 4294967296 := by rw [hv2]; exact Pl.stpN_lt 4 (by omega)
   rw [← hv2] at t2
   obtain ⟨u, hu⟩ : ∃ u, u = Pl.half z := ⟨_, rfl⟩
   have q5 : bits .xor .u32 ((z : Int) / 16) (v2 : Int) = (u : Int) := by
    rw [show (z : Int) / 16 = ((z / 16 : Nat) : Int) from by omega, Arr.x32 (by omega) hv2', hu, Pl.half, hv2, hi2]
   have hu32 : u < 4294967296 := by rw [hu, Pl.half_eq]; exact Pl.stpN_lt 4 hz32
   have hfin : Aside0 (u = Pl.raw (Pl.inv a) ((Pl.nats l1).take (k + 1))) := ⟨by rw [htk, Pl.raw_snoc, ← hst.out, hu, hz, hy, Pl.half_half]⟩
   clear hy hi1 hv1 hz hi2 hv2 hu htk hxr hst e0
   go_wp2
   go_roundw
   case rel => exact ⟨u, k + 1, by omega, by go_num, rfl, hu32, hfin, hT, hBel⟩
   case measure => simp [intOf]; omega
  ·have hke : Aside0 (k = l1.length) := ⟨by omega⟩
   have e1 : bits .xor .u32 (n : Int) 4294967295 = ((Pl.inv n : Nat) : Int) := Arr.x32 hn (by decide)
   clear e0
   go_wp2
   go_ret
   refine ⟨?_, hBel.out⟩
   rw [hst.out, hke.out, List.take_of_length_le (by simp [Pl.nats])]
   rfl
def crc_Sum_p.f (l0 : List Int) : Option (Int) := (crc_More.f 0 l0).bind fun t109 => (some t109)
set_option maxHeartbeats 8000000 in
set_option maxRecDepth 100000 in
theorem crc_Sum_p.calls (A0 : Option Addr) (c0 : Nat) (l0 : List Int) (r : Int) (w : World) (hr0 : Kd.C (Kd.int .u8) w A0 l0.length l0) (hc0 : l0.length ≤ c0) (h : crc_Sum_p.f l0 = some r) :
  Calls Try.prog 65 #[.slice A0 l0.length c0] w fun e w' => e = .returned (.int .u32 r) ∧ Below w.heap.size w w' := by
 have HR0 := Aside0.mk hr0
 have HC0 := Aside0.mk hc0
 clear hr0 hc0
 have HB := Aside0.mk (Below.refl w.heap.size w)
 have H : ((crc_More.f 0 l0).bind fun t109 => (some t109)) = some r := h
 clear h
 replace H := Option.bind_eq_some_iff.mp H
 obtain ⟨t109, A20, H⟩ := H
 replace H : (some t109) = some r := H
 have A2 := Aside0.mk A20
 clear A20
 obtain rfl := Option.some.inj H
 go_enter Try.func65, Try.ntmps65
 go_wp2_with (first | ((with_reducible refine gate_callee (f := 74) rfl ?_); refine goesL_ (some 4) rfl rfl Try.func74 (by kernel_rfl) rfl #[.int .u32 0, .slice A0 l0.length c0] rfl (by (try simp only [List.map_toArray, List.map_cons, List.map_nil]); first | done | rfl | (simp only [List.length_drop, List.length_take]; rfl)) ?_; (with_reducible refine (crc_More.calls 0 _ _ l0 t109 _ ?side1 ?side2 A2.out).mono ?_); (case side1 => repeat (first | exact HR0.out | (with_reducible refine Kd.C_alloc ?_ _) | (with_reducible refine Kd.C_drewN ?_ _) | (with_reducible refine Kd.C_drew ?_))); (case side2 => exact HC0.out); rintro e w3 ⟨rfl, hb⟩; refine ⟨_, rfl, ?_⟩; have n0_ := Aside0.mk (below_step (by repeat (first | (with_reducible first | exact HB.out | apply below_alloc | apply pw_below_drewN | apply below_drew1) | exact HB.out)) hb); clear HB; have HB := n0_; clear n0_; (try clear hb); (try clear hb2); (try clear hk); (try clear hi)))
 go_ret
 exact ⟨by first | rfl | (simp [errW_none, errW_some] <;> rfl) | (simp [*, errW_none, errW_some] <;> rfl), by repeat (first | (with_reducible first | exact HB.out | apply below_alloc | apply pw_below_drewN | apply below_drew1) | exact HB.out)⟩
def crc_Sum.f (l0 : List Int) : Option Int := crc_More.f 0 l0
theorem crc_Sum.calls (A0 : Option Addr) (c0 : Nat) (l0 : List Int) (r : Int) (w : World) (hr0 : Kd.C (Kd.int .u8) w A0 l0.length l0) (hc0 : l0.length ≤ c0) (h : crc_Sum.f l0 = some r) :
  Calls Try.prog 65 #[.slice A0 l0.length c0] w fun e w' => e = .returned (.int .u32 r) ∧ Below w.heap.size w w' := by
 refine crc_Sum_p.calls A0 c0 l0 r w hr0 hc0 ?_
 unfold crc_Sum.f at h
 unfold crc_Sum_p.f
 rw [h, Option.bind_some]
def crc_Seal_p.f (l0 : List Int) : Option (List Int) := (crc_Sum.f l0).bind fun t110 => ((le_Put.f l0 (IntKind.u64.wrap (t110)) 4).bind fun bt111 => (some bt111.1))
set_option maxHeartbeats 8000000 in
set_option maxRecDepth 100000 in
theorem crc_Seal_p.calls (A0 : Option Addr) (c0 : Nat) (l0 : List Int) (r : List Int) (w : World) (hr0 : Kd.C (Kd.int .u8) w A0 l0.length l0) (hc0 : l0.length ≤ c0) (h : crc_Seal_p.f l0 = some r) :
  Calls Try.prog 51 #[.slice A0 l0.length c0] w fun e w' => ∃ v0_ : Value, e = .returned (v0_) ∧ Kd.R (Kd.int .u8) 5 w' w.heap.size (fun _ => True) v0_ r ∧ Below w.heap.size w w' := by
 have HR0 := Aside0.mk hr0
 have HC0 := Aside0.mk hc0
 clear hr0 hc0
 have HB := Aside0.mk (Below.refl w.heap.size w)
 have H : ((crc_Sum.f l0).bind fun t110 => ((le_Put.f l0 (IntKind.u64.wrap (t110)) 4).bind fun bt111 => (some bt111.1))) = some r := h
 clear h
 replace H := Option.bind_eq_some_iff.mp H
 obtain ⟨t110, A20, H⟩ := H
 replace H : ((le_Put.f l0 (IntKind.u64.wrap (t110)) 4).bind fun bt111 => (some bt111.1)) = some r := H
 have A2 := Aside0.mk A20
 clear A20
 replace H := Option.bind_eq_some_iff.mp H
 obtain ⟨⟨t111, t112⟩, A30, H⟩ := H
 replace H : (some t111) = some r := H
 have A3 := Aside0.mk A30
 clear A30
 obtain rfl := Option.some.inj H
 go_enter Try.func51, Try.ntmps51
 go_wp2_with (first | ((with_reducible refine gate_callee (f := 65) rfl ?_); refine goesL_ (some 8) rfl rfl Try.func65 (by kernel_rfl) rfl #[.slice A0 l0.length c0] rfl (by (try simp only [List.map_toArray, List.map_cons, List.map_nil]); first | done | rfl | (simp only [List.length_drop, List.length_take]; rfl)) ?_; (with_reducible refine (crc_Sum.calls _ _ l0 t110 _ ?side1 ?side2 A2.out).mono ?_); (case side1 => repeat (first | exact HR0.out | (with_reducible refine Kd.C_alloc ?_ _) | (with_reducible refine Kd.C_drewN ?_ _) | (with_reducible refine Kd.C_drew ?_))); (case side2 => exact HC0.out); rintro e w4 ⟨rfl, hb⟩; refine ⟨_, rfl, ?_⟩; have n0_ := Aside0.mk (below_step (by repeat (first | (with_reducible first | exact HB.out | apply below_alloc | apply pw_below_drewN | apply below_drew1) | exact HB.out)) hb); clear HB; have HB := n0_; clear n0_; (try clear hb); (try clear hb2); (try clear hk); (try clear hi)) | ((with_reducible refine gate_callee (f := 63) rfl ?_); refine goesL_ (some 10) rfl rfl Try.func63 (by kernel_rfl) rfl #[.slice A0 l0.length c0, .int .u64 (IntKind.u64.wrap (t110)), .int .i64 4] rfl (by (try simp only [List.map_toArray, List.map_cons, List.map_nil]); first | done | rfl | (simp only [List.length_drop, List.length_take]; rfl)) ?_; (with_reducible refine (le_Put.calls _ _ l0 (IntKind.u64.wrap (t110)) 4 t111 t112 _ ?side1 ?side2 A3.out).mono ?_); (case side1 => repeat (first | exact (Kd.C_below HR0.out HB.out) | (with_reducible refine Kd.C_alloc ?_ _) | (with_reducible refine Kd.C_drewN ?_ _) | (with_reducible refine Kd.C_drew ?_))); (case side2 => exact HC0.out); rintro e w5 ⟨v113, rfl, ho0, hb⟩; refine ⟨_, rfl, ?_⟩; have n0_ := Aside0.mk (Kd.R_lower ho0 (below_size (by repeat (first | (with_reducible first | exact HB.out | apply below_alloc | apply pw_below_drewN | apply below_drew1) | exact HB.out)))); have n1_ := Aside0.mk (below_step (by repeat (first | (with_reducible first | exact HB.out | apply below_alloc | apply pw_below_drewN | apply below_drew1) | exact HB.out)) hb); clear HB; have HO114 := n0_; have HB := n1_; clear n0_ n1_; (try clear hb); (try clear hb2); (try clear hk); (try clear hi); (try clear ho0)))
 go_ret
 exact ⟨_, by first | rfl | (simp [errW_none, errW_some] <;> rfl) | (simp [*, errW_none, errW_some] <;> rfl), by (with_reducible repeat (first | apply Kd.R_alloc | apply Kd.R_drewN | apply Kd.R_drew)); exact HO114.out, by repeat (first | (with_reducible first | exact HB.out | apply below_alloc | apply pw_below_drewN | apply below_drew1) | exact HB.out)⟩
def crc_Seal.f (l0 : List Int) : Option (List Int) := if Pl.byteB l0 = true ∧ l0.length < 70368744177664 then some (Pl.seal4 l0) else none
theorem crc_Seal.calls (A0 : Option Addr) (c0 : Nat) (l0 : List Int) (r : List Int) (w : World) (hr0 : Kd.C (Kd.int .u8) w A0 l0.length l0) (hc0 : l0.length ≤ c0) (h : crc_Seal.f l0 = some r) :
  Calls Try.prog 51 #[.slice A0 l0.length c0] w fun e w' => ∃ v0_ : Value, e = .returned (v0_) ∧ Kd.R (Kd.int .u8) 5 w' w.heap.size (fun _ => True) v0_ r ∧ Below w.heap.size w w' := by
 refine crc_Seal_p.calls A0 c0 l0 r w hr0 hc0 ?_
 unfold crc_Seal.f at h
 split at h
 case isFalse => cases h
 rename_i hh
 obtain rfl := Option.some.inj h
 have hlt := Pl.sum_lt (Pl.byteB_bytes hh.1)
 unfold crc_Seal_p.f crc_Sum.f crc_More.f
 rw [if_pos ⟨by decide, by decide, hh.1⟩, Option.bind_some]
 have e1 : ((Pl.more (0 : Int).toNat (Pl.nats l0) : Nat) : Int) = ((Pl.sum (Pl.nats l0) : Nat) : Int) := rfl
 rw [e1, IntKind.wrap_u64, show ((Pl.sum (Pl.nats l0) : Nat) : Int) % 18446744073709551616 = ((Pl.sum (Pl.nats l0) : Nat) : Int) from by omega]
 unfold le_Put.f
 rw [if_pos ⟨by omega, by omega, hh.2⟩, Option.bind_some]
 unfold Pl.putS
 rw [if_pos (by rw [Pl.fits_4]; exact decide_eq_true (by omega)), Int.toNat_natCast]
 rfl
def record_Write_p.f (a0_0 : Int) (a0_1 : Int) (l0_2 : List Int) : Option (List Int × Int) := (record_Check.f a0_0 a0_1 l0_2).bind fun t116 => (if t116 = 0 then ((le_Pack.f (⟨#[119, 104, 104, 113]⟩ : ByteArray) (([1196184151, IntKind.u64.wrap (a0_0), IntKind.u64.wrap ((l0_2.length : Int)), IntKind.u64.wrap (a0_1)] : List Int))).bind fun bt120 => (if bt120.2 = 0 then (if bt120.1.length + l0_2.length < 140737488355328 then ((crc_Seal.f (bt120.1 ++ l0_2)).bind fun t127 => (some (t127, 0))) else (none)) else (some (([] : List Int), 50)))) else (some (([] : List Int), t116)))
set_option maxHeartbeats 8000000 in
set_option maxRecDepth 100000 in
theorem record_Write_p.calls (a0_0 : Int) (a0_1 : Int) (A0_2 : Option Addr) (c0_2 : Nat) (l0_2 : List Int) (r1 : List Int) (r2 : Int) (w : World) (hr0_2 : Kd.C (Kd.int .u8) w A0_2 l0_2.length l0_2) (hc0_2 : l0_2.length ≤ c0_2) (h : record_Write_p.f a0_0 a0_1 l0_2 = some (r1, r2)) :
  Calls Try.prog 19 #[.agg #[.int .i64 a0_0, .int .i64 a0_1, .slice A0_2 l0_2.length c0_2]] w fun e w' => ∃ v0_ : Value, e = .returned (.tuple #[v0_, .int .i64 r2]) ∧ Kd.R (Kd.int .u8) 5 w' w.heap.size (fun _ => True) v0_ r1 ∧ Below w.heap.size w w' := by
 have hu25 := Try.underlying25
 have HR0_2 := Aside0.mk hr0_2
 have HC0_2 := Aside0.mk hc0_2
 clear hr0_2 hc0_2
 have HB := Aside0.mk (Below.refl w.heap.size w)
 have H : ((record_Check.f a0_0 a0_1 l0_2).bind fun t116 => (if t116 = 0 then ((le_Pack.f (⟨#[119, 104, 104, 113]⟩ : ByteArray) (([1196184151, IntKind.u64.wrap (a0_0), IntKind.u64.wrap ((l0_2.length : Int)), IntKind.u64.wrap (a0_1)] : List Int))).bind fun bt120 => (if bt120.2 = 0 then (if bt120.1.length + l0_2.length < 140737488355328 then ((crc_Seal.f (bt120.1 ++ l0_2)).bind fun t127 => (some (t127, 0))) else (none)) else (some (([] : List Int), 50)))) else (some (([] : List Int), t116)))) = some (r1, r2) := h
 clear h
 replace H := Option.bind_eq_some_iff.mp H
 obtain ⟨t116, A20, H⟩ := H
 replace H : (if t116 = 0 then ((le_Pack.f (⟨#[119, 104, 104, 113]⟩ : ByteArray) (([1196184151, IntKind.u64.wrap (a0_0), IntKind.u64.wrap ((l0_2.length : Int)), IntKind.u64.wrap (a0_1)] : List Int))).bind fun bt120 => (if bt120.2 = 0 then (if bt120.1.length + l0_2.length < 140737488355328 then ((crc_Seal.f (bt120.1 ++ l0_2)).bind fun t127 => (some (t127, 0))) else (none)) else (some (([] : List Int), 50)))) else (some (([] : List Int), t116))) = some (r1, r2) := H
 have A2 := Aside0.mk A20
 clear A20
 by_cases c3 : t116 = 0
 ·rw [if_pos c3] at H
  have c3b0 : (t116 == 0) = true := beq_iff_eq.mpr c3
  have c3b1 : (t116 != 0) = false := bne_eq_false_iff_eq.mpr c3
  clear c3
  obtain ⟨y117, hy117⟩ : ∃ y_ : List Int, y_ = (([1196184151, IntKind.u64.wrap (a0_0), IntKind.u64.wrap ((l0_2.length : Int)), IntKind.u64.wrap (a0_1)] : List Int)) := ⟨_, rfl⟩
  replace H : ((le_Pack.f (⟨#[119, 104, 104, 113]⟩ : ByteArray) y117).bind fun bt120 => (if bt120.2 = 0 then (if bt120.1.length + l0_2.length < 140737488355328 then ((crc_Seal.f (bt120.1 ++ l0_2)).bind fun t127 => (some (t127, 0))) else (none)) else (some (([] : List Int), 50)))) = some (r1, r2) := by first | (rw [hy117]; with_reducible exact H) | (have H2_ := (Option.bind_some _ _).symm.trans H; rw [hy117]; with_reducible exact H2_) | (have H2_ := (Option.bind_some _ _).symm.trans H; with_reducible exact H2_) | with_reducible exact H | (rw [hy117]; exact H) | exact H
  have Ny117 := Aside0.mk hy117
  clear hy117
  replace H := Option.bind_eq_some_iff.mp H
  obtain ⟨⟨t120, t121⟩, A40, H⟩ := H
  replace H : (if t121 = 0 then (if t120.length + l0_2.length < 140737488355328 then ((crc_Seal.f (t120 ++ l0_2)).bind fun t127 => (some (t127, 0))) else (none)) else (some (([] : List Int), 50))) = some (r1, r2) := H
  have A4 := Aside0.mk A40
  clear A40
  by_cases c5 : t121 = 0
  ·rw [if_pos c5] at H
   have c5b0 : (t121 == 0) = true := beq_iff_eq.mpr c5
   have c5b1 : (t121 != 0) = false := bne_eq_false_iff_eq.mpr c5
   clear c5
   by_cases c6 : t120.length + l0_2.length < 140737488355328
   ·rw [if_pos c6] at H
    have LMc6 := Aside0.mk c6
    clear c6
    obtain ⟨y124, hy124⟩ : ∃ y_ : List Int, y_ = (t120 ++ l0_2) := ⟨_, rfl⟩
    replace H : ((crc_Seal.f y124).bind fun t127 => (some (t127, 0))) = some (r1, r2) := by first | (rw [hy124]; with_reducible exact H) | (have H2_ := (Option.bind_some _ _).symm.trans H; rw [hy124]; with_reducible exact H2_) | (have H2_ := (Option.bind_some _ _).symm.trans H; with_reducible exact H2_) | with_reducible exact H | (rw [hy124]; exact H) | exact H
    have Ny124 := Aside0.mk hy124
    clear hy124
    replace H := Option.bind_eq_some_iff.mp H
    obtain ⟨t127, A70, H⟩ := H
    replace H : (some (t127, 0)) = some (r1, r2) := H
    have A7 := Aside0.mk A70
    clear A70
    simp only [Option.some.injEq, Prod.mk.injEq] at H
    obtain ⟨rfl, rfl⟩ := H
    go_enter Try.func19, Try.ntmps19
    go_wp2_with (first | ((with_reducible refine gate_dst (N := 1) rfl ?_); refine box_event ?hg (N := 1) ?hd (cs := #[.int .i64 a0_0, .int .i64 a0_1, .slice A0_2 l0_2.length c0_2]) (t := 25) ?hr ?_; (case hd => rfl); (case hg => rfl); (case hr => first | (go_simp; done) | (go_simp; rfl)); intro gb115 hg w8 hbox hb; have n0_ := Aside0.mk (below_step (by repeat (first | (with_reducible first | exact HB.out | apply below_alloc | apply pw_below_drewN | apply below_drew1) | exact HB.out)) hb); have n1_ := Aside0.mk (hbox); have n2_ := Aside0.mk ((by rw [hg]; exact (below_size (by repeat (first | (with_reducible first | exact HB.out | apply below_alloc | apply pw_below_drewN | apply below_drew1) | exact HB.out))) : w.heap.size ≤ gb115)); have n3_ := Aside0.mk ((by rw [hg]; exact (below_size (by repeat (first | (with_reducible first | exact HB.out | apply below_alloc | apply pw_below_drewN | apply below_drew1) | exact HB.out))) : w.heap.size ≤ gb115)); clear HB; have HB := n0_; have BK115 := n1_; have GW115 := n2_; have GE115 := n3_; clear n0_ n1_ n2_ n3_; clear hb hbox hg; have hcz9_0 : w8.cell? ⟨gb115, 0, none⟩ = some (.int .i64 a0_0) := (blk_cell BK115.out 0).trans rfl; have hcz9_1 : w8.cell? ⟨gb115, 1, none⟩ = some (.int .i64 a0_1) := (blk_cell BK115.out 1).trans rfl; have hcz9_2 : w8.cell? ⟨gb115, 2, none⟩ = some (.slice A0_2 l0_2.length c0_2) := (blk_cell BK115.out 2).trans rfl; have hfz9_0 := blk_frozen BK115.out 0; have hfz9_1 := blk_frozen BK115.out 1; have hfz9_2 := blk_frozen BK115.out 2) | ((with_reducible refine gate_callee (f := 24) rfl ?_); refine goesL_ (some 8) rfl rfl Try.func24 (by kernel_rfl) rfl #[.agg #[.int .i64 a0_0, .int .i64 a0_1, .slice A0_2 l0_2.length c0_2]] rfl (by (try simp only [List.map_toArray, List.map_cons, List.map_nil]); first | done | rfl | (simp only [List.length_drop, List.length_take]; rfl)) ?_; (with_reducible refine (record_Check.calls a0_0 a0_1 _ _ l0_2 t116 _ ?side1 ?side2 A2.out).mono ?_); (case side1 => repeat (first | exact (Kd.C_below HR0_2.out HB.out) | (with_reducible refine Kd.C_alloc ?_ _) | (with_reducible refine Kd.C_drewN ?_ _) | (with_reducible refine Kd.C_drew ?_))); (case side2 => exact HC0_2.out); rintro e w10 ⟨rfl, hb⟩; refine ⟨_, rfl, ?_⟩; have n0_ := Aside0.mk (blk_below (g := gb115) (o := .cells #[.int .i64 a0_0, .int .i64 a0_1, .slice A0_2 l0_2.length c0_2] 25 (0, 0)) (by (with_reducible repeat (first | refine blk_drewN ?_ _ | refine blk_drew ?_ | refine blk_alloc ?_ _)); exact BK115.out) hb); have n1_ := Aside0.mk (below_step (by repeat (first | (with_reducible first | exact HB.out | apply below_alloc | apply pw_below_drewN | apply below_drew1 | refine below_set ?_ GE115.out) | exact HB.out)) hb); clear BK115; clear HB; have BK115 := n0_; have HB := n1_; clear n0_ n1_; (try clear hb); (try clear hb2); (try clear hk); (try clear hi); have hcz11_0 : w10.cell? ⟨gb115, 0, none⟩ = some (.int .i64 a0_0) := (blk_cell BK115.out 0).trans rfl; have hcz11_1 : w10.cell? ⟨gb115, 1, none⟩ = some (.int .i64 a0_1) := (blk_cell BK115.out 1).trans rfl; have hcz11_2 : w10.cell? ⟨gb115, 2, none⟩ = some (.slice A0_2 l0_2.length c0_2) := (blk_cell BK115.out 2).trans rfl; have hfz11_0 := blk_frozen BK115.out 0; have hfz11_1 := blk_frozen BK115.out 1; have hfz11_2 := blk_frozen BK115.out 2) | ((with_reducible refine gate_dst (N := 23) rfl ?_); refine Kd.R_lit (Kd.int .u64) _ 68 ?hg (N := 23) ?hd (xs := ([1196184151, IntKind.u64.wrap (a0_0), IntKind.u64.wrap ((l0_2.length : Int)), IntKind.u64.wrap (a0_1)] : List Int)) (inner := [.int .u64 1196184151, .int .u64 (IntKind.u64.wrap (a0_0)), .int .u64 (IntKind.u64.wrap ((l0_2.length : Int))), .int .u64 (IntKind.u64.wrap (a0_1))]) (ok := fun _ => True) (okp := fun _ => True) ?hr ?hp (fun _ hk => hk) trivial (Below.refl _ _) (Nat.le_refl _) (by simp) ?_; (case hd => rfl); (case hg => rfl); (case hr => first | (go_simp; done) | (go_simp; rfl)); (case hp => exact (Reps.one (show Kd.M (Kd.int .u64) _ _ _ 1196184151 [.int .u64 1196184151] from rfl) (Reps.one (show Kd.M (Kd.int .u64) _ _ _ (IntKind.u64.wrap (a0_0)) [.int .u64 (IntKind.u64.wrap (a0_0))] from rfl) (Reps.one (show Kd.M (Kd.int .u64) _ _ _ (IntKind.u64.wrap ((l0_2.length : Int))) [.int .u64 (IntKind.u64.wrap ((l0_2.length : Int)))] from rfl) (Reps.one (show Kd.M (Kd.int .u64) _ _ _ (IntKind.u64.wrap (a0_1)) [.int .u64 (IntKind.u64.wrap (a0_1))] from rfl) (Reps.none _ _)))))); intro v118 w12 ho13 hb hg_ hnew_; clear hg_ hnew_; (first | rw [← Ny117.out] at ho13 | (simp only [Int.reduceToNat] at ho13; rw [← Ny117.out] at ho13)); have n0_ := Aside0.mk (Kd.R_lower ho13 (below_size (by repeat (first | (with_reducible first | exact HB.out | apply below_alloc | apply pw_below_drewN | apply below_drew1 | refine below_set ?_ GE115.out) | exact HB.out)))); have n1_ := Aside0.mk (blk_below (g := gb115) (o := .cells #[.int .i64 a0_0, .int .i64 a0_1, .slice A0_2 l0_2.length c0_2] 25 (0, 0)) (by (with_reducible repeat (first | refine blk_drewN ?_ _ | refine blk_drew ?_ | refine blk_alloc ?_ _)); exact BK115.out) hb); have n2_ := Aside0.mk (below_step (by repeat (first | (with_reducible first | exact HB.out | apply below_alloc | apply pw_below_drewN | apply below_drew1 | refine below_set ?_ GE115.out) | exact HB.out)) hb); clear BK115; clear HB; have HO119 := n0_; have BK115 := n1_; have HB := n2_; clear n0_ n1_ n2_; clear hb ho13; obtain ⟨Ao14, co14, eo14⟩ := Kd.R_slice HO119.out; subst eo14) | ((with_reducible refine gate_callee (f := 50) rfl ?_); refine goesL_ (some 24) rfl rfl Try.func50 (by kernel_rfl) rfl #[.string (⟨#[119, 104, 104, 113]⟩ : ByteArray), .slice Ao14 y117.length co14] rfl (by (try simp only [List.map_toArray, List.map_cons, List.map_nil]); first | done | rfl | (simp only [List.length_drop, List.length_take]; rfl)) ?_; (with_reducible refine (le_Pack.calls (⟨#[119, 104, 104, 113]⟩ : ByteArray) _ _ y117 t120 t121 _ ?side1 ?side2 A4.out).mono ?_); (case side1 => repeat (first | exact (Kd.R_reads' HO119.out).2.2 | (with_reducible refine Kd.C_alloc ?_ _) | (with_reducible refine Kd.C_drewN ?_ _) | (with_reducible refine Kd.C_drew ?_))); (case side2 => exact (Kd.R_reads' HO119.out).2.1); rintro e w15 ⟨v122, rfl, ho0, hb⟩; refine ⟨_, rfl, ?_⟩; have n0_ := Aside0.mk (Kd.R_below (by (with_reducible repeat (first | apply Kd.R_alloc | apply Kd.R_drewN | apply Kd.R_drew)); exact HO119.out) hb); have n1_ := Aside0.mk (Kd.R_lower ho0 (below_size (by repeat (first | (with_reducible first | exact HB.out | apply below_alloc | apply pw_below_drewN | apply below_drew1 | refine below_set ?_ GE115.out) | exact HB.out)))); have n2_ := Aside0.mk (blk_below (g := gb115) (o := .cells #[.int .i64 a0_0, .int .i64 a0_1, .slice A0_2 l0_2.length c0_2] 25 (0, 0)) (by (with_reducible repeat (first | refine blk_drewN ?_ _ | refine blk_drew ?_ | refine blk_alloc ?_ _)); exact BK115.out) hb); have n3_ := Aside0.mk (below_step (by repeat (first | (with_reducible first | exact HB.out | apply below_alloc | apply pw_below_drewN | apply below_drew1 | refine below_set ?_ GE115.out) | exact HB.out)) hb); clear HO119; clear BK115; clear HB; have HO119 := n0_; have HO123 := n1_; have BK115 := n2_; have HB := n3_; clear n0_ n1_ n2_ n3_; (try clear hb); (try clear hb2); (try clear hk); (try clear hi); (try clear ho0); have hcz16_0 : w15.cell? ⟨gb115, 0, none⟩ = some (.int .i64 a0_0) := (blk_cell BK115.out 0).trans rfl; have hcz16_1 : w15.cell? ⟨gb115, 1, none⟩ = some (.int .i64 a0_1) := (blk_cell BK115.out 1).trans rfl; have hcz16_2 : w15.cell? ⟨gb115, 2, none⟩ = some (.slice A0_2 l0_2.length c0_2) := (blk_cell BK115.out 2).trans rfl; have hfz16_0 := blk_frozen BK115.out 0; have hfz16_1 := blk_frozen BK115.out 1; have hfz16_2 := blk_frozen BK115.out 2) | ((with_reducible refine gate_builtin (b := .append) (xs := #[.tmp 29, .tmp 31]) rfl ?_); at_builtin; refine Kd.R_append_rows (Kd.int .u8) (w0 := w) w.heap.size rfl (.tmp 29) (.tmp 31) 23 5 (.int .u8 0) 1 rfl Try.underlying23 info5 rfl (by decide) (by omega) v122 t120 l0_2 _ _ _ (fun _ => True) (fun _ => False) rfl rfl ?aO ?aR (fun _ _ h => h) (fun _ h => h.elim) ?aF ?aB ?aS ?aL ?_; (case aR => repeat (first | exact (Kd.C_below HR0_2.out HB.out) | (with_reducible refine Kd.C_alloc ?_ _) | (with_reducible refine Kd.C_drewN ?_ _) | (with_reducible refine Kd.C_drew ?_))); (case aB => exact (by repeat (first | (with_reducible first | exact HB.out | apply below_alloc | apply pw_below_drewN | apply below_drew1 | refine below_set ?_ GE115.out) | exact HB.out))); (case aF => exact (fun _ _ => trivial)); (case aO => exact (by (with_reducible repeat (first | apply Kd.R_alloc | apply Kd.R_drewN | apply Kd.R_drew)); exact HO123.out)); (case aS => exact (below_size (by repeat (first | (with_reducible first | exact HB.out | apply below_alloc | apply pw_below_drewN | apply below_drew1 | refine below_set ?_ GE115.out) | exact HB.out)))); (case aL => have := LMc6.out; omega); intro v125 w17 ho hb hg hat; rw [← Ny124.out] at ho; have n0_ := Aside0.mk (blk_grown (g := gb115) (o := .cells #[.int .i64 a0_0, .int .i64 a0_1, .slice A0_2 l0_2.length c0_2] 25 (0, 0)) (by (with_reducible repeat (first | refine blk_drewN ?_ _ | refine blk_drew ?_ | refine blk_alloc ?_ _)); exact BK115.out) hg (Kd.R_ne HO123.out BK115.out (by decide))); have n1_ := Aside0.mk (Kd.R_over' (by (with_reducible repeat (first | apply Kd.R_alloc | apply Kd.R_drewN | apply Kd.R_drew)); exact HO119.out) (Kd.R_typed (by (with_reducible repeat (first | apply Kd.R_alloc | apply Kd.R_drewN | apply Kd.R_drew)); exact HO123.out)) (by decide) hg); have n2_ := Aside0.mk (hb); have n3_ := Aside0.mk (ho); clear BK115; clear HO119; clear HB; clear HO123; have BK115 := n0_; have HO119 := n1_; have HB := n2_; have HO126 := n3_; clear n0_ n1_ n2_ n3_; clear ho hb hg hat; obtain ⟨Ao18, co18, eo18⟩ := Kd.R_slice HO126.out; subst eo18) | ((with_reducible refine gate_callee (f := 51) rfl ?_); refine goesL_ (some 33) rfl rfl Try.func51 (by kernel_rfl) rfl #[.slice Ao18 y124.length co18] rfl (by (try simp only [List.map_toArray, List.map_cons, List.map_nil]); first | done | rfl | (simp only [List.length_drop, List.length_take]; rfl)) ?_; (with_reducible refine (crc_Seal.calls _ _ y124 t127 _ ?side1 ?side2 A7.out).mono ?_); (case side1 => repeat (first | exact (Kd.R_reads' HO126.out).2.2 | (with_reducible refine Kd.C_alloc ?_ _) | (with_reducible refine Kd.C_drewN ?_ _) | (with_reducible refine Kd.C_drew ?_))); (case side2 => exact (Kd.R_reads' HO126.out).2.1); rintro e w19 ⟨v128, rfl, ho0, hb⟩; refine ⟨_, rfl, ?_⟩; have n0_ := Aside0.mk (Kd.R_below (by (with_reducible repeat (first | apply Kd.R_alloc | apply Kd.R_drewN | apply Kd.R_drew)); exact HO119.out) hb); have n1_ := Aside0.mk (Kd.R_elder' (by (with_reducible repeat (first | apply Kd.R_alloc | apply Kd.R_drewN | apply Kd.R_drew)); exact HO126.out) (Kd.R_base ho0) hb); have n2_ := Aside0.mk (Kd.R_lower (Kd.R_new' ho0 (Kd.R_lt (by (with_reducible repeat (first | apply Kd.R_alloc | apply Kd.R_drewN | apply Kd.R_drew)); exact HO126.out))) (below_size (by repeat (first | (with_reducible first | exact HB.out | apply below_alloc | apply pw_below_drewN | apply below_drew1 | refine below_set ?_ GE115.out) | exact HB.out)))); have n3_ := Aside0.mk (blk_below (g := gb115) (o := .cells #[.int .i64 a0_0, .int .i64 a0_1, .slice A0_2 l0_2.length c0_2] 25 (0, 0)) (by (with_reducible repeat (first | refine blk_drewN ?_ _ | refine blk_drew ?_ | refine blk_alloc ?_ _)); exact BK115.out) hb); have n4_ := Aside0.mk (below_step (by repeat (first | (with_reducible first | exact HB.out | apply below_alloc | apply pw_below_drewN | apply below_drew1 | refine below_set ?_ GE115.out) | exact HB.out)) hb); clear HO119; clear HO126; clear BK115; clear HB; have HO119 := n0_; have HO126 := n1_; have HO129 := n2_; have BK115 := n3_; have HB := n4_; clear n0_ n1_ n2_ n3_ n4_; (try clear hb); (try clear hb2); (try clear hk); (try clear hi); (try clear ho0)))
    go_ret2
    exact ⟨_, by first | rfl | (simp [errW_none, errW_some] <;> rfl) | (simp [*, errW_none, errW_some] <;> rfl), by (with_reducible repeat (first | apply Kd.R_alloc | apply Kd.R_drewN | apply Kd.R_drew)); exact Kd.R_mono HO129.out (fun _ hk => trivial), by repeat (first | (with_reducible first | exact HB.out | apply below_alloc | apply pw_below_drewN | apply below_drew1 | refine below_set ?_ GE115.out) | exact HB.out)⟩
   ·rw [if_neg c6] at H
    exact absurd H (by simp)
  ·rw [if_neg c5] at H
   have c5b0 : (t121 == 0) = false := beq_eq_false_iff_ne.mpr c5
   have c5b1 : (t121 != 0) = true := bne_iff_ne.mpr c5
   simp only [Option.some.injEq, Prod.mk.injEq] at H
   obtain ⟨rfl, rfl⟩ := H
   go_enter Try.func19, Try.ntmps19
   go_wp2_with (first | ((with_reducible refine gate_dst (N := 1) rfl ?_); refine box_event ?hg (N := 1) ?hd (cs := #[.int .i64 a0_0, .int .i64 a0_1, .slice A0_2 l0_2.length c0_2]) (t := 25) ?hr ?_; (case hd => rfl); (case hg => rfl); (case hr => first | (go_simp; done) | (go_simp; rfl)); intro gb115 hg w20 hbox hb; have n0_ := Aside0.mk (below_step (by repeat (first | (with_reducible first | exact HB.out | apply below_alloc | apply pw_below_drewN | apply below_drew1) | exact HB.out)) hb); have n1_ := Aside0.mk (hbox); have n2_ := Aside0.mk ((by rw [hg]; exact (below_size (by repeat (first | (with_reducible first | exact HB.out | apply below_alloc | apply pw_below_drewN | apply below_drew1) | exact HB.out))) : w.heap.size ≤ gb115)); have n3_ := Aside0.mk ((by rw [hg]; exact (below_size (by repeat (first | (with_reducible first | exact HB.out | apply below_alloc | apply pw_below_drewN | apply below_drew1) | exact HB.out))) : w.heap.size ≤ gb115)); clear HB; have HB := n0_; have BK115 := n1_; have GW115 := n2_; have GE115 := n3_; clear n0_ n1_ n2_ n3_; clear hb hbox hg; have hcz21_0 : w20.cell? ⟨gb115, 0, none⟩ = some (.int .i64 a0_0) := (blk_cell BK115.out 0).trans rfl; have hcz21_1 : w20.cell? ⟨gb115, 1, none⟩ = some (.int .i64 a0_1) := (blk_cell BK115.out 1).trans rfl; have hcz21_2 : w20.cell? ⟨gb115, 2, none⟩ = some (.slice A0_2 l0_2.length c0_2) := (blk_cell BK115.out 2).trans rfl; have hfz21_0 := blk_frozen BK115.out 0; have hfz21_1 := blk_frozen BK115.out 1; have hfz21_2 := blk_frozen BK115.out 2) | ((with_reducible refine gate_callee (f := 24) rfl ?_); refine goesL_ (some 8) rfl rfl Try.func24 (by kernel_rfl) rfl #[.agg #[.int .i64 a0_0, .int .i64 a0_1, .slice A0_2 l0_2.length c0_2]] rfl (by (try simp only [List.map_toArray, List.map_cons, List.map_nil]); first | done | rfl | (simp only [List.length_drop, List.length_take]; rfl)) ?_; (with_reducible refine (record_Check.calls a0_0 a0_1 _ _ l0_2 t116 _ ?side1 ?side2 A2.out).mono ?_); (case side1 => repeat (first | exact (Kd.C_below HR0_2.out HB.out) | (with_reducible refine Kd.C_alloc ?_ _) | (with_reducible refine Kd.C_drewN ?_ _) | (with_reducible refine Kd.C_drew ?_))); (case side2 => exact HC0_2.out); rintro e w22 ⟨rfl, hb⟩; refine ⟨_, rfl, ?_⟩; have n0_ := Aside0.mk (blk_below (g := gb115) (o := .cells #[.int .i64 a0_0, .int .i64 a0_1, .slice A0_2 l0_2.length c0_2] 25 (0, 0)) (by (with_reducible repeat (first | refine blk_drewN ?_ _ | refine blk_drew ?_ | refine blk_alloc ?_ _)); exact BK115.out) hb); have n1_ := Aside0.mk (below_step (by repeat (first | (with_reducible first | exact HB.out | apply below_alloc | apply pw_below_drewN | apply below_drew1 | refine below_set ?_ GE115.out) | exact HB.out)) hb); clear BK115; clear HB; have BK115 := n0_; have HB := n1_; clear n0_ n1_; (try clear hb); (try clear hb2); (try clear hk); (try clear hi); have hcz23_0 : w22.cell? ⟨gb115, 0, none⟩ = some (.int .i64 a0_0) := (blk_cell BK115.out 0).trans rfl; have hcz23_1 : w22.cell? ⟨gb115, 1, none⟩ = some (.int .i64 a0_1) := (blk_cell BK115.out 1).trans rfl; have hcz23_2 : w22.cell? ⟨gb115, 2, none⟩ = some (.slice A0_2 l0_2.length c0_2) := (blk_cell BK115.out 2).trans rfl; have hfz23_0 := blk_frozen BK115.out 0; have hfz23_1 := blk_frozen BK115.out 1; have hfz23_2 := blk_frozen BK115.out 2) | ((with_reducible refine gate_dst (N := 23) rfl ?_); refine Kd.R_lit (Kd.int .u64) _ 68 ?hg (N := 23) ?hd (xs := ([1196184151, IntKind.u64.wrap (a0_0), IntKind.u64.wrap ((l0_2.length : Int)), IntKind.u64.wrap (a0_1)] : List Int)) (inner := [.int .u64 1196184151, .int .u64 (IntKind.u64.wrap (a0_0)), .int .u64 (IntKind.u64.wrap ((l0_2.length : Int))), .int .u64 (IntKind.u64.wrap (a0_1))]) (ok := fun _ => True) (okp := fun _ => True) ?hr ?hp (fun _ hk => hk) trivial (Below.refl _ _) (Nat.le_refl _) (by simp) ?_; (case hd => rfl); (case hg => rfl); (case hr => first | (go_simp; done) | (go_simp; rfl)); (case hp => exact (Reps.one (show Kd.M (Kd.int .u64) _ _ _ 1196184151 [.int .u64 1196184151] from rfl) (Reps.one (show Kd.M (Kd.int .u64) _ _ _ (IntKind.u64.wrap (a0_0)) [.int .u64 (IntKind.u64.wrap (a0_0))] from rfl) (Reps.one (show Kd.M (Kd.int .u64) _ _ _ (IntKind.u64.wrap ((l0_2.length : Int))) [.int .u64 (IntKind.u64.wrap ((l0_2.length : Int)))] from rfl) (Reps.one (show Kd.M (Kd.int .u64) _ _ _ (IntKind.u64.wrap (a0_1)) [.int .u64 (IntKind.u64.wrap (a0_1))] from rfl) (Reps.none _ _)))))); intro v118 w24 ho25 hb hg_ hnew_; clear hg_ hnew_; (first | rw [← Ny117.out] at ho25 | (simp only [Int.reduceToNat] at ho25; rw [← Ny117.out] at ho25)); have n0_ := Aside0.mk (Kd.R_lower ho25 (below_size (by repeat (first | (with_reducible first | exact HB.out | apply below_alloc | apply pw_below_drewN | apply below_drew1 | refine below_set ?_ GE115.out) | exact HB.out)))); have n1_ := Aside0.mk (blk_below (g := gb115) (o := .cells #[.int .i64 a0_0, .int .i64 a0_1, .slice A0_2 l0_2.length c0_2] 25 (0, 0)) (by (with_reducible repeat (first | refine blk_drewN ?_ _ | refine blk_drew ?_ | refine blk_alloc ?_ _)); exact BK115.out) hb); have n2_ := Aside0.mk (below_step (by repeat (first | (with_reducible first | exact HB.out | apply below_alloc | apply pw_below_drewN | apply below_drew1 | refine below_set ?_ GE115.out) | exact HB.out)) hb); clear BK115; clear HB; have HO119 := n0_; have BK115 := n1_; have HB := n2_; clear n0_ n1_ n2_; clear hb ho25; obtain ⟨Ao26, co26, eo26⟩ := Kd.R_slice HO119.out; subst eo26) | ((with_reducible refine gate_callee (f := 50) rfl ?_); refine goesL_ (some 24) rfl rfl Try.func50 (by kernel_rfl) rfl #[.string (⟨#[119, 104, 104, 113]⟩ : ByteArray), .slice Ao26 y117.length co26] rfl (by (try simp only [List.map_toArray, List.map_cons, List.map_nil]); first | done | rfl | (simp only [List.length_drop, List.length_take]; rfl)) ?_; (with_reducible refine (le_Pack.calls (⟨#[119, 104, 104, 113]⟩ : ByteArray) _ _ y117 t120 t121 _ ?side1 ?side2 A4.out).mono ?_); (case side1 => repeat (first | exact (Kd.R_reads' HO119.out).2.2 | (with_reducible refine Kd.C_alloc ?_ _) | (with_reducible refine Kd.C_drewN ?_ _) | (with_reducible refine Kd.C_drew ?_))); (case side2 => exact (Kd.R_reads' HO119.out).2.1); rintro e w27 ⟨v122, rfl, ho0, hb⟩; refine ⟨_, rfl, ?_⟩; have n0_ := Aside0.mk (Kd.R_below (by (with_reducible repeat (first | apply Kd.R_alloc | apply Kd.R_drewN | apply Kd.R_drew)); exact HO119.out) hb); have n1_ := Aside0.mk (Kd.R_lower ho0 (below_size (by repeat (first | (with_reducible first | exact HB.out | apply below_alloc | apply pw_below_drewN | apply below_drew1 | refine below_set ?_ GE115.out) | exact HB.out)))); have n2_ := Aside0.mk (blk_below (g := gb115) (o := .cells #[.int .i64 a0_0, .int .i64 a0_1, .slice A0_2 l0_2.length c0_2] 25 (0, 0)) (by (with_reducible repeat (first | refine blk_drewN ?_ _ | refine blk_drew ?_ | refine blk_alloc ?_ _)); exact BK115.out) hb); have n3_ := Aside0.mk (below_step (by repeat (first | (with_reducible first | exact HB.out | apply below_alloc | apply pw_below_drewN | apply below_drew1 | refine below_set ?_ GE115.out) | exact HB.out)) hb); clear HO119; clear BK115; clear HB; have HO119 := n0_; have HO123 := n1_; have BK115 := n2_; have HB := n3_; clear n0_ n1_ n2_ n3_; (try clear hb); (try clear hb2); (try clear hk); (try clear hi); (try clear ho0)))
   go_ret2
   exact ⟨_, by first | rfl | (simp [errW_none, errW_some] <;> rfl) | (simp [*, errW_none, errW_some] <;> rfl), by first | exact Kd.R_nil _ _ _ _ _ | exact Kd.N_nil _ _ _ _ _ | exact Kd.V_nil _ _ _ _ _ | exact Kd.Q_nil _ _ _ _ _ | exact Kd.S_nil _ _ _ _ _, by repeat (first | (with_reducible first | exact HB.out | apply below_alloc | apply pw_below_drewN | apply below_drew1 | refine below_set ?_ GE115.out) | exact HB.out)⟩
 ·rw [if_neg c3] at H
  have c3b0 : (t116 == 0) = false := beq_eq_false_iff_ne.mpr c3
  have c3b1 : (t116 != 0) = true := bne_iff_ne.mpr c3
  simp only [Option.some.injEq, Prod.mk.injEq] at H
  obtain ⟨rfl, rfl⟩ := H
  go_enter Try.func19, Try.ntmps19
  go_wp2_with (first | ((with_reducible refine gate_dst (N := 1) rfl ?_); refine box_event ?hg (N := 1) ?hd (cs := #[.int .i64 a0_0, .int .i64 a0_1, .slice A0_2 l0_2.length c0_2]) (t := 25) ?hr ?_; (case hd => rfl); (case hg => rfl); (case hr => first | (go_simp; done) | (go_simp; rfl)); intro gb115 hg w28 hbox hb; have n0_ := Aside0.mk (below_step (by repeat (first | (with_reducible first | exact HB.out | apply below_alloc | apply pw_below_drewN | apply below_drew1) | exact HB.out)) hb); have n1_ := Aside0.mk (hbox); have n2_ := Aside0.mk ((by rw [hg]; exact (below_size (by repeat (first | (with_reducible first | exact HB.out | apply below_alloc | apply pw_below_drewN | apply below_drew1) | exact HB.out))) : w.heap.size ≤ gb115)); have n3_ := Aside0.mk ((by rw [hg]; exact (below_size (by repeat (first | (with_reducible first | exact HB.out | apply below_alloc | apply pw_below_drewN | apply below_drew1) | exact HB.out))) : w.heap.size ≤ gb115)); clear HB; have HB := n0_; have BK115 := n1_; have GW115 := n2_; have GE115 := n3_; clear n0_ n1_ n2_ n3_; clear hb hbox hg; have hcz29_0 : w28.cell? ⟨gb115, 0, none⟩ = some (.int .i64 a0_0) := (blk_cell BK115.out 0).trans rfl; have hcz29_1 : w28.cell? ⟨gb115, 1, none⟩ = some (.int .i64 a0_1) := (blk_cell BK115.out 1).trans rfl; have hcz29_2 : w28.cell? ⟨gb115, 2, none⟩ = some (.slice A0_2 l0_2.length c0_2) := (blk_cell BK115.out 2).trans rfl; have hfz29_0 := blk_frozen BK115.out 0; have hfz29_1 := blk_frozen BK115.out 1; have hfz29_2 := blk_frozen BK115.out 2) | ((with_reducible refine gate_callee (f := 24) rfl ?_); refine goesL_ (some 8) rfl rfl Try.func24 (by kernel_rfl) rfl #[.agg #[.int .i64 a0_0, .int .i64 a0_1, .slice A0_2 l0_2.length c0_2]] rfl (by (try simp only [List.map_toArray, List.map_cons, List.map_nil]); first | done | rfl | (simp only [List.length_drop, List.length_take]; rfl)) ?_; (with_reducible refine (record_Check.calls a0_0 a0_1 _ _ l0_2 t116 _ ?side1 ?side2 A2.out).mono ?_); (case side1 => repeat (first | exact (Kd.C_below HR0_2.out HB.out) | (with_reducible refine Kd.C_alloc ?_ _) | (with_reducible refine Kd.C_drewN ?_ _) | (with_reducible refine Kd.C_drew ?_))); (case side2 => exact HC0_2.out); rintro e w30 ⟨rfl, hb⟩; refine ⟨_, rfl, ?_⟩; have n0_ := Aside0.mk (blk_below (g := gb115) (o := .cells #[.int .i64 a0_0, .int .i64 a0_1, .slice A0_2 l0_2.length c0_2] 25 (0, 0)) (by (with_reducible repeat (first | refine blk_drewN ?_ _ | refine blk_drew ?_ | refine blk_alloc ?_ _)); exact BK115.out) hb); have n1_ := Aside0.mk (below_step (by repeat (first | (with_reducible first | exact HB.out | apply below_alloc | apply pw_below_drewN | apply below_drew1 | refine below_set ?_ GE115.out) | exact HB.out)) hb); clear BK115; clear HB; have BK115 := n0_; have HB := n1_; clear n0_ n1_; (try clear hb); (try clear hb2); (try clear hk); (try clear hi)))
  go_ret2
  exact ⟨_, by first | rfl | (simp [errW_none, errW_some] <;> rfl) | (simp [*, errW_none, errW_some] <;> rfl), by first | exact Kd.R_nil _ _ _ _ _ | exact Kd.N_nil _ _ _ _ _ | exact Kd.V_nil _ _ _ _ _ | exact Kd.Q_nil _ _ _ _ _ | exact Kd.S_nil _ _ _ _ _, by repeat (first | (with_reducible first | exact HB.out | apply below_alloc | apply pw_below_drewN | apply below_drew1 | refine below_set ?_ GE115.out) | exact HB.out)⟩
def record_Write.f (a0_0 : Int) (a0_1 : Int) (l0_2 : List Int) : Option (List Int × Int) := if Pl.byteB l0_2 = true then some (Pl.rwriteS a0_0 a0_1 l0_2) else none
theorem record_Check.tells (k s : Int) (l : List Int) : record_Check.f k s l = some (if Pl.recOk k s l = true then 0 else 50) := by
 unfold record_Check.f
 by_cases h1 : k < 1
 ·rw [if_pos h1, if_neg (by rw [Pl.recOk_iff]; omega)]
 rw [if_neg h1]
 by_cases h2 : k > 5
 ·rw [if_pos h2, if_neg (by rw [Pl.recOk_iff]; omega)]
 rw [if_neg h2]
 by_cases h3 : s < 0
 ·rw [if_pos h3, if_neg (by rw [Pl.recOk_iff]; omega)]
 rw [if_neg h3]
 by_cases h4 : s > 4611686018427387903
 ·rw [if_pos h4, if_neg (by rw [Pl.recOk_iff]; omega)]
 rw [if_neg h4]
 by_cases h5 : (l.length : Int) > 4096
 ·rw [if_pos h5, if_neg (by rw [Pl.recOk_iff]; omega)]
 rw [if_neg h5, if_pos (by rw [Pl.recOk_iff]; omega)]
theorem record_Write.tells {k s : Int} {l : List Int} {r : List Int × Int} (h : record_Write.f k s l = some r) : record_Write_p.f k s l = some r := by
 unfold record_Write.f at h
 split at h
 case isFalse => cases h
 rename_i hb
 obtain rfl := Option.some.inj h
 unfold record_Write_p.f Pl.rwriteS
 rw [record_Check.tells, Option.bind_some]
 by_cases ho : Pl.recOk k s l = true
 ·obtain ⟨h1, h2, h3, h4, h5⟩ := Pl.recOk_iff.1 ho
  have e1 : IntKind.u64.wrap k = k := by rw [IntKind.wrap_u64]; omega
  have e2 : IntKind.u64.wrap (l.length : Int) = (l.length : Int) := by rw [IntKind.wrap_u64]; omega
  have e3 : IntKind.u64.wrap s = s := by rw [IntKind.wrap_u64]; omega
  have hp := Pl.packP_rec (n0 := 1196184151) (k := k) (n := (l.length : Int)) (s := s) (by decide) (by omega) (by omega) (by omega)
  have hk : le_Pack.f (⟨#[119, 104, 104, 113]⟩ : ByteArray) [1196184151, k, (l.length : Int), s] = some (Pl.recHead k s (l.length : Int), 0) := by
   unfold le_Pack.f
   rw [if_pos ⟨Pl.u64B_iff.2 (by
    intro x hx
    simp only [List.mem_cons, List.not_mem_nil, or_false] at hx
    omega), by decide⟩, show Pl.fb (⟨#[119, 104, 104, 113]⟩ : ByteArray) = Pl.recForm from by kernel_rfl, Pl.packS_some hp]
   rfl
  rw [if_pos ho, if_pos rfl, e1, e2, e3, hk, Option.bind_some, if_pos rfl, if_pos (by rw [Pl.recHead_length]; omega)]
  rw [show crc_Seal.f (Pl.recHead k s (l.length : Int) ++ l) = some (Pl.recB k s l) from by
   unfold crc_Seal.f
   rw [if_pos ⟨by rw [Pl.byteB_append, Pl.recHead_byte, hb]; rfl, by rw [List.length_append, Pl.recHead_length]; omega⟩]
   rfl, Option.bind_some, if_pos ho]
 ·rw [if_neg ho, if_neg (by decide), if_neg ho]
theorem record_Write.calls (a0_0 : Int) (a0_1 : Int) (A0_2 : Option Addr) (c0_2 : Nat) (l0_2 : List Int) (r1 : List Int) (r2 : Int) (w : World) (hr0_2 : Kd.C (Kd.int .u8) w A0_2 l0_2.length l0_2) (hc0_2 : l0_2.length ≤ c0_2) (h : record_Write.f a0_0 a0_1 l0_2 = some (r1, r2)) :
  Calls Try.prog 19 #[.agg #[.int .i64 a0_0, .int .i64 a0_1, .slice A0_2 l0_2.length c0_2]] w fun e w' => ∃ v0_ : Value, e = .returned (.tuple #[v0_, .int .i64 r2]) ∧ Kd.R (Kd.int .u8) 5 w' w.heap.size (fun _ => True) v0_ r1 ∧ Below w.heap.size w w' :=
 record_Write_p.calls a0_0 a0_1 A0_2 c0_2 l0_2 r1 r2 w hr0_2 hc0_2 (record_Write.tells h)
def record_Size.f (a0 : Int) : Option (Int) := if a0 < 0 then (some 0) else (if a0 > 4096 then (some 0) else (some (wrap64 ((wrap64 (16 + a0)) + 4))))
set_option maxHeartbeats 8000000 in
set_option maxRecDepth 100000 in
theorem record_Size.calls (a0 : Int) (r : Int) (w : World) (h : record_Size.f a0 = some r) :
  Calls Try.prog 26 #[.int .i64 a0] w fun e w' => e = .returned (.int .i64 r) ∧ Drawn0 w w' := by
 have H : (if a0 < 0 then (some 0) else (if a0 > 4096 then (some 0) else (some (wrap64 ((wrap64 (16 + a0)) + 4))))) = some r := h
 clear h
 by_cases c2 : a0 < 0
 ·rw [if_pos c2] at H
  have c2b0 : decide (a0 < 0) = true := decide_eq_true c2
  clear c2
  obtain rfl := Option.some.inj H
  go_enter Try.func26, Try.ntmps26
  go_wp2
  go_ret
  exact ⟨by first | rfl | (simp; done) | (simp [*]; done), by repeat (first | exact Drawn0.refl _ | apply Drawn0.step)⟩
 ·rw [if_neg c2] at H
  have c2b0 : decide (a0 < 0) = false := decide_eq_false c2
  clear c2
  by_cases c3 : a0 > 4096
  ·rw [if_pos c3] at H
   have c3b0 : decide (4096 < a0) = true := decide_eq_true c3
   clear c3
   obtain rfl := Option.some.inj H
   go_enter Try.func26, Try.ntmps26
   go_wp2
   go_ret
   exact ⟨by first | rfl | (simp; done) | (simp [*]; done), by repeat (first | exact Drawn0.refl _ | apply Drawn0.step)⟩
  ·rw [if_neg c3] at H
   have c3b0 : decide (4096 < a0) = false := decide_eq_false c3
   clear c3
   obtain rfl := Option.some.inj H
   go_enter Try.func26, Try.ntmps26
   go_wp2
   go_ret
   exact ⟨by first | rfl | (simp; done) | (simp [*]; done), by repeat (first | exact Drawn0.refl _ | apply Drawn0.step)⟩
mutual
def le_Take_p.j0 : Nat → List Int → Int → Int → Bool → Option (Int × List Int × Int)
 | 0, _, _, _, _ => none
 | k + 1, x0, x1, x4, x16 => if x16 = true then (some (0, ([] : List Int), 10)) else (le_Take_p.l0 k x0 x1 x4 x1 0)
def le_Take_p.l0 : Nat → List Int → Int → Int → Int → Int → Option (Int × List Int × Int)
 | 0, _, _, _, _, _ => none
 | k + 1, x0, x1, x4, x17, x18 => if x18 < x17 then (if 0 ≤ x18 then (if x18 < (x0.length : Int) then (if 0 ≤ (wrap64 (8 * x18)) then (le_Take_p.l0 k x0 x1 (Go.bits .or .u64 x4 (shl .u64 (IntKind.u64.wrap (rd x0 x18)) (wrap64 (8 * x18)))) x17 (wrap64 (x18 + 1))) else (none)) else (none)) else (none)) else (if 0 ≤ x1 then (if x1 ≤ (x0.length : Int) then ((bytes_Clone.f (x0.drop (x1 : Int).toNat)).bind fun t133 => (some (x4, t133, 0))) else (none)) else (none))
end
def le_Take_p.f (k : Nat) (l0 : List Int) (a1 : Int) : Option (Int × List Int × Int) := (le_may.f 0 a1).bind fun t130 => (if t130 = true then (le_Take_p.j0 k l0 a1 0 (decide ((l0.length : Int) < a1))) else (le_Take_p.j0 k l0 a1 0 true))
set_option maxHeartbeats 8000000 in
set_option maxRecDepth 100000 in
theorem le_Take_p.calls (k : Nat) (A0 : Option Addr) (c0 : Nat) (l0 : List Int) (a1 : Int) (r1 : Int) (r2 : List Int) (r3 : Int) (w : World) (hr0 : Kd.C (Kd.int .u8) w A0 l0.length l0) (hc0 : l0.length ≤ c0) (h : le_Take_p.f k l0 a1 = some (r1, r2, r3)) :
  Calls Try.prog 69 #[.slice A0 l0.length c0, .int .i64 a1] w fun e w' => ∃ v1_ : Value, e = .returned (.tuple #[.int .u64 r1, v1_, .int .i64 r3]) ∧ Kd.R (Kd.int .u8) 5 w' w.heap.size (fun _ => True) v1_ r2 ∧ Below w.heap.size w w' := by
 have HR0 := Aside0.mk hr0
 have HC0 := Aside0.mk hc0
 clear hr0 hc0
 have HB := Aside0.mk (Below.refl w.heap.size w)
 have H : ((le_may.f 0 a1).bind fun t130 => (if t130 = true then (le_Take_p.j0 k l0 a1 0 (decide ((l0.length : Int) < a1))) else (le_Take_p.j0 k l0 a1 0 true))) = some (r1, r2, r3) := h
 clear h
 have HC3 := Aside0.mk H
 clear H
 go_enter Try.func69, Try.ntmps69
 go_upto_region 1 with (fail)
 go_cut [16] (fun v16 wc => ∃ (kq : Nat) (x16_2 : Bool), v16 = .bool x16_2 ∧ Aside0 (le_Take_p.j0 kq l0 a1 0 x16_2 = some (r1, r2, r3)) ∧ Aside0 (kq ≤ k) ∧ Aside0 (Below w.heap.size w wc))
 case first =>
  have H := HC3.out
  clear HC3
  replace H := Option.bind_eq_some_iff.mp H
  obtain ⟨t130, A40, H⟩ := H
  replace H : (if t130 = true then (le_Take_p.j0 k l0 a1 0 (decide ((l0.length : Int) < a1))) else (le_Take_p.j0 k l0 a1 0 true)) = some (r1, r2, r3) := H
  have A4 := Aside0.mk A40
  clear A40
  by_cases c5 : t130 = true
  ·subst c5
   have H1 : (le_Take_p.j0 k l0 a1 0 (decide ((l0.length : Int) < a1))) = some (r1, r2, r3) := by rw [if_pos rfl] at H <;> exact H
   clear H
   have H := H1
   clear H1
   have H' := Aside0.mk H
   clear H
   go_wp2_with (first | ((with_reducible refine gate_callee (f := 72) rfl ?_); refine goesL_ (some 9) rfl rfl Try.func72 (by kernel_rfl) rfl #[.int .u64 0, .int .i64 a1] rfl (by (try simp only [List.map_toArray, List.map_cons, List.map_nil]); first | done | rfl | (simp only [List.length_drop, List.length_take]; rfl)) ?_; (with_reducible refine (le_may.calls 0 a1 true _ A4.out).mono ?_); rintro e w' ⟨rfl, ⟨nd, rfl⟩⟩; refine ⟨_, rfl, ?_⟩))
   go_meet
   case rel => exact ⟨_, (decide ((l0.length : Int) < a1)), (by first | rfl | (simp; done) | (simp [*]; done)), H', ⟨by first | omega | exact Nat.le_refl _⟩, ⟨by repeat (first | (with_reducible first | exact HB.out | apply below_alloc | apply pw_below_drewN | apply below_drew1) | exact HB.out)⟩⟩
  ·replace c5 := Bool.eq_false_iff.mpr c5
   subst c5
   have H1 : (le_Take_p.j0 k l0 a1 0 true) = some (r1, r2, r3) := by rw [if_neg (show ¬ (false = true) by decide)] at H <;> exact H
   clear H
   have H := H1
   clear H1
   have H' := Aside0.mk H
   clear H
   go_wp2_with (first | ((with_reducible refine gate_callee (f := 72) rfl ?_); refine goesL_ (some 9) rfl rfl Try.func72 (by kernel_rfl) rfl #[.int .u64 0, .int .i64 a1] rfl (by (try simp only [List.map_toArray, List.map_cons, List.map_nil]); first | done | rfl | (simp only [List.length_drop, List.length_take]; rfl)) ?_; (with_reducible refine (le_may.calls 0 a1 false _ A4.out).mono ?_); rintro e w' ⟨rfl, ⟨nd, rfl⟩⟩; refine ⟨_, rfl, ?_⟩))
   go_meet
   case rel => exact ⟨_, (true), (by first | rfl | (simp; done) | (simp [*]; done)), H', ⟨by first | omega | exact Nat.le_refl _⟩, ⟨by repeat (first | (with_reducible first | exact HB.out | apply below_alloc | apply pw_below_drewN | apply below_drew1) | exact HB.out)⟩⟩
 case rest =>
  clear HC3
  try clear p2
  try clear c5
  obtain ⟨kq, x16_2, rfl, HA, HJ2, HB⟩ := hcut
  cases kq with
  | zero => exact absurd HA.out (by simp [le_Take_p.j0])
  | succ kj2 =>
   have H := HA.out
   clear HA
   simp only [le_Take_p.j0] at H
   by_cases c6 : x16_2 = true
   ·subst c6
    have H1 : (some (0, ([] : List Int), 10)) = some (r1, r2, r3) := by rw [if_pos rfl] at H <;> exact H
    clear H
    have H := H1
    clear H1
    simp only [Option.some.injEq, Prod.mk.injEq] at H
    obtain ⟨rfl, rfl, rfl⟩ := H
    go_wp2
    go_ret3
    exact ⟨_, by first | rfl | (simp [errW_none, errW_some] <;> rfl) | (simp [*, errW_none, errW_some] <;> rfl), by first | exact Kd.R_nil _ _ _ _ _ | exact Kd.N_nil _ _ _ _ _ | exact Kd.V_nil _ _ _ _ _ | exact Kd.Q_nil _ _ _ _ _ | exact Kd.S_nil _ _ _ _ _, by repeat (first | (with_reducible first | exact HB.out | apply below_alloc | apply pw_below_drewN | apply below_drew1) | exact HB.out)⟩
   ·replace c6 := Bool.eq_false_iff.mpr c6
    subst c6
    have H1 : (le_Take_p.l0 kj2 l0 a1 0 a1 0) = some (r1, r2, r3) := by rw [if_neg (show ¬ (false = true) by decide)] at H <;> exact H
    clear H
    have H := H1
    clear H1
    have H' := Aside0.mk H
    clear H
    go_wp2
    go_loopg [4, 18] kj2 (fun kq v4 v18 w' => ∃ (x4_2 : Int) (x18_2 : Int), v4 = .int .u64 x4_2 ∧ v18 = .int .i64 x18_2 ∧ Aside0 (le_Take_p.l0 kq l0 a1 x4_2 a1 x18_2 = some (r1, r2, r3)) ∧ Aside0 (kq ≤ kj2) ∧ Aside0 (Below w.heap.size w w'))
    case atStart => exact ⟨(0), (0), (by first | rfl | (simp; done) | (simp [*]; done)), (by first | rfl | (simp; done) | (simp [*]; done)), H', ⟨Nat.le_refl _⟩, ⟨by repeat (first | (with_reducible first | exact HB.out | apply below_alloc | apply pw_below_drewN | apply below_drew1) | exact HB.out)⟩⟩
    case round =>
     clear H'
     try clear p2
     try clear c5
     try clear c6
     try clear p2
     obtain ⟨x4_2, x18_2, rfl, rfl, HA, HK2, HB⟩ := hrel
     cases gk with
     | zero => exact absurd HA.out (by simp [le_Take_p.l0])
     | succ k2 =>
      have H := HA.out
      clear HA
      simp only [le_Take_p.l0] at H
      by_cases c7 : x18_2 < a1
      ·rw [if_pos c7] at H
       have c7b0 : decide (x18_2 < a1) = true := decide_eq_true c7
       clear c7
       by_cases c8 : 0 ≤ x18_2
       ·rw [if_pos c8] at H
        have c8b0 : decide (0 ≤ x18_2) = true := decide_eq_true c8
        clear c8
        by_cases c9 : x18_2 < (l0.length : Int)
        ·rw [if_pos c9] at H
         have c9b0 : decide (x18_2 < (l0.length : Int)) = true := decide_eq_true c9
         clear c9
         obtain ⟨ji10, hji10⟩ : ∃ j_ : Int, (wrap64 (8 * x18_2)) = j_ := ⟨_, rfl⟩
         replace H : (if 0 ≤ (ji10) then (le_Take_p.l0 k2 l0 a1 (Go.bits .or .u64 x4_2 (shl .u64 (IntKind.u64.wrap (rd l0 x18_2)) (ji10))) a1 (wrap64 (x18_2 + 1))) else (none)) = some (r1, r2, r3) := by first | (rw [hji10] at H; exact H) | (simp only [hji10] at H ⊢; exact H)
         have hji10w : (IntKind.i64.wrap (8 * x18_2)) = ji10 := (i64_w _).trans hji10
         by_cases c11 : 0 ≤ (ji10)
         ·rw [if_pos c11] at H
          have c11b0 := eq_true c11
          have c11b1 : decide (0 ≤ (ji10)) = true := decide_eq_true c11
          clear c11
          obtain ⟨ji12, hji12⟩ : ∃ j_ : Int, (shl .u64 (IntKind.u64.wrap (rd l0 x18_2)) (ji10)) = j_ := ⟨_, rfl⟩
          replace H : (le_Take_p.l0 k2 l0 a1 (Go.bits .or .u64 x4_2 (ji12)) a1 (wrap64 (x18_2 + 1))) = some (r1, r2, r3) := by first | (rw [hji12] at H; exact H) | (simp only [hji12] at H ⊢; exact H)
          have hji12_ : (IntKind.u64.wrap ((IntKind.u64.wrap (rd l0 x18_2)) * 2 ^ min (ji10).toNat 64)) = ji12 := hji12
          have hji12z : (ji10) ≤ 64 → (IntKind.u64.wrap ((IntKind.u64.wrap (rd l0 x18_2)) * 2 ^ (ji10).toNat)) = ji12 := shl_small hji12
          have H' := Aside0.mk H
          clear H
          have p131 : 0 ≤ (x18_2 : Int) := of_decide_eq_true (by first | (with_reducible assumption) | assumption)
          have q131 : x18_2 < (l0.length : Int) := of_decide_eq_true (by first | (with_reducible assumption) | assumption)
          obtain ⟨ad131, e131, hx131_0⟩ := Kd.at_int HR0.out x18_2 p131 q131
          cases e131
          replace hx131_0 := (HB.out.cell (World.block_lt_of_cell? w _ hx131_0)).trans hx131_0
          replace p131 := eq_true p131
          replace q131 := eq_true q131
          go_wp2
          go_roundg k2
          case measure => have := HJ2.out; have := HK2.out; omega
          case rel => exact ⟨(Go.bits .or .u64 x4_2 (ji12)), (wrap64 (x18_2 + 1)), (by first | rfl | (simp; done) | (simp only [← hji12] <;> (first | rfl | simp)) | (simp [*]; done)), (by first | rfl | (simp; done) | (simp [*]; done)), H', ⟨by have := HJ2.out; have := HK2.out; omega⟩, ⟨by repeat (first | (with_reducible first | exact HB.out | apply below_alloc | apply pw_below_drewN | apply below_drew1) | exact HB.out)⟩⟩
         ·rw [if_neg c11] at H
          exact absurd H (by simp)
        ·rw [if_neg c9] at H
         exact absurd H (by simp)
       ·rw [if_neg c8] at H
        exact absurd H (by simp)
      ·rw [if_neg c7] at H
       have c7b0 : decide (x18_2 < a1) = false := decide_eq_false c7
       clear c7
       by_cases c13 : 0 ≤ a1
       ·rw [if_pos c13] at H
        have c13b0 := eq_true c13
        have c13b1 : decide (0 ≤ a1) = true := decide_eq_true c13
        clear c13
        by_cases c14 : a1 ≤ (l0.length : Int)
        ·rw [if_pos c14] at H
         have c14b0 := eq_true c14
         have c14b1 : decide (a1 ≤ (l0.length : Int)) = true := decide_eq_true c14
         clear c14
         replace H := Option.bind_eq_some_iff.mp H
         obtain ⟨t133, A150, H⟩ := H
         replace H : (some (x4_2, t133, 0)) = some (r1, r2, r3) := H
         have A15 := Aside0.mk A150
         clear A150
         simp only [Option.some.injEq, Prod.mk.injEq] at H
         obtain ⟨rfl, rfl, rfl⟩ := H
         obtain ⟨i016, hi016, _, hsz16, _⟩ := info_parts info5
         obtain ⟨A16, hcut16, hA16, hC16⟩ := print_drop_of (P := Try.prog) (Value.int .u8) 0 23 5 .i64 Try.underlying23 hi016 hsz16 A0 c0 l0 a1 (of_decide_eq_true (by first | (with_reducible assumption) | assumption)) (of_decide_eq_true (by first | (with_reducible assumption) | assumption)) HC0.out
         have HR132 := Aside0.mk (Kd.C_of_reads (h1 := fun _ => rfl) (hA16 _ (Kd.reads_of_C HR0.out)))
         have HC132 := Aside0.mk hC16
         clear hA16 hC16 hi016 hsz16
         go_wp2_with (first | ((with_reducible refine gate_callee (f := 56) rfl ?_); refine goesL_ (some 36) rfl rfl Try.func56 (by kernel_rfl) rfl #[.slice A16 (l0.drop (a1 : Int).toNat).length (c0 - a1.toNat)] rfl (by (try simp only [List.map_toArray, List.map_cons, List.map_nil]); first | done | (rw [show (l0.drop (a1 : Int).toNat).length = (l0.length - a1.toNat) from List.length_drop] <;> rfl) | rfl | (simp only [List.length_drop, List.length_take]; rfl)) ?_; (with_reducible refine (bytes_Clone.calls _ _ (l0.drop (a1 : Int).toNat) t133 _ ?side1 ?side2 A15.out).mono ?_); (case side1 => repeat (first | exact (Kd.C_below HR132.out HB.out) | (with_reducible refine Kd.C_alloc ?_ _) | (with_reducible refine Kd.C_drewN ?_ _) | (with_reducible refine Kd.C_drew ?_))); (case side2 => exact HC132.out); rintro e w17 ⟨v134, rfl, ho0, hb⟩; refine ⟨_, rfl, ?_⟩; have n0_ := Aside0.mk (Kd.R_lower ho0 (below_size (by repeat (first | (with_reducible first | exact HB.out | apply below_alloc | apply pw_below_drewN | apply below_drew1) | exact HB.out)))); have n1_ := Aside0.mk (below_step (by repeat (first | (with_reducible first | exact HB.out | apply below_alloc | apply pw_below_drewN | apply below_drew1) | exact HB.out)) hb); clear HB; have HO135 := n0_; have HB := n1_; clear n0_ n1_; (try clear hb); (try clear hb2); (try clear hk); (try clear hi); (try clear ho0)))
         go_ret3
         exact ⟨_, by first | rfl | (simp [errW_none, errW_some] <;> rfl) | (simp [*, errW_none, errW_some] <;> rfl), by (with_reducible repeat (first | apply Kd.R_alloc | apply Kd.R_drewN | apply Kd.R_drew)); exact HO135.out, by repeat (first | (with_reducible first | exact HB.out | apply below_alloc | apply pw_below_drewN | apply below_drew1) | exact HB.out)⟩
        ·rw [if_neg c14] at H
         exact absurd H (by simp)
       ·rw [if_neg c13] at H
        exact absurd H (by simp)
def le_Take.f (l0 : List Int) (a1 : Int) : Option (Int × List Int × Int) := if Pl.byteB l0 = true ∧ l0.length < 70368744177664 then some (Pl.takeS l0 a1) else none
theorem le_Take.may (s : Int) : le_may.f 0 s = some (Pl.okS s) := by
 unfold le_may.f
 by_cases h1 : s = 1
 ·subst h1
  rw [if_pos rfl, show (wrap64 (8 * 1)) = 8 from by unfold wrap64; omega, if_pos (by decide)]
  rfl
 by_cases h2 : s = 2
 ·subst h2
  rw [if_neg (by decide), if_pos rfl, show (wrap64 (8 * 2)) = 16 from by unfold wrap64; omega, if_pos (by decide)]
  rfl
 by_cases h4 : s = 4
 ·subst h4
  rw [if_neg (by decide), if_neg (by decide), if_pos rfl, show (wrap64 (8 * 4)) = 32 from by unfold wrap64; omega, if_pos (by decide)]
  rfl
 rw [if_neg h1, if_neg h2, if_neg h4]
 unfold Pl.okS
 simp [h1, h2, h4]
theorem le_Take.step (v b i : Nat) (hv : v < 2 ^ (8 * i)) (hb : b < 256) (hi : i < 8) : bits .or .u64 (v : Int) (shl .u64 (IntKind.u64.wrap (b : Int)) (wrap64 (8 * (i : Int)))) = ((2 ^ (8 * i) * b + v : Nat) : Int) := by
 have e1 : IntKind.u64.wrap (b : Int) = (b : Int) := by rw [IntKind.wrap_u64]; omega
 have e2 : wrap64 (8 * (i : Int)) = ((8 * i : Nat) : Int) := by unfold wrap64; omega
 have hp : 2 ^ (8 * i) * b < 18446744073709551616 := by
  have h1 : 2 ^ (8 * i) * 256 ≤ 2 ^ 64 := by
   rw [show (256 : Nat) = 2 ^ 8 from rfl, ← Nat.pow_add]
   exact Nat.pow_le_pow_right (by decide) (by omega)
  have h2 : 2 ^ (8 * i) * b < 2 ^ (8 * i) * 256 := Nat.mul_lt_mul_of_pos_left hb (Nat.two_pow_pos _)
  omega
 have h64 : 2 ^ (8 * i) ≤ 2 ^ 64 := Nat.pow_le_pow_right (by decide) (by omega)
 have hv64 : v < 18446744073709551616 := Nat.lt_of_lt_of_le hv h64
 unfold shl
 rw [e1, e2, Int.toNat_natCast, Nat.min_eq_left (show 8 * i ≤ IntKind.u64.bits from by show 8 * i ≤ 64; omega),
  show (b : Int) * 2 ^ (8 * i) = ((2 ^ (8 * i) * b : Nat) : Int) from by push_cast; rw [Int.mul_comm], IntKind.wrap_u64]
 obtain ⟨p, hpe⟩ : ∃ p, p = 2 ^ (8 * i) * b := ⟨_, rfl⟩
 rw [← hpe] at hp ⊢
 rw [show ((p : Nat) : Int) % 18446744073709551616 = (p : Int) from by omega, u64_or_nat v p hv64 hp, hpe, Nat.or_comm, Nat.two_pow_add_eq_or_of_lt hv b]
theorem le_Take.grow (l : List Int) (hb : Pl.byteB l = true) (i : Nat) (hi : i < l.length) : ∃ b : Nat, b < 256 ∧ rd l (i : Int) = (b : Int) ∧ Pl.leN (Pl.nats (l.take i)) < 2 ^ (8 * i) ∧ Pl.leN (Pl.nats (l.take (i + 1))) = 2 ^ (8 * i) * b + Pl.leN (Pl.nats (l.take i)) := by
 obtain ⟨b, hb8, hg, ht⟩ := Pl.byteB_at hb i hi
 have hn : ∀ j, Pl.nats (l.take j) = (Pl.nats l).take j := fun j => by unfold Pl.nats; rw [List.map_take]
 have hbt : Pl.Bytes ((Pl.nats l).take i) := Pl.bytes_take (Pl.byteB_bytes hb) i
 have hlen : ((Pl.nats l).take i).length = i := by rw [List.length_take, Pl.nats_length]; omega
 have hlt : Pl.leN (Pl.nats (l.take i)) < 2 ^ (8 * i) := by
  have := Pl.leN_lt _ hbt
  rw [hlen] at this
  rw [hn]
  exact this
 refine ⟨b, hb8, by unfold rd; rw [Int.toNat_natCast, hg], hlt, ?_⟩
 rw [Pl.add_eq_xor hlt, hn, hn, ht, Pl.leN_append _ _ hbt, hlen, Nat.xor_comm]
 congr 1
 simp [Pl.leN]
theorem le_Take.loop (l : List Int) (hb : Pl.byteB l = true) (s : Nat) (hs : s ≤ l.length) (hs8 : s ≤ 8) (hl : l.length < 70368744177664) : ∀ (d k i : Nat), i + d = s → d < k →
  le_Take_p.l0 k l (s : Int) ((Pl.leN (Pl.nats (l.take i)) : Nat) : Int) (s : Int) (i : Int) = some (((Pl.leN (Pl.nats (l.take s)) : Nat) : Int), l.drop s, 0)
 | 0, k, i, hi, hk => by
  obtain ⟨k, rfl⟩ : ∃ m, k = m + 1 := ⟨k - 1, by omega⟩
  obtain rfl : i = s := by omega
  simp only [le_Take_p.l0]
  unfold bytes_Clone.f
  rw [if_neg (by omega), if_pos (by omega), if_pos (by omega), Int.toNat_natCast, if_pos (by rw [List.length_drop]; omega), Option.bind_some]
 | d + 1, k, i, hi, hk => by
  obtain ⟨k, rfl⟩ : ∃ m, k = m + 1 := ⟨k - 1, by omega⟩
  obtain ⟨b, hb8, hr, hlt, hgo⟩ := le_Take.grow l hb i (by omega)
  simp only [le_Take_p.l0]
  rw [if_pos (by omega), if_pos (by omega), if_pos (by omega), if_pos (by unfold wrap64; omega), hr, le_Take.step _ b i hlt hb8 (by omega), ← hgo, show wrap64 ((i : Int) + 1) = ((i + 1 : Nat) : Int) from by unfold wrap64; omega]
  exact le_Take.loop l hb s hs hs8 hl d k (i + 1) (by omega) (by omega)
theorem le_Take.tells {l0 : List Int} {a1 : Int} {r : Int × List Int × Int} (h : le_Take.f l0 a1 = some r) : le_Take_p.f 12 l0 a1 = some r := by
 unfold le_Take.f at h
 split at h
 case isFalse => cases h
 rename_i hh
 obtain ⟨h0, h1⟩ := hh
 obtain rfl := Option.some.inj h
 unfold le_Take_p.f
 rw [le_Take.may, Option.bind_some]
 unfold Pl.takeS
 by_cases hs : Pl.okS a1 = true
 ·obtain ⟨s, rfl⟩ := Int.eq_ofNat_of_zero_le (show 0 ≤ a1 from by rcases Pl.okS_iff.1 hs with h | h | h | h <;> omega)
  have hs8 : s ≤ 8 := by rcases Pl.okS_iff.1 hs with h | h | h | h <;> omega
  rw [if_pos hs]
  simp only [le_Take_p.j0]
  by_cases hl : (l0.length : Int) < (s : Int)
  ·rw [decide_eq_true hl, if_pos rfl, if_neg (by omega)]
  ·rw [decide_eq_false hl, if_neg (by decide), if_pos ⟨hs, by omega⟩, Int.toNat_natCast]
   exact le_Take.loop l0 h0 s (by omega) hs8 h1 s 11 0 (by omega) (by omega)
 ·rw [if_neg hs, if_neg (fun h => hs h.1)]
  simp only [le_Take_p.j0]
  rfl
theorem le_Take.calls (A0 : Option Addr) (c0 : Nat) (l0 : List Int) (a1 : Int) (r1 : Int) (r2 : List Int) (r3 : Int) (w : World) (hr0 : Kd.C (Kd.int .u8) w A0 l0.length l0) (hc0 : l0.length ≤ c0) (h : le_Take.f l0 a1 = some (r1, r2, r3)) :
  Calls Try.prog 69 #[.slice A0 l0.length c0, .int .i64 a1] w fun e w' => ∃ v1_ : Value, e = .returned (.tuple #[.int .u64 r1, v1_, .int .i64 r3]) ∧ Kd.R (Kd.int .u8) 5 w' w.heap.size (fun _ => True) v1_ r2 ∧ Below w.heap.size w w' :=
 le_Take_p.calls 12 A0 c0 l0 a1 r1 r2 r3 w hr0 hc0 (le_Take.tells h)
end Go.Proofs.Ytcemlfkboifncaa.PA
