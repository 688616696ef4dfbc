/- Words and walks that this claim names, of those that the kit's print and programs of this workplace have printed. -/
import Derived.Test.YtcemlfkboifncaaZPPPx14
import Derived.Test.YtcemlfkboifncaaZPPPx26
import Derived.Test.YtcemlfkboifncaaZPPPx19
namespace Go.Proofs.Ytcemlfkboifncaa.PP
open Go.RowKit Go.Proofs.YtcemlfkboifncaaW.PrintWords Go.Proofs.YtcemlfkboifncaaW.PrintLast Go.Proofs.YtcemlfkboifncaaW.PrintMore
attribute [local go_sem] max2_int min2_int max_two min_two max_three min_three max_four min_four
set_option linter.unusedVariables false
set_option linter.unusedSimpArgs false
def le_Put.f (l0 : List Int) (a1 : Int) (a2 : Int) : Option (List Int × Int) := if 0 ≤ a1 ∧ a1 < 18446744073709551616 ∧ l0.length < 70368744177664 then some (Pl.putS l0 a1 a2) else none
theorem le_Put.loop : ∀ (d : Nat) (k : Nat) (n : Nat) (l : List Int) (s i : Int), d < k → 0 ≤ i → i + d = s → s ≤ 8 → l.length + d < 140737488355328 → le_Put_p.l0 k (n : Int) l s i = some (l ++ Pl.leB d n, 0)
 | 0, k, n, l, s, i, hk, h0, hd, hs, hl => by
  obtain ⟨k, rfl⟩ : ∃ m, k = m + 1 := ⟨k - 1, by omega⟩
  simp only [le_Put_p.l0]
  rw [if_neg (by omega), Pl.leB, List.append_nil]
 | d + 1, k, n, l, s, i, hk, h0, hd, hs, hl => by
  obtain ⟨k, rfl⟩ : ∃ m, k = m + 1 := ⟨k - 1, by omega⟩
  simp only [le_Put_p.l0]
  rw [if_pos (by omega), if_pos (by omega), show wrap64 (i + 1) = i + 1 from by unfold wrap64; omega, show (n : Int) / 256 = ((n / 256 : Nat) : Int) from by omega,
   le_Put.loop d k (n / 256) _ s (i + 1) (by omega) (by omega) (by omega) hs (by rw [List.length_append, List.length_singleton]; omega)]
  rw [Pl.leB, List.append_assoc, List.singleton_append, show (n : Int) % 256 = ((n % 256 : Nat) : Int) from by omega]
theorem le_may.tells (n : Nat) (hn : n < 18446744073709551616) (s : Int) : le_may.f n s = some (Pl.fits n s) := by
 unfold le_may.f
 by_cases h1 : s = 1
 ·subst h1
  have e : (wrap64 (8 * 1)) = 8 := by unfold wrap64; omega
  rw [if_pos rfl, e, if_pos (by decide), Pl.fits_1]
  simp only [shr, IntKind.bits, Option.some.injEq]
  rw [Bool.eq_iff_iff]
  simp
  omega
 by_cases h2 : s = 2
 ·subst h2
  have e : (wrap64 (8 * 2)) = 16 := by unfold wrap64; omega
  rw [if_neg (by decide), if_pos rfl, e, if_pos (by decide), Pl.fits_2]
  simp only [shr, IntKind.bits, Option.some.injEq]
  rw [Bool.eq_iff_iff]
  simp
  omega
 by_cases h4 : s = 4
 ·subst h4
  have e : (wrap64 (8 * 4)) = 32 := by unfold wrap64; omega
  rw [if_neg (by decide), if_neg (by decide), if_pos rfl, e, if_pos (by decide), Pl.fits_4]
  simp only [shr, IntKind.bits, Option.some.injEq]
  rw [Bool.eq_iff_iff]
  simp
  omega
 rw [if_neg h1, if_neg h2, if_neg h4]
 by_cases h8 : s = 8
 ·subst h8
  rw [Pl.fits_8 (by omega)]
  rfl
 ·rw [Pl.fits_no (by rw [← Bool.not_eq_true, Pl.okS_iff]; omega)]
  simpa using h8
theorem le_Put.tells {l0 : List Int} {a1 a2 : Int} {r : List Int × Int} (h : le_Put.f l0 a1 a2 = some r) : le_Put_p.f 10 l0 a1 a2 = some r := by
 unfold le_Put.f at h
 split at h
 case isFalse => cases h
 rename_i hh
 obtain ⟨h0, h1, h2⟩ := hh
 obtain rfl := Option.some.inj h
 obtain ⟨n, rfl⟩ := Int.eq_ofNat_of_zero_le h0
 unfold le_Put_p.f
 rw [le_may.tells n (by omega) a2, Option.bind_some]
 unfold Pl.putS
 by_cases hf : Pl.fits n a2 = true
 ·have hs : a2 = 1 ∨ a2 = 2 ∨ a2 = 4 ∨ a2 = 8 := by
   unfold Pl.fits at hf
   rw [Bool.and_eq_true, Pl.okS_iff] at hf
   exact hf.1
  rw [if_pos hf, if_pos hf]
  unfold bytes_Clone.f
  rw [if_pos (by omega), Option.bind_some, Int.toNat_natCast]
  exact le_Put.loop a2.toNat 10 n l0 a2 0 (by omega) (by omega) (by omega) (by omega) (by omega)
 ·rw [if_neg hf, if_neg hf]
theorem le_Put.calls (A0 : Option Addr) (c0 : Nat) (l0 : List Int) (a1 : Int) (a2 : Int) (r1 : List Int) (r2 : Int) (w : World) (hr0 : Kd.C (Kd.int .u8) w A0 l0.length l0) (hc0 : l0.length ≤ c0) (h : le_Put.f l0 a1 a2 = some (r1, r2)) :
  Calls Try.prog 63 #[.slice A0 l0.length c0, .int .u64 a1, .int .i64 a2] w fun e w' => ∃ v0_ : Value, e = .returned (.tuple #[v0_, .int .i64 r2]) ∧ Kd.R (Kd.int .u8) 5 w' w.heap.size (fun _ => True) v0_ r1 ∧ Below w.heap.size w w' :=
 le_Put_p.calls 10 A0 c0 l0 a1 a2 r1 r2 w hr0 hc0 (le_Put.tells h)
def le_Pack.f (a0 : ByteArray) (l1 : List Int) : Option (List Int × Int) := if Pl.u64B l1 = true ∧ a0.size < 2147483648 then some (Pl.packS (Pl.fb a0) l1) else none
theorem R_iter {α : Type} {d : Kd α} {e base : Nat} {ok : Nat → Prop} {v : Value} {xs : List α} {w : World} {B : Nat} (h : d.R e w base ok v xs) (hB : B < base) (s : ByteArray) (p : Nat) : d.R e (w.iterAt B s p) base ok v xs :=
 Kd.R_mono (Kd.R_move (Kd.R_bound h) (fun k hk => Lib.iterAt_other w B k s p (by have := hk.2.1; omega))) (fun _ hk => hk.1)
theorem rune_size (s : ByteArray) (i : Nat) (h : i < s.size) : Pl.letS ((Utf8.decode s i).1 : Int) = Pl.letS ((Pl.fb s)[i]'(by rw [Pl.fb_length]; exact h)) ∧ (Pl.letS ((Pl.fb s)[i]'(by rw [Pl.fb_length]; exact h)) ≠ 0 → (Utf8.decode s i).2 = 1) := by
 have e : (Pl.fb s)[i]'(by rw [Pl.fb_length]; exact h) = (((s[i]'h).toNat : Nat) : Int) := by
  simp only [Pl.fb, List.getElem_map]
  rfl
 rw [e]
 by_cases ha : (s[i]'h).toNat < 128
 ·rw [decode_ascii s i h ha]
  exact ⟨rfl, fun _ => rfl⟩
 ·have hd := decode_high s i h (by omega)
  have z : ∀ c : Nat, 128 ≤ c → Pl.letS (c : Int) = 0 := fun c hc => by
   unfold Pl.letS
   rw [if_neg (by omega), if_neg (by omega), if_neg (by omega), if_neg (by omega)]
  rw [z _ hd.1, z _ (by omega)]
  exact ⟨rfl, fun h => absurd rfl h⟩
set_option maxHeartbeats 8000000 in
set_option maxRecDepth 2000000 in
theorem le_Pack.calls (a0 : ByteArray) (A1 : Option Addr) (c1 : Nat) (l1 : List Int) (r1 : List Int) (r2 : Int) (w : World) (hr1 : Kd.C (Kd.int .u64) w A1 l1.length l1) (hc1 : l1.length ≤ c1) (h : le_Pack.f a0 l1 = some (r1, r2)) :
  Calls Try.prog 50 #[.string a0, .slice A1 l1.length c1] w fun e w' => ∃ v0_ : Value, e = .returned (.tuple #[v0_, .int .i64 r2]) ∧ Kd.R (Kd.int .u8) 5 w' w.heap.size (fun _ => True) v0_ r1 ∧ Below w.heap.size w w' := by
 unfold le_Pack.f at h
 split at h
 case isFalse => cases h
 rename_i hh
 obtain ⟨hu, hsz⟩ := hh
 have HP0 := Aside0.mk (Option.some.inj h)
 have HU := Aside0.mk hu
 have HR1 := Aside0.mk hr1
 have HC1 := Aside0.mk hc1
 clear h hu hr1 hc1
 obtain ⟨B, hB⟩ : ∃ B, B = w.heap.size := ⟨_, rfl⟩
 have HBN := Aside0.mk hB
 clear hB
 have hk0 : Aside0 ((w.iter a0 0).heap[B]? = some (.stringIter a0 0)) := ⟨by rw [HBN.out]; exact World.iter_heap w a0 0⟩
 have hb0 : Aside0 (Below w.heap.size w (w.iter a0 0)) := ⟨(Below.refl _ w).alloc (Nat.le_refl _) _⟩
 have hs0 : Aside0 (B + 1 ≤ (w.iter a0 0).heap.size) := ⟨by rw [HBN.out]; simp [World.iter]⟩
 go_enter Try.func50, Try.ntmps50
 go_wp2
 rw [← HBN.out]
 generalize w.iter a0 0 = w0 at hk0 hb0 hs0 ⊢
 go_loopw [4, 6] (fun v at_ wr => ∃ (i : Nat) (out : List Int), i ≤ a0.size ∧ i ≤ l1.length ∧ at_ = .int .i64 i ∧ Aside0 (out.length ≤ 8 * i) ∧ Aside0 (wr.heap[B]? = some (.stringIter a0 i)) ∧ Aside0 (Kd.R (Kd.int .u8) 5 wr (B + 1) (fun _ => True) v out) ∧ Aside0 (Pl.packGo out ((Pl.fb a0).drop i) (l1.drop i) = (r1, r2)) ∧ Aside0 (B + 1 ≤ wr.heap.size) ∧ Aside0 (Below w.heap.size w wr)) (fun _ at_ _ => a0.size - (intOf at_).toNat)
 case atStart => exact ⟨0, [], by omega, by omega, rfl, ⟨by simp⟩, hk0, ⟨Kd.R_nil _ _ _ _ _⟩, HP0, hs0, hb0⟩
 case round =>
  clear hk0 hb0 hs0 HP0
  obtain ⟨i, out, hi, hil, rfl, HOL, hk, HO, HP, HS, HB⟩ := hrel
  by_cases hp : i < a0.size
  ·obtain ⟨rs, rn⟩ := rune_size a0 i hp
   have hif : i < (Pl.fb a0).length := by rw [Pl.fb_length]; exact hp
   have hle := decode_le a0 i
   obtain ⟨z, hz⟩ : ∃ z, z = Pl.letS ((Pl.fb a0)[i]'hif) := ⟨_, rfl⟩
   rw [← hz] at rs rn
   have hnext : ∀ ty, (Instr.next (.pointer (some ⟨B, 0, none⟩)) true ty).run Try.prog wr = _ := fun ty => Lib.run_next_any_at wr B a0 i ty hk.out hp
   obtain ⟨q, hq⟩ : ∃ q, q = i + (Utf8.decode a0 i).2 := ⟨_, rfl⟩
   rw [← hq] at hnext
   have HRN : Aside0 (z ≠ 0 → q = i + 1) := ⟨fun h => by rw [hq, rn h]⟩
   obtain ⟨c, hc⟩ : ∃ c, c = (Utf8.decode a0 i).1 := ⟨_, rfl⟩
   rw [← hc] at hnext rs hle
   have HRS : Aside0 (le_size.f (c : Int) = some z) := ⟨by unfold le_size.f; rw [if_pos ⟨by omega, by omega⟩, rs]⟩
   clear hq hc rs rn hle
   have hk1 := Aside0.mk (Lib.iterAt_heap wr B a0 i q hk.out)
   have hn1 := Aside0.mk (Lib.below_iterAt (k := B) HB.out (by rw [HBN.out]; exact Nat.le_refl _) a0 q)
   have HO1 := Aside0.mk (R_iter HO.out (Nat.lt_succ_self B) a0 q)
   have hs1 : Aside0 (B + 1 ≤ (wr.iterAt B a0 q).heap.size) := ⟨by rw [Lib.iterAt_size]; exact HS.out⟩
   clear hk HO HS HB
   generalize wr.iterAt B a0 q = W1 at hnext hk1 hn1 HO1 hs1
   by_cases hl : i < l1.length
   ·have d0 : ((i : Int) == (l1.length : Int)) = false := by simp; omega
    have d1 : (i == l1.length) = false := by simp; omega
    have hrd : rd l1 (i : Int) = l1[i]'hl := by unfold rd; rw [Int.toNat_natCast, List.getD_eq_getElem?_getD, List.getElem?_eq_getElem hl, Option.getD_some]
    have hnb := Pl.u64B_iff.1 HU.out _ (List.getElem_mem hl)
    obtain ⟨x, hx⟩ : ∃ x, x = l1[i]'hl := ⟨_, rfl⟩
    rw [← hx] at hrd hnb
    have HX := Aside0.mk hx
    clear hx
    have HRX := Aside0.mk (Kd.C_below HR1.out hn1.out)
    obtain ⟨ad, rfl, -⟩ := Kd.at_int HRX.out (i : Int) (by omega) (by omega)
    have hcell : ∀ W : World, Kd.C (Kd.int .u64) W (some ad) l1.length l1 → W.cell? (ad.add i) = some (.int .u64 x) := fun W h => by
     obtain ⟨ad', e, hx'⟩ := Kd.at_int h (i : Int) (by omega) (by omega)
     cases e
     rw [hrd, Int.toNat_natCast] at hx'
     exact hx'
    obtain ⟨Ao, co, rfl, hco, hro⟩ := Kd.R_reads HO1.out
    have HCo := Aside0.mk hco
    have HRo := Aside0.mk hro
    have HRn := HRX
    have HB := Aside0.mk (Below.refl W1.heap.size W1)
    have HL := Aside0.mk hcell
    have k0 := eq_true hl
    have HPut : Aside0 (le_Put.f out x z = some (Pl.putS out x z)) := ⟨by unfold le_Put.f; rw [if_pos ⟨hnb.1, hnb.2, by have := HOL.out; omega⟩]⟩
    clear hro hco HRX hcell hrd
    obtain ⟨p, E, HPE⟩ : ∃ p E, Aside0 (Pl.putS out x z = (p, E)) := ⟨_, _, ⟨rfl⟩⟩
    rw [HPE.out] at HPut
    go_wp2
    have HB' := Aside0.mk (below_drew HB.out); clear HB; have HB := HB'; clear HB'
    have HRn' := Aside0.mk (Kd.C_drew HRn.out); clear HRn; have HRn := HRn'; clear HRn'
    have HRo' := Aside0.mk (Kd.C_drew HRo.out); clear HRo; have HRo := HRo'; clear HRo'
    refine start_ (n := 13) (S := fun w' => w'.cell? (ad.add i) = some (.int .u64 x)) (ds := []) #[false, false, false, false, false, false, false, false, false, false, false, false, false] (by kernel_rfl) rfl rfl ((HL.out _ HRn.out)) (fun hHeld => ?_)
    generalize W1.drew = wd951 at HB HRn HRo hHeld ⊢
    refine pure_ (i := 0) (N := some 19) (v := ?_) (a' := ?_) #[true, false, false, false, false, false, false, false, false, false, false, false, false] rfl rfl (by kernel_rfl) (fun _ _ _ h => h) (Or.inl ⟨by rfl, ?_⟩) ?_ ?_
    rotate_left
    ·intro w'
     go_simp
     with_reducible rfl
    rotate_left
    ·simp only [Act.put, Kx.sb, Kx.sz, Kx.ss, i64_w, i32_w]
     rfl
    refine pure_ (i := 1) (N := some 20) (v := ?_) (a' := ?_) #[true, true, false, false, false, false, false, false, false, false, false, false, false] rfl rfl (by kernel_rfl) (fun _ _ _ h => h) (Or.inl ⟨by rfl, ?_⟩) ?_ ?_
    rotate_left
    ·intro w'
     go_simp
     with_reducible rfl
    rotate_left
    ·simp only [Act.put, Kx.sb, Kx.sz, Kx.ss, i64_w, i32_w]
     rfl
    refine pure_ (i := 2) (N := some 21) (v := ?_) (a' := ?_) #[true, true, true, false, false, false, false, false, false, false, false, false, false] rfl rfl (by kernel_rfl) (fun _ _ _ h => h) (Or.inl ⟨by rfl, ?_⟩) ?_ ?_
    rotate_left
    ·intro w'
     go_simp
     with_reducible rfl
    rotate_left
    ·simp only [Act.put, Kx.sb, Kx.sz, Kx.ss, i64_w, i32_w]
     rfl
    refine pure_ (i := 3) (N := some 22) (v := ?_) (a' := ?_) #[true, true, true, true, false, false, false, false, false, false, false, false, false] rfl rfl (by kernel_rfl) (fun _ _ _ h => h) (Or.inl ⟨by rfl, ?_⟩) ?_ ?_
    rotate_left
    ·intro w'
     go_simp
     with_reducible rfl
    rotate_left
    ·simp only [Act.put, Kx.sb, Kx.sz, Kx.ss, i64_w, i32_w]
     rfl
    refine pure_ (i := 5) (N := some 24) (v := ?_) (a' := ?_) #[true, true, true, true, false, true, false, false, false, false, false, false, false] rfl rfl (by kernel_rfl) (fun _ _ _ h => h) (Or.inl ⟨by rfl, ?_⟩) ?_ ?_
    rotate_left
    ·intro w'
     go_simp
     with_reducible rfl
    rotate_left
    ·simp only [Act.put, Kx.sb, Kx.sz, Kx.ss, i64_w, i32_w]
     rfl
    refine take_ (i := 4) (N := some 23) (v := ?_) (a' := ?_) #[true, true, true, true, true, true, false, false, false, false, false, false, false] rfl rfl (by kernel_rfl) (fun _ _ _ h => h) (Or.inl ⟨by rfl, ?_⟩) hHeld ?_ ?_
    rotate_left
    ·rintro w' s0
     go_simp
     with_reducible rfl
    rotate_left
    ·simp only [Act.put, Kx.sb, Kx.sz, Kx.ss, i64_w, i32_w]
     rfl
    refine one_ (i := 6) (N := some 25) #[true, true, true, true, true, true, true, false, false, false, false, false, false] rfl rfl (by kernel_rfl) (by decide) (fun K hK => ?_)
    refine goes_ Try.func64 (by kernel_rfl) rfl #[.int .i32 (c : Int)] (by rfl) rfl rfl (by simp only [List.map_toArray, List.map_cons, List.map_nil]; rfl) ?_
    refine (le_size.calls _ _ _ HRS.out).mono ?_
    rintro e w95106 ⟨rfl, hb⟩
    refine ⟨_, rfl, ?_⟩
    have HB' := Aside0.mk (below_step HB.out hb); clear HB; have HB := HB'; clear HB'
    have HRn' := Aside0.mk (Kd.C_below HRn.out hb); clear HRn; have HRn := HRn'; clear HRn'
    have HRo' := Aside0.mk (Kd.C_below HRo.out hb); clear HRo; have HRo := HRo'; clear HRo'
    clear hb
    refine hK.out _ _ ((HL.out _ HRn.out)) (fun hHeld => ?_)
    clear hK K
    refine norm_ (a' := ?_) ?_ ?_
    rotate_left
    ·show Act.put _ (some 25) _ = _
     simp only [Act.put, Kx.sb, Kx.sz, Kx.ss, i64_w, i32_w]
     rfl
    refine one_ (i := 7) (N := some 26) #[true, true, true, true, true, true, true, true, false, false, false, false, false] rfl rfl (by kernel_rfl) (by decide) (fun K hK => ?_)
    refine goes_ Try.func63 (by kernel_rfl) rfl #[.slice Ao out.length co, .int .u64 x, .int .i64 z] (by rfl) rfl rfl (by simp only [List.map_toArray, List.map_cons, List.map_nil]; rfl) ?_
    refine (le_Put.calls Ao co out x z _ _ _ HRo.out HCo.out HPut.out).mono ?_
    rintro e w95107 ⟨vp, rfl, hop, hb⟩
    refine ⟨_, rfl, ?_⟩
    have HZp := Aside0.mk HB.out.size
    have HB' := Aside0.mk (below_step HB.out hb); clear HB; have HB := HB'; clear HB'
    have HRn' := Aside0.mk (Kd.C_below HRn.out hb); clear HRn; have HRn := HRn'; clear HRn'
    have HRo' := Aside0.mk (Kd.C_below HRo.out hb); clear HRo; have HRo := HRo'; clear HRo'
    clear hb
    have HOp := Aside0.mk hop
    obtain ⟨Ap, cp, rfl, hcp, hrp⟩ := Kd.R_reads hop
    have HRp := Aside0.mk hrp
    have HCp := Aside0.mk hcp
    clear hrp hcp hop
    refine hK.out _ _ ((HL.out _ HRn.out)) (fun hHeld => ?_)
    clear hK K
    refine norm_ (a' := ?_) ?_ ?_
    rotate_left
    ·show Act.put _ (some 26) _ = _
     simp only [Act.put, Kx.sb, Kx.sz, Kx.ss, i64_w, i32_w]
     rfl
    refine pure_ (i := 8) (N := some 18) (v := ?_) (a' := ?_) #[true, true, true, true, true, true, true, true, true, false, false, false, false] rfl rfl (by kernel_rfl) (fun _ _ _ h => h) (Or.inl ⟨by rfl, ?_⟩) ?_ ?_
    rotate_left
    ·intro w'
     go_simp
     with_reducible rfl
    rotate_left
    ·simp only [Act.put, Kx.sb, Kx.sz, Kx.ss, i64_w, i32_w]
     rfl
    refine pure_ (i := 9) (N := some 27) (v := ?_) (a' := ?_) #[true, true, true, true, true, true, true, true, true, true, false, false, false] rfl rfl (by kernel_rfl) (fun _ _ _ h => h) (Or.inl ⟨by rfl, ?_⟩) ?_ ?_
    rotate_left
    ·intro w'
     go_simp
     with_reducible rfl
    rotate_left
    ·simp only [Act.put, Kx.sb, Kx.sz, Kx.ss, i64_w, i32_w]
     rfl
    refine pure_ (i := 10) (N := some 28) (v := ?_) (a' := ?_) #[true, true, true, true, true, true, true, true, true, true, true, false, false] rfl rfl (by kernel_rfl) (fun _ _ _ h => h) (Or.inl ⟨by rfl, ?_⟩) ?_ ?_
    rotate_left
    ·intro w'
     go_simp
     with_reducible rfl
    rotate_left
    ·simp only [Act.put, Kx.sb, Kx.sz, Kx.ss, i64_w, i32_w]
     rfl
    refine pure_ (i := 11) (N := some 4) (v := ?_) (a' := ?_) #[true, true, true, true, true, true, true, true, true, true, true, true, false] rfl rfl (by kernel_rfl) (fun _ _ _ h => h) (Or.inl ⟨by rfl, ?_⟩) ?_ ?_
    rotate_left
    ·intro w'
     go_simp
     with_reducible rfl
    rotate_left
    ·simp only [Act.put, Kx.sb, Kx.sz, Kx.ss, i64_w, i32_w]
     rfl
    refine pure_ (i := 12) (N := some 5) (v := ?_) (a' := ?_) #[true, true, true, true, true, true, true, true, true, true, true, true, true] rfl rfl (by kernel_rfl) (fun _ _ _ h => h) (Or.inl ⟨by rfl, ?_⟩) ?_ ?_
    rotate_left
    ·intro w'
     go_simp
     with_reducible rfl
    rotate_left
    ·simp only [Act.put, Kx.sb, Kx.sz, Kx.ss, i64_w, i32_w]
     rfl
    refine done_ (by kernel_rfl) ?_
    have HBz := Aside0.mk (below_then hn1.out hn1.out.size HB.out)
    by_cases hf : Pl.fits x z = true
    ·have e := HPE.out
     unfold Pl.putS at e
     rw [if_pos hf] at e
     injection e with e1 e2
     have HE1 := Aside0.mk e1
     subst e2
     clear e1
     go_wp2
     go_roundw
     case rel =>
      have h8 : z ≤ 8 ∧ 0 ≤ z ∧ z ≠ 0 := by
       unfold Pl.fits at hf
       rw [Bool.and_eq_true, Pl.okS_iff] at hf
       omega
      refine ⟨i + 1, p, by omega, by omega, by go_num, ⟨?_⟩, ⟨?_⟩, ⟨Kd.R_lower HOp.out (Nat.le_trans hs1.out ?_)⟩, ⟨?_⟩, ⟨?_⟩, HBz⟩
      ·rw [← HE1.out, List.length_append, Pl.leB_length]; have := HOL.out; omega
      ·rw [HB.out.block B (by have := hs1.out; omega), hk1.out, HRN.out h8.2.2]
      ·exact HZp.out
      ·have e := HP.out
       rw [List.drop_eq_getElem_cons hif, List.drop_eq_getElem_cons hl, Pl.packGo, ← hz, ← HX.out, if_pos hf, HE1.out] at e
       exact e
      ·exact Nat.le_trans hs1.out HB.out.size
     case measure => simp [intOf]; omega
    ·have e := HPE.out
     unfold Pl.putS at e
     rw [if_neg hf] at e
     injection e with e1 e2
     subst e2
     clear e1
     go_wp2
     go_ret2
     have e := HP.out
     rw [List.drop_eq_getElem_cons hif, List.drop_eq_getElem_cons hl, Pl.packGo, ← hz, ← HX.out, if_neg hf] at e
     injection e with e1 e2
     subst e1 e2
     exact ⟨_, rfl, Kd.R_nil _ _ _ _ _, HBz.out⟩
   ·have d0 : ((i : Int) == (l1.length : Int)) = true := by simp; omega
    have d1 : (i == l1.length) = true := by simp; omega
    go_wp2
    go_ret2
    have e := HP.out
    rw [Pl.packGo_ne _ _ _ (by rw [List.length_drop, List.length_drop, Pl.fb_length]; omega)] at e
    injection e with e1 e2
    subst e1 e2
    exact ⟨_, rfl, Kd.R_nil _ _ _ _ _, hn1.out⟩
  ·have hnext : ∀ ty, (Instr.next (.pointer (some ⟨B, 0, none⟩)) true ty).run Try.prog wr = _ := fun ty => Lib.run_next_end_at wr B a0 i ty hk.out hp
   by_cases hl : i < l1.length
   ·have d0 : decide ((i : Int) < (l1.length : Int)) = true := decide_eq_true (by omega)
    have d1 : decide (i < l1.length) = true := decide_eq_true hl
    go_wp2
    go_ret2
    have e := HP.out
    rw [Pl.packGo_ne _ _ _ (by rw [List.length_drop, List.length_drop, Pl.fb_length]; omega)] at e
    injection e with e1 e2
    subst e1 e2
    exact ⟨_, rfl, Kd.R_nil _ _ _ _ _, HB.out⟩
   ·have d0 : decide ((i : Int) < (l1.length : Int)) = false := decide_eq_false (by omega)
    have d1 : decide (i < l1.length) = false := decide_eq_false hl
    go_wp2
    go_ret2
    have e := HP.out
    rw [List.drop_eq_nil_of_le (by rw [Pl.fb_length]; omega), List.drop_eq_nil_of_le (by omega), Pl.packGo] at e
    injection e with e1 e2
    subst e1 e2
    exact ⟨_, rfl, Kd.R_lower HO.out (by rw [HBN.out]; omega), HB.out⟩
def extent_Write_p.l0 : Nat → List (S46) → List Int → List (S46) → Int → Int → Option (List Int × Int)
 | 0, _, _, _, _, _ => none
 | k + 1, x0, x4, x13, x14, x15 => if x15 < x14 then (if 0 ≤ x15 then (if x15 < (x13.length : Int) then ((le_Pack.f (⟨#[98, 98, 98, 119]⟩ : ByteArray) (([IntKind.u64.wrap ((rd_T46 x13 x15).f0), IntKind.u64.wrap ((rd_T46 x13 x15).f1), IntKind.u64.wrap ((rd_T46 x13 x15).f2), IntKind.u64.wrap ((rd_T46 x13 x15).f3)] : List Int))).bind fun bt154 => ((extent_Check.f ((rd_T46 x13 x15).f0) ((rd_T46 x13 x15).f1) ((rd_T46 x13 x15).f2) ((rd_T46 x13 x15).f3) ((rd_T46 x13 x15).f4)).bind fun t158 => (if t158 = true then (if bt154.2 = 0 then (if x4.length + bt154.1.length < 140737488355328 then ((some (x4 ++ bt154.1 : List Int)).bind fun y159 => (if y159.length + ((rd_T46 x13 x15).f4).length < 140737488355328 then (extent_Write_p.l0 k x0 (y159 ++ ((rd_T46 x13 x15).f4)) x13 x14 (wrap64 (x15 + 1))) else (none))) else (none)) else (some (([] : List Int), 70))) else (some (([] : List Int), 70))))) else (none)) else (none)) else (if (x0.length : Int) > 64 then (some (([] : List Int), 70)) else (some (x4, 0)))
def extent_Write_p.f (k : Nat) (l0 : List (S46)) : Option (List Int × Int) := extent_Write_p.l0 k l0 (([((l0.length : Int)) % 256] : List Int)) l0 (l0.length : Int) 0
set_option maxHeartbeats 8000000 in
set_option maxRecDepth 100000 in
theorem extent_Write_p.calls (k : Nat) (A0 : Option Addr) (c0 : Nat) (l0 : List (S46)) (r1 : List Int) (r2 : Int) (w : World) (hr0 : Kd.C k46 w A0 l0.length l0) (hc0 : l0.length ≤ c0) (h : extent_Write_p.f k l0 = some (r1, r2)) :
  Calls Try.prog 45 #[.slice A0 l0.length c0] w fun e w' => ∃ v0_ : Value, e = .returned (.tuple #[v0_, .int .i64 r2]) ∧ Kd.R (Kd.int .u8) 5 w' w.heap.size (fun _ => True) v0_ r1 ∧ Below w.heap.size w w' := by
 have hu46 := Try.underlying46
 have HR0 := Aside0.mk hr0
 have HC0 := Aside0.mk hc0
 clear hr0 hc0
 have HB := Aside0.mk (Below.refl w.heap.size w)
 have H : (extent_Write_p.l0 k l0 (([((l0.length : Int)) % 256] : List Int)) l0 (l0.length : Int) 0) = some (r1, r2) := h
 clear h
 obtain ⟨y146, hy146⟩ : ∃ y_ : List Int, y_ = (([((l0.length : Int)) % 256] : List Int)) := ⟨_, rfl⟩
 replace H : (extent_Write_p.l0 k l0 y146 l0 (l0.length : Int) 0) = some (r1, r2) := by first | (rw [hy146]; with_reducible exact H) | (have H2_ := (Option.bind_some _ _).symm.trans H; rw [hy146]; with_reducible exact H2_) | (have H2_ := (Option.bind_some _ _).symm.trans H; with_reducible exact H2_) | with_reducible exact H | (rw [hy146]; exact H) | exact H
 have Ny146 := Aside0.mk hy146
 clear hy146
 have H' := Aside0.mk H
 clear H
 go_enter Try.func45, Try.ntmps45
 go_wp2_with (first | ((with_reducible refine gate_dst (N := 12) rfl ?_); refine Kd.R_lit (Kd.int .u8) _ 5 ?hg (N := 12) ?hd (xs := ([((l0.length : Int)) % 256] : List Int)) (inner := [.int .u8 (((l0.length : Int)) % 256)]) (ok := fun _ => True) (okp := fun _ => True) ?hr ?hp (fun _ hk => hk) trivial (Below.refl _ _) (Nat.le_refl _) (by simp) ?_; (case hd => rfl); (case hg => rfl); (case hr => first | (go_simp; done) | (go_simp; rfl)); (case hp => exact (Reps.one (show Kd.M (Kd.int .u8) _ _ _ (((l0.length : Int)) % 256) [.int .u8 (((l0.length : Int)) % 256)] from rfl) (Reps.none _ _))); intro v147 w2 ho3 hb hg_ hnew_; clear hg_ hnew_; (first | rw [← Ny146.out] at ho3 | (simp only [Int.reduceToNat] at ho3; rw [← Ny146.out] at ho3)); have n0_ := Aside0.mk (Kd.R_lower ho3 (below_size (by repeat (first | (with_reducible first | exact HB.out | apply below_alloc | apply pw_below_drewN | apply below_drew1) | exact HB.out)))); have n1_ := Aside0.mk (below_step (by repeat (first | (with_reducible first | exact HB.out | apply below_alloc | apply pw_below_drewN | apply below_drew1) | exact HB.out)) hb); clear HB; have HO148 := n0_; have HB := n1_; clear n0_ n1_; clear hb ho3))
 go_loopg [4, 15] k (fun kq v4 v15 w' => ∃ (x4_1 : List Int) (x15_1 : Int), v15 = .int .i64 x15_1 ∧ Aside0 (extent_Write_p.l0 kq l0 x4_1 l0 (l0.length : Int) x15_1 = some (r1, r2)) ∧ Aside0 (kq ≤ k) ∧ Aside0 (Kd.R (Kd.int .u8) 5 w' w.heap.size (fun _ => True) v4 x4_1) ∧ Aside0 (Below w.heap.size w w'))
 case atStart => exact ⟨(y146), (0), (by first | rfl | (simp; done) | (simp [*]; done)), H', ⟨Nat.le_refl _⟩, ⟨by (with_reducible repeat (first | apply Kd.R_alloc | apply Kd.R_drewN | apply Kd.R_drew)); exact HO148.out⟩, ⟨by repeat (first | (with_reducible first | exact HB.out | apply below_alloc | apply pw_below_drewN | apply below_drew1) | exact HB.out)⟩⟩
 case round =>
  clear H'
  try clear p2
  obtain ⟨x4_1, x15_1, rfl, HA, HK1, HO_4, HB⟩ := hrel
  cases gk with
  | zero => exact absurd HA.out (by simp [extent_Write_p.l0])
  | succ k1 =>
   have H := HA.out
   clear HA
   simp only [extent_Write_p.l0] at H
   by_cases c4 : x15_1 < (l0.length : Int)
   ·rw [if_pos c4] at H
    have c4b0 : decide (x15_1 < (l0.length : Int)) = true := decide_eq_true c4
    clear c4
    by_cases c5 : 0 ≤ x15_1
    ·rw [if_pos c5] at H
     have c5b0 : decide (0 ≤ x15_1) = true := decide_eq_true c5
     clear c5
     by_cases c6 : x15_1 < (l0.length : Int)
     ·rw [if_pos c6] at H
      have c6b0 : decide (x15_1 < (l0.length : Int)) = true := decide_eq_true c6
      clear c6
      obtain ⟨y151, hy151⟩ : ∃ y_ : List Int, y_ = (([IntKind.u64.wrap ((rd_T46 l0 x15_1).f0), IntKind.u64.wrap ((rd_T46 l0 x15_1).f1), IntKind.u64.wrap ((rd_T46 l0 x15_1).f2), IntKind.u64.wrap ((rd_T46 l0 x15_1).f3)] : List Int)) := ⟨_, rfl⟩
      replace H : ((le_Pack.f (⟨#[98, 98, 98, 119]⟩ : ByteArray) y151).bind fun bt154 => ((extent_Check.f ((rd_T46 l0 x15_1).f0) ((rd_T46 l0 x15_1).f1) ((rd_T46 l0 x15_1).f2) ((rd_T46 l0 x15_1).f3) ((rd_T46 l0 x15_1).f4)).bind fun t158 => (if t158 = true then (if bt154.2 = 0 then (if x4_1.length + bt154.1.length < 140737488355328 then ((some (x4_1 ++ bt154.1 : List Int)).bind fun y159 => (if y159.length + ((rd_T46 l0 x15_1).f4).length < 140737488355328 then (extent_Write_p.l0 k1 l0 (y159 ++ ((rd_T46 l0 x15_1).f4)) l0 (l0.length : Int) (wrap64 (x15_1 + 1))) else (none))) else (none)) else (some (([] : List Int), 70))) else (some (([] : List Int), 70))))) = some (r1, r2) := by first | (rw [hy151]; with_reducible exact H) | (have H2_ := (Option.bind_some _ _).symm.trans H; rw [hy151]; with_reducible exact H2_) | (have H2_ := (Option.bind_some _ _).symm.trans H; with_reducible exact H2_) | with_reducible exact H | (rw [hy151]; exact H) | exact H
      have Ny151 := Aside0.mk hy151
      clear hy151
      replace H := Option.bind_eq_some_iff.mp H
      obtain ⟨⟨t154, t155⟩, A70, H⟩ := H
      replace H : ((extent_Check.f ((rd_T46 l0 x15_1).f0) ((rd_T46 l0 x15_1).f1) ((rd_T46 l0 x15_1).f2) ((rd_T46 l0 x15_1).f3) ((rd_T46 l0 x15_1).f4)).bind fun t158 => (if t158 = true then (if t155 = 0 then (if x4_1.length + t154.length < 140737488355328 then ((some (x4_1 ++ t154 : List Int)).bind fun y159 => (if y159.length + ((rd_T46 l0 x15_1).f4).length < 140737488355328 then (extent_Write_p.l0 k1 l0 (y159 ++ ((rd_T46 l0 x15_1).f4)) l0 (l0.length : Int) (wrap64 (x15_1 + 1))) else (none))) else (none)) else (some (([] : List Int), 70))) else (some (([] : List Int), 70)))) = some (r1, r2) := H
      have A7 := Aside0.mk A70
      clear A70
      replace H := Option.bind_eq_some_iff.mp H
      obtain ⟨t158, A80, H⟩ := H
      replace H : (if t158 = true then (if t155 = 0 then (if x4_1.length + t154.length < 140737488355328 then ((some (x4_1 ++ t154 : List Int)).bind fun y159 => (if y159.length + ((rd_T46 l0 x15_1).f4).length < 140737488355328 then (extent_Write_p.l0 k1 l0 (y159 ++ ((rd_T46 l0 x15_1).f4)) l0 (l0.length : Int) (wrap64 (x15_1 + 1))) else (none))) else (none)) else (some (([] : List Int), 70))) else (some (([] : List Int), 70))) = some (r1, r2) := H
      have A8 := Aside0.mk A80
      clear A80
      by_cases c9 : t158 = true
      ·subst c9
       have H1 : (if t155 = 0 then (if x4_1.length + t154.length < 140737488355328 then ((some (x4_1 ++ t154 : List Int)).bind fun y159 => (if y159.length + ((rd_T46 l0 x15_1).f4).length < 140737488355328 then (extent_Write_p.l0 k1 l0 (y159 ++ ((rd_T46 l0 x15_1).f4)) l0 (l0.length : Int) (wrap64 (x15_1 + 1))) else (none))) else (none)) else (some (([] : List Int), 70))) = some (r1, r2) := by rw [if_pos rfl] at H <;> exact H
       clear H
       have H := H1
       clear H1
       by_cases c10 : t155 = 0
       ·rw [if_pos c10] at H
        have c10b0 : (t155 == 0) = true := beq_iff_eq.mpr c10
        have c10b1 : (t155 != 0) = false := bne_eq_false_iff_eq.mpr c10
        clear c10
        by_cases c11 : x4_1.length + t154.length < 140737488355328
        ·rw [if_pos c11] at H
         have LMc11 := Aside0.mk c11
         clear c11
         obtain ⟨y159, hy159⟩ : ∃ y_ : List Int, y_ = (x4_1 ++ t154) := ⟨_, rfl⟩
         replace H : (if y159.length + ((rd_T46 l0 x15_1).f4).length < 140737488355328 then (extent_Write_p.l0 k1 l0 (y159 ++ ((rd_T46 l0 x15_1).f4)) l0 (l0.length : Int) (wrap64 (x15_1 + 1))) else (none)) = some (r1, r2) := by first | (rw [hy159]; with_reducible exact H) | (have H2_ := (Option.bind_some _ _).symm.trans H; rw [hy159]; with_reducible exact H2_) | (have H2_ := (Option.bind_some _ _).symm.trans H; with_reducible exact H2_) | with_reducible exact H | (rw [hy159]; exact H) | exact H
         have Ny159 := Aside0.mk hy159
         clear hy159
         by_cases c12 : y159.length + ((rd_T46 l0 x15_1).f4).length < 140737488355328
         ·rw [if_pos c12] at H
          have LMc12 := Aside0.mk c12
          clear c12
          obtain ⟨y162, hy162⟩ : ∃ y_ : List Int, y_ = (y159 ++ ((rd_T46 l0 x15_1).f4)) := ⟨_, rfl⟩
          replace H : (extent_Write_p.l0 k1 l0 y162 l0 (l0.length : Int) (wrap64 (x15_1 + 1))) = some (r1, r2) := by first | (rw [hy162]; with_reducible exact H) | (have H2_ := (Option.bind_some _ _).symm.trans H; rw [hy162]; with_reducible exact H2_) | (have H2_ := (Option.bind_some _ _).symm.trans H; with_reducible exact H2_) | with_reducible exact H | (rw [hy162]; exact H) | exact H
          have Ny162 := Aside0.mk hy162
          clear hy162
          have H' := Aside0.mk H
          clear H
          have p149 : 0 ≤ (x15_1 : Int) := of_decide_eq_true (by first | (with_reducible assumption) | assumption)
          have q149 : x15_1 < (l0.length : Int) := of_decide_eq_true (by first | (with_reducible assumption) | assumption)
          obtain ⟨ad149, A149_4, c149_4, e149, hx149_0, hx149_1, hx149_2, hx149_3, hx149_4, hl149_4, hi149_4⟩ := at_T46 HR0.out x15_1 p149 q149
          cases e149
          replace hx149_0 := (HB.out.cell (World.block_lt_of_cell? w _ hx149_0)).trans hx149_0
          replace hx149_1 := (HB.out.cell (World.block_lt_of_cell? w _ hx149_1)).trans hx149_1
          replace hx149_2 := (HB.out.cell (World.block_lt_of_cell? w _ hx149_2)).trans hx149_2
          replace hx149_3 := (HB.out.cell (World.block_lt_of_cell? w _ hx149_3)).trans hx149_3
          replace hx149_4 := (HB.out.cell (World.block_lt_of_cell? w _ hx149_4)).trans hx149_4
          have HR149_4 := Aside0.mk hi149_4
          have HC149_4 := Aside0.mk hl149_4
          clear hi149_4 hl149_4
          replace p149 := eq_true p149
          replace q149 := eq_true q149
          try go_wp2_with (first | ((with_reducible refine gate_dst (N := 6) rfl ?_); refine box_event ?hg (N := 6) ?hd (cs := #[.int .i64 0, .int .i64 0, .int .i64 0, .int .i64 0, .slice none 0 0]) (t := 46) ?hr ?_; (case hd => rfl); (case hg => rfl); (case hr => first | (go_simp; done) | (go_simp; rfl)); intro gb150 hg w13 hbox hb; have n0_ := Aside0.mk (Kd.R_below (by (with_reducible repeat (first | apply Kd.R_alloc | apply Kd.R_drewN | apply Kd.R_drew)); exact HO_4.out) hb); have n1_ := Aside0.mk (below_step (by repeat (first | (with_reducible first | exact HB.out | apply below_alloc | apply pw_below_drewN | apply below_drew1) | exact HB.out)) hb); have n2_ := Aside0.mk (hbox); have n3_ := Aside0.mk ((by rw [hg]; exact (below_size (by repeat (first | (with_reducible first | exact HB.out | apply below_alloc | apply pw_below_drewN | apply below_drew1) | exact HB.out))) : w.heap.size ≤ gb150)); have n4_ := Aside0.mk ((by rw [hg]; exact (below_size (by repeat (first | (with_reducible first | exact HB.out | apply below_alloc | apply pw_below_drewN | apply below_drew1) | exact HB.out))) : w.heap.size ≤ gb150)); clear HO_4; clear HB; have HO_4 := n0_; have HB := n1_; have BK150 := n2_; have GW150 := n3_; have GE150 := n4_; clear n0_ n1_ n2_ n3_ n4_; clear hb hbox hg; have hcz14_0 : w13.cell? ⟨gb150, 0, none⟩ = some (.int .i64 0) := (blk_cell BK150.out 0).trans rfl; have hcz14_1 : w13.cell? ⟨gb150, 1, none⟩ = some (.int .i64 0) := (blk_cell BK150.out 1).trans rfl; have hcz14_2 : w13.cell? ⟨gb150, 2, none⟩ = some (.int .i64 0) := (blk_cell BK150.out 2).trans rfl; have hcz14_3 : w13.cell? ⟨gb150, 3, none⟩ = some (.int .i64 0) := (blk_cell BK150.out 3).trans rfl; have hcz14_4 : w13.cell? ⟨gb150, 4, none⟩ = some (.slice none 0 0) := (blk_cell BK150.out 4).trans rfl; have hfz14_0 := blk_frozen BK150.out 0; have hfz14_1 := blk_frozen BK150.out 1; have hfz14_2 := blk_frozen BK150.out 2; have hfz14_3 := blk_frozen BK150.out 3; have hfz14_4 := blk_frozen BK150.out 4) | ((with_reducible refine gate_dst (N := 32) rfl ?_); refine Kd.R_lit (Kd.int .u64) _ 68 ?hg (N := 32) ?hd (xs := ([IntKind.u64.wrap ((rd_T46 l0 x15_1).f0), IntKind.u64.wrap ((rd_T46 l0 x15_1).f1), IntKind.u64.wrap ((rd_T46 l0 x15_1).f2), IntKind.u64.wrap ((rd_T46 l0 x15_1).f3)] : List Int)) (inner := [.int .u64 (IntKind.u64.wrap ((rd_T46 l0 x15_1).f0)), .int .u64 (IntKind.u64.wrap ((rd_T46 l0 x15_1).f1)), .int .u64 (IntKind.u64.wrap ((rd_T46 l0 x15_1).f2)), .int .u64 (IntKind.u64.wrap ((rd_T46 l0 x15_1).f3))]) (ok := fun _ => True) (okp := fun _ => True) ?hr ?hp (fun _ hk => hk) trivial (Below.refl _ _) (Nat.le_refl _) (by simp) ?_; (case hd => rfl); (case hg => rfl); (case hr => first | (go_simp; done) | (go_simp; rfl)); (case hp => exact (Reps.one (show Kd.M (Kd.int .u64) _ _ _ (IntKind.u64.wrap ((rd_T46 l0 x15_1).f0)) [.int .u64 (IntKind.u64.wrap ((rd_T46 l0 x15_1).f0))] from rfl) (Reps.one (show Kd.M (Kd.int .u64) _ _ _ (IntKind.u64.wrap ((rd_T46 l0 x15_1).f1)) [.int .u64 (IntKind.u64.wrap ((rd_T46 l0 x15_1).f1))] from rfl) (Reps.one (show Kd.M (Kd.int .u64) _ _ _ (IntKind.u64.wrap ((rd_T46 l0 x15_1).f2)) [.int .u64 (IntKind.u64.wrap ((rd_T46 l0 x15_1).f2))] from rfl) (Reps.one (show Kd.M (Kd.int .u64) _ _ _ (IntKind.u64.wrap ((rd_T46 l0 x15_1).f3)) [.int .u64 (IntKind.u64.wrap ((rd_T46 l0 x15_1).f3))] from rfl) (Reps.none _ _)))))); intro v152 w15 ho16 hb hg_ hnew_; clear hg_ hnew_; (first | rw [← Ny151.out] at ho16 | (simp only [Int.reduceToNat] at ho16; rw [← Ny151.out] at ho16)); have n0_ := Aside0.mk (Kd.R_below (by (with_reducible repeat (first | apply Kd.R_alloc | apply Kd.R_drewN | apply Kd.R_drew)); exact (Kd.R_mono (Kd.R_far (p := ⟨gb150, 4, none⟩) (Kd.R_far (p := ⟨gb150, 3, none⟩) (Kd.R_far (p := ⟨gb150, 2, none⟩) (Kd.R_far (p := ⟨gb150, 1, none⟩) (Kd.R_far (p := ⟨gb150, 0, none⟩) (Kd.R_types HO_4.out BK150.out (by decide)) (fun _ hk => hk.2) (.int .i64 ((rd_T46 l0 x15_1).f0))) (fun _ hk => hk.2) (.int .i64 ((rd_T46 l0 x15_1).f1))) (fun _ hk => hk.2) (.int .i64 ((rd_T46 l0 x15_1).f2))) (fun _ hk => hk.2) (.int .i64 ((rd_T46 l0 x15_1).f3))) (fun _ hk => hk.2) (.slice A149_4 ((rd_T46 l0 x15_1).f4).length c149_4)) (fun _ h_ => h_.1))) hb); have n1_ := Aside0.mk (Kd.R_lower ho16 (below_size (by repeat (first | (with_reducible first | exact HB.out | apply below_alloc | apply pw_below_drewN | apply below_drew1 | refine below_set ?_ GE150.out) | exact HB.out)))); have n2_ := Aside0.mk (blk_below (g := gb150) (o := .cells #[.int .i64 ((rd_T46 l0 x15_1).f0), .int .i64 ((rd_T46 l0 x15_1).f1), .int .i64 ((rd_T46 l0 x15_1).f2), .int .i64 ((rd_T46 l0 x15_1).f3), .slice A149_4 ((rd_T46 l0 x15_1).f4).length c149_4] 46 (0, 0)) (by (with_reducible repeat (first | refine blk_drewN ?_ _ | refine blk_drew ?_ | refine blk_alloc ?_ _)); refine blk_put (cs := #[.int .i64 ((rd_T46 l0 x15_1).f0), .int .i64 ((rd_T46 l0 x15_1).f1), .int .i64 ((rd_T46 l0 x15_1).f2), .int .i64 ((rd_T46 l0 x15_1).f3), .slice none 0 0]) ?_ 4 _ rfl; (with_reducible repeat (first | refine blk_drewN ?_ _ | refine blk_drew ?_ | refine blk_alloc ?_ _)); refine blk_put (cs := #[.int .i64 ((rd_T46 l0 x15_1).f0), .int .i64 ((rd_T46 l0 x15_1).f1), .int .i64 ((rd_T46 l0 x15_1).f2), .int .i64 0, .slice none 0 0]) ?_ 3 _ rfl; (with_reducible repeat (first | refine blk_drewN ?_ _ | refine blk_drew ?_ | refine blk_alloc ?_ _)); refine blk_put (cs := #[.int .i64 ((rd_T46 l0 x15_1).f0), .int .i64 ((rd_T46 l0 x15_1).f1), .int .i64 0, .int .i64 0, .slice none 0 0]) ?_ 2 _ rfl; (with_reducible repeat (first | refine blk_drewN ?_ _ | refine blk_drew ?_ | refine blk_alloc ?_ _)); refine blk_put (cs := #[.int .i64 ((rd_T46 l0 x15_1).f0), .int .i64 0, .int .i64 0, .int .i64 0, .slice none 0 0]) ?_ 1 _ rfl; (with_reducible repeat (first | refine blk_drewN ?_ _ | refine blk_drew ?_ | refine blk_alloc ?_ _)); refine blk_put (cs := #[.int .i64 0, .int .i64 0, .int .i64 0, .int .i64 0, .slice none 0 0]) ?_ 0 _ rfl; (with_reducible repeat (first | refine blk_drewN ?_ _ | refine blk_drew ?_ | refine blk_alloc ?_ _)); exact BK150.out) hb); have n3_ := Aside0.mk (below_step (by repeat (first | (with_reducible first | exact HB.out | apply below_alloc | apply pw_below_drewN | apply below_drew1 | refine below_set ?_ GE150.out) | exact HB.out)) hb); clear HO_4; clear BK150; clear HB; have HO_4 := n0_; have HO153 := n1_; have BK150 := n2_; have HB := n3_; clear n0_ n1_ n2_ n3_; clear hb ho16; obtain ⟨Ao17, co17, eo17⟩ := Kd.R_slice HO153.out; subst eo17) | ((with_reducible refine gate_callee (f := 50) rfl ?_); refine goesL_ (some 33) rfl rfl Try.func50 (by kernel_rfl) rfl #[.string (⟨#[98, 98, 98, 119]⟩ : ByteArray), .slice Ao17 y151.length co17] rfl (by (try simp only [List.map_toArray, List.map_cons, List.map_nil]); first | done | rfl | (simp only [List.length_drop, List.length_take]; rfl)) ?_; (with_reducible refine (le_Pack.calls (⟨#[98, 98, 98, 119]⟩ : ByteArray) _ _ y151 t154 t155 _ ?side1 ?side2 A7.out).mono ?_); (case side1 => repeat (first | exact (Kd.R_reads' HO153.out).2.2 | (with_reducible refine Kd.C_alloc ?_ _) | (with_reducible refine Kd.C_drewN ?_ _) | (with_reducible refine Kd.C_drew ?_))); (case side2 => exact (Kd.R_reads' HO153.out).2.1); rintro e w18 ⟨v156, rfl, ho0, hb⟩; refine ⟨_, rfl, ?_⟩; have n0_ := Aside0.mk (Kd.R_elder' (by (with_reducible repeat (first | apply Kd.R_alloc | apply Kd.R_drewN | apply Kd.R_drew)); exact HO_4.out) (Kd.R_base ho0) hb); have n1_ := Aside0.mk (Kd.R_below (by (with_reducible repeat (first | apply Kd.R_alloc | apply Kd.R_drewN | apply Kd.R_drew)); exact HO153.out) hb); have n2_ := Aside0.mk (Kd.R_lower (Kd.R_new' ho0 (Kd.R_lt (by (with_reducible repeat (first | apply Kd.R_alloc | apply Kd.R_drewN | apply Kd.R_drew)); exact HO_4.out))) (below_size (by repeat (first | (with_reducible first | exact HB.out | apply below_alloc | apply pw_below_drewN | apply below_drew1 | refine below_set ?_ GE150.out) | exact HB.out)))); have n3_ := Aside0.mk (blk_below (g := gb150) (o := .cells #[.int .i64 ((rd_T46 l0 x15_1).f0), .int .i64 ((rd_T46 l0 x15_1).f1), .int .i64 ((rd_T46 l0 x15_1).f2), .int .i64 ((rd_T46 l0 x15_1).f3), .slice A149_4 ((rd_T46 l0 x15_1).f4).length c149_4] 46 (0, 0)) (by (with_reducible repeat (first | refine blk_drewN ?_ _ | refine blk_drew ?_ | refine blk_alloc ?_ _)); exact BK150.out) hb); have n4_ := Aside0.mk (below_step (by repeat (first | (with_reducible first | exact HB.out | apply below_alloc | apply pw_below_drewN | apply below_drew1 | refine below_set ?_ GE150.out) | exact HB.out)) hb); clear HO_4; clear HO153; clear BK150; clear HB; have HO_4 := n0_; have HO153 := n1_; have HO157 := n2_; have BK150 := n3_; have HB := n4_; clear n0_ n1_ n2_ n3_ n4_; (try clear hb); (try clear hb2); (try clear hk); (try clear hi); (try clear ho0); have hcz19_0 : w18.cell? ⟨gb150, 0, none⟩ = some (.int .i64 ((rd_T46 l0 x15_1).f0)) := (blk_cell BK150.out 0).trans rfl; have hcz19_1 : w18.cell? ⟨gb150, 1, none⟩ = some (.int .i64 ((rd_T46 l0 x15_1).f1)) := (blk_cell BK150.out 1).trans rfl; have hcz19_2 : w18.cell? ⟨gb150, 2, none⟩ = some (.int .i64 ((rd_T46 l0 x15_1).f2)) := (blk_cell BK150.out 2).trans rfl; have hcz19_3 : w18.cell? ⟨gb150, 3, none⟩ = some (.int .i64 ((rd_T46 l0 x15_1).f3)) := (blk_cell BK150.out 3).trans rfl; have hcz19_4 : w18.cell? ⟨gb150, 4, none⟩ = some (.slice A149_4 ((rd_T46 l0 x15_1).f4).length c149_4) := (blk_cell BK150.out 4).trans rfl; have hfz19_0 := blk_frozen BK150.out 0; have hfz19_1 := blk_frozen BK150.out 1; have hfz19_2 := blk_frozen BK150.out 2; have hfz19_3 := blk_frozen BK150.out 3; have hfz19_4 := blk_frozen BK150.out 4) | ((with_reducible refine gate_callee (f := 38) rfl ?_); refine goesL_ (some 37) rfl rfl Try.func38 (by kernel_rfl) rfl #[.agg #[.int .i64 ((rd_T46 l0 x15_1).f0), .int .i64 ((rd_T46 l0 x15_1).f1), .int .i64 ((rd_T46 l0 x15_1).f2), .int .i64 ((rd_T46 l0 x15_1).f3), .slice A149_4 ((rd_T46 l0 x15_1).f4).length c149_4]] rfl (by (try simp only [List.map_toArray, List.map_cons, List.map_nil]); first | done | rfl | (simp only [List.length_drop, List.length_take]; rfl)) ?_; (with_reducible refine (extent_Check.calls ((rd_T46 l0 x15_1).f0) ((rd_T46 l0 x15_1).f1) ((rd_T46 l0 x15_1).f2) ((rd_T46 l0 x15_1).f3) _ _ ((rd_T46 l0 x15_1).f4) true _ ?side1 ?side2 A8.out).mono ?_); (case side1 => repeat (first | exact (Kd.C_below HR149_4.out HB.out) | (with_reducible refine Kd.C_alloc ?_ _) | (with_reducible refine Kd.C_drewN ?_ _) | (with_reducible refine Kd.C_drew ?_))); (case side2 => exact HC149_4.out); rintro e w20 ⟨rfl, hb⟩; refine ⟨_, rfl, ?_⟩; have n0_ := Aside0.mk (Kd.R_below (by (with_reducible repeat (first | apply Kd.R_alloc | apply Kd.R_drewN | apply Kd.R_drew)); exact HO_4.out) hb); have n1_ := Aside0.mk (Kd.R_below (by (with_reducible repeat (first | apply Kd.R_alloc | apply Kd.R_drewN | apply Kd.R_drew)); exact HO153.out) hb); have n2_ := Aside0.mk (Kd.R_below (by (with_reducible repeat (first | apply Kd.R_alloc | apply Kd.R_drewN | apply Kd.R_drew)); exact HO157.out) hb); have n3_ := Aside0.mk (blk_below (g := gb150) (o := .cells #[.int .i64 ((rd_T46 l0 x15_1).f0), .int .i64 ((rd_T46 l0 x15_1).f1), .int .i64 ((rd_T46 l0 x15_1).f2), .int .i64 ((rd_T46 l0 x15_1).f3), .slice A149_4 ((rd_T46 l0 x15_1).f4).length c149_4] 46 (0, 0)) (by (with_reducible repeat (first | refine blk_drewN ?_ _ | refine blk_drew ?_ | refine blk_alloc ?_ _)); exact BK150.out) hb); have n4_ := Aside0.mk (below_step (by repeat (first | (with_reducible first | exact HB.out | apply below_alloc | apply pw_below_drewN | apply below_drew1 | refine below_set ?_ GE150.out) | exact HB.out)) hb); clear HO_4; clear HO153; clear HO157; clear BK150; clear HB; have HO_4 := n0_; have HO153 := n1_; have HO157 := n2_; have BK150 := n3_; have HB := n4_; clear n0_ n1_ n2_ n3_ n4_; (try clear hb); (try clear hb2); (try clear hk); (try clear hi)))
          have n0_ := Aside0.mk (Kd.R_drew HO_4.out)
          have n1_ := Aside0.mk (Kd.R_drew HO153.out)
          have n2_ := Aside0.mk (Kd.R_drew HO157.out)
          have n3_ := Aside0.mk (blk_drew BK150.out)
          have n4_ := Aside0.mk (below_drew1 HB.out)
          clear HO_4
          clear HO153
          clear HO157
          clear BK150
          clear HB
          have HO_4 := n0_
          have HO153 := n1_
          have HO157 := n2_
          have BK150 := n3_
          have HB := n4_
          clear n0_ n1_ n2_ n3_ n4_
          obtain ⟨Ao23, co23, eo23⟩ := Kd.R_slice HO157.out
          (first | subst eo23 | (injection eo23 with f1_ f2_ f3_; have f4_ := f1_.symm; have f5_ := f3_.symm; clear f1_ f2_ f3_; subst f4_; subst f5_))
          refine start_ (n := 7) (S := fun w' => w'.cell? ⟨gb150, 0, none⟩ = some (.int .i64 ((rd_T46 l0 x15_1).f0)) ∧ w'.cell? ⟨gb150, 1, none⟩ = some (.int .i64 ((rd_T46 l0 x15_1).f1)) ∧ w'.cell? ⟨gb150, 2, none⟩ = some (.int .i64 ((rd_T46 l0 x15_1).f2)) ∧ w'.cell? ⟨gb150, 3, none⟩ = some (.int .i64 ((rd_T46 l0 x15_1).f3)) ∧ w'.cell? ⟨gb150, 4, none⟩ = some (.slice A149_4 ((rd_T46 l0 x15_1).f4).length c149_4)) (ds := []) #[false, false, false, false, false, false, false] (by kernel_rfl) rfl rfl ⟨(blk_cell BK150.out 0).trans rfl, (blk_cell BK150.out 1).trans rfl, (blk_cell BK150.out 2).trans rfl, (blk_cell BK150.out 3).trans rfl, (blk_cell BK150.out 4).trans rfl⟩ (fun hHeld => ?_)
          generalize w20.drew = w21 at HO_4 HO153 HO157 BK150 HB hHeld ⊢
          refine pure_ (i := 0) (N := some 43) (v := ?_) (a' := ?_) #[true, false, false, false, false, false, false] rfl rfl (by kernel_rfl) (fun _ _ _ h => h) (Or.inl ⟨by rfl, ?_⟩) ?_ ?_
          rotate_left
          ·intro w'
           go_simp
           with_reducible rfl
          rotate_left
          ·simp only [Act.put, Kx.sb, Kx.sz, Kx.ss, i64_w, i32_w]
           rfl
          refine pure_ (i := 1) (N := some 44) (v := ?_) (a' := ?_) #[true, true, false, false, false, false, false] rfl rfl (by kernel_rfl) (fun _ _ _ h => h) (Or.inl ⟨by rfl, ?_⟩) ?_ ?_
          rotate_left
          ·intro w'
           go_simp
           with_reducible rfl
          rotate_left
          ·simp only [Act.put, Kx.sb, Kx.sz, Kx.ss, i64_w, i32_w]
           rfl
          refine pure_ (i := 3) (N := some 46) (v := ?_) (a' := ?_) #[true, true, false, true, false, false, false] rfl rfl (by kernel_rfl) (fun _ _ _ h => h) (Or.inl ⟨by rfl, ?_⟩) ?_ ?_
          rotate_left
          ·intro w'
           go_simp
           with_reducible rfl
          rotate_left
          ·simp only [Act.put, Kx.sb, Kx.sz, Kx.ss, i64_w, i32_w]
           rfl
          refine take_ (i := 4) (N := some 47) (v := ?_) (a' := ?_) #[true, true, false, true, true, false, false] rfl rfl (by kernel_rfl) (fun _ _ _ h => h) (Or.inl ⟨by rfl, ?_⟩) hHeld ?_ ?_
          rotate_left
          ·rintro w' ⟨s0, s1, s2, s3, s4⟩
           go_simp
           with_reducible rfl
          rotate_left
          ·simp only [Act.put, Kx.sb, Kx.sz, Kx.ss, i64_w, i32_w]
           rfl
          refine one_ (i := 2) (N := some 45) #[true, true, true, true, true, false, false] rfl rfl (by kernel_rfl) (by decide) (fun K hK => ?_)
          refine Kd.R_append_rows_step (Kd.int .u8) (w0 := w) w.heap.size (by rfl) (.tmp 43) (.tmp 44) 23 5 (.int .u8 0) 1 rfl Try.underlying23 info5 rfl (by decide) (by omega) u4 x4_1 t154 _ _ _ (fun k_ => some k_ ≠ (.slice Ao23 t154.length co23 : Value).ownBlock) (fun _ => False) rfl rfl ?aO ?aR (fun _ _ h => h) (fun _ h => h.elim) ?aF ?aB ?aS ?aL ?_
          (case aR => repeat (first | exact (Kd.R_reads' HO157.out).2.2 | (with_reducible refine Kd.C_alloc ?_ _) | (with_reducible refine Kd.C_drewN ?_ _) | (with_reducible refine Kd.C_drew ?_)))
          (case aB => exact (by repeat (first | (with_reducible first | exact HB.out | apply below_alloc | apply pw_below_drewN | apply below_drew1 | refine below_set ?_ GE150.out) | exact HB.out)))
          (case aF => exact (fun k_ hk => Kd.fresh' (Kd.R_lt (by (with_reducible repeat (first | apply Kd.R_alloc | apply Kd.R_drewN | apply Kd.R_drew)); exact HO157.out)) k_ hk))
          (case aO => exact (by (with_reducible repeat (first | apply Kd.R_alloc | apply Kd.R_drewN | apply Kd.R_drew)); exact Kd.R_mono HO_4.out (fun _ hk => hk.2)))
          (case aS => exact (below_size (by repeat (first | (with_reducible first | exact HB.out | apply below_alloc | apply pw_below_drewN | apply below_drew1 | refine below_set ?_ GE150.out) | exact HB.out))))
          (case aL => have := LMc11.out; omega)
          intro v160 w22 ho hb hg hat
          rw [← Ny159.out] at ho
          have n0_ := Aside0.mk (blk_grown (g := gb150) (o := .cells #[.int .i64 ((rd_T46 l0 x15_1).f0), .int .i64 ((rd_T46 l0 x15_1).f1), .int .i64 ((rd_T46 l0 x15_1).f2), .int .i64 ((rd_T46 l0 x15_1).f3), .slice A149_4 ((rd_T46 l0 x15_1).f4).length c149_4] 46 (0, 0)) (by (with_reducible repeat (first | refine blk_drewN ?_ _ | refine blk_drew ?_ | refine blk_alloc ?_ _)); exact BK150.out) hg (Kd.R_ne HO_4.out BK150.out (by decide)))
          have n1_ := Aside0.mk (Kd.R_over' (by (with_reducible repeat (first | apply Kd.R_alloc | apply Kd.R_drewN | apply Kd.R_drew)); exact HO153.out) (Kd.R_typed (by (with_reducible repeat (first | apply Kd.R_alloc | apply Kd.R_drewN | apply Kd.R_drew)); exact HO_4.out)) (by decide) hg)
          have n2_ := Aside0.mk (Kd.R_after (ok := (fun _ => True)) (by (with_reducible repeat (first | apply Kd.R_alloc | apply Kd.R_drewN | apply Kd.R_drew)); exact HO157.out) hg hat)
          have n3_ := Aside0.mk (hb)
          have n4_ := Aside0.mk (ho)
          clear BK150
          clear HO153
          clear HO157
          clear HB
          clear HO_4
          have BK150 := n0_
          have HO153 := n1_
          have HO157 := n2_
          have HB := n3_
          have HO161 := n4_
          clear n0_ n1_ n2_ n3_ n4_
          clear ho hb hg hat
          refine hK.out _ _ ⟨(blk_cell BK150.out 0).trans rfl, (blk_cell BK150.out 1).trans rfl, (blk_cell BK150.out 2).trans rfl, (blk_cell BK150.out 3).trans rfl, (blk_cell BK150.out 4).trans rfl⟩ (fun hHeld => ?_)
          clear hK K
          refine norm_ (a' := ?_) ?_ ?_
          rotate_left
          ·show Act.put _ (some 45) _ = _
           simp only [Act.put, Kx.sb, Kx.sz, Kx.ss, i64_w, i32_w]
           rfl
          refine one_ (i := 5) (N := some 48) #[true, true, true, true, true, true, false] rfl rfl (by kernel_rfl) (by decide) (fun K hK => ?_)
          refine Kd.R_append_rows_step (Kd.int .u8) (w0 := w) w.heap.size (by rfl) (.tmp 45) (.tmp 47) 23 5 (.int .u8 0) 1 rfl Try.underlying23 info5 rfl (by decide) (by omega) v160 y159 ((rd_T46 l0 x15_1).f4) _ _ _ (fun k_ => some k_ ≠ (.slice Ao23 t154.length co23 : Value).ownBlock) (fun _ => False) rfl rfl ?aO ?aR (fun _ _ h => h) (fun _ h => h.elim) ?aF ?aB ?aS ?aL ?_
          (case aR => repeat (first | exact (Kd.C_below HR149_4.out HB.out) | (with_reducible refine Kd.C_alloc ?_ _) | (with_reducible refine Kd.C_drewN ?_ _) | (with_reducible refine Kd.C_drew ?_)))
          (case aB => exact (by repeat (first | (with_reducible first | exact HB.out | apply below_alloc | apply pw_below_drewN | apply below_drew1 | refine below_set ?_ GE150.out) | exact HB.out)))
          (case aF => exact (fun k_ hk => Kd.fresh' (Kd.R_lt (by (with_reducible repeat (first | apply Kd.R_alloc | apply Kd.R_drewN | apply Kd.R_drew)); exact HO157.out)) k_ hk))
          (case aO => exact (by (with_reducible repeat (first | apply Kd.R_alloc | apply Kd.R_drewN | apply Kd.R_drew)); exact HO161.out))
          (case aS => exact (below_size (by repeat (first | (with_reducible first | exact HB.out | apply below_alloc | apply pw_below_drewN | apply below_drew1 | refine below_set ?_ GE150.out) | exact HB.out))))
          (case aL => have := LMc12.out; omega)
          intro v163 w24 ho hb hg hat
          rw [← Ny162.out] at ho
          have n0_ := Aside0.mk (blk_grown (g := gb150) (o := .cells #[.int .i64 ((rd_T46 l0 x15_1).f0), .int .i64 ((rd_T46 l0 x15_1).f1), .int .i64 ((rd_T46 l0 x15_1).f2), .int .i64 ((rd_T46 l0 x15_1).f3), .slice A149_4 ((rd_T46 l0 x15_1).f4).length c149_4] 46 (0, 0)) (by (with_reducible repeat (first | refine blk_drewN ?_ _ | refine blk_drew ?_ | refine blk_alloc ?_ _)); exact BK150.out) hg (Kd.R_ne HO161.out BK150.out (by decide)))
          have n1_ := Aside0.mk (Kd.R_over' (by (with_reducible repeat (first | apply Kd.R_alloc | apply Kd.R_drewN | apply Kd.R_drew)); exact HO153.out) (Kd.R_typed (by (with_reducible repeat (first | apply Kd.R_alloc | apply Kd.R_drewN | apply Kd.R_drew)); exact HO161.out)) (by decide) hg)
          have n2_ := Aside0.mk (Kd.R_after (ok := (fun _ => True)) (by (with_reducible repeat (first | apply Kd.R_alloc | apply Kd.R_drewN | apply Kd.R_drew)); exact HO157.out) hg hat)
          have n3_ := Aside0.mk (hb)
          have n4_ := Aside0.mk (ho)
          clear BK150
          clear HO153
          clear HO157
          clear HB
          clear HO161
          have BK150 := n0_
          have HO153 := n1_
          have HO157 := n2_
          have HB := n3_
          have HO164 := n4_
          clear n0_ n1_ n2_ n3_ n4_
          clear ho hb hg hat
          refine hK.out _ _ ⟨(blk_cell BK150.out 0).trans rfl, (blk_cell BK150.out 1).trans rfl, (blk_cell BK150.out 2).trans rfl, (blk_cell BK150.out 3).trans rfl, (blk_cell BK150.out 4).trans rfl⟩ (fun hHeld => ?_)
          clear hK K
          refine norm_ (a' := ?_) ?_ ?_
          rotate_left
          ·show Act.put _ (some 48) _ = _
           simp only [Act.put, Kx.sb, Kx.sz, Kx.ss, i64_w, i32_w]
           rfl
          refine pure_ (i := 6) (N := some 4) (v := ?_) (a' := ?_) #[true, true, true, true, true, true, true] rfl rfl (by kernel_rfl) (fun _ _ _ h => h) (Or.inl ⟨by rfl, ?_⟩) ?_ ?_
          rotate_left
          ·intro w'
           go_simp
           with_reducible rfl
          rotate_left
          ·simp only [Act.put, Kx.sb, Kx.sz, Kx.ss, i64_w, i32_w]
           rfl
          refine done_ (by kernel_rfl) ?_
          try go_wp2
          go_roundg k1
          case measure => have := HK1.out; omega
          case rel => exact ⟨(y162), (wrap64 (x15_1 + 1)), (by first | rfl | (simp; done) | (simp [*]; done)), H', ⟨by have := HK1.out; omega⟩, ⟨by (with_reducible repeat (first | apply Kd.R_alloc | apply Kd.R_drewN | apply Kd.R_drew)); exact Kd.R_mono HO164.out (fun _ hk => trivial)⟩, ⟨by repeat (first | (with_reducible first | exact HB.out | apply below_alloc | apply pw_below_drewN | apply below_drew1 | refine below_set ?_ GE150.out) | exact HB.out)⟩⟩
         ·rw [if_neg c12] at H
          exact absurd H (by simp)
        ·rw [if_neg c11] at H
         exact absurd H (by simp)
       ·rw [if_neg c10] at H
        have c10b0 : (t155 == 0) = false := beq_eq_false_iff_ne.mpr c10
        have c10b1 : (t155 != 0) = true := bne_iff_ne.mpr c10
        simp only [Option.some.injEq, Prod.mk.injEq] at H
        obtain ⟨rfl, rfl⟩ := H
        have p149 : 0 ≤ (x15_1 : Int) := of_decide_eq_true (by first | (with_reducible assumption) | assumption)
        have q149 : x15_1 < (l0.length : Int) := of_decide_eq_true (by first | (with_reducible assumption) | assumption)
        obtain ⟨ad149, A149_4, c149_4, e149, hx149_0, hx149_1, hx149_2, hx149_3, hx149_4, hl149_4, hi149_4⟩ := at_T46 HR0.out x15_1 p149 q149
        cases e149
        replace hx149_0 := (HB.out.cell (World.block_lt_of_cell? w _ hx149_0)).trans hx149_0
        replace hx149_1 := (HB.out.cell (World.block_lt_of_cell? w _ hx149_1)).trans hx149_1
        replace hx149_2 := (HB.out.cell (World.block_lt_of_cell? w _ hx149_2)).trans hx149_2
        replace hx149_3 := (HB.out.cell (World.block_lt_of_cell? w _ hx149_3)).trans hx149_3
        replace hx149_4 := (HB.out.cell (World.block_lt_of_cell? w _ hx149_4)).trans hx149_4
        have HR149_4 := Aside0.mk hi149_4
        have HC149_4 := Aside0.mk hl149_4
        clear hi149_4 hl149_4
        replace p149 := eq_true p149
        replace q149 := eq_true q149
        go_wp2_with (first | ((with_reducible refine gate_dst (N := 6) rfl ?_); refine box_event ?hg (N := 6) ?hd (cs := #[.int .i64 0, .int .i64 0, .int .i64 0, .int .i64 0, .slice none 0 0]) (t := 46) ?hr ?_; (case hd => rfl); (case hg => rfl); (case hr => first | (go_simp; done) | (go_simp; rfl)); intro gb150 hg w25 hbox hb; have n0_ := Aside0.mk (Kd.R_below (by (with_reducible repeat (first | apply Kd.R_alloc | apply Kd.R_drewN | apply Kd.R_drew)); exact HO_4.out) hb); have n1_ := Aside0.mk (below_step (by repeat (first | (with_reducible first | exact HB.out | apply below_alloc | apply pw_below_drewN | apply below_drew1) | exact HB.out)) hb); have n2_ := Aside0.mk (hbox); have n3_ := Aside0.mk ((by rw [hg]; exact (below_size (by repeat (first | (with_reducible first | exact HB.out | apply below_alloc | apply pw_below_drewN | apply below_drew1) | exact HB.out))) : w.heap.size ≤ gb150)); have n4_ := Aside0.mk ((by rw [hg]; exact (below_size (by repeat (first | (with_reducible first | exact HB.out | apply below_alloc | apply pw_below_drewN | apply below_drew1) | exact HB.out))) : w.heap.size ≤ gb150)); clear HO_4; clear HB; have HO_4 := n0_; have HB := n1_; have BK150 := n2_; have GW150 := n3_; have GE150 := n4_; clear n0_ n1_ n2_ n3_ n4_; clear hb hbox hg; have hcz26_0 : w25.cell? ⟨gb150, 0, none⟩ = some (.int .i64 0) := (blk_cell BK150.out 0).trans rfl; have hcz26_1 : w25.cell? ⟨gb150, 1, none⟩ = some (.int .i64 0) := (blk_cell BK150.out 1).trans rfl; have hcz26_2 : w25.cell? ⟨gb150, 2, none⟩ = some (.int .i64 0) := (blk_cell BK150.out 2).trans rfl; have hcz26_3 : w25.cell? ⟨gb150, 3, none⟩ = some (.int .i64 0) := (blk_cell BK150.out 3).trans rfl; have hcz26_4 : w25.cell? ⟨gb150, 4, none⟩ = some (.slice none 0 0) := (blk_cell BK150.out 4).trans rfl; have hfz26_0 := blk_frozen BK150.out 0; have hfz26_1 := blk_frozen BK150.out 1; have hfz26_2 := blk_frozen BK150.out 2; have hfz26_3 := blk_frozen BK150.out 3; have hfz26_4 := blk_frozen BK150.out 4) | ((with_reducible refine gate_dst (N := 32) rfl ?_); refine Kd.R_lit (Kd.int .u64) _ 68 ?hg (N := 32) ?hd (xs := ([IntKind.u64.wrap ((rd_T46 l0 x15_1).f0), IntKind.u64.wrap ((rd_T46 l0 x15_1).f1), IntKind.u64.wrap ((rd_T46 l0 x15_1).f2), IntKind.u64.wrap ((rd_T46 l0 x15_1).f3)] : List Int)) (inner := [.int .u64 (IntKind.u64.wrap ((rd_T46 l0 x15_1).f0)), .int .u64 (IntKind.u64.wrap ((rd_T46 l0 x15_1).f1)), .int .u64 (IntKind.u64.wrap ((rd_T46 l0 x15_1).f2)), .int .u64 (IntKind.u64.wrap ((rd_T46 l0 x15_1).f3))]) (ok := fun _ => True) (okp := fun _ => True) ?hr ?hp (fun _ hk => hk) trivial (Below.refl _ _) (Nat.le_refl _) (by simp) ?_; (case hd => rfl); (case hg => rfl); (case hr => first | (go_simp; done) | (go_simp; rfl)); (case hp => exact (Reps.one (show Kd.M (Kd.int .u64) _ _ _ (IntKind.u64.wrap ((rd_T46 l0 x15_1).f0)) [.int .u64 (IntKind.u64.wrap ((rd_T46 l0 x15_1).f0))] from rfl) (Reps.one (show Kd.M (Kd.int .u64) _ _ _ (IntKind.u64.wrap ((rd_T46 l0 x15_1).f1)) [.int .u64 (IntKind.u64.wrap ((rd_T46 l0 x15_1).f1))] from rfl) (Reps.one (show Kd.M (Kd.int .u64) _ _ _ (IntKind.u64.wrap ((rd_T46 l0 x15_1).f2)) [.int .u64 (IntKind.u64.wrap ((rd_T46 l0 x15_1).f2))] from rfl) (Reps.one (show Kd.M (Kd.int .u64) _ _ _ (IntKind.u64.wrap ((rd_T46 l0 x15_1).f3)) [.int .u64 (IntKind.u64.wrap ((rd_T46 l0 x15_1).f3))] from rfl) (Reps.none _ _)))))); intro v152 w27 ho28 hb hg_ hnew_; clear hg_ hnew_; (first | rw [← Ny151.out] at ho28 | (simp only [Int.reduceToNat] at ho28; rw [← Ny151.out] at ho28)); have n0_ := Aside0.mk (Kd.R_below (by (with_reducible repeat (first | apply Kd.R_alloc | apply Kd.R_drewN | apply Kd.R_drew)); exact (Kd.R_mono (Kd.R_far (p := ⟨gb150, 4, none⟩) (Kd.R_far (p := ⟨gb150, 3, none⟩) (Kd.R_far (p := ⟨gb150, 2, none⟩) (Kd.R_far (p := ⟨gb150, 1, none⟩) (Kd.R_far (p := ⟨gb150, 0, none⟩) (Kd.R_types HO_4.out BK150.out (by decide)) (fun _ hk => hk.2) (.int .i64 ((rd_T46 l0 x15_1).f0))) (fun _ hk => hk.2) (.int .i64 ((rd_T46 l0 x15_1).f1))) (fun _ hk => hk.2) (.int .i64 ((rd_T46 l0 x15_1).f2))) (fun _ hk => hk.2) (.int .i64 ((rd_T46 l0 x15_1).f3))) (fun _ hk => hk.2) (.slice A149_4 ((rd_T46 l0 x15_1).f4).length c149_4)) (fun _ h_ => h_.1))) hb); have n1_ := Aside0.mk (Kd.R_lower ho28 (below_size (by repeat (first | (with_reducible first | exact HB.out | apply below_alloc | apply pw_below_drewN | apply below_drew1 | refine below_set ?_ GE150.out) | exact HB.out)))); have n2_ := Aside0.mk (blk_below (g := gb150) (o := .cells #[.int .i64 ((rd_T46 l0 x15_1).f0), .int .i64 ((rd_T46 l0 x15_1).f1), .int .i64 ((rd_T46 l0 x15_1).f2), .int .i64 ((rd_T46 l0 x15_1).f3), .slice A149_4 ((rd_T46 l0 x15_1).f4).length c149_4] 46 (0, 0)) (by (with_reducible repeat (first | refine blk_drewN ?_ _ | refine blk_drew ?_ | refine blk_alloc ?_ _)); refine blk_put (cs := #[.int .i64 ((rd_T46 l0 x15_1).f0), .int .i64 ((rd_T46 l0 x15_1).f1), .int .i64 ((rd_T46 l0 x15_1).f2), .int .i64 ((rd_T46 l0 x15_1).f3), .slice none 0 0]) ?_ 4 _ rfl; (with_reducible repeat (first | refine blk_drewN ?_ _ | refine blk_drew ?_ | refine blk_alloc ?_ _)); refine blk_put (cs := #[.int .i64 ((rd_T46 l0 x15_1).f0), .int .i64 ((rd_T46 l0 x15_1).f1), .int .i64 ((rd_T46 l0 x15_1).f2), .int .i64 0, .slice none 0 0]) ?_ 3 _ rfl; (with_reducible repeat (first | refine blk_drewN ?_ _ | refine blk_drew ?_ | refine blk_alloc ?_ _)); refine blk_put (cs := #[.int .i64 ((rd_T46 l0 x15_1).f0), .int .i64 ((rd_T46 l0 x15_1).f1), .int .i64 0, .int .i64 0, .slice none 0 0]) ?_ 2 _ rfl; (with_reducible repeat (first | refine blk_drewN ?_ _ | refine blk_drew ?_ | refine blk_alloc ?_ _)); refine blk_put (cs := #[.int .i64 ((rd_T46 l0 x15_1).f0), .int .i64 0, .int .i64 0, .int .i64 0, .slice none 0 0]) ?_ 1 _ rfl; (with_reducible repeat (first | refine blk_drewN ?_ _ | refine blk_drew ?_ | refine blk_alloc ?_ _)); refine blk_put (cs := #[.int .i64 0, .int .i64 0, .int .i64 0, .int .i64 0, .slice none 0 0]) ?_ 0 _ rfl; (with_reducible repeat (first | refine blk_drewN ?_ _ | refine blk_drew ?_ | refine blk_alloc ?_ _)); exact BK150.out) hb); have n3_ := Aside0.mk (below_step (by repeat (first | (with_reducible first | exact HB.out | apply below_alloc | apply pw_below_drewN | apply below_drew1 | refine below_set ?_ GE150.out) | exact HB.out)) hb); clear HO_4; clear BK150; clear HB; have HO_4 := n0_; have HO153 := n1_; have BK150 := n2_; have HB := n3_; clear n0_ n1_ n2_ n3_; clear hb ho28; obtain ⟨Ao29, co29, eo29⟩ := Kd.R_slice HO153.out; subst eo29) | ((with_reducible refine gate_callee (f := 50) rfl ?_); refine goesL_ (some 33) rfl rfl Try.func50 (by kernel_rfl) rfl #[.string (⟨#[98, 98, 98, 119]⟩ : ByteArray), .slice Ao29 y151.length co29] rfl (by (try simp only [List.map_toArray, List.map_cons, List.map_nil]); first | done | rfl | (simp only [List.length_drop, List.length_take]; rfl)) ?_; (with_reducible refine (le_Pack.calls (⟨#[98, 98, 98, 119]⟩ : ByteArray) _ _ y151 t154 t155 _ ?side1 ?side2 A7.out).mono ?_); (case side1 => repeat (first | exact (Kd.R_reads' HO153.out).2.2 | (with_reducible refine Kd.C_alloc ?_ _) | (with_reducible refine Kd.C_drewN ?_ _) | (with_reducible refine Kd.C_drew ?_))); (case side2 => exact (Kd.R_reads' HO153.out).2.1); rintro e w30 ⟨v156, rfl, ho0, hb⟩; refine ⟨_, rfl, ?_⟩; have n0_ := Aside0.mk (Kd.R_elder' (by (with_reducible repeat (first | apply Kd.R_alloc | apply Kd.R_drewN | apply Kd.R_drew)); exact HO_4.out) (Kd.R_base ho0) hb); have n1_ := Aside0.mk (Kd.R_below (by (with_reducible repeat (first | apply Kd.R_alloc | apply Kd.R_drewN | apply Kd.R_drew)); exact HO153.out) hb); have n2_ := Aside0.mk (Kd.R_lower (Kd.R_new' ho0 (Kd.R_lt (by (with_reducible repeat (first | apply Kd.R_alloc | apply Kd.R_drewN | apply Kd.R_drew)); exact HO_4.out))) (below_size (by repeat (first | (with_reducible first | exact HB.out | apply below_alloc | apply pw_below_drewN | apply below_drew1 | refine below_set ?_ GE150.out) | exact HB.out)))); have n3_ := Aside0.mk (blk_below (g := gb150) (o := .cells #[.int .i64 ((rd_T46 l0 x15_1).f0), .int .i64 ((rd_T46 l0 x15_1).f1), .int .i64 ((rd_T46 l0 x15_1).f2), .int .i64 ((rd_T46 l0 x15_1).f3), .slice A149_4 ((rd_T46 l0 x15_1).f4).length c149_4] 46 (0, 0)) (by (with_reducible repeat (first | refine blk_drewN ?_ _ | refine blk_drew ?_ | refine blk_alloc ?_ _)); exact BK150.out) hb); have n4_ := Aside0.mk (below_step (by repeat (first | (with_reducible first | exact HB.out | apply below_alloc | apply pw_below_drewN | apply below_drew1 | refine below_set ?_ GE150.out) | exact HB.out)) hb); clear HO_4; clear HO153; clear BK150; clear HB; have HO_4 := n0_; have HO153 := n1_; have HO157 := n2_; have BK150 := n3_; have HB := n4_; clear n0_ n1_ n2_ n3_ n4_; (try clear hb); (try clear hb2); (try clear hk); (try clear hi); (try clear ho0); have hcz31_0 : w30.cell? ⟨gb150, 0, none⟩ = some (.int .i64 ((rd_T46 l0 x15_1).f0)) := (blk_cell BK150.out 0).trans rfl; have hcz31_1 : w30.cell? ⟨gb150, 1, none⟩ = some (.int .i64 ((rd_T46 l0 x15_1).f1)) := (blk_cell BK150.out 1).trans rfl; have hcz31_2 : w30.cell? ⟨gb150, 2, none⟩ = some (.int .i64 ((rd_T46 l0 x15_1).f2)) := (blk_cell BK150.out 2).trans rfl; have hcz31_3 : w30.cell? ⟨gb150, 3, none⟩ = some (.int .i64 ((rd_T46 l0 x15_1).f3)) := (blk_cell BK150.out 3).trans rfl; have hcz31_4 : w30.cell? ⟨gb150, 4, none⟩ = some (.slice A149_4 ((rd_T46 l0 x15_1).f4).length c149_4) := (blk_cell BK150.out 4).trans rfl; have hfz31_0 := blk_frozen BK150.out 0; have hfz31_1 := blk_frozen BK150.out 1; have hfz31_2 := blk_frozen BK150.out 2; have hfz31_3 := blk_frozen BK150.out 3; have hfz31_4 := blk_frozen BK150.out 4) | ((with_reducible refine gate_callee (f := 38) rfl ?_); refine goesL_ (some 37) rfl rfl Try.func38 (by kernel_rfl) rfl #[.agg #[.int .i64 ((rd_T46 l0 x15_1).f0), .int .i64 ((rd_T46 l0 x15_1).f1), .int .i64 ((rd_T46 l0 x15_1).f2), .int .i64 ((rd_T46 l0 x15_1).f3), .slice A149_4 ((rd_T46 l0 x15_1).f4).length c149_4]] rfl (by (try simp only [List.map_toArray, List.map_cons, List.map_nil]); first | done | rfl | (simp only [List.length_drop, List.length_take]; rfl)) ?_; (with_reducible refine (extent_Check.calls ((rd_T46 l0 x15_1).f0) ((rd_T46 l0 x15_1).f1) ((rd_T46 l0 x15_1).f2) ((rd_T46 l0 x15_1).f3) _ _ ((rd_T46 l0 x15_1).f4) true _ ?side1 ?side2 A8.out).mono ?_); (case side1 => repeat (first | exact (Kd.C_below HR149_4.out HB.out) | (with_reducible refine Kd.C_alloc ?_ _) | (with_reducible refine Kd.C_drewN ?_ _) | (with_reducible refine Kd.C_drew ?_))); (case side2 => exact HC149_4.out); rintro e w32 ⟨rfl, hb⟩; refine ⟨_, rfl, ?_⟩; have n0_ := Aside0.mk (Kd.R_below (by (with_reducible repeat (first | apply Kd.R_alloc | apply Kd.R_drewN | apply Kd.R_drew)); exact HO_4.out) hb); have n1_ := Aside0.mk (Kd.R_below (by (with_reducible repeat (first | apply Kd.R_alloc | apply Kd.R_drewN | apply Kd.R_drew)); exact HO153.out) hb); have n2_ := Aside0.mk (Kd.R_below (by (with_reducible repeat (first | apply Kd.R_alloc | apply Kd.R_drewN | apply Kd.R_drew)); exact HO157.out) hb); have n3_ := Aside0.mk (blk_below (g := gb150) (o := .cells #[.int .i64 ((rd_T46 l0 x15_1).f0), .int .i64 ((rd_T46 l0 x15_1).f1), .int .i64 ((rd_T46 l0 x15_1).f2), .int .i64 ((rd_T46 l0 x15_1).f3), .slice A149_4 ((rd_T46 l0 x15_1).f4).length c149_4] 46 (0, 0)) (by (with_reducible repeat (first | refine blk_drewN ?_ _ | refine blk_drew ?_ | refine blk_alloc ?_ _)); exact BK150.out) hb); have n4_ := Aside0.mk (below_step (by repeat (first | (with_reducible first | exact HB.out | apply below_alloc | apply pw_below_drewN | apply below_drew1 | refine below_set ?_ GE150.out) | exact HB.out)) hb); clear HO_4; clear HO153; clear HO157; clear BK150; clear HB; have HO_4 := n0_; have HO153 := n1_; have HO157 := n2_; have BK150 := n3_; have HB := n4_; clear n0_ n1_ n2_ n3_ n4_; (try clear hb); (try clear hb2); (try clear hk); (try clear hi)))
        go_ret2
        exact ⟨_, by first | rfl | (simp [errW_none, errW_some] <;> rfl) | (simp [*, errW_none, errW_some] <;> rfl), by first | exact Kd.R_nil _ _ _ _ _ | exact Kd.N_nil _ _ _ _ _ | exact Kd.V_nil _ _ _ _ _ | exact Kd.Q_nil _ _ _ _ _ | exact Kd.S_nil _ _ _ _ _, by repeat (first | (with_reducible first | exact HB.out | apply below_alloc | apply pw_below_drewN | apply below_drew1 | refine below_set ?_ GE150.out) | exact HB.out)⟩
      ·replace c9 := Bool.eq_false_iff.mpr c9
       subst c9
       have H1 : (some (([] : List Int), 70)) = some (r1, r2) := by rw [if_neg (show ¬ (false = true) by decide)] at H <;> exact H
       clear H
       have H := H1
       clear H1
       simp only [Option.some.injEq, Prod.mk.injEq] at H
       obtain ⟨rfl, rfl⟩ := H
       have p149 : 0 ≤ (x15_1 : Int) := of_decide_eq_true (by first | (with_reducible assumption) | assumption)
       have q149 : x15_1 < (l0.length : Int) := of_decide_eq_true (by first | (with_reducible assumption) | assumption)
       obtain ⟨ad149, A149_4, c149_4, e149, hx149_0, hx149_1, hx149_2, hx149_3, hx149_4, hl149_4, hi149_4⟩ := at_T46 HR0.out x15_1 p149 q149
       cases e149
       replace hx149_0 := (HB.out.cell (World.block_lt_of_cell? w _ hx149_0)).trans hx149_0
       replace hx149_1 := (HB.out.cell (World.block_lt_of_cell? w _ hx149_1)).trans hx149_1
       replace hx149_2 := (HB.out.cell (World.block_lt_of_cell? w _ hx149_2)).trans hx149_2
       replace hx149_3 := (HB.out.cell (World.block_lt_of_cell? w _ hx149_3)).trans hx149_3
       replace hx149_4 := (HB.out.cell (World.block_lt_of_cell? w _ hx149_4)).trans hx149_4
       have HR149_4 := Aside0.mk hi149_4
       have HC149_4 := Aside0.mk hl149_4
       clear hi149_4 hl149_4
       replace p149 := eq_true p149
       replace q149 := eq_true q149
       go_wp2_with (first | ((with_reducible refine gate_dst (N := 6) rfl ?_); refine box_event ?hg (N := 6) ?hd (cs := #[.int .i64 0, .int .i64 0, .int .i64 0, .int .i64 0, .slice none 0 0]) (t := 46) ?hr ?_; (case hd => rfl); (case hg => rfl); (case hr => first | (go_simp; done) | (go_simp; rfl)); intro gb150 hg w33 hbox hb; have n0_ := Aside0.mk (Kd.R_below (by (with_reducible repeat (first | apply Kd.R_alloc | apply Kd.R_drewN | apply Kd.R_drew)); exact HO_4.out) hb); have n1_ := Aside0.mk (below_step (by repeat (first | (with_reducible first | exact HB.out | apply below_alloc | apply pw_below_drewN | apply below_drew1) | exact HB.out)) hb); have n2_ := Aside0.mk (hbox); have n3_ := Aside0.mk ((by rw [hg]; exact (below_size (by repeat (first | (with_reducible first | exact HB.out | apply below_alloc | apply pw_below_drewN | apply below_drew1) | exact HB.out))) : w.heap.size ≤ gb150)); have n4_ := Aside0.mk ((by rw [hg]; exact (below_size (by repeat (first | (with_reducible first | exact HB.out | apply below_alloc | apply pw_below_drewN | apply below_drew1) | exact HB.out))) : w.heap.size ≤ gb150)); clear HO_4; clear HB; have HO_4 := n0_; have HB := n1_; have BK150 := n2_; have GW150 := n3_; have GE150 := n4_; clear n0_ n1_ n2_ n3_ n4_; clear hb hbox hg; have hcz34_0 : w33.cell? ⟨gb150, 0, none⟩ = some (.int .i64 0) := (blk_cell BK150.out 0).trans rfl; have hcz34_1 : w33.cell? ⟨gb150, 1, none⟩ = some (.int .i64 0) := (blk_cell BK150.out 1).trans rfl; have hcz34_2 : w33.cell? ⟨gb150, 2, none⟩ = some (.int .i64 0) := (blk_cell BK150.out 2).trans rfl; have hcz34_3 : w33.cell? ⟨gb150, 3, none⟩ = some (.int .i64 0) := (blk_cell BK150.out 3).trans rfl; have hcz34_4 : w33.cell? ⟨gb150, 4, none⟩ = some (.slice none 0 0) := (blk_cell BK150.out 4).trans rfl; have hfz34_0 := blk_frozen BK150.out 0; have hfz34_1 := blk_frozen BK150.out 1; have hfz34_2 := blk_frozen BK150.out 2; have hfz34_3 := blk_frozen BK150.out 3; have hfz34_4 := blk_frozen BK150.out 4) | ((with_reducible refine gate_dst (N := 32) rfl ?_); refine Kd.R_lit (Kd.int .u64) _ 68 ?hg (N := 32) ?hd (xs := ([IntKind.u64.wrap ((rd_T46 l0 x15_1).f0), IntKind.u64.wrap ((rd_T46 l0 x15_1).f1), IntKind.u64.wrap ((rd_T46 l0 x15_1).f2), IntKind.u64.wrap ((rd_T46 l0 x15_1).f3)] : List Int)) (inner := [.int .u64 (IntKind.u64.wrap ((rd_T46 l0 x15_1).f0)), .int .u64 (IntKind.u64.wrap ((rd_T46 l0 x15_1).f1)), .int .u64 (IntKind.u64.wrap ((rd_T46 l0 x15_1).f2)), .int .u64 (IntKind.u64.wrap ((rd_T46 l0 x15_1).f3))]) (ok := fun _ => True) (okp := fun _ => True) ?hr ?hp (fun _ hk => hk) trivial (Below.refl _ _) (Nat.le_refl _) (by simp) ?_; (case hd => rfl); (case hg => rfl); (case hr => first | (go_simp; done) | (go_simp; rfl)); (case hp => exact (Reps.one (show Kd.M (Kd.int .u64) _ _ _ (IntKind.u64.wrap ((rd_T46 l0 x15_1).f0)) [.int .u64 (IntKind.u64.wrap ((rd_T46 l0 x15_1).f0))] from rfl) (Reps.one (show Kd.M (Kd.int .u64) _ _ _ (IntKind.u64.wrap ((rd_T46 l0 x15_1).f1)) [.int .u64 (IntKind.u64.wrap ((rd_T46 l0 x15_1).f1))] from rfl) (Reps.one (show Kd.M (Kd.int .u64) _ _ _ (IntKind.u64.wrap ((rd_T46 l0 x15_1).f2)) [.int .u64 (IntKind.u64.wrap ((rd_T46 l0 x15_1).f2))] from rfl) (Reps.one (show Kd.M (Kd.int .u64) _ _ _ (IntKind.u64.wrap ((rd_T46 l0 x15_1).f3)) [.int .u64 (IntKind.u64.wrap ((rd_T46 l0 x15_1).f3))] from rfl) (Reps.none _ _)))))); intro v152 w35 ho36 hb hg_ hnew_; clear hg_ hnew_; (first | rw [← Ny151.out] at ho36 | (simp only [Int.reduceToNat] at ho36; rw [← Ny151.out] at ho36)); have n0_ := Aside0.mk (Kd.R_below (by (with_reducible repeat (first | apply Kd.R_alloc | apply Kd.R_drewN | apply Kd.R_drew)); exact (Kd.R_mono (Kd.R_far (p := ⟨gb150, 4, none⟩) (Kd.R_far (p := ⟨gb150, 3, none⟩) (Kd.R_far (p := ⟨gb150, 2, none⟩) (Kd.R_far (p := ⟨gb150, 1, none⟩) (Kd.R_far (p := ⟨gb150, 0, none⟩) (Kd.R_types HO_4.out BK150.out (by decide)) (fun _ hk => hk.2) (.int .i64 ((rd_T46 l0 x15_1).f0))) (fun _ hk => hk.2) (.int .i64 ((rd_T46 l0 x15_1).f1))) (fun _ hk => hk.2) (.int .i64 ((rd_T46 l0 x15_1).f2))) (fun _ hk => hk.2) (.int .i64 ((rd_T46 l0 x15_1).f3))) (fun _ hk => hk.2) (.slice A149_4 ((rd_T46 l0 x15_1).f4).length c149_4)) (fun _ h_ => h_.1))) hb); have n1_ := Aside0.mk (Kd.R_lower ho36 (below_size (by repeat (first | (with_reducible first | exact HB.out | apply below_alloc | apply pw_below_drewN | apply below_drew1 | refine below_set ?_ GE150.out) | exact HB.out)))); have n2_ := Aside0.mk (blk_below (g := gb150) (o := .cells #[.int .i64 ((rd_T46 l0 x15_1).f0), .int .i64 ((rd_T46 l0 x15_1).f1), .int .i64 ((rd_T46 l0 x15_1).f2), .int .i64 ((rd_T46 l0 x15_1).f3), .slice A149_4 ((rd_T46 l0 x15_1).f4).length c149_4] 46 (0, 0)) (by (with_reducible repeat (first | refine blk_drewN ?_ _ | refine blk_drew ?_ | refine blk_alloc ?_ _)); refine blk_put (cs := #[.int .i64 ((rd_T46 l0 x15_1).f0), .int .i64 ((rd_T46 l0 x15_1).f1), .int .i64 ((rd_T46 l0 x15_1).f2), .int .i64 ((rd_T46 l0 x15_1).f3), .slice none 0 0]) ?_ 4 _ rfl; (with_reducible repeat (first | refine blk_drewN ?_ _ | refine blk_drew ?_ | refine blk_alloc ?_ _)); refine blk_put (cs := #[.int .i64 ((rd_T46 l0 x15_1).f0), .int .i64 ((rd_T46 l0 x15_1).f1), .int .i64 ((rd_T46 l0 x15_1).f2), .int .i64 0, .slice none 0 0]) ?_ 3 _ rfl; (with_reducible repeat (first | refine blk_drewN ?_ _ | refine blk_drew ?_ | refine blk_alloc ?_ _)); refine blk_put (cs := #[.int .i64 ((rd_T46 l0 x15_1).f0), .int .i64 ((rd_T46 l0 x15_1).f1), .int .i64 0, .int .i64 0, .slice none 0 0]) ?_ 2 _ rfl; (with_reducible repeat (first | refine blk_drewN ?_ _ | refine blk_drew ?_ | refine blk_alloc ?_ _)); refine blk_put (cs := #[.int .i64 ((rd_T46 l0 x15_1).f0), .int .i64 0, .int .i64 0, .int .i64 0, .slice none 0 0]) ?_ 1 _ rfl; (with_reducible repeat (first | refine blk_drewN ?_ _ | refine blk_drew ?_ | refine blk_alloc ?_ _)); refine blk_put (cs := #[.int .i64 0, .int .i64 0, .int .i64 0, .int .i64 0, .slice none 0 0]) ?_ 0 _ rfl; (with_reducible repeat (first | refine blk_drewN ?_ _ | refine blk_drew ?_ | refine blk_alloc ?_ _)); exact BK150.out) hb); have n3_ := Aside0.mk (below_step (by repeat (first | (with_reducible first | exact HB.out | apply below_alloc | apply pw_below_drewN | apply below_drew1 | refine below_set ?_ GE150.out) | exact HB.out)) hb); clear HO_4; clear BK150; clear HB; have HO_4 := n0_; have HO153 := n1_; have BK150 := n2_; have HB := n3_; clear n0_ n1_ n2_ n3_; clear hb ho36; obtain ⟨Ao37, co37, eo37⟩ := Kd.R_slice HO153.out; subst eo37) | ((with_reducible refine gate_callee (f := 50) rfl ?_); refine goesL_ (some 33) rfl rfl Try.func50 (by kernel_rfl) rfl #[.string (⟨#[98, 98, 98, 119]⟩ : ByteArray), .slice Ao37 y151.length co37] rfl (by (try simp only [List.map_toArray, List.map_cons, List.map_nil]); first | done | rfl | (simp only [List.length_drop, List.length_take]; rfl)) ?_; (with_reducible refine (le_Pack.calls (⟨#[98, 98, 98, 119]⟩ : ByteArray) _ _ y151 t154 t155 _ ?side1 ?side2 A7.out).mono ?_); (case side1 => repeat (first | exact (Kd.R_reads' HO153.out).2.2 | (with_reducible refine Kd.C_alloc ?_ _) | (with_reducible refine Kd.C_drewN ?_ _) | (with_reducible refine Kd.C_drew ?_))); (case side2 => exact (Kd.R_reads' HO153.out).2.1); rintro e w38 ⟨v156, rfl, ho0, hb⟩; refine ⟨_, rfl, ?_⟩; have n0_ := Aside0.mk (Kd.R_elder' (by (with_reducible repeat (first | apply Kd.R_alloc | apply Kd.R_drewN | apply Kd.R_drew)); exact HO_4.out) (Kd.R_base ho0) hb); have n1_ := Aside0.mk (Kd.R_below (by (with_reducible repeat (first | apply Kd.R_alloc | apply Kd.R_drewN | apply Kd.R_drew)); exact HO153.out) hb); have n2_ := Aside0.mk (Kd.R_lower (Kd.R_new' ho0 (Kd.R_lt (by (with_reducible repeat (first | apply Kd.R_alloc | apply Kd.R_drewN | apply Kd.R_drew)); exact HO_4.out))) (below_size (by repeat (first | (with_reducible first | exact HB.out | apply below_alloc | apply pw_below_drewN | apply below_drew1 | refine below_set ?_ GE150.out) | exact HB.out)))); have n3_ := Aside0.mk (blk_below (g := gb150) (o := .cells #[.int .i64 ((rd_T46 l0 x15_1).f0), .int .i64 ((rd_T46 l0 x15_1).f1), .int .i64 ((rd_T46 l0 x15_1).f2), .int .i64 ((rd_T46 l0 x15_1).f3), .slice A149_4 ((rd_T46 l0 x15_1).f4).length c149_4] 46 (0, 0)) (by (with_reducible repeat (first | refine blk_drewN ?_ _ | refine blk_drew ?_ | refine blk_alloc ?_ _)); exact BK150.out) hb); have n4_ := Aside0.mk (below_step (by repeat (first | (with_reducible first | exact HB.out | apply below_alloc | apply pw_below_drewN | apply below_drew1 | refine below_set ?_ GE150.out) | exact HB.out)) hb); clear HO_4; clear HO153; clear BK150; clear HB; have HO_4 := n0_; have HO153 := n1_; have HO157 := n2_; have BK150 := n3_; have HB := n4_; clear n0_ n1_ n2_ n3_ n4_; (try clear hb); (try clear hb2); (try clear hk); (try clear hi); (try clear ho0); have hcz39_0 : w38.cell? ⟨gb150, 0, none⟩ = some (.int .i64 ((rd_T46 l0 x15_1).f0)) := (blk_cell BK150.out 0).trans rfl; have hcz39_1 : w38.cell? ⟨gb150, 1, none⟩ = some (.int .i64 ((rd_T46 l0 x15_1).f1)) := (blk_cell BK150.out 1).trans rfl; have hcz39_2 : w38.cell? ⟨gb150, 2, none⟩ = some (.int .i64 ((rd_T46 l0 x15_1).f2)) := (blk_cell BK150.out 2).trans rfl; have hcz39_3 : w38.cell? ⟨gb150, 3, none⟩ = some (.int .i64 ((rd_T46 l0 x15_1).f3)) := (blk_cell BK150.out 3).trans rfl; have hcz39_4 : w38.cell? ⟨gb150, 4, none⟩ = some (.slice A149_4 ((rd_T46 l0 x15_1).f4).length c149_4) := (blk_cell BK150.out 4).trans rfl; have hfz39_0 := blk_frozen BK150.out 0; have hfz39_1 := blk_frozen BK150.out 1; have hfz39_2 := blk_frozen BK150.out 2; have hfz39_3 := blk_frozen BK150.out 3; have hfz39_4 := blk_frozen BK150.out 4) | ((with_reducible refine gate_callee (f := 38) rfl ?_); refine goesL_ (some 37) rfl rfl Try.func38 (by kernel_rfl) rfl #[.agg #[.int .i64 ((rd_T46 l0 x15_1).f0), .int .i64 ((rd_T46 l0 x15_1).f1), .int .i64 ((rd_T46 l0 x15_1).f2), .int .i64 ((rd_T46 l0 x15_1).f3), .slice A149_4 ((rd_T46 l0 x15_1).f4).length c149_4]] rfl (by (try simp only [List.map_toArray, List.map_cons, List.map_nil]); first | done | rfl | (simp only [List.length_drop, List.length_take]; rfl)) ?_; (with_reducible refine (extent_Check.calls ((rd_T46 l0 x15_1).f0) ((rd_T46 l0 x15_1).f1) ((rd_T46 l0 x15_1).f2) ((rd_T46 l0 x15_1).f3) _ _ ((rd_T46 l0 x15_1).f4) false _ ?side1 ?side2 A8.out).mono ?_); (case side1 => repeat (first | exact (Kd.C_below HR149_4.out HB.out) | (with_reducible refine Kd.C_alloc ?_ _) | (with_reducible refine Kd.C_drewN ?_ _) | (with_reducible refine Kd.C_drew ?_))); (case side2 => exact HC149_4.out); rintro e w40 ⟨rfl, hb⟩; refine ⟨_, rfl, ?_⟩; have n0_ := Aside0.mk (Kd.R_below (by (with_reducible repeat (first | apply Kd.R_alloc | apply Kd.R_drewN | apply Kd.R_drew)); exact HO_4.out) hb); have n1_ := Aside0.mk (Kd.R_below (by (with_reducible repeat (first | apply Kd.R_alloc | apply Kd.R_drewN | apply Kd.R_drew)); exact HO153.out) hb); have n2_ := Aside0.mk (Kd.R_below (by (with_reducible repeat (first | apply Kd.R_alloc | apply Kd.R_drewN | apply Kd.R_drew)); exact HO157.out) hb); have n3_ := Aside0.mk (blk_below (g := gb150) (o := .cells #[.int .i64 ((rd_T46 l0 x15_1).f0), .int .i64 ((rd_T46 l0 x15_1).f1), .int .i64 ((rd_T46 l0 x15_1).f2), .int .i64 ((rd_T46 l0 x15_1).f3), .slice A149_4 ((rd_T46 l0 x15_1).f4).length c149_4] 46 (0, 0)) (by (with_reducible repeat (first | refine blk_drewN ?_ _ | refine blk_drew ?_ | refine blk_alloc ?_ _)); exact BK150.out) hb); have n4_ := Aside0.mk (below_step (by repeat (first | (with_reducible first | exact HB.out | apply below_alloc | apply pw_below_drewN | apply below_drew1 | refine below_set ?_ GE150.out) | exact HB.out)) hb); clear HO_4; clear HO153; clear HO157; clear BK150; clear HB; have HO_4 := n0_; have HO153 := n1_; have HO157 := n2_; have BK150 := n3_; have HB := n4_; clear n0_ n1_ n2_ n3_ n4_; (try clear hb); (try clear hb2); (try clear hk); (try clear hi)))
       go_ret2
       exact ⟨_, by first | rfl | (simp [errW_none, errW_some] <;> rfl) | (simp [*, errW_none, errW_some] <;> rfl), by first | exact Kd.R_nil _ _ _ _ _ | exact Kd.N_nil _ _ _ _ _ | exact Kd.V_nil _ _ _ _ _ | exact Kd.Q_nil _ _ _ _ _ | exact Kd.S_nil _ _ _ _ _, by repeat (first | (with_reducible first | exact HB.out | apply below_alloc | apply pw_below_drewN | apply below_drew1 | refine below_set ?_ GE150.out) | exact HB.out)⟩
     ·rw [if_neg c6] at H
      exact absurd H (by simp)
    ·rw [if_neg c5] at H
     exact absurd H (by simp)
   ·rw [if_neg c4] at H
    have c4b0 : decide (x15_1 < (l0.length : Int)) = false := decide_eq_false c4
    clear c4
    by_cases c41 : (l0.length : Int) > 64
    ·rw [if_pos c41] at H
     have c41b0 : decide (64 < (l0.length : Int)) = true := decide_eq_true c41
     have c41b1 : decide (64 < l0.length) = true := decide_eq_true (by omega)
     clear c41
     simp only [Option.some.injEq, Prod.mk.injEq] at H
     obtain ⟨rfl, rfl⟩ := H
     go_wp2
     go_ret2
     exact ⟨_, by first | rfl | (simp [errW_none, errW_some] <;> rfl) | (simp [*, errW_none, errW_some] <;> rfl), by first | exact Kd.R_nil _ _ _ _ _ | exact Kd.N_nil _ _ _ _ _ | exact Kd.V_nil _ _ _ _ _ | exact Kd.Q_nil _ _ _ _ _ | exact Kd.S_nil _ _ _ _ _, by repeat (first | (with_reducible first | exact HB.out | apply below_alloc | apply pw_below_drewN | apply below_drew1) | exact HB.out)⟩
    ·rw [if_neg c41] at H
     have c41b0 : decide (64 < (l0.length : Int)) = false := decide_eq_false c41
     have c41b1 : decide (64 < l0.length) = false := decide_eq_false (by omega)
     clear c41
     simp only [Option.some.injEq, Prod.mk.injEq] at H
     obtain ⟨rfl, rfl⟩ := H
     go_wp2
     go_ret2
     exact ⟨_, by first | rfl | (simp [errW_none, errW_some] <;> rfl) | (simp [*, errW_none, errW_some] <;> rfl), by (with_reducible repeat (first | apply Kd.R_alloc | apply Kd.R_drewN | apply Kd.R_drew)); exact HO_4.out, by repeat (first | (with_reducible first | exact HB.out | apply below_alloc | apply pw_below_drewN | apply below_drew1) | exact HB.out)⟩
def extent_Write.f (l0 : List S46) : Option (List Int × Int) := if l0.length < 1073741824 then some (Pl.ewriteS (l0.map toE)) else none
theorem extent_Write.pack (a n k g : Int) : ∃ r e, le_Pack.f (⟨#[98, 98, 98, 119]⟩ : ByteArray) [IntKind.u64.wrap a, IntKind.u64.wrap n, IntKind.u64.wrap k, IntKind.u64.wrap g] = some (r, e) ∧ ∀ d, Pl.extOk a n k g d = true → r = Pl.extHead a n k g ∧ e = 0 := by
 unfold le_Pack.f
 rw [if_pos ⟨Pl.u64B_iff.2 (by
  intro x hx
  simp only [List.mem_cons, List.not_mem_nil, or_false] at hx
  rcases hx with rfl | rfl | rfl | rfl <;> rw [IntKind.wrap_u64] <;> omega), by decide⟩, show Pl.fb (⟨#[98, 98, 98, 119]⟩ : ByteArray) = Pl.extForm from by kernel_rfl]
 refine ⟨(Pl.packS Pl.extForm [IntKind.u64.wrap a, IntKind.u64.wrap n, IntKind.u64.wrap k, IntKind.u64.wrap g]).1, (Pl.packS Pl.extForm [IntKind.u64.wrap a, IntKind.u64.wrap n, IntKind.u64.wrap k, IntKind.u64.wrap g]).2, rfl, fun d h => ?_⟩
 obtain ⟨p0, p1, p2, p3, q0, q1, q2, q3⟩ := Pl.ext_lt h
 rw [show IntKind.u64.wrap a = a by rw [IntKind.wrap_u64]; omega, show IntKind.u64.wrap n = n by rw [IntKind.wrap_u64]; omega, show IntKind.u64.wrap k = k by rw [IntKind.wrap_u64]; omega, show IntKind.u64.wrap g = g by rw [IntKind.wrap_u64]; omega, Pl.packS_some (Pl.packP_ext p0 p1 p2 p3)]
 exact ⟨rfl, rfl⟩
theorem extent_Write.loop {l0 : List S46} (h2 : l0.length < 1073741824) : ∀ (d k i : Nat) (out : List Int), l0.length - i = d → i ≤ l0.length → d < k → out.length ≤ 1 + 2055 * i → extent_Write_p.l0 k l0 out l0 (l0.length : Int) (i : Int) = some (if ((l0.drop i).map toE).all Pl.eOk = true then (if l0.length > 64 then ([], 70) else (out ++ Pl.extsB ((l0.drop i).map toE), 0)) else ([], 70))
 | 0, k, i, out, hd, hi, hk, ho => by
  obtain ⟨k, rfl⟩ : ∃ m, k = m + 1 := ⟨k - 1, by omega⟩
  rw [extent_Write_p.l0, if_neg (by omega), List.drop_of_length_le (by omega), List.map_nil, Pl.extsB, List.append_nil, if_pos (show List.all [] Pl.eOk = true from rfl)]
  by_cases h : l0.length > 64
  ·rw [if_pos (by omega), if_pos h]
  ·rw [if_neg (by omega), if_neg h]
 | d + 1, k, i, out, hd, hi, hk, ho => by
  obtain ⟨k, rfl⟩ : ∃ m, k = m + 1 := ⟨k - 1, by omega⟩
  have hi0 : i < l0.length := by omega
  obtain ⟨r, e, hp, hre⟩ := extent_Write.pack l0[i].f0 l0[i].f1 l0[i].f2 l0[i].f3
  rw [extent_Write_p.l0, if_pos (by omega), if_pos (by omega), if_pos (by omega), rd_getE l0 i hi0, hp, Option.bind_some, extent_Check.tells, Option.bind_some, List.drop_eq_getElem_cons hi0, List.map_cons, List.all_cons]
  by_cases hok : Pl.extOk l0[i].f0 l0[i].f1 l0[i].f2 l0[i].f3 l0[i].f4 = true
  ·obtain ⟨rfl, rfl⟩ := hre _ hok
   have hl := Pl.extOk_len hok
   rw [if_pos hok, if_pos rfl, if_pos (by rw [Pl.extHead_length]; omega), Option.bind_some, if_pos (by rw [List.length_append, Pl.extHead_length]; omega), show wrap64 ((i : Int) + 1) = ((i + 1 : Nat) : Int) by unfold wrap64; omega,
    extent_Write.loop h2 d k (i + 1) _ (by omega) (by omega) (by omega) (by rw [List.length_append, List.length_append, Pl.extHead_length]; omega), show Pl.eOk (toE l0[i]) = true from hok, Bool.true_and, Pl.extsB]
   rw [show Pl.extW (toE l0[i]) = Pl.extHead l0[i].f0 l0[i].f1 l0[i].f2 l0[i].f3 ++ l0[i].f4 from rfl, List.append_assoc, List.append_assoc, List.append_assoc]
  ·rw [if_neg hok, show Pl.eOk (toE l0[i]) = false from Bool.eq_false_iff.2 hok, Bool.false_and, if_neg (by decide)]
theorem extent_Write.closes {l0 : List S46} {r : List Int × Int} (h : extent_Write.f l0 = some r) : extent_Write_p.f (l0.length + 1) l0 = some r := by
 unfold extent_Write.f at h
 split at h
 case isFalse => cases h
 rename_i h2
 rw [← h]
 unfold extent_Write_p.f
 have := extent_Write.loop h2 l0.length (l0.length + 1) 0 [((l0.length : Int)) % 256] (by omega) (by omega) (by omega) (by simp)
 rw [List.drop_zero] at this
 rw [show (0 : Int) = ((0 : Nat) : Int) from rfl, this, Pl.ewriteS, Pl.eAll, List.length_map]
 by_cases ha : (l0.map toE).all Pl.eOk = true
 ·rw [if_pos ha, ha, Bool.and_true]
  by_cases h6 : l0.length > 64
  ·rw [if_pos h6, if_neg (by simp; omega)]
  ·rw [if_neg h6, if_pos (by simp; omega), Pl.extsW, List.length_map, show ((l0.length : Int)) % 256 = (l0.length : Int) by omega]
   rfl
 ·rw [if_neg ha, Bool.eq_false_iff.2 ha, Bool.and_false, if_neg (by decide)]
theorem extent_Write.calls (A0 : Option Addr) (c0 : Nat) (l0 : List (S46)) (r1 : List Int) (r2 : Int) (w : World) (hr0 : Kd.C k46 w A0 l0.length l0) (hc0 : l0.length ≤ c0) (h : extent_Write.f l0 = some (r1, r2)) :
  Calls Try.prog 45 #[.slice A0 l0.length c0] w fun e w' => ∃ v0_ : Value, e = .returned (.tuple #[v0_, .int .i64 r2]) ∧ Kd.R (Kd.int .u8) 5 w' w.heap.size (fun _ => True) v0_ r1 ∧ Below w.heap.size w w' :=
 extent_Write_p.calls (l0.length + 1) A0 c0 l0 r1 r2 w hr0 hc0 (extent_Write.closes h)
end Go.Proofs.Ytcemlfkboifncaa.PP
