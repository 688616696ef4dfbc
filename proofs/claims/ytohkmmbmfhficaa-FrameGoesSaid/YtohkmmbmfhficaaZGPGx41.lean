/- Words and walks that this claim names, of those that the kit's print and programs of this workplace have printed. -/
import Derived.Test.YtohkmmbmfhficaaZGPGx11
import Derived.Test.YtohkmmbmfhficaaZGPGx22
import Derived.Test.YtohkmmbmfhficaaZGPGx38
import Derived.Test.YtohkmmbmfhficaaZGPGx26
namespace Go.Proofs.Ytohkmmbmfhficaa.PG
open Go.RowKit Go.Proofs.YtohkmmbmfhficaaW.PrintWords Go.Proofs.YtohkmmbmfhficaaW.PrintLast Go.Proofs.YtohkmmbmfhficaaW.PrintMore
attribute [local go_sem] max2_int min2_int max_two min_two max_three min_three max_four min_four
set_option linter.unusedVariables false
set_option linter.unusedSimpArgs false
def le_Unpack.f (a0 : ByteArray) (l1 : List Int) : Option (List Int × Int) := if Pl.byteB l1 = true ∧ l1.length < 70368744177664 ∧ a0.size < 2147483648 then some (Pl.unpackS (Pl.fb a0) l1) else none
theorem le_Unpack.R_iter {α : Type} {d : Kd α} {e base : Nat} {ok : Nat → Prop} {v : Value} {xs : List α} {w : World} {B : Nat} (h : d.R e w base ok v xs) (hB : B < base) (s : ByteArray) (p : Nat) : d.R e (w.iterAt B s p) base ok v xs :=
 Kd.R_mono (Kd.R_move (Kd.R_bound h) (fun k hk => Lib.iterAt_other w B k s p (by have := hk.2.1; omega))) (fun _ hk => hk.1)
theorem le_Unpack.drop {b : List Int} (h : Pl.byteB b = true) (n : Nat) : Pl.byteB (b.drop n) = true := by
 rw [Pl.byteB_iff] at h ⊢
 exact fun x hx => h x (List.mem_of_mem_drop hx)
theorem le_Unpack.rune (s : ByteArray) (i : Nat) (h : i < s.size) : Pl.letS ((Utf8.decode s i).1 : Int) = Pl.letS ((Pl.fb s)[i]'(by rw [Pl.fb_length]; exact h)) ∧ (Pl.letS ((Pl.fb s)[i]'(by rw [Pl.fb_length]; exact h)) ≠ 0 → (Utf8.decode s i).2 = 1) := by
 have e : (Pl.fb s)[i]'(by rw [Pl.fb_length]; exact h) = (((s[i]'h).toNat : Nat) : Int) := by
  simp only [Pl.fb, List.getElem_map]
  rfl
 rw [e]
 by_cases ha : (s[i]'h).toNat < 128
 ·rw [decode_ascii s i h ha]
  exact ⟨rfl, fun _ => rfl⟩
 ·have hd := decode_high s i h (by omega)
  have z : ∀ c : Nat, 128 ≤ c → Pl.letS (c : Int) = 0 := fun c hc => by
   unfold Pl.letS
   rw [if_neg (by omega), if_neg (by omega), if_neg (by omega), if_neg (by omega)]
  rw [z _ hd.1, z _ (by omega)]
  exact ⟨rfl, fun h => absurd rfl h⟩
set_option maxHeartbeats 8000000 in
set_option maxRecDepth 2000000 in
theorem le_Unpack.callsV (a0 : ByteArray) (P1_ : Nat → Prop) (A1 : Option Addr) (c1 : Nat) (l1 : List Int) (r1 : List Int) (r2 : Int) (w : World) (hs1 : Kd.V (Kd.int .u8) 5 w w.heap.size (fun k_ => P1_ k_) (.slice A1 l1.length c1) l1) (h : le_Unpack.f a0 l1 = some (r1, r2)) :
  Calls Try.prog 44 #[.string a0, .slice A1 l1.length c1] w fun e w' => ∃ v0_ : Value, e = .returned (.tuple #[v0_, .int .i64 r2]) ∧ Kd.R (Kd.int .u64) 68 w' w.heap.size (fun k_ => (w.heap.size ≤ k_)) v0_ r1 ∧ Below w.heap.size w w' := by
 unfold le_Unpack.f at h
 split at h
 case isFalse => cases h
 rename_i hh
 obtain ⟨hb, hbl, hsz⟩ := hh
 have HP0 := Aside0.mk (Option.some.inj h)
 have HBY := Aside0.mk hb
 have HBL := Aside0.mk hbl
 clear h hb hbl
 obtain ⟨B, hB⟩ : ∃ B, B = w.heap.size := ⟨_, rfl⟩
 have HBN := Aside0.mk hB
 clear hB
 have HV0 : Aside0 (Kd.V (Kd.int .u8) 5 (w.iter a0 0) 0 (fun k => k ≠ B) (.slice A1 l1.length c1) l1) := ⟨Kd.V_mono (Kd.V_alloc (Kd.V_bound (Kd.V_lower (base' := 0) hs1 (Nat.zero_le _))) _) (fun k hk => by have := hk.2; rw [HBN.out]; omega)⟩
 have hk0 : Aside0 ((w.iter a0 0).heap[B]? = some (.stringIter a0 0)) := ⟨by rw [HBN.out]; exact World.iter_heap w a0 0⟩
 have hb0 : Aside0 (Below w.heap.size w (w.iter a0 0)) := ⟨(Below.refl _ w).alloc (Nat.le_refl _) _⟩
 have hs0 : Aside0 (B + 1 ≤ (w.iter a0 0).heap.size) := ⟨by rw [HBN.out]; simp [World.iter]⟩
 clear hs1
 go_enter Try.func44, Try.ntmps44
 go_wp2
 rw [← HBN.out]
 generalize w.iter a0 0 = w0 at hk0 hb0 hs0 HV0 ⊢
 go_loopw [1, 4] (fun v u wr => ∃ (i : Nat) (out b : List Int), i ≤ a0.size ∧ Aside0 (out.length ≤ i) ∧ Aside0 (Pl.byteB b = true) ∧ Aside0 (b.length < 70368744177664) ∧ Aside0 (wr.heap[B]? = some (.stringIter a0 i)) ∧ Aside0 (Kd.V (Kd.int .u8) 5 wr 0 (fun k => k ≠ B) v b) ∧ Aside0 (Kd.R (Kd.int .u64) 68 wr (B + 1) (fun k => B + 1 ≤ k) u out) ∧ Aside0 (Pl.unpackGo out ((Pl.fb a0).drop i) b = (r1, r2)) ∧ Aside0 (B + 1 ≤ wr.heap.size) ∧ Aside0 (Below w.heap.size w wr)) (fun _ _ wr => a0.size - wr.iterPos B)
 case atStart => exact ⟨0, [], l1, by omega, ⟨Nat.le_refl _⟩, HBY, HBL, hk0, HV0, ⟨Kd.R_nil _ _ _ _ _⟩, HP0, hs0, hb0⟩
 case round =>
  clear hk0 hb0 hs0 HP0 HV0 HBY HBL
  obtain ⟨i, out, b, hi, HOL, HBY, HBL, hk, HV, HO, HP, HS, HB⟩ := hrel
  obtain ⟨Ab, cb, rfl⟩ := Kd.V_slice HV.out
  by_cases hp : i < a0.size
  ·obtain ⟨rs, rn⟩ := le_Unpack.rune a0 i hp
   have hif : i < (Pl.fb a0).length := by rw [Pl.fb_length]; exact hp
   have hle := decode_le a0 i
   obtain ⟨z, hz⟩ : ∃ z, z = Pl.letS ((Pl.fb a0)[i]'hif) := ⟨_, rfl⟩
   rw [← hz] at rs rn
   have HZ := Aside0.mk hz
   have hnext : ∀ ty, (Instr.next (.pointer (some ⟨B, 0, none⟩)) true ty).run Try.prog wr = _ := fun ty => Lib.run_next_any_at wr B a0 i ty hk.out hp
   obtain ⟨q, hq⟩ : ∃ q, q = i + (Utf8.decode a0 i).2 := ⟨_, rfl⟩
   rw [← hq] at hnext
   have HRN : Aside0 (z ≠ 0 → q = i + 1) := ⟨fun h => by rw [hq, rn h]⟩
   obtain ⟨c, hc⟩ : ∃ c, c = (Utf8.decode a0 i).1 := ⟨_, rfl⟩
   rw [← hc] at hnext rs hle
   have HRS : Aside0 (le_size.f (c : Int) = some z) := ⟨by unfold le_size.f; rw [if_pos ⟨by omega, by omega⟩, rs]⟩
   have hmu : Aside0 (wr.iterPos B = i) := ⟨by simp [World.iterPos, hk.out]⟩
   clear hq hc rs rn hle hz
   have hk1 := Aside0.mk (Lib.iterAt_heap wr B a0 i q hk.out)
   have hn1 := Aside0.mk (Lib.below_iterAt (k := B) HB.out (by rw [HBN.out]; exact Nat.le_refl _) a0 q)
   have HO1 := Aside0.mk (le_Unpack.R_iter HO.out (Nat.lt_succ_self B) a0 q)
   have HV1 := Aside0.mk (Kd.V_step (w1 := wr.iterAt B a0 q) HV.out (fun k hk _ => Lib.iterAt_other wr B k a0 q hk))
   have hs1 : Aside0 (B + 1 ≤ (wr.iterAt B a0 q).heap.size) := ⟨by rw [Lib.iterAt_size]; exact HS.out⟩
   clear hk HO HS HB HV
   generalize wr.iterAt B a0 q = W1 at hnext hk1 hn1 HO1 HV1 hs1
   obtain ⟨x, rest, E, HTK⟩ : ∃ x rest E, Aside0 (Pl.takeS b z = (x, rest, E)) := ⟨_, _, _, ⟨rfl⟩⟩
   have HTake : Aside0 (le_Take.f b z = some (x, rest, E)) := ⟨by unfold le_Take.f; rw [if_pos ⟨HBY.out, HBL.out⟩, HTK.out]⟩
   by_cases hf : Pl.okS z = true ∧ z ≤ b.length
   ·have e := HTK.out
    unfold Pl.takeS at e
    rw [if_pos hf] at e
    injection e with e1 e2
    injection e2 with e2 e3
    have HX := Aside0.mk e1
    have HRE := Aside0.mk e2
    subst e3
    clear e1 e2
    have LM := Aside0.mk (show out.length < 17592186044416 from by have := HOL.out; omega)
    go_wp2_with (first | (go_at_call 67; refine (le_size.calls _ _ _ HRS.out).mono ?_; rintro e w2 ⟨rfl, hb2⟩; have HV2 := Aside0.mk (Kd.V_below HV1.out hb2); have HO2 := Aside0.mk (Kd.R_below HO1.out hb2); have hn2 := Aside0.mk (below_step hn1.out hb2); have hs2 := Aside0.mk (Nat.le_trans hs1.out hb2.size); have hk2 := Aside0.mk ((hb2.block B (by have := hs1.out; omega)).trans hk1.out); clear hb2) | (go_at_call 70; refine (le_Take.calls _ _ b z x rest 0 _ (Kd.V_reads' HV2.out).2.2 (Kd.V_reads' HV2.out).2.1 HTake.out).mono ?_; rintro e w3 ⟨vr, rfl, ho, hb3⟩; have HR3 := Aside0.mk (Kd.R_lower ho hs2.out); have HO3 := Aside0.mk (Kd.R_below HO2.out hb3); have hn3 := Aside0.mk (below_step hn2.out hb3); have hs3 := Aside0.mk (Nat.le_trans hs2.out hb3.size); have hk3 := Aside0.mk ((hb3.block B (by have := hs2.out; omega)).trans hk2.out); clear hb3 ho) | ((with_reducible refine gate_builtin (b := .append) (xs := #[.tmp 25, .tmp 27]) rfl ?_); at_builtin; refine Kd.R_append (Kd.int .u64) (w0 := w3) (B + 1) rfl (.tmp 25) (.tmp 27) 72 68 (.int .u64 0) 8 rfl Try.underlying72 info68 rfl (by decide) (by omega) u4 out x [.int .u64 x] (fun k_ => B + 1 ≤ k_) (fun _ => False) rfl rfl ?aP (fun _ hk => hk.elim) ?aF ?aO ?aB ?aS ?aL ?_; (case aP => exact rfl); (case aB => exact Below.refl _ _); (case aF => exact (fun k_ hk => Nat.le_trans hs3.out hk)); (case aO => exact HO3.out); (case aS => exact hs3.out); (case aL => have := LM.out; omega); intro v9 w4 ho hb4 hg hat; have HO4 := Aside0.mk ho; have HR4 := Aside0.mk (Kd.R_over' HR3.out (Kd.R_typed HO3.out) (by decide) hg); have hb4' := Aside0.mk hb4; clear ho hb4 hg hat))
    have h8 : z ≤ 8 ∧ 0 ≤ z ∧ z ≠ 0 := by have := hf.1; rw [Pl.okS_iff] at this; omega
    have hk4 : Aside0 (w4.heap[B]? = some (.stringIter a0 (i + 1))) := ⟨by rw [hb4'.out.block B (Nat.lt_succ_self B), hk3.out, HRN.out h8.2.2]⟩
    have hm4 : Aside0 (w4.iterPos B = i + 1) := ⟨by simp [World.iterPos, hk4.out]⟩
    go_roundw
    case rel =>
     refine ⟨i + 1, out ++ [x], rest, by omega, ⟨?_⟩, ⟨?_⟩, ⟨?_⟩, ⟨?_⟩, ⟨?_⟩, HO4, ⟨?_⟩, ⟨?_⟩, ⟨?_⟩⟩
     ·rw [List.length_append, List.length_singleton]; have := HOL.out; omega
     ·rw [← HRE.out]; exact le_Unpack.drop HBY.out _
     ·rw [← HRE.out, List.length_drop]; have := HBL.out; omega
     ·exact hk4.out
     ·exact Kd.V_mono (Kd.R_V (Kd.R_bound HR4.out)) (fun k hk => by have := hk.2.1; omega)
     ·have e := HP.out
      rw [List.drop_eq_getElem_cons hif, Pl.unpackGo, ← HZ.out, if_pos hf, HX.out, HRE.out] at e
      exact e
     ·exact Nat.le_trans hs3.out hb4'.out.size
     ·exact hn3.out.trans (hb4'.out.mono (by have := HBN.out; omega))
    case measure => rw [hmu.out, hm4.out]; omega
   ·have e := HTK.out
    unfold Pl.takeS at e
    rw [if_neg hf] at e
    injection e with e1 e2
    injection e2 with e2 e3
    subst e1 e2 e3
    go_wp2_with (first | (go_at_call 67; refine (le_size.calls _ _ _ HRS.out).mono ?_; rintro e w2 ⟨rfl, hb2⟩; have HV2 := Aside0.mk (Kd.V_below HV1.out hb2); have hn2 := Aside0.mk (below_step hn1.out hb2); clear hb2) | (go_at_call 70; refine (le_Take.calls _ _ b z 0 [] 10 _ (Kd.V_reads' HV2.out).2.2 (Kd.V_reads' HV2.out).2.1 HTake.out).mono ?_; rintro e w3 ⟨vr, rfl, ho, hb3⟩; have hn3 := Aside0.mk (below_step hn2.out hb3); clear hb3 ho))
    go_ret2
    have e := HP.out
    rw [List.drop_eq_getElem_cons hif, Pl.unpackGo, ← HZ.out, if_neg hf] at e
    injection e with e1 e2
    subst e1 e2
    exact ⟨_, rfl, Kd.R_nil _ _ _ _ _, hn3.out⟩
  ·have hnext : ∀ ty, (Instr.next (.pointer (some ⟨B, 0, none⟩)) true ty).run Try.prog wr = _ := fun ty => Lib.run_next_end_at wr B a0 i ty hk.out hp
   have e := HP.out
   rw [List.drop_eq_nil_of_le (by rw [Pl.fb_length]; omega), Pl.unpackGo] at e
   by_cases hl : 0 < b.length
   ·have d0 : decide ((0 : Int) < (b.length : Int)) = true := decide_eq_true (by omega)
    have d1 : decide (0 < b.length) = true := decide_eq_true hl
    rw [if_neg (by intro h0; rw [h0] at hl; exact absurd hl (by decide))] at e
    injection e with e1 e2
    subst e1 e2
    go_wp2
    go_ret2
    exact ⟨_, rfl, Kd.R_nil _ _ _ _ _, HB.out⟩
   ·have d0 : decide ((0 : Int) < (b.length : Int)) = false := decide_eq_false (by omega)
    have d1 : decide (0 < b.length) = false := decide_eq_false hl
    rw [if_pos (List.length_eq_zero_iff.1 (by omega))] at e
    injection e with e1 e2
    subst e1 e2
    go_wp2
    go_ret2
    exact ⟨_, rfl, Kd.R_mono (Kd.R_lower HO.out (by rw [HBN.out]; omega)) (fun k hk => by rw [← HBN.out]; omega), HB.out⟩
theorem le_Unpack.calls (a0 : ByteArray) (A1 : Option Addr) (c1 : Nat) (l1 : List Int) (r1 : List Int) (r2 : Int) (w : World) (hr1 : Kd.C (Kd.int .u8) w A1 l1.length l1) (hc1 : l1.length ≤ c1) (h : le_Unpack.f a0 l1 = some (r1, r2)) :
  Calls Try.prog 44 #[.string a0, .slice A1 l1.length c1] w fun e w' => ∃ v0_ : Value, e = .returned (.tuple #[v0_, .int .i64 r2]) ∧ Kd.R (Kd.int .u64) 68 w' w.heap.size (fun _ => True) v0_ r1 ∧ Below w.heap.size w w' :=
 (le_Unpack.callsV a0 _ A1 c1 l1 r1 r2 w (Kx.V_of_C _ _ hc1 hr1) h).mono fun e w' h => by
  obtain ⟨v, he, hr, hb⟩ := h
  exact ⟨v, he, Kd.R_mono hr (fun _ _ => trivial), hb⟩
def crc_Open.f (l0 : List Int) : Option (List Int × Int) := if Pl.byteB l0 = true ∧ l0.length < 70368744177664 then some (Pl.openS l0) else none
set_option maxHeartbeats 2000000 in
theorem crc_Open.calls (A0 : Option Addr) (c0 : Nat) (l0 : List Int) (r1 : List Int) (r2 : Int) (w : World) (hr0 : Kd.C (Kd.int .u8) w A0 l0.length l0) (hc0 : l0.length ≤ c0) (h : crc_Open.f l0 = some (r1, r2)) :
  Calls Try.prog 45 #[.slice A0 l0.length c0] w fun e w' => ∃ v0_ : Value, e = .returned (.tuple #[v0_, .int .i64 r2]) ∧ Kd.R (Kd.int .u8) 5 w' w.heap.size (fun _ => True) v0_ r1 ∧ Below w.heap.size w w' := by
 unfold crc_Open.f at h
 split at h
 case isFalse => cases h
 rename_i hh
 obtain ⟨hby, hlen⟩ := hh
 replace h := Option.some.inj h
 have HR0 := Aside0.mk hr0
 have HC0 := Aside0.mk hc0
 have HBY := Aside0.mk hby
 clear hr0 hc0 hby
 by_cases hlt : l0.length < 4
 ·have ho : Pl.openB l0 = false := by unfold Pl.openB; rw [decide_eq_false (by omega)]; rfl
  rw [Pl.openS, if_neg (by rw [ho]; decide)] at h
  obtain ⟨rfl, rfl⟩ := Prod.mk.inj h
  clear h ho
  have d1 : decide ((l0.length : Int) - 4 < 0) = true := decide_eq_true (by omega)
  go_enter Try.func45, Try.ntmps45
  go_wp2
  go_ret2
  exact ⟨_, rfl, Kd.R_nil _ _ _ _ _, Below.refl _ _⟩
 ·obtain ⟨i0, hi, hz0, hz1, hz2⟩ := info_parts info5
  obtain ⟨m, hm⟩ : ∃ m, m = l0.length - 4 := ⟨_, rfl⟩
  obtain ⟨hcut, -, hC⟩ := print_take_of (P := Try.prog) (Value.int .u8) 0 27 5 .i64 Try.underlying27 hi hz1 A0 c0 l0 ((l0.length : Int) - 4) (by omega) (by omega) HC0.out
  have e4 : ((l0.length : Int) - 4).toNat = m := by omega
  have hml : (l0.take m).length = m := by rw [List.length_take]; omega
  rw [e4, hml] at hcut hC
  have HT : Aside0 (Kd.C (Kd.int .u8) w A0 m (l0.take m)) := ⟨by have := Kx.takeC m (by omega) HR0.out; rw [hml] at this; exact this⟩
  have hbt : Pl.byteB (l0.take m) = true := Pl.byteB_iff.2 fun x hx => Pl.byteB_iff.1 HBY.out x (List.mem_of_mem_take hx)
  have hS := fun (w : World) (hr : Kd.C (Kd.int .u8) w A0 (l0.take m).length (l0.take m)) => crc_Seal.calls A0 c0 (l0.take m) _ w hr (by omega) (by unfold crc_Seal.f; rw [if_pos ⟨hbt, by omega⟩])
  rw [hml] at hS
  have HS := Aside0.mk hS
  clear hS
  have hq : Pl.openB l0 = (Pl.seal4 (l0.take m) == l0) := by unfold Pl.openB; rw [decide_eq_true (by omega), ← hm]; rfl
  have HQ := Aside0.mk hq
  have hE := fun (A1 : Option Addr) (c1 : Nat) (w : World) (hr : Kd.C (Kd.int .u8) w A1 (Pl.seal4 (l0.take m)).length (Pl.seal4 (l0.take m))) (hc : (Pl.seal4 (l0.take m)).length ≤ c1) (hr' : Kd.C (Kd.int .u8) w A0 l0.length l0) => bytes_Equal.calls A1 c1 (Pl.seal4 (l0.take m)) A0 c0 l0 (Pl.openB l0) w hr hc hr' HC0.out (by unfold bytes_Equal.f; rw [if_pos ⟨Pl.seal4_byte hbt, HBY.out⟩, hq])
  have HE := Aside0.mk hE
  clear hE hq hbt
  obtain ⟨q, hqq⟩ : ∃ q, q = Pl.seal4 (l0.take m) := ⟨_, rfl⟩
  rw [← hqq] at HS HE HQ
  clear hqq
  have d1 : decide ((l0.length : Int) - 4 < 0) = false := decide_eq_false (by omega)
  obtain ⟨b, hb⟩ : ∃ b, b = Pl.openB l0 := ⟨_, rfl⟩
  rw [← hb] at HE HQ
  unfold Pl.openS at h
  rw [← hb, ← hm] at h
  clear hb
  have HM := Aside0.mk hm
  clear hm HQ
  cases b with
  | true =>
   obtain ⟨rfl, rfl⟩ := Prod.mk.inj h
   clear h
   go_enter Try.func45, Try.ntmps45
   go_wp2_with fail
   refine (HS.out _ HT.out).mono ?_
   rintro e w1 ⟨v1, rfl, ho1, hb1⟩
   obtain ⟨A1, c1, rfl, hc1, hr1⟩ := Kd.R_reads ho1
   have HB1 := Aside0.mk hb1
   have HC1 := Aside0.mk hc1
   have HR1 := Aside0.mk hr1
   have hsz : w.heap.size ≤ w1.heap.size := hb1.size
   clear ho1 hb1 hr1 hc1
   go_wp2_with fail
   refine (HE.out _ _ _ HR1.out HC1.out (Kd.C_below HR0.out HB1.out)).mono ?_
   rintro e w' ⟨rfl, ⟨nd, rfl⟩⟩
   have HB := Aside0.mk (pw_below_drewN HB1.out nd)
   clear HB1
   go_wp2_with (first | ((with_reducible refine gate_dst (N := 19) rfl ?_); refine Kd.R_lit (Kd.int .u8) _ 5 ?hg (N := 19) ?hd (xs := ([] : List Int)) (inner := []) (ok := fun _ => True) (okp := fun _ => True) ?hr ?hp (fun _ hk => hk) trivial (Below.refl _ _) (Nat.le_refl _) (by simp) ?_; (case hd => rfl); (case hg => rfl); (case hr => first | (go_simp; done) | (go_simp; rfl)); (case hp => exact (Reps.none _ _)); intro v110 w13 ho14 hb hg_ hnew_; clear hg_ hnew_; have n0_ := Aside0.mk (Kd.R_lower ho14 (below_size HB.out)); have n1_ := Aside0.mk (below_step HB.out hb); clear HB; have HO111 := n0_; have HB := n1_; clear n0_ n1_; clear hb ho14) | ((with_reducible refine gate_builtin (b := .append) (xs := #[.tmp 19, .tmp 22]) rfl ?_); at_builtin; go_must (refine Kd.R_append_rows (Kd.int .u8) (w0 := w) w.heap.size rfl (.tmp 19) (.tmp 22) 27 5 (.int .u8 0) 1 rfl Try.underlying27 info5 rfl (by decide) (by omega) v110 [] (l0.take m) _ m _ (fun _ => True) (fun _ => False) rfl rfl ?aO ?aR (fun _ _ h => h) (fun _ h => h.elim) ?aF ?aB ?aS ?aL ?_); (case aR => exact (Kd.C_below HT.out HB.out)); (case aB => exact HB.out); (case aF => exact (fun _ _ => trivial)); (case aO => exact HO111.out); (case aS => exact below_size HB.out); (case aL => have := HM.out; simp; omega); intro v113 w15 ho hb hg hat; have n0_ := Aside0.mk (hb); have n1_ := Aside0.mk (ho); clear HB; clear HO111; have HB := n0_; have HO114 := n1_; clear n0_ n1_; clear ho hb hg hat))
   go_ret2
   exact ⟨_, rfl, HO114.out, HB.out⟩
  | false =>
   obtain ⟨rfl, rfl⟩ := Prod.mk.inj h
   clear h
   go_enter Try.func45, Try.ntmps45
   go_wp2_with fail
   refine (HS.out _ HT.out).mono ?_
   rintro e w1 ⟨v1, rfl, ho1, hb1⟩
   obtain ⟨A1, c1, rfl, hc1, hr1⟩ := Kd.R_reads ho1
   have HB1 := Aside0.mk hb1
   have HC1 := Aside0.mk hc1
   have HR1 := Aside0.mk hr1
   clear ho1 hb1 hr1 hc1
   go_wp2_with fail
   refine (HE.out _ _ _ HR1.out HC1.out (Kd.C_below HR0.out HB1.out)).mono ?_
   rintro e w' ⟨rfl, ⟨nd, rfl⟩⟩
   go_wp2
   go_ret2
   exact ⟨_, rfl, Kd.R_nil _ _ _ _ _, pw_below_drewN HB1.out nd⟩
def bodyV (k a n : Int) (v : Value) (A B C : Int) : Value :=
 if k = 1 then .iface 93 (.agg #[.int .i64 A, .int .i64 B, .int .i64 C])
 else if k = 2 ∨ k = 3 ∨ k = 4 then .iface 95 (.agg #[.int .i64 k, .int .i64 a, .int .i64 n, v])
 else if k = 5 then .iface 97 (.agg #[.int .i64 A, .int .i64 B])
 else .nilIface
theorem bodyV_blocks {k : Int} (h : k = 2 ∨ k = 3 ∨ k = 4) (a n : Int) (v : Value) (A B C : Int) : bodyV k a n v A B C = .iface 95 (.agg #[.int .i64 k, .int .i64 a, .int .i64 n, v]) := by unfold bodyV; rw [if_neg (by omega), if_pos h]
theorem frame_Rd.byte {t : List Int} (hb : Pl.byteB t = true) (i : Nat) (h : i < t.length) : 0 ≤ rd t (i : Int) ∧ rd t (i : Int) < 256 := by
 have := Pl.byteB_iff.1 hb t[i] (List.getElem_mem h)
 simpa [rd, h] using this
set_option maxRecDepth 100000 in
set_option maxHeartbeats 2000000 in
theorem frame_Rd.head (A1 : Option Addr) (c1 : Nat) (t : List Int) (n0 n1 n2 : Int) (w : World) (hr : Kd.C (Kd.int .u8) w A1 t.length t) (hc : t.length ≤ c1) (hu : le_Unpack.f (⟨#[98, 119, 119]⟩ : ByteArray) t = some ([n0, n1, n2], 0)) (en0 : wrap64 n0 = n0) (en1 : wrap64 n1 = n1) (en2 : wrap64 n2 = n2) : Calls Try.prog 46 #[.int .i64 1, .slice A1 t.length c1] w fun e w' => ∃ v3_ : Value, e = .returned (.iface 93 (.agg #[.int .i64 n0, .int .i64 n1, .int .i64 n2])) ∧ Kd.R (Kd.int .u8) 5 w' w.heap.size (fun _ => True) v3_ [] ∧ Below w.heap.size w w' := by
 have HR := Aside0.mk hr
 have HC := Aside0.mk hc
 have HB := Aside0.mk (Below.refl w.heap.size w)
 clear hr hc
 have HU := Aside0.mk hu
 have En0 := Aside0.mk en0
 have En1 := Aside0.mk en1
 have En2 := Aside0.mk en2
 clear hu en0 en1 en2
 have hu1 := Try.underlying93
 go_enter Try.func46, Try.ntmps46
 go_upto_region 5 with (go_at_call 44; refine (le_Unpack.calls (⟨#[98, 119, 119]⟩ : ByteArray) A1 c1 t [n0, n1, n2] 0 _ HR.out HC.out HU.out).mono ?_; rintro e w2 ⟨v, rfl, ho, hb⟩; have HO := Aside0.mk ho; have n_HB := Aside0.mk (below_step HB.out hb); clear HB ho hb; have HB := n_HB; clear n_HB; obtain ⟨Ao, co, rfl⟩ := Kd.R_slice HO.out)
 have hro := (Kd.R_reads' HO.out).2.2
 obtain ⟨ad, ea, hx0⟩ := Kd.at_int hro 0 (by decide) (by simp)
 cases ea
 obtain ⟨ad1, ea, hx1⟩ := Kd.at_int hro 1 (by decide) (by simp)
 obtain rfl : ad = ad1 := (by injection ea)
 clear ea
 obtain ⟨ad1, ea, hx2⟩ := Kd.at_int hro 2 (by decide) (by simp)
 obtain rfl : ad = ad1 := (by injection ea)
 clear ea
 simp only [show (0 : Int).toNat = 0 from rfl, Addr.add_zero', show rd ([n0, n1, n2] : List Int) 0 = n0 from rfl] at hx0
 simp only [show (1 : Int).toNat = 1 from rfl, Nat.reduceMul, Nat.reduceEqDiff, Go.Addr.add, ↓reduceIte, show rd ([n0, n1, n2] : List Int) 1 = n1 from rfl] at hx1
 simp only [show (2 : Int).toNat = 2 from rfl, Nat.reduceMul, Nat.reduceEqDiff, Go.Addr.add, ↓reduceIte, show rd ([n0, n1, n2] : List Int) 2 = n2 from rfl] at hx2
 clear hro
 have n_HB := Aside0.mk (below_drew HB.out)
 have n_HO := Aside0.mk (Kd.R_drew HO.out)
 clear HB HO
 have HB := n_HB
 have HO := n_HO
 clear n_HB n_HO
 refine start_ (n := 15) (S := fun w' => w'.cell? ad = some (.int .u64 n0) ∧ w'.cell? ⟨ad.block, ad.off + 1, none⟩ = some (.int .u64 n1) ∧ w'.cell? ⟨ad.block, ad.off + 2, none⟩ = some (.int .u64 n2)) (ds := []) #[false, false, false, false, false, false, false, false, false, false, false, false, false, false, false] (by kernel_rfl) rfl rfl ⟨hx0, hx1, hx2⟩ (fun hHeld => ?_)
 generalize w2.drew = wd at HB HO hHeld ⊢
 refine pure_ (i := 0) (N := some 19) (v := ?_) (a' := ?_) #[true, false, false, false, false, false, false, false, false, false, false, false, false, false, false] rfl rfl (by kernel_rfl) (fun _ _ _ h => h) (Or.inl ⟨by rfl, ?_⟩) ?_ ?_
 rotate_left
 ·intro w'
  go_simp
  with_reducible rfl
 rotate_left
 ·simp only [Act.put, Kx.sb, Kx.sz, Kx.ss, i64_w, i32_w]
  rfl
 refine pure_ (i := 1) (N := some 20) (v := ?_) (a' := ?_) #[true, true, false, false, false, false, false, false, false, false, false, false, false, false, false] rfl rfl (by kernel_rfl) (fun _ _ _ h => h) (Or.inl ⟨by rfl, ?_⟩) ?_ ?_
 rotate_left
 ·intro w'
  go_simp
  with_reducible rfl
 rotate_left
 ·simp only [Act.put, Kx.sb, Kx.sz, Kx.ss, i64_w, i32_w]
  rfl
 refine pure_ (i := 4) (N := some 23) (v := ?_) (a' := ?_) #[true, true, false, false, true, false, false, false, false, false, false, false, false, false, false] rfl rfl (by kernel_rfl) (fun _ _ _ h => h) (Or.inl ⟨by rfl, ?_⟩) ?_ ?_
 rotate_left
 ·intro w'
  go_simp
  with_reducible rfl
 rotate_left
 ·simp only [Act.put, Kx.sb, Kx.sz, Kx.ss, i64_w, i32_w]
  rfl
 refine pure_ (i := 5) (N := some 24) (v := ?_) (a' := ?_) #[true, true, false, false, true, true, false, false, false, false, false, false, false, false, false] rfl rfl (by kernel_rfl) (fun _ _ _ h => h) (Or.inl ⟨by rfl, ?_⟩) ?_ ?_
 rotate_left
 ·intro w'
  go_simp
  with_reducible rfl
 rotate_left
 ·simp only [Act.put, Kx.sb, Kx.sz, Kx.ss, i64_w, i32_w]
  rfl
 refine pure_ (i := 8) (N := some 27) (v := ?_) (a' := ?_) #[true, true, false, false, true, true, false, false, true, false, false, false, false, false, false] rfl rfl (by kernel_rfl) (fun _ _ _ h => h) (Or.inl ⟨by rfl, ?_⟩) ?_ ?_
 rotate_left
 ·intro w'
  go_simp
  with_reducible rfl
 rotate_left
 ·simp only [Act.put, Kx.sb, Kx.sz, Kx.ss, i64_w, i32_w]
  rfl
 refine pure_ (i := 9) (N := some 28) (v := ?_) (a' := ?_) #[true, true, false, false, true, true, false, false, true, true, false, false, false, false, false] rfl rfl (by kernel_rfl) (fun _ _ _ h => h) (Or.inl ⟨by rfl, ?_⟩) ?_ ?_
 rotate_left
 ·intro w'
  go_simp
  with_reducible rfl
 rotate_left
 ·simp only [Act.put, Kx.sb, Kx.sz, Kx.ss, i64_w, i32_w]
  rfl
 refine take_ (i := 2) (N := some 21) (v := ?_) (a' := ?_) #[true, true, true, false, true, true, false, false, true, true, false, false, false, false, false] rfl rfl (by kernel_rfl) (fun _ _ _ h => h) (Or.inl ⟨by rfl, ?_⟩) hHeld ?_ ?_
 rotate_left
 ·rintro w' ⟨s0, s1, s2⟩
  go_simp
  with_reducible rfl
 rotate_left
 ·simp only [Act.put, Kx.sb, Kx.sz, Kx.ss, i64_w, i32_w]
  rfl
 refine pure_ (i := 3) (N := some 22) (v := ?_) (a' := ?_) #[true, true, true, true, true, true, false, false, true, true, false, false, false, false, false] rfl rfl (by kernel_rfl) (fun _ _ _ h => h) (Or.inl ⟨by rfl, ?_⟩) ?_ ?_
 rotate_left
 ·intro w'
  go_simp
  with_reducible rfl
 rotate_left
 ·simp only [Act.put, Kx.sb, Kx.sz, Kx.ss, i64_w, i32_w]
  rfl
 refine take_ (i := 6) (N := some 25) (v := ?_) (a' := ?_) #[true, true, true, true, true, true, true, false, true, true, false, false, false, false, false] rfl rfl (by kernel_rfl) (fun _ _ _ h => h) (Or.inl ⟨by rfl, ?_⟩) hHeld ?_ ?_
 rotate_left
 ·rintro w' ⟨s0, s1, s2⟩
  go_simp
  with_reducible rfl
 rotate_left
 ·simp only [Act.put, Kx.sb, Kx.sz, Kx.ss, i64_w, i32_w]
  rfl
 refine pure_ (i := 7) (N := some 26) (v := ?_) (a' := ?_) #[true, true, true, true, true, true, true, true, true, true, false, false, false, false, false] rfl rfl (by kernel_rfl) (fun _ _ _ h => h) (Or.inl ⟨by rfl, ?_⟩) ?_ ?_
 rotate_left
 ·intro w'
  go_simp
  with_reducible rfl
 rotate_left
 ·simp only [Act.put, Kx.sb, Kx.sz, Kx.ss, i64_w, i32_w]
  rfl
 refine take_ (i := 10) (N := some 29) (v := ?_) (a' := ?_) #[true, true, true, true, true, true, true, true, true, true, true, false, false, false, false] rfl rfl (by kernel_rfl) (fun _ _ _ h => h) (Or.inl ⟨by rfl, ?_⟩) hHeld ?_ ?_
 rotate_left
 ·rintro w' ⟨s0, s1, s2⟩
  go_simp
  with_reducible rfl
 rotate_left
 ·simp only [Act.put, Kx.sb, Kx.sz, Kx.ss, i64_w, i32_w]
  rfl
 refine pure_ (i := 11) (N := some 30) (v := ?_) (a' := ?_) #[true, true, true, true, true, true, true, true, true, true, true, true, false, false, false] rfl rfl (by kernel_rfl) (fun _ _ _ h => h) (Or.inl ⟨by rfl, ?_⟩) ?_ ?_
 rotate_left
 ·intro w'
  go_simp
  with_reducible rfl
 rotate_left
 ·simp only [Act.put, Kx.sb, Kx.sz, Kx.ss, i64_w, i32_w]
  rfl
 refine pure_ (i := 12) (N := some 31) (v := ?_) (a' := ?_) #[true, true, true, true, true, true, true, true, true, true, true, true, true, false, false] rfl rfl (by kernel_rfl) (fun _ _ _ h => h) (Or.inl ⟨by rfl, ?_⟩) ?_ ?_
 rotate_left
 ·intro w'
  go_simp
  with_reducible rfl
 rotate_left
 ·simp only [Act.put, Kx.sb, Kx.sz, Kx.ss, i64_w, i32_w]
  rfl
 refine pure_ (i := 13) (N := some 32) (v := ?_) (a' := ?_) #[true, true, true, true, true, true, true, true, true, true, true, true, true, true, false] rfl rfl (by kernel_rfl) (fun _ _ _ h => h) (Or.inl ⟨by rfl, ?_⟩) ?_ ?_
 rotate_left
 ·intro w'
  go_simp
  with_reducible rfl
 rotate_left
 ·simp only [Act.put, Kx.sb, Kx.sz, Kx.ss, i64_w, i32_w]
  rfl
 refine pure_ (i := 14) (N := some 4) (v := ?_) (a' := ?_) #[true, true, true, true, true, true, true, true, true, true, true, true, true, true, true] rfl rfl (by kernel_rfl) (fun _ _ _ h => h) (Or.inl ⟨by rfl, ?_⟩) ?_ ?_
 rotate_left
 ·intro w'
  go_simp
  with_reducible rfl
 rotate_left
 ·simp only [Act.put, Kx.sb, Kx.sz, Kx.ss, i64_w, i32_w]
  rfl
 refine done_ (by kernel_rfl) ?_
 clear hHeld
 go_wp2_with fail
 go_ret
 exact ⟨.slice none 0 0, by rw [En0.out, En1.out, En2.out]; rfl, Kd.R_nil _ _ _ _ _, HB.out⟩
set_option maxRecDepth 100000 in
set_option maxHeartbeats 2000000 in
theorem frame_Rd.head_no (A1 : Option Addr) (c1 : Nat) (t : List Int) (w : World) (hr : Kd.C (Kd.int .u8) w A1 t.length t) (hc : t.length ≤ c1) (hu : le_Unpack.f (⟨#[98, 119, 119]⟩ : ByteArray) t = some ([], 10)) : Calls Try.prog 46 #[.int .i64 1, .slice A1 t.length c1] w fun e w' => ∃ v3_ : Value, e = .returned (.nilIface) ∧ Kd.R (Kd.int .u8) 5 w' w.heap.size (fun _ => True) v3_ [] ∧ Below w.heap.size w w' := by
 have HR := Aside0.mk hr
 have HC := Aside0.mk hc
 have HB := Aside0.mk (Below.refl w.heap.size w)
 clear hr hc
 have HU := Aside0.mk hu
 clear hu
 go_enter Try.func46, Try.ntmps46
 go_wp2_with (go_at_call 44; refine (le_Unpack.calls (⟨#[98, 119, 119]⟩ : ByteArray) A1 c1 t [] 10 _ HR.out HC.out HU.out).mono ?_; rintro e w2 ⟨v, rfl, ho, hb⟩; have n_HB := Aside0.mk (below_step HB.out hb); clear HB ho hb; have HB := n_HB; clear n_HB)
 go_ret
 exact ⟨.slice none 0 0, rfl, Kd.R_nil _ _ _ _ _, HB.out⟩
set_option maxRecDepth 100000 in
set_option maxHeartbeats 2000000 in
theorem frame_Rd.endB (A1 : Option Addr) (c1 : Nat) (t : List Int) (n0 n1 : Int) (w : World) (hr : Kd.C (Kd.int .u8) w A1 t.length t) (hc : t.length ≤ c1) (hu : le_Unpack.f (⟨#[104, 119]⟩ : ByteArray) t = some ([n0, n1], 0)) (en0 : wrap64 n0 = n0) (en1 : wrap64 n1 = n1) : Calls Try.prog 46 #[.int .i64 5, .slice A1 t.length c1] w fun e w' => ∃ v3_ : Value, e = .returned (.iface 97 (.agg #[.int .i64 n0, .int .i64 n1])) ∧ Kd.R (Kd.int .u8) 5 w' w.heap.size (fun _ => True) v3_ [] ∧ Below w.heap.size w w' := by
 have HR := Aside0.mk hr
 have HC := Aside0.mk hc
 have HB := Aside0.mk (Below.refl w.heap.size w)
 clear hr hc
 have HU := Aside0.mk hu
 have En0 := Aside0.mk en0
 have En1 := Aside0.mk en1
 clear hu en0 en1
 have hu1 := Try.underlying97
 go_enter Try.func46, Try.ntmps46
 go_upto_region 14 with (go_at_call 44; refine (le_Unpack.calls (⟨#[104, 119]⟩ : ByteArray) A1 c1 t [n0, n1] 0 _ HR.out HC.out HU.out).mono ?_; rintro e w2 ⟨v, rfl, ho, hb⟩; have HO := Aside0.mk ho; have n_HB := Aside0.mk (below_step HB.out hb); clear HB ho hb; have HB := n_HB; clear n_HB; obtain ⟨Ao, co, rfl⟩ := Kd.R_slice HO.out)
 have hro := (Kd.R_reads' HO.out).2.2
 obtain ⟨ad, ea, hx0⟩ := Kd.at_int hro 0 (by decide) (by simp)
 cases ea
 obtain ⟨ad1, ea, hx1⟩ := Kd.at_int hro 1 (by decide) (by simp)
 obtain rfl : ad = ad1 := (by injection ea)
 clear ea
 simp only [show (0 : Int).toNat = 0 from rfl, Addr.add_zero', show rd ([n0, n1] : List Int) 0 = n0 from rfl] at hx0
 simp only [show (1 : Int).toNat = 1 from rfl, Nat.reduceMul, Nat.reduceEqDiff, Go.Addr.add, ↓reduceIte, show rd ([n0, n1] : List Int) 1 = n1 from rfl] at hx1
 clear hro
 have n_HB := Aside0.mk (below_drew HB.out)
 have n_HO := Aside0.mk (Kd.R_drew HO.out)
 clear HB HO
 have HB := n_HB
 have HO := n_HO
 clear n_HB n_HO
 refine start_ (n := 11) (S := fun w' => w'.cell? ad = some (.int .u64 n0) ∧ w'.cell? ⟨ad.block, ad.off + 1, none⟩ = some (.int .u64 n1)) (ds := []) #[false, false, false, false, false, false, false, false, false, false, false] (by kernel_rfl) rfl rfl ⟨hx0, hx1⟩ (fun hHeld => ?_)
 generalize w2.drew = wd at HB HO hHeld ⊢
 refine pure_ (i := 0) (N := some 63) (v := ?_) (a' := ?_) #[true, false, false, false, false, false, false, false, false, false, false] rfl rfl (by kernel_rfl) (fun _ _ _ h => h) (Or.inl ⟨by rfl, ?_⟩) ?_ ?_
 rotate_left
 ·intro w'
  go_simp
  with_reducible rfl
 rotate_left
 ·simp only [Act.put, Kx.sb, Kx.sz, Kx.ss, i64_w, i32_w]
  rfl
 refine pure_ (i := 1) (N := some 64) (v := ?_) (a' := ?_) #[true, true, false, false, false, false, false, false, false, false, false] rfl rfl (by kernel_rfl) (fun _ _ _ h => h) (Or.inl ⟨by rfl, ?_⟩) ?_ ?_
 rotate_left
 ·intro w'
  go_simp
  with_reducible rfl
 rotate_left
 ·simp only [Act.put, Kx.sb, Kx.sz, Kx.ss, i64_w, i32_w]
  rfl
 refine pure_ (i := 4) (N := some 67) (v := ?_) (a' := ?_) #[true, true, false, false, true, false, false, false, false, false, false] rfl rfl (by kernel_rfl) (fun _ _ _ h => h) (Or.inl ⟨by rfl, ?_⟩) ?_ ?_
 rotate_left
 ·intro w'
  go_simp
  with_reducible rfl
 rotate_left
 ·simp only [Act.put, Kx.sb, Kx.sz, Kx.ss, i64_w, i32_w]
  rfl
 refine pure_ (i := 5) (N := some 68) (v := ?_) (a' := ?_) #[true, true, false, false, true, true, false, false, false, false, false] rfl rfl (by kernel_rfl) (fun _ _ _ h => h) (Or.inl ⟨by rfl, ?_⟩) ?_ ?_
 rotate_left
 ·intro w'
  go_simp
  with_reducible rfl
 rotate_left
 ·simp only [Act.put, Kx.sb, Kx.sz, Kx.ss, i64_w, i32_w]
  rfl
 refine take_ (i := 2) (N := some 65) (v := ?_) (a' := ?_) #[true, true, true, false, true, true, false, false, false, false, false] rfl rfl (by kernel_rfl) (fun _ _ _ h => h) (Or.inl ⟨by rfl, ?_⟩) hHeld ?_ ?_
 rotate_left
 ·rintro w' ⟨s0, s1⟩
  go_simp
  with_reducible rfl
 rotate_left
 ·simp only [Act.put, Kx.sb, Kx.sz, Kx.ss, i64_w, i32_w]
  rfl
 refine pure_ (i := 3) (N := some 66) (v := ?_) (a' := ?_) #[true, true, true, true, true, true, false, false, false, false, false] rfl rfl (by kernel_rfl) (fun _ _ _ h => h) (Or.inl ⟨by rfl, ?_⟩) ?_ ?_
 rotate_left
 ·intro w'
  go_simp
  with_reducible rfl
 rotate_left
 ·simp only [Act.put, Kx.sb, Kx.sz, Kx.ss, i64_w, i32_w]
  rfl
 refine take_ (i := 6) (N := some 69) (v := ?_) (a' := ?_) #[true, true, true, true, true, true, true, false, false, false, false] rfl rfl (by kernel_rfl) (fun _ _ _ h => h) (Or.inl ⟨by rfl, ?_⟩) hHeld ?_ ?_
 rotate_left
 ·rintro w' ⟨s0, s1⟩
  go_simp
  with_reducible rfl
 rotate_left
 ·simp only [Act.put, Kx.sb, Kx.sz, Kx.ss, i64_w, i32_w]
  rfl
 refine pure_ (i := 7) (N := some 70) (v := ?_) (a' := ?_) #[true, true, true, true, true, true, true, true, false, false, false] rfl rfl (by kernel_rfl) (fun _ _ _ h => h) (Or.inl ⟨by rfl, ?_⟩) ?_ ?_
 rotate_left
 ·intro w'
  go_simp
  with_reducible rfl
 rotate_left
 ·simp only [Act.put, Kx.sb, Kx.sz, Kx.ss, i64_w, i32_w]
  rfl
 refine pure_ (i := 8) (N := some 71) (v := ?_) (a' := ?_) #[true, true, true, true, true, true, true, true, true, false, false] rfl rfl (by kernel_rfl) (fun _ _ _ h => h) (Or.inl ⟨by rfl, ?_⟩) ?_ ?_
 rotate_left
 ·intro w'
  go_simp
  with_reducible rfl
 rotate_left
 ·simp only [Act.put, Kx.sb, Kx.sz, Kx.ss, i64_w, i32_w]
  rfl
 refine pure_ (i := 9) (N := some 72) (v := ?_) (a' := ?_) #[true, true, true, true, true, true, true, true, true, true, false] rfl rfl (by kernel_rfl) (fun _ _ _ h => h) (Or.inl ⟨by rfl, ?_⟩) ?_ ?_
 rotate_left
 ·intro w'
  go_simp
  with_reducible rfl
 rotate_left
 ·simp only [Act.put, Kx.sb, Kx.sz, Kx.ss, i64_w, i32_w]
  rfl
 refine pure_ (i := 10) (N := some 4) (v := ?_) (a' := ?_) #[true, true, true, true, true, true, true, true, true, true, true] rfl rfl (by kernel_rfl) (fun _ _ _ h => h) (Or.inl ⟨by rfl, ?_⟩) ?_ ?_
 rotate_left
 ·intro w'
  go_simp
  with_reducible rfl
 rotate_left
 ·simp only [Act.put, Kx.sb, Kx.sz, Kx.ss, i64_w, i32_w]
  rfl
 refine done_ (by kernel_rfl) ?_
 clear hHeld
 go_wp2_with fail
 go_ret
 exact ⟨.slice none 0 0, by rw [En0.out, En1.out]; rfl, Kd.R_nil _ _ _ _ _, HB.out⟩
set_option maxRecDepth 100000 in
set_option maxHeartbeats 2000000 in
theorem frame_Rd.endB_no (A1 : Option Addr) (c1 : Nat) (t : List Int) (w : World) (hr : Kd.C (Kd.int .u8) w A1 t.length t) (hc : t.length ≤ c1) (hu : le_Unpack.f (⟨#[104, 119]⟩ : ByteArray) t = some ([], 10)) : Calls Try.prog 46 #[.int .i64 5, .slice A1 t.length c1] w fun e w' => ∃ v3_ : Value, e = .returned (.nilIface) ∧ Kd.R (Kd.int .u8) 5 w' w.heap.size (fun _ => True) v3_ [] ∧ Below w.heap.size w w' := by
 have HR := Aside0.mk hr
 have HC := Aside0.mk hc
 have HB := Aside0.mk (Below.refl w.heap.size w)
 clear hr hc
 have HU := Aside0.mk hu
 clear hu
 go_enter Try.func46, Try.ntmps46
 go_wp2_with (go_at_call 44; refine (le_Unpack.calls (⟨#[104, 119]⟩ : ByteArray) A1 c1 t [] 10 _ HR.out HC.out HU.out).mono ?_; rintro e w2 ⟨v, rfl, ho, hb⟩; have n_HB := Aside0.mk (below_step HB.out hb); clear HB ho hb; have HB := n_HB; clear n_HB)
 go_ret
 exact ⟨.slice none 0 0, rfl, Kd.R_nil _ _ _ _ _, HB.out⟩
set_option maxRecDepth 100000 in
set_option maxHeartbeats 2000000 in
theorem frame_Rd.blocks2 (A1 : Option Addr) (c1 : Nat) (t : List Int) (w : World) (hr : Kd.C (Kd.int .u8) w A1 t.length t) (hc : t.length ≤ c1) (hl : 2 ≤ t.length) (hm : t.length < 1073741824) (e0 : wrap64 (rd t 0) = rd t 0) (e1 : wrap64 (rd t 1) = rd t 1) : Calls Try.prog 46 #[.int .i64 2, .slice A1 t.length c1] w fun e w' => ∃ v3_ : Value, e = .returned (.iface 95 (.agg #[.int .i64 2, .int .i64 (rd t 0), .int .i64 (rd t 1), v3_])) ∧ Kd.R (Kd.int .u8) 5 w' w.heap.size (fun _ => True) v3_ (t.drop 2) ∧ Below w.heap.size w w' := by
 have hu1 := Try.underlying95
 have E0 := Aside0.mk e0
 have E1 := Aside0.mk e1
 have HL := Aside0.mk hl
 have HM := Aside0.mk hm
 obtain ⟨ad, ea, hx0⟩ := Kd.at_int hr 0 (by decide) (by omega)
 cases ea
 obtain ⟨ad1, ea, hx1⟩ := Kd.at_int hr 1 (by decide) (by omega)
 obtain rfl : ad = ad1 := (by injection ea)
 clear ea
 simp only [show (0 : Int).toNat = 0 from rfl, Addr.add_zero'] at hx0
 simp only [show (1 : Int).toNat = 1 from rfl, Nat.reduceMul, Nat.reduceEqDiff, Go.Addr.add, ↓reduceIte] at hx1
 obtain ⟨i0_, hi0_, _, hsz_, _⟩ := info_parts info5
 obtain ⟨A2, hcut2, hA2, hC2⟩ := print_drop_of (P := Try.prog) (Value.int .u8) 0 27 5 .i64 Try.underlying27 hi0_ hsz_ (some ad) c1 t 2 (by omega) (by omega) hc
 have hr2 := Kd.C_of_reads (h1 := fun _ => rfl) (hA2 _ (Kd.reads_of_C hr))
 clear hA2
 rw [show (2 : Int).toNat = 2 from rfl] at hcut2 hr2 hC2
 obtain ⟨m, hm2⟩ : ∃ m, m = t.drop 2 := ⟨_, rfl⟩
 rw [← hm2] at hcut2 hr2 hC2 ⊢
 have HML := Aside0.mk (show m.length < 140737488355328 by rw [hm2, List.length_drop]; omega)
 have HR2 := Aside0.mk hr2
 have HC2 := Aside0.mk hC2
 clear hr2 hC2 hi0_ hsz_ e0 e1 hm2
 have b0 : (0 < t.length) = True := eq_true (by omega)
 have b1 : (1 < t.length) = True := eq_true (by omega)
 have b4 : (0 < (t.length : Int)) = True := eq_true (by omega)
 have b5 : (1 < (t.length : Int)) = True := eq_true (by omega)
 have b2 : decide (2 ≤ t.length) = true := decide_eq_true hl
 have b3 : decide (2 ≤ (t.length : Int)) = true := decide_eq_true (by omega)
 clear hl hm
 have HR := Aside0.mk hr
 have HC := Aside0.mk hc
 have HB := Aside0.mk (Below.refl w.heap.size w)
 clear hr hc
 go_enter Try.func46, Try.ntmps46
 go_upto_region 10 with (fail)
 have n_HB := Aside0.mk (below_drew HB.out)
 clear HB
 have HB := n_HB
 clear n_HB
 refine start_ (n := 15) (S := fun w' => w'.cell? ad = some (.int .u8 (rd t 0)) ∧ w'.cell? ⟨ad.block, ad.off + 1, none⟩ = some (.int .u8 (rd t 1))) (ds := []) #[false, false, false, false, false, false, false, false, false, false, false, false, false, false, false] (by kernel_rfl) rfl rfl ⟨hx0, hx1⟩ (fun hHeld => ?_)
 generalize w.drew = wd at HB hHeld ⊢
 refine pure_ (i := 0) (N := some 40) (v := ?_) (a' := ?_) #[true, false, false, false, false, false, false, false, false, false, false, false, false, false, false] rfl rfl (by kernel_rfl) (fun _ _ _ h => h) (Or.inl ⟨by rfl, ?_⟩) ?_ ?_
 rotate_left
 ·intro w'
  go_simp
  with_reducible rfl
 rotate_left
 ·simp only [Act.put, Kx.sb, Kx.sz, Kx.ss, i64_w, i32_w]
  rfl
 refine pure_ (i := 1) (N := some 41) (v := ?_) (a' := ?_) #[true, true, false, false, false, false, false, false, false, false, false, false, false, false, false] rfl rfl (by kernel_rfl) (fun _ _ _ h => h) (Or.inl ⟨by rfl, ?_⟩) ?_ ?_
 rotate_left
 ·intro w'
  go_simp
  with_reducible rfl
 rotate_left
 ·simp only [Act.put, Kx.sb, Kx.sz, Kx.ss, i64_w, i32_w]
  rfl
 refine pure_ (i := 2) (N := some 42) (v := ?_) (a' := ?_) #[true, true, true, false, false, false, false, false, false, false, false, false, false, false, false] rfl rfl (by kernel_rfl) (fun _ _ _ h => h) (Or.inl ⟨by rfl, ?_⟩) ?_ ?_
 rotate_left
 ·intro w'
  go_simp
  with_reducible rfl
 rotate_left
 ·simp only [Act.put, Kx.sb, Kx.sz, Kx.ss, i64_w, i32_w]
  rfl
 refine pure_ (i := 5) (N := some 45) (v := ?_) (a' := ?_) #[true, true, true, false, false, true, false, false, false, false, false, false, false, false, false] rfl rfl (by kernel_rfl) (fun _ _ _ h => h) (Or.inl ⟨by rfl, ?_⟩) ?_ ?_
 rotate_left
 ·intro w'
  go_simp
  with_reducible rfl
 rotate_left
 ·simp only [Act.put, Kx.sb, Kx.sz, Kx.ss, i64_w, i32_w]
  rfl
 refine pure_ (i := 6) (N := some 46) (v := ?_) (a' := ?_) #[true, true, true, false, false, true, true, false, false, false, false, false, false, false, false] rfl rfl (by kernel_rfl) (fun _ _ _ h => h) (Or.inl ⟨by rfl, ?_⟩) ?_ ?_
 rotate_left
 ·intro w'
  go_simp
  with_reducible rfl
 rotate_left
 ·simp only [Act.put, Kx.sb, Kx.sz, Kx.ss, i64_w, i32_w]
  rfl
 refine pure_ (i := 9) (N := some 49) (v := ?_) (a' := ?_) #[true, true, true, false, false, true, true, false, false, true, false, false, false, false, false] rfl rfl (by kernel_rfl) (fun _ _ _ h => h) (Or.inl ⟨by rfl, ?_⟩) ?_ ?_
 rotate_left
 ·intro w'
  go_simp
  with_reducible rfl
 rotate_left
 ·simp only [Act.put, Kx.sb, Kx.sz, Kx.ss, i64_w, i32_w]
  rfl
 refine pure_ (i := 10) (N := some 50) (v := ?_) (a' := ?_) #[true, true, true, false, false, true, true, false, false, true, true, false, false, false, false] rfl rfl (by kernel_rfl) (fun _ _ _ h => h) (Or.inl ⟨by rfl, ?_⟩) ?_ ?_
 rotate_left
 ·intro w'
  go_simp
  with_reducible rfl
 rotate_left
 ·simp only [Act.put, Kx.sb, Kx.sz, Kx.ss, i64_w, i32_w]
  rfl
 refine take_ (i := 3) (N := some 43) (v := ?_) (a' := ?_) #[true, true, true, true, false, true, true, false, false, true, true, false, false, false, false] rfl rfl (by kernel_rfl) (fun _ _ _ h => h) (Or.inl ⟨by rfl, ?_⟩) hHeld ?_ ?_
 rotate_left
 ·rintro w' ⟨s0, s1⟩
  go_simp
  with_reducible rfl
 rotate_left
 ·simp only [Act.put, Kx.sb, Kx.sz, Kx.ss, i64_w, i32_w]
  rfl
 refine pure_ (i := 4) (N := some 44) (v := ?_) (a' := ?_) #[true, true, true, true, true, true, true, false, false, true, true, false, false, false, false] rfl rfl (by kernel_rfl) (fun _ _ _ h => h) (Or.inl ⟨by rfl, ?_⟩) ?_ ?_
 rotate_left
 ·intro w'
  go_simp
  with_reducible rfl
 rotate_left
 ·simp only [Act.put, Kx.sb, Kx.sz, Kx.ss, i64_w, i32_w]
  rfl
 refine take_ (i := 7) (N := some 47) (v := ?_) (a' := ?_) #[true, true, true, true, true, true, true, true, false, true, true, false, false, false, false] rfl rfl (by kernel_rfl) (fun _ _ _ h => h) (Or.inl ⟨by rfl, ?_⟩) hHeld ?_ ?_
 rotate_left
 ·rintro w' ⟨s0, s1⟩
  go_simp
  with_reducible rfl
 rotate_left
 ·simp only [Act.put, Kx.sb, Kx.sz, Kx.ss, i64_w, i32_w]
  rfl
 refine pure_ (i := 8) (N := some 48) (v := ?_) (a' := ?_) #[true, true, true, true, true, true, true, true, true, true, true, false, false, false, false] rfl rfl (by kernel_rfl) (fun _ _ _ h => h) (Or.inl ⟨by rfl, ?_⟩) ?_ ?_
 rotate_left
 ·intro w'
  go_simp
  with_reducible rfl
 rotate_left
 ·simp only [Act.put, Kx.sb, Kx.sz, Kx.ss, i64_w, i32_w]
  rfl
 refine one_ (i := 11) (N := some 51) #[true, true, true, true, true, true, true, true, true, true, true, true, false, false, false] rfl rfl (by kernel_rfl) (by decide) (fun K hK => ?_)
 refine goes_ Try.func72 (by kernel_rfl) rfl #[.slice A2 m.length (c1 - 2)] (by rfl) rfl rfl (by simp only [List.map_toArray, List.map_cons, List.map_nil]; rfl) ?_
 refine (bytes_Clone.calls _ _ m m _ (Kd.C_below HR2.out HB.out) HC2.out (by unfold bytes_Clone.f; rw [if_pos HML.out])).mono ?_
 rintro e w3 ⟨v, rfl, ho, hb⟩
 obtain ⟨Av, cv, rfl⟩ := Kd.R_slice ho
 refine ⟨_, rfl, ?_⟩
 have n_HB := Aside0.mk (below_step HB.out hb)
 have HO := Aside0.mk (Kd.R_lower ho (below_size HB.out))
 have y0 := (hb.cell (World.block_lt_of_cell? _ _ hHeld.1)).trans hHeld.1
 have y1 := (hb.cell (World.block_lt_of_cell? _ _ hHeld.2)).trans hHeld.2
 clear HB ho hb
 have HB := n_HB
 clear n_HB
 refine hK.out _ _ ⟨y0, y1⟩ (fun hHeld => ?_)
 clear hK K
 refine norm_ (a' := ?_) ?_ ?_
 rotate_left
 ·show Act.put _ (some 51) _ = _
  simp only [Act.put, Kx.sb, Kx.sz, Kx.ss, i64_w, i32_w]
  rfl
 refine pure_ (i := 12) (N := some 52) (v := ?_) (a' := ?_) #[true, true, true, true, true, true, true, true, true, true, true, true, true, false, false] rfl rfl (by kernel_rfl) (fun _ _ _ h => h) (Or.inl ⟨by rfl, ?_⟩) ?_ ?_
 rotate_left
 ·intro w'
  go_simp
  with_reducible rfl
 rotate_left
 ·simp only [Act.put, Kx.sb, Kx.sz, Kx.ss, i64_w, i32_w]
  rfl
 refine pure_ (i := 13) (N := some 53) (v := ?_) (a' := ?_) #[true, true, true, true, true, true, true, true, true, true, true, true, true, true, false] rfl rfl (by kernel_rfl) (fun _ _ _ h => h) (Or.inl ⟨by rfl, ?_⟩) ?_ ?_
 rotate_left
 ·intro w'
  go_simp
  with_reducible rfl
 rotate_left
 ·simp only [Act.put, Kx.sb, Kx.sz, Kx.ss, i64_w, i32_w]
  rfl
 refine pure_ (i := 14) (N := some 4) (v := ?_) (a' := ?_) #[true, true, true, true, true, true, true, true, true, true, true, true, true, true, true] rfl rfl (by kernel_rfl) (fun _ _ _ h => h) (Or.inl ⟨by rfl, ?_⟩) ?_ ?_
 rotate_left
 ·intro w'
  go_simp
  with_reducible rfl
 rotate_left
 ·simp only [Act.put, Kx.sb, Kx.sz, Kx.ss, i64_w, i32_w]
  rfl
 refine done_ (by kernel_rfl) ?_
 clear hHeld
 go_wp2_with fail
 go_ret
 exact ⟨.slice Av m.length cv, by rw [E0.out, E1.out]; rfl, HO.out, HB.out⟩
set_option maxRecDepth 100000 in
set_option maxHeartbeats 2000000 in
theorem frame_Rd.blocks2_no (A1 : Option Addr) (c1 : Nat) (t : List Int) (w : World) (hr : Kd.C (Kd.int .u8) w A1 t.length t) (hc : t.length ≤ c1) (hl : t.length < 2) : Calls Try.prog 46 #[.int .i64 2, .slice A1 t.length c1] w fun e w' => ∃ v3_ : Value, e = .returned (.nilIface) ∧ Kd.R (Kd.int .u8) 5 w' w.heap.size (fun _ => True) v3_ [] ∧ Below w.heap.size w w' := by
 have b2 : decide (2 ≤ t.length) = false := decide_eq_false (by omega)
 have b3 : decide (2 ≤ (t.length : Int)) = false := decide_eq_false (by omega)
 clear hl
 have HR := Aside0.mk hr
 have HC := Aside0.mk hc
 have HB := Aside0.mk (Below.refl w.heap.size w)
 clear hr hc
 go_enter Try.func46, Try.ntmps46
 go_wp2
 go_ret
 exact ⟨.slice none 0 0, rfl, Kd.R_nil _ _ _ _ _, HB.out⟩
set_option maxRecDepth 100000 in
set_option maxHeartbeats 2000000 in
theorem frame_Rd.blocks3 (A1 : Option Addr) (c1 : Nat) (t : List Int) (w : World) (hr : Kd.C (Kd.int .u8) w A1 t.length t) (hc : t.length ≤ c1) (hl : 2 ≤ t.length) (hm : t.length < 1073741824) (e0 : wrap64 (rd t 0) = rd t 0) (e1 : wrap64 (rd t 1) = rd t 1) : Calls Try.prog 46 #[.int .i64 3, .slice A1 t.length c1] w fun e w' => ∃ v3_ : Value, e = .returned (.iface 95 (.agg #[.int .i64 3, .int .i64 (rd t 0), .int .i64 (rd t 1), v3_])) ∧ Kd.R (Kd.int .u8) 5 w' w.heap.size (fun _ => True) v3_ (t.drop 2) ∧ Below w.heap.size w w' := by
 have hu1 := Try.underlying95
 have E0 := Aside0.mk e0
 have E1 := Aside0.mk e1
 have HL := Aside0.mk hl
 have HM := Aside0.mk hm
 obtain ⟨ad, ea, hx0⟩ := Kd.at_int hr 0 (by decide) (by omega)
 cases ea
 obtain ⟨ad1, ea, hx1⟩ := Kd.at_int hr 1 (by decide) (by omega)
 obtain rfl : ad = ad1 := (by injection ea)
 clear ea
 simp only [show (0 : Int).toNat = 0 from rfl, Addr.add_zero'] at hx0
 simp only [show (1 : Int).toNat = 1 from rfl, Nat.reduceMul, Nat.reduceEqDiff, Go.Addr.add, ↓reduceIte] at hx1
 obtain ⟨i0_, hi0_, _, hsz_, _⟩ := info_parts info5
 obtain ⟨A2, hcut2, hA2, hC2⟩ := print_drop_of (P := Try.prog) (Value.int .u8) 0 27 5 .i64 Try.underlying27 hi0_ hsz_ (some ad) c1 t 2 (by omega) (by omega) hc
 have hr2 := Kd.C_of_reads (h1 := fun _ => rfl) (hA2 _ (Kd.reads_of_C hr))
 clear hA2
 rw [show (2 : Int).toNat = 2 from rfl] at hcut2 hr2 hC2
 obtain ⟨m, hm2⟩ : ∃ m, m = t.drop 2 := ⟨_, rfl⟩
 rw [← hm2] at hcut2 hr2 hC2 ⊢
 have HML := Aside0.mk (show m.length < 140737488355328 by rw [hm2, List.length_drop]; omega)
 have HR2 := Aside0.mk hr2
 have HC2 := Aside0.mk hC2
 clear hr2 hC2 hi0_ hsz_ e0 e1 hm2
 have b0 : (0 < t.length) = True := eq_true (by omega)
 have b1 : (1 < t.length) = True := eq_true (by omega)
 have b4 : (0 < (t.length : Int)) = True := eq_true (by omega)
 have b5 : (1 < (t.length : Int)) = True := eq_true (by omega)
 have b2 : decide (2 ≤ t.length) = true := decide_eq_true hl
 have b3 : decide (2 ≤ (t.length : Int)) = true := decide_eq_true (by omega)
 clear hl hm
 have HR := Aside0.mk hr
 have HC := Aside0.mk hc
 have HB := Aside0.mk (Below.refl w.heap.size w)
 clear hr hc
 go_enter Try.func46, Try.ntmps46
 go_upto_region 10 with (fail)
 have n_HB := Aside0.mk (below_drew HB.out)
 clear HB
 have HB := n_HB
 clear n_HB
 refine start_ (n := 15) (S := fun w' => w'.cell? ad = some (.int .u8 (rd t 0)) ∧ w'.cell? ⟨ad.block, ad.off + 1, none⟩ = some (.int .u8 (rd t 1))) (ds := []) #[false, false, false, false, false, false, false, false, false, false, false, false, false, false, false] (by kernel_rfl) rfl rfl ⟨hx0, hx1⟩ (fun hHeld => ?_)
 generalize w.drew = wd at HB hHeld ⊢
 refine pure_ (i := 0) (N := some 40) (v := ?_) (a' := ?_) #[true, false, false, false, false, false, false, false, false, false, false, false, false, false, false] rfl rfl (by kernel_rfl) (fun _ _ _ h => h) (Or.inl ⟨by rfl, ?_⟩) ?_ ?_
 rotate_left
 ·intro w'
  go_simp
  with_reducible rfl
 rotate_left
 ·simp only [Act.put, Kx.sb, Kx.sz, Kx.ss, i64_w, i32_w]
  rfl
 refine pure_ (i := 1) (N := some 41) (v := ?_) (a' := ?_) #[true, true, false, false, false, false, false, false, false, false, false, false, false, false, false] rfl rfl (by kernel_rfl) (fun _ _ _ h => h) (Or.inl ⟨by rfl, ?_⟩) ?_ ?_
 rotate_left
 ·intro w'
  go_simp
  with_reducible rfl
 rotate_left
 ·simp only [Act.put, Kx.sb, Kx.sz, Kx.ss, i64_w, i32_w]
  rfl
 refine pure_ (i := 2) (N := some 42) (v := ?_) (a' := ?_) #[true, true, true, false, false, false, false, false, false, false, false, false, false, false, false] rfl rfl (by kernel_rfl) (fun _ _ _ h => h) (Or.inl ⟨by rfl, ?_⟩) ?_ ?_
 rotate_left
 ·intro w'
  go_simp
  with_reducible rfl
 rotate_left
 ·simp only [Act.put, Kx.sb, Kx.sz, Kx.ss, i64_w, i32_w]
  rfl
 refine pure_ (i := 5) (N := some 45) (v := ?_) (a' := ?_) #[true, true, true, false, false, true, false, false, false, false, false, false, false, false, false] rfl rfl (by kernel_rfl) (fun _ _ _ h => h) (Or.inl ⟨by rfl, ?_⟩) ?_ ?_
 rotate_left
 ·intro w'
  go_simp
  with_reducible rfl
 rotate_left
 ·simp only [Act.put, Kx.sb, Kx.sz, Kx.ss, i64_w, i32_w]
  rfl
 refine pure_ (i := 6) (N := some 46) (v := ?_) (a' := ?_) #[true, true, true, false, false, true, true, false, false, false, false, false, false, false, false] rfl rfl (by kernel_rfl) (fun _ _ _ h => h) (Or.inl ⟨by rfl, ?_⟩) ?_ ?_
 rotate_left
 ·intro w'
  go_simp
  with_reducible rfl
 rotate_left
 ·simp only [Act.put, Kx.sb, Kx.sz, Kx.ss, i64_w, i32_w]
  rfl
 refine pure_ (i := 9) (N := some 49) (v := ?_) (a' := ?_) #[true, true, true, false, false, true, true, false, false, true, false, false, false, false, false] rfl rfl (by kernel_rfl) (fun _ _ _ h => h) (Or.inl ⟨by rfl, ?_⟩) ?_ ?_
 rotate_left
 ·intro w'
  go_simp
  with_reducible rfl
 rotate_left
 ·simp only [Act.put, Kx.sb, Kx.sz, Kx.ss, i64_w, i32_w]
  rfl
 refine pure_ (i := 10) (N := some 50) (v := ?_) (a' := ?_) #[true, true, true, false, false, true, true, false, false, true, true, false, false, false, false] rfl rfl (by kernel_rfl) (fun _ _ _ h => h) (Or.inl ⟨by rfl, ?_⟩) ?_ ?_
 rotate_left
 ·intro w'
  go_simp
  with_reducible rfl
 rotate_left
 ·simp only [Act.put, Kx.sb, Kx.sz, Kx.ss, i64_w, i32_w]
  rfl
 refine take_ (i := 3) (N := some 43) (v := ?_) (a' := ?_) #[true, true, true, true, false, true, true, false, false, true, true, false, false, false, false] rfl rfl (by kernel_rfl) (fun _ _ _ h => h) (Or.inl ⟨by rfl, ?_⟩) hHeld ?_ ?_
 rotate_left
 ·rintro w' ⟨s0, s1⟩
  go_simp
  with_reducible rfl
 rotate_left
 ·simp only [Act.put, Kx.sb, Kx.sz, Kx.ss, i64_w, i32_w]
  rfl
 refine pure_ (i := 4) (N := some 44) (v := ?_) (a' := ?_) #[true, true, true, true, true, true, true, false, false, true, true, false, false, false, false] rfl rfl (by kernel_rfl) (fun _ _ _ h => h) (Or.inl ⟨by rfl, ?_⟩) ?_ ?_
 rotate_left
 ·intro w'
  go_simp
  with_reducible rfl
 rotate_left
 ·simp only [Act.put, Kx.sb, Kx.sz, Kx.ss, i64_w, i32_w]
  rfl
 refine take_ (i := 7) (N := some 47) (v := ?_) (a' := ?_) #[true, true, true, true, true, true, true, true, false, true, true, false, false, false, false] rfl rfl (by kernel_rfl) (fun _ _ _ h => h) (Or.inl ⟨by rfl, ?_⟩) hHeld ?_ ?_
 rotate_left
 ·rintro w' ⟨s0, s1⟩
  go_simp
  with_reducible rfl
 rotate_left
 ·simp only [Act.put, Kx.sb, Kx.sz, Kx.ss, i64_w, i32_w]
  rfl
 refine pure_ (i := 8) (N := some 48) (v := ?_) (a' := ?_) #[true, true, true, true, true, true, true, true, true, true, true, false, false, false, false] rfl rfl (by kernel_rfl) (fun _ _ _ h => h) (Or.inl ⟨by rfl, ?_⟩) ?_ ?_
 rotate_left
 ·intro w'
  go_simp
  with_reducible rfl
 rotate_left
 ·simp only [Act.put, Kx.sb, Kx.sz, Kx.ss, i64_w, i32_w]
  rfl
 refine one_ (i := 11) (N := some 51) #[true, true, true, true, true, true, true, true, true, true, true, true, false, false, false] rfl rfl (by kernel_rfl) (by decide) (fun K hK => ?_)
 refine goes_ Try.func72 (by kernel_rfl) rfl #[.slice A2 m.length (c1 - 2)] (by rfl) rfl rfl (by simp only [List.map_toArray, List.map_cons, List.map_nil]; rfl) ?_
 refine (bytes_Clone.calls _ _ m m _ (Kd.C_below HR2.out HB.out) HC2.out (by unfold bytes_Clone.f; rw [if_pos HML.out])).mono ?_
 rintro e w3 ⟨v, rfl, ho, hb⟩
 obtain ⟨Av, cv, rfl⟩ := Kd.R_slice ho
 refine ⟨_, rfl, ?_⟩
 have n_HB := Aside0.mk (below_step HB.out hb)
 have HO := Aside0.mk (Kd.R_lower ho (below_size HB.out))
 have y0 := (hb.cell (World.block_lt_of_cell? _ _ hHeld.1)).trans hHeld.1
 have y1 := (hb.cell (World.block_lt_of_cell? _ _ hHeld.2)).trans hHeld.2
 clear HB ho hb
 have HB := n_HB
 clear n_HB
 refine hK.out _ _ ⟨y0, y1⟩ (fun hHeld => ?_)
 clear hK K
 refine norm_ (a' := ?_) ?_ ?_
 rotate_left
 ·show Act.put _ (some 51) _ = _
  simp only [Act.put, Kx.sb, Kx.sz, Kx.ss, i64_w, i32_w]
  rfl
 refine pure_ (i := 12) (N := some 52) (v := ?_) (a' := ?_) #[true, true, true, true, true, true, true, true, true, true, true, true, true, false, false] rfl rfl (by kernel_rfl) (fun _ _ _ h => h) (Or.inl ⟨by rfl, ?_⟩) ?_ ?_
 rotate_left
 ·intro w'
  go_simp
  with_reducible rfl
 rotate_left
 ·simp only [Act.put, Kx.sb, Kx.sz, Kx.ss, i64_w, i32_w]
  rfl
 refine pure_ (i := 13) (N := some 53) (v := ?_) (a' := ?_) #[true, true, true, true, true, true, true, true, true, true, true, true, true, true, false] rfl rfl (by kernel_rfl) (fun _ _ _ h => h) (Or.inl ⟨by rfl, ?_⟩) ?_ ?_
 rotate_left
 ·intro w'
  go_simp
  with_reducible rfl
 rotate_left
 ·simp only [Act.put, Kx.sb, Kx.sz, Kx.ss, i64_w, i32_w]
  rfl
 refine pure_ (i := 14) (N := some 4) (v := ?_) (a' := ?_) #[true, true, true, true, true, true, true, true, true, true, true, true, true, true, true] rfl rfl (by kernel_rfl) (fun _ _ _ h => h) (Or.inl ⟨by rfl, ?_⟩) ?_ ?_
 rotate_left
 ·intro w'
  go_simp
  with_reducible rfl
 rotate_left
 ·simp only [Act.put, Kx.sb, Kx.sz, Kx.ss, i64_w, i32_w]
  rfl
 refine done_ (by kernel_rfl) ?_
 clear hHeld
 go_wp2_with fail
 go_ret
 exact ⟨.slice Av m.length cv, by rw [E0.out, E1.out]; rfl, HO.out, HB.out⟩
set_option maxRecDepth 100000 in
set_option maxHeartbeats 2000000 in
theorem frame_Rd.blocks3_no (A1 : Option Addr) (c1 : Nat) (t : List Int) (w : World) (hr : Kd.C (Kd.int .u8) w A1 t.length t) (hc : t.length ≤ c1) (hl : t.length < 2) : Calls Try.prog 46 #[.int .i64 3, .slice A1 t.length c1] w fun e w' => ∃ v3_ : Value, e = .returned (.nilIface) ∧ Kd.R (Kd.int .u8) 5 w' w.heap.size (fun _ => True) v3_ [] ∧ Below w.heap.size w w' := by
 have b2 : decide (2 ≤ t.length) = false := decide_eq_false (by omega)
 have b3 : decide (2 ≤ (t.length : Int)) = false := decide_eq_false (by omega)
 clear hl
 have HR := Aside0.mk hr
 have HC := Aside0.mk hc
 have HB := Aside0.mk (Below.refl w.heap.size w)
 clear hr hc
 go_enter Try.func46, Try.ntmps46
 go_wp2
 go_ret
 exact ⟨.slice none 0 0, rfl, Kd.R_nil _ _ _ _ _, HB.out⟩
set_option maxRecDepth 100000 in
set_option maxHeartbeats 2000000 in
theorem frame_Rd.blocks4 (A1 : Option Addr) (c1 : Nat) (t : List Int) (w : World) (hr : Kd.C (Kd.int .u8) w A1 t.length t) (hc : t.length ≤ c1) (hl : 2 ≤ t.length) (hm : t.length < 1073741824) (e0 : wrap64 (rd t 0) = rd t 0) (e1 : wrap64 (rd t 1) = rd t 1) : Calls Try.prog 46 #[.int .i64 4, .slice A1 t.length c1] w fun e w' => ∃ v3_ : Value, e = .returned (.iface 95 (.agg #[.int .i64 4, .int .i64 (rd t 0), .int .i64 (rd t 1), v3_])) ∧ Kd.R (Kd.int .u8) 5 w' w.heap.size (fun _ => True) v3_ (t.drop 2) ∧ Below w.heap.size w w' := by
 have hu1 := Try.underlying95
 have E0 := Aside0.mk e0
 have E1 := Aside0.mk e1
 have HL := Aside0.mk hl
 have HM := Aside0.mk hm
 obtain ⟨ad, ea, hx0⟩ := Kd.at_int hr 0 (by decide) (by omega)
 cases ea
 obtain ⟨ad1, ea, hx1⟩ := Kd.at_int hr 1 (by decide) (by omega)
 obtain rfl : ad = ad1 := (by injection ea)
 clear ea
 simp only [show (0 : Int).toNat = 0 from rfl, Addr.add_zero'] at hx0
 simp only [show (1 : Int).toNat = 1 from rfl, Nat.reduceMul, Nat.reduceEqDiff, Go.Addr.add, ↓reduceIte] at hx1
 obtain ⟨i0_, hi0_, _, hsz_, _⟩ := info_parts info5
 obtain ⟨A2, hcut2, hA2, hC2⟩ := print_drop_of (P := Try.prog) (Value.int .u8) 0 27 5 .i64 Try.underlying27 hi0_ hsz_ (some ad) c1 t 2 (by omega) (by omega) hc
 have hr2 := Kd.C_of_reads (h1 := fun _ => rfl) (hA2 _ (Kd.reads_of_C hr))
 clear hA2
 rw [show (2 : Int).toNat = 2 from rfl] at hcut2 hr2 hC2
 obtain ⟨m, hm2⟩ : ∃ m, m = t.drop 2 := ⟨_, rfl⟩
 rw [← hm2] at hcut2 hr2 hC2 ⊢
 have HML := Aside0.mk (show m.length < 140737488355328 by rw [hm2, List.length_drop]; omega)
 have HR2 := Aside0.mk hr2
 have HC2 := Aside0.mk hC2
 clear hr2 hC2 hi0_ hsz_ e0 e1 hm2
 have b0 : (0 < t.length) = True := eq_true (by omega)
 have b1 : (1 < t.length) = True := eq_true (by omega)
 have b4 : (0 < (t.length : Int)) = True := eq_true (by omega)
 have b5 : (1 < (t.length : Int)) = True := eq_true (by omega)
 have b2 : decide (2 ≤ t.length) = true := decide_eq_true hl
 have b3 : decide (2 ≤ (t.length : Int)) = true := decide_eq_true (by omega)
 clear hl hm
 have HR := Aside0.mk hr
 have HC := Aside0.mk hc
 have HB := Aside0.mk (Below.refl w.heap.size w)
 clear hr hc
 go_enter Try.func46, Try.ntmps46
 go_upto_region 10 with (fail)
 have n_HB := Aside0.mk (below_drew HB.out)
 clear HB
 have HB := n_HB
 clear n_HB
 refine start_ (n := 15) (S := fun w' => w'.cell? ad = some (.int .u8 (rd t 0)) ∧ w'.cell? ⟨ad.block, ad.off + 1, none⟩ = some (.int .u8 (rd t 1))) (ds := []) #[false, false, false, false, false, false, false, false, false, false, false, false, false, false, false] (by kernel_rfl) rfl rfl ⟨hx0, hx1⟩ (fun hHeld => ?_)
 generalize w.drew = wd at HB hHeld ⊢
 refine pure_ (i := 0) (N := some 40) (v := ?_) (a' := ?_) #[true, false, false, false, false, false, false, false, false, false, false, false, false, false, false] rfl rfl (by kernel_rfl) (fun _ _ _ h => h) (Or.inl ⟨by rfl, ?_⟩) ?_ ?_
 rotate_left
 ·intro w'
  go_simp
  with_reducible rfl
 rotate_left
 ·simp only [Act.put, Kx.sb, Kx.sz, Kx.ss, i64_w, i32_w]
  rfl
 refine pure_ (i := 1) (N := some 41) (v := ?_) (a' := ?_) #[true, true, false, false, false, false, false, false, false, false, false, false, false, false, false] rfl rfl (by kernel_rfl) (fun _ _ _ h => h) (Or.inl ⟨by rfl, ?_⟩) ?_ ?_
 rotate_left
 ·intro w'
  go_simp
  with_reducible rfl
 rotate_left
 ·simp only [Act.put, Kx.sb, Kx.sz, Kx.ss, i64_w, i32_w]
  rfl
 refine pure_ (i := 2) (N := some 42) (v := ?_) (a' := ?_) #[true, true, true, false, false, false, false, false, false, false, false, false, false, false, false] rfl rfl (by kernel_rfl) (fun _ _ _ h => h) (Or.inl ⟨by rfl, ?_⟩) ?_ ?_
 rotate_left
 ·intro w'
  go_simp
  with_reducible rfl
 rotate_left
 ·simp only [Act.put, Kx.sb, Kx.sz, Kx.ss, i64_w, i32_w]
  rfl
 refine pure_ (i := 5) (N := some 45) (v := ?_) (a' := ?_) #[true, true, true, false, false, true, false, false, false, false, false, false, false, false, false] rfl rfl (by kernel_rfl) (fun _ _ _ h => h) (Or.inl ⟨by rfl, ?_⟩) ?_ ?_
 rotate_left
 ·intro w'
  go_simp
  with_reducible rfl
 rotate_left
 ·simp only [Act.put, Kx.sb, Kx.sz, Kx.ss, i64_w, i32_w]
  rfl
 refine pure_ (i := 6) (N := some 46) (v := ?_) (a' := ?_) #[true, true, true, false, false, true, true, false, false, false, false, false, false, false, false] rfl rfl (by kernel_rfl) (fun _ _ _ h => h) (Or.inl ⟨by rfl, ?_⟩) ?_ ?_
 rotate_left
 ·intro w'
  go_simp
  with_reducible rfl
 rotate_left
 ·simp only [Act.put, Kx.sb, Kx.sz, Kx.ss, i64_w, i32_w]
  rfl
 refine pure_ (i := 9) (N := some 49) (v := ?_) (a' := ?_) #[true, true, true, false, false, true, true, false, false, true, false, false, false, false, false] rfl rfl (by kernel_rfl) (fun _ _ _ h => h) (Or.inl ⟨by rfl, ?_⟩) ?_ ?_
 rotate_left
 ·intro w'
  go_simp
  with_reducible rfl
 rotate_left
 ·simp only [Act.put, Kx.sb, Kx.sz, Kx.ss, i64_w, i32_w]
  rfl
 refine pure_ (i := 10) (N := some 50) (v := ?_) (a' := ?_) #[true, true, true, false, false, true, true, false, false, true, true, false, false, false, false] rfl rfl (by kernel_rfl) (fun _ _ _ h => h) (Or.inl ⟨by rfl, ?_⟩) ?_ ?_
 rotate_left
 ·intro w'
  go_simp
  with_reducible rfl
 rotate_left
 ·simp only [Act.put, Kx.sb, Kx.sz, Kx.ss, i64_w, i32_w]
  rfl
 refine take_ (i := 3) (N := some 43) (v := ?_) (a' := ?_) #[true, true, true, true, false, true, true, false, false, true, true, false, false, false, false] rfl rfl (by kernel_rfl) (fun _ _ _ h => h) (Or.inl ⟨by rfl, ?_⟩) hHeld ?_ ?_
 rotate_left
 ·rintro w' ⟨s0, s1⟩
  go_simp
  with_reducible rfl
 rotate_left
 ·simp only [Act.put, Kx.sb, Kx.sz, Kx.ss, i64_w, i32_w]
  rfl
 refine pure_ (i := 4) (N := some 44) (v := ?_) (a' := ?_) #[true, true, true, true, true, true, true, false, false, true, true, false, false, false, false] rfl rfl (by kernel_rfl) (fun _ _ _ h => h) (Or.inl ⟨by rfl, ?_⟩) ?_ ?_
 rotate_left
 ·intro w'
  go_simp
  with_reducible rfl
 rotate_left
 ·simp only [Act.put, Kx.sb, Kx.sz, Kx.ss, i64_w, i32_w]
  rfl
 refine take_ (i := 7) (N := some 47) (v := ?_) (a' := ?_) #[true, true, true, true, true, true, true, true, false, true, true, false, false, false, false] rfl rfl (by kernel_rfl) (fun _ _ _ h => h) (Or.inl ⟨by rfl, ?_⟩) hHeld ?_ ?_
 rotate_left
 ·rintro w' ⟨s0, s1⟩
  go_simp
  with_reducible rfl
 rotate_left
 ·simp only [Act.put, Kx.sb, Kx.sz, Kx.ss, i64_w, i32_w]
  rfl
 refine pure_ (i := 8) (N := some 48) (v := ?_) (a' := ?_) #[true, true, true, true, true, true, true, true, true, true, true, false, false, false, false] rfl rfl (by kernel_rfl) (fun _ _ _ h => h) (Or.inl ⟨by rfl, ?_⟩) ?_ ?_
 rotate_left
 ·intro w'
  go_simp
  with_reducible rfl
 rotate_left
 ·simp only [Act.put, Kx.sb, Kx.sz, Kx.ss, i64_w, i32_w]
  rfl
 refine one_ (i := 11) (N := some 51) #[true, true, true, true, true, true, true, true, true, true, true, true, false, false, false] rfl rfl (by kernel_rfl) (by decide) (fun K hK => ?_)
 refine goes_ Try.func72 (by kernel_rfl) rfl #[.slice A2 m.length (c1 - 2)] (by rfl) rfl rfl (by simp only [List.map_toArray, List.map_cons, List.map_nil]; rfl) ?_
 refine (bytes_Clone.calls _ _ m m _ (Kd.C_below HR2.out HB.out) HC2.out (by unfold bytes_Clone.f; rw [if_pos HML.out])).mono ?_
 rintro e w3 ⟨v, rfl, ho, hb⟩
 obtain ⟨Av, cv, rfl⟩ := Kd.R_slice ho
 refine ⟨_, rfl, ?_⟩
 have n_HB := Aside0.mk (below_step HB.out hb)
 have HO := Aside0.mk (Kd.R_lower ho (below_size HB.out))
 have y0 := (hb.cell (World.block_lt_of_cell? _ _ hHeld.1)).trans hHeld.1
 have y1 := (hb.cell (World.block_lt_of_cell? _ _ hHeld.2)).trans hHeld.2
 clear HB ho hb
 have HB := n_HB
 clear n_HB
 refine hK.out _ _ ⟨y0, y1⟩ (fun hHeld => ?_)
 clear hK K
 refine norm_ (a' := ?_) ?_ ?_
 rotate_left
 ·show Act.put _ (some 51) _ = _
  simp only [Act.put, Kx.sb, Kx.sz, Kx.ss, i64_w, i32_w]
  rfl
 refine pure_ (i := 12) (N := some 52) (v := ?_) (a' := ?_) #[true, true, true, true, true, true, true, true, true, true, true, true, true, false, false] rfl rfl (by kernel_rfl) (fun _ _ _ h => h) (Or.inl ⟨by rfl, ?_⟩) ?_ ?_
 rotate_left
 ·intro w'
  go_simp
  with_reducible rfl
 rotate_left
 ·simp only [Act.put, Kx.sb, Kx.sz, Kx.ss, i64_w, i32_w]
  rfl
 refine pure_ (i := 13) (N := some 53) (v := ?_) (a' := ?_) #[true, true, true, true, true, true, true, true, true, true, true, true, true, true, false] rfl rfl (by kernel_rfl) (fun _ _ _ h => h) (Or.inl ⟨by rfl, ?_⟩) ?_ ?_
 rotate_left
 ·intro w'
  go_simp
  with_reducible rfl
 rotate_left
 ·simp only [Act.put, Kx.sb, Kx.sz, Kx.ss, i64_w, i32_w]
  rfl
 refine pure_ (i := 14) (N := some 4) (v := ?_) (a' := ?_) #[true, true, true, true, true, true, true, true, true, true, true, true, true, true, true] rfl rfl (by kernel_rfl) (fun _ _ _ h => h) (Or.inl ⟨by rfl, ?_⟩) ?_ ?_
 rotate_left
 ·intro w'
  go_simp
  with_reducible rfl
 rotate_left
 ·simp only [Act.put, Kx.sb, Kx.sz, Kx.ss, i64_w, i32_w]
  rfl
 refine done_ (by kernel_rfl) ?_
 clear hHeld
 go_wp2_with fail
 go_ret
 exact ⟨.slice Av m.length cv, by rw [E0.out, E1.out]; rfl, HO.out, HB.out⟩
set_option maxRecDepth 100000 in
set_option maxHeartbeats 2000000 in
theorem frame_Rd.blocks4_no (A1 : Option Addr) (c1 : Nat) (t : List Int) (w : World) (hr : Kd.C (Kd.int .u8) w A1 t.length t) (hc : t.length ≤ c1) (hl : t.length < 2) : Calls Try.prog 46 #[.int .i64 4, .slice A1 t.length c1] w fun e w' => ∃ v3_ : Value, e = .returned (.nilIface) ∧ Kd.R (Kd.int .u8) 5 w' w.heap.size (fun _ => True) v3_ [] ∧ Below w.heap.size w w' := by
 have b2 : decide (2 ≤ t.length) = false := decide_eq_false (by omega)
 have b3 : decide (2 ≤ (t.length : Int)) = false := decide_eq_false (by omega)
 clear hl
 have HR := Aside0.mk hr
 have HC := Aside0.mk hc
 have HB := Aside0.mk (Below.refl w.heap.size w)
 clear hr hc
 go_enter Try.func46, Try.ntmps46
 go_wp2
 go_ret
 exact ⟨.slice none 0 0, rfl, Kd.R_nil _ _ _ _ _, HB.out⟩
set_option maxRecDepth 100000 in
set_option maxHeartbeats 2000000 in
theorem frame_Rd.noneB (k : Int) (A1 : Option Addr) (c1 : Nat) (t : List Int) (w : World) (hr : Kd.C (Kd.int .u8) w A1 t.length t) (hc : t.length ≤ c1) (hk : ¬ (1 ≤ k ∧ k ≤ 5)) : Calls Try.prog 46 #[.int .i64 k, .slice A1 t.length c1] w fun e w' => ∃ v3_ : Value, e = .returned (.nilIface) ∧ Kd.R (Kd.int .u8) 5 w' w.heap.size (fun _ => True) v3_ [] ∧ Below w.heap.size w w' := by
 have b1 : (k == 1) = false := beq_eq_false_iff_ne.mpr (by omega)
 have b2 : (k == 2) = false := beq_eq_false_iff_ne.mpr (by omega)
 have b3 : (k == 3) = false := beq_eq_false_iff_ne.mpr (by omega)
 have b4 : (k == 4) = false := beq_eq_false_iff_ne.mpr (by omega)
 have b5 : (k == 5) = false := beq_eq_false_iff_ne.mpr (by omega)
 clear hk
 have HR := Aside0.mk hr
 have HC := Aside0.mk hc
 have HB := Aside0.mk (Below.refl w.heap.size w)
 clear hr hc
 go_enter Try.func46, Try.ntmps46
 go_wp2
 go_ret
 exact ⟨.slice none 0 0, rfl, Kd.R_nil _ _ _ _ _, HB.out⟩
def frame_Rd.f (k : Int) (t : List Int) : Option (Int × Int × Int × List Int × Int × Int × Int) := if Pl.byteB t = true ∧ t.length < 1073741824 then some (Pl.rdS k t) else none
theorem frame_Rd.calls (a0 : Int) (A1 : Option Addr) (c1 : Nat) (l1 : List Int) (r1 r2 r3 : Int) (r4 : List Int) (r5 r6 r7 : Int) (w : World) (hr1 : Kd.C (Kd.int .u8) w A1 l1.length l1) (hc1 : l1.length ≤ c1) (h : frame_Rd.f a0 l1 = some (r1, r2, r3, r4, r5, r6, r7)) :
  Calls Try.prog 46 #[.int .i64 a0, .slice A1 l1.length c1] w fun e w' => ∃ v3_ : Value, e = .returned (bodyV r1 r2 r3 v3_ r5 r6 r7) ∧ Kd.R (Kd.int .u8) 5 w' w.heap.size (fun _ => True) v3_ r4 ∧ Below w.heap.size w w' := by
 unfold frame_Rd.f at h
 split at h
 case isFalse => cases h
 rename_i hh
 obtain ⟨hb, hl⟩ := hh
 replace h := Option.some.inj h
 have key : ∀ f : ByteArray, f.size < 2147483648 → le_Unpack.f f l1 = some (Pl.unpackS (Pl.fb f) l1) := fun f hf => by
  unfold le_Unpack.f
  rw [if_pos ⟨hb, by omega, hf⟩]
 by_cases k1 : a0 = 1
 ·subst k1
  rw [Pl.rdS, if_pos rfl] at h
  have ku := key (⟨#[98, 119, 119]⟩ : ByteArray) (by decide)
  rw [show Pl.fb (⟨#[98, 119, 119]⟩ : ByteArray) = [98, 119, 119] from by kernel_rfl] at ku
  by_cases h9 : l1.length = 9
  ·rw [if_pos h9] at h
   simp only [Prod.mk.injEq] at h
   obtain ⟨rfl, rfl, rfl, rfl, rfl, rfl, rfl⟩ := h
   rw [Pl.unpack_bww h9] at ku
   have q0 := Pl.byN_lt hb 0 1
   have q1 := Pl.byN_lt hb 1 4
   have q2 := Pl.byN_lt hb 5 4
   exact frame_Rd.head A1 c1 l1 _ _ _ w hr1 hc1 ku (by unfold wrap64; omega) (by unfold wrap64; omega) (by unfold wrap64; omega)
  ·rw [if_neg h9] at h
   simp only [Pl.frZ, Prod.mk.injEq] at h
   obtain ⟨rfl, rfl, rfl, rfl, rfl, rfl, rfl⟩ := h
   rw [Pl.unpack_len hb (by rw [show Pl.formL [98, 119, 119] = 9 from by decide]; exact h9)] at ku
   exact frame_Rd.head_no A1 c1 l1 w hr1 hc1 ku
 rw [Pl.rdS, if_neg k1] at h
 by_cases k2 : a0 = 2 ∨ a0 = 3 ∨ a0 = 4
 ·rw [if_pos k2] at h
  by_cases h2 : 2 ≤ l1.length
  ·rw [if_pos h2] at h
   simp only [Prod.mk.injEq] at h
   obtain ⟨rfl, rfl, rfl, rfl, rfl, rfl, rfl⟩ := h
   have q0 := frame_Rd.byte hb 0 (by omega)
   have q1 := frame_Rd.byte hb 1 (by omega)
   have e0 : wrap64 (rd l1 0) = rd l1 0 := by have : rd l1 ((0 : Nat) : Int) = rd l1 0 := rfl; unfold wrap64; omega
   have e1 : wrap64 (rd l1 1) = rd l1 1 := by have : rd l1 ((1 : Nat) : Int) = rd l1 1 := rfl; unfold wrap64; omega
   have g0 : l1.getD 0 0 = rd l1 0 := by simp [rd]
   have g1 : l1.getD 1 0 = rd l1 1 := by simp [rd]
   rw [g0, g1]
   rcases k2 with rfl | rfl | rfl
   ·exact frame_Rd.blocks2 A1 c1 l1 w hr1 hc1 h2 hl e0 e1
   ·exact frame_Rd.blocks3 A1 c1 l1 w hr1 hc1 h2 hl e0 e1
   ·exact frame_Rd.blocks4 A1 c1 l1 w hr1 hc1 h2 hl e0 e1
  ·rw [if_neg h2] at h
   simp only [Pl.frZ, Prod.mk.injEq] at h
   obtain ⟨rfl, rfl, rfl, rfl, rfl, rfl, rfl⟩ := h
   rcases k2 with rfl | rfl | rfl
   ·exact frame_Rd.blocks2_no A1 c1 l1 w hr1 hc1 (by omega)
   ·exact frame_Rd.blocks3_no A1 c1 l1 w hr1 hc1 (by omega)
   ·exact frame_Rd.blocks4_no A1 c1 l1 w hr1 hc1 (by omega)
 rw [if_neg k2] at h
 by_cases k5 : a0 = 5
 ·subst k5
  rw [if_pos rfl] at h
  have ku := key (⟨#[104, 119]⟩ : ByteArray) (by decide)
  rw [show Pl.fb (⟨#[104, 119]⟩ : ByteArray) = [104, 119] from by kernel_rfl] at ku
  by_cases h6 : l1.length = 6
  ·rw [if_pos h6] at h
   simp only [Prod.mk.injEq] at h
   obtain ⟨rfl, rfl, rfl, rfl, rfl, rfl, rfl⟩ := h
   rw [Pl.unpack_hw h6] at ku
   have q0 := Pl.byN_lt hb 0 2
   have q1 := Pl.byN_lt hb 2 4
   exact frame_Rd.endB A1 c1 l1 _ _ w hr1 hc1 ku (by unfold wrap64; omega) (by unfold wrap64; omega)
  ·rw [if_neg h6] at h
   simp only [Pl.frZ, Prod.mk.injEq] at h
   obtain ⟨rfl, rfl, rfl, rfl, rfl, rfl, rfl⟩ := h
   rw [Pl.unpack_len hb (by rw [show Pl.formL [104, 119] = 6 from by decide]; exact h6)] at ku
   exact frame_Rd.endB_no A1 c1 l1 w hr1 hc1 ku
 ·rw [if_neg k5] at h
  simp only [Pl.frZ, Prod.mk.injEq] at h
  obtain ⟨rfl, rfl, rfl, rfl, rfl, rfl, rfl⟩ := h
  exact frame_Rd.noneB a0 A1 c1 l1 w hr1 hc1 (by omega)
end Go.Proofs.Ytohkmmbmfhficaa.PG
