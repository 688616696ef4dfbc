/- Words and walks that this claim names, of those that the kit's print and programs of this workplace have printed. -/
import Derived.Test.YtmgohkffphogdaaZUCz
import Derived.Test.YtmgohkffphogdaaZUPUx15
namespace Go.Proofs.Ytmgohkffphogdaa.PU
open Go.Proofs.Ytmgohkffphogdaa Go.RowKit Go.Proofs.YtmgohkffphogdaaW.PrintWords Go.Proofs.YtmgohkffphogdaaW.PrintLast Go.Proofs.YtmgohkffphogdaaW.PrintMore
attribute [local go_sem] max2_int min2_int max_two min_two max_three min_three max_four min_four
set_option linter.unusedVariables false
set_option linter.unusedSimpArgs false
def le_Unpack.f (a0 : ByteArray) (l1 : List Int) : Option (List Int × Int) := if Pl.byteB l1 = true ∧ l1.length < 70368744177664 ∧ a0.size < 2147483648 then some (Pl.unpackS (Pl.fb a0) l1) else none
theorem le_Unpack.R_iter {α : Type} {d : Kd α} {e base : Nat} {ok : Nat → Prop} {v : Value} {xs : List α} {w : World} {B : Nat} (h : d.R e w base ok v xs) (hB : B < base) (s : ByteArray) (p : Nat) : d.R e (w.iterAt B s p) base ok v xs :=
 Kd.R_mono (Kd.R_move (Kd.R_bound h) (fun k hk => Lib.iterAt_other w B k s p (by have := hk.2.1; omega))) (fun _ hk => hk.1)
theorem le_Unpack.drop {b : List Int} (h : Pl.byteB b = true) (n : Nat) : Pl.byteB (b.drop n) = true := by
 rw [Pl.byteB_iff] at h ⊢
 exact fun x hx => h x (List.mem_of_mem_drop hx)
theorem le_Unpack.rune (s : ByteArray) (i : Nat) (h : i < s.size) : Pl.letS ((Utf8.decode s i).1 : Int) = Pl.letS ((Pl.fb s)[i]'(by rw [Pl.fb_length]; exact h)) ∧ (Pl.letS ((Pl.fb s)[i]'(by rw [Pl.fb_length]; exact h)) ≠ 0 → (Utf8.decode s i).2 = 1) := by
 have e : (Pl.fb s)[i]'(by rw [Pl.fb_length]; exact h) = (((s[i]'h).toNat : Nat) : Int) := by
  simp only [Pl.fb, List.getElem_map]
  rfl
 rw [e]
 by_cases ha : (s[i]'h).toNat < 128
 ·rw [decode_ascii s i h ha]
  exact ⟨rfl, fun _ => rfl⟩
 ·have hd := decode_high s i h (by omega)
  have z : ∀ c : Nat, 128 ≤ c → Pl.letS (c : Int) = 0 := fun c hc => by
   unfold Pl.letS
   rw [if_neg (by omega), if_neg (by omega), if_neg (by omega), if_neg (by omega)]
  rw [z _ hd.1, z _ (by omega)]
  exact ⟨rfl, fun h => absurd rfl h⟩
set_option maxHeartbeats 8000000 in
set_option maxRecDepth 2000000 in
theorem le_Unpack.callsV (a0 : ByteArray) (P1_ : Nat → Prop) (A1 : Option Addr) (c1 : Nat) (l1 : List Int) (r1 : List Int) (r2 : Int) (w : World) (hs1 : Kd.V (Kd.int .u8) 5 w w.heap.size (fun k_ => P1_ k_) (.slice A1 l1.length c1) l1) (h : le_Unpack.f a0 l1 = some (r1, r2)) :
  Calls Try.prog 24 #[.string a0, .slice A1 l1.length c1] w fun e w' => ∃ v0_ : Value, e = .returned (.tuple #[v0_, .int .i64 r2]) ∧ Kd.R (Kd.int .u64) 44 w' w.heap.size (fun k_ => (w.heap.size ≤ k_)) v0_ r1 ∧ Below w.heap.size w w' := by
 unfold le_Unpack.f at h
 split at h
 case isFalse => cases h
 rename_i hh
 obtain ⟨hb, hbl, hsz⟩ := hh
 have HP0 := Aside0.mk (Option.some.inj h)
 have HBY := Aside0.mk hb
 have HBL := Aside0.mk hbl
 clear h hb hbl
 obtain ⟨B, hB⟩ : ∃ B, B = w.heap.size := ⟨_, rfl⟩
 have HBN := Aside0.mk hB
 clear hB
 have HV0 : Aside0 (Kd.V (Kd.int .u8) 5 (w.iter a0 0) 0 (fun k => k ≠ B) (.slice A1 l1.length c1) l1) := ⟨Kd.V_mono (Kd.V_alloc (Kd.V_bound (Kd.V_lower (base' := 0) hs1 (Nat.zero_le _))) _) (fun k hk => by have := hk.2; rw [HBN.out]; omega)⟩
 have hk0 : Aside0 ((w.iter a0 0).heap[B]? = some (.stringIter a0 0)) := ⟨by rw [HBN.out]; exact World.iter_heap w a0 0⟩
 have hb0 : Aside0 (Below w.heap.size w (w.iter a0 0)) := ⟨(Below.refl _ w).alloc (Nat.le_refl _) _⟩
 have hs0 : Aside0 (B + 1 ≤ (w.iter a0 0).heap.size) := ⟨by rw [HBN.out]; simp [World.iter]⟩
 clear hs1
 go_enter Try.func24, Try.ntmps24
 go_wp2
 rw [← HBN.out]
 generalize w.iter a0 0 = w0 at hk0 hb0 hs0 HV0 ⊢
 go_loopw [1, 4] (fun v u wr => ∃ (i : Nat) (out b : List Int), i ≤ a0.size ∧ Aside0 (out.length ≤ i) ∧ Aside0 (Pl.byteB b = true) ∧ Aside0 (b.length < 70368744177664) ∧ Aside0 (wr.heap[B]? = some (.stringIter a0 i)) ∧ Aside0 (Kd.V (Kd.int .u8) 5 wr 0 (fun k => k ≠ B) v b) ∧ Aside0 (Kd.R (Kd.int .u64) 44 wr (B + 1) (fun k => B + 1 ≤ k) u out) ∧ Aside0 (Pl.unpackGo out ((Pl.fb a0).drop i) b = (r1, r2)) ∧ Aside0 (B + 1 ≤ wr.heap.size) ∧ Aside0 (Below w.heap.size w wr)) (fun _ _ wr => a0.size - wr.iterPos B)
 case atStart => exact ⟨0, [], l1, by omega, ⟨Nat.le_refl _⟩, HBY, HBL, hk0, HV0, ⟨Kd.R_nil _ _ _ _ _⟩, HP0, hs0, hb0⟩
 case round =>
  clear hk0 hb0 hs0 HP0 HV0 HBY HBL
  obtain ⟨i, out, b, hi, HOL, HBY, HBL, hk, HV, HO, HP, HS, HB⟩ := hrel
  obtain ⟨Ab, cb, rfl⟩ := Kd.V_slice HV.out
  by_cases hp : i < a0.size
  ·obtain ⟨rs, rn⟩ := le_Unpack.rune a0 i hp
   have hif : i < (Pl.fb a0).length := by rw [Pl.fb_length]; exact hp
   have hle := decode_le a0 i
   obtain ⟨z, hz⟩ : ∃ z, z = Pl.letS ((Pl.fb a0)[i]'hif) := ⟨_, rfl⟩
   rw [← hz] at rs rn
   have HZ := Aside0.mk hz
   have hnext : ∀ ty, (Instr.next (.pointer (some ⟨B, 0, none⟩)) true ty).run Try.prog wr = _ := fun ty => Lib.run_next_any_at wr B a0 i ty hk.out hp
   obtain ⟨q, hq⟩ : ∃ q, q = i + (Utf8.decode a0 i).2 := ⟨_, rfl⟩
   rw [← hq] at hnext
   have HRN : Aside0 (z ≠ 0 → q = i + 1) := ⟨fun h => by rw [hq, rn h]⟩
   obtain ⟨c, hc⟩ : ∃ c, c = (Utf8.decode a0 i).1 := ⟨_, rfl⟩
   rw [← hc] at hnext rs hle
   have HRS : Aside0 (le_size.f (c : Int) = some z) := ⟨by unfold le_size.f; rw [if_pos ⟨by omega, by omega⟩, rs]⟩
   have hmu : Aside0 (wr.iterPos B = i) := ⟨by simp [World.iterPos, hk.out]⟩
   clear hq hc rs rn hle hz
   have hk1 := Aside0.mk (Lib.iterAt_heap wr B a0 i q hk.out)
   have hn1 := Aside0.mk (Lib.below_iterAt (k := B) HB.out (by rw [HBN.out]; exact Nat.le_refl _) a0 q)
   have HO1 := Aside0.mk (le_Unpack.R_iter HO.out (Nat.lt_succ_self B) a0 q)
   have HV1 := Aside0.mk (Kd.V_step (w1 := wr.iterAt B a0 q) HV.out (fun k hk _ => Lib.iterAt_other wr B k a0 q hk))
   have hs1 : Aside0 (B + 1 ≤ (wr.iterAt B a0 q).heap.size) := ⟨by rw [Lib.iterAt_size]; exact HS.out⟩
   clear hk HO HS HB HV
   generalize wr.iterAt B a0 q = W1 at hnext hk1 hn1 HO1 HV1 hs1
   obtain ⟨x, rest, E, HTK⟩ : ∃ x rest E, Aside0 (Pl.takeS b z = (x, rest, E)) := ⟨_, _, _, ⟨rfl⟩⟩
   have HTake : Aside0 (le_Take.f b z = some (x, rest, E)) := ⟨by unfold le_Take.f; rw [if_pos ⟨HBY.out, HBL.out⟩, HTK.out]⟩
   by_cases hf : Pl.okS z = true ∧ z ≤ b.length
   ·have e := HTK.out
    unfold Pl.takeS at e
    rw [if_pos hf] at e
    injection e with e1 e2
    injection e2 with e2 e3
    have HX := Aside0.mk e1
    have HRE := Aside0.mk e2
    subst e3
    clear e1 e2
    have LM := Aside0.mk (show out.length < 17592186044416 from by have := HOL.out; omega)
    go_wp2_with (first | (go_at_call 35; refine (le_size.calls _ _ _ HRS.out).mono ?_; rintro e w2 ⟨rfl, hb2⟩; have HV2 := Aside0.mk (Kd.V_below HV1.out hb2); have HO2 := Aside0.mk (Kd.R_below HO1.out hb2); have hn2 := Aside0.mk (below_step hn1.out hb2); have hs2 := Aside0.mk (Nat.le_trans hs1.out hb2.size); have hk2 := Aside0.mk ((hb2.block B (by have := hs1.out; omega)).trans hk1.out); clear hb2) | (go_at_call 40; refine (le_Take.calls _ _ b z x rest 0 _ (Kd.V_reads' HV2.out).2.2 (Kd.V_reads' HV2.out).2.1 HTake.out).mono ?_; rintro e w3 ⟨vr, rfl, ho, hb3⟩; have HR3 := Aside0.mk (Kd.R_lower ho hs2.out); have HO3 := Aside0.mk (Kd.R_below HO2.out hb3); have hn3 := Aside0.mk (below_step hn2.out hb3); have hs3 := Aside0.mk (Nat.le_trans hs2.out hb3.size); have hk3 := Aside0.mk ((hb3.block B (by have := hs2.out; omega)).trans hk2.out); clear hb3 ho) | ((with_reducible refine gate_builtin (b := .append) (xs := #[.tmp 25, .tmp 27]) rfl ?_); at_builtin; refine Kd.R_append (Kd.int .u64) (w0 := w3) (B + 1) rfl (.tmp 25) (.tmp 27) 47 44 (.int .u64 0) 8 rfl Try.underlying47 info44 rfl (by decide) (by omega) u4 out x [.int .u64 x] (fun k_ => B + 1 ≤ k_) (fun _ => False) rfl rfl ?aP (fun _ hk => hk.elim) ?aF ?aO ?aB ?aS ?aL ?_; (case aP => exact rfl); (case aB => exact Below.refl _ _); (case aF => exact (fun k_ hk => Nat.le_trans hs3.out hk)); (case aO => exact HO3.out); (case aS => exact hs3.out); (case aL => have := LM.out; omega); intro v9 w4 ho hb4 hg hat; have HO4 := Aside0.mk ho; have HR4 := Aside0.mk (Kd.R_over' HR3.out (Kd.R_typed HO3.out) (by decide) hg); have hb4' := Aside0.mk hb4; clear ho hb4 hg hat))
    have h8 : z ≤ 8 ∧ 0 ≤ z ∧ z ≠ 0 := by have := hf.1; rw [Pl.okS_iff] at this; omega
    have hk4 : Aside0 (w4.heap[B]? = some (.stringIter a0 (i + 1))) := ⟨by rw [hb4'.out.block B (Nat.lt_succ_self B), hk3.out, HRN.out h8.2.2]⟩
    have hm4 : Aside0 (w4.iterPos B = i + 1) := ⟨by simp [World.iterPos, hk4.out]⟩
    go_roundw
    case rel =>
     refine ⟨i + 1, out ++ [x], rest, by omega, ⟨?_⟩, ⟨?_⟩, ⟨?_⟩, ⟨?_⟩, ⟨?_⟩, HO4, ⟨?_⟩, ⟨?_⟩, ⟨?_⟩⟩
     ·rw [List.length_append, List.length_singleton]; have := HOL.out; omega
     ·rw [← HRE.out]; exact le_Unpack.drop HBY.out _
     ·rw [← HRE.out, List.length_drop]; have := HBL.out; omega
     ·exact hk4.out
     ·exact Kd.V_mono (Kd.R_V (Kd.R_bound HR4.out)) (fun k hk => by have := hk.2.1; omega)
     ·have e := HP.out
      rw [List.drop_eq_getElem_cons hif, Pl.unpackGo, ← HZ.out, if_pos hf, HX.out, HRE.out] at e
      exact e
     ·exact Nat.le_trans hs3.out hb4'.out.size
     ·exact hn3.out.trans (hb4'.out.mono (by have := HBN.out; omega))
    case measure => rw [hmu.out, hm4.out]; omega
   ·have e := HTK.out
    unfold Pl.takeS at e
    rw [if_neg hf] at e
    injection e with e1 e2
    injection e2 with e2 e3
    subst e1 e2 e3
    go_wp2_with (first | (go_at_call 35; refine (le_size.calls _ _ _ HRS.out).mono ?_; rintro e w2 ⟨rfl, hb2⟩; have HV2 := Aside0.mk (Kd.V_below HV1.out hb2); have hn2 := Aside0.mk (below_step hn1.out hb2); clear hb2) | (go_at_call 40; refine (le_Take.calls _ _ b z 0 [] 10 _ (Kd.V_reads' HV2.out).2.2 (Kd.V_reads' HV2.out).2.1 HTake.out).mono ?_; rintro e w3 ⟨vr, rfl, ho, hb3⟩; have hn3 := Aside0.mk (below_step hn2.out hb3); clear hb3 ho))
    go_ret2
    have e := HP.out
    rw [List.drop_eq_getElem_cons hif, Pl.unpackGo, ← HZ.out, if_neg hf] at e
    injection e with e1 e2
    subst e1 e2
    exact ⟨_, rfl, Kd.R_nil _ _ _ _ _, hn3.out⟩
  ·have hnext : ∀ ty, (Instr.next (.pointer (some ⟨B, 0, none⟩)) true ty).run Try.prog wr = _ := fun ty => Lib.run_next_end_at wr B a0 i ty hk.out hp
   have e := HP.out
   rw [List.drop_eq_nil_of_le (by rw [Pl.fb_length]; omega), Pl.unpackGo] at e
   by_cases hl : 0 < b.length
   ·have d0 : decide ((0 : Int) < (b.length : Int)) = true := decide_eq_true (by omega)
    have d1 : decide (0 < b.length) = true := decide_eq_true hl
    rw [if_neg (by intro h0; rw [h0] at hl; exact absurd hl (by decide))] at e
    injection e with e1 e2
    subst e1 e2
    go_wp2
    go_ret2
    exact ⟨_, rfl, Kd.R_nil _ _ _ _ _, HB.out⟩
   ·have d0 : decide ((0 : Int) < (b.length : Int)) = false := decide_eq_false (by omega)
    have d1 : decide (0 < b.length) = false := decide_eq_false hl
    rw [if_pos (List.length_eq_zero_iff.1 (by omega))] at e
    injection e with e1 e2
    subst e1 e2
    go_wp2
    go_ret2
    exact ⟨_, rfl, Kd.R_mono (Kd.R_lower HO.out (by rw [HBN.out]; omega)) (fun k hk => by rw [← HBN.out]; omega), HB.out⟩
theorem le_Unpack.calls (a0 : ByteArray) (A1 : Option Addr) (c1 : Nat) (l1 : List Int) (r1 : List Int) (r2 : Int) (w : World) (hr1 : Kd.C (Kd.int .u8) w A1 l1.length l1) (hc1 : l1.length ≤ c1) (h : le_Unpack.f a0 l1 = some (r1, r2)) :
  Calls Try.prog 24 #[.string a0, .slice A1 l1.length c1] w fun e w' => ∃ v0_ : Value, e = .returned (.tuple #[v0_, .int .i64 r2]) ∧ Kd.R (Kd.int .u64) 44 w' w.heap.size (fun _ => True) v0_ r1 ∧ Below w.heap.size w w' :=
 (le_Unpack.callsV a0 _ A1 c1 l1 r1 r2 w (Kx.V_of_C _ _ hc1 hr1) h).mono fun e w' h => by
  obtain ⟨v, he, hr, hb⟩ := h
  exact ⟨v, he, Kd.R_mono hr (fun _ _ => trivial), hb⟩
def extent_data.f (a0_0 : Int) (a0_1 : Int) (a0_2 : Int) (a0_3 : Int) (l0_4 : List Int) : Option (Int) := if a0_2 = 2 then (some (wrap64 (a0_1 * 32))) else (some 0)
set_option maxHeartbeats 8000000 in
set_option maxRecDepth 100000 in
theorem extent_data.calls (a0_0 : Int) (a0_1 : Int) (a0_2 : Int) (a0_3 : Int) (A0_4 : Option Addr) (c0_4 : Nat) (l0_4 : List Int) (r : Int) (w : World) (hr0_4 : Kd.C (Kd.int .u8) w A0_4 l0_4.length l0_4) (hc0_4 : l0_4.length ≤ c0_4) (h : extent_data.f a0_0 a0_1 a0_2 a0_3 l0_4 = some r) :
  Calls Try.prog 42 #[.agg #[.int .i64 a0_0, .int .i64 a0_1, .int .i64 a0_2, .int .i64 a0_3, .slice A0_4 l0_4.length c0_4]] w fun e w' => e = .returned (.int .i64 r) ∧ Below w.heap.size w w' := by
 have hu39 := Try.underlying39
 have HR0_4 := Aside0.mk hr0_4
 have HC0_4 := Aside0.mk hc0_4
 clear hr0_4 hc0_4
 have HB := Aside0.mk (Below.refl w.heap.size w)
 have H : (if a0_2 = 2 then (some (wrap64 (a0_1 * 32))) else (some 0)) = some r := h
 clear h
 by_cases c2 : a0_2 = 2
 ·rw [if_pos c2] at H
  have c2b0 : (a0_2 == 2) = true := beq_iff_eq.mpr c2
  have c2b1 : (a0_2 != 2) = false := bne_eq_false_iff_eq.mpr c2
  clear c2
  obtain rfl := Option.some.inj H
  go_enter Try.func42, Try.ntmps42
  go_wp2_with (first | ((with_reducible refine gate_dst (N := 1) rfl ?_); refine Cz.bx (N := 1) #[.int .i64 a0_0, .int .i64 a0_1, .int .i64 a0_2, .int .i64 a0_3, .slice A0_4 l0_4.length c0_4] 39 ?_; intro gb111 hg w3 hbox hb; have BK111 := Aside0.mk (hbox); have GW111 := Aside0.mk ((Cz.gs hg : w.heap.size ≤ gb111)); have GE111 := GW111; replace HB := Cz.bs (w := w) hb; clear hb hbox hg; obtain ⟨z4_0, z4_1, z4_2, z4_3, z4_4, y4_0, y4_1, y4_2, y4_3, y4_4⟩ := Cz.d5 BK111))
  go_ret
  exact ⟨Cz.er, Cz.bl (w := w)⟩
 ·rw [if_neg c2] at H
  have c2b0 : (a0_2 == 2) = false := beq_eq_false_iff_ne.mpr c2
  have c2b1 : (a0_2 != 2) = true := bne_iff_ne.mpr c2
  obtain rfl := Option.some.inj H
  go_enter Try.func42, Try.ntmps42
  go_wp2_with (first | ((with_reducible refine gate_dst (N := 1) rfl ?_); refine Cz.bx (N := 1) #[.int .i64 a0_0, .int .i64 a0_1, .int .i64 a0_2, .int .i64 a0_3, .slice A0_4 l0_4.length c0_4] 39 ?_; intro gb111 hg w5 hbox hb; have BK111 := Aside0.mk (hbox); have GW111 := Aside0.mk ((Cz.gs hg : w.heap.size ≤ gb111)); have GE111 := GW111; replace HB := Cz.bs (w := w) hb; clear hb hbox hg; obtain ⟨z6_0, z6_1, z6_2, z6_3, z6_4, y6_0, y6_1, y6_2, y6_3, y6_4⟩ := Cz.d5 BK111))
  go_ret
  exact ⟨Cz.er, Cz.bl (w := w)⟩
def extent_within.f (a0 : Int) (a1 : Int) (a2 : Int) : Option (Bool) := if a0 ≥ a1 then (some (decide (a0 ≤ a2))) else (some false)
set_option maxHeartbeats 8000000 in
set_option maxRecDepth 100000 in
theorem extent_within.calls (a0 : Int) (a1 : Int) (a2 : Int) (r : Bool) (w : World) (h : extent_within.f a0 a1 a2 = some r) :
  Calls Try.prog 50 #[.int .i64 a0, .int .i64 a1, .int .i64 a2] w fun e w' => e = .returned (.bool r) ∧ Drawn0 w w' := by
 have H : (if a0 ≥ a1 then (some (decide (a0 ≤ a2))) else (some false)) = some r := h
 clear h
 by_cases c4 : a0 ≥ a1
 ·rw [if_pos c4] at H
  have c4b0 : decide (a1 ≤ a0) = true := decide_eq_true c4
  clear c4
  obtain rfl := Option.some.inj H
  go_enter Try.func50, Try.ntmps50
  go_wp2
  go_ret
  exact ⟨by first | rfl | (simp; done) | (simp [*]; done), by repeat (first | exact Drawn0.refl _ | apply Drawn0.step)⟩
 ·rw [if_neg c4] at H
  have c4b0 : decide (a1 ≤ a0) = false := decide_eq_false c4
  clear c4
  obtain rfl := Option.some.inj H
  go_enter Try.func50, Try.ntmps50
  go_wp2
  go_ret
  exact ⟨by first | rfl | (simp; done) | (simp [*]; done), by repeat (first | exact Drawn0.refl _ | apply Drawn0.step)⟩
end Go.Proofs.Ytmgohkffphogdaa.PU
