/- Words and walks that this claim names, of those that the kit's print and programs of this workplace have printed. -/
import Derived.Test.YtmgohkffphogdaaZUCz
import Derived.Test.YtmgohkffphogdaaZUPUx15
namespace Go.Proofs.Ytmgohkffphogdaa.PU
open Go.Proofs.Ytmgohkffphogdaa Go.RowKit Go.Proofs.YtmgohkffphogdaaW.PrintWords Go.Proofs.YtmgohkffphogdaaW.PrintLast Go.Proofs.YtmgohkffphogdaaW.PrintMore
attribute [local go_sem] max2_int min2_int max_two min_two max_three min_three max_four min_four
set_option linter.unusedVariables false
set_option linter.unusedSimpArgs false
def le_Put_p.l0 : Nat → Int → List Int → Int → Int → Option (List Int × Int)
 | 0, _, _, _, _ => none
 | k + 1, x1, x8, x15, x16 => if x16 < x15 then (if x8.length < 140737488355328 then (le_Put_p.l0 k (x1 / 256) (x8 ++ [(x1) % 256]) x15 (wrap64 (x16 + 1))) else (none)) else (some (x8, 0))
def le_Put_p.f (k : Nat) (l0 : List Int) (a1 : Int) (a2 : Int) : Option (List Int × Int) := (le_may.f a1 a2).bind fun t121 => (if t121 = true then ((bytes_Clone.f l0).bind fun t122 => (le_Put_p.l0 k a1 t122 a2 0)) else (some (([] : List Int), 10)))
set_option maxHeartbeats 8000000 in
set_option maxRecDepth 100000 in
theorem le_Put_p.calls (k : Nat) (A0 : Option Addr) (c0 : Nat) (l0 : List Int) (a1 : Int) (a2 : Int) (r1 : List Int) (r2 : Int) (w : World) (hr0 : Kd.C (Kd.int .u8) w A0 l0.length l0) (hc0 : l0.length ≤ c0) (h : le_Put_p.f k l0 a1 a2 = some (r1, r2)) :
  Calls Try.prog 34 #[.slice A0 l0.length c0, .int .u64 a1, .int .i64 a2] w fun e w' => ∃ v0_ : Value, e = .returned (.tuple #[v0_, .int .i64 r2]) ∧ Kd.R (Kd.int .u8) 5 w' w.heap.size (fun _ => True) v0_ r1 ∧ Below w.heap.size w w' := by
 have HR0 := Aside0.mk hr0
 have HC0 := Aside0.mk hc0
 clear hr0 hc0
 have HB := Aside0.mk (Below.refl w.heap.size w)
 have H : ((le_may.f a1 a2).bind fun t121 => (if t121 = true then ((bytes_Clone.f l0).bind fun t122 => (le_Put_p.l0 k a1 t122 a2 0)) else (some (([] : List Int), 10)))) = some (r1, r2) := h
 clear h
 replace H := Option.bind_eq_some_iff.mp H
 obtain ⟨t121, A40, H⟩ := H
 (try dsimp only at H)
 have A4 := Aside0.mk A40
 clear A40
 by_cases c5 : t121 = true
 ·subst c5
  rw [if_pos rfl] at H
  replace H := Option.bind_eq_some_iff.mp H
  obtain ⟨t122, A60, H⟩ := H
  (try dsimp only at H)
  have A6 := Aside0.mk A60
  clear A60
  have H' := Aside0.mk H
  clear H
  go_enter Try.func34, Try.ntmps34
  go_wp2_with (first | ((with_reducible refine gate_callee (f := 48) rfl ?_); refine Cz.gL (N := (some 11)) Try.func48 #[.int .u64 a1, .int .i64 a2] ?_; (with_reducible refine (le_may.calls a1 a2 true _ A4.out).mono ?_); rintro e w' ⟨rfl, ⟨nd, rfl⟩⟩; refine ⟨_, rfl, ?_⟩) | ((with_reducible refine gate_callee (f := 25) rfl ?_); refine Cz.gL (N := (some 14)) Try.func25 #[.slice A0 l0.length c0] ?_; (with_reducible refine (bytes_Clone.calls _ _ l0 t122 _ ?side1 ?side2 A6.out).mono ?_); (case side1 => repeat (first | exact HR0.out | (with_reducible refine Kd.C_alloc ?_ _) | (with_reducible refine Kd.C_drewN ?_ _) | (with_reducible refine Kd.C_drew ?_))); (case side2 => exact HC0.out); rintro e w7 ⟨v123, rfl, ho0, hb⟩; refine ⟨_, rfl, ?_⟩; have HO124 := Aside0.mk (Kd.R_lower ho0 (below_size (Cz.bl (w := w)))); replace HB := Cz.bs (w := w) hb; (try clear hb); (try clear ho0)))
  go_loopg [1, 8, 16] k (fun kq v1 v8 v16 w' => ∃ (x1_1 : Int) (x8_1 : List Int) (x16_1 : Int), v1 = .int .u64 x1_1 ∧ v16 = .int .i64 x16_1 ∧ Aside0 (le_Put_p.l0 kq x1_1 x8_1 a2 x16_1 = some (r1, r2)) ∧ Aside0 (kq ≤ k) ∧ Aside0 (Kd.R (Kd.int .u8) 5 w' w.heap.size (fun _ => True) v8 x8_1) ∧ Aside0 (Below w.heap.size w w'))
  case atStart => exact ⟨(a1), (t122), (0), Cz.si, Cz.si, H', ⟨Nat.le_refl _⟩, ⟨by (with_reducible repeat (first | apply Kd.R_alloc | apply Kd.R_drewN | apply Kd.R_drew)); exact HO124.out⟩, ⟨Cz.bl (w := w)⟩⟩
  case round =>
   clear H'
   try clear c2
   try clear p2
   try clear c3
   try clear c4
   try clear c5
   obtain ⟨x1_1, x8_1, x16_1, rfl, rfl, HA, HK1, HO_8, HB⟩ := hrel
   cases gk with
   | zero => exact absurd HA.out (by simp [le_Put_p.l0])
   | succ k1 =>
    have H := HA.out
    clear HA
    simp only [le_Put_p.l0] at H
    by_cases c8 : x16_1 < a2
    ·rw [if_pos c8] at H
     have c8b0 : decide (x16_1 < a2) = true := decide_eq_true c8
     clear c8
     by_cases c9 : x8_1.length < 140737488355328
     ·rw [if_pos c9] at H
      have LMc9 := Aside0.mk c9
      clear c9
      obtain ⟨y125, hy125⟩ : ∃ y_ : List Int, y_ = (x8_1 ++ [(x1_1) % 256]) := ⟨_, rfl⟩
      replace H : (le_Put_p.l0 k1 (x1_1 / 256) y125 a2 (wrap64 (x16_1 + 1))) = some (r1, r2) := by first | (rw [hy125]; with_reducible exact H) | (have H2_ := (Option.bind_some _ _).symm.trans H; rw [hy125]; with_reducible exact H2_) | (have H2_ := (Option.bind_some _ _).symm.trans H; with_reducible exact H2_) | with_reducible exact H | (rw [hy125]; exact H) | exact H
      have Ny125 := Aside0.mk hy125
      clear hy125
      have H' := Aside0.mk H
      clear H
      go_wp2_with (first | ((with_reducible refine gate_builtin (b := .append) (xs := #[.tmp 18, .tmp 21]) rfl ?_); at_builtin; refine Kd.R_append (Kd.int .u8) (w0 := w) w.heap.size rfl (.tmp 18) (.tmp 21) 23 5 (.int .u8 0) 1 rfl Try.underlying23 info5 rfl (by decide) (by omega) u8 x8_1 ((x1_1) % 256) [.int .u8 ((x1_1) % 256)] (fun _ => True) (fun _ => False) rfl rfl ?aP (fun _ hk => hk.elim) ?aF ?aO ?aB ?aS ?aL ?_; (case aP => exact rfl); (case aB => exact (Cz.bl (w := w))); (case aF => exact (fun _ _ => trivial)); (case aO => exact (by (with_reducible repeat (first | apply Kd.R_alloc | apply Kd.R_drewN | apply Kd.R_drew)); exact HO_8.out)); (case aS => exact (below_size (Cz.bl (w := w)))); (case aL => have := LMc9.out; omega); intro v126 w10 ho hb hg hat; rw [← Ny125.out] at ho; have HO127 := Aside0.mk (ho); replace HB := Aside0.mk (hb); clear HO_8; clear ho hb hg hat))
      go_roundg k1
      case measure => have := HK1.out; omega
      case rel => exact ⟨(x1_1 / 256), (y125), (wrap64 (x16_1 + 1)), Cz.si, Cz.si, H', ⟨by have := HK1.out; omega⟩, ⟨by (with_reducible repeat (first | apply Kd.R_alloc | apply Kd.R_drewN | apply Kd.R_drew)); exact HO127.out⟩, ⟨Cz.bl (w := w)⟩⟩
     ·rw [if_neg c9] at H
      exact absurd H (by simp)
    ·rw [if_neg c8] at H
     have c8b0 : decide (x16_1 < a2) = false := decide_eq_false c8
     clear c8
     simp only [Option.some.injEq, Prod.mk.injEq] at H
     obtain ⟨rfl, rfl⟩ := H
     go_wp2
     go_ret2
     exact ⟨_, Cz.er, Cz.rh, Cz.bl (w := w)⟩
 ·replace c5 := Bool.eq_false_iff.mpr c5
  subst c5
  rw [if_neg (show ¬ (false = true) by decide)] at H
  simp only [Option.some.injEq, Prod.mk.injEq] at H
  obtain ⟨rfl, rfl⟩ := H
  go_enter Try.func34, Try.ntmps34
  go_wp2_with (first | ((with_reducible refine gate_callee (f := 48) rfl ?_); refine Cz.gL (N := (some 11)) Try.func48 #[.int .u64 a1, .int .i64 a2] ?_; (with_reducible refine (le_may.calls a1 a2 false _ A4.out).mono ?_); rintro e w' ⟨rfl, ⟨nd, rfl⟩⟩; refine ⟨_, rfl, ?_⟩))
  go_ret2
  exact ⟨_, Cz.er, by first | exact Kd.R_nil _ _ _ _ _ | exact Kd.N_nil _ _ _ _ _ | exact Kd.V_nil _ _ _ _ _ | exact Kd.Q_nil _ _ _ _ _ | exact Kd.S_nil _ _ _ _ _, Cz.bl (w := w)⟩
def le_Put.f (l0 : List Int) (a1 : Int) (a2 : Int) : Option (List Int × Int) := if 0 ≤ a1 ∧ a1 < 18446744073709551616 ∧ l0.length < 70368744177664 then some (Pl.putS l0 a1 a2) else none
theorem le_Put.loop : ∀ (d : Nat) (k : Nat) (n : Nat) (l : List Int) (s i : Int), d < k → 0 ≤ i → i + d = s → s ≤ 8 → l.length + d < 140737488355328 → le_Put_p.l0 k (n : Int) l s i = some (l ++ Pl.leB d n, 0)
 | 0, k, n, l, s, i, hk, h0, hd, hs, hl => by
  obtain ⟨k, rfl⟩ : ∃ m, k = m + 1 := ⟨k - 1, by omega⟩
  simp only [le_Put_p.l0]
  rw [if_neg (by omega), Pl.leB, List.append_nil]
 | d + 1, k, n, l, s, i, hk, h0, hd, hs, hl => by
  obtain ⟨k, rfl⟩ : ∃ m, k = m + 1 := ⟨k - 1, by omega⟩
  simp only [le_Put_p.l0]
  rw [if_pos (by omega), if_pos (by omega), show wrap64 (i + 1) = i + 1 from by unfold wrap64; omega, show (n : Int) / 256 = ((n / 256 : Nat) : Int) from by omega,
   le_Put.loop d k (n / 256) _ s (i + 1) (by omega) (by omega) (by omega) hs (by rw [List.length_append, List.length_singleton]; omega)]
  rw [Pl.leB, List.append_assoc, List.singleton_append, show (n : Int) % 256 = ((n % 256 : Nat) : Int) from by omega]
theorem le_may.tells (n : Nat) (hn : n < 18446744073709551616) (s : Int) : le_may.f n s = some (Pl.fits n s) := by
 unfold le_may.f
 by_cases h1 : s = 1
 ·subst h1
  have e : (wrap64 (8 * 1)) = 8 := by unfold wrap64; omega
  rw [if_pos rfl, e, if_pos (by decide), Pl.fits_1]
  simp only [shr, IntKind.bits, Option.some.injEq]
  rw [Bool.eq_iff_iff]
  simp
  omega
 by_cases h2 : s = 2
 ·subst h2
  have e : (wrap64 (8 * 2)) = 16 := by unfold wrap64; omega
  rw [if_neg (by decide), if_pos rfl, e, if_pos (by decide), Pl.fits_2]
  simp only [shr, IntKind.bits, Option.some.injEq]
  rw [Bool.eq_iff_iff]
  simp
  omega
 by_cases h4 : s = 4
 ·subst h4
  have e : (wrap64 (8 * 4)) = 32 := by unfold wrap64; omega
  rw [if_neg (by decide), if_neg (by decide), if_pos rfl, e, if_pos (by decide), Pl.fits_4]
  simp only [shr, IntKind.bits, Option.some.injEq]
  rw [Bool.eq_iff_iff]
  simp
  omega
 rw [if_neg h1, if_neg h2, if_neg h4]
 by_cases h8 : s = 8
 ·subst h8
  rw [Pl.fits_8 (by omega)]
  rfl
 ·rw [Pl.fits_no (by rw [← Bool.not_eq_true, Pl.okS_iff]; omega)]
  simpa using h8
theorem le_Put.tells {l0 : List Int} {a1 a2 : Int} {r : List Int × Int} (h : le_Put.f l0 a1 a2 = some r) : le_Put_p.f 10 l0 a1 a2 = some r := by
 unfold le_Put.f at h
 split at h
 case isFalse => cases h
 rename_i hh
 obtain ⟨h0, h1, h2⟩ := hh
 obtain rfl := Option.some.inj h
 obtain ⟨n, rfl⟩ := Int.eq_ofNat_of_zero_le h0
 unfold le_Put_p.f
 rw [le_may.tells n (by omega) a2, Option.bind_some]
 unfold Pl.putS
 by_cases hf : Pl.fits n a2 = true
 ·have hs : a2 = 1 ∨ a2 = 2 ∨ a2 = 4 ∨ a2 = 8 := by
   unfold Pl.fits at hf
   rw [Bool.and_eq_true, Pl.okS_iff] at hf
   exact hf.1
  rw [if_pos hf, if_pos hf]
  unfold bytes_Clone.f
  rw [if_pos (by omega), Option.bind_some, Int.toNat_natCast]
  exact le_Put.loop a2.toNat 10 n l0 a2 0 (by omega) (by omega) (by omega) (by omega) (by omega)
 ·rw [if_neg hf, if_neg hf]
theorem le_Put.calls (A0 : Option Addr) (c0 : Nat) (l0 : List Int) (a1 : Int) (a2 : Int) (r1 : List Int) (r2 : Int) (w : World) (hr0 : Kd.C (Kd.int .u8) w A0 l0.length l0) (hc0 : l0.length ≤ c0) (h : le_Put.f l0 a1 a2 = some (r1, r2)) :
  Calls Try.prog 34 #[.slice A0 l0.length c0, .int .u64 a1, .int .i64 a2] w fun e w' => ∃ v0_ : Value, e = .returned (.tuple #[v0_, .int .i64 r2]) ∧ Kd.R (Kd.int .u8) 5 w' w.heap.size (fun _ => True) v0_ r1 ∧ Below w.heap.size w w' :=
 le_Put_p.calls 10 A0 c0 l0 a1 a2 r1 r2 w hr0 hc0 (le_Put.tells h)
def le_Pack.f (a0 : ByteArray) (l1 : List Int) : Option (List Int × Int) := if Pl.u64B l1 = true ∧ a0.size < 2147483648 then some (Pl.packS (Pl.fb a0) l1) else none
theorem R_iter {α : Type} {d : Kd α} {e base : Nat} {ok : Nat → Prop} {v : Value} {xs : List α} {w : World} {B : Nat} (h : d.R e w base ok v xs) (hB : B < base) (s : ByteArray) (p : Nat) : d.R e (w.iterAt B s p) base ok v xs :=
 Kd.R_mono (Kd.R_move (Kd.R_bound h) (fun k hk => Lib.iterAt_other w B k s p (by have := hk.2.1; omega))) (fun _ hk => hk.1)
theorem rune_size (s : ByteArray) (i : Nat) (h : i < s.size) : Pl.letS ((Utf8.decode s i).1 : Int) = Pl.letS ((Pl.fb s)[i]'(by rw [Pl.fb_length]; exact h)) ∧ (Pl.letS ((Pl.fb s)[i]'(by rw [Pl.fb_length]; exact h)) ≠ 0 → (Utf8.decode s i).2 = 1) := by
 have e : (Pl.fb s)[i]'(by rw [Pl.fb_length]; exact h) = (((s[i]'h).toNat : Nat) : Int) := by
  simp only [Pl.fb, List.getElem_map]
  rfl
 rw [e]
 by_cases ha : (s[i]'h).toNat < 128
 ·rw [decode_ascii s i h ha]
  exact ⟨rfl, fun _ => rfl⟩
 ·have hd := decode_high s i h (by omega)
  have z : ∀ c : Nat, 128 ≤ c → Pl.letS (c : Int) = 0 := fun c hc => by
   unfold Pl.letS
   rw [if_neg (by omega), if_neg (by omega), if_neg (by omega), if_neg (by omega)]
  rw [z _ hd.1, z _ (by omega)]
  exact ⟨rfl, fun h => absurd rfl h⟩
set_option maxHeartbeats 8000000 in
set_option maxRecDepth 2000000 in
theorem le_Pack.calls (a0 : ByteArray) (A1 : Option Addr) (c1 : Nat) (l1 : List Int) (r1 : List Int) (r2 : Int) (w : World) (hr1 : Kd.C (Kd.int .u64) w A1 l1.length l1) (hc1 : l1.length ≤ c1) (h : le_Pack.f a0 l1 = some (r1, r2)) :
  Calls Try.prog 20 #[.string a0, .slice A1 l1.length c1] w fun e w' => ∃ v0_ : Value, e = .returned (.tuple #[v0_, .int .i64 r2]) ∧ Kd.R (Kd.int .u8) 5 w' w.heap.size (fun _ => True) v0_ r1 ∧ Below w.heap.size w w' := by
 unfold le_Pack.f at h
 split at h
 case isFalse => cases h
 rename_i hh
 obtain ⟨hu, hsz⟩ := hh
 have HP0 := Aside0.mk (Option.some.inj h)
 have HU := Aside0.mk hu
 have HR1 := Aside0.mk hr1
 have HC1 := Aside0.mk hc1
 clear h hu hr1 hc1
 obtain ⟨B, hB⟩ : ∃ B, B = w.heap.size := ⟨_, rfl⟩
 have HBN := Aside0.mk hB
 clear hB
 have hk0 : Aside0 ((w.iter a0 0).heap[B]? = some (.stringIter a0 0)) := ⟨by rw [HBN.out]; exact World.iter_heap w a0 0⟩
 have hb0 : Aside0 (Below w.heap.size w (w.iter a0 0)) := ⟨(Below.refl _ w).alloc (Nat.le_refl _) _⟩
 have hs0 : Aside0 (B + 1 ≤ (w.iter a0 0).heap.size) := ⟨by rw [HBN.out]; simp [World.iter]⟩
 go_enter Try.func20, Try.ntmps20
 go_wp2
 rw [← HBN.out]
 generalize w.iter a0 0 = w0 at hk0 hb0 hs0 ⊢
 go_loopw [4, 6] (fun v at_ wr => ∃ (i : Nat) (out : List Int), i ≤ a0.size ∧ i ≤ l1.length ∧ at_ = .int .i64 i ∧ Aside0 (out.length ≤ 8 * i) ∧ Aside0 (wr.heap[B]? = some (.stringIter a0 i)) ∧ Aside0 (Kd.R (Kd.int .u8) 5 wr (B + 1) (fun _ => True) v out) ∧ Aside0 (Pl.packGo out ((Pl.fb a0).drop i) (l1.drop i) = (r1, r2)) ∧ Aside0 (B + 1 ≤ wr.heap.size) ∧ Aside0 (Below w.heap.size w wr)) (fun _ at_ _ => a0.size - (intOf at_).toNat)
 case atStart => exact ⟨0, [], by omega, by omega, rfl, ⟨by simp⟩, hk0, ⟨Kd.R_nil _ _ _ _ _⟩, HP0, hs0, hb0⟩
 case round =>
  clear hk0 hb0 hs0 HP0
  obtain ⟨i, out, hi, hil, rfl, HOL, hk, HO, HP, HS, HB⟩ := hrel
  by_cases hp : i < a0.size
  ·obtain ⟨rs, rn⟩ := rune_size a0 i hp
   have hif : i < (Pl.fb a0).length := by rw [Pl.fb_length]; exact hp
   have hle := decode_le a0 i
   obtain ⟨z, hz⟩ : ∃ z, z = Pl.letS ((Pl.fb a0)[i]'hif) := ⟨_, rfl⟩
   rw [← hz] at rs rn
   have hnext : ∀ ty, (Instr.next (.pointer (some ⟨B, 0, none⟩)) true ty).run Try.prog wr = _ := fun ty => Lib.run_next_any_at wr B a0 i ty hk.out hp
   obtain ⟨q, hq⟩ : ∃ q, q = i + (Utf8.decode a0 i).2 := ⟨_, rfl⟩
   rw [← hq] at hnext
   have HRN : Aside0 (z ≠ 0 → q = i + 1) := ⟨fun h => by rw [hq, rn h]⟩
   obtain ⟨c, hc⟩ : ∃ c, c = (Utf8.decode a0 i).1 := ⟨_, rfl⟩
   rw [← hc] at hnext rs hle
   have HRS : Aside0 (le_size.f (c : Int) = some z) := ⟨by unfold le_size.f; rw [if_pos ⟨by omega, by omega⟩, rs]⟩
   clear hq hc rs rn hle
   have hk1 := Aside0.mk (Lib.iterAt_heap wr B a0 i q hk.out)
   have hn1 := Aside0.mk (Lib.below_iterAt (k := B) HB.out (by rw [HBN.out]; exact Nat.le_refl _) a0 q)
   have HO1 := Aside0.mk (R_iter HO.out (Nat.lt_succ_self B) a0 q)
   have hs1 : Aside0 (B + 1 ≤ (wr.iterAt B a0 q).heap.size) := ⟨by rw [Lib.iterAt_size]; exact HS.out⟩
   clear hk HO HS HB
   generalize wr.iterAt B a0 q = W1 at hnext hk1 hn1 HO1 hs1
   by_cases hl : i < l1.length
   ·have d0 : ((i : Int) == (l1.length : Int)) = false := by simp; omega
    have d1 : (i == l1.length) = false := by simp; omega
    have hrd : rd l1 (i : Int) = l1[i]'hl := by unfold rd; rw [Int.toNat_natCast, List.getD_eq_getElem?_getD, List.getElem?_eq_getElem hl, Option.getD_some]
    have hnb := Pl.u64B_iff.1 HU.out _ (List.getElem_mem hl)
    obtain ⟨x, hx⟩ : ∃ x, x = l1[i]'hl := ⟨_, rfl⟩
    rw [← hx] at hrd hnb
    have HX := Aside0.mk hx
    clear hx
    have HRX := Aside0.mk (Kd.C_below HR1.out hn1.out)
    obtain ⟨ad, rfl, -⟩ := Kd.at_int HRX.out (i : Int) (by omega) (by omega)
    have hcell : ∀ W : World, Kd.C (Kd.int .u64) W (some ad) l1.length l1 → W.cell? (ad.add i) = some (.int .u64 x) := fun W h => by
     obtain ⟨ad', e, hx'⟩ := Kd.at_int h (i : Int) (by omega) (by omega)
     cases e
     rw [hrd, Int.toNat_natCast] at hx'
     exact hx'
    obtain ⟨Ao, co, rfl, hco, hro⟩ := Kd.R_reads HO1.out
    have HCo := Aside0.mk hco
    have HRo := Aside0.mk hro
    have HRn := HRX
    have HB := Aside0.mk (Below.refl W1.heap.size W1)
    have HL := Aside0.mk hcell
    have k0 := eq_true hl
    have HPut : Aside0 (le_Put.f out x z = some (Pl.putS out x z)) := ⟨by unfold le_Put.f; rw [if_pos ⟨hnb.1, hnb.2, by have := HOL.out; omega⟩]⟩
    clear hro hco HRX hcell hrd
    obtain ⟨p, E, HPE⟩ : ∃ p E, Aside0 (Pl.putS out x z = (p, E)) := ⟨_, _, ⟨rfl⟩⟩
    rw [HPE.out] at HPut
    go_wp2
    have HB' := Aside0.mk (below_drew HB.out); clear HB; have HB := HB'; clear HB'
    have HRn' := Aside0.mk (Kd.C_drew HRn.out); clear HRn; have HRn := HRn'; clear HRn'
    have HRo' := Aside0.mk (Kd.C_drew HRo.out); clear HRo; have HRo := HRo'; clear HRo'
    refine start_ (n := 13) (S := fun w' => w'.cell? (ad.add i) = some (.int .u64 x)) (ds := []) #[false, false, false, false, false, false, false, false, false, false, false, false, false] (by kernel_rfl) rfl rfl ((HL.out _ HRn.out)) (fun hHeld => ?_)
    generalize W1.drew = wd951 at HB HRn HRo hHeld ⊢
    refine Cz.rP 0 19 ?_
    refine Cz.rP 1 20 ?_
    refine Cz.rP 2 21 ?_
    refine Cz.rP 3 22 ?_
    refine Cz.rP 5 24 ?_
    refine take_ (i := 4) (N := some 23) (v := ?_) (a' := ?_) #[true, true, true, true, true, true, false, false, false, false, false, false, false] rfl rfl (by kernel_rfl) (fun _ _ _ h => h) (Or.inl ⟨by rfl, ?_⟩) hHeld ?_ ?_
    rotate_left
    ·rintro w' s0
     go_simp
     with_reducible rfl
    rotate_left
    ·simp only [Act.put, Kx.sb, Kx.sz, Kx.ss, i64_w, i32_w]
     rfl
    refine Cz.rO (N := some 25) 6 (fun K hK => ?_)
    refine goes_ Try.func35 (by kernel_rfl) rfl #[.int .i32 (c : Int)] (by rfl) rfl rfl (by simp only [List.map_toArray, List.map_cons, List.map_nil]; rfl) ?_
    refine (le_size.calls _ _ _ HRS.out).mono ?_
    rintro e w95106 ⟨rfl, hb⟩
    refine ⟨_, rfl, ?_⟩
    have HB' := Aside0.mk (below_step HB.out hb); clear HB; have HB := HB'; clear HB'
    have HRn' := Aside0.mk (Kd.C_below HRn.out hb); clear HRn; have HRn := HRn'; clear HRn'
    have HRo' := Aside0.mk (Kd.C_below HRo.out hb); clear HRo; have HRo := HRo'; clear HRo'
    clear hb
    refine hK.out _ _ ((HL.out _ HRn.out)) (fun hHeld => ?_)
    clear hK K
    refine norm_ (a' := ?_) ?_ ?_
    rotate_left
    ·show Act.put _ (some 25) _ = _
     simp only [Act.put, Kx.sb, Kx.sz, Kx.ss, i64_w, i32_w]
     rfl
    refine Cz.rO (N := some 26) 7 (fun K hK => ?_)
    refine goes_ Try.func34 (by kernel_rfl) rfl #[.slice Ao out.length co, .int .u64 x, .int .i64 z] (by rfl) rfl rfl (by simp only [List.map_toArray, List.map_cons, List.map_nil]; rfl) ?_
    refine (le_Put.calls Ao co out x z _ _ _ HRo.out HCo.out HPut.out).mono ?_
    rintro e w95107 ⟨vp, rfl, hop, hb⟩
    refine ⟨_, rfl, ?_⟩
    have HZp := Aside0.mk HB.out.size
    have HB' := Aside0.mk (below_step HB.out hb); clear HB; have HB := HB'; clear HB'
    have HRn' := Aside0.mk (Kd.C_below HRn.out hb); clear HRn; have HRn := HRn'; clear HRn'
    have HRo' := Aside0.mk (Kd.C_below HRo.out hb); clear HRo; have HRo := HRo'; clear HRo'
    clear hb
    have HOp := Aside0.mk hop
    obtain ⟨Ap, cp, rfl, hcp, hrp⟩ := Kd.R_reads hop
    have HRp := Aside0.mk hrp
    have HCp := Aside0.mk hcp
    clear hrp hcp hop
    refine hK.out _ _ ((HL.out _ HRn.out)) (fun hHeld => ?_)
    clear hK K
    refine norm_ (a' := ?_) ?_ ?_
    rotate_left
    ·show Act.put _ (some 26) _ = _
     simp only [Act.put, Kx.sb, Kx.sz, Kx.ss, i64_w, i32_w]
     rfl
    refine Cz.rP 8 18 ?_
    refine Cz.rP 9 27 ?_
    refine Cz.rP 10 28 ?_
    refine Cz.rP 11 4 ?_
    refine Cz.rP 12 5 ?_
    refine done_ (by kernel_rfl) ?_
    have HBz := Aside0.mk (below_then hn1.out hn1.out.size HB.out)
    by_cases hf : Pl.fits x z = true
    ·have e := HPE.out
     unfold Pl.putS at e
     rw [if_pos hf] at e
     injection e with e1 e2
     have HE1 := Aside0.mk e1
     subst e2
     clear e1
     go_wp2
     go_roundw
     case rel =>
      have h8 : z ≤ 8 ∧ 0 ≤ z ∧ z ≠ 0 := by
       unfold Pl.fits at hf
       rw [Bool.and_eq_true, Pl.okS_iff] at hf
       omega
      refine ⟨i + 1, p, by omega, by omega, by go_num, ⟨?_⟩, ⟨?_⟩, ⟨Kd.R_lower HOp.out (Nat.le_trans hs1.out ?_)⟩, ⟨?_⟩, ⟨?_⟩, HBz⟩
      ·rw [← HE1.out, List.length_append, Pl.leB_length]; have := HOL.out; omega
      ·rw [HB.out.block B (by have := hs1.out; omega), hk1.out, HRN.out h8.2.2]
      ·exact HZp.out
      ·have e := HP.out
       rw [List.drop_eq_getElem_cons hif, List.drop_eq_getElem_cons hl, Pl.packGo, ← hz, ← HX.out, if_pos hf, HE1.out] at e
       exact e
      ·exact Nat.le_trans hs1.out HB.out.size
     case measure => simp [intOf]; omega
    ·have e := HPE.out
     unfold Pl.putS at e
     rw [if_neg hf] at e
     injection e with e1 e2
     subst e2
     clear e1
     go_wp2
     go_ret2
     have e := HP.out
     rw [List.drop_eq_getElem_cons hif, List.drop_eq_getElem_cons hl, Pl.packGo, ← hz, ← HX.out, if_neg hf] at e
     injection e with e1 e2
     subst e1 e2
     exact ⟨_, rfl, Kd.R_nil _ _ _ _ _, HBz.out⟩
   ·have d0 : ((i : Int) == (l1.length : Int)) = true := by simp; omega
    have d1 : (i == l1.length) = true := by simp; omega
    go_wp2
    go_ret2
    have e := HP.out
    rw [Pl.packGo_ne _ _ _ (by rw [List.length_drop, List.length_drop, Pl.fb_length]; omega)] at e
    injection e with e1 e2
    subst e1 e2
    exact ⟨_, rfl, Kd.R_nil _ _ _ _ _, hn1.out⟩
  ·have hnext : ∀ ty, (Instr.next (.pointer (some ⟨B, 0, none⟩)) true ty).run Try.prog wr = _ := fun ty => Lib.run_next_end_at wr B a0 i ty hk.out hp
   by_cases hl : i < l1.length
   ·have d0 : decide ((i : Int) < (l1.length : Int)) = true := decide_eq_true (by omega)
    have d1 : decide (i < l1.length) = true := decide_eq_true hl
    go_wp2
    go_ret2
    have e := HP.out
    rw [Pl.packGo_ne _ _ _ (by rw [List.length_drop, List.length_drop, Pl.fb_length]; omega)] at e
    injection e with e1 e2
    subst e1 e2
    exact ⟨_, rfl, Kd.R_nil _ _ _ _ _, HB.out⟩
   ·have d0 : decide ((i : Int) < (l1.length : Int)) = false := decide_eq_false (by omega)
    have d1 : decide (i < l1.length) = false := decide_eq_false hl
    go_wp2
    go_ret2
    have e := HP.out
    rw [List.drop_eq_nil_of_le (by rw [Pl.fb_length]; omega), List.drop_eq_nil_of_le (by omega), Pl.packGo] at e
    injection e with e1 e2
    subst e1 e2
    exact ⟨_, rfl, Kd.R_lower HO.out (by rw [HBN.out]; omega), HB.out⟩
end Go.Proofs.Ytmgohkffphogdaa.PU
