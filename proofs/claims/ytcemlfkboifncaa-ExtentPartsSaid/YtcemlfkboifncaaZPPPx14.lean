/- Words and walks that this claim names, of those that the kit's print and programs of this workplace have printed. -/
import Derived.Test.YtcemlfkboifncaaProg
import Derived.Below
import Derived.Deep.Draws
import Derived.Deep.AppendLies
import Derived.Maps.AppendAt
import Derived.OwnWalk
import Derived.Laws.BytesArg
import Derived.Laws.MakeOwn
import Derived.Laws.OwnMore
import Derived.Deep.OwnRows
import Derived.Tactics
import Derived.Lib.ConvBytes
import Derived.Laws.Slices
import Derived.WalkKit
import Derived.KernelRfl
import Derived.RowKit3
import Derived.Deep.LoopGhost
import Derived.Deep.QuietTactic
import Derived.BigQuiet
import Derived.WideLaws
import Derived.Deep.DeepCutAuto
import Derived.Deep.CutBlock
import Derived.Deep.RegionHeld3
import Derived.Laws.Rows
import Derived.Lib.AppendStr
import Derived.ArgAppend
import Derived.Laws.IdiomCopy
import Derived.OrdersHeld
import Derived.Laws.BitsLemmas
import Derived.RowKit
import Derived.Lib.SliceRun
import Derived.Test.YtcemlfkboifncaaZPExts
import Derived.Test.YtcemlfkboifncaaZPGb
import Derived.Test.YtcemlfkboifncaaZPScope
import Derived.Test.YtcemlfkboifncaaZPWWords
import Derived.Test.YtcemlfkboifncaaZPWApart
import Derived.WalkMore
import Derived.Test.YtcemlfkboifncaaZPForm
import Derived.Test.YtcemlfkboifncaaZPWLast
import Derived.Test.YtcemlfkboifncaaZPKd
import Derived.Laws.RangeAny
import Derived.Lib.OthersKept
import Derived.Test.YtcemlfkboifncaaZPLe
import Derived.Laws.BitsAllLaws
import Derived.Laws.StandIn
import Derived.Laws.Runes
import Derived.Test.YtcemlfkboifncaaZPArr
import Derived.Test.YtcemlfkboifncaaZPStr
import Derived.Test.YtcemlfkboifncaaZPWTab
import Derived.Test.YtcemlfkboifncaaZPWFoot
import Derived.Test.YtcemlfkboifncaaZPWKept
import Derived.Test.YtcemlfkboifncaaZPWShare
import Derived.Test.YtcemlfkboifncaaZPWN
import Derived.Test.YtcemlfkboifncaaZPWRepsOne
import Derived.Test.YtcemlfkboifncaaZPWGuard
import Derived.Test.YtcemlfkboifncaaZPWMore
namespace Go.Proofs.Ytcemlfkboifncaa.PP
open Go.RowKit Go.Proofs.YtcemlfkboifncaaW.PrintWords Go.Proofs.YtcemlfkboifncaaW.PrintLast Go.Proofs.YtcemlfkboifncaaW.PrintMore
attribute [local go_sem] max2_int min2_int max_two min_two max_three min_three max_four min_four
set_option linter.unusedVariables false
set_option linter.unusedSimpArgs false
def errW : Option Int → Value
  | none => .nilIface
  | some c => .iface 0 (.int .i64 c)
theorem errW_none : errW none = .nilIface := rfl
theorem errW_some (c : Int) : errW (some c) = .iface 0 (.int .i64 c) := rfl
theorem info5 : (Try.prog.info? 5).map (fun i => (i.zero, i.size, i.bytes)) = some (some (.int .u8 0), 1, 1) := by kernel_rfl
theorem info46 : (Try.prog.info? 46).map (fun i => (i.zero, i.size, i.bytes)) = some (some (.agg #[(.int .i64 0), (.int .i64 0), (.int .i64 0), (.int .i64 0), (.slice none 0 0)]), 5, 56) := by kernel_rfl
theorem info68 : (Try.prog.info? 68).map (fun i => (i.zero, i.size, i.bytes)) = some (some (.int .u64 0), 1, 8) := by kernel_rfl
structure S46 where
  f0 : Int
  f1 : Int
  f2 : Int
  f3 : Int
  f4 : (List Int)
def z46 : S46 := ⟨(0 : Int), (0 : Int), (0 : Int), (0 : Int), ([] : List Int)⟩
def k46 : Kd S46 := Kd.iso (Kd.pair (Kd.int .i64) (Kd.pair (Kd.int .i64) (Kd.pair (Kd.int .i64) (Kd.pair (Kd.int .i64) (Kd.slice 5 (Kd.int .u8)))))) (fun x : S46 => (x.f0, x.f1, x.f2, x.f3, x.f4))
theorem k46_open {w : World} {x : S46} {cs : List Value} (h : k46.K w x cs) : ∃ A4 c4, cs = [.int .i64 x.f0, .int .i64 x.f1, .int .i64 x.f2, .int .i64 x.f3, .slice A4 x.f4.length c4] ∧ x.f4.length ≤ c4 ∧ (Kd.int .u8).C w A4 x.f4.length x.f4 := by
  obtain ⟨_, _, rfl, rfl, ⟨_, _, rfl, rfl, ⟨_, _, rfl, rfl, ⟨_, _, rfl, rfl, ⟨A4, c4, rfl, l4, g4⟩⟩⟩⟩⟩ := h
  exact ⟨A4, c4, rfl, l4, g4⟩
theorem k46_mkM (w : World) (base : Nat) (ok : Nat → Prop) (x : S46) {v4 : Value} (g4 : (Kd.int .u8).R 5 w base ok v4 x.f4) : k46.M w base ok x [.int .i64 x.f0, .int .i64 x.f1, .int .i64 x.f2, .int .i64 x.f3, v4] := ⟨[.int .i64 x.f0], [.int .i64 x.f1, .int .i64 x.f2, .int .i64 x.f3, v4], rfl, rfl, ⟨[.int .i64 x.f1], [.int .i64 x.f2, .int .i64 x.f3, v4], rfl, rfl, ⟨[.int .i64 x.f2], [.int .i64 x.f3, v4], rfl, rfl, ⟨[.int .i64 x.f3], [v4], rfl, rfl, ⟨v4, rfl, g4⟩⟩⟩⟩⟩
def rd_T46 (xs : List S46) (i : Int) : S46 := xs.getD i.toNat z46
theorem at_T46 {w : World} {A : Option Addr} {n : Nat} {xs : List S46} (h : Kd.C k46 w A n xs) (i : Int) (h0 : 0 ≤ i) (h1 : i < n) : ∃ ad A4 c4, A = some ad ∧ w.cell? (ad.add (i.toNat * 5)) = some (.int .i64 (rd_T46 xs i).f0) ∧ w.cell? ⟨(ad.add (i.toNat * 5)).block, (ad.add (i.toNat * 5)).off + 1, none⟩ = some (.int .i64 (rd_T46 xs i).f1) ∧ w.cell? ⟨(ad.add (i.toNat * 5)).block, (ad.add (i.toNat * 5)).off + 2, none⟩ = some (.int .i64 (rd_T46 xs i).f2) ∧ w.cell? ⟨(ad.add (i.toNat * 5)).block, (ad.add (i.toNat * 5)).off + 3, none⟩ = some (.int .i64 (rd_T46 xs i).f3) ∧ w.cell? ⟨(ad.add (i.toNat * 5)).block, (ad.add (i.toNat * 5)).off + 4, none⟩ = some (.slice A4 (rd_T46 xs i).f4.length c4) ∧ (rd_T46 xs i).f4.length ≤ c4 ∧ (Kd.int .u8).C w A4 (rd_T46 xs i).f4.length (rd_T46 xs i).f4 := by
  obtain ⟨ad, c, e, _, hK, hc0⟩ := Kd.C_get h z46 i h0 h1
  have hc : ∀ j u, c[j]? = some u → w.cell? (ad.add (i.toNat * 5 + j)) = some u := hc0
  obtain ⟨A4, c4, rfl, l4, g4⟩ := k46_open hK
  exact ⟨ad, A4, c4, e, hc 0 _ rfl, by rw [← add_field _ _ 1 (by omega)]; exact hc 1 _ rfl, by rw [← add_field _ _ 2 (by omega)]; exact hc 2 _ rfl, by rw [← add_field _ _ 3 (by omega)]; exact hc 3 _ rfl, by rw [← add_field _ _ 4 (by omega)]; exact hc 4 _ rfl, l4, g4⟩
def toE (s : S46) : Pl.Ext := (s.f0, s.f1, s.f2, s.f3, s.f4)
def ofE (e : Pl.Ext) : S46 := ⟨e.1, e.2.1, e.2.2.1, e.2.2.2.1, e.2.2.2.2⟩
theorem rd_getE (l : List S46) (i : Nat) (h : i < l.length) : rd_T46 l (i : Int) = l[i] := by
  unfold rd_T46
  rw [Int.toNat_natCast, List.getD_eq_getElem?_getD, List.getElem?_eq_getElem h, Option.getD_some]
end Go.Proofs.Ytcemlfkboifncaa.PP
namespace Go.Proofs.Ytcemlfkboifncaa.PP
open Go.RowKit Go.Proofs.YtcemlfkboifncaaW.PrintWords Go.Proofs.YtcemlfkboifncaaW.PrintLast Go.Proofs.YtcemlfkboifncaaW.PrintMore
attribute [local go_sem] max2_int min2_int max_two min_two max_three min_three max_four min_four
end Go.Proofs.Ytcemlfkboifncaa.PP
namespace Go.Proofs.Ytcemlfkboifncaa.PP
open Go.RowKit Go.Proofs.YtcemlfkboifncaaW.PrintWords Go.Proofs.YtcemlfkboifncaaW.PrintLast Go.Proofs.YtcemlfkboifncaaW.PrintMore
attribute [local go_sem] max2_int min2_int max_two min_two max_three min_three max_four min_four
set_option linter.unusedVariables false
set_option linter.unusedSimpArgs false
theorem stringslite_IndexByte.goes (s : ByteArray) (c : Int) (w : World) :
  Calls Try.prog 82 #[.string s, .int .u8 c] w fun e w' => e = .returned (.int .i64 (firstIdx s c.toNat.toUInt8)) ∧ Drawn0 w w' := by
 have hx : ∀ w : World, (callFunc 83 #[.string s, .int .u8 c]).run Try.prog w = .ok (.value (.int .i64 (firstIdx s c.toNat.toUInt8))) w := fun w => by
  rw [run_callFunc_indexByte Try.func83 (by kernel_rfl) (by kernel_rfl) (by kernel_rfl) (by kernel_rfl), run_indexByte_string]
  rfl
 go_enter Try.func82, Try.ntmps82
 go_wp2
 go_ret
 exact ⟨rfl, Drawn0.refl _⟩
theorem strings_IndexByte.goes (s : ByteArray) (c : Int) (w : World) :
  Calls Try.prog 77 #[.string s, .int .u8 c] w fun e w' => e = .returned (.int .i64 (firstIdx s c.toNat.toUInt8)) ∧ Drawn0 w w' := by
 go_enter Try.func77, Try.ntmps77
 go_wp2_with (first | (go_at_call 82; refine (stringslite_IndexByte.goes s c _).mono ?_; rintro e w' ⟨rfl, ⟨nd, rfl⟩⟩))
 go_ret
 exact ⟨rfl, ⟨nd, rfl⟩⟩
def utf8_ValidRune.j0 : Nat → Int → Bool → Option (Bool)
 | 0, _, _ => none
 | k + 1, x0, x3 => if x3 = true then (some true) else (if 57343 < x0 then (if x0 ≤ 1114111 then (some true) else (some false)) else (some false))
def utf8_ValidRune.f (k : Nat) (a0 : Int) : Option (Bool) := if 0 ≤ a0 then (utf8_ValidRune.j0 k a0 (decide (a0 < 55296))) else (utf8_ValidRune.j0 k a0 false)
set_option maxHeartbeats 8000000 in
set_option maxRecDepth 100000 in
theorem utf8_ValidRune.calls (k : Nat) (a0 : Int) (r : Bool) (w : World) (h : utf8_ValidRune.f k a0 = some r) :
  Calls Try.prog 78 #[.int .i32 a0] w fun e w' => e = .returned (.bool r) ∧ Drawn0 w w' := by
 have H : (if 0 ≤ a0 then (utf8_ValidRune.j0 k a0 (decide (a0 < 55296))) else (utf8_ValidRune.j0 k a0 false)) = some r := h
 clear h
 have HC2 := Aside0.mk H
 clear H
 go_enter Try.func78, Try.ntmps78
 go_upto_region 1 with (fail)
 go_cut [3] (fun v3 wc => ∃ (kq : Nat) (x3_1 : Bool), v3 = .bool x3_1 ∧ Aside0 (utf8_ValidRune.j0 kq a0 x3_1 = some r) ∧ Aside0 (kq ≤ k) ∧ Drawn0 w wc)
 case first =>
  have H := HC2.out
  clear HC2
  by_cases c3 : 0 ≤ a0
  ·rw [if_pos c3] at H
   have c3b0 : decide (0 ≤ a0) = true := decide_eq_true c3
   clear c3
   (first | rw [c3b0] | (simp only [i64_w, i32_w]; rw [c3b0]) | skip)
   have H' := Aside0.mk H
   clear H
   go_wp2
   go_meet
   case rel => exact ⟨_, (decide (a0 < 55296)), (by first | rfl | (simp; done) | (simp [*]; done)), H', ⟨by first | omega | exact Nat.le_refl _⟩, by repeat (first | exact Drawn0.refl _ | apply Drawn0.step)⟩
  ·rw [if_neg c3] at H
   have c3b0 : decide (0 ≤ a0) = false := decide_eq_false c3
   clear c3
   (first | rw [c3b0] | (simp only [i64_w, i32_w]; rw [c3b0]) | skip)
   have H' := Aside0.mk H
   clear H
   go_wp2
   go_meet
   case rel => exact ⟨_, (false), (by first | rfl | (simp; done) | (simp [*]; done)), H', ⟨by first | omega | exact Nat.le_refl _⟩, by repeat (first | exact Drawn0.refl _ | apply Drawn0.step)⟩
 case rest =>
  clear HC2
  try clear p2
  try clear c3
  try clear c3b0
  obtain ⟨kq, x3_1, rfl, HA, HJ1, ⟨mc1, rfl⟩⟩ := hcut
  cases kq with
  | zero => exact absurd HA.out (by simp [utf8_ValidRune.j0])
  | succ kj1 =>
   have H := HA.out
   clear HA
   simp only [utf8_ValidRune.j0] at H
   by_cases c4 : x3_1 = true
   ·subst c4
    have H1 : (some true) = some r := by rw [if_pos rfl] at H <;> exact H
    clear H
    have H := H1
    clear H1
    obtain rfl := Option.some.inj H
    go_wp2
    go_ret
    exact ⟨by first | rfl | (simp; done) | (simp [*]; done), by repeat (first | exact Drawn0.refl _ | apply Drawn0.step)⟩
   ·replace c4 := Bool.eq_false_iff.mpr c4
    subst c4
    have H1 : (if 57343 < a0 then (if a0 ≤ 1114111 then (some true) else (some false)) else (some false)) = some r := by rw [if_neg (show ¬ (false = true) by decide)] at H <;> exact H
    clear H
    have H := H1
    clear H1
    by_cases c5 : 57343 < a0
    ·rw [if_pos c5] at H
     have c5b0 : decide (57343 < a0) = true := decide_eq_true c5
     clear c5
     by_cases c6 : a0 ≤ 1114111
     ·rw [if_pos c6] at H
      have c6b0 : decide (a0 ≤ 1114111) = true := decide_eq_true c6
      clear c6
      obtain rfl := Option.some.inj H
      go_wp2
      go_ret
      exact ⟨by first | rfl | (simp; done) | (simp [*]; done), by repeat (first | exact Drawn0.refl _ | apply Drawn0.step)⟩
     ·rw [if_neg c6] at H
      have c6b0 : decide (a0 ≤ 1114111) = false := decide_eq_false c6
      clear c6
      obtain rfl := Option.some.inj H
      go_wp2
      go_ret
      exact ⟨by first | rfl | (simp; done) | (simp [*]; done), by repeat (first | exact Drawn0.refl _ | apply Drawn0.step)⟩
    ·rw [if_neg c5] at H
     have c5b0 : decide (57343 < a0) = false := decide_eq_false c5
     clear c5
     obtain rfl := Option.some.inj H
     go_wp2
     go_ret
     exact ⟨by first | rfl | (simp; done) | (simp [*]; done), by repeat (first | exact Drawn0.refl _ | apply Drawn0.step)⟩
end Go.Proofs.Ytcemlfkboifncaa.PP
namespace Go.Proofs.Ytcemlfkboifncaa.PP
open Go.RowKit Go.Proofs.YtcemlfkboifncaaW.PrintWords Go.Proofs.YtcemlfkboifncaaW.PrintLast Go.Proofs.YtcemlfkboifncaaW.PrintMore
attribute [local go_sem] max2_int min2_int max_two min_two max_three min_three max_four min_four
end Go.Proofs.Ytcemlfkboifncaa.PP
namespace Go.Proofs.Ytcemlfkboifncaa.PP
open Go.RowKit Go.Proofs.YtcemlfkboifncaaW.PrintWords Go.Proofs.YtcemlfkboifncaaW.PrintLast Go.Proofs.YtcemlfkboifncaaW.PrintMore
attribute [local go_sem] max2_int min2_int max_two min_two max_three min_three max_four min_four
set_option linter.unusedVariables false
set_option linter.unusedSimpArgs false
set_option maxRecDepth 2000000 in
theorem strings_IndexRune.low (s : ByteArray) (r : Int) (w : World) (h0 : 0 ≤ r) (h1 : r < 128) :
  Calls Try.prog 73 #[.string s, .int .i32 r] w fun e w' => e = .returned (.int .i64 (firstIdx s r.toNat.toUInt8)) ∧ Below w.heap.size w w' := by
 have hr : r % 256 = r := by omega
 go_enter Try.func73, Try.ntmps73
 go_wp2_with (first | (go_at_call 77; refine (strings_IndexByte.goes s r _).mono ?_; rintro e w' ⟨rfl, ⟨nd, rfl⟩⟩))
 go_ret
 exact ⟨rfl, pw_below_drewN (Below.refl _ _) nd⟩
set_option maxHeartbeats 8000000 in
set_option maxRecDepth 2000000 in
theorem strings_IndexRune.none' (s : ByteArray) (w : World) (hs : ∀ i (h : i < s.size), (s[i]'h).toNat < 128) :
  Calls Try.prog 73 #[.string s, .int .i32 65533] w fun e w' => e = .returned (.int .i64 (-1)) ∧ Below w.heap.size w w' := by
 obtain ⟨B, hB⟩ : ∃ B, B = w.heap.size := ⟨_, rfl⟩
 have HBN := Aside0.mk hB
 clear hB
 have hk0 : Aside0 ((w.iter s 0).heap[B]? = some (.stringIter s 0)) := ⟨by rw [HBN.out]; exact World.iter_heap w s 0⟩
 have hb0 : Aside0 (Below w.heap.size w (w.iter s 0)) := ⟨(Below.refl _ w).alloc (Nat.le_refl _) _⟩
 go_enter Try.func73, Try.ntmps73
 go_wp2
 rw [← HBN.out]
 generalize w.iter s 0 = w0 at hk0 hb0 ⊢
 go_loopw [] (fun wr => ∃ pos : Nat, pos ≤ s.size ∧ Aside0 (wr.heap[B]? = some (.stringIter s pos)) ∧ Aside0 (Below w.heap.size w wr)) (fun wr => s.size - wr.iterPos B)
 case atStart => exact ⟨0, Nat.zero_le _, hk0, hb0⟩
 case round =>
  obtain ⟨pos, hps, hk, hnx⟩ := hrel
  clear hk0 hb0
  by_cases hp : pos < s.size
  ·have hnext : ∀ ty, (Instr.next (.pointer (some ⟨B, 0, none⟩)) true ty).run Try.prog wr = _ := fun ty => Lib.run_next_ascii_at wr B s pos ty hk.out hp (hs pos hp)
   have hk1 := Aside0.mk (Lib.iterAt_heap wr B s pos (pos + 1) hk.out)
   have hn1 := Aside0.mk (Lib.below_iterAt (k := B) hnx.out (by rw [HBN.out]; exact Nat.le_refl _) s (pos + 1))
   have hmu : Aside0 (wr.iterPos B = pos) := ⟨by simp [World.iterPos, hk.out]⟩
   have hmu2 : Aside0 ((wr.iterAt B s (pos + 1)).iterPos B = pos + 1) := ⟨by simp [World.iterPos, hk1.out]⟩
   have hb := hs pos hp
   obtain ⟨x, hx⟩ : ∃ x, x = (s[pos]'hp).toNat := ⟨_, rfl⟩
   rw [← hx] at hnext hb
   have hne : ((x : Int) == 65533) = false := by simp; omega
   clear hx
   generalize wr.iterAt B s (pos + 1) = W1 at hnext hk1 hn1 hmu2
   go_wp2
   go_roundw
   case rel => exact ⟨pos + 1, by omega, hk1, hn1⟩
   case measure => rw [hmu.out, hmu2.out]; omega
  ·have hnext : ∀ ty, (Instr.next (.pointer (some ⟨B, 0, none⟩)) true ty).run Try.prog wr = _ := fun ty => Lib.run_next_end_at wr B s pos ty hk.out hp
   go_wp2
   go_ret
   exact ⟨rfl, hnx.out⟩
set_option maxHeartbeats 8000000 in
set_option maxRecDepth 2000000 in
theorem strings_IndexRune.high (s : ByteArray) (r : Nat) (w : World) (hs : ∀ b ∈ s.data.toList, b.toNat < 128) (h4 : 4 ≤ s.size) (h5 : s.size < 2147483648) (h1 : 128 ≤ r) (h2 : r ≤ 2147483647) (h3 : r ≠ 65533) :
  Calls Try.prog 73 #[.string s, .int .i32 r] w fun e w' => e = .returned (.int .i64 (-1)) ∧ Below w.heap.size w w' := by
 have d1 : decide ((r : Int) < 128) = false := decide_eq_false (by omega)
 have d2 : ((r : Int) == 65533) = false := by simp; omega
 have HV : ∀ w, Calls Try.prog 78 #[.int .i32 (r : Int)] w fun e w' => e = .returned (.bool (Utf8.valid r)) ∧ Drawn0 w w' := fun w => utf8_ValidRune.calls 1 (r : Int) _ w (by
  rw [validRune_eq]
  unfold utf8_ValidRune.f validRune
  rw [if_pos (by omega)]
  have hj : ∀ b, utf8_ValidRune.j0 1 (r : Int) b = if b = true then some true else (if 57343 < (r : Int) then (if (r : Int) ≤ 1114111 then some true else some false) else some false) := fun b => rfl
  rw [hj]
  by_cases ha : (r : Int) < 55296
  ·rw [decide_eq_true ha, if_pos rfl, decide_eq_true (Or.inl ⟨by omega, ha⟩)]
  ·rw [decide_eq_false ha, if_neg (by simp)]
   by_cases hb : (57343 : Int) < (r : Int)
   ·rw [if_pos hb]
    by_cases hc : (r : Int) ≤ 1114111
    ·rw [if_pos hc, decide_eq_true (Or.inr ⟨hb, hc⟩)]
    ·rw [if_neg hc, decide_eq_false (by omega)]
   ·rw [if_neg hb, decide_eq_false (by omega)])
 have HV' := Aside0.mk HV
 clear HV
 have HB := Aside0.mk (Below.refl w.heap.size w)
 cases hv : Utf8.valid (r : Int) with
 | false =>
  rw [hv] at HV'
  go_enter Try.func73, Try.ntmps73
  go_wp2_with (first | (go_at_call 78; refine (HV'.out _).mono ?_; rintro e w' ⟨rfl, ⟨nd, rfl⟩⟩))
  go_ret
  exact ⟨rfl, pw_below_drewN (Below.refl _ _) nd⟩
 | true =>
  rw [hv] at HV'
  obtain ⟨e2, e4, elast⟩ := encode_facts (r : Int) hv (by omega)
  obtain ⟨t, ht⟩ : ∃ t, t = Utf8.encode (r : Int) := ⟨_, rfl⟩
  have hcv : ∀ w : World, (convert 21 9 (.int .i32 (r : Int))).run Try.prog w = .ok (.string t) w := fun w => by rw [ht]; exact run_convert_int_string w 21 9 .i32 (r : Int) rfl rfl
  rw [← ht] at e2 e4 elast
  clear ht
  obtain ⟨n, hn⟩ : ∃ n, n = t.size - 1 := ⟨_, rfl⟩
  have hnt : n < t.size := by omega
  have hl : Aside0 (128 ≤ (t[n]'hnt).toNat) := ⟨by have := elast (by omega); simp only [← hn] at this; exact this⟩
  have hn1 : (t.size : Int) - 1 = (n : Int) := by omega
  have hns : n < s.size := by omega
  have hne : Aside0 ((s[n]'hns).toNat < 128) := ⟨hs _ (by
   have : s[n]'hns = s.data.toList[n]'(by simpa using hns) := by cases s; rfl
   rw [this]; exact List.getElem_mem _)⟩
  obtain ⟨m, hm⟩ : ∃ m, m = n + 1 := ⟨_, rfl⟩
  have hw : wrap64 ((n : Int) + 1) = (m : Int) := by rw [hm]; unfold wrap64; omega
  have k1 := eq_true (show m ≤ s.size from by omega)
  have k2 := eq_true (show (m : Int) ≤ (s.size : Int) from by omega)
  have HC : ∀ w : World, Calls Try.prog 77 #[.string (s.extract m s.size), .int .u8 ((t[n]'hnt).toNat : Int)] w fun e w' => e = .returned (.int .i64 (-1)) ∧ Drawn0 w w' := fun w => by
   have h := strings_IndexByte.goes (s.extract m s.size) ((t[n]'hnt).toNat : Int) w
   rw [show ((t[n]'hnt).toNat : Int).toNat.toUInt8 = t[n]'hnt from by simp, firstIdx_ascii s m s.size _ hs hl.out] at h
   exact h
  have HC' := Aside0.mk HC
  clear hn elast hm HC
  go_enter Try.func73, Try.ntmps73
  go_wp2_with (first | (go_at_call 78; refine (HV'.out _).mono ?_; rintro e w' ⟨rfl, ⟨nd, rfl⟩⟩))
  have HB' := Aside0.mk (pw_below_drewN HB.out nd)
  clear HB
  generalize w.drewN nd = w1 at HB' ⊢
  refine Arr.wp_scope_once 1 (fun _ _ => False) (fun _ _ => 0) rfl (fun _ => ?_) (fun _ _ h => h.elim)
  go_wp2
  go_loopw [9] (fun i wr => i = .int .i64 (n : Int) ∧ Aside0 (Below w.heap.size w wr)) (fun _ _ => 0)
  case atStart => exact ⟨rfl, HB'⟩
  case round =>
   clear HB'
   obtain ⟨rfl, HB⟩ := hrel
   have d3 : decide ((n : Int) < (s.size : Int)) = true := decide_eq_true (by omega)
   have d4 : decide (n < s.size) = true := decide_eq_true (by omega)
   go_wp2
   refine Arr.wp_scope_once 0 (fun _ _ => False) (fun _ _ => 0) rfl (fun _ => ?_) (fun _ _ h => h.elim)
   go_wp2
   have HB' := Aside0.mk (below_drew HB.out); clear HB; have HB := HB'; clear HB'
   refine start_ (n := 7) (S := fun w' => True) (ds := []) #[false, false, false, false, false, false, false] (by kernel_rfl) rfl rfl trivial (fun hHeld => ?_)
   generalize wr.drew = wd901 at HB hHeld ⊢
   refine pure_ (i := 0) (N := some 27) (v := ?_) (a' := ?_) #[true, false, false, false, false, false, false] rfl rfl (by kernel_rfl) (fun _ _ _ h => h) (Or.inl ⟨by rfl, ?_⟩) ?_ ?_
   rotate_left
   ·intro w'
    go_simp
    with_reducible rfl
   rotate_left
   ·simp only [Act.put, Kx.sb, Kx.sz, Kx.ss, i64_w, i32_w]
    rfl
   refine pure_ (i := 1) (N := some 28) (v := ?_) (a' := ?_) #[true, true, false, false, false, false, false] rfl rfl (by kernel_rfl) (fun _ _ _ h => h) (Or.inl ⟨by rfl, ?_⟩) ?_ ?_
   rotate_left
   ·intro w'
    go_simp
    with_reducible rfl
   rotate_left
   ·simp only [Act.put, Kx.sb, Kx.sz, Kx.ss, i64_w, i32_w]
    rfl
   refine pure_ (i := 3) (N := some 30) (v := ?_) (a' := ?_) #[true, true, false, true, false, false, false] rfl rfl (by kernel_rfl) (fun _ _ _ h => h) (Or.inl ⟨by rfl, ?_⟩) ?_ ?_
   rotate_left
   ·intro w'
    go_simp
    with_reducible rfl
   rotate_left
   ·simp only [Act.put, Kx.sb, Kx.sz, Kx.ss, i64_w, i32_w]
    rfl
   refine pure_ (i := 4) (N := some 31) (v := ?_) (a' := ?_) #[true, true, false, true, true, false, false] rfl rfl (by kernel_rfl) (fun _ _ _ h => h) (Or.inl ⟨by rfl, ?_⟩) ?_ ?_
   rotate_left
   ·intro w'
    go_simp
    with_reducible rfl
   rotate_left
   ·simp only [Act.put, Kx.sb, Kx.sz, Kx.ss, i64_w, i32_w]
    rfl
   refine take_ (i := 2) (N := some 29) (v := ?_) (a' := ?_) #[true, true, true, true, true, false, false] rfl rfl (by kernel_rfl) (fun _ _ _ h => h) (Or.inl ⟨by rfl, ?_⟩) hHeld ?_ ?_
   rotate_left
   ·rintro w' _
    go_simp
    with_reducible rfl
   rotate_left
   ·simp only [Act.put, Kx.sb, Kx.sz, Kx.ss, i64_w, i32_w]
    rfl
   refine take_ (i := 5) (N := some 32) (v := ?_) (a' := ?_) #[true, true, true, true, true, true, false] rfl rfl (by kernel_rfl) (fun _ _ _ h => h) (Or.inl ⟨by rfl, ?_⟩) hHeld ?_ ?_
   rotate_left
   ·rintro w' _
    go_simp
    with_reducible rfl
   rotate_left
   ·simp only [Act.put, Kx.sb, Kx.sz, Kx.ss, i64_w, i32_w]
    rfl
   refine pure_ (i := 6) (N := some 33) (v := ?_) (a' := ?_) #[true, true, true, true, true, true, true] rfl rfl (by kernel_rfl) (fun _ _ _ h => h) (Or.inl ⟨by rfl, ?_⟩) ?_ ?_
   rotate_left
   ·intro w'
    go_simp
    with_reducible rfl
   rotate_left
   ·simp only [Act.put, Kx.sb, Kx.sz, Kx.ss, i64_w, i32_w]
    rfl
   refine done_ (by kernel_rfl) ?_
   have d5 : (((s[n]'hns).toNat : Int) != ((t[n]'hnt).toNat : Int)) = true := by have := hne.out; have := hl.out; simp; omega
   go_wp2
   have HB' := Aside0.mk (below_drew HB.out); clear HB; have HB := HB'; clear HB'
   refine start_ (n := 9) (S := fun w' => True) (ds := []) #[false, false, false, false, false, false, false, false, false] (by kernel_rfl) rfl rfl trivial (fun hHeld => ?_)
   generalize wd901.drew = wd911 at HB hHeld ⊢
   refine pure_ (i := 0) (N := some 34) (v := ?_) (a' := ?_) #[true, false, false, false, false, false, false, false, false] rfl rfl (by kernel_rfl) (fun _ _ _ h => h) (Or.inl ⟨by rfl, ?_⟩) ?_ ?_
   rotate_left
   ·intro w'
    go_simp
    with_reducible rfl
   rotate_left
   ·simp only [Act.put, Kx.sb, Kx.sz, Kx.ss, i64_w, i32_w]
    rfl
   refine pure_ (i := 1) (N := some 35) (v := ?_) (a' := ?_) #[true, true, false, false, false, false, false, false, false] rfl rfl (by kernel_rfl) (fun _ _ _ h => h) (Or.inl ⟨by rfl, ?_⟩) ?_ ?_
   rotate_left
   ·intro w'
    go_simp
    with_reducible rfl
   rotate_left
   ·simp only [Act.put, Kx.sb, Kx.sz, Kx.ss, i64_w, i32_w]
    rfl
   refine pure_ (i := 2) (N := some 36) (v := ?_) (a' := ?_) #[true, true, true, false, false, false, false, false, false] rfl rfl (by kernel_rfl) (fun _ _ _ h => h) (Or.inl ⟨by rfl, ?_⟩) ?_ ?_
   rotate_left
   ·intro w'
    go_simp
    with_reducible rfl
   rotate_left
   ·simp only [Act.put, Kx.sb, Kx.sz, Kx.ss, i64_w, i32_w]
    rfl
   refine pure_ (i := 3) (N := some 37) (v := ?_) (a' := ?_) #[true, true, true, true, false, false, false, false, false] rfl rfl (by kernel_rfl) (fun _ _ _ h => h) (Or.inl ⟨by rfl, ?_⟩) ?_ ?_
   rotate_left
   ·intro w'
    go_simp
    with_reducible rfl
   rotate_left
   ·simp only [Act.put, Kx.sb, Kx.sz, Kx.ss, i64_w, i32_w]
    rfl
   refine pure_ (i := 4) (N := some 38) (v := ?_) (a' := ?_) #[true, true, true, true, true, false, false, false, false] rfl rfl (by kernel_rfl) (fun _ _ _ h => h) (Or.inl ⟨by rfl, ?_⟩) ?_ ?_
   rotate_left
   ·intro w'
    go_simp
    with_reducible rfl
   rotate_left
   ·simp only [Act.put, Kx.sb, Kx.sz, Kx.ss, i64_w, i32_w]
    rfl
   refine pure_ (i := 5) (N := some 39) (v := ?_) (a' := ?_) #[true, true, true, true, true, true, false, false, false] rfl rfl (by kernel_rfl) (fun _ _ _ h => h) (Or.inl ⟨by rfl, ?_⟩) ?_ ?_
   rotate_left
   ·intro w'
    go_simp
    with_reducible rfl
   rotate_left
   ·simp only [Act.put, Kx.sb, Kx.sz, Kx.ss, i64_w, i32_w]
    rfl
   refine take_ (i := 6) (N := some 40) (v := ?_) (a' := ?_) #[true, true, true, true, true, true, true, false, false] rfl rfl (by kernel_rfl) (fun _ _ _ h => h) (Or.inl ⟨by rfl, ?_⟩) hHeld ?_ ?_
   rotate_left
   ·rintro w' _
    go_simp
    with_reducible rfl
   rotate_left
   ·simp only [Act.put, Kx.sb, Kx.sz, Kx.ss, i64_w, i32_w]
    rfl
   refine one_ (i := 7) (N := some 41) #[true, true, true, true, true, true, true, true, false] rfl rfl (by kernel_rfl) (by decide) (fun K hK => ?_)
   refine goes_ Try.func77 (by kernel_rfl) rfl #[.string (s.extract m s.size), .int .u8 ((t[n]'hnt).toNat : Int)] (by rfl) rfl rfl (by simp only [List.map_toArray, List.map_cons, List.map_nil]; rfl) ?_
   refine (HC'.out _).mono ?_
   rintro e w91107 ⟨rfl, ⟨nd, rfl⟩⟩
   refine ⟨_, rfl, ?_⟩
   have HB' := Aside0.mk (pw_below_drewN HB.out nd); clear HB; have HB := HB'; clear HB'
   refine hK.out _ _ trivial (fun hHeld => ?_)
   clear hK K
   refine norm_ (a' := ?_) ?_ ?_
   rotate_left
   ·show Act.put _ (some 41) _ = _
    simp only [Act.put, Kx.sb, Kx.sz, Kx.ss, i64_w, i32_w]
    rfl
   refine pure_ (i := 8) (N := some 11) (v := ?_) (a' := ?_) #[true, true, true, true, true, true, true, true, true] rfl rfl (by kernel_rfl) (fun _ _ _ h => h) (Or.inl ⟨by rfl, ?_⟩) ?_ ?_
   rotate_left
   ·intro w'
    go_simp
    with_reducible rfl
   rotate_left
   ·simp only [Act.put, Kx.sb, Kx.sz, Kx.ss, i64_w, i32_w]
    rfl
   refine done_ (by kernel_rfl) ?_
   go_wp2
   simp only [Exit.jump]
   (try go_wp2)
   (try simp only [Exit.jump])
   go_ret
   exact ⟨rfl, HB.out⟩
def le_size.f (a0 : Int) : Option Int := if 0 ≤ a0 ∧ a0 ≤ 2147483647 then some (Pl.letS a0) else none
theorem le_size.place (a0 : Int) (h0 : 0 ≤ a0) (h1 : a0 ≤ 2147483647) : ∃ i : Int, ((i = 0 ∧ Pl.letS a0 = 1) ∨ (i = 1 ∧ Pl.letS a0 = 2) ∨ (i = 2 ∧ Pl.letS a0 = 4) ∨ (i = 3 ∧ Pl.letS a0 = 8) ∨ (i = -1 ∧ Pl.letS a0 = 0)) ∧
  ∀ w : World, Calls Try.prog 73 #[.string Pl.bhwq, .int .i32 a0] w fun e w' => e = .returned (.int .i64 i) ∧ Below w.heap.size w w' := by
 obtain ⟨r, rfl⟩ := Int.eq_ofNat_of_zero_le h0
 by_cases hl : r < 128
 ·refine ⟨firstIdx Pl.bhwq (r : Int).toNat.toUInt8, ?_, fun w => strings_IndexRune.low Pl.bhwq r w h0 (by omega)⟩
  have h := Pl.bhwq_at ⟨r, hl⟩
  rw [Int.toNat_natCast]
  simp only at h
  rw [h]
  unfold Pl.letS
  by_cases h98 : r = 98
  ·subst h98; exact Or.inl ⟨rfl, rfl⟩
  by_cases h104 : r = 104
  ·subst h104; exact Or.inr (Or.inl ⟨rfl, rfl⟩)
  by_cases h119 : r = 119
  ·subst h119; exact Or.inr (Or.inr (Or.inl ⟨rfl, rfl⟩))
  by_cases h113 : r = 113
  ·subst h113; exact Or.inr (Or.inr (Or.inr (Or.inl ⟨rfl, rfl⟩)))
  rw [if_neg h98, if_neg h104, if_neg h119, if_neg h113, if_neg (by omega), if_neg (by omega), if_neg (by omega), if_neg (by omega)]
  exact Or.inr (Or.inr (Or.inr (Or.inr ⟨rfl, rfl⟩)))
 ·refine ⟨-1, Or.inr (Or.inr (Or.inr (Or.inr ⟨rfl, ?_⟩))), fun w => ?_⟩
  ·unfold Pl.letS
   rw [if_neg (by omega), if_neg (by omega), if_neg (by omega), if_neg (by omega)]
  ·by_cases he : r = 65533
   ·subst he
    exact strings_IndexRune.none' Pl.bhwq w Pl.bhwq_get
   ·exact strings_IndexRune.high Pl.bhwq r w Pl.bhwq_ascii (by decide) (by decide) (by omega) (by omega) he
set_option maxHeartbeats 2000000 in
theorem le_size.calls (a0 : Int) (r : Int) (w : World) (h : le_size.f a0 = some r) :
  Calls Try.prog 64 #[.int .i32 a0] w fun e w' => e = .returned (.int .i64 r) ∧ Below w.heap.size w w' := by
 unfold le_size.f at h
 split at h
 case isFalse => cases h
 rename_i hh
 obtain ⟨h0, h1⟩ := hh
 obtain rfl := Option.some.inj h
 clear h
 obtain ⟨i, hi, HC⟩ := le_size.place a0 h0 h1
 obtain ⟨z, hz⟩ : ∃ z, z = Pl.letS a0 := ⟨_, rfl⟩
 rw [← hz] at hi ⊢
 clear hz
 unfold Pl.bhwq at HC
 have HC' := Aside0.mk HC
 clear HC h0 h1
 rcases hi with ⟨rfl, rfl⟩ | ⟨rfl, rfl⟩ | ⟨rfl, rfl⟩ | ⟨rfl, rfl⟩ | ⟨rfl, rfl⟩ <;>
 ·go_enter Try.func64, Try.ntmps64
  go_wp2_with (first | (go_at_call 73; refine (HC'.out _).mono ?_; rintro e w' ⟨rfl, hb⟩; have HB := Aside0.mk hb; clear hb))
  go_ret
  exact ⟨rfl, HB.out⟩
def bytes_Clone.f (l0 : List Int) : Option (List Int) := if l0.length < 140737488355328 then some l0 else none
set_option maxHeartbeats 1000000 in
theorem bytes_Clone.calls (A0 : Option Addr) (c0 : Nat) (l0 : List Int) (r : List Int) (w : World) (hr0 : Kd.C (Kd.int .u8) w A0 l0.length l0) (hc0 : l0.length ≤ c0) (h : bytes_Clone.f l0 = some r) :
  Calls Try.prog 56 #[.slice A0 l0.length c0] w fun e w' => ∃ v0_ : Value, e = .returned (v0_) ∧ Kd.R (Kd.int .u8) 5 w' w.heap.size (fun _ => True) v0_ r ∧ Below w.heap.size w w' := by
 have HR0 := Aside0.mk hr0
 clear hr0 hc0
 unfold bytes_Clone.f at h
 by_cases hl : l0.length < 140737488355328
 ·rw [if_pos hl] at h
  obtain rfl := Option.some.inj h
  have HL := Aside0.mk hl
  clear h hl
  have HB := Aside0.mk (Below.refl w.heap.size w)
  cases A0 with
  | none =>
   obtain rfl : l0 = [] := by
    cases l0 with
    | nil => rfl
    | cons x xs => obtain ⟨ad, h, _⟩ := HR0.out.2.2 (by simp); cases h
   have hq := fun (w : World) => Lib.run_eql_slice_nil (P := Try.prog) w 23 5 none 0 c0 0 0 Try.underlying23
   simp only [List.length_nil]
   go_enter Try.func56, Try.ntmps56
   go_wp2
   go_ret
   exact ⟨_, rfl, Kd.R_nil _ _ _ _ _, Below.refl _ _⟩
  | some ad =>
   have hq := fun (w : World) => Lib.run_eql_slice_nil (P := Try.prog) w 23 5 (some ad) l0.length c0 0 0 Try.underlying23
   go_enter Try.func56, Try.ntmps56
   go_wp2_with (first | ((with_reducible refine gate_dst (N := 5) rfl ?_); refine Kd.R_lit (Kd.int .u8) _ 5 ?hg (N := 5) ?hd (xs := ([] : List Int)) (inner := []) (ok := fun _ => True) (okp := fun _ => True) ?hr ?hp (fun _ hk => hk) trivial (Below.refl _ _) (Nat.le_refl _) (by simp) ?_; (case hd => rfl); (case hg => rfl); (case hr => first | (go_simp; done) | (go_simp; rfl)); (case hp => exact (Reps.none _ _)); intro v110 w13 ho14 hb hg_ hnew_; clear hg_ hnew_; have n0_ := Aside0.mk (Kd.R_lower ho14 (below_size HB.out)); have n1_ := Aside0.mk (below_step HB.out hb); clear HB; have HO111 := n0_; have HB := n1_; clear n0_ n1_; clear hb ho14) | ((with_reducible refine gate_builtin (b := .append) (xs := #[.tmp 5, .tmp 6]) rfl ?_); at_builtin; refine Kd.R_append_rows (Kd.int .u8) (w0 := w) w.heap.size rfl (.tmp 5) (.tmp 6) 23 5 (.int .u8 0) 1 rfl Try.underlying23 info5 rfl (by decide) (by omega) v110 [] l0 _ _ _ (fun _ => True) (fun _ => False) rfl rfl ?aO ?aR (fun _ _ h => h) (fun _ h => h.elim) ?aF ?aB ?aS ?aL ?_; (case aR => repeat (first | exact (Kd.C_below HR0.out HB.out) | (with_reducible refine Kd.C_alloc ?_ _) | (with_reducible refine Kd.C_drewN ?_ _) | (with_reducible refine Kd.C_drew ?_))); (case aB => exact HB.out); (case aF => exact (fun _ _ => trivial)); (case aO => exact HO111.out); (case aS => exact below_size HB.out); (case aL => have := HL.out; simp; omega); intro v113 w15 ho hb hg hat; have n0_ := Aside0.mk (hb); have n1_ := Aside0.mk (ho); clear HB; clear HO111; have HB := n0_; have HO114 := n1_; clear n0_ n1_; clear ho hb hg hat))
   go_ret
   exact ⟨_, rfl, HO114.out, HB.out⟩
 ·rw [if_neg hl] at h
  cases h
def le_may.f (a0 : Int) (a1 : Int) : Option (Bool) := if a1 = 1 then (if 0 ≤ (wrap64 (8 * a1)) then (some ((shr .u64 a0 (wrap64 (8 * a1))) == 0)) else (none)) else (if a1 = 2 then (if 0 ≤ (wrap64 (8 * a1)) then (some ((shr .u64 a0 (wrap64 (8 * a1))) == 0)) else (none)) else (if a1 = 4 then (if 0 ≤ (wrap64 (8 * a1)) then (some ((shr .u64 a0 (wrap64 (8 * a1))) == 0)) else (none)) else (some (a1 == 8))))
set_option maxHeartbeats 8000000 in
set_option maxRecDepth 100000 in
theorem le_may.calls (a0 : Int) (a1 : Int) (r : Bool) (w : World) (h : le_may.f a0 a1 = some r) :
  Calls Try.prog 72 #[.int .u64 a0, .int .i64 a1] w fun e w' => e = .returned (.bool r) ∧ Drawn0 w w' := by
 have H : (if a1 = 1 then (if 0 ≤ (wrap64 (8 * a1)) then (some ((shr .u64 a0 (wrap64 (8 * a1))) == 0)) else (none)) else (if a1 = 2 then (if 0 ≤ (wrap64 (8 * a1)) then (some ((shr .u64 a0 (wrap64 (8 * a1))) == 0)) else (none)) else (if a1 = 4 then (if 0 ≤ (wrap64 (8 * a1)) then (some ((shr .u64 a0 (wrap64 (8 * a1))) == 0)) else (none)) else (some (a1 == 8))))) = some r := h
 clear h
 by_cases c3 : a1 = 1
 ·rw [if_pos c3] at H
  have c3b0 : (a1 == 1) = true := beq_iff_eq.mpr c3
  have c3b1 : (a1 != 1) = false := bne_eq_false_iff_eq.mpr c3
  clear c3
  obtain ⟨ji4, hji4⟩ : ∃ j_ : Int, (wrap64 (8 * a1)) = j_ := ⟨_, rfl⟩
  replace H : (if 0 ≤ (ji4) then (some ((shr .u64 a0 (ji4)) == 0)) else (none)) = some r := by first | (rw [hji4] at H; exact H) | (simp only [hji4] at H ⊢; exact H)
  have hji4w : (IntKind.i64.wrap (8 * a1)) = ji4 := (i64_w _).trans hji4
  by_cases c5 : 0 ≤ (ji4)
  ·rw [if_pos c5] at H
   have c5b0 := eq_true c5
   have c5b1 : decide (0 ≤ (ji4)) = true := decide_eq_true c5
   clear c5
   obtain ⟨ji6, hji6⟩ : ∃ j_ : Int, (shr .u64 a0 (ji4)) = j_ := ⟨_, rfl⟩
   replace H : (some ((ji6) == 0)) = some r := by first | (rw [hji6] at H; exact H) | (simp only [hji6] at H ⊢; exact H)
   have hji6_ : (a0 / 2 ^ min (ji4).toNat 64) = ji6 := hji6
   have hji6z : (ji4) ≤ 64 → (a0 / 2 ^ (ji4).toNat) = ji6 := shr_small hji6
   obtain rfl := Option.some.inj H
   go_enter Try.func72, Try.ntmps72
   go_wp2
   go_ret
   exact ⟨by first | rfl | (simp; done) | (simp only [← hji4, ← hji6] <;> (first | rfl | simp)) | (simp [*]; done), by repeat (first | exact Drawn0.refl _ | apply Drawn0.step)⟩
  ·rw [if_neg c5] at H
   exact absurd H (by simp)
 ·rw [if_neg c3] at H
  have c3b0 : (a1 == 1) = false := beq_eq_false_iff_ne.mpr c3
  have c3b1 : (a1 != 1) = true := bne_iff_ne.mpr c3
  by_cases c7 : a1 = 2
  ·rw [if_pos c7] at H
   have c7b0 : (a1 == 2) = true := beq_iff_eq.mpr c7
   have c7b1 : (a1 != 2) = false := bne_eq_false_iff_eq.mpr c7
   clear c7
   obtain ⟨ji8, hji8⟩ : ∃ j_ : Int, (wrap64 (8 * a1)) = j_ := ⟨_, rfl⟩
   replace H : (if 0 ≤ (ji8) then (some ((shr .u64 a0 (ji8)) == 0)) else (none)) = some r := by first | (rw [hji8] at H; exact H) | (simp only [hji8] at H ⊢; exact H)
   have hji8w : (IntKind.i64.wrap (8 * a1)) = ji8 := (i64_w _).trans hji8
   by_cases c9 : 0 ≤ (ji8)
   ·rw [if_pos c9] at H
    have c9b0 := eq_true c9
    have c9b1 : decide (0 ≤ (ji8)) = true := decide_eq_true c9
    clear c9
    obtain ⟨ji10, hji10⟩ : ∃ j_ : Int, (shr .u64 a0 (ji8)) = j_ := ⟨_, rfl⟩
    replace H : (some ((ji10) == 0)) = some r := by first | (rw [hji10] at H; exact H) | (simp only [hji10] at H ⊢; exact H)
    have hji10_ : (a0 / 2 ^ min (ji8).toNat 64) = ji10 := hji10
    have hji10z : (ji8) ≤ 64 → (a0 / 2 ^ (ji8).toNat) = ji10 := shr_small hji10
    obtain rfl := Option.some.inj H
    go_enter Try.func72, Try.ntmps72
    go_wp2
    go_ret
    exact ⟨by first | rfl | (simp; done) | (simp only [← hji8, ← hji10] <;> (first | rfl | simp)) | (simp [*]; done), by repeat (first | exact Drawn0.refl _ | apply Drawn0.step)⟩
   ·rw [if_neg c9] at H
    exact absurd H (by simp)
  ·rw [if_neg c7] at H
   have c7b0 : (a1 == 2) = false := beq_eq_false_iff_ne.mpr c7
   have c7b1 : (a1 != 2) = true := bne_iff_ne.mpr c7
   by_cases c11 : a1 = 4
   ·rw [if_pos c11] at H
    have c11b0 : (a1 == 4) = true := beq_iff_eq.mpr c11
    have c11b1 : (a1 != 4) = false := bne_eq_false_iff_eq.mpr c11
    clear c11
    obtain ⟨ji12, hji12⟩ : ∃ j_ : Int, (wrap64 (8 * a1)) = j_ := ⟨_, rfl⟩
    replace H : (if 0 ≤ (ji12) then (some ((shr .u64 a0 (ji12)) == 0)) else (none)) = some r := by first | (rw [hji12] at H; exact H) | (simp only [hji12] at H ⊢; exact H)
    have hji12w : (IntKind.i64.wrap (8 * a1)) = ji12 := (i64_w _).trans hji12
    by_cases c13 : 0 ≤ (ji12)
    ·rw [if_pos c13] at H
     have c13b0 := eq_true c13
     have c13b1 : decide (0 ≤ (ji12)) = true := decide_eq_true c13
     clear c13
     obtain ⟨ji14, hji14⟩ : ∃ j_ : Int, (shr .u64 a0 (ji12)) = j_ := ⟨_, rfl⟩
     replace H : (some ((ji14) == 0)) = some r := by first | (rw [hji14] at H; exact H) | (simp only [hji14] at H ⊢; exact H)
     have hji14_ : (a0 / 2 ^ min (ji12).toNat 64) = ji14 := hji14
     have hji14z : (ji12) ≤ 64 → (a0 / 2 ^ (ji12).toNat) = ji14 := shr_small hji14
     obtain rfl := Option.some.inj H
     go_enter Try.func72, Try.ntmps72
     go_wp2
     go_ret
     exact ⟨by first | rfl | (simp; done) | (simp only [← hji12, ← hji14] <;> (first | rfl | simp)) | (simp [*]; done), by repeat (first | exact Drawn0.refl _ | apply Drawn0.step)⟩
    ·rw [if_neg c13] at H
     exact absurd H (by simp)
   ·rw [if_neg c11] at H
    have c11b0 : (a1 == 4) = false := beq_eq_false_iff_ne.mpr c11
    have c11b1 : (a1 != 4) = true := bne_iff_ne.mpr c11
    obtain rfl := Option.some.inj H
    go_enter Try.func72, Try.ntmps72
    go_wp2
    go_ret
    exact ⟨by first | rfl | (simp; done) | (simp [*]; done), by repeat (first | exact Drawn0.refl _ | apply Drawn0.step)⟩
mutual
def le_Take_p.j0 : Nat → List Int → Int → Int → Bool → Option (Int × List Int × Int)
 | 0, _, _, _, _ => none
 | k + 1, x0, x1, x4, x16 => if x16 = true then (some (0, ([] : List Int), 10)) else (le_Take_p.l0 k x0 x1 x4 x1 0)
def le_Take_p.l0 : Nat → List Int → Int → Int → Int → Int → Option (Int × List Int × Int)
 | 0, _, _, _, _, _ => none
 | k + 1, x0, x1, x4, x17, x18 => if x18 < x17 then (if 0 ≤ x18 then (if x18 < (x0.length : Int) then (if 0 ≤ (wrap64 (8 * x18)) then (le_Take_p.l0 k x0 x1 (Go.bits .or .u64 x4 (shl .u64 (IntKind.u64.wrap (rd x0 x18)) (wrap64 (8 * x18)))) x17 (wrap64 (x18 + 1))) else (none)) else (none)) else (none)) else (if 0 ≤ x1 then (if x1 ≤ (x0.length : Int) then ((bytes_Clone.f (x0.drop (x1 : Int).toNat)).bind fun t104 => (some (x4, t104, 0))) else (none)) else (none))
end
def le_Take_p.f (k : Nat) (l0 : List Int) (a1 : Int) : Option (Int × List Int × Int) := (le_may.f 0 a1).bind fun t101 => (if t101 = true then (le_Take_p.j0 k l0 a1 0 (decide ((l0.length : Int) < a1))) else (le_Take_p.j0 k l0 a1 0 true))
set_option maxHeartbeats 8000000 in
set_option maxRecDepth 100000 in
theorem le_Take_p.calls (k : Nat) (A0 : Option Addr) (c0 : Nat) (l0 : List Int) (a1 : Int) (r1 : Int) (r2 : List Int) (r3 : Int) (w : World) (hr0 : Kd.C (Kd.int .u8) w A0 l0.length l0) (hc0 : l0.length ≤ c0) (h : le_Take_p.f k l0 a1 = some (r1, r2, r3)) :
  Calls Try.prog 69 #[.slice A0 l0.length c0, .int .i64 a1] w fun e w' => ∃ v1_ : Value, e = .returned (.tuple #[.int .u64 r1, v1_, .int .i64 r3]) ∧ Kd.R (Kd.int .u8) 5 w' w.heap.size (fun _ => True) v1_ r2 ∧ Below w.heap.size w w' := by
 have HR0 := Aside0.mk hr0
 have HC0 := Aside0.mk hc0
 clear hr0 hc0
 have HB := Aside0.mk (Below.refl w.heap.size w)
 have H : ((le_may.f 0 a1).bind fun t101 => (if t101 = true then (le_Take_p.j0 k l0 a1 0 (decide ((l0.length : Int) < a1))) else (le_Take_p.j0 k l0 a1 0 true))) = some (r1, r2, r3) := h
 clear h
 have HC3 := Aside0.mk H
 clear H
 go_enter Try.func69, Try.ntmps69
 go_upto_region 1 with (fail)
 go_cut [16] (fun v16 wc => ∃ (kq : Nat) (x16_2 : Bool), v16 = .bool x16_2 ∧ Aside0 (le_Take_p.j0 kq l0 a1 0 x16_2 = some (r1, r2, r3)) ∧ Aside0 (kq ≤ k) ∧ Aside0 (Below w.heap.size w wc))
 case first =>
  have H := HC3.out
  clear HC3
  replace H := Option.bind_eq_some_iff.mp H
  obtain ⟨t101, A40, H⟩ := H
  replace H : (if t101 = true then (le_Take_p.j0 k l0 a1 0 (decide ((l0.length : Int) < a1))) else (le_Take_p.j0 k l0 a1 0 true)) = some (r1, r2, r3) := H
  have A4 := Aside0.mk A40
  clear A40
  by_cases c5 : t101 = true
  ·subst c5
   have H1 : (le_Take_p.j0 k l0 a1 0 (decide ((l0.length : Int) < a1))) = some (r1, r2, r3) := by rw [if_pos rfl] at H <;> exact H
   clear H
   have H := H1
   clear H1
   have H' := Aside0.mk H
   clear H
   go_wp2_with (first | ((with_reducible refine gate_callee (f := 72) rfl ?_); refine goesL_ (some 9) rfl rfl Try.func72 (by kernel_rfl) rfl #[.int .u64 0, .int .i64 a1] rfl (by (try simp only [List.map_toArray, List.map_cons, List.map_nil]); first | done | rfl | (simp only [List.length_drop, List.length_take]; rfl)) ?_; (with_reducible refine (le_may.calls 0 a1 true _ A4.out).mono ?_); rintro e w' ⟨rfl, ⟨nd, rfl⟩⟩; refine ⟨_, rfl, ?_⟩))
   go_meet
   case rel => exact ⟨_, (decide ((l0.length : Int) < a1)), (by first | rfl | (simp; done) | (simp [*]; done)), H', ⟨by first | omega | exact Nat.le_refl _⟩, ⟨by repeat (first | (with_reducible first | exact HB.out | apply below_alloc | apply pw_below_drewN | apply below_drew1) | exact HB.out)⟩⟩
  ·replace c5 := Bool.eq_false_iff.mpr c5
   subst c5
   have H1 : (le_Take_p.j0 k l0 a1 0 true) = some (r1, r2, r3) := by rw [if_neg (show ¬ (false = true) by decide)] at H <;> exact H
   clear H
   have H := H1
   clear H1
   have H' := Aside0.mk H
   clear H
   go_wp2_with (first | ((with_reducible refine gate_callee (f := 72) rfl ?_); refine goesL_ (some 9) rfl rfl Try.func72 (by kernel_rfl) rfl #[.int .u64 0, .int .i64 a1] rfl (by (try simp only [List.map_toArray, List.map_cons, List.map_nil]); first | done | rfl | (simp only [List.length_drop, List.length_take]; rfl)) ?_; (with_reducible refine (le_may.calls 0 a1 false _ A4.out).mono ?_); rintro e w' ⟨rfl, ⟨nd, rfl⟩⟩; refine ⟨_, rfl, ?_⟩))
   go_meet
   case rel => exact ⟨_, (true), (by first | rfl | (simp; done) | (simp [*]; done)), H', ⟨by first | omega | exact Nat.le_refl _⟩, ⟨by repeat (first | (with_reducible first | exact HB.out | apply below_alloc | apply pw_below_drewN | apply below_drew1) | exact HB.out)⟩⟩
 case rest =>
  clear HC3
  try clear p2
  try clear c5
  obtain ⟨kq, x16_2, rfl, HA, HJ2, HB⟩ := hcut
  cases kq with
  | zero => exact absurd HA.out (by simp [le_Take_p.j0])
  | succ kj2 =>
   have H := HA.out
   clear HA
   simp only [le_Take_p.j0] at H
   by_cases c6 : x16_2 = true
   ·subst c6
    have H1 : (some (0, ([] : List Int), 10)) = some (r1, r2, r3) := by rw [if_pos rfl] at H <;> exact H
    clear H
    have H := H1
    clear H1
    simp only [Option.some.injEq, Prod.mk.injEq] at H
    obtain ⟨rfl, rfl, rfl⟩ := H
    go_wp2
    go_ret3
    exact ⟨_, by first | rfl | (simp [errW_none, errW_some] <;> rfl) | (simp [*, errW_none, errW_some] <;> rfl), by first | exact Kd.R_nil _ _ _ _ _ | exact Kd.N_nil _ _ _ _ _ | exact Kd.V_nil _ _ _ _ _ | exact Kd.Q_nil _ _ _ _ _ | exact Kd.S_nil _ _ _ _ _, by repeat (first | (with_reducible first | exact HB.out | apply below_alloc | apply pw_below_drewN | apply below_drew1) | exact HB.out)⟩
   ·replace c6 := Bool.eq_false_iff.mpr c6
    subst c6
    have H1 : (le_Take_p.l0 kj2 l0 a1 0 a1 0) = some (r1, r2, r3) := by rw [if_neg (show ¬ (false = true) by decide)] at H <;> exact H
    clear H
    have H := H1
    clear H1
    have H' := Aside0.mk H
    clear H
    go_wp2
    go_loopg [4, 18] kj2 (fun kq v4 v18 w' => ∃ (x4_2 : Int) (x18_2 : Int), v4 = .int .u64 x4_2 ∧ v18 = .int .i64 x18_2 ∧ Aside0 (le_Take_p.l0 kq l0 a1 x4_2 a1 x18_2 = some (r1, r2, r3)) ∧ Aside0 (kq ≤ kj2) ∧ Aside0 (Below w.heap.size w w'))
    case atStart => exact ⟨(0), (0), (by first | rfl | (simp; done) | (simp [*]; done)), (by first | rfl | (simp; done) | (simp [*]; done)), H', ⟨Nat.le_refl _⟩, ⟨by repeat (first | (with_reducible first | exact HB.out | apply below_alloc | apply pw_below_drewN | apply below_drew1) | exact HB.out)⟩⟩
    case round =>
     clear H'
     try clear p2
     try clear c5
     try clear c6
     try clear p2
     obtain ⟨x4_2, x18_2, rfl, rfl, HA, HK2, HB⟩ := hrel
     cases gk with
     | zero => exact absurd HA.out (by simp [le_Take_p.l0])
     | succ k2 =>
      have H := HA.out
      clear HA
      simp only [le_Take_p.l0] at H
      by_cases c7 : x18_2 < a1
      ·rw [if_pos c7] at H
       have c7b0 : decide (x18_2 < a1) = true := decide_eq_true c7
       clear c7
       by_cases c8 : 0 ≤ x18_2
       ·rw [if_pos c8] at H
        have c8b0 : decide (0 ≤ x18_2) = true := decide_eq_true c8
        clear c8
        by_cases c9 : x18_2 < (l0.length : Int)
        ·rw [if_pos c9] at H
         have c9b0 : decide (x18_2 < (l0.length : Int)) = true := decide_eq_true c9
         clear c9
         obtain ⟨ji10, hji10⟩ : ∃ j_ : Int, (wrap64 (8 * x18_2)) = j_ := ⟨_, rfl⟩
         replace H : (if 0 ≤ (ji10) then (le_Take_p.l0 k2 l0 a1 (Go.bits .or .u64 x4_2 (shl .u64 (IntKind.u64.wrap (rd l0 x18_2)) (ji10))) a1 (wrap64 (x18_2 + 1))) else (none)) = some (r1, r2, r3) := by first | (rw [hji10] at H; exact H) | (simp only [hji10] at H ⊢; exact H)
         have hji10w : (IntKind.i64.wrap (8 * x18_2)) = ji10 := (i64_w _).trans hji10
         by_cases c11 : 0 ≤ (ji10)
         ·rw [if_pos c11] at H
          have c11b0 := eq_true c11
          have c11b1 : decide (0 ≤ (ji10)) = true := decide_eq_true c11
          clear c11
          obtain ⟨ji12, hji12⟩ : ∃ j_ : Int, (shl .u64 (IntKind.u64.wrap (rd l0 x18_2)) (ji10)) = j_ := ⟨_, rfl⟩
          replace H : (le_Take_p.l0 k2 l0 a1 (Go.bits .or .u64 x4_2 (ji12)) a1 (wrap64 (x18_2 + 1))) = some (r1, r2, r3) := by first | (rw [hji12] at H; exact H) | (simp only [hji12] at H ⊢; exact H)
          have hji12_ : (IntKind.u64.wrap ((IntKind.u64.wrap (rd l0 x18_2)) * 2 ^ min (ji10).toNat 64)) = ji12 := hji12
          have hji12z : (ji10) ≤ 64 → (IntKind.u64.wrap ((IntKind.u64.wrap (rd l0 x18_2)) * 2 ^ (ji10).toNat)) = ji12 := shl_small hji12
          have H' := Aside0.mk H
          clear H
          have p102 : 0 ≤ (x18_2 : Int) := of_decide_eq_true (by first | (with_reducible assumption) | assumption)
          have q102 : x18_2 < (l0.length : Int) := of_decide_eq_true (by first | (with_reducible assumption) | assumption)
          obtain ⟨ad102, e102, hx102_0⟩ := Kd.at_int HR0.out x18_2 p102 q102
          cases e102
          replace hx102_0 := (HB.out.cell (World.block_lt_of_cell? w _ hx102_0)).trans hx102_0
          replace p102 := eq_true p102
          replace q102 := eq_true q102
          go_wp2
          go_roundg k2
          case measure => have := HJ2.out; have := HK2.out; omega
          case rel => exact ⟨(Go.bits .or .u64 x4_2 (ji12)), (wrap64 (x18_2 + 1)), (by first | rfl | (simp; done) | (simp only [← hji12] <;> (first | rfl | simp)) | (simp [*]; done)), (by first | rfl | (simp; done) | (simp [*]; done)), H', ⟨by have := HJ2.out; have := HK2.out; omega⟩, ⟨by repeat (first | (with_reducible first | exact HB.out | apply below_alloc | apply pw_below_drewN | apply below_drew1) | exact HB.out)⟩⟩
         ·rw [if_neg c11] at H
          exact absurd H (by simp)
        ·rw [if_neg c9] at H
         exact absurd H (by simp)
       ·rw [if_neg c8] at H
        exact absurd H (by simp)
      ·rw [if_neg c7] at H
       have c7b0 : decide (x18_2 < a1) = false := decide_eq_false c7
       clear c7
       by_cases c13 : 0 ≤ a1
       ·rw [if_pos c13] at H
        have c13b0 := eq_true c13
        have c13b1 : decide (0 ≤ a1) = true := decide_eq_true c13
        clear c13
        by_cases c14 : a1 ≤ (l0.length : Int)
        ·rw [if_pos c14] at H
         have c14b0 := eq_true c14
         have c14b1 : decide (a1 ≤ (l0.length : Int)) = true := decide_eq_true c14
         clear c14
         replace H := Option.bind_eq_some_iff.mp H
         obtain ⟨t104, A150, H⟩ := H
         replace H : (some (x4_2, t104, 0)) = some (r1, r2, r3) := H
         have A15 := Aside0.mk A150
         clear A150
         simp only [Option.some.injEq, Prod.mk.injEq] at H
         obtain ⟨rfl, rfl, rfl⟩ := H
         obtain ⟨i016, hi016, _, hsz16, _⟩ := info_parts info5
         obtain ⟨A16, hcut16, hA16, hC16⟩ := print_drop_of (P := Try.prog) (Value.int .u8) 0 23 5 .i64 Try.underlying23 hi016 hsz16 A0 c0 l0 a1 (of_decide_eq_true (by first | (with_reducible assumption) | assumption)) (of_decide_eq_true (by first | (with_reducible assumption) | assumption)) HC0.out
         have HR103 := Aside0.mk (Kd.C_of_reads (h1 := fun _ => rfl) (hA16 _ (Kd.reads_of_C HR0.out)))
         have HC103 := Aside0.mk hC16
         clear hA16 hC16 hi016 hsz16
         go_wp2_with (first | ((with_reducible refine gate_callee (f := 56) rfl ?_); refine goesL_ (some 36) rfl rfl Try.func56 (by kernel_rfl) rfl #[.slice A16 (l0.drop (a1 : Int).toNat).length (c0 - a1.toNat)] rfl (by (try simp only [List.map_toArray, List.map_cons, List.map_nil]); first | done | (rw [show (l0.drop (a1 : Int).toNat).length = (l0.length - a1.toNat) from List.length_drop] <;> rfl) | rfl | (simp only [List.length_drop, List.length_take]; rfl)) ?_; (with_reducible refine (bytes_Clone.calls _ _ (l0.drop (a1 : Int).toNat) t104 _ ?side1 ?side2 A15.out).mono ?_); (case side1 => repeat (first | exact (Kd.C_below HR103.out HB.out) | (with_reducible refine Kd.C_alloc ?_ _) | (with_reducible refine Kd.C_drewN ?_ _) | (with_reducible refine Kd.C_drew ?_))); (case side2 => exact HC103.out); rintro e w17 ⟨v105, rfl, ho0, hb⟩; refine ⟨_, rfl, ?_⟩; have n0_ := Aside0.mk (Kd.R_lower ho0 (below_size (by repeat (first | (with_reducible first | exact HB.out | apply below_alloc | apply pw_below_drewN | apply below_drew1) | exact HB.out)))); have n1_ := Aside0.mk (below_step (by repeat (first | (with_reducible first | exact HB.out | apply below_alloc | apply pw_below_drewN | apply below_drew1) | exact HB.out)) hb); clear HB; have HO106 := n0_; have HB := n1_; clear n0_ n1_; (try clear hb); (try clear hb2); (try clear hk); (try clear hi); (try clear ho0)))
         go_ret3
         exact ⟨_, by first | rfl | (simp [errW_none, errW_some] <;> rfl) | (simp [*, errW_none, errW_some] <;> rfl), by (with_reducible repeat (first | apply Kd.R_alloc | apply Kd.R_drewN | apply Kd.R_drew)); exact HO106.out, by repeat (first | (with_reducible first | exact HB.out | apply below_alloc | apply pw_below_drewN | apply below_drew1) | exact HB.out)⟩
        ·rw [if_neg c14] at H
         exact absurd H (by simp)
       ·rw [if_neg c13] at H
        exact absurd H (by simp)
def le_Take.f (l0 : List Int) (a1 : Int) : Option (Int × List Int × Int) := if Pl.byteB l0 = true ∧ l0.length < 70368744177664 then some (Pl.takeS l0 a1) else none
theorem le_Take.may (s : Int) : le_may.f 0 s = some (Pl.okS s) := by
 unfold le_may.f
 by_cases h1 : s = 1
 ·subst h1
  rw [if_pos rfl, show (wrap64 (8 * 1)) = 8 from by unfold wrap64; omega, if_pos (by decide)]
  rfl
 by_cases h2 : s = 2
 ·subst h2
  rw [if_neg (by decide), if_pos rfl, show (wrap64 (8 * 2)) = 16 from by unfold wrap64; omega, if_pos (by decide)]
  rfl
 by_cases h4 : s = 4
 ·subst h4
  rw [if_neg (by decide), if_neg (by decide), if_pos rfl, show (wrap64 (8 * 4)) = 32 from by unfold wrap64; omega, if_pos (by decide)]
  rfl
 rw [if_neg h1, if_neg h2, if_neg h4]
 unfold Pl.okS
 simp [h1, h2, h4]
theorem le_Take.step (v b i : Nat) (hv : v < 2 ^ (8 * i)) (hb : b < 256) (hi : i < 8) : bits .or .u64 (v : Int) (shl .u64 (IntKind.u64.wrap (b : Int)) (wrap64 (8 * (i : Int)))) = ((2 ^ (8 * i) * b + v : Nat) : Int) := by
 have e1 : IntKind.u64.wrap (b : Int) = (b : Int) := by rw [IntKind.wrap_u64]; omega
 have e2 : wrap64 (8 * (i : Int)) = ((8 * i : Nat) : Int) := by unfold wrap64; omega
 have hp : 2 ^ (8 * i) * b < 18446744073709551616 := by
  have h1 : 2 ^ (8 * i) * 256 ≤ 2 ^ 64 := by
   rw [show (256 : Nat) = 2 ^ 8 from rfl, ← Nat.pow_add]
   exact Nat.pow_le_pow_right (by decide) (by omega)
  have h2 : 2 ^ (8 * i) * b < 2 ^ (8 * i) * 256 := Nat.mul_lt_mul_of_pos_left hb (Nat.two_pow_pos _)
  omega
 have h64 : 2 ^ (8 * i) ≤ 2 ^ 64 := Nat.pow_le_pow_right (by decide) (by omega)
 have hv64 : v < 18446744073709551616 := Nat.lt_of_lt_of_le hv h64
 unfold shl
 rw [e1, e2, Int.toNat_natCast, Nat.min_eq_left (show 8 * i ≤ IntKind.u64.bits from by show 8 * i ≤ 64; omega),
  show (b : Int) * 2 ^ (8 * i) = ((2 ^ (8 * i) * b : Nat) : Int) from by push_cast; rw [Int.mul_comm], IntKind.wrap_u64]
 obtain ⟨p, hpe⟩ : ∃ p, p = 2 ^ (8 * i) * b := ⟨_, rfl⟩
 rw [← hpe] at hp ⊢
 rw [show ((p : Nat) : Int) % 18446744073709551616 = (p : Int) from by omega, u64_or_nat v p hv64 hp, hpe, Nat.or_comm, Nat.two_pow_add_eq_or_of_lt hv b]
theorem le_Take.grow (l : List Int) (hb : Pl.byteB l = true) (i : Nat) (hi : i < l.length) : ∃ b : Nat, b < 256 ∧ rd l (i : Int) = (b : Int) ∧ Pl.leN (Pl.nats (l.take i)) < 2 ^ (8 * i) ∧ Pl.leN (Pl.nats (l.take (i + 1))) = 2 ^ (8 * i) * b + Pl.leN (Pl.nats (l.take i)) := by
 obtain ⟨b, hb8, hg, ht⟩ := Pl.byteB_at hb i hi
 have hn : ∀ j, Pl.nats (l.take j) = (Pl.nats l).take j := fun j => by unfold Pl.nats; rw [List.map_take]
 have hbt : Pl.Bytes ((Pl.nats l).take i) := Pl.bytes_take (Pl.byteB_bytes hb) i
 have hlen : ((Pl.nats l).take i).length = i := by rw [List.length_take, Pl.nats_length]; omega
 have hlt : Pl.leN (Pl.nats (l.take i)) < 2 ^ (8 * i) := by
  have := Pl.leN_lt _ hbt
  rw [hlen] at this
  rw [hn]
  exact this
 refine ⟨b, hb8, by unfold rd; rw [Int.toNat_natCast, hg], hlt, ?_⟩
 rw [Pl.add_eq_xor hlt, hn, hn, ht, Pl.leN_append _ _ hbt, hlen, Nat.xor_comm]
 congr 1
 simp [Pl.leN]
theorem le_Take.loop (l : List Int) (hb : Pl.byteB l = true) (s : Nat) (hs : s ≤ l.length) (hs8 : s ≤ 8) (hl : l.length < 70368744177664) : ∀ (d k i : Nat), i + d = s → d < k →
  le_Take_p.l0 k l (s : Int) ((Pl.leN (Pl.nats (l.take i)) : Nat) : Int) (s : Int) (i : Int) = some (((Pl.leN (Pl.nats (l.take s)) : Nat) : Int), l.drop s, 0)
 | 0, k, i, hi, hk => by
  obtain ⟨k, rfl⟩ : ∃ m, k = m + 1 := ⟨k - 1, by omega⟩
  obtain rfl : i = s := by omega
  simp only [le_Take_p.l0]
  unfold bytes_Clone.f
  rw [if_neg (by omega), if_pos (by omega), if_pos (by omega), Int.toNat_natCast, if_pos (by rw [List.length_drop]; omega), Option.bind_some]
 | d + 1, k, i, hi, hk => by
  obtain ⟨k, rfl⟩ : ∃ m, k = m + 1 := ⟨k - 1, by omega⟩
  obtain ⟨b, hb8, hr, hlt, hgo⟩ := le_Take.grow l hb i (by omega)
  simp only [le_Take_p.l0]
  rw [if_pos (by omega), if_pos (by omega), if_pos (by omega), if_pos (by unfold wrap64; omega), hr, le_Take.step _ b i hlt hb8 (by omega), ← hgo, show wrap64 ((i : Int) + 1) = ((i + 1 : Nat) : Int) from by unfold wrap64; omega]
  exact le_Take.loop l hb s hs hs8 hl d k (i + 1) (by omega) (by omega)
theorem le_Take.tells {l0 : List Int} {a1 : Int} {r : Int × List Int × Int} (h : le_Take.f l0 a1 = some r) : le_Take_p.f 12 l0 a1 = some r := by
 unfold le_Take.f at h
 split at h
 case isFalse => cases h
 rename_i hh
 obtain ⟨h0, h1⟩ := hh
 obtain rfl := Option.some.inj h
 unfold le_Take_p.f
 rw [le_Take.may, Option.bind_some]
 unfold Pl.takeS
 by_cases hs : Pl.okS a1 = true
 ·obtain ⟨s, rfl⟩ := Int.eq_ofNat_of_zero_le (show 0 ≤ a1 from by rcases Pl.okS_iff.1 hs with h | h | h | h <;> omega)
  have hs8 : s ≤ 8 := by rcases Pl.okS_iff.1 hs with h | h | h | h <;> omega
  rw [if_pos hs]
  simp only [le_Take_p.j0]
  by_cases hl : (l0.length : Int) < (s : Int)
  ·rw [decide_eq_true hl, if_pos rfl, if_neg (by omega)]
  ·rw [decide_eq_false hl, if_neg (by decide), if_pos ⟨hs, by omega⟩, Int.toNat_natCast]
   exact le_Take.loop l0 h0 s (by omega) hs8 h1 s 11 0 (by omega) (by omega)
 ·rw [if_neg hs, if_neg (fun h => hs h.1)]
  simp only [le_Take_p.j0]
  rfl
theorem le_Take.calls (A0 : Option Addr) (c0 : Nat) (l0 : List Int) (a1 : Int) (r1 : Int) (r2 : List Int) (r3 : Int) (w : World) (hr0 : Kd.C (Kd.int .u8) w A0 l0.length l0) (hc0 : l0.length ≤ c0) (h : le_Take.f l0 a1 = some (r1, r2, r3)) :
  Calls Try.prog 69 #[.slice A0 l0.length c0, .int .i64 a1] w fun e w' => ∃ v1_ : Value, e = .returned (.tuple #[.int .u64 r1, v1_, .int .i64 r3]) ∧ Kd.R (Kd.int .u8) 5 w' w.heap.size (fun _ => True) v1_ r2 ∧ Below w.heap.size w w' :=
 le_Take_p.calls 12 A0 c0 l0 a1 r1 r2 r3 w hr0 hc0 (le_Take.tells h)
def le_Unpack.f (a0 : ByteArray) (l1 : List Int) : Option (List Int × Int) := if Pl.byteB l1 = true ∧ l1.length < 70368744177664 ∧ a0.size < 2147483648 then some (Pl.unpackS (Pl.fb a0) l1) else none
theorem le_Unpack.R_iter {α : Type} {d : Kd α} {e base : Nat} {ok : Nat → Prop} {v : Value} {xs : List α} {w : World} {B : Nat} (h : d.R e w base ok v xs) (hB : B < base) (s : ByteArray) (p : Nat) : d.R e (w.iterAt B s p) base ok v xs :=
 Kd.R_mono (Kd.R_move (Kd.R_bound h) (fun k hk => Lib.iterAt_other w B k s p (by have := hk.2.1; omega))) (fun _ hk => hk.1)
theorem le_Unpack.drop {b : List Int} (h : Pl.byteB b = true) (n : Nat) : Pl.byteB (b.drop n) = true := by
 rw [Pl.byteB_iff] at h ⊢
 exact fun x hx => h x (List.mem_of_mem_drop hx)
theorem le_Unpack.rune (s : ByteArray) (i : Nat) (h : i < s.size) : Pl.letS ((Utf8.decode s i).1 : Int) = Pl.letS ((Pl.fb s)[i]'(by rw [Pl.fb_length]; exact h)) ∧ (Pl.letS ((Pl.fb s)[i]'(by rw [Pl.fb_length]; exact h)) ≠ 0 → (Utf8.decode s i).2 = 1) := by
 have e : (Pl.fb s)[i]'(by rw [Pl.fb_length]; exact h) = (((s[i]'h).toNat : Nat) : Int) := by
  simp only [Pl.fb, List.getElem_map]
  rfl
 rw [e]
 by_cases ha : (s[i]'h).toNat < 128
 ·rw [decode_ascii s i h ha]
  exact ⟨rfl, fun _ => rfl⟩
 ·have hd := decode_high s i h (by omega)
  have z : ∀ c : Nat, 128 ≤ c → Pl.letS (c : Int) = 0 := fun c hc => by
   unfold Pl.letS
   rw [if_neg (by omega), if_neg (by omega), if_neg (by omega), if_neg (by omega)]
  rw [z _ hd.1, z _ (by omega)]
  exact ⟨rfl, fun h => absurd rfl h⟩
set_option maxHeartbeats 8000000 in
set_option maxRecDepth 2000000 in
theorem le_Unpack.callsV (a0 : ByteArray) (P1_ : Nat → Prop) (A1 : Option Addr) (c1 : Nat) (l1 : List Int) (r1 : List Int) (r2 : Int) (w : World) (hs1 : Kd.V (Kd.int .u8) 5 w w.heap.size (fun k_ => P1_ k_) (.slice A1 l1.length c1) l1) (h : le_Unpack.f a0 l1 = some (r1, r2)) :
  Calls Try.prog 54 #[.string a0, .slice A1 l1.length c1] w fun e w' => ∃ v0_ : Value, e = .returned (.tuple #[v0_, .int .i64 r2]) ∧ Kd.R (Kd.int .u64) 68 w' w.heap.size (fun k_ => (w.heap.size ≤ k_)) v0_ r1 ∧ Below w.heap.size w w' := by
 unfold le_Unpack.f at h
 split at h
 case isFalse => cases h
 rename_i hh
 obtain ⟨hb, hbl, hsz⟩ := hh
 have HP0 := Aside0.mk (Option.some.inj h)
 have HBY := Aside0.mk hb
 have HBL := Aside0.mk hbl
 clear h hb hbl
 obtain ⟨B, hB⟩ : ∃ B, B = w.heap.size := ⟨_, rfl⟩
 have HBN := Aside0.mk hB
 clear hB
 have HV0 : Aside0 (Kd.V (Kd.int .u8) 5 (w.iter a0 0) 0 (fun k => k ≠ B) (.slice A1 l1.length c1) l1) := ⟨Kd.V_mono (Kd.V_alloc (Kd.V_bound (Kd.V_lower (base' := 0) hs1 (Nat.zero_le _))) _) (fun k hk => by have := hk.2; rw [HBN.out]; omega)⟩
 have hk0 : Aside0 ((w.iter a0 0).heap[B]? = some (.stringIter a0 0)) := ⟨by rw [HBN.out]; exact World.iter_heap w a0 0⟩
 have hb0 : Aside0 (Below w.heap.size w (w.iter a0 0)) := ⟨(Below.refl _ w).alloc (Nat.le_refl _) _⟩
 have hs0 : Aside0 (B + 1 ≤ (w.iter a0 0).heap.size) := ⟨by rw [HBN.out]; simp [World.iter]⟩
 clear hs1
 go_enter Try.func54, Try.ntmps54
 go_wp2
 rw [← HBN.out]
 generalize w.iter a0 0 = w0 at hk0 hb0 hs0 HV0 ⊢
 go_loopw [1, 4] (fun v u wr => ∃ (i : Nat) (out b : List Int), i ≤ a0.size ∧ Aside0 (out.length ≤ i) ∧ Aside0 (Pl.byteB b = true) ∧ Aside0 (b.length < 70368744177664) ∧ Aside0 (wr.heap[B]? = some (.stringIter a0 i)) ∧ Aside0 (Kd.V (Kd.int .u8) 5 wr 0 (fun k => k ≠ B) v b) ∧ Aside0 (Kd.R (Kd.int .u64) 68 wr (B + 1) (fun k => B + 1 ≤ k) u out) ∧ Aside0 (Pl.unpackGo out ((Pl.fb a0).drop i) b = (r1, r2)) ∧ Aside0 (B + 1 ≤ wr.heap.size) ∧ Aside0 (Below w.heap.size w wr)) (fun _ _ wr => a0.size - wr.iterPos B)
 case atStart => exact ⟨0, [], l1, by omega, ⟨Nat.le_refl _⟩, HBY, HBL, hk0, HV0, ⟨Kd.R_nil _ _ _ _ _⟩, HP0, hs0, hb0⟩
 case round =>
  clear hk0 hb0 hs0 HP0 HV0 HBY HBL
  obtain ⟨i, out, b, hi, HOL, HBY, HBL, hk, HV, HO, HP, HS, HB⟩ := hrel
  obtain ⟨Ab, cb, rfl⟩ := Kd.V_slice HV.out
  by_cases hp : i < a0.size
  ·obtain ⟨rs, rn⟩ := le_Unpack.rune a0 i hp
   have hif : i < (Pl.fb a0).length := by rw [Pl.fb_length]; exact hp
   have hle := decode_le a0 i
   obtain ⟨z, hz⟩ : ∃ z, z = Pl.letS ((Pl.fb a0)[i]'hif) := ⟨_, rfl⟩
   rw [← hz] at rs rn
   have HZ := Aside0.mk hz
   have hnext : ∀ ty, (Instr.next (.pointer (some ⟨B, 0, none⟩)) true ty).run Try.prog wr = _ := fun ty => Lib.run_next_any_at wr B a0 i ty hk.out hp
   obtain ⟨q, hq⟩ : ∃ q, q = i + (Utf8.decode a0 i).2 := ⟨_, rfl⟩
   rw [← hq] at hnext
   have HRN : Aside0 (z ≠ 0 → q = i + 1) := ⟨fun h => by rw [hq, rn h]⟩
   obtain ⟨c, hc⟩ : ∃ c, c = (Utf8.decode a0 i).1 := ⟨_, rfl⟩
   rw [← hc] at hnext rs hle
   have HRS : Aside0 (le_size.f (c : Int) = some z) := ⟨by unfold le_size.f; rw [if_pos ⟨by omega, by omega⟩, rs]⟩
   have hmu : Aside0 (wr.iterPos B = i) := ⟨by simp [World.iterPos, hk.out]⟩
   clear hq hc rs rn hle hz
   have hk1 := Aside0.mk (Lib.iterAt_heap wr B a0 i q hk.out)
   have hn1 := Aside0.mk (Lib.below_iterAt (k := B) HB.out (by rw [HBN.out]; exact Nat.le_refl _) a0 q)
   have HO1 := Aside0.mk (le_Unpack.R_iter HO.out (Nat.lt_succ_self B) a0 q)
   have HV1 := Aside0.mk (Kd.V_step (w1 := wr.iterAt B a0 q) HV.out (fun k hk _ => Lib.iterAt_other wr B k a0 q hk))
   have hs1 : Aside0 (B + 1 ≤ (wr.iterAt B a0 q).heap.size) := ⟨by rw [Lib.iterAt_size]; exact HS.out⟩
   clear hk HO HS HB HV
   generalize wr.iterAt B a0 q = W1 at hnext hk1 hn1 HO1 HV1 hs1
   obtain ⟨x, rest, E, HTK⟩ : ∃ x rest E, Aside0 (Pl.takeS b z = (x, rest, E)) := ⟨_, _, _, ⟨rfl⟩⟩
   have HTake : Aside0 (le_Take.f b z = some (x, rest, E)) := ⟨by unfold le_Take.f; rw [if_pos ⟨HBY.out, HBL.out⟩, HTK.out]⟩
   by_cases hf : Pl.okS z = true ∧ z ≤ b.length
   ·have e := HTK.out
    unfold Pl.takeS at e
    rw [if_pos hf] at e
    injection e with e1 e2
    injection e2 with e2 e3
    have HX := Aside0.mk e1
    have HRE := Aside0.mk e2
    subst e3
    clear e1 e2
    have LM := Aside0.mk (show out.length < 17592186044416 from by have := HOL.out; omega)
    go_wp2_with (first | (go_at_call 64; refine (le_size.calls _ _ _ HRS.out).mono ?_; rintro e w2 ⟨rfl, hb2⟩; have HV2 := Aside0.mk (Kd.V_below HV1.out hb2); have HO2 := Aside0.mk (Kd.R_below HO1.out hb2); have hn2 := Aside0.mk (below_step hn1.out hb2); have hs2 := Aside0.mk (Nat.le_trans hs1.out hb2.size); have hk2 := Aside0.mk ((hb2.block B (by have := hs1.out; omega)).trans hk1.out); clear hb2) | (go_at_call 69; refine (le_Take.calls _ _ b z x rest 0 _ (Kd.V_reads' HV2.out).2.2 (Kd.V_reads' HV2.out).2.1 HTake.out).mono ?_; rintro e w3 ⟨vr, rfl, ho, hb3⟩; have HR3 := Aside0.mk (Kd.R_lower ho hs2.out); have HO3 := Aside0.mk (Kd.R_below HO2.out hb3); have hn3 := Aside0.mk (below_step hn2.out hb3); have hs3 := Aside0.mk (Nat.le_trans hs2.out hb3.size); have hk3 := Aside0.mk ((hb3.block B (by have := hs2.out; omega)).trans hk2.out); clear hb3 ho) | ((with_reducible refine gate_builtin (b := .append) (xs := #[.tmp 25, .tmp 27]) rfl ?_); at_builtin; refine Kd.R_append (Kd.int .u64) (w0 := w3) (B + 1) rfl (.tmp 25) (.tmp 27) 71 68 (.int .u64 0) 8 rfl Try.underlying71 info68 rfl (by decide) (by omega) u4 out x [.int .u64 x] (fun k_ => B + 1 ≤ k_) (fun _ => False) rfl rfl ?aP (fun _ hk => hk.elim) ?aF ?aO ?aB ?aS ?aL ?_; (case aP => exact rfl); (case aB => exact Below.refl _ _); (case aF => exact (fun k_ hk => Nat.le_trans hs3.out hk)); (case aO => exact HO3.out); (case aS => exact hs3.out); (case aL => have := LM.out; omega); intro v9 w4 ho hb4 hg hat; have HO4 := Aside0.mk ho; have HR4 := Aside0.mk (Kd.R_over' HR3.out (Kd.R_typed HO3.out) (by decide) hg); have hb4' := Aside0.mk hb4; clear ho hb4 hg hat))
    have h8 : z ≤ 8 ∧ 0 ≤ z ∧ z ≠ 0 := by have := hf.1; rw [Pl.okS_iff] at this; omega
    have hk4 : Aside0 (w4.heap[B]? = some (.stringIter a0 (i + 1))) := ⟨by rw [hb4'.out.block B (Nat.lt_succ_self B), hk3.out, HRN.out h8.2.2]⟩
    have hm4 : Aside0 (w4.iterPos B = i + 1) := ⟨by simp [World.iterPos, hk4.out]⟩
    go_roundw
    case rel =>
     refine ⟨i + 1, out ++ [x], rest, by omega, ⟨?_⟩, ⟨?_⟩, ⟨?_⟩, ⟨?_⟩, ⟨?_⟩, HO4, ⟨?_⟩, ⟨?_⟩, ⟨?_⟩⟩
     ·rw [List.length_append, List.length_singleton]; have := HOL.out; omega
     ·rw [← HRE.out]; exact le_Unpack.drop HBY.out _
     ·rw [← HRE.out, List.length_drop]; have := HBL.out; omega
     ·exact hk4.out
     ·exact Kd.V_mono (Kd.R_V (Kd.R_bound HR4.out)) (fun k hk => by have := hk.2.1; omega)
     ·have e := HP.out
      rw [List.drop_eq_getElem_cons hif, Pl.unpackGo, ← HZ.out, if_pos hf, HX.out, HRE.out] at e
      exact e
     ·exact Nat.le_trans hs3.out hb4'.out.size
     ·exact hn3.out.trans (hb4'.out.mono (by have := HBN.out; omega))
    case measure => rw [hmu.out, hm4.out]; omega
   ·have e := HTK.out
    unfold Pl.takeS at e
    rw [if_neg hf] at e
    injection e with e1 e2
    injection e2 with e2 e3
    subst e1 e2 e3
    go_wp2_with (first | (go_at_call 64; refine (le_size.calls _ _ _ HRS.out).mono ?_; rintro e w2 ⟨rfl, hb2⟩; have HV2 := Aside0.mk (Kd.V_below HV1.out hb2); have hn2 := Aside0.mk (below_step hn1.out hb2); clear hb2) | (go_at_call 69; refine (le_Take.calls _ _ b z 0 [] 10 _ (Kd.V_reads' HV2.out).2.2 (Kd.V_reads' HV2.out).2.1 HTake.out).mono ?_; rintro e w3 ⟨vr, rfl, ho, hb3⟩; have hn3 := Aside0.mk (below_step hn2.out hb3); clear hb3 ho))
    go_ret2
    have e := HP.out
    rw [List.drop_eq_getElem_cons hif, Pl.unpackGo, ← HZ.out, if_neg hf] at e
    injection e with e1 e2
    subst e1 e2
    exact ⟨_, rfl, Kd.R_nil _ _ _ _ _, hn3.out⟩
  ·have hnext : ∀ ty, (Instr.next (.pointer (some ⟨B, 0, none⟩)) true ty).run Try.prog wr = _ := fun ty => Lib.run_next_end_at wr B a0 i ty hk.out hp
   have e := HP.out
   rw [List.drop_eq_nil_of_le (by rw [Pl.fb_length]; omega), Pl.unpackGo] at e
   by_cases hl : 0 < b.length
   ·have d0 : decide ((0 : Int) < (b.length : Int)) = true := decide_eq_true (by omega)
    have d1 : decide (0 < b.length) = true := decide_eq_true hl
    rw [if_neg (by intro h0; rw [h0] at hl; exact absurd hl (by decide))] at e
    injection e with e1 e2
    subst e1 e2
    go_wp2
    go_ret2
    exact ⟨_, rfl, Kd.R_nil _ _ _ _ _, HB.out⟩
   ·have d0 : decide ((0 : Int) < (b.length : Int)) = false := decide_eq_false (by omega)
    have d1 : decide (0 < b.length) = false := decide_eq_false hl
    rw [if_pos (List.length_eq_zero_iff.1 (by omega))] at e
    injection e with e1 e2
    subst e1 e2
    go_wp2
    go_ret2
    exact ⟨_, rfl, Kd.R_mono (Kd.R_lower HO.out (by rw [HBN.out]; omega)) (fun k hk => by rw [← HBN.out]; omega), HB.out⟩
theorem le_Unpack.calls (a0 : ByteArray) (A1 : Option Addr) (c1 : Nat) (l1 : List Int) (r1 : List Int) (r2 : Int) (w : World) (hr1 : Kd.C (Kd.int .u8) w A1 l1.length l1) (hc1 : l1.length ≤ c1) (h : le_Unpack.f a0 l1 = some (r1, r2)) :
  Calls Try.prog 54 #[.string a0, .slice A1 l1.length c1] w fun e w' => ∃ v0_ : Value, e = .returned (.tuple #[v0_, .int .i64 r2]) ∧ Kd.R (Kd.int .u64) 68 w' w.heap.size (fun _ => True) v0_ r1 ∧ Below w.heap.size w w' :=
 (le_Unpack.callsV a0 _ A1 c1 l1 r1 r2 w (Kx.V_of_C _ _ hc1 hr1) h).mono fun e w' h => by
  obtain ⟨v, he, hr, hb⟩ := h
  exact ⟨v, he, Kd.R_mono hr (fun _ _ => trivial), hb⟩
def extent_within.f (a0 : Int) (a1 : Int) (a2 : Int) : Option (Bool) := if a0 ≥ a1 then (some (decide (a0 ≤ a2))) else (some false)
set_option maxHeartbeats 8000000 in
set_option maxRecDepth 100000 in
theorem extent_within.calls (a0 : Int) (a1 : Int) (a2 : Int) (r : Bool) (w : World) (h : extent_within.f a0 a1 a2 = some r) :
  Calls Try.prog 59 #[.int .i64 a0, .int .i64 a1, .int .i64 a2] w fun e w' => e = .returned (.bool r) ∧ Drawn0 w w' := by
 have H : (if a0 ≥ a1 then (some (decide (a0 ≤ a2))) else (some false)) = some r := h
 clear h
 by_cases c4 : a0 ≥ a1
 ·rw [if_pos c4] at H
  have c4b0 : decide (a1 ≤ a0) = true := decide_eq_true c4
  clear c4
  obtain rfl := Option.some.inj H
  go_enter Try.func59, Try.ntmps59
  go_wp2
  go_ret
  exact ⟨by first | rfl | (simp; done) | (simp [*]; done), by repeat (first | exact Drawn0.refl _ | apply Drawn0.step)⟩
 ·rw [if_neg c4] at H
  have c4b0 : decide (a1 ≤ a0) = false := decide_eq_false c4
  clear c4
  obtain rfl := Option.some.inj H
  go_enter Try.func59, Try.ntmps59
  go_wp2
  go_ret
  exact ⟨by first | rfl | (simp; done) | (simp [*]; done), by repeat (first | exact Drawn0.refl _ | apply Drawn0.step)⟩
def extent_data.f (a0_0 : Int) (a0_1 : Int) (a0_2 : Int) (a0_3 : Int) (l0_4 : List Int) : Option (Int) := if a0_2 = 2 then (some (wrap64 (a0_1 * 32))) else (some 0)
set_option maxHeartbeats 8000000 in
set_option maxRecDepth 100000 in
theorem extent_data.calls (a0_0 : Int) (a0_1 : Int) (a0_2 : Int) (a0_3 : Int) (A0_4 : Option Addr) (c0_4 : Nat) (l0_4 : List Int) (r : Int) (w : World) (hr0_4 : Kd.C (Kd.int .u8) w A0_4 l0_4.length l0_4) (hc0_4 : l0_4.length ≤ c0_4) (h : extent_data.f a0_0 a0_1 a0_2 a0_3 l0_4 = some r) :
  Calls Try.prog 61 #[.agg #[.int .i64 a0_0, .int .i64 a0_1, .int .i64 a0_2, .int .i64 a0_3, .slice A0_4 l0_4.length c0_4]] w fun e w' => e = .returned (.int .i64 r) ∧ Below w.heap.size w w' := by
 have hu46 := Try.underlying46
 have HR0_4 := Aside0.mk hr0_4
 have HC0_4 := Aside0.mk hc0_4
 clear hr0_4 hc0_4
 have HB := Aside0.mk (Below.refl w.heap.size w)
 have H : (if a0_2 = 2 then (some (wrap64 (a0_1 * 32))) else (some 0)) = some r := h
 clear h
 by_cases c2 : a0_2 = 2
 ·rw [if_pos c2] at H
  have c2b0 : (a0_2 == 2) = true := beq_iff_eq.mpr c2
  have c2b1 : (a0_2 != 2) = false := bne_eq_false_iff_eq.mpr c2
  clear c2
  obtain rfl := Option.some.inj H
  go_enter Try.func61, Try.ntmps61
  go_wp2_with (first | ((with_reducible refine gate_dst (N := 1) rfl ?_); refine box_event ?hg (N := 1) ?hd (cs := #[.int .i64 a0_0, .int .i64 a0_1, .int .i64 a0_2, .int .i64 a0_3, .slice A0_4 l0_4.length c0_4]) (t := 46) ?hr ?_; (case hd => rfl); (case hg => rfl); (case hr => first | (go_simp; done) | (go_simp; rfl)); intro gb107 hg w3 hbox hb; have n0_ := Aside0.mk (below_step (by repeat (first | (with_reducible first | exact HB.out | apply below_alloc | apply pw_below_drewN | apply below_drew1) | exact HB.out)) hb); have n1_ := Aside0.mk (hbox); have n2_ := Aside0.mk ((by rw [hg]; exact (below_size (by repeat (first | (with_reducible first | exact HB.out | apply below_alloc | apply pw_below_drewN | apply below_drew1) | exact HB.out))) : w.heap.size ≤ gb107)); have n3_ := Aside0.mk ((by rw [hg]; exact (below_size (by repeat (first | (with_reducible first | exact HB.out | apply below_alloc | apply pw_below_drewN | apply below_drew1) | exact HB.out))) : w.heap.size ≤ gb107)); clear HB; have HB := n0_; have BK107 := n1_; have GW107 := n2_; have GE107 := n3_; clear n0_ n1_ n2_ n3_; clear hb hbox hg; have hcz4_0 : w3.cell? ⟨gb107, 0, none⟩ = some (.int .i64 a0_0) := (blk_cell BK107.out 0).trans rfl; have hcz4_1 : w3.cell? ⟨gb107, 1, none⟩ = some (.int .i64 a0_1) := (blk_cell BK107.out 1).trans rfl; have hcz4_2 : w3.cell? ⟨gb107, 2, none⟩ = some (.int .i64 a0_2) := (blk_cell BK107.out 2).trans rfl; have hcz4_3 : w3.cell? ⟨gb107, 3, none⟩ = some (.int .i64 a0_3) := (blk_cell BK107.out 3).trans rfl; have hcz4_4 : w3.cell? ⟨gb107, 4, none⟩ = some (.slice A0_4 l0_4.length c0_4) := (blk_cell BK107.out 4).trans rfl; have hfz4_0 := blk_frozen BK107.out 0; have hfz4_1 := blk_frozen BK107.out 1; have hfz4_2 := blk_frozen BK107.out 2; have hfz4_3 := blk_frozen BK107.out 3; have hfz4_4 := blk_frozen BK107.out 4))
  go_ret
  exact ⟨by first | rfl | (simp [errW_none, errW_some] <;> rfl) | (simp [*, errW_none, errW_some] <;> rfl), by repeat (first | (with_reducible first | exact HB.out | apply below_alloc | apply pw_below_drewN | apply below_drew1 | refine below_set ?_ GE107.out) | exact HB.out)⟩
 ·rw [if_neg c2] at H
  have c2b0 : (a0_2 == 2) = false := beq_eq_false_iff_ne.mpr c2
  have c2b1 : (a0_2 != 2) = true := bne_iff_ne.mpr c2
  obtain rfl := Option.some.inj H
  go_enter Try.func61, Try.ntmps61
  go_wp2_with (first | ((with_reducible refine gate_dst (N := 1) rfl ?_); refine box_event ?hg (N := 1) ?hd (cs := #[.int .i64 a0_0, .int .i64 a0_1, .int .i64 a0_2, .int .i64 a0_3, .slice A0_4 l0_4.length c0_4]) (t := 46) ?hr ?_; (case hd => rfl); (case hg => rfl); (case hr => first | (go_simp; done) | (go_simp; rfl)); intro gb107 hg w5 hbox hb; have n0_ := Aside0.mk (below_step (by repeat (first | (with_reducible first | exact HB.out | apply below_alloc | apply pw_below_drewN | apply below_drew1) | exact HB.out)) hb); have n1_ := Aside0.mk (hbox); have n2_ := Aside0.mk ((by rw [hg]; exact (below_size (by repeat (first | (with_reducible first | exact HB.out | apply below_alloc | apply pw_below_drewN | apply below_drew1) | exact HB.out))) : w.heap.size ≤ gb107)); have n3_ := Aside0.mk ((by rw [hg]; exact (below_size (by repeat (first | (with_reducible first | exact HB.out | apply below_alloc | apply pw_below_drewN | apply below_drew1) | exact HB.out))) : w.heap.size ≤ gb107)); clear HB; have HB := n0_; have BK107 := n1_; have GW107 := n2_; have GE107 := n3_; clear n0_ n1_ n2_ n3_; clear hb hbox hg; have hcz6_0 : w5.cell? ⟨gb107, 0, none⟩ = some (.int .i64 a0_0) := (blk_cell BK107.out 0).trans rfl; have hcz6_1 : w5.cell? ⟨gb107, 1, none⟩ = some (.int .i64 a0_1) := (blk_cell BK107.out 1).trans rfl; have hcz6_2 : w5.cell? ⟨gb107, 2, none⟩ = some (.int .i64 a0_2) := (blk_cell BK107.out 2).trans rfl; have hcz6_3 : w5.cell? ⟨gb107, 3, none⟩ = some (.int .i64 a0_3) := (blk_cell BK107.out 3).trans rfl; have hcz6_4 : w5.cell? ⟨gb107, 4, none⟩ = some (.slice A0_4 l0_4.length c0_4) := (blk_cell BK107.out 4).trans rfl; have hfz6_0 := blk_frozen BK107.out 0; have hfz6_1 := blk_frozen BK107.out 1; have hfz6_2 := blk_frozen BK107.out 2; have hfz6_3 := blk_frozen BK107.out 3; have hfz6_4 := blk_frozen BK107.out 4))
  go_ret
  exact ⟨by first | rfl | (simp [errW_none, errW_some] <;> rfl) | (simp [*, errW_none, errW_some] <;> rfl), by repeat (first | (with_reducible first | exact HB.out | apply below_alloc | apply pw_below_drewN | apply below_drew1 | refine below_set ?_ GE107.out) | exact HB.out)⟩
end Go.Proofs.Ytcemlfkboifncaa.PP
