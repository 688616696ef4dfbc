/- For any frame, place and burst of bits the law's answer is true: turned within thirty-two bits, but not in its length, it is none. -/
import Derived.Test.YtohkmmbmfhficaaPUx47
import Derived.Test.YtohkmmbmfhficaaFrm
import Derived.Test.YtohkmmbmfhficaaStr
namespace Go.Proofs.Ytohkmmbmfhficaa.Pure
open Go Go.RowKit Go.Proofs.Ytohkmmbmfhficaa.PU Go.Proofs.YtohkmmbmfhficaaW.PrintWords Go.Proofs.YtohkmmbmfhficaaW.PrintLast Go.Proofs.YtohkmmbmfhficaaW.PrintMore
set_option linter.unusedVariables false
/-- What the frame is behind k of thirty-two bits; e: the bits that were turned. -/
structure FInv (q : List Int) (fr k : Nat) (u : List Int) (e : Nat) (t : Bool) : Prop where
  len : u.length = q.length
  byte : Pl.byteB u = true
  num : Pl.leN (Pl.nats u) = Pl.leN (Pl.nats q) ^^^ 2 ^ fr * e
  lt : e < 2 ^ k
  turned : t = decide (e ≠ 0)
  one : u.getD 1 0 = q.getD 1 0
  two : u.getD 2 0 = q.getD 2 0
theorem FInv.next {q : List Int} {fr k : Nat} {u : List Int} {e : Nat} {t : Bool} (h : FInv q fr k u e t) : FInv q fr (k + 1) u e t := ⟨h.len, h.byte, h.num, Nat.lt_trans h.lt (Nat.pow_lt_pow_right (by decide) (Nat.lt_succ_self k)), h.turned, h.one, h.two⟩
theorem xor_bit {e k : Nat} (h : e < 2 ^ k) : e ^^^ 2 ^ k = 2 ^ k + e := by
  have := Pl.add_eq_xor h 1
  rw [Nat.mul_one] at this
  rw [this, Nat.xor_comm]
theorem getD_set_ne (u : List Int) (j i : Nat) (v : Int) (h : j ≠ i) : (u.set j v).getD i 0 = u.getD i 0 := by
  rw [List.getD_eq_getElem?_getD, List.getD_eq_getElem?_getD, List.getElem?_set_ne h]
def bfin (u : List Int) (t : Bool) : Option Bool := (frame_Read.f u).bind fun bt345 => (if ((bt345.2.2.2.2.2.2.2.2 == 0) == (!t)) = true then (if t = true then (some (bt345.2.2.2.2.2.2.2.2 == 160)) else (some true)) else (some false))
theorem shl8 : ∀ r : Fin 8, shl .u8 1 ((r : Nat) : Int) = ((2 ^ (r : Nat) : Nat) : Int) ∧ 2 ^ (r : Nat) < 256 := by decide
theorem bit_of (b i : Nat) (h : i < 32) : shr .u32 (b : Int) (i : Int) = ((b / 2 ^ i : Nat) : Int) := by
  unfold shr
  rw [Int.toNat_natCast, show min i (IntKind.bits .u32) = i from Nat.min_eq_left (by show i ≤ 32; omega)]
  push_cast
  rfl
theorem par_of (z : Nat) : Int.tmod (z : Int) 2 = ((z % 2 : Nat) : Int) := by rw [Int.tmod_eq_emod_of_nonneg (Int.natCast_nonneg _)]; omega
theorem FInv.set {q : List Int} {fr i : Nat} {u : List Int} {e : Nat} {t : Bool} (hI : FInv q fr i u e t) {j r : Nat} (hr8 : r < 8) (hjr : 8 * j + r = fr + i) (j1 : j ≠ 1) (j2 : j ≠ 2) (hjn : j < (Pl.nats u).length) (hbm8 : 2 ^ r < 256) (hy8 : (Pl.nats u)[j]'hjn ^^^ 2 ^ r < 256) : FInv q fr (i + 1) (u.set j (((Pl.nats u)[j]'hjn ^^^ 2 ^ r : Nat) : Int)) (e ^^^ 2 ^ i) true := by
  have hn : e ^^^ 2 ^ i = 2 ^ i + e := xor_bit hI.lt
  have hp : 0 < 2 ^ i := Nat.pow_pos (by decide)
  refine ⟨by rw [List.length_set]; exact hI.len, Pl.byteB_set hI.byte _ _ hy8, ?_, ?_, ?_, ?_, ?_⟩
  · rw [Pl.nats_set, Pl.leN_set _ j (2 ^ r) (Pl.byteB_bytes hI.byte) hbm8 hjn, hI.num, Nat.xor_assoc]
    congr 1
    rw [← Nat.pow_add, hjr, Nat.pow_add, ← Pl.mul_xor]
  · rw [hn, Nat.pow_succ, Nat.mul_two]; exact Nat.add_lt_add_left hI.lt _
  · rw [hn, decide_eq_true (Nat.ne_of_gt (Nat.lt_of_lt_of_le hp (Nat.le_add_right _ _)))]
  · rw [getD_set_ne _ _ _ _ j1]; exact hI.one
  · rw [getD_set_ne _ _ _ _ j2]; exact hI.two
theorem burst_loop {q : List Int} {fr b : Nat} (hb : b < 4294967296) (hfr : fr + 32 ≤ 8 * q.length) (hq : q.length < 1000) : ∀ (d k i : Nat) (u : List Int) (e : Nat) (t : Bool), 32 - i = d → i ≤ 32 → d < k → FInv q fr i u e t → ∃ u' e' t', FInv q fr 32 u' e' t' ∧ waggonerlaw16_FrameBurst.l0 k (b : Int) true u (fr : Int) t (i : Int) = bfin u' t'
  | 0, k, i, u, e, t, hd, hi, hk, hI => by
    obtain ⟨k, rfl⟩ : ∃ m, k = m + 1 := ⟨k - 1, by omega⟩
    obtain rfl : i = 32 := by omega
    refine ⟨u, e, t, hI, ?_⟩
    rw [waggonerlaw16_FrameBurst.l0, if_neg (by omega)]
    rfl
  | d + 1, k, i, u, e, t, hd, hi, hk, hI => by
    obtain ⟨k, rfl⟩ : ∃ m, k = m + 1 := ⟨k - 1, by omega⟩
    have hi32 : i < 32 := by omega
    have w1 : IntKind.u64.wrap (i : Int) = (i : Int) := by rw [IntKind.wrap_u64]; omega
    have w2 : wrap64 ((i : Int) + 1) = ((i + 1 : Nat) : Int) := by unfold wrap64; omega
    have w3 : wrap64 ((fr : Int) + (i : Int)) = ((fr + i : Nat) : Int) := by unfold wrap64; omega
    have w4 : Int.tdiv ((fr + i : Nat) : Int) 8 = (((fr + i) / 8 : Nat) : Int) := by rw [Int.tdiv_eq_ediv_of_nonneg (Int.natCast_nonneg _)]; omega
    have w50 : ∀ z : Nat, z < 1000000 → wrap64 (z : Int) = (z : Int) := fun z h => by unfold wrap64; omega
    have w5 : wrap64 (((fr + i) / 8 : Nat) : Int) = (((fr + i) / 8 : Nat) : Int) := w50 _ (by omega)
    have w6 : Int.tmod ((fr + i : Nat) : Int) 8 = (((fr + i) % 8 : Nat) : Int) := by rw [Int.tmod_eq_emod_of_nonneg (Int.natCast_nonneg _)]; omega
    have w70 : ∀ z : Nat, z < 8 → IntKind.u64.wrap (z : Int) = (z : Int) := fun z h => by rw [IntKind.wrap_u64]; omega
    have w7 : IntKind.u64.wrap (((fr + i) % 8 : Nat) : Int) = (((fr + i) % 8 : Nat) : Int) := w70 _ (Nat.mod_lt _ (by decide))
    obtain ⟨j, hj⟩ : ∃ j, j = (fr + i) / 8 := ⟨_, rfl⟩
    obtain ⟨r, hr⟩ : ∃ r, r = (fr + i) % 8 := ⟨_, rfl⟩
    have go := fun u e t hI => burst_loop hb hfr hq d k (i + 1) u e t (by omega) (by omega) (by omega) hI
    rw [waggonerlaw16_FrameBurst.l0, if_pos (by omega), w1, if_pos (by omega), bit_of b i hi32, par_of, w2, w3, w4, w5, w6, w7, ← hj, ← hr]
    generalize b / 2 ^ i % 2 = z
    clear w1 w2 w3 w4 w50 w5 w6 w70 w7
    by_cases hbit : z = 1
    rotate_left
    · rw [if_neg (by omega)]
      exact go u e t hI.next
    rw [if_pos (by omega)]
    by_cases j1 : j = 1
    · rw [if_pos (by omega)]
      exact go u e t hI.next
    rw [if_neg (by omega)]
    by_cases j2 : j = 2
    · rw [if_pos (by omega)]
      exact go u e t hI.next
    have hul := hI.len
    have hju : j < u.length := by omega
    have hjn : j < (Pl.nats u).length := by rw [Pl.nats_length]; exact hju
    have hr8 : r < 8 := by omega
    have hxr : rd u (j : Int) = (((Pl.nats u)[j]'hjn : Nat) : Int) := Kx.rd_nats hI.byte j hjn
    rw [if_neg (by omega), if_pos (by omega), if_pos (by omega), if_pos (by omega), hxr]
    have hjr : 8 * j + r = fr + i := by omega
    have hx8 : (Pl.nats u)[j]'hjn < 256 := Pl.byteB_bytes hI.byte _ (List.getElem_mem _)
    obtain ⟨q1, hbm8⟩ := shl8 ⟨r, hr8⟩
    dsimp only at q1 hbm8
    have hy8 : (Pl.nats u)[j]'hjn ^^^ 2 ^ r < 256 := Nat.xor_lt_two_pow (n := 8) hx8 hbm8
    rw [q1, u8_xor_nat _ _ hx8 hbm8, Int.toNat_natCast]
    exact go _ _ true (hI.set hr8 hjr j1 j2 hjn hbm8 hy8)
theorem byN_12 {u : List Int} (h : Pl.byteB u = true) (hl : 3 ≤ u.length) : Pl.byN u 1 2 = u.getD 1 0 + 256 * u.getD 2 0 := by
  match u, h, hl with
  | a :: b :: c :: r, h, _ =>
    have mb := Pl.byteB_iff.1 h b (by simp)
    have mc := Pl.byteB_iff.1 h c (by simp)
    have e : Pl.byN (a :: b :: c :: r) 1 2 = ((256 * (256 * 0 + c.toNat) + b.toNat : Nat) : Int) := rfl
    have e1 : (a :: b :: c :: r).getD 1 0 = b := rfl
    have e2 : (a :: b :: c :: r).getD 2 0 = c := rfl
    rw [e, e1, e2]
    omega
theorem FrameBurst (k a n : Int) (d : List Int) (A B C : Int) (x y : Int) (w0 : (Lit.int .i64 k).wf = true) (w1 : (Lit.int .i64 a).wf = true) (w2 : (Lit.int .i64 n).wf = true) (wd : ∀ x ∈ d, (Lit.int .u8 x).wf = true) (w4 : (Lit.int .i64 A).wf = true) (w5 : (Lit.int .i64 B).wf = true) (w6 : (Lit.int .i64 C).wf = true) (wx : (Lit.int .u16 x).wf = true) (wy : (Lit.int .u32 y).wf = true) : ∃ kk, waggonerlaw16_FrameBurst.f kk k a n d A B C x y = some true := by
  have hl := Pl.wf_u8 wd
  have hx := Pl.wf_u16 wx
  have hy := Pl.wf_u32 wy
  obtain ⟨K, hK⟩ : ∃ K, K = 39 := ⟨_, rfl⟩
  refine ⟨K + 1, ?_⟩
  unfold waggonerlaw16_FrameBurst.f waggonerlaw16_awake.f
  rw [Option.bind_some, frame_Write.tells hl, Option.bind_some]
  by_cases ho : Pl.frOk k a n d A B C = true
  rotate_left
  · rw [Pl.fwriteS, if_neg ho, if_neg (by decide)]
    rw [waggonerlaw16_FrameBurst.j0]
    rfl
  have hle := Pl.frW_le ho
  have hby := Pl.frW_byte (k := k) (a := a) (n := n) (A := A) (B := B) (C := C) hl
  have hop : Pl.openB (Pl.frW k a n d A B C) = true := Pl.openB_seal _
  have hrd := Pl.freadS_write [] ho
  rw [List.append_nil] at hrd
  have hnm : ¬ (Pl.freadS (Pl.frW k a n d A B C) = (Pl.frZ, 0, 161)) := by
    rw [hrd]; intro e; exact absurd (congrArg (fun p : Pl.Frm × Int × Int => p.2.2) e) (show ¬ ((0 : Int) = 161) by decide)
  rw [Pl.freadS_more] at hnm
  have hm7 : (Pl.byN (Pl.frW k a n d A B C) 1 2).toNat + 7 = (Pl.frW k a n d A B C).length := by
    have h3 : ¬ (Pl.frW k a n d A B C).length < 3 := fun e => hnm (.inl e)
    have h7 : ¬ (Pl.frW k a n d A B C).length < (Pl.byN (Pl.frW k a n d A B C) 1 2).toNat + 7 := fun e => hnm (.inr e)
    have ho2 := Pl.freadS_open hby h3 h7
    rw [hrd] at ho2
    split at ho2
    · have e1 := congrArg (fun p : Pl.Frm × Int × Int => p.2.1) ho2
      dsimp only at e1
      have := (Pl.byN_lt hby 1 2).1
      omega
    · have e1 := congrArg (fun p : Pl.Frm × Int × Int => p.2.2) ho2
      dsimp only at e1
      exact absurd e1 (by decide)
  rw [Pl.fwriteS, if_pos ho, if_pos rfl]
  dsimp only
  generalize Pl.frW k a n d A B C = q at *
  rw [waggonerlaw16_FrameBurst.j0, decide_eq_false (show ¬ ((q.length : Int) < 9) by omega), if_neg (by decide), Option.bind_some, if_pos (by rw [List.length_nil]; omega), List.nil_append]
  have s1 : wrap64 (8 * (q.length : Int)) = 8 * (q.length : Int) := by unfold wrap64; omega
  have s2 : wrap64 (8 * (q.length : Int) - 31) = 8 * (q.length : Int) - 31 := by unfold wrap64; omega
  have s3 : Int.tmod (wrap64 x) (8 * (q.length : Int) - 31) = x % (8 * (q.length : Int) - 31) := by rw [show wrap64 x = x by unfold wrap64; omega]; exact Int.tmod_eq_emod_of_nonneg hx.1
  have s4 := Int.emod_nonneg x (show 8 * (q.length : Int) - 31 ≠ 0 by omega)
  have s5 := Int.emod_lt_of_pos x (show (0 : Int) < 8 * (q.length : Int) - 31 by omega)
  rw [s1, s2, if_neg (by omega), s3]
  obtain ⟨fr, hfr⟩ := Int.eq_ofNat_of_zero_le s4
  obtain ⟨b, rfl⟩ := Int.eq_ofNat_of_zero_le hy.1
  rw [hfr]
  obtain ⟨u, e, t, hI, hL⟩ := burst_loop (q := q) (fr := fr) (b := b) (by omega) (by omega) (by omega) 32 K 0 q 0 false (by omega) (by omega) (by omega) ⟨rfl, hby, by rw [Nat.mul_zero, Nat.xor_zero], by decide, by decide, rfl, rfl⟩
  rw [show (0 : Int) = ((0 : Nat) : Int) from rfl, hL]
  have hul := hI.len
  have hsum := Pl.sum_flip (Pl.nats q) (Pl.nats u) (Pl.byteB_bytes hby) (Pl.byteB_bytes hI.byte) (by rw [Pl.nats_length, Pl.nats_length]; exact hul) fr e (by have := hI.lt; omega) (by rw [Pl.nats_length]; omega) hI.num
  have hq1 := (Pl.openB_iff q hby (by omega)).1 hop
  have hu1 := Pl.openB_iff u hI.byte (by omega)
  have hz : Pl.byN u 1 2 = Pl.byN q 1 2 := by rw [byN_12 hI.byte (by omega), byN_12 hby (by omega), hI.one, hI.two]
  unfold bfin
  by_cases he : e = 0
  · have huq : u = q := by
      have h1 := Pl.leB_leN u hI.byte
      have h2 := Pl.leB_leN q hby
      rw [← h1, ← h2, hI.num, he, Nat.mul_zero, Nat.xor_zero, hul]
    have ht : t = false := by rw [hI.turned, he]; rfl
    rw [huq, ht, frame_Read.tells hby (by omega) hrd, Option.bind_some]
    rfl
  · have ht : t = true := by rw [hI.turned, decide_eq_true he]
    have hno : ¬ Pl.openB u = true := fun h => he (hsum.1 ((hu1.1 h).trans hq1.symm))
    have hr : Pl.freadS u = (Pl.frZ, 0, 160) := by
      rw [Pl.freadS_open hI.byte (by omega) (by rw [hz]; omega), hz, hm7, ← hul, List.take_length, if_neg (fun e => hno e.1)]
    rw [ht, frame_Read.tells hI.byte (by omega) hr, Option.bind_some]
    rfl
end Go.Proofs.Ytohkmmbmfhficaa.Pure
