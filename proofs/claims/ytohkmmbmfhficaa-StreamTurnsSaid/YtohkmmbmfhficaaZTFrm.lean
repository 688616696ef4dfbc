/- Words and walks that this claim names, of those that the kit's print and programs of this workplace have printed. -/
import Derived.Test.YtohkmmbmfhficaaZTRec
import Derived.Test.YtohkmmbmfhficaaZTCrcLaw
set_option linter.unusedVariables false
namespace Go.Proofs.Ytohkmmbmfhficaa.Pl
def zeroB (l : List Int) : Bool := l.all fun x => decide (x = 0)
def zerS (l : List Int) : Bool := if l.length < 32 then false else zeroB (l.take 32) || zerS (l.drop 32)
termination_by l.length
decreasing_by rw [List.length_drop]; omega
theorem zerS_short {l : List Int} (h : l.length < 32) : zerS l = false := by rw [zerS, if_pos h]
theorem zerS_long {l : List Int} (h : ¬ l.length < 32) : zerS l = (zeroB (l.take 32) || zerS (l.drop 32)) := by rw [zerS, if_neg h]
theorem zerS_nil : zerS [] = false := zerS_short (by decide)
def frOk (k a n : Int) (d : List Int) (A B C : Int) : Bool :=
  if k = 1 then decide (a = 0 ∧ n = 0 ∧ d.length = 0 ∧ 1 ≤ A ∧ A ≤ 64 ∧ 0 ≤ B ∧ B < C ∧ C ≤ 2147483647)
  else if k = 2 then decide (0 ≤ a ∧ a ≤ 64 ∧ 1 ≤ n ∧ n ≤ 64 - a ∧ A = 0 ∧ B = 0 ∧ C = 0 ∧ n ≤ 16 ∧ (d.length : Int) = 32 * n) && !zerS d
  else if k = 3 ∨ k = 4 then decide (0 ≤ a ∧ a ≤ 64 ∧ 1 ≤ n ∧ n ≤ 64 - a ∧ A = 0 ∧ B = 0 ∧ C = 0 ∧ d.length = 0)
  else if k = 5 then decide (a = 0 ∧ n = 0 ∧ d.length = 0 ∧ 1 ≤ A ∧ A ≤ 65535 ∧ 0 ≤ B ∧ B ≤ 4294967295 ∧ C = 0)
  else false
theorem frOk_1 (a n : Int) (d : List Int) (A B C : Int) : frOk 1 a n d A B C = decide (a = 0 ∧ n = 0 ∧ d.length = 0 ∧ 1 ≤ A ∧ A ≤ 64 ∧ 0 ≤ B ∧ B < C ∧ C ≤ 2147483647) := if_pos rfl
theorem frOk_2 (a n : Int) (d : List Int) (A B C : Int) : frOk 2 a n d A B C = (decide (0 ≤ a ∧ a ≤ 64 ∧ 1 ≤ n ∧ n ≤ 64 - a ∧ A = 0 ∧ B = 0 ∧ C = 0 ∧ n ≤ 16 ∧ (d.length : Int) = 32 * n) && !zerS d) := rfl
theorem frOk_3 {k : Int} (h : k = 3 ∨ k = 4) (a n : Int) (d : List Int) (A B C : Int) : frOk k a n d A B C = decide (0 ≤ a ∧ a ≤ 64 ∧ 1 ≤ n ∧ n ≤ 64 - a ∧ A = 0 ∧ B = 0 ∧ C = 0 ∧ d.length = 0) := by rcases h with rfl | rfl <;> rfl
theorem frOk_5 (a n : Int) (d : List Int) (A B C : Int) : frOk 5 a n d A B C = decide (a = 0 ∧ n = 0 ∧ d.length = 0 ∧ 1 ≤ A ∧ A ≤ 65535 ∧ 0 ≤ B ∧ B ≤ 4294967295 ∧ C = 0) := rfl
theorem frOk_not {k : Int} (h : ¬ (1 ≤ k ∧ k ≤ 5)) (a n : Int) (d : List Int) (A B C : Int) : frOk k a n d A B C = false := by
  rw [frOk, if_neg (by omega), if_neg (by omega), if_neg (by omega), if_neg (by omega)]
theorem frOk_iff {k a n : Int} {d : List Int} {A B C : Int} : frOk k a n d A B C = true ↔ (k = 1 ∧ a = 0 ∧ n = 0 ∧ d = [] ∧ 1 ≤ A ∧ A ≤ 64 ∧ 0 ≤ B ∧ B < C ∧ C ≤ 2147483647) ∨ (k = 2 ∧ 0 ≤ a ∧ a ≤ 64 ∧ 1 ≤ n ∧ n ≤ 64 - a ∧ A = 0 ∧ B = 0 ∧ C = 0 ∧ n ≤ 16 ∧ (d.length : Int) = 32 * n ∧ zerS d = false) ∨ ((k = 3 ∨ k = 4) ∧ 0 ≤ a ∧ a ≤ 64 ∧ 1 ≤ n ∧ n ≤ 64 - a ∧ A = 0 ∧ B = 0 ∧ C = 0 ∧ d = []) ∨ (k = 5 ∧ a = 0 ∧ n = 0 ∧ d = [] ∧ 1 ≤ A ∧ A ≤ 65535 ∧ 0 ≤ B ∧ B ≤ 4294967295 ∧ C = 0) := by
  rw [frOk, ← List.length_eq_zero_iff]
  by_cases k1 : k = 1
  ·rw [if_pos k1, decide_eq_true_eq]; omega
  by_cases k2 : k = 2
  ·rw [if_neg k1, if_pos k2, Bool.and_eq_true, decide_eq_true_eq, Bool.not_eq_true']
   constructor
   ·rintro ⟨h, hz⟩; exact .inr (.inl ⟨k2, by omega, by omega, by omega, by omega, by omega, by omega, by omega, by omega, by omega, hz⟩)
   ·rintro (h | h | h | h)
    ·omega
    ·exact ⟨by omega, h.2.2.2.2.2.2.2.2.2.2⟩
    ·omega
    ·omega
  by_cases k3 : k = 3 ∨ k = 4
  ·rw [if_neg k1, if_neg k2, if_pos k3, decide_eq_true_eq]; omega
  by_cases k5 : k = 5
  ·rw [if_neg k1, if_neg k2, if_neg k3, if_pos k5, decide_eq_true_eq]; omega
  rw [if_neg k1, if_neg k2, if_neg k3, if_neg k5]
  constructor
  ·intro h; cases h
  ·rintro (h | h | h | h) <;> omega
def frT (k a n : Int) (d : List Int) (A B C : Int) : List Int :=
  if k = 1 then leB 1 A.toNat ++ (leB 4 B.toNat ++ leB 4 C.toNat) else if k = 5 then leB 2 A.toNat ++ leB 4 B.toNat else leB 1 a.toNat ++ (leB 1 n.toNat ++ d)
def frB (k : Int) (t : List Int) : List Int := leB 1 k.toNat ++ (leB 2 t.length ++ t)
def frW (k a n : Int) (d : List Int) (A B C : Int) : List Int := seal4 (frB k (frT k a n d A B C))
theorem frB_length (k : Int) (t : List Int) : (frB k t).length = t.length + 3 := by rw [frB, List.length_append, List.length_append, leB_length, leB_length]; omega
theorem frW_length (k a n : Int) (d : List Int) (A B C : Int) : (frW k a n d A B C).length = (frT k a n d A B C).length + 7 := by rw [frW, seal4_length, frB_length]
theorem frT_byte {k a n : Int} {d : List Int} {A B C : Int} (h : byteB d = true) : byteB (frT k a n d A B C) = true := by
  unfold frT
  split
  ·rw [byteB_append, byteB_append, leB_byte, leB_byte, leB_byte]; rfl
  split
  ·rw [byteB_append, leB_byte, leB_byte]; rfl
  rw [byteB_append, byteB_append, leB_byte, leB_byte, h]; rfl
theorem frB_byte {k : Int} {t : List Int} (h : byteB t = true) : byteB (frB k t) = true := by rw [frB, byteB_append, byteB_append, leB_byte, leB_byte, h]; rfl
theorem frW_byte {k a n : Int} {d : List Int} {A B C : Int} (h : byteB d = true) : byteB (frW k a n d A B C) = true := seal4_byte (frB_byte (frT_byte h))
theorem frT_length {k a n : Int} {d : List Int} {A B C : Int} : (frT k a n d A B C).length = if k = 1 then 9 else if k = 5 then 6 else 2 + d.length := by
  unfold frT
  split
  ·rw [List.length_append, List.length_append, leB_length, leB_length, leB_length]
  split
  ·rw [List.length_append, leB_length, leB_length]
  rw [List.length_append, List.length_append, leB_length, leB_length]; omega
theorem frT_le {k a n : Int} {d : List Int} {A B C : Int} (h : frOk k a n d A B C = true) : 2 ≤ (frT k a n d A B C).length ∧ (frT k a n d A B C).length ≤ 514 := by
  rw [frT_length]
  rcases frOk_iff.1 h with h | h | h | h
  ·rw [if_pos h.1]; omega
  ·rw [if_neg (by omega), if_neg (by omega)]; omega
  ·rw [if_neg (by omega), if_neg (by omega), h.2.2.2.2.2.2.2.2]; decide
  ·rw [if_neg (by omega), if_pos h.1]; omega
theorem frW_le {k a n : Int} {d : List Int} {A B C : Int} (h : frOk k a n d A B C = true) : 9 ≤ (frW k a n d A B C).length ∧ (frW k a n d A B C).length ≤ 521 := by
  have := frT_le h
  rw [frW_length]; omega
theorem byN_0 (k n : Nat) (r : List Int) : byN (leB k n ++ r) 0 k = ((n % 256 ^ k : Nat) : Int) := byN_at [] r k n
theorem byN_skip (p r : List Int) (i k : Nat) (h : p.length = i) : byN (p ++ r) i k = byN r 0 k := by rw [byN, byN, List.drop_left' h, List.drop_zero]
theorem leB_byN {t : List Int} (hb : byteB t = true) (i k : Nat) (h : i + k ≤ t.length) : leB k (byN t i k).toNat = (t.drop i).take k := by
  have := leB_leN ((t.drop i).take k) (byteB_take (byteB_drop hb i) k)
  rw [List.length_take, List.length_drop, Nat.min_eq_left (by omega)] at this
  rw [byN, Int.toNat_natCast, this]
theorem byN_lt {t : List Int} (hb : byteB t = true) (i k : Nat) : 0 ≤ byN t i k ∧ byN t i k < ((256 ^ k : Nat) : Int) := by
  have h := leN_lt _ (byteB_bytes (byteB_take (byteB_drop hb i) k))
  rw [nats_length, List.length_take, List.length_drop, Nat.pow_mul] at h
  have h2 : (2 ^ 8) ^ (min k (t.length - i)) ≤ 256 ^ k := Nat.pow_le_pow_right (by decide) (Nat.min_le_left _ _)
  rw [byN]
  exact ⟨by omega, by exact_mod_cast Nat.lt_of_lt_of_le h h2⟩
theorem byN_one {t : List Int} (hb : byteB t = true) (i : Nat) (h : i < t.length) : byN t i 1 = t.getD i 0 := by
  have hm := byteB_iff.1 hb t[i] (List.getElem_mem h)
  rw [byN, List.drop_eq_getElem_cons h, List.take_succ_cons, List.take_zero, nats_cons, leN, List.getD_eq_getElem?_getD, List.getElem?_eq_getElem h, Option.getD_some]
  simp only [nats, List.map_nil, leN]
  omega
abbrev Frm := Int × Int × Int × List Int × Int × Int × Int
def frZ : Frm := (0, 0, 0, [], 0, 0, 0)
def frOkT (f : Frm) : Bool := frOk f.1 f.2.1 f.2.2.1 f.2.2.2.1 f.2.2.2.2.1 f.2.2.2.2.2.1 f.2.2.2.2.2.2
def frWT (f : Frm) : List Int := frW f.1 f.2.1 f.2.2.1 f.2.2.2.1 f.2.2.2.2.1 f.2.2.2.2.2.1 f.2.2.2.2.2.2
def mayS (k : Int) (t : List Int) : Frm :=
  if k = 1 ∧ t.length = 9 then (1, 0, 0, [], byN t 0 1, byN t 1 4, byN t 5 4)
  else if k = 5 ∧ t.length = 6 then (5, 0, 0, [], byN t 0 2, byN t 2 4, 0)
  else if 2 ≤ t.length then (k, t.getD 0 0, t.getD 1 0, t.drop 2, 0, 0, 0)
  else (k, 0, 0, [], 0, 0, 0)
theorem mayS_ok {k a n : Int} {d : List Int} {A B C : Int} (h : frOk k a n d A B C = true) : mayS k (frT k a n d A B C) = (k, a, n, d, A, B, C) := by
  have hl := frT_length (k := k) (a := a) (n := n) (d := d) (A := A) (B := B) (C := C)
  have blk : ∀ a n : Int, 0 ≤ a ∧ a ≤ 64 ∧ 1 ≤ n ∧ n ≤ 64 - a → (leB 1 a.toNat ++ (leB 1 n.toNat ++ d)).getD 0 0 = a ∧ (leB 1 a.toNat ++ (leB 1 n.toNat ++ d)).getD 1 0 = n ∧ (leB 1 a.toNat ++ (leB 1 n.toNat ++ d)).drop 2 = d := by
    intro a n q
    refine ⟨?_, ?_, ?_⟩
    ·show ((a.toNat % 256 : Nat) : Int) = a; omega
    ·show ((n.toNat % 256 : Nat) : Int) = n; omega
    ·rfl
  rcases frOk_iff.1 h with q | q | q | q
  ·obtain ⟨rfl, rfl, rfl, rfl, q1, q2, q3, q4, q5⟩ := q
   rw [if_pos rfl] at hl
   rw [mayS, if_pos ⟨rfl, hl⟩, frT, if_pos rfl]
   rw [byN_0, byN_skip (leB 1 A.toNat) _ 1 4 (leB_length _ _), byN_0, ← List.append_assoc, byN_skip (leB 1 A.toNat ++ leB 4 B.toNat) _ 5 4 (by rw [List.length_append, leB_length, leB_length])]
   rw [show leB 4 C.toNat = leB 4 C.toNat ++ [] by rw [List.append_nil], byN_0]
   simp only [Prod.mk.injEq, true_and]
   omega
  ·obtain ⟨q1, q2, q3, q4⟩ := blk a n (by omega) |> fun x => (⟨trivial, x.1, x.2.1, x.2.2⟩ : True ∧ _ ∧ _ ∧ _)
   rw [if_neg (by omega), if_neg (by omega)] at hl
   rw [mayS, if_neg (by omega), if_neg (by omega), if_pos (by omega), frT, if_neg (by omega), if_neg (by omega), q2, q3, q4, q.2.2.2.2.2.1, q.2.2.2.2.2.2.1, q.2.2.2.2.2.2.2.1]
  ·obtain ⟨q2, q3, q4⟩ := blk a n (by omega)
   rw [if_neg (by omega), if_neg (by omega)] at hl
   rw [mayS, if_neg (by omega), if_neg (by omega), if_pos (by omega), frT, if_neg (by omega), if_neg (by omega), q2, q3, q4, q.2.2.2.2.2.1, q.2.2.2.2.2.2.1, q.2.2.2.2.2.2.2.1]
  ·obtain ⟨rfl, rfl, rfl, rfl, q1, q2, q3, q4, rfl⟩ := q
   rw [if_neg (by decide), if_pos rfl] at hl
   rw [mayS, if_neg (fun e => absurd e.1 (by decide)), if_pos ⟨rfl, hl⟩, frT, if_neg (by decide), if_pos rfl, byN_0, byN_skip (leB 2 A.toNat) _ 2 4 (leB_length _ _), show leB 4 B.toNat = leB 4 B.toNat ++ [] by rw [List.append_nil], byN_0]
   simp only [Prod.mk.injEq, true_and, and_true]
   omega
def freadS (b : List Int) : Frm × Int × Int :=
  if b.length < 3 then (frZ, 0, 161)
  else if b.length < (byN b 1 2).toNat + 7 then (frZ, 0, 161)
  else if frOkT (mayS (byN b 0 1) ((b.drop 3).take (byN b 1 2).toNat)) = true ∧ frWT (mayS (byN b 0 1) ((b.drop 3).take (byN b 1 2).toNat)) = b.take ((byN b 1 2).toNat + 7) then (mayS (byN b 0 1) ((b.drop 3).take (byN b 1 2).toNat), byN b 1 2 + 7, 0)
  else (frZ, 0, 160)
theorem frB_head {k : Int} {t : List Int} (hk : 0 ≤ k ∧ k < 256) (ht : t.length < 65536) (r : List Int) : byN (frB k t ++ r) 0 1 = k ∧ byN (frB k t ++ r) 1 2 = (t.length : Int) ∧ ((frB k t ++ r).drop 3).take t.length = t := by
  have e : frB k t ++ r = leB 1 k.toNat ++ (leB 2 t.length ++ (t ++ r)) := by rw [frB, List.append_assoc, List.append_assoc]
  rw [e, byN_0, byN_skip (leB 1 k.toNat) _ 1 2 (leB_length _ _), byN_0, ← List.append_assoc, List.drop_left' (by rw [List.length_append, leB_length, leB_length]), List.take_left]
  refine ⟨?_, ?_, rfl⟩ <;> omega
theorem frOk_kind {k a n : Int} {d : List Int} {A B C : Int} (h : frOk k a n d A B C = true) : 1 ≤ k ∧ k ≤ 5 := by
  rcases frOk_iff.1 h with h | h | h | h <;> omega
theorem frW_split (k a n : Int) (d : List Int) (A B C : Int) (r : List Int) : frW k a n d A B C ++ r = frB k (frT k a n d A B C) ++ (leB 4 (sum (nats (frB k (frT k a n d A B C)))) ++ r) := by rw [frW, seal4, List.append_assoc]
theorem freadS_write {k a n : Int} {d : List Int} {A B C : Int} (r : List Int) (h : frOk k a n d A B C = true) : freadS (frW k a n d A B C ++ r) = ((k, a, n, d, A, B, C), ((frW k a n d A B C).length : Int), 0) := by
  have hk := frOk_kind h
  have ht := frT_le h
  obtain ⟨h1, h2, h3⟩ := frB_head (k := k) (t := frT k a n d A B C) (by omega) (by omega) (leB 4 (sum (nats (frB k (frT k a n d A B C)))) ++ r)
  rw [← frW_split] at h1 h2 h3
  have hl := frW_length k a n d A B C
  have hL : (frW k a n d A B C ++ r).length = (frT k a n d A B C).length + 7 + r.length := by rw [List.length_append, hl]
  rw [freadS, if_neg (by omega), h1, h2, Int.toNat_natCast, if_neg (by omega), h3, mayS_ok h, if_pos ⟨h, by rw [← hl, List.take_left]; rfl⟩, hl]
  rfl
theorem freadS_short {k a n : Int} {d : List Int} {A B C : Int} (h : frOk k a n d A B C = true) {j : Nat} (hj : j < (frW k a n d A B C).length) : freadS ((frW k a n d A B C).take j) = (frZ, 0, 161) := by
  have hk := frOk_kind h
  have ht := frT_le h
  have hl := frW_length k a n d A B C
  obtain ⟨h1, h2, h3⟩ := frB_head (k := k) (t := frT k a n d A B C) (by omega) (by omega) (leB 4 (sum (nats (frB k (frT k a n d A B C)))) ++ [])
  rw [← frW_split, List.append_nil] at h1 h2 h3
  have hL : ((frW k a n d A B C).take j).length = j := by rw [List.length_take]; omega
  rw [freadS]
  by_cases h3 : j < 3
  ·rw [if_pos (by omega)]
  rw [if_neg (by omega)]
  have e : byN ((frW k a n d A B C).take j) 1 2 = byN (frW k a n d A B C) 1 2 := by
    rw [byN, byN, List.drop_take, List.take_take, Nat.min_eq_left (by omega)]
  rw [e, h2, if_pos (by omega)]
theorem freadS_ok {b : List Int} {k a n : Int} {d : List Int} {A B C m : Int} (h : freadS b = ((k, a, n, d, A, B, C), m, 0)) : frOk k a n d A B C = true ∧ b = frW k a n d A B C ++ b.drop m.toNat ∧ m = ((frW k a n d A B C).length : Int) := by
  rw [freadS] at h
  split at h
  ·injection h with _ h; injection h with _ h; exact absurd h (by decide)
  split at h
  ·injection h with _ h; injection h with _ h; exact absurd h (by decide)
  rename_i h3 h7
  split at h
  case isFalse => injection h with _ h; injection h with _ h; exact absurd h (by decide)
  rename_i hh
  obtain ⟨ho, hw⟩ := hh
  injection h with hf hm
  injection hm with hm _
  rw [hf] at ho hw
  have hl := congrArg List.length hw
  rw [List.length_take, Nat.min_eq_left (by omega)] at hl
  have hb0 : 0 ≤ byN b 1 2 := by rw [byN]; omega
  have hm2 : m.toNat = (byN b 1 2).toNat + 7 := by omega
  refine ⟨ho, ?_, ?_⟩
  ·rw [hm2]
   have : frW k a n d A B C = b.take ((byN b 1 2).toNat + 7) := hw
   rw [this, List.take_append_drop]
  ·have : (frWT (k, a, n, d, A, B, C)).length = (frW k a n d A B C).length := rfl
   omega
theorem freadS_cases (b : List Int) : (∃ k a n d A B C r, frOk k a n d A B C = true ∧ b = frW k a n d A B C ++ r ∧ freadS b = ((k, a, n, d, A, B, C), ((frW k a n d A B C).length : Int), 0)) ∨ ((∀ k a n d A B C r, frOk k a n d A B C = true → b ≠ frW k a n d A B C ++ r) ∧ (freadS b = (frZ, 0, 161) ∨ freadS b = (frZ, 0, 160))) := by
  by_cases hh : ∃ k a n d A B C r, frOk k a n d A B C = true ∧ b = frW k a n d A B C ++ r
  ·obtain ⟨k, a, n, d, A, B, C, r, h, rfl⟩ := hh
   exact .inl ⟨k, a, n, d, A, B, C, r, h, rfl, freadS_write r h⟩
  refine .inr ⟨fun k a n d A B C r h e => hh ⟨k, a, n, d, A, B, C, r, h, e⟩, ?_⟩
  have hn : ∀ k a n d A B C m, freadS b ≠ ((k, a, n, d, A, B, C), m, 0) := fun k a n d A B C m h => by
    obtain ⟨ho, hb, _⟩ := freadS_ok h
    exact hh ⟨k, a, n, d, A, B, C, _, ho, hb⟩
  unfold freadS at hn ⊢
  split
  ·exact .inl rfl
  split
  ·exact .inl rfl
  split
  ·rename_i h1 h2 h3
   rw [if_neg h1, if_neg h2, if_pos h3] at hn
   exact absurd rfl (hn _ _ _ _ _ _ _ _)
  exact .inr rfl
theorem freadS_more {b : List Int} : freadS b = (frZ, 0, 161) ↔ b.length < 3 ∨ b.length < (byN b 1 2).toNat + 7 := by
  rw [freadS]
  split
  ·exact ⟨fun _ => .inl (by assumption), fun _ => rfl⟩
  split
  ·exact ⟨fun _ => .inr (by assumption), fun _ => rfl⟩
  rename_i h1 h2
  split
  all_goals
   refine ⟨fun h => ?_, fun h => by rcases h with h | h <;> contradiction⟩
   injection h with _ h; injection h with _ h; exact absurd h (by decide)
theorem frT_may {k : Int} {t : List Int} (hb : byteB t = true) (h : frOkT (mayS k t) = true) : frT (mayS k t).1 (mayS k t).2.1 (mayS k t).2.2.1 (mayS k t).2.2.2.1 (mayS k t).2.2.2.2.1 (mayS k t).2.2.2.2.2.1 (mayS k t).2.2.2.2.2.2 = t ∧ (mayS k t).1 = k := by
  unfold mayS at h ⊢
  split
  ·rename_i q
   dsimp only
   rw [frT, if_pos rfl, leB_byN hb 0 1 (by omega), leB_byN hb 1 4 (by omega), leB_byN hb 5 4 (by omega), List.drop_zero]
   refine ⟨?_, q.1.symm⟩
   have : (t.drop 5).take 4 = t.drop 5 := List.take_of_length_le (by rw [List.length_drop]; omega)
   rw [this, show t.drop 5 = (t.drop 1).drop 4 by rw [List.drop_drop], List.take_append_drop, List.take_append_drop]
  rename_i n1
  rw [if_neg n1] at h
  split
  ·rename_i q
   dsimp only
   rw [frT, if_neg (by decide), if_pos rfl, leB_byN hb 0 2 (by omega), leB_byN hb 2 4 (by omega), List.drop_zero]
   refine ⟨?_, q.1.symm⟩
   have : (t.drop 2).take 4 = t.drop 2 := List.take_of_length_le (by rw [List.length_drop]; omega)
   rw [this, List.take_append_drop]
  rename_i n5
  rw [if_neg n5] at h
  split
  ·rename_i q
   rw [if_pos q] at h
   have hk := frOk_iff.1 h
   dsimp only at hk ⊢
   refine ⟨?_, rfl⟩
   rw [frT, if_neg (by omega), if_neg (by omega), ← byN_one hb 0 (by omega), ← byN_one hb 1 (by omega), leB_byN hb 0 1 (by omega), leB_byN hb 1 1 (by omega), List.drop_zero, show t.drop 2 = (t.drop 1).drop 1 by rw [List.drop_drop], List.take_append_drop, List.take_append_drop]
  rename_i q
  rw [if_neg q] at h
  have hk := frOk_iff.1 h
  dsimp only at hk
  omega
theorem freadS_open {b : List Int} (hb : byteB b = true) (h3 : ¬ b.length < 3) (h7 : ¬ b.length < (byN b 1 2).toNat + 7) : freadS b = if openB (b.take ((byN b 1 2).toNat + 7)) = true ∧ frOkT (mayS (byN b 0 1) ((b.drop 3).take (byN b 1 2).toNat)) = true then (mayS (byN b 0 1) ((b.drop 3).take (byN b 1 2).toNat), byN b 1 2 + 7, 0) else (frZ, 0, 160) := by
  rw [freadS, if_neg h3, if_neg h7]
  obtain ⟨m, hm⟩ : ∃ m, m = (byN b 1 2).toNat := ⟨_, rfl⟩
  have hlt := byN_lt hb 1 2
  rw [show (256 ^ 2 : Nat) = 65536 from rfl] at hlt
  have hk := byN_lt hb 0 1
  rw [← hm] at h7 ⊢
  have htl : ((b.drop 3).take m).length = m := by rw [List.length_take, List.length_drop]; omega
  have htb : byteB ((b.drop 3).take m) = true := byteB_take (byteB_drop hb 3) m
  have hx : b.take (m + 3) = frB (byN b 0 1) ((b.drop 3).take m) := by
    rw [frB, htl, leB_byN hb 0 1 (by omega), hm, leB_byN hb 1 2 (by omega), ← hm, List.drop_zero]
    have e1 : b.take (m + 3) = b.take 3 ++ (b.drop 3).take m := by rw [show m + 3 = 3 + m by omega, List.take_add]
    have e2 : b.take 3 = b.take 1 ++ (b.drop 1).take 2 := by rw [show 3 = 1 + 2 from rfl, List.take_add]
    rw [e1, e2, List.append_assoc]
  by_cases ho : frOkT (mayS (byN b 0 1) ((b.drop 3).take m)) = true
  ·obtain ⟨f1, f2⟩ := frT_may htb ho
   have hw : frWT (mayS (byN b 0 1) ((b.drop 3).take m)) = seal4 (b.take (m + 3)) := by rw [frWT, frW, f1, f2, hx]
   have hlen : (b.take (m + 7)).length = m + 7 := by rw [List.length_take]; omega
   have hop : openB (b.take (m + 7)) = true ↔ seal4 (b.take (m + 3)) = b.take (m + 7) := by
     unfold openB
     rw [hlen, decide_eq_true (by omega), Bool.true_and, beq_iff_eq, List.take_take, show min (m + 7 - 4) (m + 7) = m + 3 by omega]
   by_cases hop' : openB (b.take (m + 7)) = true
   ·rw [if_pos ⟨ho, hw.trans (hop.1 hop')⟩, if_pos ⟨hop', ho⟩]
   rw [if_neg (fun e => hop' (hop.2 (hw.symm.trans e.2))), if_neg (fun e => hop' e.1)]
  rw [if_neg (fun e => ho e.1), if_neg (fun e => ho e.2)]
theorem unpack_bh {b : List Int} (h : 3 ≤ b.length) : unpackS [98, 104] (b.take 3) = ([byN b 0 1, byN b 1 2], 0) := by
  have hl : (b.take 3).length = 3 := by rw [List.length_take]; omega
  refine unpackS_some ?_
  rw [unpackP, unpackP, unpackP, show letS 98 = 1 from by decide, show letS 104 = 2 from by decide, show (1 : Int).toNat = 1 from rfl, show (2 : Int).toNat = 2 from rfl]
  have hl2 : ((b.take 3).drop 1).length = 2 := by rw [List.length_drop, hl]
  rw [if_pos ⟨by decide, by omega⟩, if_pos ⟨by decide, by omega⟩, List.drop_eq_nil_of_le (show ((b.take 3).drop 1).length ≤ 2 by omega), List.take_take, List.drop_take, List.take_take]
  rfl
theorem unpack_bww {t : List Int} (h : t.length = 9) : unpackS [98, 119, 119] t = ([byN t 0 1, byN t 1 4, byN t 5 4], 0) := by
  refine unpackS_some ?_
  rw [unpackP, unpackP, unpackP, unpackP, show letS 98 = 1 from by decide, show letS 119 = 4 from by decide, show (1 : Int).toNat = 1 from rfl, show (4 : Int).toNat = 4 from rfl]
  have h1 : (t.drop 1).length = 8 := by rw [List.length_drop, h]
  have h2 : ((t.drop 1).drop 4).length = 4 := by rw [List.length_drop, h1]
  rw [if_pos ⟨by decide, by omega⟩, if_pos ⟨by decide, by omega⟩, if_pos ⟨by decide, by omega⟩, List.drop_eq_nil_of_le (show ((t.drop 1).drop 4).length ≤ 4 by omega), List.drop_drop]
  rfl
theorem unpack_hw {t : List Int} (h : t.length = 6) : unpackS [104, 119] t = ([byN t 0 2, byN t 2 4], 0) := by
  refine unpackS_some ?_
  rw [unpackP, unpackP, unpackP, show letS 104 = 2 from by decide, show letS 119 = 4 from by decide, show (2 : Int).toNat = 2 from rfl, show (4 : Int).toNat = 4 from rfl]
  have h1 : (t.drop 2).length = 4 := by rw [List.length_drop, h]
  rw [if_pos ⟨by decide, by omega⟩, if_pos ⟨by decide, by omega⟩, List.drop_eq_nil_of_le (show (t.drop 2).length ≤ 4 by omega)]
  rfl
theorem unpack_len {f b : List Int} (hb : byteB b = true) (h : b.length ≠ formL f) : unpackS f b = ([], 10) := by
  rcases unpackS_cases f b with ⟨l, hl, _⟩ | h'
  ·obtain ⟨r, hr, he, _⟩ := pack_unpack hb hl
   rw [List.append_nil] at he
   exact absurd (by rw [he, packP_size hr]) h
  exact h'
theorem pack_bh {k n : Int} (hk : k < 256) (hn : n < 65536) : packS [98, 104] [k, n] = (leB 1 k.toNat ++ leB 2 n.toNat, 0) := by
  refine packS_some ?_
  rw [packP, packP, packP, show letS 98 = 1 from by decide, show letS 104 = 2 from by decide, if_pos (by rw [fits_1]; exact decide_eq_true hk), if_pos (by rw [fits_2]; exact decide_eq_true hn)]
  rw [Option.map_some, Option.map_some, List.append_nil]
  rfl
theorem pack_bww {k n m : Int} (hk : k < 256) (hn : n < 4294967296) (hm : m < 4294967296) : packS [98, 119, 119] [k, n, m] = (leB 1 k.toNat ++ (leB 4 n.toNat ++ leB 4 m.toNat), 0) := by
  refine packS_some ?_
  rw [packP, packP, packP, packP, show letS 98 = 1 from by decide, show letS 119 = 4 from by decide, if_pos (by rw [fits_1]; exact decide_eq_true hk), if_pos (by rw [fits_4]; exact decide_eq_true hn), if_pos (by rw [fits_4]; exact decide_eq_true hm)]
  rw [Option.map_some, Option.map_some, Option.map_some, List.append_nil]
  rfl
theorem pack_hw {k n : Int} (hk : k < 65536) (hn : n < 4294967296) : packS [104, 119] [k, n] = (leB 2 k.toNat ++ leB 4 n.toNat, 0) := by
  refine packS_some ?_
  rw [packP, packP, packP, show letS 104 = 2 from by decide, show letS 119 = 4 from by decide, if_pos (by rw [fits_2]; exact decide_eq_true hk), if_pos (by rw [fits_4]; exact decide_eq_true hn)]
  rw [Option.map_some, Option.map_some, List.append_nil]
  rfl
theorem pack_bb {k n : Int} (hk : k < 256) (hn : n < 256) : packS [98, 98] [k, n] = (leB 1 k.toNat ++ leB 1 n.toNat, 0) := by
  refine packS_some ?_
  rw [packP, packP, packP, show letS 98 = 1 from by decide, if_pos (by rw [fits_1]; exact decide_eq_true hk), if_pos (by rw [fits_1]; exact decide_eq_true hn)]
  rw [Option.map_some, Option.map_some, List.append_nil]
  rfl
def rdS (k : Int) (t : List Int) : Frm :=
  if k = 1 then (if t.length = 9 then (1, 0, 0, [], byN t 0 1, byN t 1 4, byN t 5 4) else frZ)
  else if k = 2 ∨ k = 3 ∨ k = 4 then (if 2 ≤ t.length then (k, t.getD 0 0, t.getD 1 0, t.drop 2, 0, 0, 0) else frZ)
  else if k = 5 then (if t.length = 6 then (5, 0, 0, [], byN t 0 2, byN t 2 4, 0) else frZ)
  else frZ
theorem rdS_may (k : Int) (t : List Int) : (frOkT (rdS k t) = frOkT (mayS k t)) ∧ (frOkT (mayS k t) = true → rdS k t = mayS k t) := by
  have hz : frOkT frZ = false := by decide
  by_cases k1 : k = 1
  ·subst k1
   by_cases h9 : t.length = 9
   ·rw [rdS, if_pos rfl, if_pos h9, mayS, if_pos ⟨rfl, h9⟩]; exact ⟨rfl, fun _ => rfl⟩
   have hm : frOkT (mayS 1 t) = false := by
     rw [mayS, if_neg (fun e => h9 e.2), if_neg (fun e => absurd e.1 (by decide))]
     split <;> (rw [frOkT, frOk_1]; exact decide_eq_false (by dsimp only; omega))
   rw [rdS, if_pos rfl, if_neg h9, hz, hm]; exact ⟨rfl, fun h => by cases h⟩
  by_cases k5 : k = 5
  ·subst k5
   by_cases h6 : t.length = 6
   ·rw [rdS, if_neg (by decide), if_neg (by decide), if_pos rfl, if_pos h6, mayS, if_neg (fun e => absurd e.1 (by decide)), if_pos ⟨rfl, h6⟩]; exact ⟨rfl, fun _ => rfl⟩
   have hm : frOkT (mayS 5 t) = false := by
     rw [mayS, if_neg (fun e => absurd e.1 (by decide)), if_neg (fun e => h6 e.2)]
     split <;> (rw [frOkT, frOk_5]; exact decide_eq_false (by dsimp only; omega))
   rw [rdS, if_neg (by decide), if_neg (by decide), if_pos rfl, if_neg h6, hz, hm]; exact ⟨rfl, fun h => by cases h⟩
  have hmk : mayS k t = if 2 ≤ t.length then (k, t.getD 0 0, t.getD 1 0, t.drop 2, 0, 0, 0) else (k, 0, 0, [], 0, 0, 0) := by
    rw [mayS, if_neg (fun e => k1 e.1), if_neg (fun e => k5 e.1)]
  by_cases k2 : k = 2 ∨ k = 3 ∨ k = 4
  ·by_cases h2 : 2 ≤ t.length
   ·rw [rdS, if_neg k1, if_pos k2, if_pos h2, hmk, if_pos h2]; exact ⟨rfl, fun _ => rfl⟩
   have hm : frOkT (mayS k t) = false := by
     rw [hmk, if_neg h2, Bool.eq_false_iff]
     intro h
     have := frOk_iff.1 h
     dsimp only at this
     omega
   rw [rdS, if_neg k1, if_pos k2, if_neg h2, hz, hm]; exact ⟨rfl, fun h => by cases h⟩
  have hm : frOkT (mayS k t) = false := by
    rw [hmk]
    split <;> (rw [frOkT]; exact frOk_not (by dsimp only; omega) _ _ _ _ _ _)
  rw [rdS, if_neg k1, if_neg k2, if_neg k5, hz, hm]; exact ⟨rfl, fun h => by cases h⟩
def fwriteS (k a n : Int) (d : List Int) (A B C : Int) : List Int × Int := if frOk k a n d A B C = true then (frW k a n d A B C, 0) else ([], 160)
end Go.Proofs.Ytohkmmbmfhficaa.Pl
