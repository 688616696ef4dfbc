/- Words and walks that this claim names, of those that the kit's print and programs of this workplace have printed. -/
set_option linter.unusedVariables false
namespace Go.Proofs.Ytohkmmbmfhficaa.Pl
def stp (n : Nat) : Nat := if n % 2 = 1 then n / 2 ^^^ 2197175160 else n / 2
def stpN : Nat → Nat → Nat
  | 0, n => n
  | k + 1, n => stpN k (stp n)
theorem stp_zero : stp 0 = 0 := rfl
theorem stp_xor (a b : Nat) : stp (a ^^^ b) = stp a ^^^ stp b := by
  unfold stp
  rw [Nat.xor_div_two]
  have hx := @Nat.xor_mod_two_eq_one a b
  by_cases ha : a % 2 = 1 <;> by_cases hb : b % 2 = 1
  ·rw [if_neg (by rw [hx]; simp [ha, hb]), if_pos ha, if_pos hb]
   have : ∀ x y p : Nat, x ^^^ y = (x ^^^ p) ^^^ (y ^^^ p) := fun x y p => by
     rw [Nat.xor_comm y p, Nat.xor_assoc, ← Nat.xor_assoc p p y, Nat.xor_self, Nat.zero_xor]
   exact this _ _ _
  ·rw [if_pos (by rw [hx]; simp [ha, hb]), if_pos ha, if_neg hb]
   rw [Nat.xor_assoc, Nat.xor_assoc, Nat.xor_comm (b / 2)]
  ·rw [if_pos (by rw [hx]; simp [ha, hb]), if_neg ha, if_pos hb, Nat.xor_assoc]
  ·rw [if_neg (by rw [hx]; simp [ha, hb]), if_neg ha, if_neg hb]
theorem stpN_zero : ∀ k, stpN k 0 = 0
  | 0 => rfl
  | k + 1 => by rw [stpN, stp_zero, stpN_zero k]
theorem stpN_xor : ∀ k (a b : Nat), stpN k (a ^^^ b) = stpN k a ^^^ stpN k b
  | 0, _, _ => rfl
  | k + 1, a, b => by rw [stpN, stpN, stpN, stp_xor, stpN_xor k]
theorem stpN_add : ∀ (j k n : Nat), stpN (j + k) n = stpN k (stpN j n)
  | 0, k, n => by rw [Nat.zero_add, stpN]
  | j + 1, k, n => by rw [show j + 1 + k = (j + k) + 1 from by omega, stpN, stpN_add j k, stpN]
theorem stp_lt {n : Nat} (h : n < 4294967296) : stp n < 4294967296 := by
  unfold stp
  split
  ·exact Nat.xor_lt_two_pow (n := 32) (by omega) (by decide)
  omega
theorem stpN_lt : ∀ k {n : Nat}, n < 4294967296 → stpN k n < 4294967296
  | 0, _, h => h
  | k + 1, _, h => by rw [stpN]; exact stpN_lt k (stp_lt h)
theorem stp_even (n : Nat) : stp (2 * n) = n := by
  unfold stp
  rw [if_neg (by omega)]
  omega
theorem stpN_shift : ∀ k (n : Nat), stpN k (2 ^ k * n) = n
  | 0, n => by rw [stpN]; omega
  | k + 1, n => by rw [stpN, show 2 ^ (k + 1) * n = 2 * (2 ^ k * n) from by rw [Nat.pow_succ, Nat.mul_comm (2 ^ k) 2, Nat.mul_assoc], stp_even, stpN_shift k]
theorem xor_lt {a b : Nat} (ha : a < 4294967296) (hb : b < 4294967296) : a ^^^ b < 4294967296 := Nat.xor_lt_two_pow (n := 32) ha hb
theorem stp_ne {n : Nat} (h : n < 4294967296) (h0 : stp n = 0) : n = 0 := by
  unfold stp at h0
  split at h0
  ·exfalso
   have e : n / 2 = 2197175160 := by
     have := congrArg (· ^^^ 2197175160) h0
     simp only [Nat.xor_assoc, Nat.xor_self, Nat.xor_zero, Nat.zero_xor] at this
     exact this
   omega
  omega
theorem stpN_ne : ∀ k {n : Nat}, n < 4294967296 → stpN k n = 0 → n = 0
  | 0, _, _, h0 => h0
  | k + 1, _, h, h0 => stp_ne h (stpN_ne k (stp_lt h) h0)
theorem xor_eq_zero {a b : Nat} : a ^^^ b = 0 ↔ a = b := by
  constructor
  ·intro h
   have := congrArg (· ^^^ b) h
   simp only [Nat.xor_assoc, Nat.xor_self, Nat.xor_zero, Nat.zero_xor] at this
   exact this
  ·rintro rfl
   exact Nat.xor_self _
theorem stpN_inj {k a b : Nat} (ha : a < 4294967296) (hb : b < 4294967296) (h : stpN k a = stpN k b) : a = b :=
  xor_eq_zero.1 (stpN_ne k (xor_lt ha hb) (by rw [stpN_xor, h, Nat.xor_self]))
def byt (s x : Nat) : Nat := stpN 8 (s ^^^ x)
def raw (s : Nat) (l : List Nat) : Nat := l.foldl byt s
theorem raw_nil (s : Nat) : raw s [] = s := by unfold raw; rw [List.foldl_nil]
theorem raw_cons (s x : Nat) (l : List Nat) : raw s (x :: l) = raw (stpN 8 (s ^^^ x)) l := by unfold raw; rw [List.foldl_cons, byt]
theorem raw_append : ∀ (l m : List Nat) (s : Nat), raw s (l ++ m) = raw (raw s l) m
  | [], _, _ => by rw [raw_nil, List.nil_append]
  | x :: l, m, s => by rw [List.cons_append, raw_cons, raw_cons, raw_append l m]
theorem raw_snoc (s : Nat) (l : List Nat) (x : Nat) : raw s (l ++ [x]) = stpN 8 (raw s l ^^^ x) := by rw [raw_append, raw_cons, raw_nil]
def inv (n : Nat) : Nat := n ^^^ 4294967295
theorem inv_inv (n : Nat) : inv (inv n) = n := by unfold inv; rw [Nat.xor_assoc, Nat.xor_self, Nat.xor_zero]
theorem inv_lt {n : Nat} (h : n < 4294967296) : inv n < 4294967296 := xor_lt h (by decide)
def more (s : Nat) (l : List Nat) : Nat := inv (raw (inv s) l)
def sum (l : List Nat) : Nat := more 0 l
def Bytes (l : List Nat) : Prop := ∀ x ∈ l, x < 256
theorem raw_lt : ∀ (l : List Nat) {s : Nat}, Bytes l → s < 4294967296 → raw s l < 4294967296
  | [], _, _, h => by rw [raw_nil]; exact h
  | x :: l, _, hb, h => by
    rw [raw_cons]
    exact raw_lt l (fun y hy => hb y (List.mem_cons_of_mem _ hy)) (stpN_lt 8 (xor_lt h (Nat.lt_of_lt_of_le (hb x List.mem_cons_self) (by decide))))
theorem more_lt {l : List Nat} {s : Nat} (hb : Bytes l) (h : s < 4294967296) : more s l < 4294967296 := inv_lt (raw_lt l hb (inv_lt h))
theorem sum_lt {l : List Nat} (hb : Bytes l) : sum l < 4294967296 := more_lt hb (by decide)
theorem more_append (s : Nat) (l m : List Nat) : more s (l ++ m) = more (more s l) m := by unfold more; rw [raw_append, inv_inv]
def leN : List Nat → Nat
  | [] => 0
  | x :: l => 256 * leN l + x
theorem add_eq_xor {i b : Nat} (hb : b < 2 ^ i) (a : Nat) : 2 ^ i * a + b = 2 ^ i * a ^^^ b := by
  refine Nat.eq_of_testBit_eq fun j => ?_
  rw [Nat.testBit_xor, Nat.testBit_two_pow_mul_add a hb, Nat.testBit_two_pow_mul]
  by_cases h : j < i
  ·simp [h, show ¬ i ≤ j from by omega]
  have : b.testBit j = false := Nat.testBit_lt_two_pow (Nat.lt_of_lt_of_le hb (Nat.pow_le_pow_right (by decide) (by omega)))
  simp [h, this]
  intro h2
  omega
theorem raw_eq : ∀ (l : List Nat) (s : Nat), Bytes l → raw s l = stpN (8 * l.length) (s ^^^ leN l)
  | [], s, _ => by rw [raw_nil, leN, List.length_nil, Nat.mul_zero, stpN, Nat.xor_zero]
  | x :: l, s, hb => by
    have hx : x < 2 ^ 8 := hb x List.mem_cons_self
    rw [raw_cons, raw_eq l _ (fun y hy => hb y (List.mem_cons_of_mem _ hy)), leN, List.length_cons, show 8 * (l.length + 1) = 8 + 8 * l.length from by omega, stpN_add]
    congr 1
    rw [show (256 : Nat) = 2 ^ 8 from rfl, add_eq_xor hx, show s ^^^ (2 ^ 8 * leN l ^^^ x) = (s ^^^ x) ^^^ 2 ^ 8 * leN l from by rw [Nat.xor_comm (2 ^ 8 * leN l) x, Nat.xor_assoc], stpN_xor 8 (s ^^^ x), stpN_shift]
theorem leN_lt : ∀ (l : List Nat), Bytes l → leN l < 2 ^ (8 * l.length)
  | [], _ => by simp [leN]
  | x :: l, hb => by
    have h1 := leN_lt l (fun y hy => hb y (List.mem_cons_of_mem _ hy))
    have h2 := hb x List.mem_cons_self
    rw [leN, List.length_cons, show 8 * (l.length + 1) = 8 * l.length + 8 from by omega, Nat.pow_add]
    omega
theorem leN_append : ∀ (l m : List Nat), Bytes l → leN (l ++ m) = leN l ^^^ 2 ^ (8 * l.length) * leN m
  | [], m, _ => by simp [leN]
  | x :: l, m, hb => by
    have hl : Bytes l := fun y hy => hb y (List.mem_cons_of_mem _ hy)
    have hx : x < 2 ^ 8 := hb x List.mem_cons_self
    rw [List.cons_append, leN, leN, leN_append l m hl, List.length_cons, show 8 * (l.length + 1) = 8 + 8 * l.length from by omega, Nat.pow_add]
    rw [show (256 : Nat) = 2 ^ 8 from rfl, add_eq_xor hx, add_eq_xor hx]
    rw [show 2 ^ 8 * (leN l ^^^ 2 ^ (8 * l.length) * leN m) = 2 ^ 8 * leN l ^^^ 2 ^ 8 * (2 ^ (8 * l.length) * leN m) from by
      rw [Nat.mul_comm (2 ^ 8) (leN l ^^^ _), ← Nat.shiftLeft_eq, Nat.shiftLeft_xor_distrib, Nat.shiftLeft_eq, Nat.shiftLeft_eq, Nat.mul_comm _ (2 ^ 8), Nat.mul_comm _ (2 ^ 8)]]
    rw [← Nat.mul_assoc, Nat.xor_assoc, Nat.xor_assoc, Nat.xor_comm x]
def half (n : Nat) : Nat := n / 16 ^^^ stpN 4 (n % 16)
theorem half_eq (n : Nat) : half n = stpN 4 n := by
  unfold half
  have h : n = 2 ^ 4 * (n / 16) ^^^ n % 16 := by
    rw [← add_eq_xor (Nat.mod_lt n (by decide)) (n / 16)]
    omega
  conv => rhs; rw [h, stpN_xor, stpN_shift]
theorem half_half (n : Nat) : half (half n) = stpN 8 n := by rw [half_eq, half_eq, ← stpN_add]
def nats (l : List Int) : List Nat := l.map Int.toNat
def byteB (l : List Int) : Bool := l.all fun x => decide (0 ≤ x) && decide (x < 256)
theorem byteB_iff {l : List Int} : byteB l = true ↔ ∀ x ∈ l, 0 ≤ x ∧ x < 256 := by
  unfold byteB
  rw [List.all_eq_true]
  constructor <;> intro h x hx
  ·have := h x hx
   simpa using this
  ·have := h x hx
   simpa using this
theorem byteB_at {l : List Int} (h : byteB l = true) (k : Nat) (hk : k < l.length) : ∃ n : Nat, n < 256 ∧ l.getD k 0 = (n : Int) ∧ (nats l).take (k + 1) = (nats l).take k ++ [n] := by
  have hm := byteB_iff.1 h l[k] (List.getElem_mem hk)
  refine ⟨l[k].toNat, by omega, ?_, ?_⟩
  ·rw [List.getD_eq_getElem?_getD, List.getElem?_eq_getElem hk, Option.getD_some]
   omega
  ·rw [List.take_succ_eq_append_getElem (by simpa [nats] using hk)]
   simp [nats]
theorem byteB_bytes {l : List Int} (h : byteB l = true) : Bytes (nats l) := by
  intro x hx
  obtain ⟨y, hy, rfl⟩ := List.mem_map.1 hx
  have hm := byteB_iff.1 h y hy
  omega
theorem bytes_take {l : List Nat} (h : Bytes l) (k : Nat) : Bytes (l.take k) := fun x hx => h x (List.mem_of_mem_take hx)
theorem nats_append (l m : List Int) : nats (l ++ m) = nats l ++ nats m := by simp [nats]
theorem nats_length (l : List Int) : (nats l).length = l.length := by simp [nats]
theorem byteB_append (l m : List Int) : byteB (l ++ m) = (byteB l && byteB m) := by simp [byteB]
end Go.Proofs.Ytohkmmbmfhficaa.Pl
