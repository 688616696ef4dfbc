/- Words and walks that this claim names, of those that the kit's print and programs of this workplace have printed. -/
set_option linter.unusedVariables false
namespace Go.Proofs.Ytmgohkffphogdaa.Pl
def stp (n : Nat) : Nat := if n % 2 = 1 then n / 2 ^^^ 2197175160 else n / 2
def stpN : Nat → Nat → Nat
  | 0, n => n
  | k + 1, n => stpN k (stp n)
def byt (s x : Nat) : Nat := stpN 8 (s ^^^ x)
def raw (s : Nat) (l : List Nat) : Nat := l.foldl byt s
def inv (n : Nat) : Nat := n ^^^ 4294967295
def more (s : Nat) (l : List Nat) : Nat := inv (raw (inv s) l)
def sum (l : List Nat) : Nat := more 0 l
def Bytes (l : List Nat) : Prop := ∀ x ∈ l, x < 256
def leN : List Nat → Nat
  | [] => 0
  | x :: l => 256 * leN l + x
theorem add_eq_xor {i b : Nat} (hb : b < 2 ^ i) (a : Nat) : 2 ^ i * a + b = 2 ^ i * a ^^^ b := by
  refine Nat.eq_of_testBit_eq fun j => ?_
  rw [Nat.testBit_xor, Nat.testBit_two_pow_mul_add a hb, Nat.testBit_two_pow_mul]
  by_cases h : j < i
  · simp [h, show ¬ i ≤ j from by omega]
  · have : b.testBit j = false := Nat.testBit_lt_two_pow (Nat.lt_of_lt_of_le hb (Nat.pow_le_pow_right (by decide) (by omega)))
    simp [h, this]
    intro h2
    omega
theorem leN_lt : ∀ (l : List Nat), Bytes l → leN l < 2 ^ (8 * l.length)
  | [], _ => by simp [leN]
  | x :: l, hb => by
    have h1 := leN_lt l (fun y hy => hb y (List.mem_cons_of_mem _ hy))
    have h2 := hb x List.mem_cons_self
    rw [leN, List.length_cons, show 8 * (l.length + 1) = 8 * l.length + 8 from by omega, Nat.pow_add]
    omega
theorem leN_append : ∀ (l m : List Nat), Bytes l → leN (l ++ m) = leN l ^^^ 2 ^ (8 * l.length) * leN m
  | [], m, _ => by simp [leN]
  | x :: l, m, hb => by
    have hl : Bytes l := fun y hy => hb y (List.mem_cons_of_mem _ hy)
    have hx : x < 2 ^ 8 := hb x List.mem_cons_self
    rw [List.cons_append, leN, leN, leN_append l m hl, List.length_cons, show 8 * (l.length + 1) = 8 + 8 * l.length from by omega, Nat.pow_add]
    rw [show (256 : Nat) = 2 ^ 8 from rfl, add_eq_xor hx, add_eq_xor hx]
    rw [show 2 ^ 8 * (leN l ^^^ 2 ^ (8 * l.length) * leN m) = 2 ^ 8 * leN l ^^^ 2 ^ 8 * (2 ^ (8 * l.length) * leN m) from by
      rw [Nat.mul_comm (2 ^ 8) (leN l ^^^ _), ← Nat.shiftLeft_eq, Nat.shiftLeft_xor_distrib, Nat.shiftLeft_eq, Nat.shiftLeft_eq, Nat.mul_comm _ (2 ^ 8), Nat.mul_comm _ (2 ^ 8)]]
    rw [← Nat.mul_assoc, Nat.xor_assoc, Nat.xor_assoc, Nat.xor_comm x]
def nats (l : List Int) : List Nat := l.map Int.toNat
def byteB (l : List Int) : Bool := l.all fun x => decide (0 ≤ x) && decide (x < 256)
theorem byteB_iff {l : List Int} : byteB l = true ↔ ∀ x ∈ l, 0 ≤ x ∧ x < 256 := by
  unfold byteB
  rw [List.all_eq_true]
  constructor <;> intro h x hx
  · have := h x hx
    simpa using this
  · have := h x hx
    simpa using this
theorem byteB_at {l : List Int} (h : byteB l = true) (k : Nat) (hk : k < l.length) : ∃ n : Nat, n < 256 ∧ l.getD k 0 = (n : Int) ∧ (nats l).take (k + 1) = (nats l).take k ++ [n] := by
  have hm := byteB_iff.1 h l[k] (List.getElem_mem hk)
  refine ⟨l[k].toNat, by omega, ?_, ?_⟩
  · rw [List.getD_eq_getElem?_getD, List.getElem?_eq_getElem hk, Option.getD_some]
    omega
  · rw [List.take_succ_eq_append_getElem (by simpa [nats] using hk)]
    simp [nats]
theorem byteB_bytes {l : List Int} (h : byteB l = true) : Bytes (nats l) := by
  intro x hx
  obtain ⟨y, hy, rfl⟩ := List.mem_map.1 hx
  have hm := byteB_iff.1 h y hy
  omega
theorem bytes_take {l : List Nat} (h : Bytes l) (k : Nat) : Bytes (l.take k) := fun x hx => h x (List.mem_of_mem_take hx)
theorem nats_length (l : List Int) : (nats l).length = l.length := by simp [nats]
theorem byteB_append (l m : List Int) : byteB (l ++ m) = (byteB l && byteB m) := by simp [byteB]
end Go.Proofs.Ytmgohkffphogdaa.Pl
