/- What the laws of the sums say, of lists of bytes. No program in sight. -/
import Derived.Test.YtohkmmbmfhficaaStr
set_option linter.unusedVariables false
set_option linter.unusedSimpArgs false
namespace Go.Proofs.Ytohkmmbmfhficaa.Pl
theorem xor_left_comm (a b c : Nat) : a ^^^ (b ^^^ c) = b ^^^ (a ^^^ c) := by rw [← Nat.xor_assoc, Nat.xor_comm a b, Nat.xor_assoc]
/-- The sum of two texts, joined. -/
theorem join_sum (l m : List Nat) (hl : Bytes l) (hm : Bytes m) (hn : m.length ≤ 1073741824) : join (sum l) (sum m) (m.length : Int) = sum (l ++ m) := by
  have h1 : sum (l ++ m) = more (sum l) m := more_append 0 l m
  rw [h1]
  have e : (min (max (m.length : Int) 0) 1073741824).toNat = m.length := by omega
  unfold join
  rw [e]
  unfold sum more inv
  rw [raw_xor m hm (raw (0 ^^^ 4294967295) l ^^^ 4294967295) 4294967295, raw_xor m hm 0 4294967295]
  generalize stpN (8 * m.length) 4294967295 = c
  have h0 : raw (raw (0 ^^^ 4294967295) l ^^^ 4294967295) m = raw 0 m ^^^ stpN (8 * m.length) (raw (0 ^^^ 4294967295) l ^^^ 4294967295) := by
    conv => lhs; rw [← Nat.zero_xor (raw (0 ^^^ 4294967295) l ^^^ 4294967295), raw_xor m hm]
  rw [h0]
  simp only [Nat.xor_assoc, Nat.xor_comm, xor_left_comm, Nat.xor_self, Nat.xor_zero, Nat.zero_xor]
theorem inv_xor (s : Nat) : inv s ^^^ s = 4294967295 := by unfold inv; rw [Nat.xor_comm s, Nat.xor_assoc, Nat.xor_self, Nat.xor_zero]
/-- The sum of a text with its sum behind is always the same. -/
theorem sum_seal (l : List Int) (h : Bytes (nats l)) : sum (nats (seal4 l)) = 1214729159 := by
  have hs := sum_lt h
  unfold seal4
  rw [nats_append, show sum (nats l ++ nats (leB 4 (sum (nats l)))) = more (sum (nats l)) (nats (leB 4 (sum (nats l)))) from more_append 0 _ _]
  unfold more
  rw [raw_eq _ _ (byteB_bytes (leB_byte _ _)), nats_length, leB_length, leN_leB, Nat.mod_eq_of_lt (by simpa using hs), inv_xor]
  decide +kernel
theorem join_len (a b n : Nat) (hn : n ≤ 1073741824) : join a b (n : Int) = stpN (8 * n) a ^^^ b := by
  unfold join
  rw [show (min (max (n : Int) 0) 1073741824).toNat = n from by omega]
theorem join_three (x y z n m : Nat) (h : n ≤ 600 ∧ m ≤ 600) : join (join x y (n : Int)) z (m : Int) = join x (join y z (m : Int)) ((n : Int) + (m : Int)) := by
  rw [join_len _ _ _ (by omega), join_len _ _ _ (by omega), show (n : Int) + (m : Int) = ((n + m : Nat) : Int) from by push_cast; rfl, join_len _ _ (n + m) (by omega), join_len _ _ _ (by omega)]
  rw [stpN_xor, ← stpN_add, Nat.mul_add, Nat.xor_assoc]
theorem mul_xor (f a b : Nat) : 2 ^ f * (a ^^^ b) = 2 ^ f * a ^^^ 2 ^ f * b := by
  rw [Nat.mul_comm (2 ^ f) (a ^^^ b), ← Nat.shiftLeft_eq, Nat.shiftLeft_xor_distrib, Nat.shiftLeft_eq, Nat.shiftLeft_eq, Nat.mul_comm _ (2 ^ f), Nat.mul_comm _ (2 ^ f)]
/-- A byte changed is the number changed at its place. -/
theorem leN_set : ∀ (l : List Nat) (j b : Nat), Bytes l → b < 256 → (hj : j < l.length) → leN (l.set j (l[j] ^^^ b)) = leN l ^^^ 2 ^ (8 * j) * b
  | [], j, b, _, _, hj => absurd hj (by simp)
  | x :: l, 0, b, hb, h, _ => by
    have hx : x < 2 ^ 8 := hb x List.mem_cons_self
    have hy : x ^^^ b < 2 ^ 8 := Nat.xor_lt_two_pow (n := 8) hx h
    rw [List.set_cons_zero, leN, leN, List.getElem_cons_zero, show (256 : Nat) = 2 ^ 8 from rfl, add_eq_xor hy, add_eq_xor hx, Nat.mul_zero, Nat.pow_zero, Nat.one_mul, Nat.xor_assoc]
  | x :: l, j + 1, b, hb, h, hj => by
    have hx : x < 2 ^ 8 := hb x List.mem_cons_self
    have ih := leN_set l j b (fun y hy => hb y (List.mem_cons_of_mem _ hy)) h (by simpa using hj)
    rw [List.set_cons_succ, leN, leN, List.getElem_cons_succ, ih, show (256 : Nat) = 2 ^ 8 from rfl, add_eq_xor hx, add_eq_xor hx]
    rw [show 2 ^ 8 * (leN l ^^^ 2 ^ (8 * j) * b) = 2 ^ 8 * leN l ^^^ 2 ^ 8 * (2 ^ (8 * j) * b) from by
      rw [Nat.mul_comm (2 ^ 8) (leN l ^^^ _), ← Nat.shiftLeft_eq, Nat.shiftLeft_xor_distrib, Nat.shiftLeft_eq, Nat.shiftLeft_eq, Nat.mul_comm _ (2 ^ 8), Nat.mul_comm _ (2 ^ 8)]]
    rw [show 8 * (j + 1) = 8 + 8 * j from by omega, Nat.pow_add, Nat.mul_assoc, Nat.xor_assoc, Nat.xor_assoc, Nat.xor_comm x]
theorem bytes_set {l : List Nat} (h : Bytes l) (j v : Nat) (hv : v < 256) : Bytes (l.set j v) := by
  intro x hx
  rcases List.mem_or_eq_of_mem_set hx with hx | rfl
  · exact h x hx
  · exact hv
/-- Numbers of one length, one of them changed within thirty-two bits: one sum just if it is not. -/
theorem sum_flip (l m : List Nat) (hl : Bytes l) (hm : Bytes m) (hlen : m.length = l.length) (p e : Nat) (he : e < 4294967296) (hp : p ≤ 8 * l.length) (h : leN m = leN l ^^^ 2 ^ p * e) : sum m = sum l ↔ e = 0 := by
  have h1 : raw (inv 0) m = raw (inv 0) l ^^^ stpN (8 * l.length - p) e := by
    rw [raw_eq m _ hm, raw_eq l _ hl, hlen, h, ← Nat.xor_assoc, stpN_xor]
    congr 1
    rw [show 8 * l.length = p + (8 * l.length - p) from by omega, stpN_add, stpN_shift, show p + (8 * l.length - p) - p = 8 * l.length - p from by omega]
  unfold sum more
  rw [h1]
  constructor
  · intro h2
    have h3 := congrArg inv h2
    rw [inv_inv, inv_inv] at h3
    have h4 := xor_eq_zero.2 h3
    rw [Nat.xor_comm (raw (inv 0) l), Nat.xor_assoc, Nat.xor_self, Nat.xor_zero] at h4
    exact stpN_ne _ he h4
  · rintro rfl
    rw [stpN_zero, Nat.xor_zero]
theorem nats_set (l : List Int) (j : Nat) (v : Nat) : nats (l.set j (v : Int)) = (nats l).set j v := by
  unfold nats
  rw [List.map_set, Int.toNat_natCast]
theorem byteB_set {l : List Int} (h : byteB l = true) (j v : Nat) (hv : v < 256) : byteB (l.set j (v : Int)) = true := by
  rw [byteB_iff] at *
  intro x hx
  rcases List.mem_or_eq_of_mem_set hx with hx | rfl
  · exact h x hx
  · omega
/-- A text opens just if its own sum is the one that all texts with their sums have. -/
theorem openB_iff (t : List Int) (ht : byteB t = true) (h4 : 4 ≤ t.length) : openB t = true ↔ sum (nats t) = 1214729159 := by
  obtain ⟨n, hn⟩ : ∃ n, t.length = n + 4 := ⟨t.length - 4, by omega⟩
  obtain ⟨a, d, rfl, ha⟩ : ∃ a d, t = a ++ d ∧ a.length = n := ⟨t.take n, t.drop n, (List.take_append_drop n t).symm, by rw [List.length_take]; omega⟩
  have hd : d.length = 4 := by rw [List.length_append] at hn; omega
  have hba : byteB a = true := by rw [byteB_append] at ht; exact (Bool.and_eq_true_iff.1 ht).1
  have hbd : byteB d = true := by rw [byteB_append] at ht; exact (Bool.and_eq_true_iff.1 ht).2
  have hs := sum_lt (byteB_bytes hba)
  have hdl : leN (nats d) < 4294967296 := by have := leN_lt (nats d) (byteB_bytes hbd); rw [nats_length, hd] at this; exact this
  have e1 : openB (a ++ d) = true ↔ sum (nats a) = leN (nats d) := by
    unfold openB
    rw [decide_eq_true h4, Bool.true_and, beq_iff_eq, hn, show n + 4 - 4 = n from by omega, ← ha, List.take_left, seal4, List.append_cancel_left_eq]
    rw [← hd]
    constructor
    · intro h
      have := congrArg (fun z => leN (nats z)) h
      simp only [leN_leB] at this
      rwa [hd, Nat.mod_eq_of_lt (by simpa using hs)] at this
    · intro h
      rw [h, leB_leN d hbd]
  rw [e1, nats_append, show sum (nats a ++ nats d) = more (sum (nats a)) (nats d) from more_append 0 _ _]
  unfold more
  rw [raw_eq _ _ (byteB_bytes hbd), nats_length, hd]
  have e2 : (1214729159 : Nat) = inv (stpN (8 * 4) 4294967295) := by decide +kernel
  rw [e2]
  constructor
  · intro h
    rw [← h, inv_xor]
  · intro h
    have h1 := congrArg inv h
    rw [inv_inv, inv_inv] at h1
    have h2 := stpN_inj (xor_lt (inv_lt hs) hdl) (by decide) h1
    have h3 := congrArg (inv (sum (nats a)) ^^^ ·) h2
    simp only [← Nat.xor_assoc, Nat.xor_self, Nat.zero_xor] at h3
    rw [h3]
    unfold inv
    rw [Nat.xor_assoc, Nat.xor_self, Nat.xor_zero]
end Go.Proofs.Ytohkmmbmfhficaa.Pl
