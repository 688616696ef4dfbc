/- Words and walks that this claim names, of those that the kit's print and programs of this workplace have printed. -/
import Derived.Test.YtohkmmbmfhficaaZTStr
set_option linter.unusedVariables false
set_option linter.unusedSimpArgs false
namespace Go.Proofs.Ytohkmmbmfhficaa.Pl
theorem inv_xor (s : Nat) : inv s ^^^ s = 4294967295 := by unfold inv; rw [Nat.xor_comm s, Nat.xor_assoc, Nat.xor_self, Nat.xor_zero]
theorem mul_xor (f a b : Nat) : 2 ^ f * (a ^^^ b) = 2 ^ f * a ^^^ 2 ^ f * b := by
  rw [Nat.mul_comm (2 ^ f) (a ^^^ b), ← Nat.shiftLeft_eq, Nat.shiftLeft_xor_distrib, Nat.shiftLeft_eq, Nat.shiftLeft_eq, Nat.mul_comm _ (2 ^ f), Nat.mul_comm _ (2 ^ f)]
theorem leN_set : ∀ (l : List Nat) (j b : Nat), Bytes l → b < 256 → (hj : j < l.length) → leN (l.set j (l[j] ^^^ b)) = leN l ^^^ 2 ^ (8 * j) * b
  | [], j, b, _, _, hj => absurd hj (by simp)
  | x :: l, 0, b, hb, h, _ => by
    have hx : x < 2 ^ 8 := hb x List.mem_cons_self
    have hy : x ^^^ b < 2 ^ 8 := Nat.xor_lt_two_pow (n := 8) hx h
    rw [List.set_cons_zero, leN, leN, List.getElem_cons_zero, show (256 : Nat) = 2 ^ 8 from rfl, add_eq_xor hy, add_eq_xor hx, Nat.mul_zero, Nat.pow_zero, Nat.one_mul, Nat.xor_assoc]
  | x :: l, j + 1, b, hb, h, hj => by
    have hx : x < 2 ^ 8 := hb x List.mem_cons_self
    have ih := leN_set l j b (fun y hy => hb y (List.mem_cons_of_mem _ hy)) h (by simpa using hj)
    rw [List.set_cons_succ, leN, leN, List.getElem_cons_succ, ih, show (256 : Nat) = 2 ^ 8 from rfl, add_eq_xor hx, add_eq_xor hx]
    rw [show 2 ^ 8 * (leN l ^^^ 2 ^ (8 * j) * b) = 2 ^ 8 * leN l ^^^ 2 ^ 8 * (2 ^ (8 * j) * b) from by
      rw [Nat.mul_comm (2 ^ 8) (leN l ^^^ _), ← Nat.shiftLeft_eq, Nat.shiftLeft_xor_distrib, Nat.shiftLeft_eq, Nat.shiftLeft_eq, Nat.mul_comm _ (2 ^ 8), Nat.mul_comm _ (2 ^ 8)]]
    rw [show 8 * (j + 1) = 8 + 8 * j from by omega, Nat.pow_add, Nat.mul_assoc, Nat.xor_assoc, Nat.xor_assoc, Nat.xor_comm x]
theorem sum_flip (l m : List Nat) (hl : Bytes l) (hm : Bytes m) (hlen : m.length = l.length) (p e : Nat) (he : e < 4294967296) (hp : p ≤ 8 * l.length) (h : leN m = leN l ^^^ 2 ^ p * e) : sum m = sum l ↔ e = 0 := by
  have h1 : raw (inv 0) m = raw (inv 0) l ^^^ stpN (8 * l.length - p) e := by
    rw [raw_eq m _ hm, raw_eq l _ hl, hlen, h, ← Nat.xor_assoc, stpN_xor]
    congr 1
    rw [show 8 * l.length = p + (8 * l.length - p) from by omega, stpN_add, stpN_shift, show p + (8 * l.length - p) - p = 8 * l.length - p from by omega]
  unfold sum more
  rw [h1]
  constructor
  ·intro h2
   have h3 := congrArg inv h2
   rw [inv_inv, inv_inv] at h3
   have h4 := xor_eq_zero.2 h3
   rw [Nat.xor_comm (raw (inv 0) l), Nat.xor_assoc, Nat.xor_self, Nat.xor_zero] at h4
   exact stpN_ne _ he h4
  ·rintro rfl
   rw [stpN_zero, Nat.xor_zero]
theorem nats_set (l : List Int) (j : Nat) (v : Nat) : nats (l.set j (v : Int)) = (nats l).set j v := by
  unfold nats
  rw [List.map_set, Int.toNat_natCast]
theorem byteB_set {l : List Int} (h : byteB l = true) (j v : Nat) (hv : v < 256) : byteB (l.set j (v : Int)) = true := by
  rw [byteB_iff] at *
  intro x hx
  rcases List.mem_or_eq_of_mem_set hx with hx | rfl
  ·exact h x hx
  omega
theorem openB_iff (t : List Int) (ht : byteB t = true) (h4 : 4 ≤ t.length) : openB t = true ↔ sum (nats t) = 1214729159 := by
  obtain ⟨n, hn⟩ : ∃ n, t.length = n + 4 := ⟨t.length - 4, by omega⟩
  obtain ⟨a, d, rfl, ha⟩ : ∃ a d, t = a ++ d ∧ a.length = n := ⟨t.take n, t.drop n, (List.take_append_drop n t).symm, by rw [List.length_take]; omega⟩
  have hd : d.length = 4 := by rw [List.length_append] at hn; omega
  have hba : byteB a = true := by rw [byteB_append] at ht; exact (Bool.and_eq_true_iff.1 ht).1
  have hbd : byteB d = true := by rw [byteB_append] at ht; exact (Bool.and_eq_true_iff.1 ht).2
  have hs := sum_lt (byteB_bytes hba)
  have hdl : leN (nats d) < 4294967296 := by have := leN_lt (nats d) (byteB_bytes hbd); rw [nats_length, hd] at this; exact this
  have e1 : openB (a ++ d) = true ↔ sum (nats a) = leN (nats d) := by
    unfold openB
    rw [decide_eq_true h4, Bool.true_and, beq_iff_eq, hn, show n + 4 - 4 = n from by omega, ← ha, List.take_left, seal4, List.append_cancel_left_eq]
    rw [← hd]
    constructor
    ·intro h
     have := congrArg (fun z => leN (nats z)) h
     simp only [leN_leB] at this
     rwa [hd, Nat.mod_eq_of_lt (by simpa using hs)] at this
    ·intro h
     rw [h, leB_leN d hbd]
  rw [e1, nats_append, show sum (nats a ++ nats d) = more (sum (nats a)) (nats d) from more_append 0 _ _]
  unfold more
  rw [raw_eq _ _ (byteB_bytes hbd), nats_length, hd]
  have e2 : (1214729159 : Nat) = inv (stpN (8 * 4) 4294967295) := by decide +kernel
  rw [e2]
  constructor
  ·intro h
   rw [← h, inv_xor]
  ·intro h
   have h1 := congrArg inv h
   rw [inv_inv, inv_inv] at h1
   have h2 := stpN_inj (xor_lt (inv_lt hs) hdl) (by decide) h1
   have h3 := congrArg (inv (sum (nats a)) ^^^ ·) h2
   simp only [← Nat.xor_assoc, Nat.xor_self, Nat.zero_xor] at h3
   rw [h3]
   unfold inv
   rw [Nat.xor_assoc, Nat.xor_self, Nat.xor_zero]
end Go.Proofs.Ytohkmmbmfhficaa.Pl
