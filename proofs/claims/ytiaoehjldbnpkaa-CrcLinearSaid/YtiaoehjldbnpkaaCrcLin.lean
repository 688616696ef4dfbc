/- Sums of texts that are changed by one another. -/
import Derived.Test.YtiaoehjldbnpkaaCrcLaw
import Derived.Test.YtiaoehjldbnpkaaKd
set_option linter.unusedVariables false
namespace Go.Proofs.Ytiaoehjldbnpkaa
open Go Go.RowKit Go.Proofs.YtiaoehjldbnpkaaW.PrintWords
namespace Pl
theorem inv3 (a b c : Nat) : inv (a ^^^ b ^^^ c) = inv a ^^^ inv b ^^^ inv c := by
  unfold inv
  generalize 4294967295 = m
  apply Nat.eq_of_testBit_eq
  intro i
  simp only [Nat.testBit_xor]
  cases a.testBit i <;> cases b.testBit i <;> cases c.testBit i <;> cases m.testBit i <;> rfl
theorem xor6 (s t u x y z : Nat) : (s ^^^ t ^^^ u) ^^^ (x ^^^ y ^^^ z) = (s ^^^ x) ^^^ (t ^^^ y) ^^^ (u ^^^ z) := by
  apply Nat.eq_of_testBit_eq
  intro i
  simp only [Nat.testBit_xor]
  cases s.testBit i <;> cases t.testBit i <;> cases u.testBit i <;> cases x.testBit i <;> cases y.testBit i <;> cases z.testBit i <;> rfl
theorem raw3 : ∀ (a b c : List Nat) (s t u : Nat), a.length = b.length → b.length = c.length → raw (s ^^^ t ^^^ u) (List.zipWith (· ^^^ ·) (List.zipWith (· ^^^ ·) a b) c) = raw s a ^^^ raw t b ^^^ raw u c
  | [], [], [], s, t, u, _, _ => by simp [raw_nil]
  | x :: a, y :: b, z :: c, s, t, u, h1, h2 => by
    simp only [List.zipWith_cons_cons, raw_cons]
    rw [xor6, stpN_xor, stpN_xor]
    exact raw3 a b c _ _ _ (by simpa using h1) (by simpa using h2)
theorem sum3 (a b c : List Nat) (h1 : a.length = b.length) (h2 : b.length = c.length) : sum (List.zipWith (· ^^^ ·) (List.zipWith (· ^^^ ·) a b) c) = sum a ^^^ sum b ^^^ sum c := by
  unfold sum more
  rw [← inv3, ← raw3 a b c _ _ _ h1 h2]
  congr 2
end Pl
namespace Lin
/-- One byte of the three texts' sum. -/
def byt (l0 l1 l2 : List Int) (i : Nat) : Nat := (l0.getD i 0).toNat ^^^ (l1.getD i 0).toNat ^^^ (l2.getD i 0).toNat
/-- The text when k of its n bytes are set. -/
def upto (l0 l1 l2 : List Int) (n k : Nat) : List Int := (List.range n).map fun i => if i < k then (byt l0 l1 l2 i : Int) else 0
theorem upto_length (l0 l1 l2 : List Int) (n k : Nat) : (upto l0 l1 l2 n k).length = n := by simp [upto]
theorem start (l0 l1 l2 : List Int) (n : Nat) : List.replicate n (0 : Int) = upto l0 l1 l2 n 0 := by
  apply List.ext_getElem (by simp [upto])
  intro i h1 h2
  simp [upto]
theorem set (l0 l1 l2 : List Int) (n k : Nat) (h : k < n) : (upto l0 l1 l2 n k).set k (byt l0 l1 l2 k : Int) = upto l0 l1 l2 n (k + 1) := by
  apply List.ext_getElem (by simp [upto])
  intro i h1 h2
  simp only [upto, List.getElem_set, List.getElem_map, List.getElem_range]
  by_cases e : k = i
  · subst e
    rw [if_pos rfl, if_pos (by omega)]
  · rw [if_neg e]
    by_cases e2 : i < k
    · rw [if_pos e2, if_pos (by omega)]
    · rw [if_neg e2, if_neg (by omega)]
theorem at1 {l : List Int} (h : Pl.byteB l = true) (k : Nat) (hk : k < l.length) : ∃ x : Nat, rd l (k : Int) = (x : Int) ∧ x < 256 ∧ (l.getD k 0).toNat = x := by
  obtain ⟨x, hx, h1, _⟩ := Pl.byteB_at h k hk
  refine ⟨x, ?_, hx, by rw [h1]; rfl⟩
  unfold rd
  rw [Int.toNat_natCast, h1]
theorem at' {l0 l1 l2 : List Int} {n : Nat} (h0 : Pl.byteB l0 = true) (h1 : Pl.byteB l1 = true) (h2 : Pl.byteB l2 = true) (k : Nat) (k0 : k < l0.length) (k1 : k < l1.length) (k2 : k < l2.length) (hk : k < n) :
    ∃ x y z : Nat, rd l0 (k : Int) = (x : Int) ∧ rd l1 (k : Int) = (y : Int) ∧ rd l2 (k : Int) = (z : Int) ∧ x < 256 ∧ y < 256 ∧ z < 256 ∧ (upto l0 l1 l2 n k).set k ((x ^^^ y ^^^ z : Nat) : Int) = upto l0 l1 l2 n (k + 1) := by
  obtain ⟨x, ex, x8, gx⟩ := at1 h0 k k0
  obtain ⟨y, ey, y8, gy⟩ := at1 h1 k k1
  obtain ⟨z, ez, z8, gz⟩ := at1 h2 k k2
  refine ⟨x, y, z, ex, ey, ez, x8, y8, z8, ?_⟩
  rw [← set l0 l1 l2 n k hk, byt, gx, gy, gz]
theorem byteB_take {l : List Int} (h : Pl.byteB l = true) (k : Nat) : Pl.byteB (l.take k) = true := by
  rw [Pl.byteB_iff] at h ⊢
  exact fun x hx => h x (List.mem_of_mem_take hx)
theorem full (l0 l1 l2 : List Int) (n : Nat) : upto l0 l1 l2 n n = (List.range n).map fun i => (byt l0 l1 l2 i : Int) := by
  unfold upto
  apply List.map_congr_left
  intro i hi
  rw [if_pos (by simpa using hi)]
theorem upto_byte {l0 l1 l2 : List Int} {n : Nat} (h0 : Pl.byteB l0 = true) (h1 : Pl.byteB l1 = true) (h2 : Pl.byteB l2 = true) (n0 : n ≤ l0.length) (n1 : n ≤ l1.length) (n2 : n ≤ l2.length) : Pl.byteB (upto l0 l1 l2 n n) = true := by
  rw [full, Pl.byteB_iff]
  intro x hx
  simp only [List.mem_map, List.mem_range] at hx
  obtain ⟨i, hi, rfl⟩ := hx
  obtain ⟨x, _, x8, gx⟩ := at1 h0 i (by omega)
  obtain ⟨y, _, y8, gy⟩ := at1 h1 i (by omega)
  obtain ⟨z, _, z8, gz⟩ := at1 h2 i (by omega)
  rw [byt, gx, gy, gz]
  have := Nat.xor_lt_two_pow (n := 8) (Nat.xor_lt_two_pow (n := 8) x8 y8) z8
  omega
theorem sum (l0 l1 l2 : List Int) (n : Nat) (n0 : n ≤ l0.length) (n1 : n ≤ l1.length) (n2 : n ≤ l2.length) : Pl.sum (Pl.nats (upto l0 l1 l2 n n)) = Pl.sum (Pl.nats (l0.take n)) ^^^ Pl.sum (Pl.nats (l1.take n)) ^^^ Pl.sum (Pl.nats (l2.take n)) := by
  rw [← Pl.sum3 _ _ _ (by simp [Pl.nats]; omega) (by simp [Pl.nats]; omega)]
  congr 1
  rw [full]
  apply List.ext_getElem (by simp [Pl.nats]; omega)
  intro i h1 h2
  have hi : i < n := by simp [Pl.nats] at h1; exact h1
  simp only [Pl.nats, List.getElem_map, List.getElem_range, List.getElem_zipWith, List.getElem_take, byt, Int.toNat_natCast]
  rw [List.getD_eq_getElem?_getD, List.getD_eq_getElem?_getD, List.getD_eq_getElem?_getD, List.getElem?_eq_getElem (by omega), List.getElem?_eq_getElem (by omega), List.getElem?_eq_getElem (by omega)]
  rfl
end Lin
end Go.Proofs.Ytiaoehjldbnpkaa
