/- Words and walks that this claim names, of those that the kit's print and programs of this workplace have printed. -/
import Derived.Test.YtohkmmbmfhficaaZTCrc
set_option linter.unusedVariables false
namespace Go.Proofs.Ytohkmmbmfhficaa.Pl
def leB : Nat → Nat → List Int
  | 0, _ => []
  | k + 1, n => ((n % 256 : Nat) : Int) :: leB k (n / 256)
theorem leB_length : ∀ k n, (leB k n).length = k
  | 0, _ => rfl
  | k + 1, n => by rw [leB, List.length_cons, leB_length k]
theorem leB_byte : ∀ k n, byteB (leB k n) = true
  | 0, _ => rfl
  | k + 1, n => by
    rw [byteB_iff]
    intro x hx
    rw [leB, List.mem_cons] at hx
    rcases hx with rfl | hx
    ·omega
    exact byteB_iff.1 (leB_byte k _) x hx
theorem nats_cons (x : Int) (l : List Int) : nats (x :: l) = x.toNat :: nats l := rfl
theorem leN_leB : ∀ k n, leN (nats (leB k n)) = n % 256 ^ k
  | 0, n => by rw [leB, Nat.pow_zero, Nat.mod_one]; rfl
  | k + 1, n => by
    rw [leB, nats_cons, leN, leN_leB k, Nat.pow_succ, Nat.mul_comm (256 ^ k) 256, Nat.mod_mul, Int.toNat_natCast]
    omega
theorem leB_leN : ∀ (l : List Int), byteB l = true → leB l.length (leN (nats l)) = l
  | [], _ => rfl
  | x :: l, h => by
    have hx := byteB_iff.1 h x List.mem_cons_self
    have hl : byteB l = true := byteB_iff.2 fun y hy => byteB_iff.1 h y (List.mem_cons_of_mem _ hy)
    rw [List.length_cons, leB, nats_cons, leN]
    rw [show (256 * leN (nats l) + x.toNat) / 256 = leN (nats l) from by omega, show (256 * leN (nats l) + x.toNat) % 256 = x.toNat from by omega, leB_leN l hl]
    congr 1
    omega
def okS (size : Int) : Bool := size == 1 || size == 2 || size == 4 || size == 8
theorem okS_iff {size : Int} : okS size = true ↔ size = 1 ∨ size = 2 ∨ size = 4 ∨ size = 8 := by simp [okS, or_assoc]
def fits (n size : Int) : Bool := okS size && decide (n < ((256 ^ size.toNat : Nat) : Int))
theorem fits_no {n size : Int} (h : okS size = false) : fits n size = false := by simp [fits, h]
theorem fits_1 {n : Int} : fits n 1 = decide (n < 256) := by simp [fits, okS]
theorem fits_2 {n : Int} : fits n 2 = decide (n < 65536) := by simp [fits, okS]
theorem fits_4 {n : Int} : fits n 4 = decide (n < 4294967296) := by simp [fits, okS]
theorem fits_8 {n : Int} (h : n < 18446744073709551616) : fits n 8 = true := by simp [fits, okS]; omega
def putS (l : List Int) (n size : Int) : List Int × Int := if fits n size = true then (l ++ leB size.toNat n.toNat, 0) else ([], 10)
def takeS (l : List Int) (size : Int) : Int × List Int × Int := if okS size = true ∧ size ≤ l.length then ((leN (nats (l.take size.toNat)) : Nat), l.drop size.toNat, 0) else (0, [], 10)
def seal4 (l : List Int) : List Int := l ++ leB 4 (sum (nats l))
theorem seal4_length (l : List Int) : (seal4 l).length = l.length + 4 := by rw [seal4, List.length_append, leB_length]
theorem seal4_byte {l : List Int} (h : byteB l = true) : byteB (seal4 l) = true := by rw [seal4, byteB_append, h, leB_byte]; rfl
def openB (l : List Int) : Bool := decide (4 ≤ l.length) && (seal4 (l.take (l.length - 4)) == l)
def openS (l : List Int) : List Int × Int := if openB l = true then (l.take (l.length - 4), 0) else ([], 20)
theorem openB_seal (l : List Int) : openB (seal4 l) = true := by
  unfold openB
  rw [seal4_length, show l.length + 4 - 4 = l.length from by omega, show (seal4 l).take l.length = l from by rw [seal4, List.take_left]]
  simp
end Go.Proofs.Ytohkmmbmfhficaa.Pl
