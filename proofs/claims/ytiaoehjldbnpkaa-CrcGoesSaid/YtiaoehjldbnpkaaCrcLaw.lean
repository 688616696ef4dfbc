/- What the laws of the sums say, of lists of bytes. No program in sight. -/
import Derived.Test.YtiaoehjldbnpkaaStr
set_option linter.unusedVariables false
namespace Go.Proofs.Ytiaoehjldbnpkaa.Pl
theorem xor_left_comm (a b c : Nat) : a ^^^ (b ^^^ c) = b ^^^ (a ^^^ c) := by rw [← Nat.xor_assoc, Nat.xor_comm a b, Nat.xor_assoc]
/-- The sum of two texts, joined. -/
theorem join_sum (l m : List Nat) (hl : Bytes l) (hm : Bytes m) (hn : m.length ≤ 1073741824) : join (sum l) (sum m) (m.length : Int) = sum (l ++ m) := by
  have h1 : sum (l ++ m) = more (sum l) m := more_append 0 l m
  rw [h1]
  have e : (min (max (m.length : Int) 0) 1073741824).toNat = m.length := by omega
  unfold join
  rw [e]
  unfold sum more inv
  rw [raw_xor m hm (raw (0 ^^^ 4294967295) l ^^^ 4294967295) 4294967295, raw_xor m hm 0 4294967295]
  generalize stpN (8 * m.length) 4294967295 = c
  have h0 : raw (raw (0 ^^^ 4294967295) l ^^^ 4294967295) m = raw 0 m ^^^ stpN (8 * m.length) (raw (0 ^^^ 4294967295) l ^^^ 4294967295) := by
    conv => lhs; rw [← Nat.zero_xor (raw (0 ^^^ 4294967295) l ^^^ 4294967295), raw_xor m hm]
  rw [h0]
  simp only [Nat.xor_assoc, Nat.xor_comm, xor_left_comm, Nat.xor_self, Nat.xor_zero, Nat.zero_xor]
end Go.Proofs.Ytiaoehjldbnpkaa.Pl
