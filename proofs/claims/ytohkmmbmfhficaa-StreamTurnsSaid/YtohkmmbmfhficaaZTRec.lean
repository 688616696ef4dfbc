/- Words and walks that this claim names, of those that the kit's print and programs of this workplace have printed. -/
import Derived.Test.YtohkmmbmfhficaaZTPackP
set_option linter.unusedVariables false
namespace Go.Proofs.Ytohkmmbmfhficaa.Pl
def byN (b : List Int) (i k : Nat) : Int := ((leN (nats ((b.drop i).take k)) : Nat) : Int)
theorem byN_at (p r : List Int) (k n : Nat) : byN (p ++ (leB k n ++ r)) p.length k = ((n % 256 ^ k : Nat) : Int) := by
  rw [byN, List.drop_left, List.take_left' (leB_length k n), leN_leB]
theorem byteB_take {b : List Int} (h : byteB b = true) (n : Nat) : byteB (b.take n) = true := byteB_iff.2 fun x hx => byteB_iff.1 h x (List.mem_of_mem_take hx)
theorem byteB_drop {b : List Int} (h : byteB b = true) (n : Nat) : byteB (b.drop n) = true := byteB_iff.2 fun x hx => byteB_iff.1 h x (List.mem_of_mem_drop hx)
end Go.Proofs.Ytohkmmbmfhficaa.Pl
