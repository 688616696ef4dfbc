/- Functions of the program as Lean functions, and that the Go code comes to just their answers: no condition but that the function says so. (Written by a program of this workplace over the kit's print, with contracts by hand.) -/
import Derived.Test.YtiaoehjldbnpkaaPAx0
import Derived.Test.YtiaoehjldbnpkaaPAx2
import Derived.Test.YtiaoehjldbnpkaaPAx4
import Derived.Test.YtiaoehjldbnpkaaPAx8
import Derived.Test.YtiaoehjldbnpkaaPAx9
namespace Go.Proofs.Ytiaoehjldbnpkaa.PA
open Go.RowKit Go.Proofs.YtiaoehjldbnpkaaW.PrintWords Go.Proofs.YtiaoehjldbnpkaaW.PrintLast Go.Proofs.YtiaoehjldbnpkaaW.PrintMore
attribute [local go_sem] max2_int min2_int max_two min_two max_three min_three max_four min_four   -- for this text's walks alone
set_option linter.unusedVariables false
set_option linter.unusedSimpArgs false

/-! ### crc_Seal: function 24 -/
def crc_Seal.f (l0 : List Int) : Option (List Int) := if Pl.byteB l0 = true ∧ l0.length < 70368744177664 then some (Pl.seal4 l0) else none
theorem crc_Seal.calls (A0 : Option Addr) (c0 : Nat) (l0 : List Int) (r : List Int) (w : World) (hr0 : Kd.C (Kd.int .u8) w A0 l0.length l0) (hc0 : l0.length ≤ c0) (h : crc_Seal.f l0 = some r) :
    Calls Try.prog 24 #[.slice A0 l0.length c0] w fun e w' => ∃ v0_ : Value, e = .returned (v0_) ∧ Kd.R (Kd.int .u8) 5 w' w.heap.size (fun _ => True) v0_ r ∧ Below w.heap.size w w' := by
  refine crc_Seal_p.calls A0 c0 l0 r w hr0 hc0 ?_
  unfold crc_Seal.f at h
  split at h
  case isFalse => cases h
  rename_i hh
  obtain rfl := Option.some.inj h
  have hlt := Pl.sum_lt (Pl.byteB_bytes hh.1)
  unfold crc_Seal_p.f crc_Sum.f crc_More.f
  rw [if_pos ⟨by decide, by decide, hh.1⟩, Option.bind_some]
  have e1 : ((Pl.more (0 : Int).toNat (Pl.nats l0) : Nat) : Int) = ((Pl.sum (Pl.nats l0) : Nat) : Int) := rfl
  rw [e1, IntKind.wrap_u64, show ((Pl.sum (Pl.nats l0) : Nat) : Int) % 18446744073709551616 = ((Pl.sum (Pl.nats l0) : Nat) : Int) from by omega]
  unfold le_Put.f
  rw [if_pos ⟨by omega, by omega, hh.2⟩, Option.bind_some]
  unfold Pl.putS
  rw [if_pos (by rw [Pl.fits_4]; exact decide_eq_true (by omega)), Int.toNat_natCast]
  rfl

end Go.Proofs.Ytiaoehjldbnpkaa.PA
