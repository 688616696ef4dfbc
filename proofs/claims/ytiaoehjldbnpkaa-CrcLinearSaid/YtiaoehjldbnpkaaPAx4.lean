/- Functions of the program as Lean functions, and that the Go code comes to just their answers: no condition but that the function says so. (Written by a program of this workplace over the kit's print, with contracts by hand.) -/
import Derived.Test.YtiaoehjldbnpkaaPAx0
import Derived.Test.YtiaoehjldbnpkaaPAx2
import Derived.Test.YtiaoehjldbnpkaaPAx3
namespace Go.Proofs.Ytiaoehjldbnpkaa.PA
open Go.RowKit Go.Proofs.YtiaoehjldbnpkaaW.PrintWords Go.Proofs.YtiaoehjldbnpkaaW.PrintLast Go.Proofs.YtiaoehjldbnpkaaW.PrintMore
attribute [local go_sem] max2_int min2_int max_two min_two max_three min_three max_four min_four   -- for this text's walks alone
set_option linter.unusedVariables false
set_option linter.unusedSimpArgs false

/-! ### crc_Sum: function 21 -/
def crc_Sum.f (l0 : List Int) : Option Int := crc_More.f 0 l0
theorem crc_Sum.calls (A0 : Option Addr) (c0 : Nat) (l0 : List Int) (r : Int) (w : World) (hr0 : Kd.C (Kd.int .u8) w A0 l0.length l0) (hc0 : l0.length ≤ c0) (h : crc_Sum.f l0 = some r) :
    Calls Try.prog 21 #[.slice A0 l0.length c0] w fun e w' => e = .returned (.int .u32 r) ∧ Below w.heap.size w w' := by
  refine crc_Sum_p.calls A0 c0 l0 r w hr0 hc0 ?_
  unfold crc_Sum.f at h
  unfold crc_Sum_p.f
  rw [h, Option.bind_some]
theorem crc_Sum.tells (l : List Int) (h : Pl.byteB l = true) : crc_Sum.f l = some ((Pl.sum (Pl.nats l) : Nat) : Int) := by
  unfold crc_Sum.f
  rw [show (0 : Int) = ((0 : Nat) : Int) from rfl, crc_More.tells 0 l (by decide) h]
  rfl

end Go.Proofs.Ytiaoehjldbnpkaa.PA
