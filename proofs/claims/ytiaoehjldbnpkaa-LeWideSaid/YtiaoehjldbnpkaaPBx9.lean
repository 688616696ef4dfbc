/- Functions of the program as Lean functions, and that the Go code comes to just their answers: no condition but that the function says so. (Written by a program of this workplace over the kit's print, with contracts by hand.) -/
import Derived.Test.YtiaoehjldbnpkaaPBx0
namespace Go.Proofs.Ytiaoehjldbnpkaa.PB
open Go.RowKit Go.Proofs.YtiaoehjldbnpkaaW.PrintWords Go.Proofs.YtiaoehjldbnpkaaW.PrintLast Go.Proofs.YtiaoehjldbnpkaaW.PrintMore
attribute [local go_sem] max2_int min2_int max_two min_two max_three min_three max_four min_four   -- for this text's walks alone
set_option linter.unusedVariables false
set_option linter.unusedSimpArgs false

/-! ### strings_IndexByte: function 47 -/
theorem stringslite_IndexByte.goes (s : ByteArray) (c : Int) (w : World) :
    Calls Try.prog 51 #[.string s, .int .u8 c] w fun e w' => e = .returned (.int .i64 (firstIdx s c.toNat.toUInt8)) ∧ Drawn0 w w' := by
  have hx : ∀ w : World, (callFunc 52 #[.string s, .int .u8 c]).run Try.prog w = .ok (.value (.int .i64 (firstIdx s c.toNat.toUInt8))) w := fun w => by
    rw [run_callFunc_indexByte Try.func52 (by kernel_rfl) (by kernel_rfl) (by kernel_rfl) (by kernel_rfl), run_indexByte_string]
    rfl
  go_enter Try.func51, Try.ntmps51
  go_wp2
  go_ret
  exact ⟨rfl, Drawn0.refl _⟩
theorem strings_IndexByte.goes (s : ByteArray) (c : Int) (w : World) :
    Calls Try.prog 47 #[.string s, .int .u8 c] w fun e w' => e = .returned (.int .i64 (firstIdx s c.toNat.toUInt8)) ∧ Drawn0 w w' := by
  go_enter Try.func47, Try.ntmps47
  go_wp2_with (first | (go_at_call 51; refine (stringslite_IndexByte.goes s c _).mono ?_; rintro e w' ⟨rfl, ⟨nd, rfl⟩⟩))
  go_ret
  exact ⟨rfl, ⟨nd, rfl⟩⟩

end Go.Proofs.Ytiaoehjldbnpkaa.PB
