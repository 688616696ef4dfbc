/- Functions of the program as Lean functions, and that the Go code comes to just their answers: no condition but that the function says so. (Written by a program of this workplace over the kit's print, with contracts by hand.) -/
import Derived.Test.YtiaoehjldbnpkaaPAx0
namespace Go.Proofs.Ytiaoehjldbnpkaa.PA
open Go.RowKit Go.Proofs.YtiaoehjldbnpkaaW.PrintWords Go.Proofs.YtiaoehjldbnpkaaW.PrintLast Go.Proofs.YtiaoehjldbnpkaaW.PrintMore
attribute [local go_sem] max2_int min2_int max_two min_two max_three min_three max_four min_four   -- for this text's walks alone
set_option linter.unusedVariables false
set_option linter.unusedSimpArgs false

/-! ### crc_halves: function 37 -/
def halvesA : Array Value := Arr.numA .u32 16 (fun i => (Pl.stpN 4 i : Nat))
set_option maxHeartbeats 1000000 in
theorem crc_halves.calls (w : World) : Calls Try.prog 37 #[] w fun e w' => e = .returned (.agg halvesA) ∧ w' = w.alloc (.cells halvesA 57) := by
  have e : halvesA = #[.int .u32 0, .int .u32 274646895, .int .u32 549293790, .int .u32 820201905, .int .u32 1098587580, .int .u32 1361435347, .int .u32 1640403810, .int .u32 1905808397, .int .u32 2197175160, .int .u32 2460548119, .int .u32 2722870694, .int .u32 2987750089, .int .u32 3280807620, .int .u32 3553878443, .int .u32 3811616794, .int .u32 4084100981] := by
    kernel_rfl
  rw [e]
  clear e
  go_enter Try.func37, Try.ntmps37
  go_wp2
  refine bodyPost_ret (results_single rfl (.cell _ 57 _ (0, 0) _ rfl (heap_alloc_new w _) Try.underlying57 rfl (by kernel_rfl) .nil)) rfl ?_
  exact ⟨rfl, rfl⟩
theorem halves_in (w : World) (g : Nat) (h : w.heap[g]? = some (.cells halvesA 57 (0, 0))) : Arr.IsA w g 57 .u32 16 (fun i => (Pl.stpN 4 i : Nat)) := h

end Go.Proofs.Ytiaoehjldbnpkaa.PA
