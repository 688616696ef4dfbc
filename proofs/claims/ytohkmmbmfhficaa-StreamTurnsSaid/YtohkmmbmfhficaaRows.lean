/-
  No cell of these rows narrows 'for every input' (looked for: loops, veiled, ifaces, maps, wideKeys, modest, calm, conditions, laid).
  DERIVED. THE GIVEN ROWS OF THIS SEAT. 11 by the template 'for every input the law returns true; each argument reads behind the call as it read before'; 0 by the template 'total and deterministic' (their statements: YtohkmmbmfhficaaTotals.lean).
  GIVEN WITH THE SEED: the statements are not yours to turn. If you find one false, say at which input.
  Laid BY PROGRAM, IN A SANDBOX (cutbox-rows.mjs): the forced cells as the released guide's own fill.sh prints them over the translation f6d4b7eed13f669a… (all of the seat's roots in one cut). By AI agents, Wed Nov 11 2026. No macro, syntax, notation, axiom, sorry.
-/
import Derived.Test.YtohkmmbmfhficaaChecked
import GoSem.Claim
import GoSem.ClaimJoined
import GoSem.ClaimMapViews
import Derived.JoinedTies
import Derived.KernelRfl
namespace Go.Proofs.Ytohkmmbmfhficaa
/- THE CELL 'sum', in the pinned program and in every row, IS THE sha256 OF THE DUMP (.gsa) THAT YtohkmmbmfhficaaProg.lean LOADS. Nothing in Lean hashes anything: it is a label: what it is worth is what the hold of that sum in a sandbox is worth. -/
noncomputable def Try.pinned : Pinned := { name := "ytohkmmbmfhficaa", sum := "f6d4b7eed13f669a50e20df13564581acf47ba4c442eabfe99e02fa02f397b7d", checked := Try.checked }
namespace Rows
def none {H : Type} : Left H := { results := [], args := [] }

/-- 'waggonerlaw17.StreamGrows': WHATEVER THE INPUT: true; the input reads as it did. -/
def streamGrowsSpec : ChangeSpec := { name := "streamGrows", fn := fun _ => fun
  | [d1, d2, d3] => { results := [.lit (.bool true)], args := [d1, d2, d3] }
  | _ => none }
def streamGrowsRow : OpenClaim := { program := "ytohkmmbmfhficaa", sum := "f6d4b7eed13f669a50e20df13564581acf47ba4c442eabfe99e02fa02f397b7d", func := "waggoner/waggonerlaw17.StreamGrows", spec := "streamGrows", inPlace := ["internal/bytealg.IndexByteString", "internal/bytealg.IndexString"], unfollowed := true, recurses := true, named := ["internal/bytealg.MaxLen"], apart := false }
def StreamGrowsSaid : Prop := streamGrowsRow.holds Try.pinned (OpenSpec.ofChange streamGrowsSpec)

/-- ITS FALSE NEIGHBOUR: 'it returns false'. Refute it at one input. -/
def streamGrowsWrong : ChangeSpec := { name := "streamGrows", fn := fun _ => fun
  | [d1, d2, d3] => { results := [.lit (.bool false)], args := [d1, d2, d3] }
  | _ => none }
def StreamGrowsWrongFalsely : Prop := streamGrowsRow.holds Try.pinned (OpenSpec.ofChange streamGrowsWrong)

/-- 'waggonerlaw17.StreamSizes': WHATEVER THE INPUT: true; the input reads as it did. -/
def streamSizesSpec : ChangeSpec := { name := "streamSizes", fn := fun _ => fun
  | [d] => { results := [.lit (.bool true)], args := [d] }
  | _ => none }
def streamSizesRow : OpenClaim := { program := "ytohkmmbmfhficaa", sum := "f6d4b7eed13f669a50e20df13564581acf47ba4c442eabfe99e02fa02f397b7d", func := "waggoner/waggonerlaw17.StreamSizes", spec := "streamSizes", inPlace := ["internal/bytealg.IndexByteString", "internal/bytealg.IndexString"], unfollowed := true, recurses := true, named := ["internal/bytealg.MaxLen"], apart := false }
def StreamSizesSaid : Prop := streamSizesRow.holds Try.pinned (OpenSpec.ofChange streamSizesSpec)

/-- ITS FALSE NEIGHBOUR: 'it returns false'. Refute it at one input. -/
def streamSizesWrong : ChangeSpec := { name := "streamSizes", fn := fun _ => fun
  | [d] => { results := [.lit (.bool false)], args := [d] }
  | _ => none }
def StreamSizesWrongFalsely : Prop := streamSizesRow.holds Try.pinned (OpenSpec.ofChange streamSizesWrong)

/-- 'waggonerlaw16.FrameNames': WHATEVER THE INPUT: true; the input reads as it did. -/
def frameNamesSpec : ChangeSpec := { name := "frameNames", fn := fun _ => fun
  | [] => { results := [.lit (.bool true)], args := [] }
  | _ => none }
def frameNamesRow : OpenClaim := { program := "ytohkmmbmfhficaa", sum := "f6d4b7eed13f669a50e20df13564581acf47ba4c442eabfe99e02fa02f397b7d", func := "waggoner/waggonerlaw16.FrameNames", spec := "frameNames", inPlace := ["internal/bytealg.IndexByteString", "internal/bytealg.IndexString"], unfollowed := true, recurses := true, named := ["internal/bytealg.MaxLen"], apart := false }
def FrameNamesSaid : Prop := frameNamesRow.holds Try.pinned (OpenSpec.ofChange frameNamesSpec)

/-- ITS FALSE NEIGHBOUR: 'it returns false'. Refute it at one input. -/
def frameNamesWrong : ChangeSpec := { name := "frameNames", fn := fun _ => fun
  | [] => { results := [.lit (.bool false)], args := [] }
  | _ => none }
def FrameNamesWrongFalsely : Prop := frameNamesRow.holds Try.pinned (OpenSpec.ofChange frameNamesWrong)

/-- 'waggonerlaw16.FrameTells': WHATEVER THE INPUT: true; the input reads as it did. -/
def frameTellsSpec : ChangeSpec := { name := "frameTells", fn := fun _ => fun
  | [d1, d2] => { results := [.lit (.bool true)], args := [d1, d2] }
  | _ => none }
def frameTellsRow : OpenClaim := { program := "ytohkmmbmfhficaa", sum := "f6d4b7eed13f669a50e20df13564581acf47ba4c442eabfe99e02fa02f397b7d", func := "waggoner/waggonerlaw16.FrameTells", spec := "frameTells", inPlace := ["internal/bytealg.IndexByteString", "internal/bytealg.IndexString"], unfollowed := true, recurses := true, named := ["internal/bytealg.MaxLen"], apart := false }
def FrameTellsSaid : Prop := frameTellsRow.holds Try.pinned (OpenSpec.ofChange frameTellsSpec)

/-- ITS FALSE NEIGHBOUR: 'it returns false'. Refute it at one input. -/
def frameTellsWrong : ChangeSpec := { name := "frameTells", fn := fun _ => fun
  | [d1, d2] => { results := [.lit (.bool false)], args := [d1, d2] }
  | _ => none }
def FrameTellsWrongFalsely : Prop := frameTellsRow.holds Try.pinned (OpenSpec.ofChange frameTellsWrong)

/-- 'waggonerlaw16.FrameBack': WHATEVER THE INPUT: true; the input reads as it did. -/
def frameBackSpec : ChangeSpec := { name := "frameBack", fn := fun _ => fun
  | [d1, d2, d3] => { results := [.lit (.bool true)], args := [d1, d2, d3] }
  | _ => none }
def frameBackRow : OpenClaim := { program := "ytohkmmbmfhficaa", sum := "f6d4b7eed13f669a50e20df13564581acf47ba4c442eabfe99e02fa02f397b7d", func := "waggoner/waggonerlaw16.FrameBack", spec := "frameBack", inPlace := ["internal/bytealg.IndexByteString", "internal/bytealg.IndexString"], unfollowed := true, recurses := true, named := ["internal/bytealg.MaxLen"], apart := false }
def FrameBackSaid : Prop := frameBackRow.holds Try.pinned (OpenSpec.ofChange frameBackSpec)

/-- ITS FALSE NEIGHBOUR: 'it returns false'. Refute it at one input. -/
def frameBackWrong : ChangeSpec := { name := "frameBack", fn := fun _ => fun
  | [d1, d2, d3] => { results := [.lit (.bool false)], args := [d1, d2, d3] }
  | _ => none }
def FrameBackWrongFalsely : Prop := frameBackRow.holds Try.pinned (OpenSpec.ofChange frameBackWrong)

/-- 'waggonerlaw16.FrameBurst': WHATEVER THE INPUT: true; the input reads as it did. -/
def frameBurstSpec : ChangeSpec := { name := "frameBurst", fn := fun _ => fun
  | [d1, d2, d3] => { results := [.lit (.bool true)], args := [d1, d2, d3] }
  | _ => none }
def frameBurstRow : OpenClaim := { program := "ytohkmmbmfhficaa", sum := "f6d4b7eed13f669a50e20df13564581acf47ba4c442eabfe99e02fa02f397b7d", func := "waggoner/waggonerlaw16.FrameBurst", spec := "frameBurst", inPlace := ["internal/bytealg.IndexByteString", "internal/bytealg.IndexString"], unfollowed := true, recurses := true, named := ["internal/bytealg.MaxLen"], apart := false }
def FrameBurstSaid : Prop := frameBurstRow.holds Try.pinned (OpenSpec.ofChange frameBurstSpec)

/-- ITS FALSE NEIGHBOUR: 'it returns false'. Refute it at one input. -/
def frameBurstWrong : ChangeSpec := { name := "frameBurst", fn := fun _ => fun
  | [d1, d2, d3] => { results := [.lit (.bool false)], args := [d1, d2, d3] }
  | _ => none }
def FrameBurstWrongFalsely : Prop := frameBurstRow.holds Try.pinned (OpenSpec.ofChange frameBurstWrong)

/-- 'waggonerlaw16.FrameApart': WHATEVER THE INPUT: true; the input reads as it did. -/
def frameApartSpec : ChangeSpec := { name := "frameApart", fn := fun _ => fun
  | [d1, d2] => { results := [.lit (.bool true)], args := [d1, d2] }
  | _ => none }
def frameApartRow : OpenClaim := { program := "ytohkmmbmfhficaa", sum := "f6d4b7eed13f669a50e20df13564581acf47ba4c442eabfe99e02fa02f397b7d", func := "waggoner/waggonerlaw16.FrameApart", spec := "frameApart", inPlace := ["internal/bytealg.IndexByteString", "internal/bytealg.IndexString"], unfollowed := true, recurses := true, named := ["internal/bytealg.MaxLen"], apart := false }
def FrameApartSaid : Prop := frameApartRow.holds Try.pinned (OpenSpec.ofChange frameApartSpec)

/-- ITS FALSE NEIGHBOUR: 'it returns false'. Refute it at one input. -/
def frameApartWrong : ChangeSpec := { name := "frameApart", fn := fun _ => fun
  | [d1, d2] => { results := [.lit (.bool false)], args := [d1, d2] }
  | _ => none }
def FrameApartWrongFalsely : Prop := frameApartRow.holds Try.pinned (OpenSpec.ofChange frameApartWrong)

/-- 'waggonerlaw16.FrameGoes': WHATEVER THE INPUT: true; the input reads as it did. -/
def frameGoesSpec : ChangeSpec := { name := "frameGoes", fn := fun _ => fun
  | [d] => { results := [.lit (.bool true)], args := [d] }
  | _ => none }
def frameGoesRow : OpenClaim := { program := "ytohkmmbmfhficaa", sum := "f6d4b7eed13f669a50e20df13564581acf47ba4c442eabfe99e02fa02f397b7d", func := "waggoner/waggonerlaw16.FrameGoes", spec := "frameGoes", inPlace := ["internal/bytealg.IndexByteString", "internal/bytealg.IndexString"], unfollowed := true, recurses := true, named := ["internal/bytealg.MaxLen"], apart := false }
def FrameGoesSaid : Prop := frameGoesRow.holds Try.pinned (OpenSpec.ofChange frameGoesSpec)

/-- ITS FALSE NEIGHBOUR: 'it returns false'. Refute it at one input. -/
def frameGoesWrong : ChangeSpec := { name := "frameGoes", fn := fun _ => fun
  | [d] => { results := [.lit (.bool false)], args := [d] }
  | _ => none }
def FrameGoesWrongFalsely : Prop := frameGoesRow.holds Try.pinned (OpenSpec.ofChange frameGoesWrong)

/-- 'waggonerlaw17.StreamTells': WHATEVER THE INPUT: true; the input reads as it did. -/
def streamTellsSpec : ChangeSpec := { name := "streamTells", fn := fun _ => fun
  | [d1, d2] => { results := [.lit (.bool true)], args := [d1, d2] }
  | _ => none }
def streamTellsRow : OpenClaim := { program := "ytohkmmbmfhficaa", sum := "f6d4b7eed13f669a50e20df13564581acf47ba4c442eabfe99e02fa02f397b7d", func := "waggoner/waggonerlaw17.StreamTells", spec := "streamTells", inPlace := ["internal/bytealg.IndexByteString", "internal/bytealg.IndexString"], unfollowed := true, recurses := true, named := ["internal/bytealg.MaxLen"], apart := false }
def StreamTellsSaid : Prop := streamTellsRow.holds Try.pinned (OpenSpec.ofChange streamTellsSpec)

/-- ITS FALSE NEIGHBOUR: 'it returns false'. Refute it at one input. -/
def streamTellsWrong : ChangeSpec := { name := "streamTells", fn := fun _ => fun
  | [d1, d2] => { results := [.lit (.bool false)], args := [d1, d2] }
  | _ => none }
def StreamTellsWrongFalsely : Prop := streamTellsRow.holds Try.pinned (OpenSpec.ofChange streamTellsWrong)

/-- 'waggonerlaw17.StreamBack': WHATEVER THE INPUT: true; the input reads as it did. -/
def streamBackSpec : ChangeSpec := { name := "streamBack", fn := fun _ => fun
  | [d1, d2, d3] => { results := [.lit (.bool true)], args := [d1, d2, d3] }
  | _ => none }
def streamBackRow : OpenClaim := { program := "ytohkmmbmfhficaa", sum := "f6d4b7eed13f669a50e20df13564581acf47ba4c442eabfe99e02fa02f397b7d", func := "waggoner/waggonerlaw17.StreamBack", spec := "streamBack", inPlace := ["internal/bytealg.IndexByteString", "internal/bytealg.IndexString"], unfollowed := true, recurses := true, named := ["internal/bytealg.MaxLen"], apart := false }
def StreamBackSaid : Prop := streamBackRow.holds Try.pinned (OpenSpec.ofChange streamBackSpec)

/-- ITS FALSE NEIGHBOUR: 'it returns false'. Refute it at one input. -/
def streamBackWrong : ChangeSpec := { name := "streamBack", fn := fun _ => fun
  | [d1, d2, d3] => { results := [.lit (.bool false)], args := [d1, d2, d3] }
  | _ => none }
def StreamBackWrongFalsely : Prop := streamBackRow.holds Try.pinned (OpenSpec.ofChange streamBackWrong)

/-- 'waggonerlaw17.StreamTurns': WHATEVER THE INPUT: true; the input reads as it did. -/
def streamTurnsSpec : ChangeSpec := { name := "streamTurns", fn := fun _ => fun
  | [d1, d2, d3, d4] => { results := [.lit (.bool true)], args := [d1, d2, d3, d4] }
  | _ => none }
def streamTurnsRow : OpenClaim := { program := "ytohkmmbmfhficaa", sum := "f6d4b7eed13f669a50e20df13564581acf47ba4c442eabfe99e02fa02f397b7d", func := "waggoner/waggonerlaw17.StreamTurns", spec := "streamTurns", inPlace := ["internal/bytealg.IndexByteString", "internal/bytealg.IndexString"], unfollowed := true, recurses := true, named := ["internal/bytealg.MaxLen"], apart := false }
def StreamTurnsSaid : Prop := streamTurnsRow.holds Try.pinned (OpenSpec.ofChange streamTurnsSpec)

/-- ITS FALSE NEIGHBOUR: 'it returns false'. Refute it at one input. -/
def streamTurnsWrong : ChangeSpec := { name := "streamTurns", fn := fun _ => fun
  | [d1, d2, d3, d4] => { results := [.lit (.bool false)], args := [d1, d2, d3, d4] }
  | _ => none }
def StreamTurnsWrongFalsely : Prop := streamTurnsRow.holds Try.pinned (OpenSpec.ofChange streamTurnsWrong)

/- THE SECOND FORM. 'bulk': how many values and letters a reading holds, each counted each time it is reached (what is shared counts as often as it is met; a slice's spare places count too). A statement '..UptoSaid' is the law's where the arguments, and the package variables that the reading takes, are together of bulk at most 1048576: NARROWER than '..Said'. Prove '..Said' where nothing that the law and all that it calls make is longer than what came in: it says more and counts as full. Else prove '..UptoSaid'. A law counts once. -/
mutual
def uptoBulk {H : Type} : DataW H → Nat
  | .lit (.string bytes) => bytes.length + 1
  | .lit _ => 1
  | .nil => 1
  | .ptr d => uptoBulk d + 1
  | .slice elems spare => uptoBulkAll elems + uptoBulkAll spare + 1
  | .agg parts => uptoBulkAll parts + 1
  | .iface _ d => uptoBulk d + 1
  | .map entries => uptoBulkEntries entries + 1
  | .held _ => 1
def uptoBulkAll {H : Type} : List (DataW H) → Nat
  | [] => 0
  | d :: r => uptoBulk d + uptoBulkAll r
def uptoBulkEntries {H : Type} : List (Lit × DataW H) → Nat
  | [] => 0
  | x :: r => uptoBulkEntry x + uptoBulkEntries r
def uptoBulkEntry {H : Type} : Lit × DataW H → Nat
  | (.string bytes, d) => bytes.length + uptoBulk d + 1
  | (_, d) => uptoBulk d + 1
 end
def uptoSmall : (H : Type) → List (DataW H) → Bool := fun _ ds => decide (uptoBulkAll ds ≤ 1048576)
def OpenSpec.upto (s : _root_.Go.ChangeSpec) : _root_.Go.OpenSpec := { _root_.Go.OpenSpec.ofChange s with cond := some uptoSmall }

/-- 'waggonerlaw17.StreamGrows', WHERE WHAT IT READS IS OF BULK AT MOST 1048576: true; the input reads as it did. -/
def streamGrowsUptoRow : OpenClaim := { program := "ytohkmmbmfhficaa", sum := "f6d4b7eed13f669a50e20df13564581acf47ba4c442eabfe99e02fa02f397b7d", func := "waggoner/waggonerlaw17.StreamGrows", spec := "streamGrows", inPlace := ["internal/bytealg.IndexByteString", "internal/bytealg.IndexString"], unfollowed := true, recurses := true, named := ["internal/bytealg.MaxLen"], apart := false, narrowed := true }
def StreamGrowsUptoSaid : Prop := streamGrowsUptoRow.holds Try.pinned (OpenSpec.upto streamGrowsSpec)

/-- 'waggonerlaw17.StreamSizes', WHERE WHAT IT READS IS OF BULK AT MOST 1048576: true; the input reads as it did. -/
def streamSizesUptoRow : OpenClaim := { program := "ytohkmmbmfhficaa", sum := "f6d4b7eed13f669a50e20df13564581acf47ba4c442eabfe99e02fa02f397b7d", func := "waggoner/waggonerlaw17.StreamSizes", spec := "streamSizes", inPlace := ["internal/bytealg.IndexByteString", "internal/bytealg.IndexString"], unfollowed := true, recurses := true, named := ["internal/bytealg.MaxLen"], apart := false, narrowed := true }
def StreamSizesUptoSaid : Prop := streamSizesUptoRow.holds Try.pinned (OpenSpec.upto streamSizesSpec)

/-- 'waggonerlaw16.FrameNames', WHERE WHAT IT READS IS OF BULK AT MOST 1048576: true; the input reads as it did. -/
def frameNamesUptoRow : OpenClaim := { program := "ytohkmmbmfhficaa", sum := "f6d4b7eed13f669a50e20df13564581acf47ba4c442eabfe99e02fa02f397b7d", func := "waggoner/waggonerlaw16.FrameNames", spec := "frameNames", inPlace := ["internal/bytealg.IndexByteString", "internal/bytealg.IndexString"], unfollowed := true, recurses := true, named := ["internal/bytealg.MaxLen"], apart := false, narrowed := true }
def FrameNamesUptoSaid : Prop := frameNamesUptoRow.holds Try.pinned (OpenSpec.upto frameNamesSpec)

/-- 'waggonerlaw16.FrameTells', WHERE WHAT IT READS IS OF BULK AT MOST 1048576: true; the input reads as it did. -/
def frameTellsUptoRow : OpenClaim := { program := "ytohkmmbmfhficaa", sum := "f6d4b7eed13f669a50e20df13564581acf47ba4c442eabfe99e02fa02f397b7d", func := "waggoner/waggonerlaw16.FrameTells", spec := "frameTells", inPlace := ["internal/bytealg.IndexByteString", "internal/bytealg.IndexString"], unfollowed := true, recurses := true, named := ["internal/bytealg.MaxLen"], apart := false, narrowed := true }
def FrameTellsUptoSaid : Prop := frameTellsUptoRow.holds Try.pinned (OpenSpec.upto frameTellsSpec)

/-- 'waggonerlaw16.FrameBack', WHERE WHAT IT READS IS OF BULK AT MOST 1048576: true; the input reads as it did. -/
def frameBackUptoRow : OpenClaim := { program := "ytohkmmbmfhficaa", sum := "f6d4b7eed13f669a50e20df13564581acf47ba4c442eabfe99e02fa02f397b7d", func := "waggoner/waggonerlaw16.FrameBack", spec := "frameBack", inPlace := ["internal/bytealg.IndexByteString", "internal/bytealg.IndexString"], unfollowed := true, recurses := true, named := ["internal/bytealg.MaxLen"], apart := false, narrowed := true }
def FrameBackUptoSaid : Prop := frameBackUptoRow.holds Try.pinned (OpenSpec.upto frameBackSpec)

/-- 'waggonerlaw16.FrameBurst', WHERE WHAT IT READS IS OF BULK AT MOST 1048576: true; the input reads as it did. -/
def frameBurstUptoRow : OpenClaim := { program := "ytohkmmbmfhficaa", sum := "f6d4b7eed13f669a50e20df13564581acf47ba4c442eabfe99e02fa02f397b7d", func := "waggoner/waggonerlaw16.FrameBurst", spec := "frameBurst", inPlace := ["internal/bytealg.IndexByteString", "internal/bytealg.IndexString"], unfollowed := true, recurses := true, named := ["internal/bytealg.MaxLen"], apart := false, narrowed := true }
def FrameBurstUptoSaid : Prop := frameBurstUptoRow.holds Try.pinned (OpenSpec.upto frameBurstSpec)

/-- 'waggonerlaw16.FrameApart', WHERE WHAT IT READS IS OF BULK AT MOST 1048576: true; the input reads as it did. -/
def frameApartUptoRow : OpenClaim := { program := "ytohkmmbmfhficaa", sum := "f6d4b7eed13f669a50e20df13564581acf47ba4c442eabfe99e02fa02f397b7d", func := "waggoner/waggonerlaw16.FrameApart", spec := "frameApart", inPlace := ["internal/bytealg.IndexByteString", "internal/bytealg.IndexString"], unfollowed := true, recurses := true, named := ["internal/bytealg.MaxLen"], apart := false, narrowed := true }
def FrameApartUptoSaid : Prop := frameApartUptoRow.holds Try.pinned (OpenSpec.upto frameApartSpec)

/-- 'waggonerlaw16.FrameGoes', WHERE WHAT IT READS IS OF BULK AT MOST 1048576: true; the input reads as it did. -/
def frameGoesUptoRow : OpenClaim := { program := "ytohkmmbmfhficaa", sum := "f6d4b7eed13f669a50e20df13564581acf47ba4c442eabfe99e02fa02f397b7d", func := "waggoner/waggonerlaw16.FrameGoes", spec := "frameGoes", inPlace := ["internal/bytealg.IndexByteString", "internal/bytealg.IndexString"], unfollowed := true, recurses := true, named := ["internal/bytealg.MaxLen"], apart := false, narrowed := true }
def FrameGoesUptoSaid : Prop := frameGoesUptoRow.holds Try.pinned (OpenSpec.upto frameGoesSpec)

/-- 'waggonerlaw17.StreamTells', WHERE WHAT IT READS IS OF BULK AT MOST 1048576: true; the input reads as it did. -/
def streamTellsUptoRow : OpenClaim := { program := "ytohkmmbmfhficaa", sum := "f6d4b7eed13f669a50e20df13564581acf47ba4c442eabfe99e02fa02f397b7d", func := "waggoner/waggonerlaw17.StreamTells", spec := "streamTells", inPlace := ["internal/bytealg.IndexByteString", "internal/bytealg.IndexString"], unfollowed := true, recurses := true, named := ["internal/bytealg.MaxLen"], apart := false, narrowed := true }
def StreamTellsUptoSaid : Prop := streamTellsUptoRow.holds Try.pinned (OpenSpec.upto streamTellsSpec)

/-- 'waggonerlaw17.StreamBack', WHERE WHAT IT READS IS OF BULK AT MOST 1048576: true; the input reads as it did. -/
def streamBackUptoRow : OpenClaim := { program := "ytohkmmbmfhficaa", sum := "f6d4b7eed13f669a50e20df13564581acf47ba4c442eabfe99e02fa02f397b7d", func := "waggoner/waggonerlaw17.StreamBack", spec := "streamBack", inPlace := ["internal/bytealg.IndexByteString", "internal/bytealg.IndexString"], unfollowed := true, recurses := true, named := ["internal/bytealg.MaxLen"], apart := false, narrowed := true }
def StreamBackUptoSaid : Prop := streamBackUptoRow.holds Try.pinned (OpenSpec.upto streamBackSpec)

/-- 'waggonerlaw17.StreamTurns', WHERE WHAT IT READS IS OF BULK AT MOST 1048576: true; the input reads as it did. -/
def streamTurnsUptoRow : OpenClaim := { program := "ytohkmmbmfhficaa", sum := "f6d4b7eed13f669a50e20df13564581acf47ba4c442eabfe99e02fa02f397b7d", func := "waggoner/waggonerlaw17.StreamTurns", spec := "streamTurns", inPlace := ["internal/bytealg.IndexByteString", "internal/bytealg.IndexString"], unfollowed := true, recurses := true, named := ["internal/bytealg.MaxLen"], apart := false, narrowed := true }
def StreamTurnsUptoSaid : Prop := streamTurnsUptoRow.holds Try.pinned (OpenSpec.upto streamTurnsSpec)

end Rows
end Go.Proofs.Ytohkmmbmfhficaa
