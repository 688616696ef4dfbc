/-
  No cell of these rows narrows 'for every input' (looked for: loops, veiled, ifaces, maps, wideKeys, modest, calm, conditions, laid).
  DERIVED. THE GIVEN ROWS OF THIS SEAT. 6 by the template 'for every input the law returns true; each argument reads behind the call as it read before'; 0 by the template 'total and deterministic' (their statements: YtmgohkffphogdaaTotals.lean).
  GIVEN WITH THE SEED: the statements are not yours to turn. If you find one false, say at which input.
  Laid BY PROGRAM, IN A SANDBOX (cutbox-rows.mjs): the forced cells as the released guide's own fill.sh prints them over the translation b6970d58743b40c5… (all of the seat's roots in one cut). By AI agents, Wed Nov 11 2026. No macro, syntax, notation, axiom, sorry.
-/
import Derived.Test.YtmgohkffphogdaaChecked
import GoSem.Claim
import GoSem.ClaimJoined
import GoSem.ClaimMapViews
import Derived.JoinedTies
import Derived.KernelRfl
namespace Go.Proofs.Ytmgohkffphogdaa
/- THE CELL 'sum', in the pinned program and in every row, IS THE sha256 OF THE DUMP (.gsa) THAT YtmgohkffphogdaaProg.lean LOADS. Nothing in Lean hashes anything: it is a label: what it is worth is what the hold of that sum in a sandbox is worth. -/
noncomputable def Try.pinned : Pinned := { name := "ytmgohkffphogdaa", sum := "b6970d58743b40c54e81158a682b746fe22b243a2b344e3ce7573fa76cb536c8", checked := Try.checked }
namespace Rows
def none {H : Type} : Left H := { results := [], args := [] }

/-- 'waggonerlaw10.ChangeNames': WHATEVER THE INPUT: true; the input reads as it did. -/
def changeNamesSpec : ChangeSpec := { name := "changeNames", fn := fun _ => fun
  | [] => { results := [.lit (.bool true)], args := [] }
  | _ => none }
def changeNamesRow : OpenClaim := { program := "ytmgohkffphogdaa", sum := "b6970d58743b40c54e81158a682b746fe22b243a2b344e3ce7573fa76cb536c8", func := "waggoner/waggonerlaw10.ChangeNames", spec := "changeNames", inPlace := ["internal/bytealg.IndexByteString", "internal/bytealg.IndexString"], unfollowed := true, recurses := true, named := ["internal/bytealg.MaxLen"], apart := false }
def ChangeNamesSaid : Prop := changeNamesRow.holds Try.pinned (OpenSpec.ofChange changeNamesSpec)

/-- ITS FALSE NEIGHBOUR: 'it returns false'. Refute it at one input. -/
def changeNamesWrong : ChangeSpec := { name := "changeNames", fn := fun _ => fun
  | [] => { results := [.lit (.bool false)], args := [] }
  | _ => none }
def ChangeNamesWrongFalsely : Prop := changeNamesRow.holds Try.pinned (OpenSpec.ofChange changeNamesWrong)

/-- 'waggonerlaw10.ChangeTells': WHATEVER THE INPUT: true; the input reads as it did. -/
def changeTellsSpec : ChangeSpec := { name := "changeTells", fn := fun _ => fun
  | [d1, d2] => { results := [.lit (.bool true)], args := [d1, d2] }
  | _ => none }
def changeTellsRow : OpenClaim := { program := "ytmgohkffphogdaa", sum := "b6970d58743b40c54e81158a682b746fe22b243a2b344e3ce7573fa76cb536c8", func := "waggoner/waggonerlaw10.ChangeTells", spec := "changeTells", inPlace := ["internal/bytealg.IndexByteString", "internal/bytealg.IndexString"], unfollowed := true, recurses := true, named := ["internal/bytealg.MaxLen"], apart := false }
def ChangeTellsSaid : Prop := changeTellsRow.holds Try.pinned (OpenSpec.ofChange changeTellsSpec)

/-- ITS FALSE NEIGHBOUR: 'it returns false'. Refute it at one input. -/
def changeTellsWrong : ChangeSpec := { name := "changeTells", fn := fun _ => fun
  | [d1, d2] => { results := [.lit (.bool false)], args := [d1, d2] }
  | _ => none }
def ChangeTellsWrongFalsely : Prop := changeTellsRow.holds Try.pinned (OpenSpec.ofChange changeTellsWrong)

/-- 'waggonerlaw10.ChangeApart': WHATEVER THE INPUT: true; the input reads as it did. -/
def changeApartSpec : ChangeSpec := { name := "changeApart", fn := fun _ => fun
  | [d1, d2, d3] => { results := [.lit (.bool true)], args := [d1, d2, d3] }
  | _ => none }
def changeApartRow : OpenClaim := { program := "ytmgohkffphogdaa", sum := "b6970d58743b40c54e81158a682b746fe22b243a2b344e3ce7573fa76cb536c8", func := "waggoner/waggonerlaw10.ChangeApart", spec := "changeApart", inPlace := ["internal/bytealg.IndexByteString", "internal/bytealg.IndexString"], unfollowed := true, recurses := true, named := ["internal/bytealg.MaxLen"], apart := false }
def ChangeApartSaid : Prop := changeApartRow.holds Try.pinned (OpenSpec.ofChange changeApartSpec)

/-- ITS FALSE NEIGHBOUR: 'it returns false'. Refute it at one input. -/
def changeApartWrong : ChangeSpec := { name := "changeApart", fn := fun _ => fun
  | [d1, d2, d3] => { results := [.lit (.bool false)], args := [d1, d2, d3] }
  | _ => none }
def ChangeApartWrongFalsely : Prop := changeApartRow.holds Try.pinned (OpenSpec.ofChange changeApartWrong)

/-- 'waggonerlaw10.ChangeKinds': WHATEVER THE INPUT: true; the input reads as it did. -/
def changeKindsSpec : ChangeSpec := { name := "changeKinds", fn := fun _ => fun
  | [d1, d2] => { results := [.lit (.bool true)], args := [d1, d2] }
  | _ => none }
def changeKindsRow : OpenClaim := { program := "ytmgohkffphogdaa", sum := "b6970d58743b40c54e81158a682b746fe22b243a2b344e3ce7573fa76cb536c8", func := "waggoner/waggonerlaw10.ChangeKinds", spec := "changeKinds", inPlace := ["internal/bytealg.IndexByteString", "internal/bytealg.IndexString"], unfollowed := true, recurses := true, named := ["internal/bytealg.MaxLen"], apart := false }
def ChangeKindsSaid : Prop := changeKindsRow.holds Try.pinned (OpenSpec.ofChange changeKindsSpec)

/-- ITS FALSE NEIGHBOUR: 'it returns false'. Refute it at one input. -/
def changeKindsWrong : ChangeSpec := { name := "changeKinds", fn := fun _ => fun
  | [d1, d2] => { results := [.lit (.bool false)], args := [d1, d2] }
  | _ => none }
def ChangeKindsWrongFalsely : Prop := changeKindsRow.holds Try.pinned (OpenSpec.ofChange changeKindsWrong)

/-- 'waggonerlaw10.ChangeSizes': WHATEVER THE INPUT: true; the input reads as it did. -/
def changeSizesSpec : ChangeSpec := { name := "changeSizes", fn := fun _ => fun
  | [d1, d2] => { results := [.lit (.bool true)], args := [d1, d2] }
  | _ => none }
def changeSizesRow : OpenClaim := { program := "ytmgohkffphogdaa", sum := "b6970d58743b40c54e81158a682b746fe22b243a2b344e3ce7573fa76cb536c8", func := "waggoner/waggonerlaw10.ChangeSizes", spec := "changeSizes", inPlace := ["internal/bytealg.IndexByteString", "internal/bytealg.IndexString"], unfollowed := true, recurses := true, named := ["internal/bytealg.MaxLen"], apart := false }
def ChangeSizesSaid : Prop := changeSizesRow.holds Try.pinned (OpenSpec.ofChange changeSizesSpec)

/-- ITS FALSE NEIGHBOUR: 'it returns false'. Refute it at one input. -/
def changeSizesWrong : ChangeSpec := { name := "changeSizes", fn := fun _ => fun
  | [d1, d2] => { results := [.lit (.bool false)], args := [d1, d2] }
  | _ => none }
def ChangeSizesWrongFalsely : Prop := changeSizesRow.holds Try.pinned (OpenSpec.ofChange changeSizesWrong)

/-- 'waggonerlaw10.ChangeBack': WHATEVER THE INPUT: true; the input reads as it did. -/
def changeBackSpec : ChangeSpec := { name := "changeBack", fn := fun _ => fun
  | [d1, d2] => { results := [.lit (.bool true)], args := [d1, d2] }
  | _ => none }
def changeBackRow : OpenClaim := { program := "ytmgohkffphogdaa", sum := "b6970d58743b40c54e81158a682b746fe22b243a2b344e3ce7573fa76cb536c8", func := "waggoner/waggonerlaw10.ChangeBack", spec := "changeBack", inPlace := ["internal/bytealg.IndexByteString", "internal/bytealg.IndexString"], unfollowed := true, recurses := true, named := ["internal/bytealg.MaxLen"], apart := false }
def ChangeBackSaid : Prop := changeBackRow.holds Try.pinned (OpenSpec.ofChange changeBackSpec)

/-- ITS FALSE NEIGHBOUR: 'it returns false'. Refute it at one input. -/
def changeBackWrong : ChangeSpec := { name := "changeBack", fn := fun _ => fun
  | [d1, d2] => { results := [.lit (.bool false)], args := [d1, d2] }
  | _ => none }
def ChangeBackWrongFalsely : Prop := changeBackRow.holds Try.pinned (OpenSpec.ofChange changeBackWrong)

/- THE SECOND FORM. 'bulk': how many values and letters a reading holds, each counted each time it is reached (what is shared counts as often as it is met; a slice's spare places count too). A statement '..UptoSaid' is the law's where the arguments, and the package variables that the reading takes, are together of bulk at most 1048576: NARROWER than '..Said'. Prove '..Said' where nothing that the law and all that it calls make is longer than what came in: it says more and counts as full. Else prove '..UptoSaid'. A law counts once. -/
mutual
def uptoBulk {H : Type} : DataW H → Nat
  | .lit (.string bytes) => bytes.length + 1
  | .lit _ => 1
  | .nil => 1
  | .ptr d => uptoBulk d + 1
  | .slice elems spare => uptoBulkAll elems + uptoBulkAll spare + 1
  | .agg parts => uptoBulkAll parts + 1
  | .iface _ d => uptoBulk d + 1
  | .map entries => uptoBulkEntries entries + 1
  | .held _ => 1
def uptoBulkAll {H : Type} : List (DataW H) → Nat
  | [] => 0
  | d :: r => uptoBulk d + uptoBulkAll r
def uptoBulkEntries {H : Type} : List (Lit × DataW H) → Nat
  | [] => 0
  | x :: r => uptoBulkEntry x + uptoBulkEntries r
def uptoBulkEntry {H : Type} : Lit × DataW H → Nat
  | (.string bytes, d) => bytes.length + uptoBulk d + 1
  | (_, d) => uptoBulk d + 1
 end
def uptoSmall : (H : Type) → List (DataW H) → Bool := fun _ ds => decide (uptoBulkAll ds ≤ 1048576)
def OpenSpec.upto (s : _root_.Go.ChangeSpec) : _root_.Go.OpenSpec := { _root_.Go.OpenSpec.ofChange s with cond := some uptoSmall }

/-- 'waggonerlaw10.ChangeNames', WHERE WHAT IT READS IS OF BULK AT MOST 1048576: true; the input reads as it did. -/
def changeNamesUptoRow : OpenClaim := { program := "ytmgohkffphogdaa", sum := "b6970d58743b40c54e81158a682b746fe22b243a2b344e3ce7573fa76cb536c8", func := "waggoner/waggonerlaw10.ChangeNames", spec := "changeNames", inPlace := ["internal/bytealg.IndexByteString", "internal/bytealg.IndexString"], unfollowed := true, recurses := true, named := ["internal/bytealg.MaxLen"], apart := false, narrowed := true }
def ChangeNamesUptoSaid : Prop := changeNamesUptoRow.holds Try.pinned (OpenSpec.upto changeNamesSpec)

/-- 'waggonerlaw10.ChangeTells', WHERE WHAT IT READS IS OF BULK AT MOST 1048576: true; the input reads as it did. -/
def changeTellsUptoRow : OpenClaim := { program := "ytmgohkffphogdaa", sum := "b6970d58743b40c54e81158a682b746fe22b243a2b344e3ce7573fa76cb536c8", func := "waggoner/waggonerlaw10.ChangeTells", spec := "changeTells", inPlace := ["internal/bytealg.IndexByteString", "internal/bytealg.IndexString"], unfollowed := true, recurses := true, named := ["internal/bytealg.MaxLen"], apart := false, narrowed := true }
def ChangeTellsUptoSaid : Prop := changeTellsUptoRow.holds Try.pinned (OpenSpec.upto changeTellsSpec)

/-- 'waggonerlaw10.ChangeApart', WHERE WHAT IT READS IS OF BULK AT MOST 1048576: true; the input reads as it did. -/
def changeApartUptoRow : OpenClaim := { program := "ytmgohkffphogdaa", sum := "b6970d58743b40c54e81158a682b746fe22b243a2b344e3ce7573fa76cb536c8", func := "waggoner/waggonerlaw10.ChangeApart", spec := "changeApart", inPlace := ["internal/bytealg.IndexByteString", "internal/bytealg.IndexString"], unfollowed := true, recurses := true, named := ["internal/bytealg.MaxLen"], apart := false, narrowed := true }
def ChangeApartUptoSaid : Prop := changeApartUptoRow.holds Try.pinned (OpenSpec.upto changeApartSpec)

/-- 'waggonerlaw10.ChangeKinds', WHERE WHAT IT READS IS OF BULK AT MOST 1048576: true; the input reads as it did. -/
def changeKindsUptoRow : OpenClaim := { program := "ytmgohkffphogdaa", sum := "b6970d58743b40c54e81158a682b746fe22b243a2b344e3ce7573fa76cb536c8", func := "waggoner/waggonerlaw10.ChangeKinds", spec := "changeKinds", inPlace := ["internal/bytealg.IndexByteString", "internal/bytealg.IndexString"], unfollowed := true, recurses := true, named := ["internal/bytealg.MaxLen"], apart := false, narrowed := true }
def ChangeKindsUptoSaid : Prop := changeKindsUptoRow.holds Try.pinned (OpenSpec.upto changeKindsSpec)

/-- 'waggonerlaw10.ChangeSizes', WHERE WHAT IT READS IS OF BULK AT MOST 1048576: true; the input reads as it did. -/
def changeSizesUptoRow : OpenClaim := { program := "ytmgohkffphogdaa", sum := "b6970d58743b40c54e81158a682b746fe22b243a2b344e3ce7573fa76cb536c8", func := "waggoner/waggonerlaw10.ChangeSizes", spec := "changeSizes", inPlace := ["internal/bytealg.IndexByteString", "internal/bytealg.IndexString"], unfollowed := true, recurses := true, named := ["internal/bytealg.MaxLen"], apart := false, narrowed := true }
def ChangeSizesUptoSaid : Prop := changeSizesUptoRow.holds Try.pinned (OpenSpec.upto changeSizesSpec)

/-- 'waggonerlaw10.ChangeBack', WHERE WHAT IT READS IS OF BULK AT MOST 1048576: true; the input reads as it did. -/
def changeBackUptoRow : OpenClaim := { program := "ytmgohkffphogdaa", sum := "b6970d58743b40c54e81158a682b746fe22b243a2b344e3ce7573fa76cb536c8", func := "waggoner/waggonerlaw10.ChangeBack", spec := "changeBack", inPlace := ["internal/bytealg.IndexByteString", "internal/bytealg.IndexString"], unfollowed := true, recurses := true, named := ["internal/bytealg.MaxLen"], apart := false, narrowed := true }
def ChangeBackUptoSaid : Prop := changeBackUptoRow.holds Try.pinned (OpenSpec.upto changeBackSpec)

end Rows
end Go.Proofs.Ytmgohkffphogdaa
