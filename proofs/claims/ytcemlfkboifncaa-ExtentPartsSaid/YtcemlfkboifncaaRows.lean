/-
  No cell of these rows narrows 'for every input' (looked for: loops, veiled, ifaces, maps, wideKeys, modest, calm, conditions, laid).
  DERIVED. THE GIVEN ROWS OF THIS SEAT. 15 by the template 'for every input the law returns true; each argument reads behind the call as it read before'; 0 by the template 'total and deterministic' (their statements: YtcemlfkboifncaaTotals.lean).
  GIVEN WITH THE SEED: the statements are not yours to turn. If you find one false, say at which input.
  Laid BY PROGRAM, IN A SANDBOX (cutbox-rows.mjs): the forced cells as the released guide's own fill.sh prints them over the translation 256bfe49fd1a8bb3… (all of the seat's roots in one cut). By AI agents, Wed Nov 11 2026. No macro, syntax, notation, axiom, sorry.
-/
import Derived.Test.YtcemlfkboifncaaChecked
import GoSem.Claim
import GoSem.ClaimJoined
import GoSem.ClaimMapViews
import Derived.JoinedTies
import Derived.KernelRfl
namespace Go.Proofs.Ytcemlfkboifncaa
/- THE CELL 'sum', in the pinned program and in every row, IS THE sha256 OF THE DUMP (.gsa) THAT YtcemlfkboifncaaProg.lean LOADS. Nothing in Lean hashes anything: it is a label: what it is worth is what the hold of that sum in a sandbox is worth. -/
noncomputable def Try.pinned : Pinned := { name := "ytcemlfkboifncaa", sum := "256bfe49fd1a8bb33ee8f67999635c40827d281ef2f7126e089bda9a7241d3d6", checked := Try.checked }
namespace Rows
def none {H : Type} : Left H := { results := [], args := [] }

/-- 'waggonerlaw05.RecordNames': WHATEVER THE INPUT: true; the input reads as it did. -/
def recordNamesSpec : ChangeSpec := { name := "recordNames", fn := fun _ => fun
  | [] => { results := [.lit (.bool true)], args := [] }
  | _ => none }
def recordNamesRow : OpenClaim := { program := "ytcemlfkboifncaa", sum := "256bfe49fd1a8bb33ee8f67999635c40827d281ef2f7126e089bda9a7241d3d6", func := "waggoner/waggonerlaw05.RecordNames", spec := "recordNames", inPlace := ["internal/bytealg.IndexByteString", "internal/bytealg.IndexString"], unfollowed := true, recurses := true, named := ["internal/bytealg.MaxLen"], apart := false }
def RecordNamesSaid : Prop := recordNamesRow.holds Try.pinned (OpenSpec.ofChange recordNamesSpec)

/-- ITS FALSE NEIGHBOUR: 'it returns false'. Refute it at one input. -/
def recordNamesWrong : ChangeSpec := { name := "recordNames", fn := fun _ => fun
  | [] => { results := [.lit (.bool false)], args := [] }
  | _ => none }
def RecordNamesWrongFalsely : Prop := recordNamesRow.holds Try.pinned (OpenSpec.ofChange recordNamesWrong)

/-- 'waggonerlaw05.RecordTells': WHATEVER THE INPUT: true; the input reads as it did. -/
def recordTellsSpec : ChangeSpec := { name := "recordTells", fn := fun _ => fun
  | [d1, d2, d3] => { results := [.lit (.bool true)], args := [d1, d2, d3] }
  | _ => none }
def recordTellsRow : OpenClaim := { program := "ytcemlfkboifncaa", sum := "256bfe49fd1a8bb33ee8f67999635c40827d281ef2f7126e089bda9a7241d3d6", func := "waggoner/waggonerlaw05.RecordTells", spec := "recordTells", inPlace := ["internal/bytealg.IndexByteString", "internal/bytealg.IndexString"], unfollowed := true, recurses := true, named := ["internal/bytealg.MaxLen"], apart := false }
def RecordTellsSaid : Prop := recordTellsRow.holds Try.pinned (OpenSpec.ofChange recordTellsSpec)

/-- ITS FALSE NEIGHBOUR: 'it returns false'. Refute it at one input. -/
def recordTellsWrong : ChangeSpec := { name := "recordTells", fn := fun _ => fun
  | [d1, d2, d3] => { results := [.lit (.bool false)], args := [d1, d2, d3] }
  | _ => none }
def RecordTellsWrongFalsely : Prop := recordTellsRow.holds Try.pinned (OpenSpec.ofChange recordTellsWrong)

/-- 'waggonerlaw05.RecordScans': WHATEVER THE INPUT: true; the input reads as it did. -/
def recordScansSpec : ChangeSpec := { name := "recordScans", fn := fun _ => fun
  | [d] => { results := [.lit (.bool true)], args := [d] }
  | _ => none }
def recordScansRow : OpenClaim := { program := "ytcemlfkboifncaa", sum := "256bfe49fd1a8bb33ee8f67999635c40827d281ef2f7126e089bda9a7241d3d6", func := "waggoner/waggonerlaw05.RecordScans", spec := "recordScans", inPlace := ["internal/bytealg.IndexByteString", "internal/bytealg.IndexString"], unfollowed := true, recurses := true, named := ["internal/bytealg.MaxLen"], apart := false }
def RecordScansSaid : Prop := recordScansRow.holds Try.pinned (OpenSpec.ofChange recordScansSpec)

/-- ITS FALSE NEIGHBOUR: 'it returns false'. Refute it at one input. -/
def recordScansWrong : ChangeSpec := { name := "recordScans", fn := fun _ => fun
  | [d] => { results := [.lit (.bool false)], args := [d] }
  | _ => none }
def RecordScansWrongFalsely : Prop := recordScansRow.holds Try.pinned (OpenSpec.ofChange recordScansWrong)

/-- 'waggonerlaw05.RecordAll': WHATEVER THE INPUT: true; the input reads as it did. -/
def recordAllSpec : ChangeSpec := { name := "recordAll", fn := fun _ => fun
  | [d1, d2] => { results := [.lit (.bool true)], args := [d1, d2] }
  | _ => none }
def recordAllRow : OpenClaim := { program := "ytcemlfkboifncaa", sum := "256bfe49fd1a8bb33ee8f67999635c40827d281ef2f7126e089bda9a7241d3d6", func := "waggoner/waggonerlaw05.RecordAll", spec := "recordAll", inPlace := ["internal/bytealg.IndexByteString", "internal/bytealg.IndexString"], unfollowed := true, recurses := true, named := ["internal/bytealg.MaxLen"], apart := false }
def RecordAllSaid : Prop := recordAllRow.holds Try.pinned (OpenSpec.ofChange recordAllSpec)

/-- ITS FALSE NEIGHBOUR: 'it returns false'. Refute it at one input. -/
def recordAllWrong : ChangeSpec := { name := "recordAll", fn := fun _ => fun
  | [d1, d2] => { results := [.lit (.bool false)], args := [d1, d2] }
  | _ => none }
def RecordAllWrongFalsely : Prop := recordAllRow.holds Try.pinned (OpenSpec.ofChange recordAllWrong)

/-- 'waggonerlaw05.RecordApart': WHATEVER THE INPUT: true; the input reads as it did. -/
def recordApartSpec : ChangeSpec := { name := "recordApart", fn := fun _ => fun
  | [d1, d2] => { results := [.lit (.bool true)], args := [d1, d2] }
  | _ => none }
def recordApartRow : OpenClaim := { program := "ytcemlfkboifncaa", sum := "256bfe49fd1a8bb33ee8f67999635c40827d281ef2f7126e089bda9a7241d3d6", func := "waggoner/waggonerlaw05.RecordApart", spec := "recordApart", inPlace := ["internal/bytealg.IndexByteString", "internal/bytealg.IndexString"], unfollowed := true, recurses := true, named := ["internal/bytealg.MaxLen"], apart := false }
def RecordApartSaid : Prop := recordApartRow.holds Try.pinned (OpenSpec.ofChange recordApartSpec)

/-- ITS FALSE NEIGHBOUR: 'it returns false'. Refute it at one input. -/
def recordApartWrong : ChangeSpec := { name := "recordApart", fn := fun _ => fun
  | [d1, d2] => { results := [.lit (.bool false)], args := [d1, d2] }
  | _ => none }
def RecordApartWrongFalsely : Prop := recordApartRow.holds Try.pinned (OpenSpec.ofChange recordApartWrong)

/-- 'waggonerlaw05.RecordSizes': WHATEVER THE INPUT: true; the input reads as it did. -/
def recordSizesSpec : ChangeSpec := { name := "recordSizes", fn := fun _ => fun
  | [d1, d2] => { results := [.lit (.bool true)], args := [d1, d2] }
  | _ => none }
def recordSizesRow : OpenClaim := { program := "ytcemlfkboifncaa", sum := "256bfe49fd1a8bb33ee8f67999635c40827d281ef2f7126e089bda9a7241d3d6", func := "waggoner/waggonerlaw05.RecordSizes", spec := "recordSizes", inPlace := ["internal/bytealg.IndexByteString", "internal/bytealg.IndexString"], unfollowed := true, recurses := true, named := ["internal/bytealg.MaxLen"], apart := false }
def RecordSizesSaid : Prop := recordSizesRow.holds Try.pinned (OpenSpec.ofChange recordSizesSpec)

/-- ITS FALSE NEIGHBOUR: 'it returns false'. Refute it at one input. -/
def recordSizesWrong : ChangeSpec := { name := "recordSizes", fn := fun _ => fun
  | [d1, d2] => { results := [.lit (.bool false)], args := [d1, d2] }
  | _ => none }
def RecordSizesWrongFalsely : Prop := recordSizesRow.holds Try.pinned (OpenSpec.ofChange recordSizesWrong)

/-- 'waggonerlaw07.ExtentNames': WHATEVER THE INPUT: true; the input reads as it did. -/
def extentNamesSpec : ChangeSpec := { name := "extentNames", fn := fun _ => fun
  | [] => { results := [.lit (.bool true)], args := [] }
  | _ => none }
def extentNamesRow : OpenClaim := { program := "ytcemlfkboifncaa", sum := "256bfe49fd1a8bb33ee8f67999635c40827d281ef2f7126e089bda9a7241d3d6", func := "waggoner/waggonerlaw07.ExtentNames", spec := "extentNames", inPlace := ["internal/bytealg.IndexByteString", "internal/bytealg.IndexString"], unfollowed := true, recurses := true, named := ["internal/bytealg.MaxLen"], apart := false }
def ExtentNamesSaid : Prop := extentNamesRow.holds Try.pinned (OpenSpec.ofChange extentNamesSpec)

/-- ITS FALSE NEIGHBOUR: 'it returns false'. Refute it at one input. -/
def extentNamesWrong : ChangeSpec := { name := "extentNames", fn := fun _ => fun
  | [] => { results := [.lit (.bool false)], args := [] }
  | _ => none }
def ExtentNamesWrongFalsely : Prop := extentNamesRow.holds Try.pinned (OpenSpec.ofChange extentNamesWrong)

/-- 'waggonerlaw07.ExtentTells': WHATEVER THE INPUT: true; the input reads as it did. -/
def extentTellsSpec : ChangeSpec := { name := "extentTells", fn := fun _ => fun
  | [d1, d2, d3, d4] => { results := [.lit (.bool true)], args := [d1, d2, d3, d4] }
  | _ => none }
def extentTellsRow : OpenClaim := { program := "ytcemlfkboifncaa", sum := "256bfe49fd1a8bb33ee8f67999635c40827d281ef2f7126e089bda9a7241d3d6", func := "waggoner/waggonerlaw07.ExtentTells", spec := "extentTells", inPlace := ["internal/bytealg.IndexByteString", "internal/bytealg.IndexString"], unfollowed := true, recurses := true, named := ["internal/bytealg.MaxLen"], apart := false }
def ExtentTellsSaid : Prop := extentTellsRow.holds Try.pinned (OpenSpec.ofChange extentTellsSpec)

/-- ITS FALSE NEIGHBOUR: 'it returns false'. Refute it at one input. -/
def extentTellsWrong : ChangeSpec := { name := "extentTells", fn := fun _ => fun
  | [d1, d2, d3, d4] => { results := [.lit (.bool false)], args := [d1, d2, d3, d4] }
  | _ => none }
def ExtentTellsWrongFalsely : Prop := extentTellsRow.holds Try.pinned (OpenSpec.ofChange extentTellsWrong)

/-- 'waggonerlaw07.ExtentWrites': WHATEVER THE INPUT: true; the input reads as it did. -/
def extentWritesSpec : ChangeSpec := { name := "extentWrites", fn := fun _ => fun
  | [d1, d2] => { results := [.lit (.bool true)], args := [d1, d2] }
  | _ => none }
def extentWritesRow : OpenClaim := { program := "ytcemlfkboifncaa", sum := "256bfe49fd1a8bb33ee8f67999635c40827d281ef2f7126e089bda9a7241d3d6", func := "waggoner/waggonerlaw07.ExtentWrites", spec := "extentWrites", inPlace := ["internal/bytealg.IndexByteString", "internal/bytealg.IndexString"], unfollowed := true, recurses := true, named := ["internal/bytealg.MaxLen"], apart := false }
def ExtentWritesSaid : Prop := extentWritesRow.holds Try.pinned (OpenSpec.ofChange extentWritesSpec)

/-- ITS FALSE NEIGHBOUR: 'it returns false'. Refute it at one input. -/
def extentWritesWrong : ChangeSpec := { name := "extentWrites", fn := fun _ => fun
  | [d1, d2] => { results := [.lit (.bool false)], args := [d1, d2] }
  | _ => none }
def ExtentWritesWrongFalsely : Prop := extentWritesRow.holds Try.pinned (OpenSpec.ofChange extentWritesWrong)

/-- 'waggonerlaw07.ExtentBack': WHATEVER THE INPUT: true; the input reads as it did. -/
def extentBackSpec : ChangeSpec := { name := "extentBack", fn := fun _ => fun
  | [d1, d2] => { results := [.lit (.bool true)], args := [d1, d2] }
  | _ => none }
def extentBackRow : OpenClaim := { program := "ytcemlfkboifncaa", sum := "256bfe49fd1a8bb33ee8f67999635c40827d281ef2f7126e089bda9a7241d3d6", func := "waggoner/waggonerlaw07.ExtentBack", spec := "extentBack", inPlace := ["internal/bytealg.IndexByteString", "internal/bytealg.IndexString"], unfollowed := true, recurses := true, named := ["internal/bytealg.MaxLen"], apart := false }
def ExtentBackSaid : Prop := extentBackRow.holds Try.pinned (OpenSpec.ofChange extentBackSpec)

/-- ITS FALSE NEIGHBOUR: 'it returns false'. Refute it at one input. -/
def extentBackWrong : ChangeSpec := { name := "extentBack", fn := fun _ => fun
  | [d1, d2] => { results := [.lit (.bool false)], args := [d1, d2] }
  | _ => none }
def ExtentBackWrongFalsely : Prop := extentBackRow.holds Try.pinned (OpenSpec.ofChange extentBackWrong)

/-- 'waggonerlaw07.ExtentParts': WHATEVER THE INPUT: true; the input reads as it did. -/
def extentPartsSpec : ChangeSpec := { name := "extentParts", fn := fun _ => fun
  | [d1, d2, d3, d4] => { results := [.lit (.bool true)], args := [d1, d2, d3, d4] }
  | _ => none }
def extentPartsRow : OpenClaim := { program := "ytcemlfkboifncaa", sum := "256bfe49fd1a8bb33ee8f67999635c40827d281ef2f7126e089bda9a7241d3d6", func := "waggoner/waggonerlaw07.ExtentParts", spec := "extentParts", inPlace := ["internal/bytealg.IndexByteString", "internal/bytealg.IndexString"], unfollowed := true, recurses := true, named := ["internal/bytealg.MaxLen"], apart := false }
def ExtentPartsSaid : Prop := extentPartsRow.holds Try.pinned (OpenSpec.ofChange extentPartsSpec)

/-- ITS FALSE NEIGHBOUR: 'it returns false'. Refute it at one input. -/
def extentPartsWrong : ChangeSpec := { name := "extentParts", fn := fun _ => fun
  | [d1, d2, d3, d4] => { results := [.lit (.bool false)], args := [d1, d2, d3, d4] }
  | _ => none }
def ExtentPartsWrongFalsely : Prop := extentPartsRow.holds Try.pinned (OpenSpec.ofChange extentPartsWrong)

/-- 'waggonerlaw07.ExtentJoins': WHATEVER THE INPUT: true; the input reads as it did. -/
def extentJoinsSpec : ChangeSpec := { name := "extentJoins", fn := fun _ => fun
  | [d1, d2, d3] => { results := [.lit (.bool true)], args := [d1, d2, d3] }
  | _ => none }
def extentJoinsRow : OpenClaim := { program := "ytcemlfkboifncaa", sum := "256bfe49fd1a8bb33ee8f67999635c40827d281ef2f7126e089bda9a7241d3d6", func := "waggoner/waggonerlaw07.ExtentJoins", spec := "extentJoins", inPlace := ["internal/bytealg.IndexByteString", "internal/bytealg.IndexString"], unfollowed := true, recurses := true, named := ["internal/bytealg.MaxLen"], apart := false }
def ExtentJoinsSaid : Prop := extentJoinsRow.holds Try.pinned (OpenSpec.ofChange extentJoinsSpec)

/-- ITS FALSE NEIGHBOUR: 'it returns false'. Refute it at one input. -/
def extentJoinsWrong : ChangeSpec := { name := "extentJoins", fn := fun _ => fun
  | [d1, d2, d3] => { results := [.lit (.bool false)], args := [d1, d2, d3] }
  | _ => none }
def ExtentJoinsWrongFalsely : Prop := extentJoinsRow.holds Try.pinned (OpenSpec.ofChange extentJoinsWrong)

/-- 'waggonerlaw07.ExtentCuts': WHATEVER THE INPUT: true; the input reads as it did. -/
def extentCutsSpec : ChangeSpec := { name := "extentCuts", fn := fun _ => fun
  | [d1, d2, d3] => { results := [.lit (.bool true)], args := [d1, d2, d3] }
  | _ => none }
def extentCutsRow : OpenClaim := { program := "ytcemlfkboifncaa", sum := "256bfe49fd1a8bb33ee8f67999635c40827d281ef2f7126e089bda9a7241d3d6", func := "waggoner/waggonerlaw07.ExtentCuts", spec := "extentCuts", inPlace := ["internal/bytealg.IndexByteString", "internal/bytealg.IndexString"], unfollowed := true, recurses := true, named := ["internal/bytealg.MaxLen"], apart := false }
def ExtentCutsSaid : Prop := extentCutsRow.holds Try.pinned (OpenSpec.ofChange extentCutsSpec)

/-- ITS FALSE NEIGHBOUR: 'it returns false'. Refute it at one input. -/
def extentCutsWrong : ChangeSpec := { name := "extentCuts", fn := fun _ => fun
  | [d1, d2, d3] => { results := [.lit (.bool false)], args := [d1, d2, d3] }
  | _ => none }
def ExtentCutsWrongFalsely : Prop := extentCutsRow.holds Try.pinned (OpenSpec.ofChange extentCutsWrong)

/-- 'waggonerlaw07.ExtentSizes': WHATEVER THE INPUT: true; the input reads as it did. -/
def extentSizesSpec : ChangeSpec := { name := "extentSizes", fn := fun _ => fun
  | [d1, d2] => { results := [.lit (.bool true)], args := [d1, d2] }
  | _ => none }
def extentSizesRow : OpenClaim := { program := "ytcemlfkboifncaa", sum := "256bfe49fd1a8bb33ee8f67999635c40827d281ef2f7126e089bda9a7241d3d6", func := "waggoner/waggonerlaw07.ExtentSizes", spec := "extentSizes", inPlace := ["internal/bytealg.IndexByteString", "internal/bytealg.IndexString"], unfollowed := true, recurses := true, named := ["internal/bytealg.MaxLen"], apart := false }
def ExtentSizesSaid : Prop := extentSizesRow.holds Try.pinned (OpenSpec.ofChange extentSizesSpec)

/-- ITS FALSE NEIGHBOUR: 'it returns false'. Refute it at one input. -/
def extentSizesWrong : ChangeSpec := { name := "extentSizes", fn := fun _ => fun
  | [d1, d2] => { results := [.lit (.bool false)], args := [d1, d2] }
  | _ => none }
def ExtentSizesWrongFalsely : Prop := extentSizesRow.holds Try.pinned (OpenSpec.ofChange extentSizesWrong)

/-- 'waggonerlaw07.ExtentPlain': WHATEVER THE INPUT: true; the input reads as it did. -/
def extentPlainSpec : ChangeSpec := { name := "extentPlain", fn := fun _ => fun
  | [d1, d2] => { results := [.lit (.bool true)], args := [d1, d2] }
  | _ => none }
def extentPlainRow : OpenClaim := { program := "ytcemlfkboifncaa", sum := "256bfe49fd1a8bb33ee8f67999635c40827d281ef2f7126e089bda9a7241d3d6", func := "waggoner/waggonerlaw07.ExtentPlain", spec := "extentPlain", inPlace := ["internal/bytealg.IndexByteString", "internal/bytealg.IndexString"], unfollowed := true, recurses := true, named := ["internal/bytealg.MaxLen"], apart := false }
def ExtentPlainSaid : Prop := extentPlainRow.holds Try.pinned (OpenSpec.ofChange extentPlainSpec)

/-- ITS FALSE NEIGHBOUR: 'it returns false'. Refute it at one input. -/
def extentPlainWrong : ChangeSpec := { name := "extentPlain", fn := fun _ => fun
  | [d1, d2] => { results := [.lit (.bool false)], args := [d1, d2] }
  | _ => none }
def ExtentPlainWrongFalsely : Prop := extentPlainRow.holds Try.pinned (OpenSpec.ofChange extentPlainWrong)

/- THE SECOND FORM. 'bulk': how many values and letters a reading holds, each counted each time it is reached (what is shared counts as often as it is met; a slice's spare places count too). A statement '..UptoSaid' is the law's where the arguments, and the package variables that the reading takes, are together of bulk at most 1048576: NARROWER than '..Said'. Prove '..Said' where nothing that the law and all that it calls make is longer than what came in: it says more and counts as full. Else prove '..UptoSaid'. A law counts once. -/
mutual
def uptoBulk {H : Type} : DataW H → Nat
  | .lit (.string bytes) => bytes.length + 1
  | .lit _ => 1
  | .nil => 1
  | .ptr d => uptoBulk d + 1
  | .slice elems spare => uptoBulkAll elems + uptoBulkAll spare + 1
  | .agg parts => uptoBulkAll parts + 1
  | .iface _ d => uptoBulk d + 1
  | .map entries => uptoBulkEntries entries + 1
  | .held _ => 1
def uptoBulkAll {H : Type} : List (DataW H) → Nat
  | [] => 0
  | d :: r => uptoBulk d + uptoBulkAll r
def uptoBulkEntries {H : Type} : List (Lit × DataW H) → Nat
  | [] => 0
  | x :: r => uptoBulkEntry x + uptoBulkEntries r
def uptoBulkEntry {H : Type} : Lit × DataW H → Nat
  | (.string bytes, d) => bytes.length + uptoBulk d + 1
  | (_, d) => uptoBulk d + 1
 end
def uptoSmall : (H : Type) → List (DataW H) → Bool := fun _ ds => decide (uptoBulkAll ds ≤ 1048576)
def OpenSpec.upto (s : _root_.Go.ChangeSpec) : _root_.Go.OpenSpec := { _root_.Go.OpenSpec.ofChange s with cond := some uptoSmall }

/-- 'waggonerlaw05.RecordNames', WHERE WHAT IT READS IS OF BULK AT MOST 1048576: true; the input reads as it did. -/
def recordNamesUptoRow : OpenClaim := { program := "ytcemlfkboifncaa", sum := "256bfe49fd1a8bb33ee8f67999635c40827d281ef2f7126e089bda9a7241d3d6", func := "waggoner/waggonerlaw05.RecordNames", spec := "recordNames", inPlace := ["internal/bytealg.IndexByteString", "internal/bytealg.IndexString"], unfollowed := true, recurses := true, named := ["internal/bytealg.MaxLen"], apart := false, narrowed := true }
def RecordNamesUptoSaid : Prop := recordNamesUptoRow.holds Try.pinned (OpenSpec.upto recordNamesSpec)

/-- 'waggonerlaw05.RecordTells', WHERE WHAT IT READS IS OF BULK AT MOST 1048576: true; the input reads as it did. -/
def recordTellsUptoRow : OpenClaim := { program := "ytcemlfkboifncaa", sum := "256bfe49fd1a8bb33ee8f67999635c40827d281ef2f7126e089bda9a7241d3d6", func := "waggoner/waggonerlaw05.RecordTells", spec := "recordTells", inPlace := ["internal/bytealg.IndexByteString", "internal/bytealg.IndexString"], unfollowed := true, recurses := true, named := ["internal/bytealg.MaxLen"], apart := false, narrowed := true }
def RecordTellsUptoSaid : Prop := recordTellsUptoRow.holds Try.pinned (OpenSpec.upto recordTellsSpec)

/-- 'waggonerlaw05.RecordScans', WHERE WHAT IT READS IS OF BULK AT MOST 1048576: true; the input reads as it did. -/
def recordScansUptoRow : OpenClaim := { program := "ytcemlfkboifncaa", sum := "256bfe49fd1a8bb33ee8f67999635c40827d281ef2f7126e089bda9a7241d3d6", func := "waggoner/waggonerlaw05.RecordScans", spec := "recordScans", inPlace := ["internal/bytealg.IndexByteString", "internal/bytealg.IndexString"], unfollowed := true, recurses := true, named := ["internal/bytealg.MaxLen"], apart := false, narrowed := true }
def RecordScansUptoSaid : Prop := recordScansUptoRow.holds Try.pinned (OpenSpec.upto recordScansSpec)

/-- 'waggonerlaw05.RecordAll', WHERE WHAT IT READS IS OF BULK AT MOST 1048576: true; the input reads as it did. -/
def recordAllUptoRow : OpenClaim := { program := "ytcemlfkboifncaa", sum := "256bfe49fd1a8bb33ee8f67999635c40827d281ef2f7126e089bda9a7241d3d6", func := "waggoner/waggonerlaw05.RecordAll", spec := "recordAll", inPlace := ["internal/bytealg.IndexByteString", "internal/bytealg.IndexString"], unfollowed := true, recurses := true, named := ["internal/bytealg.MaxLen"], apart := false, narrowed := true }
def RecordAllUptoSaid : Prop := recordAllUptoRow.holds Try.pinned (OpenSpec.upto recordAllSpec)

/-- 'waggonerlaw05.RecordApart', WHERE WHAT IT READS IS OF BULK AT MOST 1048576: true; the input reads as it did. -/
def recordApartUptoRow : OpenClaim := { program := "ytcemlfkboifncaa", sum := "256bfe49fd1a8bb33ee8f67999635c40827d281ef2f7126e089bda9a7241d3d6", func := "waggoner/waggonerlaw05.RecordApart", spec := "recordApart", inPlace := ["internal/bytealg.IndexByteString", "internal/bytealg.IndexString"], unfollowed := true, recurses := true, named := ["internal/bytealg.MaxLen"], apart := false, narrowed := true }
def RecordApartUptoSaid : Prop := recordApartUptoRow.holds Try.pinned (OpenSpec.upto recordApartSpec)

/-- 'waggonerlaw05.RecordSizes', WHERE WHAT IT READS IS OF BULK AT MOST 1048576: true; the input reads as it did. -/
def recordSizesUptoRow : OpenClaim := { program := "ytcemlfkboifncaa", sum := "256bfe49fd1a8bb33ee8f67999635c40827d281ef2f7126e089bda9a7241d3d6", func := "waggoner/waggonerlaw05.RecordSizes", spec := "recordSizes", inPlace := ["internal/bytealg.IndexByteString", "internal/bytealg.IndexString"], unfollowed := true, recurses := true, named := ["internal/bytealg.MaxLen"], apart := false, narrowed := true }
def RecordSizesUptoSaid : Prop := recordSizesUptoRow.holds Try.pinned (OpenSpec.upto recordSizesSpec)

/-- 'waggonerlaw07.ExtentNames', WHERE WHAT IT READS IS OF BULK AT MOST 1048576: true; the input reads as it did. -/
def extentNamesUptoRow : OpenClaim := { program := "ytcemlfkboifncaa", sum := "256bfe49fd1a8bb33ee8f67999635c40827d281ef2f7126e089bda9a7241d3d6", func := "waggoner/waggonerlaw07.ExtentNames", spec := "extentNames", inPlace := ["internal/bytealg.IndexByteString", "internal/bytealg.IndexString"], unfollowed := true, recurses := true, named := ["internal/bytealg.MaxLen"], apart := false, narrowed := true }
def ExtentNamesUptoSaid : Prop := extentNamesUptoRow.holds Try.pinned (OpenSpec.upto extentNamesSpec)

/-- 'waggonerlaw07.ExtentTells', WHERE WHAT IT READS IS OF BULK AT MOST 1048576: true; the input reads as it did. -/
def extentTellsUptoRow : OpenClaim := { program := "ytcemlfkboifncaa", sum := "256bfe49fd1a8bb33ee8f67999635c40827d281ef2f7126e089bda9a7241d3d6", func := "waggoner/waggonerlaw07.ExtentTells", spec := "extentTells", inPlace := ["internal/bytealg.IndexByteString", "internal/bytealg.IndexString"], unfollowed := true, recurses := true, named := ["internal/bytealg.MaxLen"], apart := false, narrowed := true }
def ExtentTellsUptoSaid : Prop := extentTellsUptoRow.holds Try.pinned (OpenSpec.upto extentTellsSpec)

/-- 'waggonerlaw07.ExtentWrites', WHERE WHAT IT READS IS OF BULK AT MOST 1048576: true; the input reads as it did. -/
def extentWritesUptoRow : OpenClaim := { program := "ytcemlfkboifncaa", sum := "256bfe49fd1a8bb33ee8f67999635c40827d281ef2f7126e089bda9a7241d3d6", func := "waggoner/waggonerlaw07.ExtentWrites", spec := "extentWrites", inPlace := ["internal/bytealg.IndexByteString", "internal/bytealg.IndexString"], unfollowed := true, recurses := true, named := ["internal/bytealg.MaxLen"], apart := false, narrowed := true }
def ExtentWritesUptoSaid : Prop := extentWritesUptoRow.holds Try.pinned (OpenSpec.upto extentWritesSpec)

/-- 'waggonerlaw07.ExtentBack', WHERE WHAT IT READS IS OF BULK AT MOST 1048576: true; the input reads as it did. -/
def extentBackUptoRow : OpenClaim := { program := "ytcemlfkboifncaa", sum := "256bfe49fd1a8bb33ee8f67999635c40827d281ef2f7126e089bda9a7241d3d6", func := "waggoner/waggonerlaw07.ExtentBack", spec := "extentBack", inPlace := ["internal/bytealg.IndexByteString", "internal/bytealg.IndexString"], unfollowed := true, recurses := true, named := ["internal/bytealg.MaxLen"], apart := false, narrowed := true }
def ExtentBackUptoSaid : Prop := extentBackUptoRow.holds Try.pinned (OpenSpec.upto extentBackSpec)

/-- 'waggonerlaw07.ExtentParts', WHERE WHAT IT READS IS OF BULK AT MOST 1048576: true; the input reads as it did. -/
def extentPartsUptoRow : OpenClaim := { program := "ytcemlfkboifncaa", sum := "256bfe49fd1a8bb33ee8f67999635c40827d281ef2f7126e089bda9a7241d3d6", func := "waggoner/waggonerlaw07.ExtentParts", spec := "extentParts", inPlace := ["internal/bytealg.IndexByteString", "internal/bytealg.IndexString"], unfollowed := true, recurses := true, named := ["internal/bytealg.MaxLen"], apart := false, narrowed := true }
def ExtentPartsUptoSaid : Prop := extentPartsUptoRow.holds Try.pinned (OpenSpec.upto extentPartsSpec)

/-- 'waggonerlaw07.ExtentJoins', WHERE WHAT IT READS IS OF BULK AT MOST 1048576: true; the input reads as it did. -/
def extentJoinsUptoRow : OpenClaim := { program := "ytcemlfkboifncaa", sum := "256bfe49fd1a8bb33ee8f67999635c40827d281ef2f7126e089bda9a7241d3d6", func := "waggoner/waggonerlaw07.ExtentJoins", spec := "extentJoins", inPlace := ["internal/bytealg.IndexByteString", "internal/bytealg.IndexString"], unfollowed := true, recurses := true, named := ["internal/bytealg.MaxLen"], apart := false, narrowed := true }
def ExtentJoinsUptoSaid : Prop := extentJoinsUptoRow.holds Try.pinned (OpenSpec.upto extentJoinsSpec)

/-- 'waggonerlaw07.ExtentCuts', WHERE WHAT IT READS IS OF BULK AT MOST 1048576: true; the input reads as it did. -/
def extentCutsUptoRow : OpenClaim := { program := "ytcemlfkboifncaa", sum := "256bfe49fd1a8bb33ee8f67999635c40827d281ef2f7126e089bda9a7241d3d6", func := "waggoner/waggonerlaw07.ExtentCuts", spec := "extentCuts", inPlace := ["internal/bytealg.IndexByteString", "internal/bytealg.IndexString"], unfollowed := true, recurses := true, named := ["internal/bytealg.MaxLen"], apart := false, narrowed := true }
def ExtentCutsUptoSaid : Prop := extentCutsUptoRow.holds Try.pinned (OpenSpec.upto extentCutsSpec)

/-- 'waggonerlaw07.ExtentSizes', WHERE WHAT IT READS IS OF BULK AT MOST 1048576: true; the input reads as it did. -/
def extentSizesUptoRow : OpenClaim := { program := "ytcemlfkboifncaa", sum := "256bfe49fd1a8bb33ee8f67999635c40827d281ef2f7126e089bda9a7241d3d6", func := "waggoner/waggonerlaw07.ExtentSizes", spec := "extentSizes", inPlace := ["internal/bytealg.IndexByteString", "internal/bytealg.IndexString"], unfollowed := true, recurses := true, named := ["internal/bytealg.MaxLen"], apart := false, narrowed := true }
def ExtentSizesUptoSaid : Prop := extentSizesUptoRow.holds Try.pinned (OpenSpec.upto extentSizesSpec)

/-- 'waggonerlaw07.ExtentPlain', WHERE WHAT IT READS IS OF BULK AT MOST 1048576: true; the input reads as it did. -/
def extentPlainUptoRow : OpenClaim := { program := "ytcemlfkboifncaa", sum := "256bfe49fd1a8bb33ee8f67999635c40827d281ef2f7126e089bda9a7241d3d6", func := "waggoner/waggonerlaw07.ExtentPlain", spec := "extentPlain", inPlace := ["internal/bytealg.IndexByteString", "internal/bytealg.IndexString"], unfollowed := true, recurses := true, named := ["internal/bytealg.MaxLen"], apart := false, narrowed := true }
def ExtentPlainUptoSaid : Prop := extentPlainUptoRow.holds Try.pinned (OpenSpec.upto extentPlainSpec)

end Rows
end Go.Proofs.Ytcemlfkboifncaa
