/-
  No cell of these rows narrows 'for every input' (looked for: loops, veiled, ifaces, maps, wideKeys, modest, calm, conditions, laid).
  DERIVED. THE GIVEN ROWS OF THIS SEAT. 13 by the template 'for every input the law returns true; each argument reads behind the call as it read before'; 0 by the template 'total and deterministic' (their statements: YtiaoehjldbnpkaaTotals.lean).
  GIVEN WITH THE SEED: the statements are not yours to turn. If you find one false, say at which input.
  Laid BY PROGRAM, IN A SANDBOX (cutbox-rows.mjs): the forced cells as the released guide's own fill.sh prints them over the translation e5affaabcdd00008… (all of the seat's roots in one cut). By AI agents, Wed Nov 11 2026. No macro, syntax, notation, axiom, sorry.
-/
import Derived.Test.YtiaoehjldbnpkaaChecked
import GoSem.Claim
import GoSem.ClaimJoined
import GoSem.ClaimMapViews
import Derived.JoinedTies
import Derived.KernelRfl
namespace Go.Proofs.Ytiaoehjldbnpkaa
/- THE CELL 'sum', in the pinned program and in every row, IS THE sha256 OF THE DUMP (.gsa) THAT YtiaoehjldbnpkaaProg.lean LOADS. Nothing in Lean hashes anything: it is a label: what it is worth is what the hold of that sum in a sandbox is worth. -/
noncomputable def Try.pinned : Pinned := { name := "ytiaoehjldbnpkaa", sum := "e5affaabcdd00008d4b4cc01fd21b53324b75e7db80f4d52928f6ce519a541f2", checked := Try.checked }
namespace Rows
def none {H : Type} : Left H := { results := [], args := [] }

/-- 'waggonerlaw02.CrcTells': WHATEVER THE INPUT: true; the input reads as it did. -/
def crcTellsSpec : ChangeSpec := { name := "crcTells", fn := fun _ => fun
  | [d1, d2, d3, d4] => { results := [.lit (.bool true)], args := [d1, d2, d3, d4] }
  | _ => none }
def crcTellsRow : OpenClaim := { program := "ytiaoehjldbnpkaa", sum := "e5affaabcdd00008d4b4cc01fd21b53324b75e7db80f4d52928f6ce519a541f2", func := "waggoner/waggonerlaw02.CrcTells", spec := "crcTells", apart := false }
def CrcTellsSaid : Prop := crcTellsRow.holds Try.pinned (OpenSpec.ofChange crcTellsSpec)

/-- ITS FALSE NEIGHBOUR: 'it returns false'. Refute it at one input. -/
def crcTellsWrong : ChangeSpec := { name := "crcTells", fn := fun _ => fun
  | [d1, d2, d3, d4] => { results := [.lit (.bool false)], args := [d1, d2, d3, d4] }
  | _ => none }
def CrcTellsWrongFalsely : Prop := crcTellsRow.holds Try.pinned (OpenSpec.ofChange crcTellsWrong)

/-- 'waggonerlaw02.CrcGoes': WHATEVER THE INPUT: true; the input reads as it did. -/
def crcGoesSpec : ChangeSpec := { name := "crcGoes", fn := fun _ => fun
  | [d1, d2, d3] => { results := [.lit (.bool true)], args := [d1, d2, d3] }
  | _ => none }
def crcGoesRow : OpenClaim := { program := "ytiaoehjldbnpkaa", sum := "e5affaabcdd00008d4b4cc01fd21b53324b75e7db80f4d52928f6ce519a541f2", func := "waggoner/waggonerlaw02.CrcGoes", spec := "crcGoes", apart := false }
def CrcGoesSaid : Prop := crcGoesRow.holds Try.pinned (OpenSpec.ofChange crcGoesSpec)

/-- ITS FALSE NEIGHBOUR: 'it returns false'. Refute it at one input. -/
def crcGoesWrong : ChangeSpec := { name := "crcGoes", fn := fun _ => fun
  | [d1, d2, d3] => { results := [.lit (.bool false)], args := [d1, d2, d3] }
  | _ => none }
def CrcGoesWrongFalsely : Prop := crcGoesRow.holds Try.pinned (OpenSpec.ofChange crcGoesWrong)

/-- 'waggonerlaw02.CrcBurst': WHATEVER THE INPUT: true; the input reads as it did. -/
def crcBurstSpec : ChangeSpec := { name := "crcBurst", fn := fun _ => fun
  | [d1, d2, d3] => { results := [.lit (.bool true)], args := [d1, d2, d3] }
  | _ => none }
def crcBurstRow : OpenClaim := { program := "ytiaoehjldbnpkaa", sum := "e5affaabcdd00008d4b4cc01fd21b53324b75e7db80f4d52928f6ce519a541f2", func := "waggoner/waggonerlaw02.CrcBurst", spec := "crcBurst", apart := false }
def CrcBurstSaid : Prop := crcBurstRow.holds Try.pinned (OpenSpec.ofChange crcBurstSpec)

/-- ITS FALSE NEIGHBOUR: 'it returns false'. Refute it at one input. -/
def crcBurstWrong : ChangeSpec := { name := "crcBurst", fn := fun _ => fun
  | [d1, d2, d3] => { results := [.lit (.bool false)], args := [d1, d2, d3] }
  | _ => none }
def CrcBurstWrongFalsely : Prop := crcBurstRow.holds Try.pinned (OpenSpec.ofChange crcBurstWrong)

/-- 'waggonerlaw02.CrcLinear': WHATEVER THE INPUT: true; the input reads as it did. -/
def crcLinearSpec : ChangeSpec := { name := "crcLinear", fn := fun _ => fun
  | [d1, d2, d3] => { results := [.lit (.bool true)], args := [d1, d2, d3] }
  | _ => none }
def crcLinearRow : OpenClaim := { program := "ytiaoehjldbnpkaa", sum := "e5affaabcdd00008d4b4cc01fd21b53324b75e7db80f4d52928f6ce519a541f2", func := "waggoner/waggonerlaw02.CrcLinear", spec := "crcLinear", apart := false }
def CrcLinearSaid : Prop := crcLinearRow.holds Try.pinned (OpenSpec.ofChange crcLinearSpec)

/-- ITS FALSE NEIGHBOUR: 'it returns false'. Refute it at one input. -/
def crcLinearWrong : ChangeSpec := { name := "crcLinear", fn := fun _ => fun
  | [d1, d2, d3] => { results := [.lit (.bool false)], args := [d1, d2, d3] }
  | _ => none }
def CrcLinearWrongFalsely : Prop := crcLinearRow.holds Try.pinned (OpenSpec.ofChange crcLinearWrong)

/-- 'waggonerlaw02.CrcSeals': WHATEVER THE INPUT: true; the input reads as it did. -/
def crcSealsSpec : ChangeSpec := { name := "crcSeals", fn := fun _ => fun
  | [d1, d2, d3] => { results := [.lit (.bool true)], args := [d1, d2, d3] }
  | _ => none }
def crcSealsRow : OpenClaim := { program := "ytiaoehjldbnpkaa", sum := "e5affaabcdd00008d4b4cc01fd21b53324b75e7db80f4d52928f6ce519a541f2", func := "waggoner/waggonerlaw02.CrcSeals", spec := "crcSeals", apart := false }
def CrcSealsSaid : Prop := crcSealsRow.holds Try.pinned (OpenSpec.ofChange crcSealsSpec)

/-- ITS FALSE NEIGHBOUR: 'it returns false'. Refute it at one input. -/
def crcSealsWrong : ChangeSpec := { name := "crcSeals", fn := fun _ => fun
  | [d1, d2, d3] => { results := [.lit (.bool false)], args := [d1, d2, d3] }
  | _ => none }
def CrcSealsWrongFalsely : Prop := crcSealsRow.holds Try.pinned (OpenSpec.ofChange crcSealsWrong)

/-- 'waggonerlaw02.CrcNone': WHATEVER THE INPUT: true; the input reads as it did. -/
def crcNoneSpec : ChangeSpec := { name := "crcNone", fn := fun _ => fun
  | [d1, d2, d3] => { results := [.lit (.bool true)], args := [d1, d2, d3] }
  | _ => none }
def crcNoneRow : OpenClaim := { program := "ytiaoehjldbnpkaa", sum := "e5affaabcdd00008d4b4cc01fd21b53324b75e7db80f4d52928f6ce519a541f2", func := "waggoner/waggonerlaw02.CrcNone", spec := "crcNone", apart := false }
def CrcNoneSaid : Prop := crcNoneRow.holds Try.pinned (OpenSpec.ofChange crcNoneSpec)

/-- ITS FALSE NEIGHBOUR: 'it returns false'. Refute it at one input. -/
def crcNoneWrong : ChangeSpec := { name := "crcNone", fn := fun _ => fun
  | [d1, d2, d3] => { results := [.lit (.bool false)], args := [d1, d2, d3] }
  | _ => none }
def CrcNoneWrongFalsely : Prop := crcNoneRow.holds Try.pinned (OpenSpec.ofChange crcNoneWrong)

/-- 'waggonerlaw01.LePuts': WHATEVER THE INPUT: true; the input reads as it did. -/
def lePutsSpec : ChangeSpec := { name := "lePuts", fn := fun _ => fun
  | [d1, d2, d3] => { results := [.lit (.bool true)], args := [d1, d2, d3] }
  | _ => none }
def lePutsRow : OpenClaim := { program := "ytiaoehjldbnpkaa", sum := "e5affaabcdd00008d4b4cc01fd21b53324b75e7db80f4d52928f6ce519a541f2", func := "waggoner/waggonerlaw01.LePuts", spec := "lePuts", inPlace := ["internal/bytealg.IndexByteString", "internal/bytealg.IndexString"], named := ["internal/bytealg.MaxLen"], apart := false }
def LePutsSaid : Prop := lePutsRow.holds Try.pinned (OpenSpec.ofChange lePutsSpec)

/-- ITS FALSE NEIGHBOUR: 'it returns false'. Refute it at one input. -/
def lePutsWrong : ChangeSpec := { name := "lePuts", fn := fun _ => fun
  | [d1, d2, d3] => { results := [.lit (.bool false)], args := [d1, d2, d3] }
  | _ => none }
def LePutsWrongFalsely : Prop := lePutsRow.holds Try.pinned (OpenSpec.ofChange lePutsWrong)

/-- 'waggonerlaw01.LePacks': WHATEVER THE INPUT: true; the input reads as it did. -/
def lePacksSpec : ChangeSpec := { name := "lePacks", fn := fun _ => fun
  | [d1, d2, d3] => { results := [.lit (.bool true)], args := [d1, d2, d3] }
  | _ => none }
def lePacksRow : OpenClaim := { program := "ytiaoehjldbnpkaa", sum := "e5affaabcdd00008d4b4cc01fd21b53324b75e7db80f4d52928f6ce519a541f2", func := "waggoner/waggonerlaw01.LePacks", spec := "lePacks", inPlace := ["internal/bytealg.IndexByteString", "internal/bytealg.IndexString"], named := ["internal/bytealg.MaxLen"], apart := false }
def LePacksSaid : Prop := lePacksRow.holds Try.pinned (OpenSpec.ofChange lePacksSpec)

/-- ITS FALSE NEIGHBOUR: 'it returns false'. Refute it at one input. -/
def lePacksWrong : ChangeSpec := { name := "lePacks", fn := fun _ => fun
  | [d1, d2, d3] => { results := [.lit (.bool false)], args := [d1, d2, d3] }
  | _ => none }
def LePacksWrongFalsely : Prop := lePacksRow.holds Try.pinned (OpenSpec.ofChange lePacksWrong)

/-- 'waggonerlaw01.LeBack': WHATEVER THE INPUT: true; the input reads as it did. -/
def leBackSpec : ChangeSpec := { name := "leBack", fn := fun _ => fun
  | [d1, d2, d3, d4, d5] => { results := [.lit (.bool true)], args := [d1, d2, d3, d4, d5] }
  | _ => none }
def leBackRow : OpenClaim := { program := "ytiaoehjldbnpkaa", sum := "e5affaabcdd00008d4b4cc01fd21b53324b75e7db80f4d52928f6ce519a541f2", func := "waggoner/waggonerlaw01.LeBack", spec := "leBack", inPlace := ["internal/bytealg.IndexByteString", "internal/bytealg.IndexString"], named := ["internal/bytealg.MaxLen"], apart := false }
def LeBackSaid : Prop := leBackRow.holds Try.pinned (OpenSpec.ofChange leBackSpec)

/-- ITS FALSE NEIGHBOUR: 'it returns false'. Refute it at one input. -/
def leBackWrong : ChangeSpec := { name := "leBack", fn := fun _ => fun
  | [d1, d2, d3, d4, d5] => { results := [.lit (.bool false)], args := [d1, d2, d3, d4, d5] }
  | _ => none }
def LeBackWrongFalsely : Prop := leBackRow.holds Try.pinned (OpenSpec.ofChange leBackWrong)

/-- 'waggonerlaw01.LeApart': WHATEVER THE INPUT: true; the input reads as it did. -/
def leApartSpec : ChangeSpec := { name := "leApart", fn := fun _ => fun
  | [d1, d2] => { results := [.lit (.bool true)], args := [d1, d2] }
  | _ => none }
def leApartRow : OpenClaim := { program := "ytiaoehjldbnpkaa", sum := "e5affaabcdd00008d4b4cc01fd21b53324b75e7db80f4d52928f6ce519a541f2", func := "waggoner/waggonerlaw01.LeApart", spec := "leApart", inPlace := ["internal/bytealg.IndexByteString", "internal/bytealg.IndexString"], named := ["internal/bytealg.MaxLen"], apart := false }
def LeApartSaid : Prop := leApartRow.holds Try.pinned (OpenSpec.ofChange leApartSpec)

/-- ITS FALSE NEIGHBOUR: 'it returns false'. Refute it at one input. -/
def leApartWrong : ChangeSpec := { name := "leApart", fn := fun _ => fun
  | [d1, d2] => { results := [.lit (.bool false)], args := [d1, d2] }
  | _ => none }
def LeApartWrongFalsely : Prop := leApartRow.holds Try.pinned (OpenSpec.ofChange leApartWrong)

/-- 'waggonerlaw01.LeForms': WHATEVER THE INPUT: true; the input reads as it did. -/
def leFormsSpec : ChangeSpec := { name := "leForms", fn := fun _ => fun
  | [d1, d2, d3, d4] => { results := [.lit (.bool true)], args := [d1, d2, d3, d4] }
  | _ => none }
def leFormsRow : OpenClaim := { program := "ytiaoehjldbnpkaa", sum := "e5affaabcdd00008d4b4cc01fd21b53324b75e7db80f4d52928f6ce519a541f2", func := "waggoner/waggonerlaw01.LeForms", spec := "leForms", inPlace := ["internal/bytealg.IndexByteString", "internal/bytealg.IndexString"], named := ["internal/bytealg.MaxLen"], apart := false }
def LeFormsSaid : Prop := leFormsRow.holds Try.pinned (OpenSpec.ofChange leFormsSpec)

/-- ITS FALSE NEIGHBOUR: 'it returns false'. Refute it at one input. -/
def leFormsWrong : ChangeSpec := { name := "leForms", fn := fun _ => fun
  | [d1, d2, d3, d4] => { results := [.lit (.bool false)], args := [d1, d2, d3, d4] }
  | _ => none }
def LeFormsWrongFalsely : Prop := leFormsRow.holds Try.pinned (OpenSpec.ofChange leFormsWrong)

/-- 'waggonerlaw01.LeWide': WHATEVER THE INPUT: true; the input reads as it did. -/
def leWideSpec : ChangeSpec := { name := "leWide", fn := fun _ => fun
  | [d1, d2] => { results := [.lit (.bool true)], args := [d1, d2] }
  | _ => none }
def leWideRow : OpenClaim := { program := "ytiaoehjldbnpkaa", sum := "e5affaabcdd00008d4b4cc01fd21b53324b75e7db80f4d52928f6ce519a541f2", func := "waggoner/waggonerlaw01.LeWide", spec := "leWide", inPlace := ["internal/bytealg.IndexByteString", "internal/bytealg.IndexString"], named := ["internal/bytealg.MaxLen"], apart := false }
def LeWideSaid : Prop := leWideRow.holds Try.pinned (OpenSpec.ofChange leWideSpec)

/-- ITS FALSE NEIGHBOUR: 'it returns false'. Refute it at one input. -/
def leWideWrong : ChangeSpec := { name := "leWide", fn := fun _ => fun
  | [d1, d2] => { results := [.lit (.bool false)], args := [d1, d2] }
  | _ => none }
def LeWideWrongFalsely : Prop := leWideRow.holds Try.pinned (OpenSpec.ofChange leWideWrong)

/-- 'waggonerlaw01.LeMany': WHATEVER THE INPUT: true; the input reads as it did. -/
def leManySpec : ChangeSpec := { name := "leMany", fn := fun _ => fun
  | [d] => { results := [.lit (.bool true)], args := [d] }
  | _ => none }
def leManyRow : OpenClaim := { program := "ytiaoehjldbnpkaa", sum := "e5affaabcdd00008d4b4cc01fd21b53324b75e7db80f4d52928f6ce519a541f2", func := "waggoner/waggonerlaw01.LeMany", spec := "leMany", inPlace := ["internal/bytealg.IndexByteString", "internal/bytealg.IndexString"], named := ["internal/bytealg.MaxLen"], apart := false }
def LeManySaid : Prop := leManyRow.holds Try.pinned (OpenSpec.ofChange leManySpec)

/-- ITS FALSE NEIGHBOUR: 'it returns false'. Refute it at one input. -/
def leManyWrong : ChangeSpec := { name := "leMany", fn := fun _ => fun
  | [d] => { results := [.lit (.bool false)], args := [d] }
  | _ => none }
def LeManyWrongFalsely : Prop := leManyRow.holds Try.pinned (OpenSpec.ofChange leManyWrong)

/- THE SECOND FORM. 'bulk': how many values and letters a reading holds, each counted each time it is reached (what is shared counts as often as it is met; a slice's spare places count too). A statement '..UptoSaid' is the law's where the arguments, and the package variables that the reading takes, are together of bulk at most 1048576: NARROWER than '..Said'. Prove '..Said' where nothing that the law and all that it calls make is longer than what came in: it says more and counts as full. Else prove '..UptoSaid'. A law counts once. -/
mutual
def uptoBulk {H : Type} : DataW H → Nat
  | .lit (.string bytes) => bytes.length + 1
  | .lit _ => 1
  | .nil => 1
  | .ptr d => uptoBulk d + 1
  | .slice elems spare => uptoBulkAll elems + uptoBulkAll spare + 1
  | .agg parts => uptoBulkAll parts + 1
  | .iface _ d => uptoBulk d + 1
  | .map entries => uptoBulkEntries entries + 1
  | .held _ => 1
def uptoBulkAll {H : Type} : List (DataW H) → Nat
  | [] => 0
  | d :: r => uptoBulk d + uptoBulkAll r
def uptoBulkEntries {H : Type} : List (Lit × DataW H) → Nat
  | [] => 0
  | x :: r => uptoBulkEntry x + uptoBulkEntries r
def uptoBulkEntry {H : Type} : Lit × DataW H → Nat
  | (.string bytes, d) => bytes.length + uptoBulk d + 1
  | (_, d) => uptoBulk d + 1
 end
def uptoSmall : (H : Type) → List (DataW H) → Bool := fun _ ds => decide (uptoBulkAll ds ≤ 1048576)
def OpenSpec.upto (s : _root_.Go.ChangeSpec) : _root_.Go.OpenSpec := { _root_.Go.OpenSpec.ofChange s with cond := some uptoSmall }

/-- 'waggonerlaw02.CrcTells', WHERE WHAT IT READS IS OF BULK AT MOST 1048576: true; the input reads as it did. -/
def crcTellsUptoRow : OpenClaim := { program := "ytiaoehjldbnpkaa", sum := "e5affaabcdd00008d4b4cc01fd21b53324b75e7db80f4d52928f6ce519a541f2", func := "waggoner/waggonerlaw02.CrcTells", spec := "crcTells", apart := false, narrowed := true }
def CrcTellsUptoSaid : Prop := crcTellsUptoRow.holds Try.pinned (OpenSpec.upto crcTellsSpec)

/-- 'waggonerlaw02.CrcGoes', WHERE WHAT IT READS IS OF BULK AT MOST 1048576: true; the input reads as it did. -/
def crcGoesUptoRow : OpenClaim := { program := "ytiaoehjldbnpkaa", sum := "e5affaabcdd00008d4b4cc01fd21b53324b75e7db80f4d52928f6ce519a541f2", func := "waggoner/waggonerlaw02.CrcGoes", spec := "crcGoes", apart := false, narrowed := true }
def CrcGoesUptoSaid : Prop := crcGoesUptoRow.holds Try.pinned (OpenSpec.upto crcGoesSpec)

/-- 'waggonerlaw02.CrcBurst', WHERE WHAT IT READS IS OF BULK AT MOST 1048576: true; the input reads as it did. -/
def crcBurstUptoRow : OpenClaim := { program := "ytiaoehjldbnpkaa", sum := "e5affaabcdd00008d4b4cc01fd21b53324b75e7db80f4d52928f6ce519a541f2", func := "waggoner/waggonerlaw02.CrcBurst", spec := "crcBurst", apart := false, narrowed := true }
def CrcBurstUptoSaid : Prop := crcBurstUptoRow.holds Try.pinned (OpenSpec.upto crcBurstSpec)

/-- 'waggonerlaw02.CrcLinear', WHERE WHAT IT READS IS OF BULK AT MOST 1048576: true; the input reads as it did. -/
def crcLinearUptoRow : OpenClaim := { program := "ytiaoehjldbnpkaa", sum := "e5affaabcdd00008d4b4cc01fd21b53324b75e7db80f4d52928f6ce519a541f2", func := "waggoner/waggonerlaw02.CrcLinear", spec := "crcLinear", apart := false, narrowed := true }
def CrcLinearUptoSaid : Prop := crcLinearUptoRow.holds Try.pinned (OpenSpec.upto crcLinearSpec)

/-- 'waggonerlaw02.CrcSeals', WHERE WHAT IT READS IS OF BULK AT MOST 1048576: true; the input reads as it did. -/
def crcSealsUptoRow : OpenClaim := { program := "ytiaoehjldbnpkaa", sum := "e5affaabcdd00008d4b4cc01fd21b53324b75e7db80f4d52928f6ce519a541f2", func := "waggoner/waggonerlaw02.CrcSeals", spec := "crcSeals", apart := false, narrowed := true }
def CrcSealsUptoSaid : Prop := crcSealsUptoRow.holds Try.pinned (OpenSpec.upto crcSealsSpec)

/-- 'waggonerlaw02.CrcNone', WHERE WHAT IT READS IS OF BULK AT MOST 1048576: true; the input reads as it did. -/
def crcNoneUptoRow : OpenClaim := { program := "ytiaoehjldbnpkaa", sum := "e5affaabcdd00008d4b4cc01fd21b53324b75e7db80f4d52928f6ce519a541f2", func := "waggoner/waggonerlaw02.CrcNone", spec := "crcNone", apart := false, narrowed := true }
def CrcNoneUptoSaid : Prop := crcNoneUptoRow.holds Try.pinned (OpenSpec.upto crcNoneSpec)

/-- 'waggonerlaw01.LePuts', WHERE WHAT IT READS IS OF BULK AT MOST 1048576: true; the input reads as it did. -/
def lePutsUptoRow : OpenClaim := { program := "ytiaoehjldbnpkaa", sum := "e5affaabcdd00008d4b4cc01fd21b53324b75e7db80f4d52928f6ce519a541f2", func := "waggoner/waggonerlaw01.LePuts", spec := "lePuts", inPlace := ["internal/bytealg.IndexByteString", "internal/bytealg.IndexString"], named := ["internal/bytealg.MaxLen"], apart := false, narrowed := true }
def LePutsUptoSaid : Prop := lePutsUptoRow.holds Try.pinned (OpenSpec.upto lePutsSpec)

/-- 'waggonerlaw01.LePacks', WHERE WHAT IT READS IS OF BULK AT MOST 1048576: true; the input reads as it did. -/
def lePacksUptoRow : OpenClaim := { program := "ytiaoehjldbnpkaa", sum := "e5affaabcdd00008d4b4cc01fd21b53324b75e7db80f4d52928f6ce519a541f2", func := "waggoner/waggonerlaw01.LePacks", spec := "lePacks", inPlace := ["internal/bytealg.IndexByteString", "internal/bytealg.IndexString"], named := ["internal/bytealg.MaxLen"], apart := false, narrowed := true }
def LePacksUptoSaid : Prop := lePacksUptoRow.holds Try.pinned (OpenSpec.upto lePacksSpec)

/-- 'waggonerlaw01.LeBack', WHERE WHAT IT READS IS OF BULK AT MOST 1048576: true; the input reads as it did. -/
def leBackUptoRow : OpenClaim := { program := "ytiaoehjldbnpkaa", sum := "e5affaabcdd00008d4b4cc01fd21b53324b75e7db80f4d52928f6ce519a541f2", func := "waggoner/waggonerlaw01.LeBack", spec := "leBack", inPlace := ["internal/bytealg.IndexByteString", "internal/bytealg.IndexString"], named := ["internal/bytealg.MaxLen"], apart := false, narrowed := true }
def LeBackUptoSaid : Prop := leBackUptoRow.holds Try.pinned (OpenSpec.upto leBackSpec)

/-- 'waggonerlaw01.LeApart', WHERE WHAT IT READS IS OF BULK AT MOST 1048576: true; the input reads as it did. -/
def leApartUptoRow : OpenClaim := { program := "ytiaoehjldbnpkaa", sum := "e5affaabcdd00008d4b4cc01fd21b53324b75e7db80f4d52928f6ce519a541f2", func := "waggoner/waggonerlaw01.LeApart", spec := "leApart", inPlace := ["internal/bytealg.IndexByteString", "internal/bytealg.IndexString"], named := ["internal/bytealg.MaxLen"], apart := false, narrowed := true }
def LeApartUptoSaid : Prop := leApartUptoRow.holds Try.pinned (OpenSpec.upto leApartSpec)

/-- 'waggonerlaw01.LeForms', WHERE WHAT IT READS IS OF BULK AT MOST 1048576: true; the input reads as it did. -/
def leFormsUptoRow : OpenClaim := { program := "ytiaoehjldbnpkaa", sum := "e5affaabcdd00008d4b4cc01fd21b53324b75e7db80f4d52928f6ce519a541f2", func := "waggoner/waggonerlaw01.LeForms", spec := "leForms", inPlace := ["internal/bytealg.IndexByteString", "internal/bytealg.IndexString"], named := ["internal/bytealg.MaxLen"], apart := false, narrowed := true }
def LeFormsUptoSaid : Prop := leFormsUptoRow.holds Try.pinned (OpenSpec.upto leFormsSpec)

/-- 'waggonerlaw01.LeWide', WHERE WHAT IT READS IS OF BULK AT MOST 1048576: true; the input reads as it did. -/
def leWideUptoRow : OpenClaim := { program := "ytiaoehjldbnpkaa", sum := "e5affaabcdd00008d4b4cc01fd21b53324b75e7db80f4d52928f6ce519a541f2", func := "waggoner/waggonerlaw01.LeWide", spec := "leWide", inPlace := ["internal/bytealg.IndexByteString", "internal/bytealg.IndexString"], named := ["internal/bytealg.MaxLen"], apart := false, narrowed := true }
def LeWideUptoSaid : Prop := leWideUptoRow.holds Try.pinned (OpenSpec.upto leWideSpec)

/-- 'waggonerlaw01.LeMany', WHERE WHAT IT READS IS OF BULK AT MOST 1048576: true; the input reads as it did. -/
def leManyUptoRow : OpenClaim := { program := "ytiaoehjldbnpkaa", sum := "e5affaabcdd00008d4b4cc01fd21b53324b75e7db80f4d52928f6ce519a541f2", func := "waggoner/waggonerlaw01.LeMany", spec := "leMany", inPlace := ["internal/bytealg.IndexByteString", "internal/bytealg.IndexString"], named := ["internal/bytealg.MaxLen"], apart := false, narrowed := true }
def LeManyUptoSaid : Prop := leManyUptoRow.holds Try.pinned (OpenSpec.upto leManySpec)

end Rows
end Go.Proofs.Ytiaoehjldbnpkaa
