/- Words and walks that this claim names, of those that the kit's print and programs of this workplace have printed. -/
import Derived.Test.YtohkmmbmfhficaaZTLe
import Derived.Laws.BytesArg
import Derived.Laws.Strings
set_option linter.unusedVariables false
namespace Go.Proofs.Ytohkmmbmfhficaa.Pl
open Go
theorem toList_eq (xs : List Int) : (strOfNums xs).toList = xs.map fun n => UInt8.ofNat n.toNat := by
  rw [ByteArray.toList_eq]
  rfl
theorem map_u8_inj : ∀ {l m : List Int}, byteB l = true → byteB m = true → (l.map fun n => UInt8.ofNat n.toNat) = (m.map fun n => UInt8.ofNat n.toNat) → l = m
  | [], [], _, _, _ => rfl
  | [], _ :: _, _, _, h => by cases h
  | _ :: _, [], _, _, h => by cases h
  | x :: l, y :: m, hl, hm, h => by
    rw [List.map_cons, List.map_cons, List.cons.injEq] at h
    have hx := byteB_iff.1 hl x List.mem_cons_self
    have hy := byteB_iff.1 hm y List.mem_cons_self
    have h1 : x = y := by
      have := congrArg UInt8.toNat h.1
      simp only [UInt8.toNat_ofNat'] at this
      omega
    rw [h1, map_u8_inj (byteB_iff.2 fun z hz => byteB_iff.1 hl z (List.mem_cons_of_mem _ hz)) (byteB_iff.2 fun z hz => byteB_iff.1 hm z (List.mem_cons_of_mem _ hz)) h.2]
theorem str_eq {l m : List Int} (hl : byteB l = true) (hm : byteB m = true) : ((strOfNums l).toList == (strOfNums m).toList) = (l == m) := by
  rw [toList_eq, toList_eq, Bool.eq_iff_iff, beq_iff_eq, beq_iff_eq]
  exact ⟨fun h => map_u8_inj hl hm h, fun h => by rw [h]⟩
theorem wf_u8 {l : List Int} (h : ∀ x ∈ l, (Lit.int .u8 x).wf = true) : byteB l = true := by
  rw [byteB_iff]
  intro x hx
  have := h x hx
  simp [Lit.wf, IntKind.min, IntKind.max, IntKind.signed, IntKind.bits] at this
  omega
theorem wf_u32 {x : Int} (h : (Lit.int .u32 x).wf = true) : 0 ≤ x ∧ x < 4294967296 := by
  simp [Lit.wf, IntKind.min, IntKind.max, IntKind.signed, IntKind.bits] at h
  omega
theorem wf_u16 {x : Int} (h : (Lit.int .u16 x).wf = true) : 0 ≤ x ∧ x < 65536 := by
  simp [Lit.wf, IntKind.min, IntKind.max, IntKind.signed, IntKind.bits] at h
  omega
end Go.Proofs.Ytohkmmbmfhficaa.Pl
