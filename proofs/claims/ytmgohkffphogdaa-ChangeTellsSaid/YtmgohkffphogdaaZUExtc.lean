/- Words and walks that this claim names, of those that the kit's print and programs of this workplace have printed. -/
import Derived.Test.YtmgohkffphogdaaZUExts
set_option linter.unusedVariables false
namespace Go.Proofs.Ytmgohkffphogdaa.Pl
theorem extsB_le : ∀ {l : List Ext}, (∀ e ∈ l, eOk e = true) → (extsB l).length ≤ 2055 * l.length
  | [], _ => Nat.zero_le _
  | e :: l, h => by
    have h1 := extOk_len (show extOk e.1 e.2.1 e.2.2.1 e.2.2.2.1 e.2.2.2.2 = true from h e List.mem_cons_self)
    have h2 := extsB_le fun x hx => h x (List.mem_cons_of_mem _ hx)
    rw [extsB, List.length_append, extW_length, List.length_cons]
    omega
theorem extsW_le {l : List Ext} (he : eAll l = true) : (extsW l).length ≤ 140000 := by
  obtain ⟨h1, h2⟩ := eAll_iff.1 he
  have := extsB_le h2
  rw [extsW, List.length_cons]
  omega
theorem ereadS_byte {b : List Int} (hb : byteB b = true) : (∀ e ∈ (ereadS b).1, byteB e.2.2.2.2 = true) ∧ (ereadS b).1.length ≤ 64 := by
  rcases ereadS_cases hb with ⟨l, he, hw, hr⟩ | ⟨-, hr⟩
  · rw [hr]
    refine ⟨fun e hm => ?_, (eAll_iff.1 he).1⟩
    rw [hw, extsW] at hb
    exact extsB_data (byteB_iff.2 fun x hx => byteB_iff.1 hb x (List.mem_cons_of_mem _ hx)) e hm
  · rw [hr]
    exact ⟨fun e hm => absurd hm List.not_mem_nil, Nat.zero_le _⟩
end Go.Proofs.Ytmgohkffphogdaa.Pl
