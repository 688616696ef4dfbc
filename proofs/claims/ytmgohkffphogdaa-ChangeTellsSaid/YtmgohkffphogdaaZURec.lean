/- Words and walks that this claim names, of those that the kit's print and programs of this workplace have printed. -/
import Derived.Test.YtmgohkffphogdaaZUPackP
set_option linter.unusedVariables false
namespace Go.Proofs.Ytmgohkffphogdaa.Pl
theorem byteB_take {b : List Int} (h : byteB b = true) (n : Nat) : byteB (b.take n) = true := byteB_iff.2 fun x hx => byteB_iff.1 h x (List.mem_of_mem_take hx)
theorem byteB_drop {b : List Int} (h : byteB b = true) (n : Nat) : byteB (b.drop n) = true := byteB_iff.2 fun x hx => byteB_iff.1 h x (List.mem_of_mem_drop hx)
theorem unpackP_total : ∀ (f b : List Int), (∀ c ∈ f, okS (letS c) = true) → formL f ≤ b.length → ∃ l, unpackP f b = some (l, b.drop (formL f))
  | [], b, _, _ => ⟨[], rfl⟩
  | c :: f, b, hf, hl => by
    have ho := hf c List.mem_cons_self
    have hk := okS_le ho
    rw [formL] at hl
    obtain ⟨l, h⟩ := unpackP_total f (b.drop (letS c).toNat) (fun x hx => hf x (List.mem_cons_of_mem _ hx)) (by rw [List.length_drop]; omega)
    refine ⟨((leN (nats (b.take (letS c).toNat)) : Nat) : Int) :: l, ?_⟩
    rw [unpackP, if_pos ⟨ho, by omega⟩, h, Option.map_some, List.drop_drop, formL]
end Go.Proofs.Ytmgohkffphogdaa.Pl
