/- Words and walks that this claim names, of those that the kit's print and programs of this workplace have printed. -/
import Derived.Test.YtohkmmbmfhficaaZTLe
import Derived.Laws.Runes
set_option linter.unusedVariables false
namespace Go.Proofs.Ytohkmmbmfhficaa.Pl
def letS (c : Int) : Int := if c = 98 then 1 else if c = 104 then 2 else if c = 119 then 4 else if c = 113 then 8 else 0
def bhwq : ByteArray := { data := #[98, 104, 119, 113] }
theorem bhwq_at : ∀ i : Fin 128, firstIdx bhwq i.val.toUInt8 = if i.val = 98 then 0 else if i.val = 104 then 1 else if i.val = 119 then 2 else if i.val = 113 then 3 else -1 := by decide +kernel
theorem bhwq_ascii : ∀ b ∈ bhwq.data.toList, b.toNat < 128 := by
  intro b hb
  simp only [bhwq, List.mem_cons, List.not_mem_nil, or_false] at hb
  rcases hb with rfl | rfl | rfl | rfl <;> decide
theorem bhwq_get : ∀ i (h : i < bhwq.size), (bhwq[i]'h).toNat < 128 := fun i h => bhwq_ascii _ (by
  have e : bhwq[i]'h = bhwq.data.toList[i]'(by simpa using h) := rfl
  rw [e]; exact List.getElem_mem _)
def fb (s : ByteArray) : List Int := s.data.toList.map fun b => (b.toNat : Int)
theorem fb_length (s : ByteArray) : (fb s).length = s.size := by simp [fb]
def u64B (l : List Int) : Bool := l.all fun x => decide (0 ≤ x) && decide (x < 18446744073709551616)
theorem u64B_iff {l : List Int} : u64B l = true ↔ ∀ x ∈ l, 0 ≤ x ∧ x < 18446744073709551616 := by simp [u64B]
def packGo : List Int → List Int → List Int → List Int × Int
  | out, [], [] => (out, 0)
  | out, c :: f, n :: l => if fits n (letS c) = true then packGo (out ++ leB (letS c).toNat n.toNat) f l else ([], 10)
  | _, [], _ :: _ => ([], 10)
  | _, _ :: _, [] => ([], 10)
def packS (f l : List Int) : List Int × Int := packGo [] f l
theorem packGo_ne : ∀ (f l out : List Int), f.length ≠ l.length → packGo out f l = ([], 10)
  | [], [], _, h => absurd rfl h
  | [], _ :: _, _, _ => rfl
  | _ :: _, [], _, _ => rfl
  | c :: f, n :: l, out, h => by
    rw [packGo]
    split
    ·exact packGo_ne f l _ (fun e => h (by rw [List.length_cons, List.length_cons, e]))
    rfl
def unpackGo : List Int → List Int → List Int → List Int × Int
  | out, [], b => if b = [] then (out, 0) else ([], 10)
  | out, c :: f, b => if okS (letS c) = true ∧ letS c ≤ b.length then unpackGo (out ++ [((leN (nats (b.take (letS c).toNat)) : Nat) : Int)]) f (b.drop (letS c).toNat) else ([], 10)
def unpackS (f b : List Int) : List Int × Int := unpackGo [] f b
end Go.Proofs.Ytohkmmbmfhficaa.Pl
