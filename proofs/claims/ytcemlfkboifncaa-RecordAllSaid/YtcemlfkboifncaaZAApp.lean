/- Words and walks that this claim names, of those that the kit's print and programs of this workplace have printed. -/
import Derived.Test.YtcemlfkboifncaaZAWWords
import Derived.Test.YtcemlfkboifncaaZAWApart
set_option linter.unusedVariables false
namespace Go.Proofs.Ytcemlfkboifncaa.Kx
open Go Go.RowKit Go.Proofs.YtcemlfkboifncaaW.PrintWords Go.Proofs.YtcemlfkboifncaaW.PrintWords.Kd
theorem row_one {α : Type} {W : World} {g sz : Nat} {cs : List Value} {e : TypeId} {fr : Nat × Nat} (p : α) (h : W.heap[g]? = some (.cells cs.toArray e fr)) (hl : cs.length = sz) : ReadsRow (fun x c => x = p ∧ c = cs) sz W (some ⟨g, 0, none⟩) 1 [p] := by
  refine ⟨rfl, by decide, fun _ => ⟨_, rfl, fun j q hj => ?_⟩⟩
  rcases j with _ | j
  · simp only [List.getElem?_cons_zero, Option.some.injEq] at hj
    subst hj
    refine ⟨cs, hl, ⟨rfl, rfl⟩, fun i u hu => ?_⟩
    rw [add_plain, cell_of_row W g _ _ e fr h]
    simpa using hu
  · simp at hj
theorem S_append_at_step {P : Program} {ops : Array Oper} {o : Oper} {a : Act} {Q : Exit → Act → World → Prop} {Kc : Act → World → Prop} {α : Type} (d : Kd α) {w0 W : World} (base : Nat) (hw : Region.wanted o (yielded ops a.tmps) = true) (s x : Operand) (t e : TypeId) (z : Value) (bytes : Nat)
    (ho : o.op = .call { callee := .builtin .append, args := #[s, x], argTypes := #[t, t] })
    (ht : P.underlying t = some (.slice e)) (hinfo : (P.info? e).map (fun i => (i.zero, i.size, i.bytes)) = some (some z, d.sz, bytes)) (hz : z.cells.size = d.sz) (hs0 : 0 < d.sz) (hb0 : 0 < bytes)
    (v : Value) (xs : List α) (p : α) (cs : List Value) (g : Nat) {fr : Nat × Nat} (ok okp : Nat → Prop) (hs : a.eval s = v) (hx : a.eval x = .slice (some ⟨g, 0, none⟩) 1 1) (hlit : W.heap[g]? = some (.cells cs.toArray e fr)) (hp : d.M W base okp p cs) (hokp : ∀ k, okp k → ok k ∧ some k ≠ v.ownBlock) (hfresh : ∀ k, W.heap.size ≤ k → ok k)
    (HO : S d e W base (fun k => ok k ∧ ¬ okp k) v xs) (HB : Below base w0 W) (hbase : base ≤ W.heap.size) (hl : (xs.length + 1) * bytes ≤ 140737488355328)
    (h : ∀ v1 w1, S d e w1 base ok v1 (xs ++ [p]) → Below base w0 w1 → W.grownBy w1 v.ownBlock → (v1.ownBlock = v.ownBlock ∨ ∃ b, v1.ownBlock = some b ∧ W.heap.size ≤ b) → Kc (a.put o.dst v1) w1) :
    if Region.wanted o (yielded ops a.tmps) = true then Oper.wp P o a W Kc Q else Kc (a.put o.dst undef) W := by
  obtain ⟨f, hf, hR⟩ := S_tag HO xs.length okp (fun _ hk h2 => h2.2 hk)
  refine R_append_rows_step (tag f d) (Rr := fun x c => x = (p, xs.length) ∧ c = cs) base hw s x t e z bytes ho ht hinfo hz hs0 hb0 v xs.zipIdx [(p, xs.length)] (some ⟨g, 0, none⟩) 1 1 ok okp hs hx (R_mono hR (fun _ hk => hk.1)) (row_one (p, xs.length) hlit (d.K_len (d.K_of_M hp))) (fun y c hy => by obtain ⟨rfl, rfl⟩ := hy; exact d.M_mono (fun k hk => ⟨hk, hf k hk⟩) hp) hokp hfresh HB hbase (by rw [List.length_zipIdx]; exact hl) ?_
  intro v1 w1 hr
  rw [← zip_snoc] at hr
  exact h v1 w1 ⟨f, hr⟩
end Go.Proofs.Ytcemlfkboifncaa.Kx
