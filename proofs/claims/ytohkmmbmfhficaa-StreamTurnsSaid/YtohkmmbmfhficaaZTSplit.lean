/- Words and walks that this claim names, of those that the kit's print and programs of this workplace have printed. -/
import Derived.Test.YtohkmmbmfhficaaZTWLast
import Derived.OrdersIn
import Derived.ControlIn
import Derived.RegionIn
import Derived.RangeFuncIn
set_option linter.unusedVariables false
namespace Go.Proofs.Ytohkmmbmfhficaa.Kx
open Go Go.Proofs.YtohkmmbmfhficaaW.PrintLast
section
variable {P : Program} {md : Region.Mode} {ops : Array Oper} {Q : Exit → Act → World → Prop}
def halves (l : Array Bool) (k : Nat) : Array Bool := l ++ Array.replicate k false
def splitQ (n : Nat) (P : Program) (md : Region.Mode) (ops : Array Oper) (Q : Exit → Act → World → Prop) (m : Nat) : Exit → Act → World → Prop
  | .normal, a, w => wpAnyIn Fence.wide n P md ops Q (ops.size - m) (halves (Array.replicate m true) (ops.size - m)) a w
  | _, _, _ => False
theorem oper_wide {n m : Nat} {o : Oper} {a : Act} {w : World} {K K' : Act → World → Prop} (hK : ∀ a w, K a w → K' a w) (h : Oper.wp P o a w K (splitQ n P md ops Q m)) : Oper.wpIn Fence.wide n P o a w K' Q := by
  refine ⟨fun _ _ => trivial, ?_⟩
  show o.uponIn Fence.wide n P a K' Q ((execOp a.eval o).run P w)
  unfold Oper.wp at h
  generalize (execOp a.eval o).run P w = r at h
  cases r with
  | ok x w' =>
    cases x <;> simp only [Oper.upon, Oper.uponIn] at h ⊢
    ·exact hK _ _ h
    ·exact hK _ _ h
    ·refine ⟨fun hd => by simp [Fence.wide] at hd, callsIn_wide.2 (Calls.mono h fun e w'' he => ?_)⟩
     cases e with
     | returned v => exact hK _ _ he
     | panicked c => exact he.elim
     | outgrown => obtain ⟨_, _, hf⟩ := he; exact hf.elim
    all_goals first | exact hK _ _ h | exact ⟨fun hd => by simp [Fence.wide] at hd, fun c cs _ => by obtain ⟨v, w'', r, s⟩ := h c cs; exact ⟨v, w'', hK _ _ r, stepsIn_wide.2 s⟩⟩
  | halt x w' => cases x <;> simp only [Oper.upon, Oper.uponIn] at h ⊢ <;> exact h.elim
theorem anyIn_more {n : Nat} : ∀ (k : Nat) (l : Array Bool) (a : Act) (w : World), wpAnyIn Fence.wide n P md ops Q k l a w → wpAnyIn Fence.wide n P md ops Q (k + 1) l a w
  | 0, l, a, w, h => ⟨fun _ => h.2, fun i hi => by rw [h.1] at hi; cases hi⟩
  | k + 1, l, a, w, h => ⟨h.1, fun i hi => wpOpIn_mono (fun a' w' h' => anyIn_more k _ a' w' h') (h.2 i hi)⟩
theorem anyIn_many {n k : Nat} {l : Array Bool} {a : Act} {w : World} (h : wpAnyIn Fence.wide n P md ops Q k l a w) : ∀ j, wpAnyIn Fence.wide n P md ops Q (j + k) l a w
  | 0 => by rw [Nat.zero_add]; exact h
  | j + 1 => by rw [Nat.add_right_comm]; exact anyIn_more _ _ _ _ (anyIn_many h j)
theorem halves_lt {l : Array Bool} {k j : Nat} {b : Bool} (h : j < l.size) : (halves l k).getD j b = l.getD j b := by
  simp only [halves, Array.getD_eq_getD_getElem?]
  rw [Array.getElem?_append_left h]
theorem halves_set {l : Array Bool} {k i : Nat} (h : i < l.size) : (halves l k).setIfInBounds i true = halves (l.setIfInBounds i true) k := by
  simp only [halves]
  exact Array.setIfInBounds_append_left h
theorem listed_or {m : Nat} {pre : Array Oper} (hm : pre.size = m) (hord : ∀ (i : Nat) o, pre[i]? = some o → ∀ e ∈ o.after, Region.binds md e = true → e.on < i) {l : Array Bool} (hl : l.size = m) : l = Array.replicate m true ∨ ∃ i, i ∈ Region.ready md pre l := by
  by_cases h : ∃ j, j < m ∧ l.getD j true = false
  ·obtain ⟨j, hj, hun⟩ := h
   induction j using Nat.strongRecOn with
   | _ j ih =>
     by_cases h2 : ∃ i, i < j ∧ l.getD i true = false
     ·obtain ⟨i, hi, hiu⟩ := h2
      exact ih i hi (by omega) hiu
     have hj' : j < pre.size := by omega
     refine .inr ⟨j, mem_ready.2 ⟨hun, pre[j], Array.getElem?_eq_getElem hj', fun e he hb => ?_⟩⟩
     have hlt := hord j _ (Array.getElem?_eq_getElem hj') e he hb
     have h3 : ¬ l.getD e.on true = false := fun hx => h2 ⟨e.on, hlt, hx⟩
     have h4 : e.on < l.size := by omega
     rw [Array.getD_eq_getD_getElem?, Array.getElem?_eq_getElem h4, Option.getD_some] at h3 ⊢
     simpa using h3
  refine .inl (Array.ext (by rw [hl, Array.size_replicate]) fun i h1 h2 => ?_)
  rw [Array.getElem_replicate]
  have h3 : ¬ l.getD i true = false := fun hx => h ⟨i, by omega, hx⟩
  rw [Array.getD_eq_getD_getElem?, Array.getElem?_eq_getElem h1, Option.getD_some] at h3
  simpa using h3
theorem any_split {m n : Nat} {pre : Array Oper} (hm : pre.size = m) (hms : m ≤ ops.size) (hpre : ∀ i, i < m → pre[i]? = ops[i]?) (hg : ∀ (i : Nat) o, ops[i]? = some o → o.guard = none)
    (hord : ∀ (i : Nat) o, pre[i]? = some o → ∀ e ∈ o.after, Region.binds md e = true → e.on < i) (hr : ∀ d, m ≤ d → d < ops.size → ∀ i, i < m → Region.reachB md ops i ops.size d = true) :
    ∀ (fuel : Nat) (l : Array Bool) (a : Act) (w : World), l.size = m → ListedClosed md ops (halves l (ops.size - m)) → wpAny P md pre (splitQ n P md ops Q m) fuel l a w →
      wpAnyIn Fence.wide n P md ops Q (fuel + (ops.size - m)) (halves l (ops.size - m)) a w := by
  intro fuel
  induction fuel with
  | zero =>
    intro l a w hl hc h
    rcases listed_or hm hord hl with rfl | ⟨i, hi⟩
    ·rw [Nat.zero_add]; exact h.2
    rw [h.1] at hi; cases hi
  | succ fuel ih =>
    intro l a w hl hc h
    rcases listed_or hm hord hl with rfl | ⟨i0, hi0⟩
    ·have hnil : Region.ready md pre (Array.replicate m true) = [] := by
       cases he : Region.ready md pre (Array.replicate m true) with
       | nil => rfl
       | cons x xs =>
         have hx : x ∈ Region.ready md pre (Array.replicate m true) := by rw [he]; exact List.mem_cons_self
         obtain ⟨h1, o, ho, _⟩ := mem_ready.1 hx
         have hlt : x < pre.size := (Array.getElem?_eq_some_iff.1 ho).1
         rw [Array.getD_eq_getD_getElem?, Array.getElem?_replicate, if_pos (by omega)] at h1
         cases h1
     exact anyIn_many (h.1 hnil) (fuel + 1)
    have hmem : ∀ i, i ∈ Region.ready md ops (halves l (ops.size - m)) → i < m ∧ i ∈ Region.ready md pre l := by
      intro i hi
      obtain ⟨hun, o, ho, hall⟩ := mem_ready.1 hi
      have hlt : i < ops.size := (Array.getElem?_eq_some_iff.1 ho).1
      have him : i < m := by
        rcases Nat.lt_or_ge i m with h1 | h1
        ·exact h1
        obtain ⟨h2, o0, ho0, _⟩ := mem_ready.1 hi0
        have h3 : i0 < pre.size := (Array.getElem?_eq_some_iff.1 ho0).1
        exact absurd hi (Region.reach_not_ready hc (hr i h1 hlt i0 (by omega)) (by rw [halves_lt (by omega)]; exact h2))
      refine ⟨him, mem_ready.2 ⟨by rw [halves_lt (by omega)] at hun; exact hun, o, by rw [hpre i him]; exact ho, fun e he hb => ?_⟩⟩
      have := hall e he hb
      have hon := hord i o (by rw [hpre i him]; exact ho) e he hb
      rwa [halves_lt (by omega)] at this
    have hback : i0 ∈ Region.ready md ops (halves l (ops.size - m)) := by
      obtain ⟨h2, o0, ho0, hall⟩ := mem_ready.1 hi0
      have h3 : i0 < pre.size := (Array.getElem?_eq_some_iff.1 ho0).1
      refine mem_ready.2 ⟨by rw [halves_lt (by omega)]; exact h2, o0, by rw [← hpre i0 (by omega)]; exact ho0, fun e he hb => ?_⟩
      have hon := hord i0 o0 ho0 e he hb
      rw [halves_lt (by omega)]
      exact hall e he hb
    have hplus : fuel + 1 + (ops.size - m) = fuel + (ops.size - m) + 1 := by omega
    rw [hplus]
    refine ⟨fun h0 => (by rw [h0] at hback; cases hback), fun i hi => ?_⟩
    obtain ⟨him, hip⟩ := hmem i hi
    have h1 := h.2 i hip
    obtain ⟨_, o, ho, _⟩ := mem_ready.1 hi
    have hgo := hg i o ho
    have hw : ∀ ys, Region.wanted o ys = true := fun ys => by unfold Region.wanted; rw [hgo]
    unfold wpOp at h1
    rw [hpre i him, ho] at h1
    simp only [hw, if_true] at h1
    unfold wpOpIn
    rw [ho]
    simp only [hw, if_true]
    have h2 := h1.resolve_right (fun hx => by obtain ⟨_, _, _, hf⟩ := hx; exact hf.elim)
    refine oper_wide (fun a' w' h3 => ?_) h2
    rw [halves_set (by omega)]
    refine ih _ a' w' (by rw [Array.size_setIfInBounds]; exact hl) ?_ h3
    rw [← halves_set (by omega)]
    exact hc.set hi
end
def splitB (ops : Array Oper) (m : Nat) : Bool :=
  decide (m ≤ ops.size) && (ops.all fun o => o.guard.isNone) && ((List.range m).all fun i => match ops[i]? with | some o => o.after.all fun e => !Region.binds .any e || decide (e.on < i) | none => true) &&
    ((List.range ops.size).all fun d => decide (d < m) || (List.range m).all fun i => Region.reachB .any ops i ops.size d)
theorem region_split {P : Program} {ops pre : Array Oper} {Q : Exit → Act → World → Prop} {S : World → Prop} {ds : List Nat} {id : Nat} (n m : Nat) {a : Act} {w : World} (l : Array Bool) (hmix : P.follows .mixedOrders = true) (hp : ops.extract 0 m = pre) (hB : splitB ops m = true) (hl : Array.replicate m false = l) (hS : S w.drew)
    (h : S w.drew → wpAnyLast P .any pre (splitQ n P .any ops Q m) S ds m l a w.drew) : (Code.region id ops true).wp P Q a w := by
  subst hp
  subst hl
  simp only [splitB, Bool.and_eq_true, decide_eq_true_eq] at hB
  obtain ⟨⟨⟨h1, h2⟩, h3⟩, h4⟩ := hB
  have hsz : (ops.extract 0 m).size = m := by rw [Array.size_extract]; omega
  have hpre : ∀ i, i < m → (ops.extract 0 m)[i]? = ops[i]? := fun i hi => by rw [Array.getElem?_extract, if_pos (by omega), Nat.zero_add]
  refine (wpIn_wide (n := n)).1 (wpIn_region_any hmix ?_)
  have hx := any_split (P := P) (Q := Q) (n := n) hsz h1 hpre (fun i o ho => by
      have := Array.all_eq_true_iff_forall_mem.1 h2 o (Array.mem_of_getElem? ho)
      simpa using this) (fun i o ho e he hb => by
      have hlt : i < (ops.extract 0 m).size := (Array.getElem?_eq_some_iff.1 ho).1
      have := List.all_eq_true.1 h3 i (List.mem_range.2 (by omega))
      rw [hpre i (by omega)] at ho
      rw [ho] at this
      have := Array.all_eq_true_iff_forall_mem.1 this e he
      rw [hb] at this
      simpa using this) (fun d hd hds i hi => by
      have := List.all_eq_true.1 h4 d (List.mem_range.2 hds)
      rw [decide_eq_false (by omega), Bool.false_or] at this
      exact List.all_eq_true.1 this i (List.mem_range.2 hi)) m (Array.replicate m false) a w.drew Array.size_replicate (by
      intro j oj _ hj
      have : halves (Array.replicate m false) (ops.size - m) = Array.replicate (m + (ops.size - m)) false := by unfold halves; rw [Array.replicate_append_replicate]
      rw [this, Array.getD_eq_getD_getElem?, Array.getElem?_replicate] at hj
      split at hj <;> cases hj) (wpAny_of_last _ _ _ _ (h hS))
  have hh : halves (Array.replicate m false) (ops.size - m) = Array.replicate ops.size false := by unfold halves; rw [Array.replicate_append_replicate]; congr 1; omega
  rw [hh, show m + (ops.size - m) = ops.size by omega] at hx
  exact hx
end Go.Proofs.Ytohkmmbmfhficaa.Kx
