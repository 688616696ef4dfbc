/- Words and walks that this claim names, of those that the kit's print and programs of this workplace have printed. -/
import Derived.Deep.Slices
import Derived.Deep.Fields
import Derived.ChangeSame
import Derived.ChangeSlices
import Derived.WideShapes
import Derived.Test.YtohkmmbmfhficaaZTKd
set_option linter.unusedVariables false
namespace Go.Proofs.Ytohkmmbmfhficaa.Kx
open Go Go.RowKit Go.ChangeShapes Go.WideShapes Go.Deep Go.Proofs.YtohkmmbmfhficaaW.PrintWords
section
variable {H : Type} {enc : TypeId × Value → H} {P : Program} {w : World} {base : Nat} {spare : Nat → Bool} {held : Bool}
theorem open_fields {fs : Array Field} {t : TypeId} {fuel : Nat} {cs : List Value} {x : DataW H × List MemPlace} (hs : P.underlying t = some (.struct fs)) (hone : oneCellFields P fs = true) (hC : P.cellsOf t = fs.size) (h : DataW.trod enc P w base spare held fuel t cs = some x) :
    cs.length = fs.size ∧ ∀ (j : Nat) (f : Field), fs[j]? = some f → ∃ v y n, cs[j]? = some v ∧ DataW.trod enc P w base spare held n f.type [v] = some y := by
  obtain ⟨ys, n, _, hy, hlen, hyl, hf⟩ := DataW.trod_struct hs h
  have hl : cs.length = fs.size := hlen.trans hC
  refine ⟨hl, fun j f hj => ?_⟩
  obtain ⟨ho, hk⟩ := hone_of hone j f hj
  have hjl : j < fs.size := (Array.getElem?_eq_some_iff.1 hj).1
  have h1 := hf j f hj
  rw [ho, hk] at h1
  have hc : (cs.drop j).take 1 = [cs[j]'(by omega)] := by
    rw [List.drop_eq_getElem_cons (by omega)]
    rfl
  rw [hc] at h1
  have hys : ys[j]? = some (ys[j]'(by omega)) := List.getElem?_eq_getElem (by omega)
  exact ⟨_, _, n, List.getElem?_eq_getElem (by omega), h1.trans hys⟩
theorem open_field_int {k : IntKind} {t : TypeId} {n : Nat} {v : Value} {y : DataW H × List MemPlace} (ht : P.underlying t = some (.int k)) (h : DataW.trod enc P w base spare held n t [v] = some y) : ∃ x, v = .int k x ∧ (Lit.int k x).wf = true := by
  obtain ⟨x, hx, _, hw⟩ := DataW.trod_int ht h
  injection hx with hx
  exact ⟨x, hx, hw⟩
theorem open_field_ints {k : IntKind} {t e : TypeId} {n : Nat} {v : Value} {y : DataW H × List MemPlace} (ht : P.underlying t = some (.slice e)) (he : P.underlying e = some (.int k)) (hc : P.cellsOf e = 1) (h : DataW.trod enc P w base (fun _ => true) held n t [v] = some y) :
    ∃ A c l, v = .slice A l.length c ∧ l.length ≤ c ∧ l.length ≤ maxLen ∧ Kd.C (Kd.int k) w A l.length l ∧ ∀ x ∈ l, (Lit.int k x).wf = true := by
  have key : ∃ a len cap zs, v = .slice a len cap ∧ ((a = none ∧ len = 0 ∧ cap = 0 ∧ zs = []) ∨ ∃ x, a = some x ∧ len ≤ cap ∧ cap ≤ maxLen ∧ zs.length = cap ∧ (∀ i, i < zs.length → w.cell? (x.add i) = some (.int k (zs.getD i 0))) ∧ ∀ n ∈ zs, (Lit.int k n).wf = true) := by
    rcases open_ints ht he hc h with ⟨hcs, _⟩ | ⟨x, l, c, zs, hcs, _, hl, hm, hz, _, hcell, hwz⟩
    ·injection hcs with hcs
     exact ⟨none, 0, 0, [], hcs, .inl ⟨rfl, rfl, rfl, rfl⟩⟩
    injection hcs with hcs
    exact ⟨some x, l, c, zs, hcs, .inr ⟨x, rfl, hl, hm, by simpa using hz, hcell, hwz⟩⟩
  obtain ⟨a, len, cap, zs, rfl, hr⟩ := key
  obtain ⟨l0, rfl, hr0, hm0, hw0, hc0⟩ := ReadsInt.ofRowC hr
  exact ⟨a, cap, l0, rfl, hc0, hm0, Kd.C_of_reads (d := (0 : Int)) (h1 := fun _ => rfl) hr0, hw0⟩
theorem open_field_slice {α : Type} {d : Kd α} {t e : TypeId} {n : Nat} {v : Value} {y : DataW H × List MemPlace} (Wf : α → Prop) (ht : P.underlying t = some (.slice e)) (hsz : P.cellsOf e = d.sz) (hel : ∀ (m : Nat) (cs : List Value) (x : DataW H × List MemPlace), DataW.trod enc P w base spare held m e cs = some x → ∃ s, d.K w s cs ∧ Wf s)
    (h : DataW.trod enc P w base spare held n t [v] = some y) :
    ∃ A c l, v = .slice A l.length c ∧ l.length ≤ c ∧ l.length ≤ maxLen ∧ Kd.C d w A l.length l ∧ ∀ x ∈ l, Wf x := by
  rcases open_slice ht h with ⟨hcs, _⟩ | ⟨a, len, cap, m, k, D, Pl, hcs, hb, hl, hm, hmm, hx, hi⟩
  ·injection hcs with hcs
   exact ⟨none, 0, [], hcs, Nat.le_refl _, Nat.zero_le _, ⟨rfl, Nat.zero_le _, fun h => absurd h (Nat.lt_irrefl 0)⟩, fun x hx => absurd hx (by simp)⟩
  injection hcs with hcs
  have hlm : len ≤ m := by rw [hmm]; split <;> omega
  have hall : ∀ i : Fin len, ∃ s cs', w.cells? base (a.add (i.val * P.cellsOf e)) (P.cellsOf e) = some cs' ∧ d.K w s cs' ∧ Wf s := fun i => by
    obtain ⟨cs', hc', ht'⟩ := hi i.val (by have := i.isLt; omega)
    obtain ⟨s, hk, hw⟩ := hel _ _ _ ht'
    exact ⟨s, cs', hc', hk, hw⟩
  refine ⟨some a, cap, List.ofFn fun i => (hall i).choose, by rw [List.length_ofFn]; exact hcs, by rw [List.length_ofFn]; exact hl, by rw [List.length_ofFn]; exact Nat.le_trans hl hm, ?_, fun x hx => ?_⟩
  ·refine ⟨rfl, by rw [List.length_ofFn]; have := Nat.le_trans hl hm; unfold maxLen at this; omega, fun _ => ⟨a, rfl, fun j p hj => ?_⟩⟩
   have hjl : j < len := by
     have := (List.getElem?_eq_some_iff.1 hj).1
     rwa [List.length_ofFn] at this
   rw [List.getElem?_ofFn, dif_pos hjl] at hj
   injection hj with hj
   obtain ⟨cs', hc', hk, _⟩ := (hall ⟨j, hjl⟩).choose_spec
   rw [hj] at hk
   obtain ⟨_, hcl, hat⟩ := World.cells?_some hc'
   refine ⟨cs', by rw [hcl, hsz], hk, fun i u hu => ?_⟩
   have hil : i < P.cellsOf e := by rw [← hcl]; exact (List.getElem?_eq_some_iff.1 hu).1
   have := hat i hil
   rw [hu, hsz, Go.Deep.add_add] at this
   exact this
  ·obtain ⟨i, rfl⟩ := List.mem_ofFn.1 hx
   exact (hall i).choose_spec.choose_spec.2.2
theorem agg_list {cs : Array Value} {l : List Value} (hl : (Value.agg cs).cells.toList.length = l.length) (h : ∀ j, j < l.length → (Value.agg cs).cells.toList[j]? = l[j]?) : cs = l.toArray := by
  have e : cs.toList = l := by
    refine List.ext_getElem? fun j => ?_
    by_cases hj : j < l.length
    ·exact h j hj
    have hl' : cs.toList.length = l.length := hl
    rw [List.getElem?_eq_none (by omega), List.getElem?_eq_none (by omega)]
  rw [← e]
end
end Go.Proofs.Ytohkmmbmfhficaa.Kx
