/- Small lemmas on rows of bytes that are read. Over any program. -/
import Derived.Test.YtohkmmbmfhficaaWWords
import Derived.Test.YtohkmmbmfhficaaWMore
import Derived.Test.YtohkmmbmfhficaaCrc
set_option linter.unusedVariables false
namespace Go.Proofs.Ytohkmmbmfhficaa.Kx
open Go Go.RowKit Go.Proofs.YtohkmmbmfhficaaW.PrintWords
/-- What a row begins with is read as it was. -/
theorem takeC {w : World} {A0 : Option Addr} {l0 : List Int} (n : Nat) (hn : n ≤ l0.length) (h : Kd.C (Kd.int .u8) w A0 l0.length l0) : Kd.C (Kd.int .u8) w A0 (l0.take n).length (l0.take n) := by
  have := (Kd.reads_of_C (d := (0 : Int)) h).take_ n hn
  have hl : (l0.take n).length = n := by rw [List.length_take]; omega
  rw [hl]
  exact Kd.C_of_reads (h1 := fun _ => rfl) this
/-- A literal's row, whatever mark it bears. -/
theorem C_litk (k : IntKind) (W : World) (xs : List Int) (hx : xs.length ≤ 9223372036854775807) (e : TypeId) (fr : Nat × Nat) : Kd.C (Kd.int k) (W.alloc (.cells (nums k xs).toArray e fr)) (some ⟨W.heap.size, 0, none⟩) xs.length xs := by
  refine Kd.C_of_reads (d := (0 : Int)) (h1 := fun _ => rfl) ⟨rfl, hx, fun hn => ⟨_, rfl, fun j hj => ?_⟩⟩
  rw [add_plain, cell_of_row _ _ j _ e fr (heap_alloc_new W _)]
  simp [nums, hj]
/-- The same, told by its block's number. -/
theorem C_lita (k : IntKind) (g : Nat) (W : World) (hg : g = W.heap.size) (xs : List Int) (hx : xs.length ≤ 9223372036854775807) (e : TypeId) (fr : Nat × Nat) : Kd.C (Kd.int k) (W.alloc (.cells (nums k xs).toArray e fr)) (some ⟨g, 0, none⟩) xs.length xs := by subst hg; exact C_litk k W xs hx e fr
theorem C_lit (W : World) (xs : List Int) (hx : xs.length ≤ 9223372036854775807) (e : TypeId) (fr : Nat × Nat) : Kd.C (Kd.int .u8) (W.alloc (.cells (nums .u8 xs).toArray e fr)) (some ⟨W.heap.size, 0, none⟩) xs.length xs := C_litk .u8 W xs hx e fr
/-- A row that is read, as a value, for a callee that keeps it in a variable. -/
theorem V_of_C {k : IntKind} {w : World} {A : Option Addr} {c : Nat} {l : List Int} (e base : Nat) (hc : l.length ≤ c) (h : Kd.C (Kd.int k) w A l.length l) : Kd.V (Kd.int k) e w base (fun k_ => k_ < w.heap.size) (.slice A l.length c) l :=
  Kd.V_mk hc (Kd.C_F (Kd.heap_int k) h)
/-- Two rows of the call's own of unlike types lie in unlike blocks. -/
theorem R_blk_ne {α β : Type} {d : Kd α} {d' : Kd β} {e e' base base' n c : Nat} {w : World} {ok ok' : Nat → Prop} {ad : Addr} {v' : Value} {xs : List α} {ys : List β} (h : d.R e w base ok (.slice (some ad) n c) xs) (h' : d'.R e' w base' ok' v' ys) (hne : e ≠ e') : some ad.block ≠ v'.ownBlock := by
  obtain ⟨i, hi⟩ := Kd.R_own h
  obtain ⟨i', hi'⟩ := Kd.R_own h'
  rcases own_type_ne hi hi' hne with h | h
  · simp [Value.ownBlock] at h
  · exact h
theorem rd_nats {l : List Int} (h : Pl.byteB l = true) (j : Nat) (hj : j < (Pl.nats l).length) : rd l (j : Int) = (((Pl.nats l)[j]'hj : Nat) : Int) := by
  have hj' : j < l.length := by rw [Pl.nats_length] at hj; exact hj
  have hm := Pl.byteB_iff.1 h l[j] (List.getElem_mem hj')
  simp [rd, Pl.nats, hj']
  omega
theorem sb {α : Type} (l : List α) (i : Nat) (a : α) : l.toArray.setIfInBounds i a = (l.set i a).toArray := List.setIfInBounds_toArray l i a
theorem sz {α : Type} {x : α} {xs : List α} {a : α} : (x :: xs).set 0 a = a :: xs := rfl
theorem ss {α : Type} {x : α} {xs : List α} {i : Nat} {a : α} : (x :: xs).set (i + 1) a = x :: xs.set i a := rfl
end Go.Proofs.Ytohkmmbmfhficaa.Kx
