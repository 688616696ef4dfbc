/- Words and walks that this claim names, of those that the kit's print and programs of this workplace have printed. -/
import Derived.Test.YtohkmmbmfhficaaZTWWords
import Derived.Test.YtohkmmbmfhficaaZTWMore
import Derived.Test.YtohkmmbmfhficaaZTCrc
set_option linter.unusedVariables false
namespace Go.Proofs.Ytohkmmbmfhficaa.Kx
open Go Go.RowKit Go.Proofs.YtohkmmbmfhficaaW.PrintWords
theorem takeC {w : World} {A0 : Option Addr} {l0 : List Int} (n : Nat) (hn : n ≤ l0.length) (h : Kd.C (Kd.int .u8) w A0 l0.length l0) : Kd.C (Kd.int .u8) w A0 (l0.take n).length (l0.take n) := by
  have := (Kd.reads_of_C (d := (0 : Int)) h).take_ n hn
  have hl : (l0.take n).length = n := by rw [List.length_take]; omega
  rw [hl]
  exact Kd.C_of_reads (h1 := fun _ => rfl) this
theorem V_of_C {k : IntKind} {w : World} {A : Option Addr} {c : Nat} {l : List Int} (e base : Nat) (hc : l.length ≤ c) (h : Kd.C (Kd.int k) w A l.length l) : Kd.V (Kd.int k) e w base (fun k_ => k_ < w.heap.size) (.slice A l.length c) l :=
  Kd.V_mk hc (Kd.C_F (Kd.heap_int k) h)
theorem rd_nats {l : List Int} (h : Pl.byteB l = true) (j : Nat) (hj : j < (Pl.nats l).length) : rd l (j : Int) = (((Pl.nats l)[j]'hj : Nat) : Int) := by
  have hj' : j < l.length := by rw [Pl.nats_length] at hj; exact hj
  have hm := Pl.byteB_iff.1 h l[j] (List.getElem_mem hj')
  simp [rd, Pl.nats, hj']
  omega
theorem sb {α : Type} (l : List α) (i : Nat) (a : α) : l.toArray.setIfInBounds i a = (l.set i a).toArray := List.setIfInBounds_toArray l i a
theorem sz {α : Type} {x : α} {xs : List α} {a : α} : (x :: xs).set 0 a = a :: xs := rfl
theorem ss {α : Type} {x : α} {xs : List α} {i : Nat} {a : α} : (x :: xs).set (i + 1) a = x :: xs.set i a := rfl
end Go.Proofs.Ytohkmmbmfhficaa.Kx
