/- Functions of the program as Lean functions, and that the Go code comes to just their answers: no condition but that the function says so. (Written by a program of this workplace over the kit's print, with contracts by hand.) -/
import Derived.Test.YtiaoehjldbnpkaaPBx0
import Derived.Test.YtiaoehjldbnpkaaPBx17
namespace Go.Proofs.Ytiaoehjldbnpkaa.PB
open Go.RowKit Go.Proofs.YtiaoehjldbnpkaaW.PrintWords Go.Proofs.YtiaoehjldbnpkaaW.PrintLast Go.Proofs.YtiaoehjldbnpkaaW.PrintMore
attribute [local go_sem] max2_int min2_int max_two min_two max_three min_three max_four min_four   -- for this text's walks alone
set_option linter.unusedVariables false
set_option linter.unusedSimpArgs false

/-! ### waggonerref01_Same: function 35 -/
def waggonerref01_Same.f (l0 : List Int) (l1 : List Int) : Option Bool := if l0.length < 4611686018427387904 then some (l0 == l1) else none
theorem waggonerref01_Same.loop (l m : List Int) (hn : l.length = m.length) (hl : l.length < 4611686018427387904) : ∀ (d k i : Nat), i + d = l.length → d < k → waggonerref01_Same_p.l0 k l m (i : Int) = some (l.drop i == m.drop i)
  | 0, k, i, hi, hk => by
    obtain ⟨k, rfl⟩ : ∃ m, k = m + 1 := ⟨k - 1, by omega⟩
    simp only [waggonerref01_Same_p.l0]
    rw [if_neg (by omega), List.drop_eq_nil_of_le (by omega), List.drop_eq_nil_of_le (by omega)]
    rfl
  | d + 1, k, i, hi, hk => by
    obtain ⟨k, rfl⟩ : ∃ m, k = m + 1 := ⟨k - 1, by omega⟩
    have h1 : i < l.length := by omega
    have h2 : i < m.length := by omega
    have r1 : rd l (i : Int) = l[i]'h1 := by unfold rd; rw [Int.toNat_natCast, List.getD_eq_getElem?_getD, List.getElem?_eq_getElem h1, Option.getD_some]
    have r2 : rd m (i : Int) = m[i]'h2 := by unfold rd; rw [Int.toNat_natCast, List.getD_eq_getElem?_getD, List.getElem?_eq_getElem h2, Option.getD_some]
    simp only [waggonerref01_Same_p.l0]
    rw [if_pos (by omega), if_pos (by omega), if_pos (by omega), r1, r2, List.drop_eq_getElem_cons h1, List.drop_eq_getElem_cons h2]
    by_cases he : l[i]'h1 = m[i]'h2
    · rw [if_pos he, show wrap64 ((i : Int) + 1) = ((i + 1 : Nat) : Int) from by unfold wrap64; omega, waggonerref01_Same.loop l m hn hl d k (i + 1) (by omega) (by omega), he]
      congr 1
      rw [Bool.eq_iff_iff, beq_iff_eq, beq_iff_eq, List.cons.injEq]
      exact ⟨fun h => ⟨rfl, h⟩, fun h => h.2⟩
    · rw [if_neg he]
      congr 1
      symm
      rw [beq_eq_false_iff_ne]
      intro e
      injection e with e1
      exact he e1
theorem waggonerref01_Same.tells {l0 l1 : List Int} {r : Bool} (h : waggonerref01_Same.f l0 l1 = some r) : waggonerref01_Same_p.f (l0.length + 1) l0 l1 = some r := by
  unfold waggonerref01_Same.f at h
  split at h
  case isFalse => cases h
  rename_i h0
  obtain rfl := Option.some.inj h
  unfold waggonerref01_Same_p.f
  by_cases he : (l0.length : Int) = (l1.length : Int)
  · rw [if_pos he]
    exact waggonerref01_Same.loop l0 l1 (by omega) h0 l0.length (l0.length + 1) 0 (by omega) (by omega)
  · rw [if_neg he]
    have : (l0 == l1) = false := by
      rw [beq_eq_false_iff_ne]
      intro e
      exact he (by rw [e])
    rw [this]
theorem waggonerref01_Same.calls (A0 : Option Addr) (c0 : Nat) (l0 : List Int) (A1 : Option Addr) (c1 : Nat) (l1 : List Int) (r : Bool) (w : World) (hr0 : Kd.C (Kd.int .u64) w A0 l0.length l0) (hc0 : l0.length ≤ c0) (hr1 : Kd.C (Kd.int .u64) w A1 l1.length l1) (hc1 : l1.length ≤ c1) (h : waggonerref01_Same.f l0 l1 = some r) :
    Calls Try.prog 35 #[.slice A0 l0.length c0, .slice A1 l1.length c1] w fun e w' => e = .returned (.bool r) ∧ Drawn0 w w' :=
  waggonerref01_Same_p.calls (l0.length + 1) A0 c0 l0 A1 c1 l1 r w hr0 hc0 hr1 hc1 (waggonerref01_Same.tells h)

end Go.Proofs.Ytiaoehjldbnpkaa.PB
