/- For any extents and number the law's answer is true: their bytes are as many as is said, and fewer of them are none. -/
import Derived.Test.YtcemlfkboifncaaPIx36
import Derived.Test.YtcemlfkboifncaaExtc
import Derived.Test.YtcemlfkboifncaaStr
namespace Go.Proofs.Ytcemlfkboifncaa.Pure
open Go.RowKit Go.Proofs.Ytcemlfkboifncaa.PI Go.Proofs.YtcemlfkboifncaaW.PrintWords Go.Proofs.YtcemlfkboifncaaW.PrintLast
set_option linter.unusedVariables false
/-- How many bytes the first i of them have, and one. -/
def szs (l : List S46) (i : Nat) : Nat := 1 + ((l.take i).map fun s => s.f4.length + 7).sum
theorem szs_succ {l : List S46} {i : Nat} (h : i < l.length) : szs l (i + 1) = szs l i + 7 + l[i].f4.length := by
  rw [szs, szs, List.take_succ_eq_append_getElem h, List.map_append, List.sum_append, List.map_singleton, List.sum_singleton]
  omega
theorem szs_all (l : List S46) : (Pl.extsW (l.map toE)).length = szs l l.length := by
  rw [Pl.extsW, List.length_cons, Pl.extsB_length, szs, List.take_length, List.map_map, Nat.add_comm]
  rfl
theorem sizes_end {l : List S46} {c n : Int} (h64 : l.length ≤ 64) (hld : ∀ s ∈ l, Pl.byteB s.f4 = true) (hc : 0 ≤ c ∧ c < 65536) (hn : n = (szs l l.length : Int)) :
    ((extent_Write.f l).bind fun bt466 => (if bt466.2 = 0 then (if (mx 1 (bt466.1.length : Int)) = 0 then (none) else (if 0 ≤ (Int.tmod (wrap64 (c)) (mx 1 (bt466.1.length : Int))) then (if (Int.tmod (wrap64 (c)) (mx 1 (bt466.1.length : Int))) ≤ (bt466.1.length : Int) then ((extent_Read.f (bt466.1.take ((Int.tmod (wrap64 (c)) (mx 1 (bt466.1.length : Int))) : Int).toNat)).bind fun bt474 => (if true = true then (if (bt466.1.length : Int) = n then (if bt474.2 = 70 then (some ((bt474.1.length : Int) == 0)) else (some false)) else (some false)) else (some false))) else (none)) else (none))) else (if true = true then (if bt466.2 = 70 then (some ((bt466.1.length : Int) == 0)) else (some false)) else (some false)))) = some true := by
  rw [extent_Write.tells (by omega), Option.bind_some, Pl.ewriteS]
  by_cases ha : Pl.eAll (l.map toE) = true
  · rw [if_pos ha]
    dsimp only
    have hle := Pl.extsW_le ha
    have hpos : 0 < (Pl.extsW (l.map toE)).length := by rw [Pl.extsW, List.length_cons]; omega
    have hmap : ∀ e ∈ l.map toE, Pl.byteB e.2.2.2.2 = true := by
      intro e he
      obtain ⟨s, hs, rfl⟩ := List.mem_map.1 he
      exact hld s hs
    have hB := Pl.extsW_byte ha hmap
    have hs := szs_all l
    obtain ⟨N, hN⟩ : ∃ N, N = (Pl.extsW (l.map toE)).length := ⟨_, rfl⟩
    rw [← hN] at hle hpos hs ⊢
    have e1 : mx 1 (N : Int) = (N : Int) := by unfold mx; split <;> omega
    have e2 : wrap64 c = c := by unfold wrap64; omega
    have e3 : Int.tmod c (N : Int) = c % (N : Int) := Int.tmod_eq_emod_of_nonneg hc.1
    have h0 := Int.emod_nonneg c (show (N : Int) ≠ 0 by omega)
    have h1 := Int.emod_lt_of_pos c (show (0 : Int) < (N : Int) by omega)
    rw [e1, e2, e3, if_pos rfl, if_neg (by omega), if_pos h0, if_pos (by omega)]
    have hR : extent_Read.f ((Pl.extsW (l.map toE)).take (c % (N : Int)).toNat) = some ([], 70) := by
      unfold extent_Read.f
      rw [if_pos ⟨Pl.byteB_take hB _, by rw [List.length_take]; omega⟩, Pl.ereadS_few ha hB (by omega)]
      rfl
    rw [hR, Option.bind_some, if_pos rfl, if_pos (by omega), if_pos rfl]
    rfl
  · rw [if_neg ha]
    rfl
theorem sizes_step {A B C : Nat} (h : B = A + 7 + C) (hA : A ≤ 300000) (hC : C ≤ 3000) : wrap64 (wrap64 ((A : Int) + 7) + (C : Int)) = (B : Int) := by unfold wrap64; omega
theorem sizes_loop {l : List S46} {c : Int} (h64 : l.length ≤ 64) (hld : ∀ s ∈ l, Pl.byteB s.f4 = true) (hc : 0 ≤ c ∧ c < 65536) : ∀ (d k i A : Nat), l.length - i = d → i ≤ l.length → d < k → A ≤ 1 + 3007 * i → Aside0 (A = szs l i) → waggonerlaw07_ExtentSizes.l0 k l c true (A : Int) (i : Int) = some true
  | 0, k, i, A, hd, hi, hk, hs, hA => by
    obtain ⟨k, rfl⟩ : ∃ m, k = m + 1 := ⟨k - 1, by omega⟩
    have he : i = l.length := by omega
    rw [waggonerlaw07_ExtentSizes.l0, if_neg (by omega)]
    exact sizes_end h64 hld hc (by rw [hA.out, he])
  | d + 1, k, i, A, hd, hi, hk, hs, hA => by
    obtain ⟨k, rfl⟩ : ∃ m, k = m + 1 := ⟨k - 1, by omega⟩
    have hi0 : i < l.length := by omega
    have q1 : (i : Int) < (l.length : Int) := by omega
    have q2 : (0 : Int) ≤ (i : Int) := by omega
    have q3 : wrap64 ((i : Int) + 1) = ((i + 1 : Nat) : Int) := by unfold wrap64; omega
    have q4 : A ≤ 300000 := by omega
    obtain ⟨C, hC⟩ : ∃ C, C = l[i].f4.length := ⟨_, rfl⟩
    rw [waggonerlaw07_ExtentSizes.l0, if_pos q1, if_pos q2, rd_getE l i hi0, ← hC]
    by_cases h3 : (C : Int) > 3000
    · rw [if_pos h3]
    · have q5 : C ≤ 3000 := by omega
      have q6 : A + 7 + C ≤ 1 + 3007 * (i + 1) := by omega
      have q7 : l.length - (i + 1) = d := by omega
      have q8 : i + 1 ≤ l.length := by omega
      have q9 : d < k := by omega
      rw [if_neg h3, sizes_step (B := A + 7 + C) rfl q4 q5, q3]
      exact sizes_loop h64 hld hc d k (i + 1) (A + 7 + C) q7 q8 q9 q6 ⟨by rw [szs_succ hi0, hA.out, hC]⟩
theorem ExtentSizes (l : List S46) (c : Int) (wl : ∀ s ∈ l, (Lit.int .i64 s.f0).wf = true ∧ (Lit.int .i64 s.f1).wf = true ∧ (Lit.int .i64 s.f2).wf = true ∧ (Lit.int .i64 s.f3).wf = true ∧ (∀ x ∈ s.f4, (Lit.int .u8 x).wf = true)) (wc : (Lit.int .u16 c).wf = true) : ∃ kk, waggonerlaw07_ExtentSizes.f kk l c = some true := by
  have hc := Pl.wf_u16 wc
  have hld : ∀ s ∈ l, Pl.byteB s.f4 = true := fun s hs => Pl.wf_u8 (wl s hs).2.2.2.2
  refine ⟨l.length + 1, ?_⟩
  unfold waggonerlaw07_ExtentSizes.f waggonerlaw07_awake.f
  rw [Option.bind_some]
  by_cases h : (l.length : Int) > 64
  · rw [if_pos h]
  · rw [if_neg h]
    exact sizes_loop (by omega) hld hc l.length _ 0 1 (by omega) (by omega) (by omega) (by omega) ⟨by simp [szs]⟩
end Go.Proofs.Ytcemlfkboifncaa.Pure
