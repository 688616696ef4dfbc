/- For any extents and bytes the law's answer is true: what is written is read, and what is read is written. -/
import Derived.Test.YtcemlfkboifncaaPHx38
import Derived.Test.YtcemlfkboifncaaExtc
import Derived.Test.YtcemlfkboifncaaStr
namespace Go.Proofs.Ytcemlfkboifncaa.Pure
open Go.RowKit Go.Proofs.Ytcemlfkboifncaa.PH Go.Proofs.YtcemlfkboifncaaW.PrintWords Go.Proofs.YtcemlfkboifncaaW.PrintLast
set_option linter.unusedVariables false
theorem ExtentBack (l : List S46) (b : List Int) (wl : ∀ s ∈ l, (Lit.int .i64 s.f0).wf = true ∧ (Lit.int .i64 s.f1).wf = true ∧ (Lit.int .i64 s.f2).wf = true ∧ (Lit.int .i64 s.f3).wf = true ∧ (∀ x ∈ s.f4, (Lit.int .u8 x).wf = true)) (wb : ∀ x ∈ b, (Lit.int .u8 x).wf = true) : ∃ kk, waggonerlaw07_ExtentBack.f kk l b = some true := by
  have hb := Pl.wf_u8 wb
  have hld : ∀ s ∈ l, Pl.byteB s.f4 = true := fun s hs => Pl.wf_u8 (wl s hs).2.2.2.2
  refine ⟨2, ?_⟩
  unfold waggonerlaw07_ExtentBack.f waggonerlaw07_awake.f waggonerlaw07_Few.f
  rw [Option.bind_some, Option.bind_some]
  have out : waggonerlaw07_ExtentBack.j0 2 l b true true = some true := by
    simp only [waggonerlaw07_ExtentBack.j0]
    rw [if_pos trivial]
  by_cases c0 : (decide (l.length ≤ 70) && l.all fun s => decide (s.f4.length ≤ 3000)) = true
  rotate_left
  · rw [if_neg c0]; exact out
  rw [if_pos c0]
  by_cases c1 : (b.length : Int) > 5000
  · rw [decide_eq_true c1]; exact out
  rw [decide_eq_false c1]
  have h70 : l.length ≤ 70 := by rw [Bool.and_eq_true, decide_eq_true_eq] at c0; exact c0.1
  have hR : ∀ x, Pl.byteB x = true → x.length < 1000000000 → extent_Read.f x = some ((Pl.ereadS x).1.map ofE, (Pl.ereadS x).2) := by
    intro x h1 h2
    unfold extent_Read.f
    rw [if_pos ⟨h1, h2⟩]
    rfl
  have hj : waggonerlaw07_ExtentBack.j1 1 b true false = some true := by
    simp only [waggonerlaw07_ExtentBack.j1]
    obtain ⟨hr, hr64⟩ := Pl.ereadS_byte hb
    rw [if_neg (by decide), hR b hb (by omega), Option.bind_some, extent_Write.tells (by rw [List.length_map]; omega), Option.bind_some, if_pos trivial, map_toE_ofE]
    rcases Pl.ereadS_cases hb with ⟨m, he, hw, hr⟩ | ⟨-, hr⟩
    · rw [hr]
      dsimp only
      rw [Pl.ewriteS, if_pos he, if_pos rfl, if_pos rfl, ← hw]
      simp
    · rw [hr]
      rfl
  have hmap : ∀ e ∈ l.map toE, Pl.byteB e.2.2.2.2 = true := by
    intro e he
    obtain ⟨s, hs, rfl⟩ := List.mem_map.1 he
    exact hld s hs
  simp only [waggonerlaw07_ExtentBack.j0]
  rw [if_neg (by decide), extent_Write.tells (by omega), Option.bind_some]
  by_cases ha : Pl.eAll (l.map toE) = true
  · have hle := Pl.extsW_le ha
    rw [Pl.ewriteS, if_pos ha, hR _ (Pl.extsW_byte ha hmap) (by omega), Pl.ereadS_write ha, Option.bind_some, if_pos rfl, if_pos rfl, waggonerref07_All.tells hld (by rw [map_ofE_toE]; exact hld) (by omega), Option.bind_some, map_ofE_toE, decide_eq_true rfl, if_pos rfl]
    exact hj
  · rw [Pl.ewriteS, if_neg ha, hR [] rfl (by decide), Option.bind_some, if_neg (by decide)]
    exact hj
end Go.Proofs.Ytcemlfkboifncaa.Pure
