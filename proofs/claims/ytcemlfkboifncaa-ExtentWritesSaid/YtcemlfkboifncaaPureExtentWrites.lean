/- For any extents and bytes the law's answer is true: both texts write and read what the closed form says. -/
import Derived.Test.YtcemlfkboifncaaPGx54
import Derived.Test.YtcemlfkboifncaaExtc
import Derived.Test.YtcemlfkboifncaaStr
namespace Go.Proofs.Ytcemlfkboifncaa.Pure
open Go.RowKit Go.Proofs.Ytcemlfkboifncaa.PG Go.Proofs.YtcemlfkboifncaaW.PrintWords Go.Proofs.YtcemlfkboifncaaW.PrintLast
set_option linter.unusedVariables false
theorem ExtentWrites (l : List S46) (b : List Int) (wl : ∀ s ∈ l, (Lit.int .i64 s.f0).wf = true ∧ (Lit.int .i64 s.f1).wf = true ∧ (Lit.int .i64 s.f2).wf = true ∧ (Lit.int .i64 s.f3).wf = true ∧ (∀ x ∈ s.f4, (Lit.int .u8 x).wf = true)) (wb : ∀ x ∈ b, (Lit.int .u8 x).wf = true) : ∃ kk, waggonerlaw07_ExtentWrites.f kk l b = some true := by
  have hb := Pl.wf_u8 wb
  refine ⟨1, ?_⟩
  unfold waggonerlaw07_ExtentWrites.f waggonerlaw07_awake.f waggonerlaw07_Few.f
  rw [Option.bind_some, Option.bind_some]
  have out : waggonerlaw07_ExtentWrites.j0 1 l b true true = some true := by
    simp only [waggonerlaw07_ExtentWrites.j0]
    rw [if_pos trivial]
  by_cases c0 : (decide (l.length ≤ 70) && l.all fun s => decide (s.f4.length ≤ 3000)) = true
  rotate_left
  · rw [if_neg c0]; exact out
  rw [if_pos c0]
  by_cases c1 : (b.length : Int) > 5000
  · rw [decide_eq_true c1]; exact out
  rw [decide_eq_false c1]
  have h70 : l.length ≤ 70 := by rw [Bool.and_eq_true, decide_eq_true_eq] at c0; exact c0.1
  obtain ⟨hr, hr64⟩ := Pl.ereadS_byte hb
  have hm : ∀ s ∈ (Pl.ereadS b).1.map ofE, Pl.byteB s.f4 = true := by
    intro s hs
    obtain ⟨e, he, rfl⟩ := List.mem_map.1 hs
    exact hr e he
  have hR : extent_Read.f b = some ((Pl.ereadS b).1.map ofE, (Pl.ereadS b).2) := by
    unfold extent_Read.f
    rw [if_pos ⟨hb, by omega⟩]
    rfl
  have hR' : waggonerref07_Read.f b = some ((Pl.ereadS b).1.map ofE, (Pl.ereadS b).2) := by
    unfold waggonerref07_Read.f
    rw [if_pos ⟨hb, by omega⟩]
  simp only [waggonerlaw07_ExtentWrites.j0]
  rw [if_neg (by decide), extent_Write.tells (by omega), Option.bind_some, waggonerref07_Write.f, Option.bind_some, hR, Option.bind_some, hR', Option.bind_some, waggonerref07_All.tells hm hm (by rw [List.length_map]; omega), Option.bind_some, if_pos trivial, if_pos rfl, if_pos rfl, decide_eq_true rfl, if_pos rfl]
  simp
end Go.Proofs.Ytcemlfkboifncaa.Pure
