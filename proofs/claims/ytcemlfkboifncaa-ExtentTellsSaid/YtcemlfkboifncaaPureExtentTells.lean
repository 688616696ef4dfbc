/- For any two extents and numbers the law's answer is true: both texts check, cut, join and tell bytes as the closed form says. -/
import Derived.Test.YtcemlfkboifncaaPFx47
import Derived.Test.YtcemlfkboifncaaExtc
import Derived.Test.YtcemlfkboifncaaStr
namespace Go.Proofs.Ytcemlfkboifncaa.Pure
open Go.RowKit Go.Proofs.Ytcemlfkboifncaa.PF Go.Proofs.YtcemlfkboifncaaW.PrintWords Go.Proofs.YtcemlfkboifncaaW.PrintLast
set_option linter.unusedVariables false
theorem ExtentTells (a n k g : Int) (l : List Int) (a' n' k' g' : Int) (l' : List Int) (lba m : Int) (w0 : (Lit.int .i64 a).wf = true) (w1 : (Lit.int .i64 n).wf = true) (w2 : (Lit.int .i64 k).wf = true) (w3 : (Lit.int .i64 g).wf = true) (wl : ∀ x ∈ l, (Lit.int .u8 x).wf = true) (w5 : (Lit.int .i64 a').wf = true) (w6 : (Lit.int .i64 n').wf = true) (w7 : (Lit.int .i64 k').wf = true) (w8 : (Lit.int .i64 g').wf = true) (wl' : ∀ x ∈ l', (Lit.int .u8 x).wf = true) (w10 : (Lit.int .i64 lba).wf = true) (w11 : (Lit.int .i64 m).wf = true) : ∃ kk, waggonerlaw07_ExtentTells.f kk a n k g l a' n' k' g' l' lba m = some true := by
  have hl := Pl.wf_u8 wl
  have hl' := Pl.wf_u8 wl'
  refine ⟨2, ?_⟩
  unfold waggonerlaw07_ExtentTells.f waggonerlaw07_awake.f
  rw [Option.bind_some]
  have out : waggonerlaw07_ExtentTells.j0 2 lba m true true a n k g l a' n' k' g' l' = some true := by
    simp only [waggonerlaw07_ExtentTells.j0]
    rw [if_pos trivial]
  by_cases c0 : (l.length : Int) > 3000
  · rw [if_pos c0]; exact out
  rw [if_neg c0]
  by_cases c1 : (l'.length : Int) > 3000
  · rw [decide_eq_true c1]; exact out
  rw [decide_eq_false c1]
  have hc := Pl.cut_byte (a := a) (n := n) (k := k) (g := g) (b := lba) (m := m) hl
  have hj := Pl.join_byte (a := a) (n := n) (k := k) (g := g) (a' := a') (n' := n') (k' := k') (g' := g') hl hl'
  simp only [waggonerlaw07_ExtentTells.j0]
  rw [if_neg (by decide), extent_Cut.f, Option.bind_some, waggonerref07_Cut.f, Option.bind_some, extent_Join.f, Option.bind_some, waggonerref07_Join.f, Option.bind_some, waggonerref07_Same.tells hc hc, Option.bind_some, decide_eq_true rfl, if_pos rfl, waggonerref07_Same.tells hj hj, Option.bind_some, decide_eq_true rfl]
  simp only [waggonerlaw07_ExtentTells.j1]
  rw [if_pos trivial, extent_Check.f, Option.bind_some, waggonerref07_Check.f, Option.bind_some, if_pos (by simp), extent_Bytes.f, Option.bind_some, waggonerref07_Bytes.f, Option.bind_some, if_pos rfl, if_pos trivial, if_pos (by simp), extent_Joins.f, Option.bind_some, waggonerref07_Joins.f, Option.bind_some, if_pos (by simp)]
  simp
end Go.Proofs.Ytcemlfkboifncaa.Pure
