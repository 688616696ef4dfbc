/- For any extent and numbers the law's answer is true: cut to all blocks it is itself, and a part's bytes are those of the whole at its place. -/
import Derived.Test.YtcemlfkboifncaaPKx36
import Derived.Test.YtcemlfkboifncaaExtc
import Derived.Test.YtcemlfkboifncaaStr
namespace Go.Proofs.Ytcemlfkboifncaa.Pure
open Go.RowKit Go.Proofs.Ytcemlfkboifncaa.PK Go.Proofs.YtcemlfkboifncaaW.PrintWords Go.Proofs.YtcemlfkboifncaaW.PrintLast
set_option linter.unusedVariables false
theorem ExtentCuts (a n k g : Int) (l : List Int) (b m : Int) (w0 : (Lit.int .i64 a).wf = true) (w1 : (Lit.int .i64 n).wf = true) (w2 : (Lit.int .i64 k).wf = true) (w3 : (Lit.int .i64 g).wf = true) (wl : ∀ x ∈ l, (Lit.int .u8 x).wf = true) (wi : (Lit.int .i64 b).wf = true) (wj : (Lit.int .i64 m).wf = true) : ∃ kk, waggonerlaw07_ExtentCuts.f kk a n k g l b m = some true := by
  have hl := Pl.wf_u8 wl
  refine ⟨2, ?_⟩
  unfold waggonerlaw07_ExtentCuts.f waggonerlaw07_awake.f extent_Check.f
  rw [Option.bind_some]
  have out : waggonerlaw07_ExtentCuts.j0 2 b m true true a n k g l = some true := by
    simp only [waggonerlaw07_ExtentCuts.j0]
    rw [if_pos trivial]
  by_cases c0 : (l.length : Int) > 3000
  · rw [if_pos c0]; exact out
  rw [if_neg c0, Option.bind_some]
  by_cases h : Pl.extOk a n k g l = true
  rotate_left
  · rw [Bool.eq_false_iff.2 h]; exact out
  rw [h]
  have hx := Pl.extOk_iff.1 h
  have c1 := Pl.cut_at (i := 0) (j := n) h (b := 0) (m := 64) (by omega) (by omega) (by omega) (by omega) (by omega) (by omega) (by omega)
  rw [Pl.part_all h, show a + 0 = a by omega, show n - 0 = n by omega] at c1
  have hB := Pl.extBytes_length h
  have hBy := Pl.extBytes_byte (a := a) (n := n) (k := k) (g := g) hl
  simp only [waggonerlaw07_ExtentCuts.j0]
  rw [if_neg (by decide), extent_Cut.f, c1, Option.bind_some, extent_Cut.f, Option.bind_some, extent_Bytes.f, Option.bind_some, extent_Bytes.f, Option.bind_some]
  dsimp only
  rw [if_pos rfl, if_pos rfl, if_pos rfl, if_pos rfl, if_pos rfl, if_pos rfl, show wrap64 (32 * n) = n * 32 by unfold wrap64; omega]
  rw [show (((Pl.extBytes a n k g l).length : Int) != n * 32) = false by rw [bne_eq_false_iff_eq, hB]; omega]
  simp only [waggonerlaw07_ExtentCuts.j1]
  rw [if_neg (by decide)]
  by_cases hc : (Pl.cutS a n k g l b m).2.2.2.2.2 = true
  rotate_left
  · rw [Pl.cut_false hc, if_neg (by decide), if_pos trivial, Pl.extBytes_none (by decide)]
    rfl
  obtain ⟨-, b0, b1, m0, m1, hlt, hcut⟩ := Pl.cut_true hc
  obtain ⟨i, hi⟩ : ∃ i, i = max a b - a := ⟨_, rfl⟩
  obtain ⟨j, hj⟩ : ∃ j, j = min (a + n) (b + m) - a := ⟨_, rfl⟩
  rw [← hi, ← hj, show max a b = a + i by omega, show min (a + n) (b + m) - (a + i) = j - i by omega] at hcut
  have hp := Pl.extBytes_part h (i := i) (j := j) (by omega) (by omega) (by omega)
  have hpl := Pl.extBytes_length (Pl.part_ok h (i := i) (j := j) (by omega) (by omega) (by omega))
  rw [hcut]
  dsimp only
  have v1 : wrap64 (32 * wrap64 (a + i - a)) = i * 32 := by unfold wrap64; omega
  have v2 : wrap64 (32 * (j - i)) = (j - i) * 32 := by unfold wrap64; omega
  have v3 : wrap64 (a + i + (j - i)) = a + j := by unfold wrap64; omega
  have v4 : wrap64 (b + m) = b + m := by unfold wrap64; omega
  obtain ⟨N, hN⟩ : ∃ N, N = (Pl.extBytes (a + i) (j - i) k g (Pl.part k l i j)).length := ⟨_, rfl⟩
  rw [← hN] at hpl ⊢
  have v5 : wrap64 (i * 32 + (N : Int)) = j * 32 := by unfold wrap64; omega
  rw [v1, v2, v3, v4, v5, if_pos rfl, if_neg (by omega), if_neg (by rw [hB]; omega), if_pos (by omega), if_pos trivial, if_pos (by omega), if_pos (by omega), if_pos (by omega), if_pos (by omega), if_pos (by rw [hB]; omega), if_pos (by rw [hp]), if_pos rfl]
  simp
end Go.Proofs.Ytcemlfkboifncaa.Pure
