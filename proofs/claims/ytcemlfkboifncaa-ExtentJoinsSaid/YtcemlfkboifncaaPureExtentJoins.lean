/- For any extent and numbers the law's answer is true: of three parts it does not matter which two are joined first. -/
import Derived.Test.YtcemlfkboifncaaPJx36
import Derived.Test.YtcemlfkboifncaaExtc
import Derived.Test.YtcemlfkboifncaaStr
namespace Go.Proofs.Ytcemlfkboifncaa.Pure
open Go.RowKit Go.Proofs.Ytcemlfkboifncaa.PJ Go.Proofs.YtcemlfkboifncaaW.PrintWords Go.Proofs.YtcemlfkboifncaaW.PrintLast
set_option linter.unusedVariables false
theorem same_self (e : Pl.Ext) (h : Pl.byteB e.2.2.2.2 = true) : waggonerref07_Same.f e.1 e.2.1 e.2.2.1 e.2.2.2.1 e.2.2.2.2 e.1 e.2.1 e.2.2.1 e.2.2.2.1 e.2.2.2.2 = some true := by
  rw [waggonerref07_Same.tells h h, decide_eq_true rfl]
theorem joins_core {a n k g : Int} {l : List Int} (h : Pl.extOk a n k g l = true) (hl : Pl.byteB l = true) {m q : Int} (m0 : 0 < m) (mq : m < q) (qn : q < n) :
    ((extent_Cut.f a n k g l 0 (a + m)).bind fun bt288 => ((extent_Cut.f a n k g l (a + m) (q - m)).bind fun bt297 => ((extent_Cut.f a n k g l (a + q) 64).bind fun bt306 => ((extent_Join.f bt288.1 bt288.2.1 bt288.2.2.1 bt288.2.2.2.1 bt288.2.2.2.2.1 bt297.1 bt297.2.1 bt297.2.2.1 bt297.2.2.2.1 bt297.2.2.2.2.1).bind fun bt315 => ((extent_Join.f bt315.1 bt315.2.1 bt315.2.2.1 bt315.2.2.2.1 bt315.2.2.2.2.1 bt306.1 bt306.2.1 bt306.2.2.1 bt306.2.2.2.1 bt306.2.2.2.2.1).bind fun bt324 => ((extent_Join.f bt297.1 bt297.2.1 bt297.2.2.1 bt297.2.2.2.1 bt297.2.2.2.2.1 bt306.1 bt306.2.1 bt306.2.2.1 bt306.2.2.2.1 bt306.2.2.2.2.1).bind fun bt333 => ((extent_Join.f bt288.1 bt288.2.1 bt288.2.2.1 bt288.2.2.2.1 bt288.2.2.2.2.1 bt333.1 bt333.2.1 bt333.2.2.1 bt333.2.2.2.1 bt333.2.2.2.2.1).bind fun bt342 => ((extent_Join.f bt288.1 bt288.2.1 bt288.2.2.1 bt288.2.2.2.1 bt288.2.2.2.2.1 bt306.1 bt306.2.1 bt306.2.2.1 bt306.2.2.2.1 bt306.2.2.2.2.1).bind fun bt351 => ((waggonerref07_Same.f bt324.1 bt324.2.1 bt324.2.2.1 bt324.2.2.2.1 bt324.2.2.2.2.1 bt342.1 bt342.2.1 bt342.2.2.1 bt342.2.2.2.1 bt342.2.2.2.2.1).bind fun t360 => (if t360 = true then ((waggonerref07_Same.f bt324.1 bt324.2.1 bt324.2.2.1 bt324.2.2.2.1 bt324.2.2.2.2.1 a n k g l).bind fun t361 => (if true = true then (if bt315.2.2.2.2.2 = 0 then (if bt324.2.2.2.2.2 = 0 then (if bt333.2.2.2.2.2 = 0 then (if bt342.2.2.2.2.2 = 0 then (if bt351.2.2.2.2.2 = 70 then (some t361) else (some false)) else (some false)) else (some false)) else (some false)) else (some false)) else (some false))) else (if true = true then (if bt315.2.2.2.2.2 = 0 then (if bt324.2.2.2.2.2 = 0 then (if bt333.2.2.2.2.2 = 0 then (if bt342.2.2.2.2.2 = 0 then (if bt351.2.2.2.2.2 = 70 then (some false) else (some false)) else (some false)) else (some false)) else (some false)) else (some false)) else (some false)))))))))))) = some true := by
  obtain ⟨h1, h2, h3, h4, h5, h6, h7, h8, h9⟩ := Pl.extOk_iff.1 h
  have c1 := Pl.cut_at (i := 0) (j := m) h (b := 0) (m := a + m) (by omega) (by omega) (by omega) (by omega) (by omega) (by omega) m0
  have c2 := Pl.cut_at (i := m) (j := q) h (b := a + m) (m := q - m) (by omega) (by omega) (by omega) (by omega) (by omega) (by omega) mq
  have c3 := Pl.cut_at (i := q) (j := n) h (b := a + q) (m := 64) (by omega) (by omega) (by omega) (by omega) (by omega) (by omega) qn
  have j1 := (Pl.join_parts h (i := 0) (j := m) (m := q) (by omega) m0 mq (by omega)).2
  have j2 := (Pl.join_parts h (i := 0) (j := q) (m := n) (by omega) (by omega) qn (by omega)).2
  have j3 := (Pl.join_parts h (i := m) (j := q) (m := n) (by omega) mq qn (by omega)).2
  have j4 := (Pl.join_parts h (i := 0) (j := m) (m := n) (by omega) m0 (by omega) (by omega)).2
  have j5 : Pl.joinS (a + 0) (m - 0) k g (Pl.part k l 0 m) (a + q) (n - q) k g (Pl.part k l q n) = (0, 0, 0, 0, [], 70) := Pl.join_not (fun hh => by
    have := (Pl.joinsB_iff.1 hh).2.2.1
    omega)
  have ha := Pl.part_all h
  simp only [extent_Cut.f, extent_Join.f, c1, c2, c3, j1, j2, j3, j4, j5, Option.bind_some]
  rw [ha, show a + 0 = a by omega, show n - 0 = n by omega, same_self (a, n, k, g, l) hl]
  simp
theorem ExtentJoins (a n k g : Int) (l : List Int) (i j : Int) (w0 : (Lit.int .i64 a).wf = true) (w1 : (Lit.int .i64 n).wf = true) (w2 : (Lit.int .i64 k).wf = true) (w3 : (Lit.int .i64 g).wf = true) (wl : ∀ x ∈ l, (Lit.int .u8 x).wf = true) (wi : (Lit.int .u8 i).wf = true) (wj : (Lit.int .u8 j).wf = true) : ∃ kk, waggonerlaw07_ExtentJoins.f kk a n k g l i j = some true := by
  have hl := Pl.wf_u8 wl
  have hi := Pl.wf_byte wi
  have hj := Pl.wf_byte wj
  refine ⟨1, ?_⟩
  unfold waggonerlaw07_ExtentJoins.f waggonerlaw07_awake.f extent_Check.f
  rw [Option.bind_some, Option.bind_some]
  have out : waggonerlaw07_ExtentJoins.j0 1 i j true true a n k g l = some true := by
    simp only [waggonerlaw07_ExtentJoins.j0]
    rw [if_pos trivial]
  by_cases h : Pl.extOk a n k g l = true
  rotate_left
  · rw [if_neg h]; exact out
  rw [if_pos h]
  by_cases h3 : n < 3
  · rw [decide_eq_true h3]; exact out
  rw [decide_eq_false h3]
  obtain ⟨h1, h2, -, h4, h5, h6, h7, h8, h9⟩ := Pl.extOk_iff.1 h
  have e1 : wrap64 (n - 2) = n - 2 := by unfold wrap64; omega
  have e2 : Int.tmod (wrap64 i) (n - 2) = i % (n - 2) := by rw [show wrap64 i = i by unfold wrap64; omega]; exact Int.tmod_eq_emod_of_nonneg hi.1
  have q0 := Int.emod_nonneg i (show n - 2 ≠ 0 by omega)
  have q1 := Int.emod_lt_of_pos i (show (0 : Int) < n - 2 by omega)
  obtain ⟨m, hm⟩ : ∃ m, m = 1 + i % (n - 2) := ⟨_, rfl⟩
  have e3 : wrap64 (1 + i % (n - 2)) = m := by rw [← hm]; unfold wrap64; omega
  have e4 : wrap64 (wrap64 (n - m) - 1) = n - m - 1 := by unfold wrap64; omega
  have e5 : Int.tmod (wrap64 j) (n - m - 1) = j % (n - m - 1) := by rw [show wrap64 j = j by unfold wrap64; omega]; exact Int.tmod_eq_emod_of_nonneg hj.1
  have q2 := Int.emod_nonneg j (show n - m - 1 ≠ 0 by omega)
  have q3 := Int.emod_lt_of_pos j (show (0 : Int) < n - m - 1 by omega)
  obtain ⟨q, hq⟩ : ∃ q, q = m + 1 + j % (n - m - 1) := ⟨_, rfl⟩
  have e6 : wrap64 (wrap64 (m + 1) + j % (n - m - 1)) = q := by rw [hq]; unfold wrap64; omega
  have e7 : wrap64 (a + m) = a + m := by unfold wrap64; omega
  have e8 : wrap64 (q - m) = q - m := by unfold wrap64; omega
  have e9 : wrap64 (a + q) = a + q := by unfold wrap64; omega
  simp only [waggonerlaw07_ExtentJoins.j0]
  rw [if_neg (by decide), e1, if_neg (by omega), e2, e3, e4, if_neg (by omega), e5, e6, e7, e8, e9]
  exact joins_core h hl (by omega) (by omega) (by omega)
end Go.Proofs.Ytcemlfkboifncaa.Pure
