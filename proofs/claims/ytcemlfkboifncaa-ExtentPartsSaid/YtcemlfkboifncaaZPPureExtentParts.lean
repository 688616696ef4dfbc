/- Words and walks that this claim names, of those that the kit's print and programs of this workplace have printed. -/
import Derived.Test.YtcemlfkboifncaaZPPPx36
import Derived.Test.YtcemlfkboifncaaZPExtc
import Derived.Test.YtcemlfkboifncaaZPStr
namespace Go.Proofs.Ytcemlfkboifncaa.Pure
open Go Go.RowKit Go.Proofs.Ytcemlfkboifncaa.PP Go.Proofs.YtcemlfkboifncaaW.PrintWords Go.Proofs.YtcemlfkboifncaaW.PrintLast
set_option linter.unusedVariables false
theorem same_self (e : Pl.Ext) (h : Pl.byteB e.2.2.2.2 = true) : waggonerref07_Same.f e.1 e.2.1 e.2.2.1 e.2.2.2.1 e.2.2.2.2 e.1 e.2.1 e.2.2.1 e.2.2.2.1 e.2.2.2.2 = some true := by
  rw [waggonerref07_Same.tells h h, decide_eq_true rfl]
theorem cut_cut {a n k g : Int} {l : List Int} (h : Pl.extOk a n k g l = true) {m f c : Int} (m0 : 0 < m) (mn : m < n) (f0 : 0 ≤ f) (f1 : f ≤ 64) (c0 : 0 ≤ c) (c1 : c ≤ 64) :
    Pl.cutS a m k g (Pl.part k l 0 m) f c = Pl.cutS (Pl.cutS a n k g l f c).1 (Pl.cutS a n k g l f c).2.1 (Pl.cutS a n k g l f c).2.2.1 (Pl.cutS a n k g l f c).2.2.2.1 (Pl.cutS a n k g l f c).2.2.2.2.1 0 (a + m) := by
  have q := Pl.extOk_iff.1 h
  have ha : Pl.extOk a m k g (Pl.part k l 0 m) = true := by
    have := Pl.part_ok h (i := 0) (j := m) (by omega) m0 (by omega)
    rwa [show a + 0 = a by omega, show m - 0 = m by omega] at this
  by_cases hd : max a f < min (a + n) (f + c)
  · obtain ⟨i, hi⟩ : ∃ i, i = max a f - a := ⟨_, rfl⟩
    obtain ⟨j, hj⟩ : ∃ j, j = min (a + n) (f + c) - a := ⟨_, rfl⟩
    rw [Pl.cut_at (i := i) (j := j) h f0 f1 c0 c1 (by omega) (by omega) (by omega)]
    dsimp only
    have hp := Pl.part_ok h (i := i) (j := j) (by omega) (by omega) (by omega)
    by_cases he : i < min j m
    · rw [Pl.cut_at (i := i) (j := min j m) ha f0 f1 c0 c1 (by omega) (by omega) he, Pl.cut_at (i := 0) (j := min j m - i) hp (by omega) (by omega) (by omega) (by omega) (by omega) (by omega) (by omega),
        Pl.part_part l (by omega) (by omega) (by omega) (by omega), Pl.part_part l (by omega) (by omega) (by omega) (by omega)]
      rw [show a + i + 0 = a + i by omega, show min j m - i - 0 = min j m - i by omega, show (0 : Int) + i = i by omega, show (0 : Int) + min j m = min j m by omega, show i + 0 = i by omega, show i + (min j m - i) = min j m by omega]
    · rw [Pl.cut_none (by omega), Pl.cut_none (by omega)]
  · rw [Pl.cut_none hd, Pl.cut_none (by omega)]
    dsimp only
    rw [Pl.cut_bad (by decide)]
theorem ExtentParts (a n k g : Int) (l : List Int) (u f c : Int) (w0 : (Lit.int .i64 a).wf = true) (w1 : (Lit.int .i64 n).wf = true) (w2 : (Lit.int .i64 k).wf = true) (w3 : (Lit.int .i64 g).wf = true) (wl : ∀ x ∈ l, (Lit.int .u8 x).wf = true) (wu : (Lit.int .u8 u).wf = true) (wf : (Lit.int .u8 f).wf = true) (wc : (Lit.int .u8 c).wf = true) : ∃ kk, waggonerlaw07_ExtentParts.f kk a n k g l u f c = some true := by
  have hl := Pl.wf_u8 wl
  have hu := Pl.wf_byte wu
  have hf := Pl.wf_byte wf
  have hc := Pl.wf_byte wc
  refine ⟨1, ?_⟩
  unfold waggonerlaw07_ExtentParts.f waggonerlaw07_awake.f extent_Check.f
  rw [Option.bind_some, Option.bind_some]
  have out : waggonerlaw07_ExtentParts.j0 1 u f c true true a n k g l = some true := by
    simp only [waggonerlaw07_ExtentParts.j0]
    rw [if_pos trivial]
  by_cases h : Pl.extOk a n k g l = true
  rotate_left
  · rw [if_neg h]; exact out
  rw [if_pos h]
  by_cases h3 : n < 2
  · rw [decide_eq_true h3]; exact out
  rw [decide_eq_false h3]
  have q := Pl.extOk_iff.1 h
  have e1 : wrap64 (n - 1) = n - 1 := by unfold wrap64; omega
  have e2 : Int.tmod (wrap64 u) (n - 1) = u % (n - 1) := by rw [show wrap64 u = u by unfold wrap64; omega]; exact Int.tmod_eq_emod_of_nonneg hu.1
  have q0 := Int.emod_nonneg u (show n - 1 ≠ 0 by omega)
  have q1 := Int.emod_lt_of_pos u (show (0 : Int) < n - 1 by omega)
  obtain ⟨m, hm⟩ : ∃ m, m = 1 + u % (n - 1) := ⟨_, rfl⟩
  have e3 : wrap64 (1 + u % (n - 1)) = m := by rw [← hm]; unfold wrap64; omega
  have e4 : wrap64 (a + m) = a + m := by unfold wrap64; omega
  have e5 : Int.tmod (wrap64 f) 65 = f % 65 := by rw [show wrap64 f = f by unfold wrap64; omega]; exact Int.tmod_eq_emod_of_nonneg hf.1
  have e6 : Int.tmod (wrap64 c) 65 = c % 65 := by rw [show wrap64 c = c by unfold wrap64; omega]; exact Int.tmod_eq_emod_of_nonneg hc.1
  simp only [waggonerlaw07_ExtentParts.j0]
  rw [if_neg (by decide), e1, if_neg (by omega), e2, e3, e4, e5, e6]
  have m0 : 0 < m := by omega
  have mn : m < n := by omega
  have f0 : 0 ≤ f % 65 := by omega
  have f1 : f % 65 ≤ 64 := by omega
  have c0 : 0 ≤ c % 65 := by omega
  have c1 : c % 65 ≤ 64 := by omega
  generalize f % 65 = x at f0 f1
  generalize c % 65 = y at c0 c1
  clear e1 e2 e3 e4 e5 e6 q0 q1 hm hu hf hc wu wf wc
  have k1 := Pl.cut_at (i := 0) (j := m) h (b := 0) (m := a + m) (by omega) (by omega) (by omega) (by omega) (by omega) (by omega) m0
  have k2 := Pl.cut_at (i := m) (j := n) h (b := a + m) (m := 64) (by omega) (by omega) (by omega) (by omega) (by omega) (by omega) mn
  obtain ⟨j1, j2⟩ := Pl.join_parts h (i := 0) (j := m) (m := n) (by omega) m0 mn (by omega)
  have p1 := Pl.part_ok h (i := 0) (j := m) (by omega) m0 (by omega)
  have p2 := Pl.part_ok h (i := m) (j := n) (by omega) mn (by omega)
  have hall := Pl.part_all h
  rw [show a + 0 = a by omega, show m - 0 = m by omega] at k1 j1 j2 p1
  rw [hall, show n - 0 = n by omega] at j2
  have hcc := cut_cut h m0 mn f0 f1 c0 c1
  have hB : Pl.extBytes a n k g l = Pl.extBytes a m k g (Pl.part k l 0 m) ++ Pl.extBytes (a + m) (n - m) k g (Pl.part k l m n) := by
    have hj : Pl.extOk a (m + (n - m)) k g (Pl.part k l 0 m ++ Pl.part k l m n) = true := Pl.join_ok j1
    have := Pl.extBytes_join p1 p2 hj
    rwa [show m + (n - m) = n by omega, Pl.part_join h (by omega) (by omega) (by omega) (by omega), hall] at this
  have l1 := Pl.extBytes_length p1
  have l2 := Pl.extBytes_length p2
  have s1 := same_self (a, n, k, g, l) hl
  dsimp only at s1
  have hcb := Pl.cut_byte (a := a) (n := n) (k := k) (g := g) (b := x) (m := y) hl
  have hpb : Pl.byteB (Pl.part k l 0 m) = true := Pl.part_byte hl _ _
  have s2 := waggonerref07_Same.tells (a0_0 := (Pl.cutS a m k g (Pl.part k l 0 m) x y).1) (a0_1 := (Pl.cutS a m k g (Pl.part k l 0 m) x y).2.1) (a0_2 := (Pl.cutS a m k g (Pl.part k l 0 m) x y).2.2.1) (a0_3 := (Pl.cutS a m k g (Pl.part k l 0 m) x y).2.2.2.1) (a1_0 := (Pl.cutS a m k g (Pl.part k l 0 m) x y).1) (a1_1 := (Pl.cutS a m k g (Pl.part k l 0 m) x y).2.1) (a1_2 := (Pl.cutS a m k g (Pl.part k l 0 m) x y).2.2.1) (a1_3 := (Pl.cutS a m k g (Pl.part k l 0 m) x y).2.2.2.1) (Pl.cut_byte (a := a) (n := m) (k := k) (g := g) (b := x) (m := y) hpb) (Pl.cut_byte (a := a) (n := m) (k := k) (g := g) (b := x) (m := y) hpb)
  rw [decide_eq_true rfl] at s2
  simp only [extent_Cut.f, extent_Join.f, extent_Joins.f, extent_Bytes.f, extent_Check.f, k1, k2, j1, j2, Option.bind_some]
  rw [← hcc, s1, s2]
  simp only [Option.bind_some, if_true]
  rw [if_pos (by omega), if_pos (by rw [hB])]
  by_cases hd : (Pl.cutS a n k g l x y).2.2.2.2.2 = true
  · obtain ⟨-, -, -, -, -, hlt, hcut⟩ := Pl.cut_true hd
    have ho : Pl.extOk (Pl.cutS a n k g l x y).1 (Pl.cutS a n k g l x y).2.1 (Pl.cutS a n k g l x y).2.2.1 (Pl.cutS a n k g l x y).2.2.2.1 (Pl.cutS a n k g l x y).2.2.2.2.1 = true := by
      rw [hcut]
      have := Pl.part_ok h (i := max a x - a) (j := min (a + n) (x + y) - a) (by omega) (by omega) (by omega)
      rwa [show a + (max a x - a) = max a x by omega, show min (a + n) (x + y) - a - (max a x - a) = min (a + n) (x + y) - max a x by omega] at this
    rw [if_pos hd, if_pos ho, if_pos (by simp)]
  · rw [if_neg hd, if_pos (by simp)]
end Go.Proofs.Ytcemlfkboifncaa.Pure
