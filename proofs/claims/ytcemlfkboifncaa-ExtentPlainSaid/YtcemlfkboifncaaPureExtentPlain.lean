/- For any two extents the law's answer is true: one that is no data is bytes 0, and what joins it begins where it ends. -/
import Derived.Test.YtcemlfkboifncaaPLx36
import Derived.Test.YtcemlfkboifncaaExtc
import Derived.Test.YtcemlfkboifncaaStr
namespace Go.Proofs.Ytcemlfkboifncaa.Pure
open Go Go.RowKit Go.Proofs.Ytcemlfkboifncaa.PL Go.Proofs.YtcemlfkboifncaaW.PrintWords Go.Proofs.YtcemlfkboifncaaW.PrintLast
set_option linter.unusedVariables false
theorem str_app (l m : List Int) : ((strOfNums l) ++ (strOfNums m)).toList = (strOfNums (l ++ m)).toList := by
  rw [ByteArray.toList_eq, ByteArray.toList_eq, ByteArray.data_append, Array.toList_append, strOfNums_data, strOfNums_data, strOfNums_data, List.map_append]
theorem rd_zero (n : Nat) (i : Int) : rd (List.replicate n 0) i = 0 := by
  unfold rd
  rw [List.getD_eq_getElem?_getD, List.getElem?_replicate]
  split <;> rfl
theorem plain_zero {a n k g : Int} {l : List Int} (hk : k ≠ 2) (i : Int) : rd (Pl.extBytes a n k g l) i = 0 := by
  by_cases h : Pl.extOk a n k g l = true
  · rw [Pl.extBytes_plain h hk]; exact rd_zero _ _
  · rw [Pl.extBytes_none h]; rfl
theorem plain_loop {a n k g : Int} {l : List Int} {a' n' k' g' : Int} {l' : List Int} {x : List Int} (hx : x = Pl.extBytes a n k g l) (hlen : x.length ≤ 2048) : ∀ (d r i : Nat), x.length - i = d → i ≤ x.length → d < r →
    waggonerlaw07_ExtentPlain.l0 r true x (i : Int) a n k g l a' n' k' g' l' = some true
  | 0, r, i, hd, hi, hr => by
    obtain ⟨r, rfl⟩ : ∃ m, r = m + 1 := ⟨r - 1, by omega⟩
    simp only [waggonerlaw07_ExtentPlain.l0]
    rw [if_neg (by omega), extent_Join.f, Option.bind_some, extent_Joins.f, Option.bind_some]
    by_cases hj : Pl.joinsB a n k g l a' n' k' g' l' = true
    rotate_left
    · rw [Pl.join_not hj, if_neg hj, if_pos trivial]
      rfl
    obtain ⟨ho, ho', e1, e2, e3⟩ := Pl.joinsB_iff.1 hj
    subst e2
    subst e3
    have q := Pl.extOk_iff.1 ho
    have q' := Pl.extOk_iff.1 ho'
    have b1 := Pl.extBytes_length ho
    have b2 := Pl.extBytes_length ho'
    have hb := Pl.extBytes_join ho ho' (Pl.join_ok hj)
    have hn : Pl.joinsB a' n' k g l' a n k g l ≠ true := fun hh => by
      have := (Pl.joinsB_iff.1 hh).2.2.1
      omega
    have hJ : Pl.joinS a n k g l a' n' k g l' = (a, n + n', k, g, l ++ l', 0) := by rw [Pl.joinS, if_pos hj]
    rw [if_pos hj, hJ, extent_Bytes.f, Option.bind_some, extent_Bytes.f, Option.bind_some, if_pos (by rw [strOfNums_size, strOfNums_size]; omega), if_pos trivial]
    dsimp only
    rw [if_pos rfl, if_pos rfl, if_pos rfl, if_pos (by unfold wrap64; omega), if_pos rfl, if_pos (by unfold wrap64; omega), extent_Bytes.f, Option.bind_some, if_pos (by rw [str_app, hb]), extent_Joins.f, Option.bind_some, Bool.eq_false_iff.2 hn]
    rfl
  | d + 1, r, i, hd, hi, hr => by
    obtain ⟨r, rfl⟩ : ∃ m, r = m + 1 := ⟨r - 1, by omega⟩
    have q1 : (i : Int) < (x.length : Int) := by omega
    have q2 : (0 : Int) ≤ (i : Int) := by omega
    have q3 : wrap64 ((i : Int) + 1) = ((i + 1 : Nat) : Int) := by unfold wrap64; omega
    have ih := plain_loop (a' := a') (n' := n') (k' := k') (g' := g') (l' := l') hx hlen d r (i + 1) (by omega) (by omega) (by omega)
    simp only [waggonerlaw07_ExtentPlain.l0]
    rw [if_pos q1]
    by_cases hk : k = 2
    · rw [if_pos hk, q3]; exact ih
    · rw [if_neg hk, if_pos q2, if_pos (by rw [hx]; exact plain_zero hk _), q3]; exact ih
theorem ExtentPlain (a n k g : Int) (l : List Int) (a' n' k' g' : Int) (l' : List Int) (w0 : (Lit.int .i64 a).wf = true) (w1 : (Lit.int .i64 n).wf = true) (w2 : (Lit.int .i64 k).wf = true) (w3 : (Lit.int .i64 g).wf = true) (wl : ∀ x ∈ l, (Lit.int .u8 x).wf = true) (w5 : (Lit.int .i64 a').wf = true) (w6 : (Lit.int .i64 n').wf = true) (w7 : (Lit.int .i64 k').wf = true) (w8 : (Lit.int .i64 g').wf = true) (wl' : ∀ x ∈ l', (Lit.int .u8 x).wf = true) : ∃ kk, waggonerlaw07_ExtentPlain.f kk a n k g l a' n' k' g' l' = some true := by
  have hlen : (Pl.extBytes a n k g l).length ≤ 2048 := by
    by_cases h : Pl.extOk a n k g l = true
    · have q := Pl.extOk_iff.1 h
      rw [Pl.extBytes_length h]; omega
    · rw [Pl.extBytes_none h]; exact Nat.zero_le _
  refine ⟨2050, ?_⟩
  unfold waggonerlaw07_ExtentPlain.f waggonerlaw07_awake.f
  rw [Option.bind_some]
  have out : waggonerlaw07_ExtentPlain.j0 (2049 + 1) true true a n k g l a' n' k' g' l' = some true := by
    simp only [waggonerlaw07_ExtentPlain.j0]
    rw [if_pos trivial]
  rw [show (2050 : Nat) = 2049 + 1 from rfl]
  by_cases c0 : (l.length : Int) > 3000
  · rw [if_pos c0]; exact out
  rw [if_neg c0]
  by_cases c1 : (l'.length : Int) > 3000
  · rw [decide_eq_true c1]; exact out
  rw [decide_eq_false c1]
  simp only [waggonerlaw07_ExtentPlain.j0]
  rw [if_neg (by decide), extent_Bytes.f, Option.bind_some]
  exact plain_loop rfl hlen _ 2049 0 rfl (Nat.zero_le _) (by omega)
end Go.Proofs.Ytcemlfkboifncaa.Pure
