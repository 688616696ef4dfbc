/- For any two records the law's answer is true: unlike records have unlike bytes, and neither one's begin with the other one's. -/
import Derived.Test.YtcemlfkboifncaaPUx35
import Derived.Test.YtcemlfkboifncaaRec
import Derived.Test.YtcemlfkboifncaaStr
namespace Go.Proofs.Ytcemlfkboifncaa.Pure
open Go.RowKit Go.Proofs.Ytcemlfkboifncaa.PU Go.Proofs.YtcemlfkboifncaaW.PrintWords Go.Proofs.YtcemlfkboifncaaW.PrintLast
set_option linter.unusedVariables false
theorem apart_same {k s k' s' : Int} {l l' : List Int} (hb : Pl.byteB l = true) (hb' : Pl.byteB l' = true) : waggonerref05_Same.f k s l k' s' l' = some (decide (k = k' ∧ s = s' ∧ l = l')) := by
  unfold waggonerref05_Same.f
  by_cases h1 : k = k'
  · rw [if_pos h1]
    by_cases h2 : s = s'
    · rw [if_pos h2, Pl.str_eq hb hb']
      simp [h1, h2]
      by_cases e : l = l' <;> simp [e]
    · rw [if_neg h2]; simp [h2]
  · rw [if_neg h1]; simp [h1]
/-- One record's bytes that another one's begin with. -/
theorem apart_prefix {k s k' s' : Int} {l l' : List Int} (h : Pl.recOk k s l = true) (h' : Pl.recOk k' s' l' = true) (hp : (Pl.recB k' s' l').take (Pl.recB k s l).length = Pl.recB k s l) : k = k' ∧ s = s' ∧ l = l' := by
  have e : Pl.recB k' s' l' = Pl.recB k s l ++ (Pl.recB k' s' l').drop (Pl.recB k s l).length := by
    conv => lhs; rw [← List.take_append_drop (Pl.recB k s l).length (Pl.recB k' s' l'), hp]
  have h1 := Pl.rreadS_write [] h'
  rw [List.append_nil, e, Pl.rreadS_write _ h] at h1
  simp only [Prod.mk.injEq] at h1
  exact ⟨h1.1, h1.2.1, h1.2.2.1⟩
theorem RecordApart (k s : Int) (l : List Int) (k' s' : Int) (l' : List Int) (wk : (Lit.int .i64 k).wf = true) (ws : (Lit.int .i64 s).wf = true) (wl : ∀ x ∈ l, (Lit.int .u8 x).wf = true) (wk' : (Lit.int .i64 k').wf = true) (ws' : (Lit.int .i64 s').wf = true) (wl' : ∀ x ∈ l', (Lit.int .u8 x).wf = true) : waggonerlaw05_RecordApart.f k s l k' s' l' = some true := by
  have hl := Pl.wf_u8 wl
  have hl' := Pl.wf_u8 wl'
  unfold waggonerlaw05_RecordApart.f waggonerlaw05_awake.f
  rw [Option.bind_some, show record_Write.f k s l = some (Pl.rwriteS k s l) from by unfold record_Write.f; rw [if_pos hl], Option.bind_some, show record_Write.f k' s' l' = some (Pl.rwriteS k' s' l') from by unfold record_Write.f; rw [if_pos hl'], Option.bind_some]
  unfold Pl.rwriteS
  by_cases ho : Pl.recOk k s l = true
  · by_cases ho' : Pl.recOk k' s' l' = true
    · rw [if_pos ho, if_pos ho', if_pos rfl, if_pos rfl]
      by_cases c0 : (l.length : Int) > 300
      · rw [if_pos c0]
      by_cases c1 : (l'.length : Int) > 300
      · rw [if_neg c0, if_pos c1]
      have z := Pl.recB_length k s l
      have z' := Pl.recB_length k' s' l'
      rw [if_neg c0, if_neg c1, apart_same hl hl', Option.bind_some, if_pos rfl]
      obtain ⟨m, hm⟩ : ∃ m, m = min (Pl.recB k s l).length (Pl.recB k' s' l').length := ⟨_, rfl⟩
      have hmn : mn ((Pl.recB k s l).length : Int) ((Pl.recB k' s' l').length : Int) = (m : Int) := by unfold mn; omega
      dsimp only
      rw [hmn, if_pos (by omega), if_pos (by omega), if_pos (by omega), Int.toNat_natCast, Pl.str_eq (Pl.byteB_take (Pl.recB_byte hl) _) (Pl.byteB_take (Pl.recB_byte hl') _)]
      rw [Option.some.injEq, beq_iff_eq, Bool.eq_iff_iff, beq_iff_eq, decide_eq_true_eq]
      constructor
      · intro h
        by_cases hle : (Pl.recB k s l).length ≤ (Pl.recB k' s' l').length
        · rw [show m = (Pl.recB k s l).length from by omega, List.take_length] at h
          exact apart_prefix ho ho' h.symm
        · rw [show m = (Pl.recB k' s' l').length from by omega, List.take_length] at h
          obtain ⟨e1, e2, e3⟩ := apart_prefix ho' ho h
          exact ⟨e1.symm, e2.symm, e3.symm⟩
      · rintro ⟨rfl, rfl, rfl⟩
        rfl
    · rw [if_pos ho, if_neg ho', if_pos rfl, if_neg (by decide)]
  · rw [if_neg ho, if_neg (by decide)]
end Go.Proofs.Ytcemlfkboifncaa.Pure
