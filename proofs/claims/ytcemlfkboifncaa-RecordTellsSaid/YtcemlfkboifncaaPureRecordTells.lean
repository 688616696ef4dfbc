/- For any record, bytes and number the law's answer is true: both texts check, write and read what the closed form says. -/
import Derived.Test.YtcemlfkboifncaaPTx56
import Derived.Test.YtcemlfkboifncaaRec
import Derived.Test.YtcemlfkboifncaaStr
namespace Go.Proofs.Ytcemlfkboifncaa.Pure
open Go.RowKit Go.Proofs.Ytcemlfkboifncaa.PT Go.Proofs.YtcemlfkboifncaaW.PrintWords Go.Proofs.YtcemlfkboifncaaW.PrintLast
set_option linter.unusedVariables false
theorem tells_same (k s : Int) (l : List Int) : waggonerref05_Same.f k s l k s l = some true := by
  unfold waggonerref05_Same.f
  rw [if_pos rfl, if_pos rfl]
  simp
theorem tells_size (n : Int) (h0 : -9223372036854775808 ≤ n) (h1 : n < 9223372036854775808) : ∃ m, record_Size.f n = some m ∧ waggonerref05_Size.f n = some m := by
  unfold record_Size.f waggonerref05_Size.f
  by_cases c0 : n < 0
  · rw [if_pos c0, if_pos c0]; exact ⟨_, rfl, rfl⟩
  rw [if_neg c0, if_neg c0]
  by_cases c1 : n > 4096
  · rw [if_pos c1, if_pos c1]; exact ⟨_, rfl, rfl⟩
  rw [if_neg c1, if_neg c1]
  exact ⟨n + 20, by rw [Option.some.injEq]; unfold wrap64; omega, by rw [Option.some.injEq]; unfold wrap64; omega⟩
theorem RecordTells (k s : Int) (l b : List Int) (n : Int) (wk : (Lit.int .i64 k).wf = true) (ws : (Lit.int .i64 s).wf = true) (wl : ∀ x ∈ l, (Lit.int .u8 x).wf = true) (wb : ∀ x ∈ b, (Lit.int .u8 x).wf = true) (wn : (Lit.int .i64 n).wf = true) : ∃ kk, waggonerlaw05_RecordTells.f kk k s l b n = some true := by
  have hl := Pl.wf_u8 wl
  have hb := Pl.wf_u8 wb
  obtain ⟨n0, n1⟩ := Pl.wf_i64 wn
  refine ⟨1, ?_⟩
  unfold waggonerlaw05_RecordTells.f waggonerlaw05_awake.f
  rw [Option.bind_some]
  have out : waggonerlaw05_RecordTells.j0 1 b n true true k s l = some true := by
    simp only [waggonerlaw05_RecordTells.j0]
    rw [if_pos trivial]
  by_cases c0 : (l.length : Int) > 5000
  · rw [if_pos c0]; exact out
  rw [if_neg c0]
  by_cases c1 : (b.length : Int) > 5000
  · rw [decide_eq_true c1]; exact out
  rw [decide_eq_false c1]
  obtain ⟨m, hm1, hm2⟩ := tells_size n n0 n1
  simp only [waggonerlaw05_RecordTells.j0]
  rw [if_neg (by decide), show record_Write.f k s l = some (Pl.rwriteS k s l) from by unfold record_Write.f; rw [if_pos hl], Option.bind_some,
    show waggonerref05_Write.f k s l = some (Pl.rwriteS k s l) from by unfold waggonerref05_Write.f; rw [if_pos hl], Option.bind_some,
    show record_Read.f b = some (Pl.rreadS b) from by unfold record_Read.f; rw [if_pos ⟨hb, by omega⟩], Option.bind_some,
    show waggonerref05_Read.f b = some (Pl.rreadS b) from by unfold waggonerref05_Read.f; rw [if_pos ⟨hb, by omega⟩], Option.bind_some,
    tells_same, Option.bind_some, if_pos trivial, record_Check.tells, Option.bind_some, waggonerref05_Check.tells, Option.bind_some, if_pos rfl, if_pos rfl, if_pos rfl, if_pos rfl, if_pos rfl, if_pos rfl, hm1, Option.bind_some, hm2, Option.bind_some]
  simp
end Go.Proofs.Ytcemlfkboifncaa.Pure
