/- For any record the law's answer is true: its bytes are as many as its size says, and fewer of them are none. -/
import Derived.Test.YtcemlfkboifncaaPVx35
import Derived.Test.YtcemlfkboifncaaRec
import Derived.Test.YtcemlfkboifncaaStr
namespace Go.Proofs.Ytcemlfkboifncaa.Pure
open Go.RowKit Go.Proofs.Ytcemlfkboifncaa.PV Go.Proofs.YtcemlfkboifncaaW.PrintWords Go.Proofs.YtcemlfkboifncaaW.PrintLast
set_option linter.unusedVariables false
theorem RecordSizes (k s : Int) (l : List Int) (cut : Int) (wk : (Lit.int .i64 k).wf = true) (ws : (Lit.int .i64 s).wf = true) (wl : ∀ x ∈ l, (Lit.int .u8 x).wf = true) (wc : (Lit.int .u16 cut).wf = true) : waggonerlaw05_RecordSizes.f k s l cut = some true := by
  have hl := Pl.wf_u8 wl
  obtain ⟨q0, q1⟩ := Pl.wf_u16 wc
  unfold waggonerlaw05_RecordSizes.f waggonerlaw05_awake.f
  rw [Option.bind_some]
  by_cases c0 : (l.length : Int) > 4096
  · rw [if_pos c0]
  rw [if_neg c0, show record_Write.f k s l = some (Pl.rwriteS k s l) from by unfold record_Write.f; rw [if_pos hl], Option.bind_some]
  unfold Pl.rwriteS
  by_cases ho : Pl.recOk k s l = true
  · rw [if_pos ho, if_pos rfl]
    have z := Pl.recB_length k s l
    dsimp only
    have hmx : mx 1 ((Pl.recB k s l).length : Int) = ((l.length + 20 : Nat) : Int) := by unfold mx; rw [z]; omega
    have hw : wrap64 cut = cut := by unfold wrap64; omega
    obtain ⟨c, rfl⟩ := Int.eq_ofNat_of_zero_le q0
    obtain ⟨m, hm⟩ : ∃ m, m = c % (l.length + 20) := ⟨_, rfl⟩
    have hml : m < l.length + 20 := by rw [hm]; exact Nat.mod_lt _ (by omega)
    have ht : Int.tmod (c : Int) ((l.length + 20 : Nat) : Int) = (m : Int) := by rw [hm]; rfl
    rw [hw, hmx, ht, if_neg (by omega), if_pos (by omega), if_pos (by omega), Int.toNat_natCast]
    have hno : Pl.rreadS ((Pl.recB k s l).take m) = (0, 0, [], 0, 50) := by
      rcases Pl.rreadS_cases ((Pl.recB k s l).take m) with ⟨k', s', l', t, ho', hbe, he⟩ | ⟨_, he⟩
      · exfalso
        have e : Pl.recB k s l = Pl.recB k' s' l' ++ (t ++ (Pl.recB k s l).drop m) := by
          conv => lhs; rw [← List.take_append_drop m (Pl.recB k s l), hbe, List.append_assoc]
        have h1 := Pl.rreadS_write [] ho
        rw [List.append_nil, e, Pl.rreadS_write _ ho'] at h1
        simp only [Prod.mk.injEq] at h1
        have hlen := congrArg List.length hbe
        rw [List.length_append, List.length_take, z, Pl.recB_length, h1.2.2.1] at hlen
        omega
      · exact he
    have hyes := Pl.rreadS_write [] ho
    rw [List.append_nil] at hyes
    rw [show record_Read.f ((Pl.recB k s l).take m) = some (0, 0, [], 0, 50) from by unfold record_Read.f; rw [if_pos ⟨Pl.byteB_take (Pl.recB_byte hl) _, by rw [List.length_take]; omega⟩, hno], Option.bind_some,
      show record_Read.f (Pl.recB k s l) = some (k, s, l, (l.length : Int) + 20, 0) from by unfold record_Read.f; rw [if_pos ⟨Pl.recB_byte hl, by omega⟩, hyes], Option.bind_some, if_pos rfl, record_Size.tells (by omega) (by omega), Option.bind_some, if_pos (show (l.length : Int) ≤ 4096 from by omega),
      if_pos (by rw [z]; omega), if_pos (by rw [z]; unfold wrap64; omega), if_pos rfl, if_pos rfl, if_pos rfl, z]
    rw [Option.some.injEq, beq_iff_eq]
    show (l.length : Int) + 20 = ((l.length + 20 : Nat) : Int)
    omega
  · rw [if_neg ho, if_neg (by decide), if_pos rfl, if_pos rfl]
    rfl
end Go.Proofs.Ytcemlfkboifncaa.Pure
