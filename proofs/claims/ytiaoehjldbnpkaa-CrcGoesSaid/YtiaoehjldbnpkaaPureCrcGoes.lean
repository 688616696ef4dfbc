/- For every sum and two texts the law's answer is true: the parts in which a text comes do not matter, and the joined sums are the sum of both. -/
import Derived.Test.YtiaoehjldbnpkaaPAx17
import Derived.Test.YtiaoehjldbnpkaaCrcLaw
namespace Go.Proofs.Ytiaoehjldbnpkaa.Pure
open Go.RowKit Go.Proofs.Ytiaoehjldbnpkaa.PA Go.Proofs.YtiaoehjldbnpkaaW.PrintWords Go.Proofs.YtiaoehjldbnpkaaW.PrintLast
set_option linter.unusedVariables false

theorem CrcGoes : waggonerlaw02_CrcGoes.Pure := by
  intro a0 l1 l2 w0 _ _ w1 _ _ w2
  have hb1 := Pl.wf_u8 w1
  have hb2 := Pl.wf_u8 w2
  obtain ⟨h0, h1⟩ := Pl.wf_u32 w0
  obtain ⟨s, rfl⟩ := Int.eq_ofNat_of_zero_le h0
  refine ⟨1, ?_⟩
  unfold waggonerlaw02_CrcGoes.f waggonerlaw02_awake.f
  rw [Option.bind_some]
  by_cases c1 : (l1.length : Int) > 300
  · rw [if_pos c1]
    rfl
  · rw [if_neg c1]
    simp only [waggonerlaw02_CrcGoes.j0]
    by_cases c2 : (l2.length : Int) > 300
    · rw [if_pos (decide_eq_true c2)]
    · rw [if_neg (by simpa using c2), Option.bind_some, List.nil_append, List.length_nil, if_pos (by omega), Option.bind_some, if_pos (by omega), Option.bind_some, if_pos trivial]
      have hb12 : Pl.byteB (l1 ++ l2) = true := by rw [Pl.byteB_append, hb1, hb2]; rfl
      have hs : s < 4294967296 := by omega
      have B1 := Pl.byteB_bytes hb1
      have B2 := Pl.byteB_bytes hb2
      rw [crc_More.tells s l1 hs hb1, Option.bind_some, crc_More.tells _ l2 (Pl.more_lt B1 hs) hb2, Option.bind_some, crc_More.tells s _ hs hb12, Option.bind_some, if_pos (by rw [Pl.nats_append, Pl.more_append])]
      rw [crc_Sum.tells l1 hb1, Option.bind_some, crc_Sum.tells l2 hb2, Option.bind_some, crc_Join.tells _ _ _ (Pl.sum_lt B1) (Pl.sum_lt B2), Option.bind_some, crc_Sum.tells _ hb12, Option.bind_some]
      rw [if_pos (by rw [Pl.nats_append, ← Pl.join_sum _ _ B1 B2 (by rw [Pl.nats_length]; omega), Pl.nats_length]), crc_More.tells s [] hs rfl, Option.bind_some]
      rw [show Pl.nats [] = [] from rfl, Pl.more_nil]
      simp
end Go.Proofs.Ytiaoehjldbnpkaa.Pure
