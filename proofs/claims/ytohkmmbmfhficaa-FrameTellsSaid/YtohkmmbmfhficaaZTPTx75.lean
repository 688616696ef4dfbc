/- Words and walks that this claim names, of those that the kit's print and programs of this workplace have printed. -/
import Derived.Test.YtohkmmbmfhficaaZTPTx11
import Derived.Test.YtohkmmbmfhficaaZTPTx67
import Derived.Test.YtohkmmbmfhficaaZTPTx73
import Derived.Test.YtohkmmbmfhficaaZTPTx74
namespace Go.Proofs.Ytohkmmbmfhficaa.PT
open Go.RowKit Go.Proofs.YtohkmmbmfhficaaW.PrintWords Go.Proofs.YtohkmmbmfhficaaW.PrintLast Go.Proofs.YtohkmmbmfhficaaW.PrintMore
attribute [local go_sem] max2_int min2_int max_two min_two max_three min_three max_four min_four
set_option linter.unusedVariables false
set_option linter.unusedSimpArgs false
def waggonerref16_Read.f (l0 : List Int) : Option (Int × Int × Int × List Int × Int × Int × Int × Int × Int) := if Pl.byteB l0 = true ∧ l0.length < 1073741824 then some ((Pl.freadS l0).1.1, (Pl.freadS l0).1.2.1, (Pl.freadS l0).1.2.2.1, (Pl.freadS l0).1.2.2.2.1, (Pl.freadS l0).1.2.2.2.2.1, (Pl.freadS l0).1.2.2.2.2.2.1, (Pl.freadS l0).1.2.2.2.2.2.2, (Pl.freadS l0).2.1, (Pl.freadS l0).2.2) else none
theorem waggonerref16_Read.two {u : List Int} (h : Pl.byteB u = true) (hl : 3 ≤ u.length) : Pl.byN u 1 2 = u.getD 1 0 + 256 * u.getD 2 0 := by
 match u, h, hl with
 | a :: b :: c :: r, h, _ =>
  have mb := Pl.byteB_iff.1 h b (by simp)
  have mc := Pl.byteB_iff.1 h c (by simp)
  have e : Pl.byN (a :: b :: c :: r) 1 2 = ((256 * (256 * 0 + c.toNat) + b.toNat : Nat) : Int) := rfl
  have e1 : (a :: b :: c :: r).getD 1 0 = b := rfl
  have e2 : (a :: b :: c :: r).getD 2 0 = c := rfl
  rw [e, e1, e2]
  omega
theorem waggonerref16_Read.num {u : List Int} (h : Pl.byteB u = true) (hl : 3 ≤ u.length) : Pl.byN u 1 2 = rd u 1 + 256 * rd u 2 ∧ (0 ≤ rd u 1 ∧ rd u 1 < 256) ∧ (0 ≤ rd u 2 ∧ rd u 2 < 256) ∧ Pl.byN u 0 1 = rd u 0 ∧ (0 ≤ rd u 0 ∧ rd u 0 < 256) := by
 have m0 := Pl.byteB_iff.1 h u[0] (List.getElem_mem _)
 have m1 := Pl.byteB_iff.1 h u[1] (List.getElem_mem _)
 have m2 := Pl.byteB_iff.1 h u[2] (List.getElem_mem _)
 have r0 : rd u 0 = u[0] := by simp [rd, show 0 < u.length by omega]
 have r1 : rd u 1 = u[1] := by simp [rd, show 1 < u.length by omega]
 have r2 : rd u 2 = u[2] := by simp [rd, show 2 < u.length by omega]
 have g0 : u.getD 0 0 = u[0] := by rw [List.getD_eq_getElem?_getD, List.getElem?_eq_getElem (show 0 < u.length by omega), Option.getD_some]
 have g1 : u.getD 1 0 = u[1] := by rw [List.getD_eq_getElem?_getD, List.getElem?_eq_getElem (show 1 < u.length by omega), Option.getD_some]
 have g2 : u.getD 2 0 = u[2] := by rw [List.getD_eq_getElem?_getD, List.getElem?_eq_getElem (show 2 < u.length by omega), Option.getD_some]
 rw [waggonerref16_Read.two h hl, Pl.byN_one h 0 (by omega), g0, g1, g2, r0, r1, r2]
 exact ⟨rfl, m1, m2, rfl, m0⟩
theorem waggonerref16_Read.closes {l0 : List Int} {r : Int × Int × Int × List Int × Int × Int × Int × Int × Int} (h : waggonerref16_Read.f l0 = some r) : waggonerref16_Read_p.f l0 = some r := by
 unfold waggonerref16_Read.f at h
 split at h
 case isFalse => cases h
 rename_i hh
 obtain ⟨hb, hl⟩ := hh
 rw [← h]
 clear h
 unfold waggonerref16_Read_p.f
 by_cases h3 : l0.length < 3
 ·rw [if_pos (by omega), Pl.freadS, if_pos h3]
  rfl
 obtain ⟨n12, m1, m2, n0, m0⟩ := waggonerref16_Read.num hb (by omega)
 have e1 : wrap64 (rd l0 1) = rd l0 1 := by unfold wrap64; omega
 have e2 : wrap64 (rd l0 2) = rd l0 2 := by unfold wrap64; omega
 have e3 : wrap64 (256 * rd l0 2) = 256 * rd l0 2 := by unfold wrap64; omega
 have e4 : wrap64 (rd l0 1 + 256 * rd l0 2) = rd l0 1 + 256 * rd l0 2 := by unfold wrap64; omega
 have e0 : wrap64 (rd l0 0) = rd l0 0 := by unfold wrap64; omega
 rw [e0, e1, e2, e3, e4, ← n12, ← n0]
 have q1 := Pl.byN_lt hb 1 2
 rw [show (256 ^ 2 : Nat) = 65536 from rfl] at q1
 obtain ⟨m, hm⟩ := Int.eq_ofNat_of_zero_le q1.1
 rw [hm]
 rw [show wrap64 ((m : Int) + 7) = (m : Int) + 7 by unfold wrap64; omega, show wrap64 (3 + (m : Int)) = 3 + (m : Int) by unfold wrap64; omega]
 rw [if_neg (by omega), if_pos (by omega), if_pos (by omega)]
 rw [Pl.freadS, if_neg h3, hm, Int.toNat_natCast]
 by_cases h7 : l0.length < m + 7
 ·rw [if_pos (by omega), if_pos h7]
  rfl
 rw [if_neg (by omega), if_neg h7, if_pos (by omega), if_pos (by omega), if_pos (by omega)]
 have ht : (l0.take (3 + (m : Int)).toNat).drop 3 = (l0.drop 3).take m := by
  rw [show (3 + (m : Int)).toNat = 3 + m by omega, List.drop_take, Nat.add_sub_cancel_left]
 have htb : Pl.byteB ((l0.drop 3).take m) = true := Pl.byteB_take (Pl.byteB_drop hb 3) m
 have htl : ((l0.drop 3).take m).length = m := by rw [List.length_take, List.length_drop]; omega
 rw [ht]
 unfold waggonerref16_may.f
 rw [if_pos ⟨htb, by omega⟩, Option.bind_some]
 have hdb : Pl.byteB (Pl.mayS (Pl.byN l0 0 1) ((l0.drop 3).take m)).2.2.2.1 = true ∧ (Pl.mayS (Pl.byN l0 0 1) ((l0.drop 3).take m)).2.2.2.1.length < 1073741824 := by
  have hnil : ([] : List Int).length < 1073741824 := by decide
  unfold Pl.mayS
  split
  ·exact ⟨rfl, hnil⟩
  split
  ·exact ⟨rfl, hnil⟩
  split
  ·exact ⟨Pl.byteB_drop htb 2, by show (List.drop 2 _).length < _; rw [List.length_drop]; omega⟩
  ·exact ⟨rfl, hnil⟩
 rw [waggonerref16_Write.tells hdb.1 hdb.2, Option.bind_some, Pl.fwriteS]
 by_cases ho : Pl.frOkT (Pl.mayS (Pl.byN l0 0 1) ((l0.drop 3).take m)) = true
 ·have ho2 := ho
  unfold Pl.frOkT at ho2
  rw [if_pos ho2, if_pos rfl, if_pos (by omega), if_pos (by omega), show ((m : Int) + 7).toNat = m + 7 by omega]
  dsimp only
  change (if (strOfNums (Pl.frWT (Pl.mayS (Pl.byN l0 0 1) ((l0.drop 3).take m)))).toList = (strOfNums (l0.take (m + 7))).toList then _ else _) = _
  have hs : (strOfNums (Pl.frWT (Pl.mayS (Pl.byN l0 0 1) ((l0.drop 3).take m)))).toList = (strOfNums (l0.take (m + 7))).toList ↔ Pl.frWT (Pl.mayS (Pl.byN l0 0 1) ((l0.drop 3).take m)) = l0.take (m + 7) := by
   have := Pl.str_eq (l := Pl.frWT (Pl.mayS (Pl.byN l0 0 1) ((l0.drop 3).take m))) (m := l0.take (m + 7)) (Pl.frW_byte hdb.1) (Pl.byteB_take hb _)
   rw [Bool.eq_iff_iff, beq_iff_eq, beq_iff_eq] at this
   exact this
  by_cases hw : Pl.frWT (Pl.mayS (Pl.byN l0 0 1) ((l0.drop 3).take m)) = l0.take (m + 7)
  ·rw [if_pos (hs.2 hw), if_pos ⟨ho, hw⟩]
  ·rw [if_neg (fun e => hw (hs.1 e)), if_neg (fun e => hw e.2)]
   rfl
 ·have ho2 := ho
  unfold Pl.frOkT at ho2
  rw [if_neg ho2, if_neg (by decide), if_neg (fun e => ho e.1)]
  rfl
theorem waggonerref16_Read.calls (A0 : Option Addr) (c0 : Nat) (l0 : List Int) (r1 : Int) (r2 : Int) (r3 : Int) (r4 : List Int) (r5 : Int) (r6 : Int) (r7 : Int) (r8 : Int) (r9 : Int) (w : World) (hr0 : Kd.C (Kd.int .u8) w A0 l0.length l0) (hc0 : l0.length ≤ c0) (h : waggonerref16_Read.f l0 = some (r1, r2, r3, r4, r5, r6, r7, r8, r9)) :
  Calls Try.prog 22 #[.slice A0 l0.length c0] w fun e w' => ∃ v3_ : Value, e = .returned (.tuple #[.agg #[.int .i64 r1, .int .i64 r2, .int .i64 r3, v3_, .int .i64 r5, .int .i64 r6, .int .i64 r7], .int .i64 r8, .int .i64 r9]) ∧ Kd.R (Kd.int .u8) 5 w' w.heap.size (fun _ => True) v3_ r4 ∧ Below w.heap.size w w' :=
 waggonerref16_Read_p.calls A0 c0 l0 r1 r2 r3 r4 r5 r6 r7 r8 r9 w hr0 hc0 (waggonerref16_Read.closes h)
end Go.Proofs.Ytohkmmbmfhficaa.PT
