/- Words and walks that this claim names, of those that the kit's print and programs of this workplace have printed. -/
import Derived.Test.YtmgohkffphogdaaZUCz
import Derived.Test.YtmgohkffphogdaaZUPUx15
import Derived.Test.YtmgohkffphogdaaZUPUx65
import Derived.Test.YtmgohkffphogdaaZUPUx67
import Derived.Test.YtmgohkffphogdaaZUPUx68
namespace Go.Proofs.Ytmgohkffphogdaa.PU
open Go.Proofs.Ytmgohkffphogdaa Go.RowKit Go.Proofs.YtmgohkffphogdaaW.PrintWords Go.Proofs.YtmgohkffphogdaaW.PrintLast Go.Proofs.YtmgohkffphogdaaW.PrintMore
attribute [local go_sem] max2_int min2_int max_two min_two max_three min_three max_four min_four
set_option linter.unusedVariables false
set_option linter.unusedSimpArgs false
def waggonerref10_Read.f (l0 : List Int) : Option (Int × Int × Int × Int × List Int × (List (S39)) × Int) := if Pl.byteB l0 = true ∧ l0.length < 1000000000 then some ((Pl.chreadS l0).1, (Pl.chreadS l0).2.1, (Pl.chreadS l0).2.2.1, (Pl.chreadS l0).2.2.2.1, (Pl.chreadS l0).2.2.2.2.1, (Pl.chreadS l0).2.2.2.2.2.1.map ofE, (Pl.chreadS l0).2.2.2.2.2.2) else none
theorem waggonerref10_Read.tells {l0 : List Int} (hb : Pl.byteB l0 = true) (hl : l0.length < 1000000000) : waggonerref10_Read.f l0 = some ((Pl.chreadS l0).1, (Pl.chreadS l0).2.1, (Pl.chreadS l0).2.2.1, (Pl.chreadS l0).2.2.2.1, (Pl.chreadS l0).2.2.2.2.1, (Pl.chreadS l0).2.2.2.2.2.1.map ofE, (Pl.chreadS l0).2.2.2.2.2.2) := if_pos ⟨hb, hl⟩
theorem waggonerref10_Read.closes {l0 : List Int} {r : Int × Int × Int × Int × List Int × (List (S39)) × Int} (h : waggonerref10_Read.f l0 = some r) : waggonerref10_Read_p.f l0 = some r := by
 unfold waggonerref10_Read.f at h
 split at h
 case isFalse => cases h
 rename_i hh
 obtain ⟨hb, hl⟩ := hh
 rw [← h]
 clear h
 unfold waggonerref10_Read_p.f
 by_cases h9 : l0.length < 9
 ·rw [if_pos (by omega), Pl.chreadS, if_pos h9]
  rfl
 obtain ⟨n0, n1, n2, n3, n4, hu, q0, q1, q2, q3, q4, hh⟩ := Pl.unpack_chg hb (by omega)
 have hp : waggonerref01_Unpack.f (⟨#[98, 98, 98, 119, 104]⟩ : ByteArray) (l0.take 9) = some ([n0, n1, n2, n3, n4], 0) := by
  unfold waggonerref01_Unpack.f
  rw [if_pos ⟨Pl.byteB_take hb 9, by rw [List.length_take]; omega, by decide⟩, show Pl.fb (⟨#[98, 98, 98, 119, 104]⟩ : ByteArray) = Pl.chForm from by kernel_rfl, hu]
 have v0 : wrap64 n0 = n0 := by unfold wrap64; omega
 have v1 : wrap64 n1 = n1 := by unfold wrap64; omega
 have v2 : wrap64 n2 = n2 := by unfold wrap64; omega
 have v3 : wrap64 n3 = n3 := by unfold wrap64; omega
 have v4 : wrap64 n4 = n4 := by unfold wrap64; omega
 rw [if_neg (by omega), if_pos (by omega), hp, Option.bind_some]
 have r0 : rd [n0, n1, n2, n3, n4] 0 = n0 := rfl
 have r1 : rd [n0, n1, n2, n3, n4] 1 = n1 := rfl
 have r2 : rd [n0, n1, n2, n3, n4] 2 = n2 := rfl
 have r3 : rd [n0, n1, n2, n3, n4] 3 = n3 := rfl
 have r4 : rd [n0, n1, n2, n3, n4] 4 = n4 := rfl
 dsimp only
 have hs : Pl.chreadS l0 = Pl.chreadN n0 n1 n2 n3 n4 l0 := by rw [Pl.chreadS, if_neg h9, hu]
 rw [hs, Pl.chreadN, r0, r1, r2, r3, r4, v0, v1, v2, v3, v4]
 have hlen : (l0.drop 9).length = l0.length - 9 := List.length_drop
 rw [if_pos (by simp), if_pos (by simp), if_pos (by simp), if_pos (by simp), if_pos (by simp)]
 by_cases hn : l0.length < 9 + n4.toNat
 ·rw [if_pos (by omega), if_pos hn]
  rfl
 have hdl : ((l0.drop 9).take n4.toNat).length = n4.toNat := by rw [List.length_take, hlen]; omega
 rw [if_neg (by omega), if_neg hn, if_pos q4.1, if_pos (by omega), if_pos (by rw [hdl, List.length_nil]; omega), Option.bind_some, List.nil_append]
 have hdd : (l0.drop 9).drop n4.toNat = l0.drop (9 + n4.toNat) := List.drop_drop
 rw [hdd]
 have hrb := Pl.byteB_drop hb (9 + n4.toNat)
 have hrl : (l0.drop (9 + n4.toNat)).length = l0.length - (9 + n4.toNat) := List.length_drop
 have hbb : l0 = l0.take 9 ++ ((l0.drop 9).take n4.toNat ++ l0.drop (9 + n4.toNat)) := by rw [← hdd, List.take_append_drop, List.take_append_drop]
 have hDb : Pl.byteB ((l0.drop 9).take n4.toNat) = true := Pl.byteB_take (Pl.byteB_drop hb 9) _
 have hW : ∀ L : List Pl.Ext, Pl.chW n0 n1 n2 n3 ((l0.drop 9).take n4.toNat) L = l0.take 9 ++ ((l0.drop 9).take n4.toNat ++ (if n0 = 8 then Pl.extsW L else [])) := fun L => by
  rw [Pl.chW, hdl, Int.toNat_of_nonneg q4.1, hh]
 by_cases h8 : n0 = 8
 ·rw [if_pos h8, if_pos h8]
  unfold waggonerref07_Read.f
  rw [if_pos ⟨hrb, by omega⟩, Option.bind_some]
  dsimp only
  rcases Pl.ereadS_cases hrb with ⟨L, hL, hLW, hLR⟩ | ⟨-, hLR⟩
  ·rw [hLR]
   dsimp only
   rw [if_pos rfl]
   unfold waggonerref10_Write.f
   rw [Option.bind_some, map_toE_ofE, Pl.chwriteS]
   by_cases hc : Pl.chOk n0 n1 n2 n3 ((l0.drop 9).take n4.toNat) L = true
   ·have hq : (0 : Int) = 0 ∧ Pl.chOk n0 n1 n2 n3 ((l0.drop 9).take n4.toNat) L = true := ⟨rfl, hc⟩
    rw [if_pos hc, if_pos rfl, if_pos hq]
    dsimp only
    rw [hW, if_pos h8, ← hLW, ← hbb, if_pos rfl]
   ·rw [if_neg hc, if_neg (by decide), if_neg (fun x => hc x.2)]
    rfl
  ·rw [hLR]
   dsimp only
   rw [if_neg (by decide), if_neg (fun x => absurd x.1 (by decide))]
   rfl
 ·rw [if_neg h8, if_neg h8]
  unfold waggonerref10_Write.f
  rw [Option.bind_some, List.map_nil, Pl.chwriteS]
  by_cases hc : Pl.chOk n0 n1 n2 n3 ((l0.drop 9).take n4.toNat) [] = true
  ·rw [if_pos hc, if_pos rfl]
   dsimp only
   rw [hW, if_neg h8, List.append_nil]
   have hWb : Pl.byteB (l0.take 9 ++ (l0.drop 9).take n4.toNat) = true := by rw [Pl.byteB_append, Pl.byteB_take hb 9, hDb]; rfl
   have hst := Pl.str_eq hWb hb
   by_cases hz : l0.length = 9 + n4.toNat
   ·have hnil : l0.drop (9 + n4.toNat) = [] := List.drop_eq_nil_of_le (by omega)
    rw [hnil, List.append_nil] at hbb
    rw [← hbb, if_pos rfl, if_pos ⟨hz, hc⟩]
    rfl
   ·rw [if_neg (fun e => by
     rw [beq_iff_eq.2 e] at hst
     have e2 := congrArg List.length (beq_iff_eq.1 hst.symm)
     rw [List.length_append, List.length_take, hdl] at e2
     omega), if_neg (fun x => hz x.1)]
    rfl
  ·rw [if_neg hc, if_neg (by decide), if_neg (fun x => hc x.2)]
   rfl
theorem waggonerref10_Read.calls (A0 : Option Addr) (c0 : Nat) (l0 : List Int) (r1 : Int) (r2 : Int) (r3 : Int) (r4 : Int) (r5 : List Int) (r6 : List (S39)) (r7 : Int) (w : World) (hr0 : Kd.C (Kd.int .u8) w A0 l0.length l0) (hc0 : l0.length ≤ c0) (h : waggonerref10_Read.f l0 = some (r1, r2, r3, r4, r5, r6, r7)) :
  Calls Try.prog 14 #[.slice A0 l0.length c0] w fun e w' => ∃ v4_ v5_ : Value, e = .returned (.tuple #[.agg #[.int .i64 r1, .int .i64 r2, .int .i64 r3, .int .i64 r4, v4_, v5_], .int .i64 r7]) ∧ Kd.R (Kd.int .u8) 5 w' w.heap.size (fun _ => True) v4_ r5 ∧ Kd.S k39 39 w' w.heap.size (fun k_ => some k_ ≠ (v4_ : Value).ownBlock) v5_ r6 ∧ Below w.heap.size w w' :=
 waggonerref10_Read_p.calls A0 c0 l0 r1 r2 r3 r4 r5 r6 r7 w hr0 hc0 (waggonerref10_Read.closes h)
end Go.Proofs.Ytmgohkffphogdaa.PU
