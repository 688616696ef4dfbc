/- Words and walks that this claim names, of those that the kit's print and programs of this workplace have printed. -/
import Derived.Test.YtmgohkffphogdaaZUCz
import Derived.Test.YtmgohkffphogdaaZUPUx15
import Derived.Test.YtmgohkffphogdaaZUPUx18
import Derived.Test.YtmgohkffphogdaaZUPUx24
import Derived.Test.YtmgohkffphogdaaZUPUx32
import Derived.Test.YtmgohkffphogdaaZUPUx33
namespace Go.Proofs.Ytmgohkffphogdaa.PU
open Go.Proofs.Ytmgohkffphogdaa Go.RowKit Go.Proofs.YtmgohkffphogdaaW.PrintWords Go.Proofs.YtmgohkffphogdaaW.PrintLast Go.Proofs.YtmgohkffphogdaaW.PrintMore
attribute [local go_sem] max2_int min2_int max_two min_two max_three min_three max_four min_four
set_option linter.unusedVariables false
set_option linter.unusedSimpArgs false
def change_Read.f (l0 : List Int) : Option (Int × Int × Int × Int × List Int × (List (S39)) × Int) := if Pl.byteB l0 = true ∧ l0.length < 1000000000 then some ((Pl.chreadS l0).1, (Pl.chreadS l0).2.1, (Pl.chreadS l0).2.2.1, (Pl.chreadS l0).2.2.2.1, (Pl.chreadS l0).2.2.2.2.1, (Pl.chreadS l0).2.2.2.2.2.1.map ofE, (Pl.chreadS l0).2.2.2.2.2.2) else none
theorem change_Read.tells {l0 : List Int} (hb : Pl.byteB l0 = true) (hl : l0.length < 1000000000) : change_Read.f l0 = some ((Pl.chreadS l0).1, (Pl.chreadS l0).2.1, (Pl.chreadS l0).2.2.1, (Pl.chreadS l0).2.2.2.1, (Pl.chreadS l0).2.2.2.2.1, (Pl.chreadS l0).2.2.2.2.2.1.map ofE, (Pl.chreadS l0).2.2.2.2.2.2) := if_pos ⟨hb, hl⟩
theorem change_Read.closes {l0 : List Int} {r : Int × Int × Int × Int × List Int × (List (S39)) × Int} (h : change_Read.f l0 = some r) : change_Read_p.f 1 l0 = some r := by
 unfold change_Read.f at h
 split at h
 case isFalse => cases h
 rename_i hh
 obtain ⟨hb, hl⟩ := hh
 rw [← h]
 clear h
 unfold change_Read_p.f
 by_cases h9 : l0.length < 9
 ·rw [if_pos (by omega), Pl.chreadS, if_pos h9]
  rfl
 obtain ⟨n0, n1, n2, n3, n4, hu, q0, q1, q2, q3, q4, hh⟩ := Pl.unpack_chg hb (by omega)
 have hp : le_Unpack.f (⟨#[98, 98, 98, 119, 104]⟩ : ByteArray) (l0.take 9) = some ([n0, n1, n2, n3, n4], 0) := by
  unfold le_Unpack.f
  rw [if_pos ⟨Pl.byteB_take hb 9, by rw [List.length_take]; omega, by decide⟩, show Pl.fb (⟨#[98, 98, 98, 119, 104]⟩ : ByteArray) = Pl.chForm from by kernel_rfl, hu]
 have v0 : wrap64 n0 = n0 := by unfold wrap64; omega
 have v1 : wrap64 n1 = n1 := by unfold wrap64; omega
 have v2 : wrap64 n2 = n2 := by unfold wrap64; omega
 have v3 : wrap64 n3 = n3 := by unfold wrap64; omega
 have v4 : wrap64 n4 = n4 := by unfold wrap64; omega
 have v5 : wrap64 ((l0.length : Int) - 9) = (l0.length : Int) - 9 := by unfold wrap64; omega
 have v6 : wrap64 (9 + n4) = 9 + n4 := by unfold wrap64; omega
 have t6 : (9 + n4).toNat = 9 + n4.toNat := by omega
 rw [if_neg (by omega), if_pos (by omega), hp, Option.bind_some, if_pos rfl, if_pos (show (4 : Int) < (([n0, n1, n2, n3, n4] : List Int).length : Int) by simp)]
 have r0 : rd [n0, n1, n2, n3, n4] 0 = n0 := rfl
 have r1 : rd [n0, n1, n2, n3, n4] 1 = n1 := rfl
 have r2 : rd [n0, n1, n2, n3, n4] 2 = n2 := rfl
 have r3 : rd [n0, n1, n2, n3, n4] 3 = n3 := rfl
 have r4 : rd [n0, n1, n2, n3, n4] 4 = n4 := rfl
 dsimp only
 have hs : Pl.chreadS l0 = Pl.chreadN n0 n1 n2 n3 n4 l0 := by rw [Pl.chreadS, if_neg h9, hu]
 rw [hs, Pl.chreadN, change_Read_p.j0, r0, r1, r2, r3, r4, v0, v1, v2, v3, v4, v5, v6, t6]
 by_cases hn : l0.length < 9 + n4.toNat
 ·rw [if_pos (decide_eq_true (by omega)), if_pos hn]
  rfl
 rw [if_neg (by rw [decide_eq_true_eq]; omega), if_neg hn, if_pos (show (4 : Int) < (([n0, n1, n2, n3, n4] : List Int).length : Int) by simp), if_pos (show (0 : Int) < (([n0, n1, n2, n3, n4] : List Int).length : Int) by simp), if_pos (show (1 : Int) < (([n0, n1, n2, n3, n4] : List Int).length : Int) by simp), if_pos (show (2 : Int) < (([n0, n1, n2, n3, n4] : List Int).length : Int) by simp), if_pos (show (3 : Int) < (([n0, n1, n2, n3, n4] : List Int).length : Int) by simp), if_pos (show 9 ≤ 9 + n4 by omega), if_pos (show 9 + n4 ≤ (l0.length : Int) by omega)]
 have hd : (l0.take (9 + n4.toNat)).drop 9 = (l0.drop 9).take n4.toNat := by rw [List.drop_take, Nat.add_sub_cancel_left]
 have hdl : ((l0.drop 9).take n4.toNat).length = n4.toNat := by rw [List.length_take, List.length_drop]; omega
 have hrb := Pl.byteB_drop hb (9 + n4.toNat)
 have hrl : (l0.drop (9 + n4.toNat)).length = l0.length - (9 + n4.toNat) := by rw [List.length_drop]
 rw [hd]
 unfold bytes_Clone.f
 rw [if_pos (by rw [hdl]; omega), Option.bind_some, if_pos (show 0 ≤ 9 + n4 by omega)]
 by_cases h8 : n0 = 8
 ·rw [if_pos h8, if_pos h8]
  unfold extent_Read.f
  rw [if_pos ⟨hrb, by omega⟩, Option.bind_some]
  by_cases he : (Pl.ereadS (l0.drop (9 + n4.toNat))).2 = 0
  ·have hel := (Pl.ereadS_byte hrb).2
   rw [if_pos he, if_neg (by decide), change_Check.tells (by rw [List.length_map]; omega) (by omega) (by omega) (by omega), Option.bind_some, show (Pl.ereadS (l0.drop (9 + n4.toNat))).1.map extent_Read.ofE = (Pl.ereadS (l0.drop (9 + n4.toNat))).1.map ofE from rfl, map_toE_ofE]
   by_cases hc : Pl.chOk n0 n1 n2 n3 ((l0.drop 9).take n4.toNat) (Pl.ereadS (l0.drop (9 + n4.toNat))).1 = true
   ·rw [if_pos hc, if_pos ⟨he, hc⟩]
   ·rw [if_neg hc, if_neg (fun x => hc x.2)]
    rfl
  ·rw [if_neg he, if_neg (fun x => he x.1)]
   rfl
 ·rw [if_neg h8, if_neg h8]
  by_cases hz : l0.length = 9 + n4.toNat
  ·rw [if_neg (by omega), change_Check.tells (by decide) (by omega) (by omega) (by omega), Option.bind_some, List.map_nil]
   by_cases hc : Pl.chOk n0 n1 n2 n3 ((l0.drop 9).take n4.toNat) [] = true
   ·rw [if_pos hc, if_pos ⟨hz, hc⟩]
    rfl
   ·rw [if_neg hc, if_neg (fun x => hc x.2)]
    rfl
  ·rw [if_pos (by omega), if_neg (fun x => hz x.1)]
   rfl
theorem change_Read.calls (A0 : Option Addr) (c0 : Nat) (l0 : List Int) (r1 : Int) (r2 : Int) (r3 : Int) (r4 : Int) (r5 : List Int) (r6 : List (S39)) (r7 : Int) (w : World) (hr0 : Kd.C (Kd.int .u8) w A0 l0.length l0) (hc0 : l0.length ≤ c0) (h : change_Read.f l0 = some (r1, r2, r3, r4, r5, r6, r7)) :
  Calls Try.prog 13 #[.slice A0 l0.length c0] w fun e w' => ∃ v4_ v5_ : Value, e = .returned (.tuple #[.agg #[.int .i64 r1, .int .i64 r2, .int .i64 r3, .int .i64 r4, v4_, v5_], .int .i64 r7]) ∧ Kd.R (Kd.int .u8) 5 w' w.heap.size (fun _ => True) v4_ r5 ∧ Kd.S k39 39 w' w.heap.size (fun k_ => some k_ ≠ (v4_ : Value).ownBlock) v5_ r6 ∧ Below w.heap.size w w' :=
 change_Read_p.calls 1 A0 c0 l0 r1 r2 r3 r4 r5 r6 r7 w hr0 hc0 (change_Read.closes h)
def waggonerref07_Same_p.f (a0_0 : Int) (a0_1 : Int) (a0_2 : Int) (a0_3 : Int) (l0_4 : List Int) (a1_0 : Int) (a1_1 : Int) (a1_2 : Int) (a1_3 : Int) (l1_4 : List Int) : Option (Bool) := if a0_0 = a1_0 then (if a0_1 = a1_1 then (if a0_2 = a1_2 then (if a0_3 = a1_3 then (some ((strOfNums l0_4).toList == (strOfNums l1_4).toList)) else (some false)) else (some false)) else (some false)) else (some false)
set_option maxHeartbeats 8000000 in
set_option maxRecDepth 100000 in
theorem waggonerref07_Same_p.calls (a0_0 : Int) (a0_1 : Int) (a0_2 : Int) (a0_3 : Int) (A0_4 : Option Addr) (c0_4 : Nat) (l0_4 : List Int) (a1_0 : Int) (a1_1 : Int) (a1_2 : Int) (a1_3 : Int) (A1_4 : Option Addr) (c1_4 : Nat) (l1_4 : List Int) (r : Bool) (w : World) (hr0_4 : Kd.C (Kd.int .u8) w A0_4 l0_4.length l0_4) (hc0_4 : l0_4.length ≤ c0_4) (hr1_4 : Kd.C (Kd.int .u8) w A1_4 l1_4.length l1_4) (hc1_4 : l1_4.length ≤ c1_4) (h : waggonerref07_Same_p.f a0_0 a0_1 a0_2 a0_3 l0_4 a1_0 a1_1 a1_2 a1_3 l1_4 = some r) :
  Calls Try.prog 44 #[.agg #[.int .i64 a0_0, .int .i64 a0_1, .int .i64 a0_2, .int .i64 a0_3, .slice A0_4 l0_4.length c0_4], .agg #[.int .i64 a1_0, .int .i64 a1_1, .int .i64 a1_2, .int .i64 a1_3, .slice A1_4 l1_4.length c1_4]] w fun e w' => e = .returned (.bool r) ∧ Below w.heap.size w w' := by
 have hu39 := Try.underlying39
 have HR0_4 := Aside0.mk hr0_4
 have HC0_4 := Aside0.mk hc0_4
 clear hr0_4 hc0_4
 have HR1_4 := Aside0.mk hr1_4
 have HC1_4 := Aside0.mk hc1_4
 clear hr1_4 hc1_4
 have HB := Aside0.mk (Below.refl w.heap.size w)
 have H : (if a0_0 = a1_0 then (if a0_1 = a1_1 then (if a0_2 = a1_2 then (if a0_3 = a1_3 then (some ((strOfNums l0_4).toList == (strOfNums l1_4).toList)) else (some false)) else (some false)) else (some false)) else (some false)) = some r := h
 clear h
 by_cases c3 : a0_0 = a1_0
 ·rw [if_pos c3] at H
  have c3b0 : (a0_0 == a1_0) = true := beq_iff_eq.mpr c3
  have c3b1 : (a0_0 != a1_0) = false := bne_eq_false_iff_eq.mpr c3
  clear c3
  by_cases c4 : a0_1 = a1_1
  ·rw [if_pos c4] at H
   have c4b0 : (a0_1 == a1_1) = true := beq_iff_eq.mpr c4
   have c4b1 : (a0_1 != a1_1) = false := bne_eq_false_iff_eq.mpr c4
   clear c4
   by_cases c5 : a0_2 = a1_2
   ·rw [if_pos c5] at H
    have c5b0 : (a0_2 == a1_2) = true := beq_iff_eq.mpr c5
    have c5b1 : (a0_2 != a1_2) = false := bne_eq_false_iff_eq.mpr c5
    clear c5
    by_cases c6 : a0_3 = a1_3
    ·rw [if_pos c6] at H
     have c6b0 : (a0_3 == a1_3) = true := beq_iff_eq.mpr c6
     have c6b1 : (a0_3 != a1_3) = false := bne_eq_false_iff_eq.mpr c6
     clear c6
     obtain rfl := Option.some.inj H
     go_enter Try.func44, Try.ntmps44
     go_wp2_with (first | ((with_reducible refine gate_dst (N := 2) rfl ?_); refine Cz.bx (N := 2) #[.int .i64 a0_0, .int .i64 a0_1, .int .i64 a0_2, .int .i64 a0_3, .slice A0_4 l0_4.length c0_4] 39 ?_; intro gb189 hg w7 hbox hb; have BK189 := Aside0.mk (hbox); have GW189 := Aside0.mk ((Cz.gs hg : w.heap.size ≤ gb189)); have GE189 := GW189; replace HB := Cz.bs (w := w) hb; clear hb hbox hg) | ((with_reducible refine gate_dst (N := 3) rfl ?_); refine Cz.bx (N := 3) #[.int .i64 a1_0, .int .i64 a1_1, .int .i64 a1_2, .int .i64 a1_3, .slice A1_4 l1_4.length c1_4] 39 ?_; intro gb190 hg w8 hbox hb; have BK190 := Aside0.mk (hbox); have GW190 := Aside0.mk ((Cz.gs hg : w.heap.size ≤ gb190)); have GE190 := GW190; have NB189_190 := Aside0.mk ((Cz.nl BK189 hg : gb189 ≠ gb190)); have NB190_189 := Aside0.mk ((Cz.nr BK189 hg : gb190 ≠ gb189)); replace BK189 := Cz.bk BK189 hb; replace HB := Cz.bs (w := w) hb; clear hb hbox hg; have hnb9 := NB189_190.out; have hnc9 := NB190_189.out; obtain ⟨z10_0, z10_1, z10_2, z10_3, z10_4, y10_0, y10_1, y10_2, y10_3, y10_4⟩ := Cz.d5 BK189; obtain ⟨z11_0, z11_1, z11_2, z11_3, z11_4, y11_0, y11_1, y11_2, y11_3, y11_4⟩ := Cz.d5 BK190; have hcv12 := Kd.C_string (P := Try.prog) (A := A0_4) (c := c0_4) Try.underlying23 Try.underlying5 Try.underlying9 (Kd.C_below HR0_4.out HB.out); (try have hcvd13 := fun (n_ : Nat) => Kd.C_string (P := Try.prog) (A := A0_4) (c := c0_4) Try.underlying23 Try.underlying5 Try.underlying9 (Kd.C_drewN (Kd.C_below HR0_4.out HB.out) n_)); have hcv14 := Kd.C_string (P := Try.prog) (A := A1_4) (c := c1_4) Try.underlying23 Try.underlying5 Try.underlying9 (Kd.C_below HR1_4.out HB.out); (try have hcvd15 := fun (n_ : Nat) => Kd.C_string (P := Try.prog) (A := A1_4) (c := c1_4) Try.underlying23 Try.underlying5 Try.underlying9 (Kd.C_drewN (Kd.C_below HR1_4.out HB.out) n_))))
     go_ret
     exact ⟨Cz.er, Cz.bl (w := w)⟩
    ·rw [if_neg c6] at H
     have c6b0 : (a0_3 == a1_3) = false := beq_eq_false_iff_ne.mpr c6
     have c6b1 : (a0_3 != a1_3) = true := bne_iff_ne.mpr c6
     obtain rfl := Option.some.inj H
     go_enter Try.func44, Try.ntmps44
     go_wp2_with (first | ((with_reducible refine gate_dst (N := 2) rfl ?_); refine Cz.bx (N := 2) #[.int .i64 a0_0, .int .i64 a0_1, .int .i64 a0_2, .int .i64 a0_3, .slice A0_4 l0_4.length c0_4] 39 ?_; intro gb189 hg w16 hbox hb; have BK189 := Aside0.mk (hbox); have GW189 := Aside0.mk ((Cz.gs hg : w.heap.size ≤ gb189)); have GE189 := GW189; replace HB := Cz.bs (w := w) hb; clear hb hbox hg) | ((with_reducible refine gate_dst (N := 3) rfl ?_); refine Cz.bx (N := 3) #[.int .i64 a1_0, .int .i64 a1_1, .int .i64 a1_2, .int .i64 a1_3, .slice A1_4 l1_4.length c1_4] 39 ?_; intro gb190 hg w17 hbox hb; have BK190 := Aside0.mk (hbox); have GW190 := Aside0.mk ((Cz.gs hg : w.heap.size ≤ gb190)); have GE190 := GW190; have NB189_190 := Aside0.mk ((Cz.nl BK189 hg : gb189 ≠ gb190)); have NB190_189 := Aside0.mk ((Cz.nr BK189 hg : gb190 ≠ gb189)); replace BK189 := Cz.bk BK189 hb; replace HB := Cz.bs (w := w) hb; clear hb hbox hg; have hnb18 := NB189_190.out; have hnc18 := NB190_189.out; obtain ⟨z19_0, z19_1, z19_2, z19_3, z19_4, y19_0, y19_1, y19_2, y19_3, y19_4⟩ := Cz.d5 BK189; obtain ⟨z20_0, z20_1, z20_2, z20_3, z20_4, y20_0, y20_1, y20_2, y20_3, y20_4⟩ := Cz.d5 BK190))
     go_ret
     exact ⟨Cz.er, Cz.bl (w := w)⟩
   ·rw [if_neg c5] at H
    have c5b0 : (a0_2 == a1_2) = false := beq_eq_false_iff_ne.mpr c5
    have c5b1 : (a0_2 != a1_2) = true := bne_iff_ne.mpr c5
    obtain rfl := Option.some.inj H
    go_enter Try.func44, Try.ntmps44
    go_wp2_with (first | ((with_reducible refine gate_dst (N := 2) rfl ?_); refine Cz.bx (N := 2) #[.int .i64 a0_0, .int .i64 a0_1, .int .i64 a0_2, .int .i64 a0_3, .slice A0_4 l0_4.length c0_4] 39 ?_; intro gb189 hg w21 hbox hb; have BK189 := Aside0.mk (hbox); have GW189 := Aside0.mk ((Cz.gs hg : w.heap.size ≤ gb189)); have GE189 := GW189; replace HB := Cz.bs (w := w) hb; clear hb hbox hg) | ((with_reducible refine gate_dst (N := 3) rfl ?_); refine Cz.bx (N := 3) #[.int .i64 a1_0, .int .i64 a1_1, .int .i64 a1_2, .int .i64 a1_3, .slice A1_4 l1_4.length c1_4] 39 ?_; intro gb190 hg w22 hbox hb; have BK190 := Aside0.mk (hbox); have GW190 := Aside0.mk ((Cz.gs hg : w.heap.size ≤ gb190)); have GE190 := GW190; have NB189_190 := Aside0.mk ((Cz.nl BK189 hg : gb189 ≠ gb190)); have NB190_189 := Aside0.mk ((Cz.nr BK189 hg : gb190 ≠ gb189)); replace BK189 := Cz.bk BK189 hb; replace HB := Cz.bs (w := w) hb; clear hb hbox hg; have hnb23 := NB189_190.out; have hnc23 := NB190_189.out; obtain ⟨z24_0, z24_1, z24_2, z24_3, z24_4, y24_0, y24_1, y24_2, y24_3, y24_4⟩ := Cz.d5 BK189; obtain ⟨z25_0, z25_1, z25_2, z25_3, z25_4, y25_0, y25_1, y25_2, y25_3, y25_4⟩ := Cz.d5 BK190))
    go_ret
    exact ⟨Cz.er, Cz.bl (w := w)⟩
  ·rw [if_neg c4] at H
   have c4b0 : (a0_1 == a1_1) = false := beq_eq_false_iff_ne.mpr c4
   have c4b1 : (a0_1 != a1_1) = true := bne_iff_ne.mpr c4
   obtain rfl := Option.some.inj H
   go_enter Try.func44, Try.ntmps44
   go_wp2_with (first | ((with_reducible refine gate_dst (N := 2) rfl ?_); refine Cz.bx (N := 2) #[.int .i64 a0_0, .int .i64 a0_1, .int .i64 a0_2, .int .i64 a0_3, .slice A0_4 l0_4.length c0_4] 39 ?_; intro gb189 hg w26 hbox hb; have BK189 := Aside0.mk (hbox); have GW189 := Aside0.mk ((Cz.gs hg : w.heap.size ≤ gb189)); have GE189 := GW189; replace HB := Cz.bs (w := w) hb; clear hb hbox hg) | ((with_reducible refine gate_dst (N := 3) rfl ?_); refine Cz.bx (N := 3) #[.int .i64 a1_0, .int .i64 a1_1, .int .i64 a1_2, .int .i64 a1_3, .slice A1_4 l1_4.length c1_4] 39 ?_; intro gb190 hg w27 hbox hb; have BK190 := Aside0.mk (hbox); have GW190 := Aside0.mk ((Cz.gs hg : w.heap.size ≤ gb190)); have GE190 := GW190; have NB189_190 := Aside0.mk ((Cz.nl BK189 hg : gb189 ≠ gb190)); have NB190_189 := Aside0.mk ((Cz.nr BK189 hg : gb190 ≠ gb189)); replace BK189 := Cz.bk BK189 hb; replace HB := Cz.bs (w := w) hb; clear hb hbox hg; have hnb28 := NB189_190.out; have hnc28 := NB190_189.out; obtain ⟨z29_0, z29_1, z29_2, z29_3, z29_4, y29_0, y29_1, y29_2, y29_3, y29_4⟩ := Cz.d5 BK189; obtain ⟨z30_0, z30_1, z30_2, z30_3, z30_4, y30_0, y30_1, y30_2, y30_3, y30_4⟩ := Cz.d5 BK190))
   go_ret
   exact ⟨Cz.er, Cz.bl (w := w)⟩
 ·rw [if_neg c3] at H
  have c3b0 : (a0_0 == a1_0) = false := beq_eq_false_iff_ne.mpr c3
  have c3b1 : (a0_0 != a1_0) = true := bne_iff_ne.mpr c3
  obtain rfl := Option.some.inj H
  go_enter Try.func44, Try.ntmps44
  go_wp2_with (first | ((with_reducible refine gate_dst (N := 2) rfl ?_); refine Cz.bx (N := 2) #[.int .i64 a0_0, .int .i64 a0_1, .int .i64 a0_2, .int .i64 a0_3, .slice A0_4 l0_4.length c0_4] 39 ?_; intro gb189 hg w31 hbox hb; have BK189 := Aside0.mk (hbox); have GW189 := Aside0.mk ((Cz.gs hg : w.heap.size ≤ gb189)); have GE189 := GW189; replace HB := Cz.bs (w := w) hb; clear hb hbox hg) | ((with_reducible refine gate_dst (N := 3) rfl ?_); refine Cz.bx (N := 3) #[.int .i64 a1_0, .int .i64 a1_1, .int .i64 a1_2, .int .i64 a1_3, .slice A1_4 l1_4.length c1_4] 39 ?_; intro gb190 hg w32 hbox hb; have BK190 := Aside0.mk (hbox); have GW190 := Aside0.mk ((Cz.gs hg : w.heap.size ≤ gb190)); have GE190 := GW190; have NB189_190 := Aside0.mk ((Cz.nl BK189 hg : gb189 ≠ gb190)); have NB190_189 := Aside0.mk ((Cz.nr BK189 hg : gb190 ≠ gb189)); replace BK189 := Cz.bk BK189 hb; replace HB := Cz.bs (w := w) hb; clear hb hbox hg; have hnb33 := NB189_190.out; have hnc33 := NB190_189.out; obtain ⟨z34_0, z34_1, z34_2, z34_3, z34_4, y34_0, y34_1, y34_2, y34_3, y34_4⟩ := Cz.d5 BK189; obtain ⟨z35_0, z35_1, z35_2, z35_3, z35_4, y35_0, y35_1, y35_2, y35_3, y35_4⟩ := Cz.d5 BK190))
  go_ret
  exact ⟨Cz.er, Cz.bl (w := w)⟩
def waggonerref07_Same.f (a0_0 a0_1 a0_2 a0_3 : Int) (l0_4 : List Int) (a1_0 a1_1 a1_2 a1_3 : Int) (l1_4 : List Int) : Option Bool := if Pl.byteB l0_4 = true ∧ Pl.byteB l1_4 = true then some (decide (((a0_0, a0_1, a0_2, a0_3, l0_4) : Pl.Ext) = (a1_0, a1_1, a1_2, a1_3, l1_4))) else none
theorem waggonerref07_Same.tells {a0_0 a0_1 a0_2 a0_3 : Int} {l0_4 : List Int} {a1_0 a1_1 a1_2 a1_3 : Int} {l1_4 : List Int} (h0 : Pl.byteB l0_4 = true) (h1 : Pl.byteB l1_4 = true) : waggonerref07_Same.f a0_0 a0_1 a0_2 a0_3 l0_4 a1_0 a1_1 a1_2 a1_3 l1_4 = some (decide (((a0_0, a0_1, a0_2, a0_3, l0_4) : Pl.Ext) = (a1_0, a1_1, a1_2, a1_3, l1_4))) := if_pos ⟨h0, h1⟩
theorem waggonerref07_Same.closes {a0_0 a0_1 a0_2 a0_3 : Int} {l0_4 : List Int} {a1_0 a1_1 a1_2 a1_3 : Int} {l1_4 : List Int} {r : Bool} (h : waggonerref07_Same.f a0_0 a0_1 a0_2 a0_3 l0_4 a1_0 a1_1 a1_2 a1_3 l1_4 = some r) : waggonerref07_Same_p.f a0_0 a0_1 a0_2 a0_3 l0_4 a1_0 a1_1 a1_2 a1_3 l1_4 = some r := by
 unfold waggonerref07_Same.f at h
 split at h
 case isFalse => cases h
 rename_i hh
 rw [← h]
 unfold waggonerref07_Same_p.f
 rw [Pl.str_eq hh.1 hh.2]
 by_cases h0 : a0_0 = a1_0
 rotate_left
 ·rw [if_neg h0, decide_eq_false (fun e => h0 (congrArg (fun p : Pl.Ext => p.1) e))]
 by_cases h1 : a0_1 = a1_1
 rotate_left
 ·rw [if_pos h0, if_neg h1, decide_eq_false (fun e => h1 (congrArg (fun p : Pl.Ext => p.2.1) e))]
 by_cases h2 : a0_2 = a1_2
 rotate_left
 ·rw [if_pos h0, if_pos h1, if_neg h2, decide_eq_false (fun e => h2 (congrArg (fun p : Pl.Ext => p.2.2.1) e))]
 by_cases h3 : a0_3 = a1_3
 rotate_left
 ·rw [if_pos h0, if_pos h1, if_pos h2, if_neg h3, decide_eq_false (fun e => h3 (congrArg (fun p : Pl.Ext => p.2.2.2.1) e))]
 rw [if_pos h0, if_pos h1, if_pos h2, if_pos h3, Option.some.injEq, Bool.eq_iff_iff, beq_iff_eq, decide_eq_true_eq, h0, h1, h2, h3]
 constructor
 ·intro e; rw [e]
 ·intro e; exact congrArg (fun p : Pl.Ext => p.2.2.2.2) e
theorem waggonerref07_Same.calls (a0_0 : Int) (a0_1 : Int) (a0_2 : Int) (a0_3 : Int) (A0_4 : Option Addr) (c0_4 : Nat) (l0_4 : List Int) (a1_0 : Int) (a1_1 : Int) (a1_2 : Int) (a1_3 : Int) (A1_4 : Option Addr) (c1_4 : Nat) (l1_4 : List Int) (r : Bool) (w : World) (hr0_4 : Kd.C (Kd.int .u8) w A0_4 l0_4.length l0_4) (hc0_4 : l0_4.length ≤ c0_4) (hr1_4 : Kd.C (Kd.int .u8) w A1_4 l1_4.length l1_4) (hc1_4 : l1_4.length ≤ c1_4) (h : waggonerref07_Same.f a0_0 a0_1 a0_2 a0_3 l0_4 a1_0 a1_1 a1_2 a1_3 l1_4 = some r) :
  Calls Try.prog 44 #[.agg #[.int .i64 a0_0, .int .i64 a0_1, .int .i64 a0_2, .int .i64 a0_3, .slice A0_4 l0_4.length c0_4], .agg #[.int .i64 a1_0, .int .i64 a1_1, .int .i64 a1_2, .int .i64 a1_3, .slice A1_4 l1_4.length c1_4]] w fun e w' => e = .returned (.bool r) ∧ Below w.heap.size w w' :=
 waggonerref07_Same_p.calls a0_0 a0_1 a0_2 a0_3 A0_4 c0_4 l0_4 a1_0 a1_1 a1_2 a1_3 A1_4 c1_4 l1_4 r w hr0_4 hc0_4 hr1_4 hc1_4 (waggonerref07_Same.closes h)
def waggonerref07_All_p.l0 : Nat → List (S39) → List (S39) → Int → Option (Bool)
 | 0, _, _, _ => none
 | k + 1, x0, x1, x5 => if x5 < (x0.length : Int) then (if 0 ≤ x5 then (if x5 < (x1.length : Int) then ((waggonerref07_Same.f ((rd_T39 x0 x5).f0) ((rd_T39 x0 x5).f1) ((rd_T39 x0 x5).f2) ((rd_T39 x0 x5).f3) ((rd_T39 x0 x5).f4) ((rd_T39 x1 x5).f0) ((rd_T39 x1 x5).f1) ((rd_T39 x1 x5).f2) ((rd_T39 x1 x5).f3) ((rd_T39 x1 x5).f4)).bind fun t193 => (if t193 = true then (waggonerref07_All_p.l0 k x0 x1 (wrap64 (x5 + 1))) else (some false))) else (none)) else (none)) else (some true)
def waggonerref07_All_p.f (k : Nat) (l0 : List (S39)) (l1 : List (S39)) : Option (Bool) := if (l0.length : Int) = (l1.length : Int) then (waggonerref07_All_p.l0 k l0 l1 0) else (some false)
def waggonerref07_All_p.T6 : Bool × List (List Nat × List Nat) := (true, [([], []), ([], []), ([0, 1], [0, 1]), ([2], [2]), ([], []), ([], []), ([4, 5], [4, 5]), ([6], [6]), ([3, 7], [3, 7]), ([8, 8, 0, 1, 2, 3, 4, 5, 6, 7, 8], [8])])
def waggonerref07_All_p.B6 : List Nat := [0, 0, 3, 7, 0, 0, 48, 112, 255, 511]
theorem waggonerref07_All_p.tab6 : rtab .any (opsOf Try.f29 6) = waggonerref07_All_p.T6 := by kernel_rfl
theorem waggonerref07_All_p.bits6 : waitsOk waggonerref07_All_p.T6.2 waggonerref07_All_p.B6 = true := by kernel_rfl
set_option maxHeartbeats 8000000 in
set_option maxRecDepth 100000 in
theorem waggonerref07_All_p.calls (k : Nat) (A0 : Option Addr) (c0 : Nat) (l0 : List (S39)) (A1 : Option Addr) (c1 : Nat) (l1 : List (S39)) (r : Bool) (w : World) (hr0 : Kd.C k39 w A0 l0.length l0) (hc0 : l0.length ≤ c0) (hr1 : Kd.C k39 w A1 l1.length l1) (hc1 : l1.length ≤ c1) (h : waggonerref07_All_p.f k l0 l1 = some r) :
  Calls Try.prog 29 #[.slice A0 l0.length c0, .slice A1 l1.length c1] w fun e w' => e = .returned (.bool r) ∧ Below w.heap.size w w' := by
 have hu39 := Try.underlying39
 have HR0 := Aside0.mk hr0
 have HC0 := Aside0.mk hc0
 clear hr0 hc0
 have HR1 := Aside0.mk hr1
 have HC1 := Aside0.mk hc1
 clear hr1 hc1
 have HB := Aside0.mk (Below.refl w.heap.size w)
 have H : (if (l0.length : Int) = (l1.length : Int) then (waggonerref07_All_p.l0 k l0 l1 0) else (some false)) = some r := h
 clear h
 by_cases c3 : (l0.length : Int) = (l1.length : Int)
 ·rw [if_pos c3] at H
  have c3b0 : ((l0.length : Int) == (l1.length : Int)) = true := beq_iff_eq.mpr c3
  have c3b1 : ((l0.length : Int) != (l1.length : Int)) = false := bne_eq_false_iff_eq.mpr c3
  have c3b2 : (l0.length == l1.length) = true := by first | simpa using c3 | (simp at c3 ⊢; omega)
  clear c3
  have H' := Aside0.mk H
  clear H
  go_enter Try.func29, Try.ntmps29
  go_wp2
  go_loopg [5] k (fun kq v5 w' => ∃ (x5_1 : Int), v5 = .int .i64 x5_1 ∧ Aside0 (waggonerref07_All_p.l0 kq l0 l1 x5_1 = some r) ∧ Aside0 (kq ≤ k) ∧ Aside0 (Below w.heap.size w w'))
  case atStart => exact ⟨(0), Cz.si, H', ⟨Nat.le_refl _⟩, ⟨Cz.bl (w := w)⟩⟩
  case round =>
   clear H'
   try clear c1
   try clear c2
   try clear p2
   try clear c3
   try clear c3b0
   try clear c3b1
   try clear c3b2
   obtain ⟨x5_1, rfl, HA, HK1, HB⟩ := hrel
   cases gk with
   | zero => exact absurd HA.out (by simp [waggonerref07_All_p.l0])
   | succ k1 =>
    have H := HA.out
    clear HA
    simp only [waggonerref07_All_p.l0] at H
    by_cases c4 : x5_1 < (l0.length : Int)
    ·rw [if_pos c4] at H
     have c4b0 : decide (x5_1 < (l0.length : Int)) = true := decide_eq_true c4
     clear c4
     by_cases c5 : 0 ≤ x5_1
     ·rw [if_pos c5] at H
      have c5b0 : decide (0 ≤ x5_1) = true := decide_eq_true c5
      clear c5
      by_cases c6 : x5_1 < (l1.length : Int)
      ·rw [if_pos c6] at H
       have c6b0 : decide (x5_1 < (l1.length : Int)) = true := decide_eq_true c6
       clear c6
       replace H := Option.bind_eq_some_iff.mp H
       obtain ⟨t193, A70, H⟩ := H
       (try dsimp only at H)
       have A7 := Aside0.mk A70
       clear A70
       by_cases c8 : t193 = true
       ·subst c8
        rw [if_pos rfl] at H
        have H' := Aside0.mk H
        clear H
        try go_wp2
        replace HB := Aside0.mk (below_drew1 HB.out)
        have p191 : 0 ≤ (x5_1 : Int) := of_decide_eq_true (by first | (with_reducible assumption) | assumption)
        have q191 : x5_1 < (l0.length : Int) := of_decide_eq_true (by first | (with_reducible assumption) | assumption)
        obtain ⟨ad191, A191_4, c191_4, e191, hx191_0, hx191_1, hx191_2, hx191_3, hx191_4, hl191_4, hi191_4⟩ := at_T39 HR0.out x5_1 p191 q191
        have hw191_4 := hx191_4
        have hw191_3 := hx191_3
        have hw191_2 := hx191_2
        have hw191_1 := hx191_1
        have hw191_0 := hx191_0
        cases e191
        replace hx191_0 := (HB.out.cell (World.block_lt_of_cell? w _ hx191_0)).trans hx191_0
        replace hx191_1 := (HB.out.cell (World.block_lt_of_cell? w _ hx191_1)).trans hx191_1
        replace hx191_2 := (HB.out.cell (World.block_lt_of_cell? w _ hx191_2)).trans hx191_2
        replace hx191_3 := (HB.out.cell (World.block_lt_of_cell? w _ hx191_3)).trans hx191_3
        replace hx191_4 := (HB.out.cell (World.block_lt_of_cell? w _ hx191_4)).trans hx191_4
        have HR191_4 := Aside0.mk hi191_4
        have HC191_4 := Aside0.mk hl191_4
        clear hi191_4 hl191_4
        replace p191 := eq_true p191
        replace q191 := eq_true q191
        have p192 : 0 ≤ (x5_1 : Int) := of_decide_eq_true (by first | (with_reducible assumption) | assumption)
        have q192 : x5_1 < (l1.length : Int) := of_decide_eq_true (by first | (with_reducible assumption) | assumption)
        obtain ⟨ad192, A192_4, c192_4, e192, hx192_0, hx192_1, hx192_2, hx192_3, hx192_4, hl192_4, hi192_4⟩ := at_T39 HR1.out x5_1 p192 q192
        have hw192_4 := hx192_4
        have hw192_3 := hx192_3
        have hw192_2 := hx192_2
        have hw192_1 := hx192_1
        have hw192_0 := hx192_0
        cases e192
        replace hx192_0 := (HB.out.cell (World.block_lt_of_cell? w _ hx192_0)).trans hx192_0
        replace hx192_1 := (HB.out.cell (World.block_lt_of_cell? w _ hx192_1)).trans hx192_1
        replace hx192_2 := (HB.out.cell (World.block_lt_of_cell? w _ hx192_2)).trans hx192_2
        replace hx192_3 := (HB.out.cell (World.block_lt_of_cell? w _ hx192_3)).trans hx192_3
        replace hx192_4 := (HB.out.cell (World.block_lt_of_cell? w _ hx192_4)).trans hx192_4
        have HR192_4 := Aside0.mk hi192_4
        have HC192_4 := Aside0.mk hl192_4
        clear hi192_4 hl192_4
        replace p192 := eq_true p192
        replace q192 := eq_true q192
        refine start_ (n := 10) (S := fun w' => w'.cell? (ad191.add ((x5_1).toNat * 5)) = some (.int .i64 ((rd_T39 l0 x5_1).f0)) ∧ w'.cell? ⟨(ad191.add ((x5_1).toNat * 5)).block, (ad191.add ((x5_1).toNat * 5)).off + 1, none⟩ = some (.int .i64 ((rd_T39 l0 x5_1).f1)) ∧ w'.cell? ⟨(ad191.add ((x5_1).toNat * 5)).block, (ad191.add ((x5_1).toNat * 5)).off + 2, none⟩ = some (.int .i64 ((rd_T39 l0 x5_1).f2)) ∧ w'.cell? ⟨(ad191.add ((x5_1).toNat * 5)).block, (ad191.add ((x5_1).toNat * 5)).off + 3, none⟩ = some (.int .i64 ((rd_T39 l0 x5_1).f3)) ∧ w'.cell? ⟨(ad191.add ((x5_1).toNat * 5)).block, (ad191.add ((x5_1).toNat * 5)).off + 4, none⟩ = some (.slice A191_4 ((rd_T39 l0 x5_1).f4).length c191_4) ∧ w'.cell? (ad192.add ((x5_1).toNat * 5)) = some (.int .i64 ((rd_T39 l1 x5_1).f0)) ∧ w'.cell? ⟨(ad192.add ((x5_1).toNat * 5)).block, (ad192.add ((x5_1).toNat * 5)).off + 1, none⟩ = some (.int .i64 ((rd_T39 l1 x5_1).f1)) ∧ w'.cell? ⟨(ad192.add ((x5_1).toNat * 5)).block, (ad192.add ((x5_1).toNat * 5)).off + 2, none⟩ = some (.int .i64 ((rd_T39 l1 x5_1).f2)) ∧ w'.cell? ⟨(ad192.add ((x5_1).toNat * 5)).block, (ad192.add ((x5_1).toNat * 5)).off + 3, none⟩ = some (.int .i64 ((rd_T39 l1 x5_1).f3)) ∧ w'.cell? ⟨(ad192.add ((x5_1).toNat * 5)).block, (ad192.add ((x5_1).toNat * 5)).off + 4, none⟩ = some (.slice A192_4 ((rd_T39 l1 x5_1).f4).length c192_4)) (ds := []) #[false, false, false, false, false, false, false, false, false, false] (by kernel_rfl) rfl rfl ⟨((HB.out.cell (World.block_lt_of_cell? w _ hw191_0)).trans hw191_0), ((HB.out.cell (World.block_lt_of_cell? w _ hw191_1)).trans hw191_1), ((HB.out.cell (World.block_lt_of_cell? w _ hw191_2)).trans hw191_2), ((HB.out.cell (World.block_lt_of_cell? w _ hw191_3)).trans hw191_3), ((HB.out.cell (World.block_lt_of_cell? w _ hw191_4)).trans hw191_4), ((HB.out.cell (World.block_lt_of_cell? w _ hw192_0)).trans hw192_0), ((HB.out.cell (World.block_lt_of_cell? w _ hw192_1)).trans hw192_1), ((HB.out.cell (World.block_lt_of_cell? w _ hw192_2)).trans hw192_2), ((HB.out.cell (World.block_lt_of_cell? w _ hw192_3)).trans hw192_3), ((HB.out.cell (World.block_lt_of_cell? w _ hw192_4)).trans hw192_4)⟩ (fun hHeld => ?_); refine with_tabW waggonerref07_All_p.tab6 waggonerref07_All_p.bits6 (fun HT_ HW_ => ?_)
        generalize wr.drew = w9 at HB HR191_4 HR192_4 hx191_0 hx191_1 hx191_2 hx191_3 hx191_4 hx192_0 hx192_1 hx192_2 hx192_3 hx192_4 hHeld ⊢
        refine Cz.qP 0 18 HT_ ?_
        refine Cz.qP 1 19 HT_ ?_
        refine Cz.qP 2 20 HT_ ?_
        refine Cz.qP 4 22 HT_ ?_
        refine Cz.qP 5 23 HT_ ?_
        refine Cz.qP 6 24 HT_ ?_
        refine Cz.qT 3 21 HT_ HW_ hHeld ?_
        refine Cz.qT 7 25 HT_ HW_ hHeld ?_
        refine Cz.qO (N := some 26) 8 HT_ (fun K hK => ?_)
        refine Cz.gO Try.func44 #[.agg #[.int .i64 ((rd_T39 l0 x5_1).f0), .int .i64 ((rd_T39 l0 x5_1).f1), .int .i64 ((rd_T39 l0 x5_1).f2), .int .i64 ((rd_T39 l0 x5_1).f3), .slice A191_4 ((rd_T39 l0 x5_1).f4).length c191_4], .agg #[.int .i64 ((rd_T39 l1 x5_1).f0), .int .i64 ((rd_T39 l1 x5_1).f1), .int .i64 ((rd_T39 l1 x5_1).f2), .int .i64 ((rd_T39 l1 x5_1).f3), .slice A192_4 ((rd_T39 l1 x5_1).f4).length c192_4]] ?_
        with_reducible refine (waggonerref07_Same.calls ((rd_T39 l0 x5_1).f0) ((rd_T39 l0 x5_1).f1) ((rd_T39 l0 x5_1).f2) ((rd_T39 l0 x5_1).f3) _ _ ((rd_T39 l0 x5_1).f4) ((rd_T39 l1 x5_1).f0) ((rd_T39 l1 x5_1).f1) ((rd_T39 l1 x5_1).f2) ((rd_T39 l1 x5_1).f3) _ _ ((rd_T39 l1 x5_1).f4) true _ ?side1 ?side2 ?side3 ?side4 A7.out).mono ?_
        (case side1 => exact Cz.cb HR191_4)
        (case side2 => exact HC191_4.out)
        (case side3 => exact Cz.cb HR192_4)
        (case side4 => exact HC192_4.out)
        rintro e w10 ⟨rfl, hb⟩
        refine ⟨_, rfl, ?_⟩
        replace HB := Cz.bs (w := w) hb
        (try clear hb)
        (try clear hb2)
        (try clear hk)
        (try clear hi)
        refine hK.out _ _ ⟨((HB.out.cell (World.block_lt_of_cell? w _ hw191_0)).trans hw191_0), ((HB.out.cell (World.block_lt_of_cell? w _ hw191_1)).trans hw191_1), ((HB.out.cell (World.block_lt_of_cell? w _ hw191_2)).trans hw191_2), ((HB.out.cell (World.block_lt_of_cell? w _ hw191_3)).trans hw191_3), ((HB.out.cell (World.block_lt_of_cell? w _ hw191_4)).trans hw191_4), ((HB.out.cell (World.block_lt_of_cell? w _ hw192_0)).trans hw192_0), ((HB.out.cell (World.block_lt_of_cell? w _ hw192_1)).trans hw192_1), ((HB.out.cell (World.block_lt_of_cell? w _ hw192_2)).trans hw192_2), ((HB.out.cell (World.block_lt_of_cell? w _ hw192_3)).trans hw192_3), ((HB.out.cell (World.block_lt_of_cell? w _ hw192_4)).trans hw192_4)⟩ (fun hHeld => ?_)
        clear hK K
        refine norm_ (a' := ?_) ?_ ?_
        rotate_left
        ·show Act.put _ (some 26) _ = _
         simp only [Act.put, Kx.sb, Kx.sz, Kx.ss, i64_w, i32_w]
         rfl
        refine Cz.qP 9 6 HT_ ?_
        refine done_ (done_of HT_.out (by kernel_rfl)) ?_
        try go_wp2
        go_roundg k1
        case measure => have := HK1.out; omega
        case rel => exact ⟨(wrap64 (x5_1 + 1)), Cz.si, H', ⟨by have := HK1.out; omega⟩, ⟨Cz.bl (w := w)⟩⟩
       ·replace c8 := Bool.eq_false_iff.mpr c8
        subst c8
        rw [if_neg (show ¬ (false = true) by decide)] at H
        obtain rfl := Option.some.inj H
        try go_wp2
        replace HB := Aside0.mk (below_drew1 HB.out)
        have p191 : 0 ≤ (x5_1 : Int) := of_decide_eq_true (by first | (with_reducible assumption) | assumption)
        have q191 : x5_1 < (l0.length : Int) := of_decide_eq_true (by first | (with_reducible assumption) | assumption)
        obtain ⟨ad191, A191_4, c191_4, e191, hx191_0, hx191_1, hx191_2, hx191_3, hx191_4, hl191_4, hi191_4⟩ := at_T39 HR0.out x5_1 p191 q191
        have hw191_4 := hx191_4
        have hw191_3 := hx191_3
        have hw191_2 := hx191_2
        have hw191_1 := hx191_1
        have hw191_0 := hx191_0
        cases e191
        replace hx191_0 := (HB.out.cell (World.block_lt_of_cell? w _ hx191_0)).trans hx191_0
        replace hx191_1 := (HB.out.cell (World.block_lt_of_cell? w _ hx191_1)).trans hx191_1
        replace hx191_2 := (HB.out.cell (World.block_lt_of_cell? w _ hx191_2)).trans hx191_2
        replace hx191_3 := (HB.out.cell (World.block_lt_of_cell? w _ hx191_3)).trans hx191_3
        replace hx191_4 := (HB.out.cell (World.block_lt_of_cell? w _ hx191_4)).trans hx191_4
        have HR191_4 := Aside0.mk hi191_4
        have HC191_4 := Aside0.mk hl191_4
        clear hi191_4 hl191_4
        replace p191 := eq_true p191
        replace q191 := eq_true q191
        have p192 : 0 ≤ (x5_1 : Int) := of_decide_eq_true (by first | (with_reducible assumption) | assumption)
        have q192 : x5_1 < (l1.length : Int) := of_decide_eq_true (by first | (with_reducible assumption) | assumption)
        obtain ⟨ad192, A192_4, c192_4, e192, hx192_0, hx192_1, hx192_2, hx192_3, hx192_4, hl192_4, hi192_4⟩ := at_T39 HR1.out x5_1 p192 q192
        have hw192_4 := hx192_4
        have hw192_3 := hx192_3
        have hw192_2 := hx192_2
        have hw192_1 := hx192_1
        have hw192_0 := hx192_0
        cases e192
        replace hx192_0 := (HB.out.cell (World.block_lt_of_cell? w _ hx192_0)).trans hx192_0
        replace hx192_1 := (HB.out.cell (World.block_lt_of_cell? w _ hx192_1)).trans hx192_1
        replace hx192_2 := (HB.out.cell (World.block_lt_of_cell? w _ hx192_2)).trans hx192_2
        replace hx192_3 := (HB.out.cell (World.block_lt_of_cell? w _ hx192_3)).trans hx192_3
        replace hx192_4 := (HB.out.cell (World.block_lt_of_cell? w _ hx192_4)).trans hx192_4
        have HR192_4 := Aside0.mk hi192_4
        have HC192_4 := Aside0.mk hl192_4
        clear hi192_4 hl192_4
        replace p192 := eq_true p192
        replace q192 := eq_true q192
        refine start_ (n := 10) (S := fun w' => w'.cell? (ad191.add ((x5_1).toNat * 5)) = some (.int .i64 ((rd_T39 l0 x5_1).f0)) ∧ w'.cell? ⟨(ad191.add ((x5_1).toNat * 5)).block, (ad191.add ((x5_1).toNat * 5)).off + 1, none⟩ = some (.int .i64 ((rd_T39 l0 x5_1).f1)) ∧ w'.cell? ⟨(ad191.add ((x5_1).toNat * 5)).block, (ad191.add ((x5_1).toNat * 5)).off + 2, none⟩ = some (.int .i64 ((rd_T39 l0 x5_1).f2)) ∧ w'.cell? ⟨(ad191.add ((x5_1).toNat * 5)).block, (ad191.add ((x5_1).toNat * 5)).off + 3, none⟩ = some (.int .i64 ((rd_T39 l0 x5_1).f3)) ∧ w'.cell? ⟨(ad191.add ((x5_1).toNat * 5)).block, (ad191.add ((x5_1).toNat * 5)).off + 4, none⟩ = some (.slice A191_4 ((rd_T39 l0 x5_1).f4).length c191_4) ∧ w'.cell? (ad192.add ((x5_1).toNat * 5)) = some (.int .i64 ((rd_T39 l1 x5_1).f0)) ∧ w'.cell? ⟨(ad192.add ((x5_1).toNat * 5)).block, (ad192.add ((x5_1).toNat * 5)).off + 1, none⟩ = some (.int .i64 ((rd_T39 l1 x5_1).f1)) ∧ w'.cell? ⟨(ad192.add ((x5_1).toNat * 5)).block, (ad192.add ((x5_1).toNat * 5)).off + 2, none⟩ = some (.int .i64 ((rd_T39 l1 x5_1).f2)) ∧ w'.cell? ⟨(ad192.add ((x5_1).toNat * 5)).block, (ad192.add ((x5_1).toNat * 5)).off + 3, none⟩ = some (.int .i64 ((rd_T39 l1 x5_1).f3)) ∧ w'.cell? ⟨(ad192.add ((x5_1).toNat * 5)).block, (ad192.add ((x5_1).toNat * 5)).off + 4, none⟩ = some (.slice A192_4 ((rd_T39 l1 x5_1).f4).length c192_4)) (ds := []) #[false, false, false, false, false, false, false, false, false, false] (by kernel_rfl) rfl rfl ⟨((HB.out.cell (World.block_lt_of_cell? w _ hw191_0)).trans hw191_0), ((HB.out.cell (World.block_lt_of_cell? w _ hw191_1)).trans hw191_1), ((HB.out.cell (World.block_lt_of_cell? w _ hw191_2)).trans hw191_2), ((HB.out.cell (World.block_lt_of_cell? w _ hw191_3)).trans hw191_3), ((HB.out.cell (World.block_lt_of_cell? w _ hw191_4)).trans hw191_4), ((HB.out.cell (World.block_lt_of_cell? w _ hw192_0)).trans hw192_0), ((HB.out.cell (World.block_lt_of_cell? w _ hw192_1)).trans hw192_1), ((HB.out.cell (World.block_lt_of_cell? w _ hw192_2)).trans hw192_2), ((HB.out.cell (World.block_lt_of_cell? w _ hw192_3)).trans hw192_3), ((HB.out.cell (World.block_lt_of_cell? w _ hw192_4)).trans hw192_4)⟩ (fun hHeld => ?_); refine with_tabW waggonerref07_All_p.tab6 waggonerref07_All_p.bits6 (fun HT_ HW_ => ?_)
        generalize wr.drew = w11 at HB HR191_4 HR192_4 hx191_0 hx191_1 hx191_2 hx191_3 hx191_4 hx192_0 hx192_1 hx192_2 hx192_3 hx192_4 hHeld ⊢
        refine Cz.qP 0 18 HT_ ?_
        refine Cz.qP 1 19 HT_ ?_
        refine Cz.qP 2 20 HT_ ?_
        refine Cz.qP 4 22 HT_ ?_
        refine Cz.qP 5 23 HT_ ?_
        refine Cz.qP 6 24 HT_ ?_
        refine Cz.qT 3 21 HT_ HW_ hHeld ?_
        refine Cz.qT 7 25 HT_ HW_ hHeld ?_
        refine Cz.qO (N := some 26) 8 HT_ (fun K hK => ?_)
        refine Cz.gO Try.func44 #[.agg #[.int .i64 ((rd_T39 l0 x5_1).f0), .int .i64 ((rd_T39 l0 x5_1).f1), .int .i64 ((rd_T39 l0 x5_1).f2), .int .i64 ((rd_T39 l0 x5_1).f3), .slice A191_4 ((rd_T39 l0 x5_1).f4).length c191_4], .agg #[.int .i64 ((rd_T39 l1 x5_1).f0), .int .i64 ((rd_T39 l1 x5_1).f1), .int .i64 ((rd_T39 l1 x5_1).f2), .int .i64 ((rd_T39 l1 x5_1).f3), .slice A192_4 ((rd_T39 l1 x5_1).f4).length c192_4]] ?_
        with_reducible refine (waggonerref07_Same.calls ((rd_T39 l0 x5_1).f0) ((rd_T39 l0 x5_1).f1) ((rd_T39 l0 x5_1).f2) ((rd_T39 l0 x5_1).f3) _ _ ((rd_T39 l0 x5_1).f4) ((rd_T39 l1 x5_1).f0) ((rd_T39 l1 x5_1).f1) ((rd_T39 l1 x5_1).f2) ((rd_T39 l1 x5_1).f3) _ _ ((rd_T39 l1 x5_1).f4) false _ ?side1 ?side2 ?side3 ?side4 A7.out).mono ?_
        (case side1 => exact Cz.cb HR191_4)
        (case side2 => exact HC191_4.out)
        (case side3 => exact Cz.cb HR192_4)
        (case side4 => exact HC192_4.out)
        rintro e w12 ⟨rfl, hb⟩
        refine ⟨_, rfl, ?_⟩
        replace HB := Cz.bs (w := w) hb
        (try clear hb)
        (try clear hb2)
        (try clear hk)
        (try clear hi)
        refine hK.out _ _ ⟨((HB.out.cell (World.block_lt_of_cell? w _ hw191_0)).trans hw191_0), ((HB.out.cell (World.block_lt_of_cell? w _ hw191_1)).trans hw191_1), ((HB.out.cell (World.block_lt_of_cell? w _ hw191_2)).trans hw191_2), ((HB.out.cell (World.block_lt_of_cell? w _ hw191_3)).trans hw191_3), ((HB.out.cell (World.block_lt_of_cell? w _ hw191_4)).trans hw191_4), ((HB.out.cell (World.block_lt_of_cell? w _ hw192_0)).trans hw192_0), ((HB.out.cell (World.block_lt_of_cell? w _ hw192_1)).trans hw192_1), ((HB.out.cell (World.block_lt_of_cell? w _ hw192_2)).trans hw192_2), ((HB.out.cell (World.block_lt_of_cell? w _ hw192_3)).trans hw192_3), ((HB.out.cell (World.block_lt_of_cell? w _ hw192_4)).trans hw192_4)⟩ (fun hHeld => ?_)
        clear hK K
        refine norm_ (a' := ?_) ?_ ?_
        rotate_left
        ·show Act.put _ (some 26) _ = _
         simp only [Act.put, Kx.sb, Kx.sz, Kx.ss, i64_w, i32_w]
         rfl
        refine Cz.qP 9 6 HT_ ?_
        refine done_ (done_of HT_.out (by kernel_rfl)) ?_
        try go_wp2
        go_ret
        exact ⟨Cz.er, Cz.bl (w := w)⟩
      ·rw [if_neg c6] at H
       exact absurd H (by simp)
     ·rw [if_neg c5] at H
      exact absurd H (by simp)
    ·rw [if_neg c4] at H
     have c4b0 : decide (x5_1 < (l0.length : Int)) = false := decide_eq_false c4
     clear c4
     obtain rfl := Option.some.inj H
     go_wp2
     go_ret
     exact ⟨Cz.er, Cz.bl (w := w)⟩
 ·rw [if_neg c3] at H
  have c3b0 : ((l0.length : Int) == (l1.length : Int)) = false := beq_eq_false_iff_ne.mpr c3
  have c3b1 : ((l0.length : Int) != (l1.length : Int)) = true := bne_iff_ne.mpr c3
  have c3b2 : (l0.length == l1.length) = false := by first | simpa using c3 | (simp at c3 ⊢; omega)
  obtain rfl := Option.some.inj H
  go_enter Try.func29, Try.ntmps29
  go_wp2
  go_ret
  exact ⟨Cz.er, Cz.bl (w := w)⟩
def waggonerref07_All.f (l0 l1 : List S39) : Option Bool := if (∀ s ∈ l0, Pl.byteB s.f4 = true) ∧ (∀ s ∈ l1, Pl.byteB s.f4 = true) ∧ l0.length < 1073741824 then some (decide (l0.map toE = l1.map toE)) else none
theorem waggonerref07_All.tells {l0 l1 : List S39} (h0 : ∀ s ∈ l0, Pl.byteB s.f4 = true) (h1 : ∀ s ∈ l1, Pl.byteB s.f4 = true) (h2 : l0.length < 1073741824) : waggonerref07_All.f l0 l1 = some (decide (l0.map toE = l1.map toE)) := if_pos ⟨h0, h1, h2⟩
theorem waggonerref07_All.loop {l0 l1 : List S39} (h0 : ∀ s ∈ l0, Pl.byteB s.f4 = true) (h1 : ∀ s ∈ l1, Pl.byteB s.f4 = true) (h2 : l0.length < 1073741824) (hl : l0.length = l1.length) : ∀ (d k i : Nat), l0.length - i = d → i ≤ l0.length → d < k → waggonerref07_All_p.l0 k l0 l1 (i : Int) = some (decide ((l0.drop i).map toE = (l1.drop i).map toE))
 | 0, k, i, hd, hi, hk => by
  obtain ⟨k, rfl⟩ : ∃ m, k = m + 1 := ⟨k - 1, by omega⟩
  rw [waggonerref07_All_p.l0, if_neg (by omega), List.drop_of_length_le (by omega), List.drop_of_length_le (by omega)]
  rfl
 | d + 1, k, i, hd, hi, hk => by
  obtain ⟨k, rfl⟩ : ∃ m, k = m + 1 := ⟨k - 1, by omega⟩
  have hi0 : i < l0.length := by omega
  have hi1 : i < l1.length := by omega
  have hs : waggonerref07_Same.f l0[i].f0 l0[i].f1 l0[i].f2 l0[i].f3 l0[i].f4 l1[i].f0 l1[i].f1 l1[i].f2 l1[i].f3 l1[i].f4 = some (decide (toE l0[i] = toE l1[i])) := waggonerref07_Same.tells (h0 _ (List.getElem_mem hi0)) (h1 _ (List.getElem_mem hi1))
  rw [waggonerref07_All_p.l0, if_pos (by omega), if_pos (by omega), if_pos (by omega), rd_getE l0 i hi0, rd_getE l1 i hi1, hs, Option.bind_some, List.drop_eq_getElem_cons hi0, List.drop_eq_getElem_cons hi1, List.map_cons, List.map_cons]
  by_cases he : toE l0[i] = toE l1[i]
  ·rw [if_pos (decide_eq_true he), show wrap64 ((i : Int) + 1) = ((i + 1 : Nat) : Int) by unfold wrap64; omega, waggonerref07_All.loop h0 h1 h2 hl d k (i + 1) (by omega) (by omega) (by omega), he]
   simp
  ·rw [if_neg (fun hh => he (of_decide_eq_true hh)), decide_eq_false (fun hh => he (List.cons.inj hh).1)]
theorem waggonerref07_All.closes {l0 l1 : List S39} {r : Bool} (h : waggonerref07_All.f l0 l1 = some r) : waggonerref07_All_p.f (l0.length + 1) l0 l1 = some r := by
 unfold waggonerref07_All.f at h
 split at h
 case isFalse => cases h
 rename_i hh
 obtain ⟨h0, h1, h2⟩ := hh
 rw [← h]
 unfold waggonerref07_All_p.f
 by_cases hl : l0.length = l1.length
 ·rw [if_pos (by omega)]
  exact waggonerref07_All.loop h0 h1 h2 hl l0.length _ 0 (by omega) (by omega) (by omega)
 ·rw [if_neg (by omega), decide_eq_false (fun e => hl (by have := congrArg List.length e; rwa [List.length_map, List.length_map] at this))]
theorem waggonerref07_All.calls (A0 : Option Addr) (c0 : Nat) (l0 : List (S39)) (A1 : Option Addr) (c1 : Nat) (l1 : List (S39)) (r : Bool) (w : World) (hr0 : Kd.C k39 w A0 l0.length l0) (hc0 : l0.length ≤ c0) (hr1 : Kd.C k39 w A1 l1.length l1) (hc1 : l1.length ≤ c1) (h : waggonerref07_All.f l0 l1 = some r) :
  Calls Try.prog 29 #[.slice A0 l0.length c0, .slice A1 l1.length c1] w fun e w' => e = .returned (.bool r) ∧ Below w.heap.size w w' :=
 waggonerref07_All_p.calls (l0.length + 1) A0 c0 l0 A1 c1 l1 r w hr0 hc0 hr1 hc1 (waggonerref07_All.closes h)
end Go.Proofs.Ytmgohkffphogdaa.PU
