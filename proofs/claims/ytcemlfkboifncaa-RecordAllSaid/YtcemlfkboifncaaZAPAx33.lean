/- Words and walks that this claim names, of those that the kit's print and programs of this workplace have printed. -/
import Derived.Test.YtcemlfkboifncaaZAPAx12
import Derived.Test.YtcemlfkboifncaaZAPAx24
import Derived.Test.YtcemlfkboifncaaZAPAx28
import Derived.Test.YtcemlfkboifncaaZAPAx29
namespace Go.Proofs.Ytcemlfkboifncaa.PA
open Go.RowKit Go.Proofs.YtcemlfkboifncaaW.PrintWords Go.Proofs.YtcemlfkboifncaaW.PrintLast Go.Proofs.YtcemlfkboifncaaW.PrintMore
attribute [local go_sem] max2_int min2_int max_two min_two max_three min_three max_four min_four
set_option linter.unusedVariables false
set_option linter.unusedSimpArgs false
def record_Read.f (l0 : List Int) : Option (Int × Int × List Int × Int × Int) := if Pl.byteB l0 = true ∧ l0.length < 70368744177664 then some (Pl.rreadS l0) else none
theorem record_Size.tells {n : Int} (h0 : 0 ≤ n) (h1 : n < 70000) : record_Size.f n = some (if n ≤ 4096 then n + 20 else 0) := by
 unfold record_Size.f
 rw [if_neg (by omega)]
 by_cases h : n > 4096
 ·rw [if_pos h, if_neg (by omega)]
 ·rw [if_neg h, if_pos (by omega), show wrap64 (wrap64 (16 + n) + 4) = n + 20 from by unfold wrap64; omega]
theorem record_Read.tells {b : List Int} {r : Int × Int × List Int × Int × Int} (h : record_Read.f b = some r) : record_Read_p.f 4 b = some r := by
 unfold record_Read.f at h
 split at h
 case isFalse => cases h
 rename_i hh
 obtain ⟨hb, hl⟩ := hh
 obtain rfl := Option.some.inj h
 have e0 : ∀ a b c d : Int, rd [a, b, c, d] 0 = a := fun _ _ _ _ => rfl
 have e1 : ∀ a b c d : Int, rd [a, b, c, d] 1 = b := fun _ _ _ _ => rfl
 have e2 : ∀ a b c d : Int, rd [a, b, c, d] 2 = c := fun _ _ _ _ => rfl
 have e3 : ∀ a b c d : Int, rd [a, b, c, d] 3 = d := fun _ _ _ _ => rfl
 have hform : Pl.fb (⟨#[119, 104, 104, 113]⟩ : ByteArray) = Pl.recForm := by kernel_rfl
 have hun : le_Unpack.f (⟨#[119, 104, 104, 113]⟩ : ByteArray) (b.take 16) = some (Pl.unpackS Pl.recForm (b.take 16)) := by
  unfold le_Unpack.f
  rw [if_pos ⟨Pl.byteB_take hb 16, by rw [List.length_take]; omega, by decide⟩, hform]
 have err0 : ∀ k x, record_Read_p.j0 (k + 1) b x true 0 0 = some (0, 0, [], 0, 50) := fun k x => by
  simp only [record_Read_p.j0]
  rw [if_pos trivial]
 have err1 : ∀ k x y, record_Read_p.j1 (k + 1) b x y true 0 0 = some (0, 0, [], 0, 50) := fun k x y => by
  simp only [record_Read_p.j1]
  rw [if_pos trivial]
 have w64 : ∀ x : Int, 0 ≤ x → x < 9223372036854775808 → wrap64 x = x := fun x h0 h1 => by unfold wrap64; omega
 have hopen : ∀ l : List Int, Pl.byteB l = true → l.length < 70368744177664 → crc_Open.f l = some (Pl.openS l) := fun l h1 h2 => by unfold crc_Open.f; rw [if_pos ⟨h1, h2⟩]
 unfold record_Read_p.f
 rcases Pl.rreadS_cases b with ⟨k, s, l, t, ho, hbe, he⟩ | ⟨hno, he⟩
 ·obtain ⟨h1, h2, h3, h4, h5⟩ := Pl.recOk_iff.1 ho
  have hlen : b.length = l.length + 20 + t.length := by rw [hbe, List.length_append, Pl.recB_length]
  have hlb : Pl.byteB l = true := by
   rw [hbe, Pl.byteB_append, Pl.recB, Pl.seal4, Pl.byteB_append, Pl.byteB_append] at hb
   simp only [Bool.and_eq_true] at hb
   exact hb.1.1.2
  have hu := Pl.unpack_rec t ho
  rw [← hbe] at hu
  rw [he, if_neg (by omega), if_pos (by omega), hun, hu, Option.bind_some]
  simp only [e0, e3]
  rw [if_pos trivial, if_pos (by simp), if_pos trivial, if_pos (by simp), decide_eq_false (by omega)]
  simp only [record_Read_p.j0, e2]
  rw [if_neg (by decide), if_pos (by simp), w64 _ (by omega) (by omega), record_Size.tells (by omega) (by omega), Option.bind_some, if_pos (show ((l.length : Int)) ≤ 4096 from by omega), if_neg (by omega), decide_eq_false (by omega)]
  simp only [record_Read_p.j1]
  have htk : b.take ((l.length : Int) + 20).toNat = Pl.recB k s l := by
   rw [hbe, show ((l.length : Int) + 20).toNat = (Pl.recB k s l).length from by rw [Pl.recB_length]; omega, List.take_left]
  rw [if_neg (by decide), if_pos (by omega), if_pos (by omega), htk, hopen _ (Pl.recB_byte hlb) (by rw [Pl.recB_length]; omega), Pl.recB, Pl.openS_seal, Option.bind_some]
  simp only [e1, e3]
  rw [if_pos trivial, if_pos (by simp), if_pos (by simp), if_pos (by rw [List.length_append, Pl.recHead_length]; omega), List.drop_left' (Pl.recHead_length _ _ _), show bytes_Clone.f l = some l from by unfold bytes_Clone.f; rw [if_pos (by omega)], Option.bind_some,
   w64 _ (by omega) (by omega), w64 _ (by omega) (by omega), record_Check.tells, Option.bind_some, if_pos ho, if_pos rfl]
 ·rw [he]
  by_cases c16 : (b.length : Int) < 16
  ·rw [if_pos c16]
  obtain ⟨n0, n1, n2, n3, hu, q0, q1, p1, q2, p2, q3, p3, hhead⟩ := Pl.unpack_head hb (by omega)
  rw [if_neg c16, if_pos (by omega), hun, hu, Option.bind_some]
  simp only [e0, e3]
  rw [if_pos trivial, if_pos (by simp)]
  by_cases cm : n0 = 1196184151
  ·rw [if_pos cm, if_pos (by simp)]
   by_cases cs : n3 > 4611686018427387903
   ·rw [decide_eq_true cs]; exact err0 _ _
   rw [decide_eq_false cs]
   simp only [record_Read_p.j0, e2]
   rw [if_neg (by decide), if_pos (by simp), w64 _ (by omega) (by omega), record_Size.tells (by omega) (by omega), Option.bind_some]
   by_cases cn : n2 ≤ 4096
   ·rw [if_pos cn, if_neg (by omega)]
    by_cases cl : (b.length : Int) < n2 + 20
    ·rw [decide_eq_true cl]; exact err1 _ _ _
    rw [decide_eq_false cl]
    simp only [record_Read_p.j1]
    rw [if_neg (by decide), if_pos (by omega), if_pos (by omega), hopen _ (Pl.byteB_take hb _) (by rw [List.length_take]; omega), Option.bind_some]
    obtain ⟨m, hm⟩ := Int.eq_ofNat_of_zero_le q2
    have htl : (b.take (n2 + 20).toNat).length = m + 20 := by rw [List.length_take]; omega
    by_cases co : Pl.openB (b.take (n2 + 20).toNat) = true
    ·have htt : (b.take (n2 + 20).toNat).take (m + 16) = b.take 16 ++ (b.drop 16).take m := by
      rw [List.take_take, show min (m + 16) (n2 + 20).toNat = 16 + m from by omega, List.take_add]
     have hbl : ((b.drop 16).take m).length = m := by rw [List.length_take, List.length_drop]; omega
     rw [Pl.openS, if_pos co, htl, show m + 20 - 4 = m + 16 from by omega, htt]
     simp only [e1, e3]
     rw [if_pos trivial, if_pos (by simp), if_pos (by simp), if_pos (by rw [List.length_append, List.length_take]; omega), List.drop_left' (by rw [List.length_take]; omega),
      show bytes_Clone.f ((b.drop 16).take m) = some ((b.drop 16).take m) from by unfold bytes_Clone.f; rw [if_pos (by rw [hbl]; omega)], Option.bind_some, w64 _ (by omega) (by omega), w64 _ (by omega) (by omega), record_Check.tells, Option.bind_some]
     by_cases ck : Pl.recOk n1 n3 ((b.drop 16).take m) = true
     ·exfalso
      refine hno n1 n3 ((b.drop 16).take m) (b.drop (n2 + 20).toNat) ck ?_
      have hse : Pl.seal4 ((b.take (n2 + 20).toNat).take (m + 16)) = b.take (n2 + 20).toNat := by
       unfold Pl.openB at co
       rw [htl, show m + 20 - 4 = m + 16 from by omega, Bool.and_eq_true, beq_iff_eq] at co
       exact co.2
      rw [htt, ← hhead cm] at hse
      rw [Pl.recB, hbl, ← hm, hse, List.take_append_drop]
     ·rw [if_neg ck, if_neg (by decide)]
    ·rw [Pl.openS, if_neg co, if_neg (by decide)]
   ·rw [if_neg cn, if_pos rfl]; exact err1 _ _ _
  ·rw [if_neg cm]; exact err0 _ _
theorem record_Read.calls (A0 : Option Addr) (c0 : Nat) (l0 : List Int) (r1 : Int) (r2 : Int) (r3 : List Int) (r4 : Int) (r5 : Int) (w : World) (hr0 : Kd.C (Kd.int .u8) w A0 l0.length l0) (hc0 : l0.length ≤ c0) (h : record_Read.f l0 = some (r1, r2, r3, r4, r5)) :
  Calls Try.prog 21 #[.slice A0 l0.length c0] w fun e w' => ∃ v2_ : Value, e = .returned (.tuple #[.agg #[.int .i64 r1, .int .i64 r2, v2_], .int .i64 r4, .int .i64 r5]) ∧ Kd.R (Kd.int .u8) 5 w' w.heap.size (fun _ => True) v2_ r3 ∧ Below w.heap.size w w' :=
 record_Read_p.calls 4 A0 c0 l0 r1 r2 r3 r4 r5 w hr0 hc0 (record_Read.tells h)
def waggonerref05_Same.f (a0_0 : Int) (a0_1 : Int) (l0_2 : List Int) (a1_0 : Int) (a1_1 : Int) (l1_2 : List Int) : Option (Bool) := if a0_0 = a1_0 then (if a0_1 = a1_1 then (some ((strOfNums l0_2).toList == (strOfNums l1_2).toList)) else (some false)) else (some false)
set_option maxHeartbeats 8000000 in
set_option maxRecDepth 100000 in
theorem waggonerref05_Same.calls (a0_0 : Int) (a0_1 : Int) (A0_2 : Option Addr) (c0_2 : Nat) (l0_2 : List Int) (a1_0 : Int) (a1_1 : Int) (A1_2 : Option Addr) (c1_2 : Nat) (l1_2 : List Int) (r : Bool) (w : World) (hr0_2 : Kd.C (Kd.int .u8) w A0_2 l0_2.length l0_2) (hc0_2 : l0_2.length ≤ c0_2) (hr1_2 : Kd.C (Kd.int .u8) w A1_2 l1_2.length l1_2) (hc1_2 : l1_2.length ≤ c1_2) (h : waggonerref05_Same.f a0_0 a0_1 l0_2 a1_0 a1_1 l1_2 = some r) :
  Calls Try.prog 23 #[.agg #[.int .i64 a0_0, .int .i64 a0_1, .slice A0_2 l0_2.length c0_2], .agg #[.int .i64 a1_0, .int .i64 a1_1, .slice A1_2 l1_2.length c1_2]] w fun e w' => e = .returned (.bool r) ∧ Below w.heap.size w w' := by
 have hu25 := Try.underlying25
 have HR0_2 := Aside0.mk hr0_2
 have HC0_2 := Aside0.mk hc0_2
 clear hr0_2 hc0_2
 have HR1_2 := Aside0.mk hr1_2
 have HC1_2 := Aside0.mk hc1_2
 clear hr1_2 hc1_2
 have HB := Aside0.mk (Below.refl w.heap.size w)
 have H : (if a0_0 = a1_0 then (if a0_1 = a1_1 then (some ((strOfNums l0_2).toList == (strOfNums l1_2).toList)) else (some false)) else (some false)) = some r := h
 clear h
 by_cases c3 : a0_0 = a1_0
 ·rw [if_pos c3] at H
  have c3b0 : (a0_0 == a1_0) = true := beq_iff_eq.mpr c3
  have c3b1 : (a0_0 != a1_0) = false := bne_eq_false_iff_eq.mpr c3
  clear c3
  by_cases c4 : a0_1 = a1_1
  ·rw [if_pos c4] at H
   have c4b0 : (a0_1 == a1_1) = true := beq_iff_eq.mpr c4
   have c4b1 : (a0_1 != a1_1) = false := bne_eq_false_iff_eq.mpr c4
   clear c4
   obtain rfl := Option.some.inj H
   go_enter Try.func23, Try.ntmps23
   go_wp2_with (first | ((with_reducible refine gate_dst (N := 2) rfl ?_); refine box_event ?hg (N := 2) ?hd (cs := #[.int .i64 a0_0, .int .i64 a0_1, .slice A0_2 l0_2.length c0_2]) (t := 25) ?hr ?_; (case hd => rfl); (case hg => rfl); (case hr => first | (go_simp; done) | (go_simp; rfl)); intro gb161 hg w5 hbox hb; have n0_ := Aside0.mk (below_step (by repeat (first | (with_reducible first | exact HB.out | apply below_alloc | apply pw_below_drewN | apply below_drew1) | exact HB.out)) hb); have n1_ := Aside0.mk (hbox); have n2_ := Aside0.mk ((by rw [hg]; exact (below_size (by repeat (first | (with_reducible first | exact HB.out | apply below_alloc | apply pw_below_drewN | apply below_drew1) | exact HB.out))) : w.heap.size ≤ gb161)); have n3_ := Aside0.mk ((by rw [hg]; exact (below_size (by repeat (first | (with_reducible first | exact HB.out | apply below_alloc | apply pw_below_drewN | apply below_drew1) | exact HB.out))) : w.heap.size ≤ gb161)); clear HB; have HB := n0_; have BK161 := n1_; have GW161 := n2_; have GE161 := n3_; clear n0_ n1_ n2_ n3_; clear hb hbox hg) | ((with_reducible refine gate_dst (N := 3) rfl ?_); refine box_event ?hg (N := 3) ?hd (cs := #[.int .i64 a1_0, .int .i64 a1_1, .slice A1_2 l1_2.length c1_2]) (t := 25) ?hr ?_; (case hd => rfl); (case hg => rfl); (case hr => first | (go_simp; done) | (go_simp; rfl)); intro gb162 hg w6 hbox hb; have n0_ := Aside0.mk (blk_below (g := gb161) (o := .cells #[.int .i64 a0_0, .int .i64 a0_1, .slice A0_2 l0_2.length c0_2] 25 (0, 0)) (by (with_reducible repeat (first | refine blk_drewN ?_ _ | refine blk_drew ?_ | refine blk_alloc ?_ _)); exact BK161.out) hb); have n1_ := Aside0.mk (below_step (by repeat (first | (with_reducible first | exact HB.out | apply below_alloc | apply pw_below_drewN | apply below_drew1 | refine below_set ?_ GE161.out) | exact HB.out)) hb); have n2_ := Aside0.mk (hbox); have n3_ := Aside0.mk ((by rw [hg]; exact (below_size (by repeat (first | (with_reducible first | exact HB.out | apply below_alloc | apply pw_below_drewN | apply below_drew1 | refine below_set ?_ GE161.out) | exact HB.out))) : w.heap.size ≤ gb162)); have n4_ := Aside0.mk ((by rw [hg]; exact (below_size (by repeat (first | (with_reducible first | exact HB.out | apply below_alloc | apply pw_below_drewN | apply below_drew1 | refine below_set ?_ GE161.out) | exact HB.out))) : w.heap.size ≤ gb162)); have n5_ := Aside0.mk ((by rw [hg]; exact Nat.ne_of_lt (blk_lt (g := gb161) (o := .cells #[.int .i64 a0_0, .int .i64 a0_1, .slice A0_2 l0_2.length c0_2] 25 (0, 0)) (by (with_reducible repeat (first | refine blk_drewN ?_ _ | refine blk_drew ?_ | refine blk_alloc ?_ _)); exact BK161.out)) : gb161 ≠ gb162)); have n6_ := Aside0.mk ((by rw [hg]; exact Nat.ne_of_gt (blk_lt (g := gb161) (o := .cells #[.int .i64 a0_0, .int .i64 a0_1, .slice A0_2 l0_2.length c0_2] 25 (0, 0)) (by (with_reducible repeat (first | refine blk_drewN ?_ _ | refine blk_drew ?_ | refine blk_alloc ?_ _)); exact BK161.out)) : gb162 ≠ gb161)); clear BK161; clear HB; have BK161 := n0_; have HB := n1_; have BK162 := n2_; have GW162 := n3_; have GE162 := n4_; have NB161_162 := n5_; have NB162_161 := n6_; clear n0_ n1_ n2_ n3_ n4_ n5_ n6_; clear hb hbox hg; have hnb7 := NB161_162.out; have hnc7 := NB162_161.out; have hcz8_0 : w6.cell? ⟨gb161, 0, none⟩ = some (.int .i64 a0_0) := (blk_cell BK161.out 0).trans rfl; have hcz8_1 : w6.cell? ⟨gb161, 1, none⟩ = some (.int .i64 a0_1) := (blk_cell BK161.out 1).trans rfl; have hcz8_2 : w6.cell? ⟨gb161, 2, none⟩ = some (.slice A0_2 l0_2.length c0_2) := (blk_cell BK161.out 2).trans rfl; have hfz8_0 := blk_frozen BK161.out 0; have hfz8_1 := blk_frozen BK161.out 1; have hfz8_2 := blk_frozen BK161.out 2; have hcz9_0 : w6.cell? ⟨gb162, 0, none⟩ = some (.int .i64 a1_0) := (blk_cell BK162.out 0).trans rfl; have hcz9_1 : w6.cell? ⟨gb162, 1, none⟩ = some (.int .i64 a1_1) := (blk_cell BK162.out 1).trans rfl; have hcz9_2 : w6.cell? ⟨gb162, 2, none⟩ = some (.slice A1_2 l1_2.length c1_2) := (blk_cell BK162.out 2).trans rfl; have hfz9_0 := blk_frozen BK162.out 0; have hfz9_1 := blk_frozen BK162.out 1; have hfz9_2 := blk_frozen BK162.out 2; have hcv10 := Kd.C_string (P := Try.prog) (A := A0_2) (c := c0_2) Try.underlying23 Try.underlying5 Try.underlying9 (Kd.C_below HR0_2.out HB.out); (try have hcvd11 := fun (n_ : Nat) => Kd.C_string (P := Try.prog) (A := A0_2) (c := c0_2) Try.underlying23 Try.underlying5 Try.underlying9 (Kd.C_drewN (Kd.C_below HR0_2.out HB.out) n_)); have hcv12 := Kd.C_string (P := Try.prog) (A := A1_2) (c := c1_2) Try.underlying23 Try.underlying5 Try.underlying9 (Kd.C_below HR1_2.out HB.out); (try have hcvd13 := fun (n_ : Nat) => Kd.C_string (P := Try.prog) (A := A1_2) (c := c1_2) Try.underlying23 Try.underlying5 Try.underlying9 (Kd.C_drewN (Kd.C_below HR1_2.out HB.out) n_))))
   go_ret
   exact ⟨by first | rfl | (simp [errW_none, errW_some] <;> rfl) | (simp [*, errW_none, errW_some] <;> rfl), by repeat (first | (with_reducible first | exact HB.out | apply below_alloc | apply pw_below_drewN | apply below_drew1 | refine below_set ?_ GE161.out | refine below_set ?_ GE162.out) | exact HB.out)⟩
  ·rw [if_neg c4] at H
   have c4b0 : (a0_1 == a1_1) = false := beq_eq_false_iff_ne.mpr c4
   have c4b1 : (a0_1 != a1_1) = true := bne_iff_ne.mpr c4
   obtain rfl := Option.some.inj H
   go_enter Try.func23, Try.ntmps23
   go_wp2_with (first | ((with_reducible refine gate_dst (N := 2) rfl ?_); refine box_event ?hg (N := 2) ?hd (cs := #[.int .i64 a0_0, .int .i64 a0_1, .slice A0_2 l0_2.length c0_2]) (t := 25) ?hr ?_; (case hd => rfl); (case hg => rfl); (case hr => first | (go_simp; done) | (go_simp; rfl)); intro gb161 hg w14 hbox hb; have n0_ := Aside0.mk (below_step (by repeat (first | (with_reducible first | exact HB.out | apply below_alloc | apply pw_below_drewN | apply below_drew1) | exact HB.out)) hb); have n1_ := Aside0.mk (hbox); have n2_ := Aside0.mk ((by rw [hg]; exact (below_size (by repeat (first | (with_reducible first | exact HB.out | apply below_alloc | apply pw_below_drewN | apply below_drew1) | exact HB.out))) : w.heap.size ≤ gb161)); have n3_ := Aside0.mk ((by rw [hg]; exact (below_size (by repeat (first | (with_reducible first | exact HB.out | apply below_alloc | apply pw_below_drewN | apply below_drew1) | exact HB.out))) : w.heap.size ≤ gb161)); clear HB; have HB := n0_; have BK161 := n1_; have GW161 := n2_; have GE161 := n3_; clear n0_ n1_ n2_ n3_; clear hb hbox hg) | ((with_reducible refine gate_dst (N := 3) rfl ?_); refine box_event ?hg (N := 3) ?hd (cs := #[.int .i64 a1_0, .int .i64 a1_1, .slice A1_2 l1_2.length c1_2]) (t := 25) ?hr ?_; (case hd => rfl); (case hg => rfl); (case hr => first | (go_simp; done) | (go_simp; rfl)); intro gb162 hg w15 hbox hb; have n0_ := Aside0.mk (blk_below (g := gb161) (o := .cells #[.int .i64 a0_0, .int .i64 a0_1, .slice A0_2 l0_2.length c0_2] 25 (0, 0)) (by (with_reducible repeat (first | refine blk_drewN ?_ _ | refine blk_drew ?_ | refine blk_alloc ?_ _)); exact BK161.out) hb); have n1_ := Aside0.mk (below_step (by repeat (first | (with_reducible first | exact HB.out | apply below_alloc | apply pw_below_drewN | apply below_drew1 | refine below_set ?_ GE161.out) | exact HB.out)) hb); have n2_ := Aside0.mk (hbox); have n3_ := Aside0.mk ((by rw [hg]; exact (below_size (by repeat (first | (with_reducible first | exact HB.out | apply below_alloc | apply pw_below_drewN | apply below_drew1 | refine below_set ?_ GE161.out) | exact HB.out))) : w.heap.size ≤ gb162)); have n4_ := Aside0.mk ((by rw [hg]; exact (below_size (by repeat (first | (with_reducible first | exact HB.out | apply below_alloc | apply pw_below_drewN | apply below_drew1 | refine below_set ?_ GE161.out) | exact HB.out))) : w.heap.size ≤ gb162)); have n5_ := Aside0.mk ((by rw [hg]; exact Nat.ne_of_lt (blk_lt (g := gb161) (o := .cells #[.int .i64 a0_0, .int .i64 a0_1, .slice A0_2 l0_2.length c0_2] 25 (0, 0)) (by (with_reducible repeat (first | refine blk_drewN ?_ _ | refine blk_drew ?_ | refine blk_alloc ?_ _)); exact BK161.out)) : gb161 ≠ gb162)); have n6_ := Aside0.mk ((by rw [hg]; exact Nat.ne_of_gt (blk_lt (g := gb161) (o := .cells #[.int .i64 a0_0, .int .i64 a0_1, .slice A0_2 l0_2.length c0_2] 25 (0, 0)) (by (with_reducible repeat (first | refine blk_drewN ?_ _ | refine blk_drew ?_ | refine blk_alloc ?_ _)); exact BK161.out)) : gb162 ≠ gb161)); clear BK161; clear HB; have BK161 := n0_; have HB := n1_; have BK162 := n2_; have GW162 := n3_; have GE162 := n4_; have NB161_162 := n5_; have NB162_161 := n6_; clear n0_ n1_ n2_ n3_ n4_ n5_ n6_; clear hb hbox hg; have hnb16 := NB161_162.out; have hnc16 := NB162_161.out; have hcz17_0 : w15.cell? ⟨gb161, 0, none⟩ = some (.int .i64 a0_0) := (blk_cell BK161.out 0).trans rfl; have hcz17_1 : w15.cell? ⟨gb161, 1, none⟩ = some (.int .i64 a0_1) := (blk_cell BK161.out 1).trans rfl; have hcz17_2 : w15.cell? ⟨gb161, 2, none⟩ = some (.slice A0_2 l0_2.length c0_2) := (blk_cell BK161.out 2).trans rfl; have hfz17_0 := blk_frozen BK161.out 0; have hfz17_1 := blk_frozen BK161.out 1; have hfz17_2 := blk_frozen BK161.out 2; have hcz18_0 : w15.cell? ⟨gb162, 0, none⟩ = some (.int .i64 a1_0) := (blk_cell BK162.out 0).trans rfl; have hcz18_1 : w15.cell? ⟨gb162, 1, none⟩ = some (.int .i64 a1_1) := (blk_cell BK162.out 1).trans rfl; have hcz18_2 : w15.cell? ⟨gb162, 2, none⟩ = some (.slice A1_2 l1_2.length c1_2) := (blk_cell BK162.out 2).trans rfl; have hfz18_0 := blk_frozen BK162.out 0; have hfz18_1 := blk_frozen BK162.out 1; have hfz18_2 := blk_frozen BK162.out 2))
   go_ret
   exact ⟨by first | rfl | (simp [errW_none, errW_some] <;> rfl) | (simp [*, errW_none, errW_some] <;> rfl), by repeat (first | (with_reducible first | exact HB.out | apply below_alloc | apply pw_below_drewN | apply below_drew1 | refine below_set ?_ GE161.out | refine below_set ?_ GE162.out) | exact HB.out)⟩
 ·rw [if_neg c3] at H
  have c3b0 : (a0_0 == a1_0) = false := beq_eq_false_iff_ne.mpr c3
  have c3b1 : (a0_0 != a1_0) = true := bne_iff_ne.mpr c3
  obtain rfl := Option.some.inj H
  go_enter Try.func23, Try.ntmps23
  go_wp2_with (first | ((with_reducible refine gate_dst (N := 2) rfl ?_); refine box_event ?hg (N := 2) ?hd (cs := #[.int .i64 a0_0, .int .i64 a0_1, .slice A0_2 l0_2.length c0_2]) (t := 25) ?hr ?_; (case hd => rfl); (case hg => rfl); (case hr => first | (go_simp; done) | (go_simp; rfl)); intro gb161 hg w19 hbox hb; have n0_ := Aside0.mk (below_step (by repeat (first | (with_reducible first | exact HB.out | apply below_alloc | apply pw_below_drewN | apply below_drew1) | exact HB.out)) hb); have n1_ := Aside0.mk (hbox); have n2_ := Aside0.mk ((by rw [hg]; exact (below_size (by repeat (first | (with_reducible first | exact HB.out | apply below_alloc | apply pw_below_drewN | apply below_drew1) | exact HB.out))) : w.heap.size ≤ gb161)); have n3_ := Aside0.mk ((by rw [hg]; exact (below_size (by repeat (first | (with_reducible first | exact HB.out | apply below_alloc | apply pw_below_drewN | apply below_drew1) | exact HB.out))) : w.heap.size ≤ gb161)); clear HB; have HB := n0_; have BK161 := n1_; have GW161 := n2_; have GE161 := n3_; clear n0_ n1_ n2_ n3_; clear hb hbox hg) | ((with_reducible refine gate_dst (N := 3) rfl ?_); refine box_event ?hg (N := 3) ?hd (cs := #[.int .i64 a1_0, .int .i64 a1_1, .slice A1_2 l1_2.length c1_2]) (t := 25) ?hr ?_; (case hd => rfl); (case hg => rfl); (case hr => first | (go_simp; done) | (go_simp; rfl)); intro gb162 hg w20 hbox hb; have n0_ := Aside0.mk (blk_below (g := gb161) (o := .cells #[.int .i64 a0_0, .int .i64 a0_1, .slice A0_2 l0_2.length c0_2] 25 (0, 0)) (by (with_reducible repeat (first | refine blk_drewN ?_ _ | refine blk_drew ?_ | refine blk_alloc ?_ _)); exact BK161.out) hb); have n1_ := Aside0.mk (below_step (by repeat (first | (with_reducible first | exact HB.out | apply below_alloc | apply pw_below_drewN | apply below_drew1 | refine below_set ?_ GE161.out) | exact HB.out)) hb); have n2_ := Aside0.mk (hbox); have n3_ := Aside0.mk ((by rw [hg]; exact (below_size (by repeat (first | (with_reducible first | exact HB.out | apply below_alloc | apply pw_below_drewN | apply below_drew1 | refine below_set ?_ GE161.out) | exact HB.out))) : w.heap.size ≤ gb162)); have n4_ := Aside0.mk ((by rw [hg]; exact (below_size (by repeat (first | (with_reducible first | exact HB.out | apply below_alloc | apply pw_below_drewN | apply below_drew1 | refine below_set ?_ GE161.out) | exact HB.out))) : w.heap.size ≤ gb162)); have n5_ := Aside0.mk ((by rw [hg]; exact Nat.ne_of_lt (blk_lt (g := gb161) (o := .cells #[.int .i64 a0_0, .int .i64 a0_1, .slice A0_2 l0_2.length c0_2] 25 (0, 0)) (by (with_reducible repeat (first | refine blk_drewN ?_ _ | refine blk_drew ?_ | refine blk_alloc ?_ _)); exact BK161.out)) : gb161 ≠ gb162)); have n6_ := Aside0.mk ((by rw [hg]; exact Nat.ne_of_gt (blk_lt (g := gb161) (o := .cells #[.int .i64 a0_0, .int .i64 a0_1, .slice A0_2 l0_2.length c0_2] 25 (0, 0)) (by (with_reducible repeat (first | refine blk_drewN ?_ _ | refine blk_drew ?_ | refine blk_alloc ?_ _)); exact BK161.out)) : gb162 ≠ gb161)); clear BK161; clear HB; have BK161 := n0_; have HB := n1_; have BK162 := n2_; have GW162 := n3_; have GE162 := n4_; have NB161_162 := n5_; have NB162_161 := n6_; clear n0_ n1_ n2_ n3_ n4_ n5_ n6_; clear hb hbox hg; have hnb21 := NB161_162.out; have hnc21 := NB162_161.out; have hcz22_0 : w20.cell? ⟨gb161, 0, none⟩ = some (.int .i64 a0_0) := (blk_cell BK161.out 0).trans rfl; have hcz22_1 : w20.cell? ⟨gb161, 1, none⟩ = some (.int .i64 a0_1) := (blk_cell BK161.out 1).trans rfl; have hcz22_2 : w20.cell? ⟨gb161, 2, none⟩ = some (.slice A0_2 l0_2.length c0_2) := (blk_cell BK161.out 2).trans rfl; have hfz22_0 := blk_frozen BK161.out 0; have hfz22_1 := blk_frozen BK161.out 1; have hfz22_2 := blk_frozen BK161.out 2; have hcz23_0 : w20.cell? ⟨gb162, 0, none⟩ = some (.int .i64 a1_0) := (blk_cell BK162.out 0).trans rfl; have hcz23_1 : w20.cell? ⟨gb162, 1, none⟩ = some (.int .i64 a1_1) := (blk_cell BK162.out 1).trans rfl; have hcz23_2 : w20.cell? ⟨gb162, 2, none⟩ = some (.slice A1_2 l1_2.length c1_2) := (blk_cell BK162.out 2).trans rfl; have hfz23_0 := blk_frozen BK162.out 0; have hfz23_1 := blk_frozen BK162.out 1; have hfz23_2 := blk_frozen BK162.out 2))
  go_ret
  exact ⟨by first | rfl | (simp [errW_none, errW_some] <;> rfl) | (simp [*, errW_none, errW_some] <;> rfl), by repeat (first | (with_reducible first | exact HB.out | apply below_alloc | apply pw_below_drewN | apply below_drew1 | refine below_set ?_ GE161.out | refine below_set ?_ GE162.out) | exact HB.out)⟩
set_option maxHeartbeats 2000000 in
set_option maxRecDepth 2000000 in
theorem record_Scan_next.calls (gb ga : Nat) (A0 : Option Addr) (c0 : Nat) (l0 : List Int) (x k s : Int) (b : List Int) (n e : Int) (w : World) (hgb : w.heap[gb]? = some (.cells #[.slice A0 l0.length c0] 23 (0, 0))) (hga : w.heap[ga]? = some (.cells #[.int .i64 x] 3 (0, 0))) (hr0 : Kd.C (Kd.int .u8) w A0 l0.length l0) (hc0 : l0.length ≤ c0) (h0 : 0 ≤ x) (h1 : x ≤ (l0.length : Int)) (h : record_Read.f (l0.drop x.toNat) = some (k, s, b, n, e)) :
  Calls Try.prog 58 #[.pointer (some ⟨gb, 0, none⟩), .pointer (some ⟨ga, 0, none⟩)] w fun e' w' => ∃ v, e' = .returned (.tuple #[.agg #[.int .i64 k, .int .i64 s, v], .int .i64 n, .bool (e == 0)]) ∧ Kd.R (Kd.int .u8) 5 w' w.heap.size (fun _ => True) v b ∧ Below w.heap.size w w' := by
 have hu25 := Try.underlying25
 have HR0 := Aside0.mk hr0
 have HC0 := Aside0.mk hc0
 have HB := Aside0.mk (Below.refl w.heap.size w)
 have BKb := Aside0.mk hgb
 have BKa := Aside0.mk hga
 have HRd := Aside0.mk h
 clear hr0 hc0 hgb hga h
 obtain ⟨i08, hi08, _, hsz8, _⟩ := info_parts info5
 obtain ⟨A8, hcut8, hA8, hC8⟩ := print_drop_of (P := Try.prog) (Value.int .u8) 0 23 5 .i64 Try.underlying23 hi08 hsz8 A0 c0 l0 x h0 h1 HC0.out
 have HR8 := Aside0.mk (Kd.C_of_reads (h1 := fun _ => rfl) (hA8 _ (Kd.reads_of_C HR0.out)))
 have HC8 := Aside0.mk hC8
 clear hA8 hC8 hi08 hsz8
 have hlen : (l0.drop x.toNat).length = l0.length - x.toNat := List.length_drop
 have HLn := Aside0.mk hlen
 clear hlen
 go_enter Try.func58, Try.ntmps58
 go_wp2_with (first | ((with_reducible refine gate_dst (N := 2) rfl ?_); refine box_event ?hg (N := 2) ?hd (cs := #[.int .i64 0, .int .i64 0, .slice none 0 0]) (t := 25) ?hr ?_; (case hd => rfl); (case hg => rfl); (case hr => first | (go_simp; done) | (go_simp; rfl)); intro gx hg w10 hbox hb; have BKb' := Aside0.mk (blk_below BKb.out hb); have BKa' := Aside0.mk (blk_below BKa.out hb); have HR8' := Aside0.mk (Kd.C_below HR8.out hb); have HB' := Aside0.mk (below_step HB.out hb); clear HB BKb BKa HR8 HR0; have HB := HB'; have BKb := BKb'; have BKa := BKa'; have HR8 := HR8'; clear HB' BKb' BKa' HR8'; have BKx := Aside0.mk hbox; have GE := Aside0.mk (show w.heap.size ≤ gx by rw [hg]; exact Nat.le_refl _); clear hb hbox hg; have hcb : w10.cell? ⟨gb, 0, none⟩ = some (.slice A0 l0.length c0) := (blk_cell BKb.out 0).trans rfl; have hca : w10.cell? ⟨ga, 0, none⟩ = some (.int .i64 x) := (blk_cell BKa.out 0).trans rfl))
 rw [← HLn.out]
 refine (record_Read.calls A8 _ (l0.drop x.toNat) k s b n e _ HR8.out HC8.out HRd.out).mono ?_
 rintro e' w11 ⟨v, rfl, ho, hb⟩
 have BKx' := Aside0.mk (blk_below BKx.out hb)
 have HB' := Aside0.mk (below_step HB.out hb)
 have HOL := Aside0.mk (Kd.R_lower ho (below_size HB.out))
 clear BKx HB
 have BKx := BKx'
 have HB := HB'
 obtain ⟨Ao, co, rfl⟩ := Kd.R_slice ho
 clear ho hb BKx' HB' hcb hca BKb BKa
 have hcz0 : w11.cell? ⟨gx, 0, none⟩ = some (.int .i64 0) := (blk_cell BKx.out 0).trans rfl
 have hcz1 : w11.cell? ⟨gx, 1, none⟩ = some (.int .i64 0) := (blk_cell BKx.out 1).trans rfl
 have hcz2 : w11.cell? ⟨gx, 2, none⟩ = some (.slice none 0 0) := (blk_cell BKx.out 2).trans rfl
 have hfz0 := blk_frozen BKx.out 0
 have hfz1 := blk_frozen BKx.out 1
 have hfz2 := blk_frozen BKx.out 2
 go_wp2_with (first | ((with_reducible refine gate_store (t := 25) (p := 2) rfl ?_); refine store_event (t := 25) (p := 2) (v := ?vo_w13) (w1 := (((w11.setCell ⟨gx, 0, none⟩ (.int .i64 k)).setCell ⟨gx, 1, none⟩ (.int .i64 s)).setCell ⟨gx, 2, none⟩ (.slice Ao b.length co))) ?hg ?ho ?hn ?hr ?_; (case ho => rfl); (case hg => rfl); (case hn => rfl); (case hr => first | (go_simp; done) | (go_simp; rfl)); intro w13 hw; have n2_ : Aside0 (Kd.R (Kd.int .u8) 5 w13 w.heap.size (fun _ => True) (.slice Ao b.length co) b) := ⟨(by rw [hw]; exact Kd.R_mono (Kd.R_far (p := ⟨gx, 2, none⟩) (Kd.R_far (p := ⟨gx, 1, none⟩) (Kd.R_far (p := ⟨gx, 0, none⟩) (Kd.R_types HOL.out BKx.out (by decide)) (fun _ hk => hk.2) (.int .i64 k)) (fun _ hk => hk.2) (.int .i64 s)) (fun _ hk => hk.2) (.slice Ao b.length co)) (fun _ hk => trivial))⟩; have n3_ : Aside0 (w13.heap[gx]? = some (.cells #[.int .i64 k, .int .i64 s, .slice Ao b.length co] 25 (0, 0))) := ⟨(by rw [hw]; refine blk_put (cs := #[.int .i64 k, .int .i64 s, .slice none 0 0]) ?_ 2 _ rfl; refine blk_put (cs := #[.int .i64 k, .int .i64 0, .slice none 0 0]) ?_ 1 _ rfl; refine blk_put (cs := #[.int .i64 0, .int .i64 0, .slice none 0 0]) ?_ 0 _ rfl; exact BKx.out)⟩; have n4_ : Aside0 (Below w.heap.size w w13) := ⟨(by rw [hw]; exact below_set (below_set (below_set HB.out GE.out) GE.out) GE.out)⟩; clear hw hcz0 hcz1 hcz2 hfz0 hfz1 hfz2 HOL BKx HB; have HOL := n2_; have BKx := n3_; have HB := n4_; clear n2_ n3_ n4_; have hcy0 : w13.cell? ⟨gx, 0, none⟩ = some (.int .i64 k) := (blk_cell BKx.out 0).trans rfl; have hcy1 : w13.cell? ⟨gx, 1, none⟩ = some (.int .i64 s) := (blk_cell BKx.out 1).trans rfl; have hcy2 : w13.cell? ⟨gx, 2, none⟩ = some (.slice Ao b.length co) := (blk_cell BKx.out 2).trans rfl; have hfy0 := blk_frozen BKx.out 0; have hfy1 := blk_frozen BKx.out 1; have hfy2 := blk_frozen BKx.out 2))
 refine bodyPost_ret (results_ctt rfl _ _ gx 25 #[.int .i64 k, .int .i64 s, .slice Ao b.length co] (0, 0) _ rfl (by refine blk_put (cs := #[.int .i64 k, .int .i64 s, .slice Ao b.length co]) ?_ 2 _ rfl; refine blk_put (cs := #[.int .i64 k, .int .i64 s, .slice Ao b.length co]) ?_ 1 _ rfl; refine blk_put (cs := #[.int .i64 k, .int .i64 s, .slice Ao b.length co]) ?_ 0 _ rfl; exact BKx.out) Try.underlying25 rfl (by kernel_rfl)) rfl ?_
 exact ⟨_, rfl, Kd.R_mono (Kd.R_far (p := ⟨gx, 2, none⟩) (Kd.R_far (p := ⟨gx, 1, none⟩) (Kd.R_far (p := ⟨gx, 0, none⟩) (Kd.R_types HOL.out BKx.out (by decide)) (fun _ hk => hk.2) _) (fun _ hk => hk.2) _) (fun _ hk => hk.2) _) (fun _ hk => trivial), below_set (below_set (below_set HB.out GE.out) GE.out) GE.out⟩
def record_Scan.l0 : Nat → List Int → List S25 → List Int → Int → Option (List S25 × List Int)
 | 0, _, _, _, _ => none
 | k + 1, l0, x4, x5, x6 => if 0 ≤ x6 ∧ x6 ≤ (l0.length : Int) then ((record_Read.f (l0.drop x6.toNat)).bind fun t => if t.2.2.2.2 = 0 then (if x4.length < 3518437208883 ∧ x5.length < 17592186044416 then record_Scan.l0 k l0 (x4 ++ [⟨t.1, t.2.1, t.2.2.1⟩]) (x5 ++ [x6]) (wrap64 (x6 + t.2.2.2.1)) else none) else some (x4, x5)) else none
def record_Scan.J (gb ga : Nat) (A0 : Option Addr) (c0 : Nat) (l0 : List Int) (r1 : List S25) (r2 : List Int) (w : World) (n : Nat) (a' : Act) (w' : World) : Prop :=
 ∃ (x4 : List S25) (x5 : List Int) (x6 : Int) (v4 v5 u6 u7 u8 u10 u11 u12 u13 u14 u15 u16 u17 u18 u19 u20 u21 u22 u23 u24 u25 u26 u27 u28 u29 u30 : Value), a' = { tmps := #[.slice A0 l0.length c0, .pointer (some ⟨gb, 0, none⟩), v4, v5, .pointer (some ⟨ga, 0, none⟩), .func (.func 58) #[] #[.pointer (some ⟨gb, 0, none⟩), .pointer (some ⟨ga, 0, none⟩)], u6, u7, u8, .func (.func 58) #[] #[.pointer (some ⟨gb, 0, none⟩), .pointer (some ⟨ga, 0, none⟩)], u10, u11, u12, u13, u14, u15, u16, u17, u18, u19, u20, u21, u22, u23, u24, u25, u26, u27, u28, u29, u30], defers := [] } ∧ Aside0 (record_Scan.l0 n l0 x4 x5 x6 = some (r1, r2)) ∧ Aside0 (w'.heap[gb]? = some (.cells #[.slice A0 l0.length c0] 23 (0, 0))) ∧ Aside0 (w'.heap[ga]? = some (.cells #[.int .i64 x6] 3 (0, 0))) ∧ Aside0 (Kd.S k25 25 w' w.heap.size (fun _ => True) v4 x4) ∧ Aside0 (Kd.R (Kd.int .i64) 3 w' w.heap.size (fun k => k ≠ ga) v5 x5) ∧ Aside0 (Below w.heap.size w w')
set_option maxHeartbeats 4000000 in
set_option maxRecDepth 2000000 in
theorem record_Scan.callsK (K : Nat) (A0 : Option Addr) (c0 : Nat) (l0 : List Int) (r1 : List S25) (r2 : List Int) (w : World) (hr0 : Kd.C (Kd.int .u8) w A0 l0.length l0) (hc0 : l0.length ≤ c0) (h : record_Scan.l0 K l0 [] [] 0 = some (r1, r2)) :
  Calls Try.prog 28 #[.slice A0 l0.length c0] w fun e w' => ∃ v0_ v1_ : Value, e = .returned (.tuple #[v0_, v1_]) ∧ Kd.S k25 25 w' w.heap.size (fun _ => True) v0_ r1 ∧ Kd.R (Kd.int .i64) 3 w' w.heap.size (fun _ => True) v1_ r2 ∧ Below w.heap.size w w' := by
 have hu25 := Try.underlying25
 have HR0 := Aside0.mk hr0
 have HC0 := Aside0.mk hc0
 have HB := Aside0.mk (Below.refl w.heap.size w)
 have H := Aside0.mk h
 clear hr0 hc0 h
 go_enter Try.func28, Try.ntmps28
 go_wp2
 have BKb0 := Aside0.mk (blk_new w (.cells #[.slice A0 l0.length c0] 23))
 have HB0 := Aside0.mk (below_alloc HB.out (.cells #[.slice A0 l0.length c0] 23))
 have hz : (w.alloc (.cells #[.slice A0 l0.length c0] 23)).heap.size = w.heap.size + 1 := by simp
 clear HB
 obtain ⟨gb, hgb⟩ : ∃ gb, gb = w.heap.size := ⟨_, rfl⟩
 have HGB := Aside0.mk hgb
 rw [← hgb] at BKb0 ⊢
 generalize w.alloc (.cells #[.slice A0 l0.length c0] 23) = w1 at BKb0 HB0 hz ⊢
 obtain ⟨ga, hga⟩ : ∃ ga, ga = w1.heap.size := ⟨_, rfl⟩
 have HGA := Aside0.mk hga
 have GA := Aside0.mk (show w.heap.size ≤ ga by omega)
 clear hgb hz hga
 refine Kx.scope_ghost 0 (record_Scan.J gb ga A0 c0 l0 r1 r2 w) rfl ?_ ?_
 case refine_2 =>
  intro go
  go_wp2
  go_step3
  rename_i Kk hKk
  rw [← HGA.out]
  refine hKk _ _ (go K _ _ ⟨[], [], 0, .slice none 0 0, .slice none 0 0, undef, undef, undef, undef, undef, undef, undef, undef, undef, undef, undef, undef, undef, undef, undef, undef, undef, undef, undef, undef, undef, undef, undef, undef, rfl, H, ⟨blk_alloc BKb0.out _⟩, ⟨by rw [HGA.out]; exact blk_new w1 _⟩, ⟨Kd.S_nil _ _ _ _ _⟩, ⟨Kd.R_nil _ _ _ _ _⟩, ⟨below_alloc HB0.out _⟩⟩)
 case refine_1 =>
  intro n a' w0' hJ
  clear H
  obtain ⟨x4, x5, x6, v4, v5, u6, u7, u8, u10, u11, u12, u13, u14, u15, u16, u17, u18, u19, u20, u21, u22, u23, u24, u25, u26, u27, u28, u29, u30, rfl, H, BKb, BKa, HO4, HO5, HB⟩ := hJ
  clear BKb0 HB0 HGA HGB
  cases n with
  | zero => exact absurd H.out (by simp [record_Scan.l0])
  | succ n =>
   have H1 := H.out
   clear H
   rw [record_Scan.l0] at H1
   split at H1
   case isFalse => cases H1
   rename_i hx
   obtain ⟨hx0, hx1⟩ := hx
   replace H1 := Option.bind_eq_some_iff.mp H1
   obtain ⟨⟨k, s, b, nn, e⟩, HR, H1⟩ := H1
   dsimp only at H1
   have HRd := Aside0.mk HR
   have HX := Aside0.mk (And.intro hx0 hx1)
   clear HR hx0 hx1
   have HRn := Aside0.mk (Kd.C_below HR0.out HB.out)
   by_cases he : e = 0
   ·subst he
    rw [if_pos rfl] at H1
    split at H1
    case isFalse => cases H1
    rename_i hll
    have HLL := Aside0.mk hll
    have H := Aside0.mk H1
    clear hll H1
    go_wp2_with fail
    refine (record_Scan_next.calls gb ga A0 c0 l0 x6 k s b nn 0 _ BKb.out BKa.out HRn.out HC0.out HX.out.1 HX.out.2 HRd.out).mono ?_
    rintro e' w11 ⟨v, rfl, ho, hb⟩
    obtain ⟨Ao, co, rfl⟩ := Kd.R_slice ho
    have n1 := Aside0.mk (blk_below BKb.out hb)
    have n2 := Aside0.mk (blk_below BKa.out hb)
    have n3 := Aside0.mk (Kd.S_elder' HO4.out (Kd.R_base ho) hb)
    have n4 := Aside0.mk (Kd.R_below HO5.out hb)
    have n5 := Aside0.mk (Kd.R_lower ho (below_size HB.out))
    have n6 := Aside0.mk (below_step HB.out hb)
    clear BKb BKa HO4 HO5 HB ho hb HRn HX HRd HR0 HC0
    have BKb := n1
    have BKa := n2
    have HO4 := n3
    have HO5 := n4
    have HOb := n5
    have HB := n6
    clear n1 n2 n3 n4 n5 n6
    have hbt : ((0 : Int) == 0) = true := rfl
    rw [hbt]
    go_wp2_with (first | ((with_reducible refine gate_dst (N := 6) rfl ?_); refine box_event ?hg (N := 6) ?hd (cs := #[.int .i64 0, .int .i64 0, .slice none 0 0]) (t := 25) ?hr ?_; (case hd => rfl); (case hg => rfl); (case hr => first | (go_simp; done) | (go_simp; rfl)); intro gx hg w12 hbox hb; have n1 := Aside0.mk (blk_below BKb.out hb); have n2 := Aside0.mk (blk_below BKa.out hb); have n3 := Aside0.mk (Kd.S_below (Kd.S_elderB HO4.out gx (Nat.le_of_eq hg.symm)) hb); have n4 := Aside0.mk (Kd.R_below HO5.out hb); have n5 := Aside0.mk (Kd.R_below HOb.out hb); have n6 := Aside0.mk (below_step HB.out hb); have BKx := Aside0.mk hbox; have GX := Aside0.mk (show w.heap.size ≤ gx by rw [hg]; exact below_size HB.out); clear BKb BKa HO4 HO5 HOb HB hb hbox hg; have BKb := n1; have BKa := n2; have HO4 := n3; have HO5 := n4; have HOb := n5; have HB := n6; clear n1 n2 n3 n4 n5 n6; have hcz0 : w12.cell? ⟨gx, 0, none⟩ = some (.int .i64 0) := (blk_cell BKx.out 0).trans rfl; have hcz1 : w12.cell? ⟨gx, 1, none⟩ = some (.int .i64 0) := (blk_cell BKx.out 1).trans rfl; have hcz2 : w12.cell? ⟨gx, 2, none⟩ = some (.slice none 0 0) := (blk_cell BKx.out 2).trans rfl; have hfz0 := blk_frozen BKx.out 0; have hfz1 := blk_frozen BKx.out 1; have hfz2 := blk_frozen BKx.out 2) | ((with_reducible refine gate_store (t := 25) (p := 6) rfl ?_); refine store_event (t := 25) (p := 6) (v := ?vo_w13) (w1 := (((w12.setCell ⟨gx, 0, none⟩ (.int .i64 k)).setCell ⟨gx, 1, none⟩ (.int .i64 s)).setCell ⟨gx, 2, none⟩ (.slice Ao b.length co))) ?hg ?ho ?hn ?hr ?_; (case ho => rfl); (case hg => rfl); (case hn => rfl); (case hr => first | (go_simp; done) | (go_simp; rfl)); intro w13 hw; have n1 : Aside0 (w13.heap[gb]? = some (.cells #[.slice A0 l0.length c0] 23 (0, 0))) := ⟨(by rw [hw]; exact blk_far (blk_far (blk_far BKb.out (p := ⟨gx, 0, none⟩) (blk_ne BKb.out BKx.out (by decide)) _) (p := ⟨gx, 1, none⟩) (blk_ne BKb.out BKx.out (by decide)) _) (p := ⟨gx, 2, none⟩) (blk_ne BKb.out BKx.out (by decide)) _)⟩; have n2 : Aside0 (w13.heap[ga]? = some (.cells #[.int .i64 x6] 3 (0, 0))) := ⟨(by rw [hw]; exact blk_far (blk_far (blk_far BKa.out (p := ⟨gx, 0, none⟩) (blk_ne BKa.out BKx.out (by decide)) _) (p := ⟨gx, 1, none⟩) (blk_ne BKa.out BKx.out (by decide)) _) (p := ⟨gx, 2, none⟩) (blk_ne BKa.out BKx.out (by decide)) _)⟩; have n3 : Aside0 (Kd.S k25 25 w13 w.heap.size (fun k_ => some k_ ≠ (.slice Ao b.length co : Value).ownBlock ∧ k_ ≠ gx) v4 x4) := ⟨(by rw [hw]; exact Kd.S_mono (Kd.S_far (p := ⟨gx, 2, none⟩) (Kd.S_far (p := ⟨gx, 1, none⟩) (Kd.S_far (p := ⟨gx, 0, none⟩) HO4.out (fun _ hk => hk.2) (.int .i64 k)) (fun _ hk => hk.2) (.int .i64 s)) (fun _ hk => hk.2) (.slice Ao b.length co)) (fun _ hk => ⟨hk.1.2, hk.2⟩))⟩; have n4 : Aside0 (Kd.R (Kd.int .i64) 3 w13 w.heap.size (fun k => k ≠ ga) v5 x5) := ⟨(by rw [hw]; exact Kd.R_mono (Kd.R_far (p := ⟨gx, 2, none⟩) (Kd.R_far (p := ⟨gx, 1, none⟩) (Kd.R_far (p := ⟨gx, 0, none⟩) (Kd.R_types HO5.out BKx.out (by decide)) (fun _ hk => hk.2) (.int .i64 k)) (fun _ hk => hk.2) (.int .i64 s)) (fun _ hk => hk.2) (.slice Ao b.length co)) (fun _ hk => hk.1))⟩; have n5 : Aside0 (Kd.R (Kd.int .u8) 5 w13 w.heap.size (fun _ => True) (.slice Ao b.length co) b) := ⟨(by rw [hw]; exact Kd.R_mono (Kd.R_far (p := ⟨gx, 2, none⟩) (Kd.R_far (p := ⟨gx, 1, none⟩) (Kd.R_far (p := ⟨gx, 0, none⟩) (Kd.R_types HOb.out BKx.out (by decide)) (fun _ hk => hk.2) (.int .i64 k)) (fun _ hk => hk.2) (.int .i64 s)) (fun _ hk => hk.2) (.slice Ao b.length co)) (fun _ hk => trivial))⟩; have n6 : Aside0 (w13.heap[gx]? = some (.cells #[.int .i64 k, .int .i64 s, .slice Ao b.length co] 25 (0, 0))) := ⟨(by rw [hw]; refine blk_put (cs := #[.int .i64 k, .int .i64 s, .slice none 0 0]) ?_ 2 _ rfl; refine blk_put (cs := #[.int .i64 k, .int .i64 0, .slice none 0 0]) ?_ 1 _ rfl; refine blk_put (cs := #[.int .i64 0, .int .i64 0, .slice none 0 0]) ?_ 0 _ rfl; exact BKx.out)⟩; have n7 : Aside0 (Below w.heap.size w w13) := ⟨(by rw [hw]; exact below_set (below_set (below_set HB.out GX.out) GX.out) GX.out)⟩; clear hw hcz0 hcz1 hcz2 hfz0 hfz1 hfz2 BKb BKa HO4 HO5 HOb BKx HB; have BKb := n1; have BKa := n2; have HO4 := n3; have HO5 := n4; have HOb := n5; have BKx := n6; have HB := n7; clear n1 n2 n3 n4 n5 n6 n7))
    have n1 := Aside0.mk (blk_drew BKb.out)
    have n2 := Aside0.mk (blk_drew BKa.out)
    have n3 := Aside0.mk (blk_drew BKx.out)
    have n4 := Aside0.mk (Kd.S_drew HO4.out)
    have n5 := Aside0.mk (Kd.R_drew HO5.out)
    have n6 := Aside0.mk (Kd.R_drew HOb.out)
    have n7 := Aside0.mk (below_drew1 HB.out)
    clear BKb BKa BKx HO4 HO5 HOb HB
    have BKb := n1
    have BKa := n2
    have BKx := n3
    have HO4 := n4
    have HO5 := n5
    have HOb := n6
    have HB := n7
    clear n1 n2 n3 n4 n5 n6 n7
    refine start_ (n := 10) (S := fun w' => w'.cell? ⟨gx, 0, none⟩ = some (.int .i64 k) ∧ w'.cell? ⟨gx, 1, none⟩ = some (.int .i64 s) ∧ w'.cell? ⟨gx, 2, none⟩ = some (.slice Ao b.length co) ∧ w'.cell? ⟨ga, 0, none⟩ = some (.int .i64 x6)) (ds := []) #[false, false, false, false, false, false, false, false, false, false] (by kernel_rfl) rfl rfl ⟨((blk_cell BKx.out 0).trans rfl), ((blk_cell BKx.out 1).trans rfl), ((blk_cell BKx.out 2).trans rfl), ((blk_cell BKa.out 0).trans rfl)⟩ (fun hHeld => ?_)
    generalize w13.drew = wq0 at BKb BKa BKx HO4 HO5 HOb HB hHeld ⊢
    refine pure_ (i := 0) (N := some 20) (v := ?_) (a' := ?_) #[true, false, false, false, false, false, false, false, false, false] rfl rfl (by kernel_rfl) (fun _ _ _ h => h) (Or.inl ⟨by rfl, ?_⟩) ?_ ?_
    rotate_left
    ·intro w'
     go_simp
     with_reducible rfl
    rotate_left
    ·simp only [Act.put, Kx.sb, Kx.sz, Kx.ss, i64_w, i32_w]
     rfl
    refine pure_ (i := 4) (N := some 24) (v := ?_) (a' := ?_) #[true, false, false, false, true, false, false, false, false, false] rfl rfl (by kernel_rfl) (fun _ _ _ h => h) (Or.inl ⟨by rfl, ?_⟩) ?_ ?_
    rotate_left
    ·intro w'
     go_simp
     with_reducible rfl
    rotate_left
    ·simp only [Act.put, Kx.sb, Kx.sz, Kx.ss, i64_w, i32_w]
     rfl
    refine take_ (i := 1) (N := some 21) (v := ?_) (a' := ?_) #[true, true, false, false, true, false, false, false, false, false] rfl rfl (by kernel_rfl) (fun _ _ _ h => h) (Or.inl ⟨by rfl, ?_⟩) hHeld ?_ ?_
    rotate_left
    ·rintro w' ⟨s0, s1, s2, s3⟩
     go_simp
     with_reducible rfl
    rotate_left
    ·simp only [Act.put, Kx.sb, Kx.sz, Kx.ss, i64_w, i32_w]
     rfl
    refine take_ (i := 5) (N := some 25) (v := ?_) (a' := ?_) #[true, true, false, false, true, true, false, false, false, false] rfl rfl (by kernel_rfl) (fun _ _ _ h => h) (Or.inl ⟨by rfl, ?_⟩) hHeld ?_ ?_
    rotate_left
    ·rintro w' ⟨s0, s1, s2, s3⟩
     go_simp
     with_reducible rfl
    rotate_left
    ·simp only [Act.put, Kx.sb, Kx.sz, Kx.ss, i64_w, i32_w]
     rfl
    refine two_ (i := 2) (j := 6) (Ni := some 22) (Nj := some 26) #[true, true, true, false, true, true, false, false, false, false] #[true, true, false, false, true, true, true, false, false, false] rfl rfl rfl rfl (by kernel_rfl) (by decide) (by decide) (fun K hK => ?_) (fun K hK => ?_)
    ·skip
     refine value_ (w1 := ?_) (v := ?_) (by rfl) rfl ?_ ?_
     rotate_left 2
     ·go_simp
      constructor
      ·rfl
      ·rfl
     refine hK.out _ _ ⟨((blk_cell (blk_alloc BKx.out _) 0).trans rfl), ((blk_cell (blk_alloc BKx.out _) 1).trans rfl), ((blk_cell (blk_alloc BKx.out _) 2).trans rfl), ((blk_cell (blk_alloc BKa.out _) 0).trans rfl)⟩ (fun hHeld => ?_)
     clear hK K
     have n_BKb := Aside0.mk (blk_alloc BKb.out (.cells #[.int .i64 k, .int .i64 s, .slice Ao b.length co] 25))
     have n_BKa := Aside0.mk (blk_alloc BKa.out (.cells #[.int .i64 k, .int .i64 s, .slice Ao b.length co] 25))
     have n_BKx := Aside0.mk (blk_alloc BKx.out (.cells #[.int .i64 k, .int .i64 s, .slice Ao b.length co] 25))
     have n_HO4 := Aside0.mk (Kd.S_alloc HO4.out (.cells #[.int .i64 k, .int .i64 s, .slice Ao b.length co] 25))
     have n_HO5 := Aside0.mk (Kd.R_alloc HO5.out (.cells #[.int .i64 k, .int .i64 s, .slice Ao b.length co] 25))
     have n_HB := Aside0.mk (below_alloc HB.out (.cells #[.int .i64 k, .int .i64 s, .slice Ao b.length co] 25))
     have n_HOb := Aside0.mk (Kd.R_alloc HOb.out (.cells #[.int .i64 k, .int .i64 s, .slice Ao b.length co] 25))
     have n_BL1 := Aside0.mk (blk_new wq0 (.cells #[.int .i64 k, .int .i64 s, .slice Ao b.length co] 25))
     clear BKb BKa BKx HO4 HO5 HB HOb
     have BKb := n_BKb
     have BKa := n_BKa
     have BKx := n_BKx
     have HO4 := n_HO4
     have HO5 := n_HO5
     have HB := n_HB
     have HOb := n_HOb
     have BL1 := n_BL1
     clear n_BKb n_BKa n_BKx n_HO4 n_HO5 n_HB n_HOb n_BL1
     obtain ⟨gl1, hgl1⟩ : ∃ g, g = wq0.heap.size := ⟨_, rfl⟩
     rw [← hgl1] at BL1 ⊢
     clear hgl1
     generalize wq0.alloc (.cells #[.int .i64 k, .int .i64 s, .slice Ao b.length co] 25) = wq1 at BKb BKa BKx HO4 HO5 HB HOb BL1 hHeld ⊢
     refine norm_ (a' := ?_) ?_ ?_
     rotate_left
     ·show Act.put _ (some 22) _ = _
      simp only [Act.put, Kx.sb, Kx.sz, Kx.ss, i64_w, i32_w]
      rfl
     refine two_ (i := 3) (j := 6) (Ni := some 23) (Nj := some 26) #[true, true, true, true, true, true, false, false, false, false] #[true, true, true, false, true, true, true, false, false, false] rfl rfl rfl rfl (by kernel_rfl) (by decide) (by decide) (fun K hK => ?_) (fun K hK => ?_)
     ·skip
      refine Kx.S_append_at_step k25 (w0 := w) w.heap.size (by rfl) (.tmp 20) (.tmp 22) 35 25 (.agg #[.int .i64 0, .int .i64 0, .slice none 0 0]) 40 rfl Try.underlying35 info25 rfl (by decide) (by omega) v4 x4 (⟨k, s, b⟩ : S25) [.int .i64 k, .int .i64 s, .slice Ao b.length co] gl1 (fun k_ => k_ ≠ gx) (fun k_ => some k_ = (.slice Ao b.length co : Value).ownBlock) rfl rfl BL1.out (k25_mkM _ _ _ (⟨k, s, b⟩ : S25) (Kd.R_mono (Kd.R_tight rfl (Kd.R_mono (ok' := fun k_ => ((fun k_ => k_ ≠ gx)) k_ ∧ some k_ ≠ (v4 : Value).ownBlock) (Kd.R_types (Kd.R_apart' HOb.out (Kd.S_typed HO4.out) (by decide)) BKx.out (by decide)) (fun k_ hk => ⟨hk.2, hk.1.2⟩))) (fun _ h_ => h_))) (fun k_ hk_ => (Kd.R_mono (ok' := fun k_ => ((fun k_ => k_ ≠ gx)) k_ ∧ some k_ ≠ (v4 : Value).ownBlock) (Kd.R_types (Kd.R_apart' HOb.out (Kd.S_typed HO4.out) (by decide)) BKx.out (by decide)) (fun k_ hk => ⟨hk.2, hk.1.2⟩)).1 k_ hk_.symm) (fun k_ hk => Kd.freshB BKx.out k_ hk) (Kd.S_mono HO4.out (fun k_ hk => ⟨hk.2, fun e_ => hk.1 e_⟩)) HB.out (below_size HB.out) (by have := HLL.out; omega) ?_
      intro v4n wq2 ho hb hg hat
      have n_BKb := Aside0.mk (blk_grown BKb.out hg (Kd.S_ne HO4.out BKb.out (by decide)))
      have n_BKa := Aside0.mk (blk_grown BKa.out hg (Kd.S_ne HO4.out BKa.out (by decide)))
      have n_BKx := Aside0.mk (blk_grown BKx.out hg (Kd.S_away HO4.out (fun _ hk => hk.2)))
      have n_HO5 := Aside0.mk (Kd.R_over' HO5.out (Kd.S_typed HO4.out) (by decide) hg)
      have n_HB := Aside0.mk (hb)
      have n_HO4 := Aside0.mk (ho)
      clear BKb BKa BKx HO4 HO5 HB HOb BL1
      have BKb := n_BKb
      have BKa := n_BKa
      have BKx := n_BKx
      have HO5 := n_HO5
      have HB := n_HB
      have HO4 := n_HO4
      clear n_BKb n_BKa n_BKx n_HO5 n_HB n_HO4
      clear ho hb hg hat
      refine hK.out _ _ ⟨((blk_cell BKx.out 0).trans rfl), ((blk_cell BKx.out 1).trans rfl), ((blk_cell BKx.out 2).trans rfl), ((blk_cell BKa.out 0).trans rfl)⟩ (fun hHeld => ?_)
      clear hK K
      refine norm_ (a' := ?_) ?_ ?_
      rotate_left
      ·show Act.put _ (some 23) _ = _
       simp only [Act.put, Kx.sb, Kx.sz, Kx.ss, i64_w, i32_w]
       rfl
      refine one_ (i := 6) (N := some 26) #[true, true, true, true, true, true, true, false, false, false] rfl rfl (by kernel_rfl) (by decide) (fun K hK => ?_)
      refine value_ (w1 := ?_) (v := ?_) (by rfl) rfl ?_ ?_
      rotate_left 2
      ·go_simp
       constructor
       ·rfl
       ·rfl
      refine hK.out _ _ ⟨((blk_cell (blk_alloc BKx.out _) 0).trans rfl), ((blk_cell (blk_alloc BKx.out _) 1).trans rfl), ((blk_cell (blk_alloc BKx.out _) 2).trans rfl), ((blk_cell (blk_alloc BKa.out _) 0).trans rfl)⟩ (fun hHeld => ?_)
      clear hK K
      have n_BKb := Aside0.mk (blk_alloc BKb.out (.cells #[.int .i64 x6] 3))
      have n_BKa := Aside0.mk (blk_alloc BKa.out (.cells #[.int .i64 x6] 3))
      have n_BKx := Aside0.mk (blk_alloc BKx.out (.cells #[.int .i64 x6] 3))
      have n_HO4 := Aside0.mk (Kd.S_alloc HO4.out (.cells #[.int .i64 x6] 3))
      have n_HO5 := Aside0.mk (Kd.R_alloc HO5.out (.cells #[.int .i64 x6] 3))
      have n_HB := Aside0.mk (below_alloc HB.out (.cells #[.int .i64 x6] 3))
      have n_BL2 := Aside0.mk (blk_new wq2 (.cells #[.int .i64 x6] 3))
      clear BKb BKa BKx HO4 HO5 HB
      have BKb := n_BKb
      have BKa := n_BKa
      have BKx := n_BKx
      have HO4 := n_HO4
      have HO5 := n_HO5
      have HB := n_HB
      have BL2 := n_BL2
      clear n_BKb n_BKa n_BKx n_HO4 n_HO5 n_HB n_BL2
      obtain ⟨gl2, hgl2⟩ : ∃ g, g = wq2.heap.size := ⟨_, rfl⟩
      rw [← hgl2] at BL2 ⊢
      clear hgl2
      generalize wq2.alloc (.cells #[.int .i64 x6] 3) = wq3 at BKb BKa BKx HO4 HO5 HB BL2 hHeld ⊢
      refine norm_ (a' := ?_) ?_ ?_
      rotate_left
      ·show Act.put _ (some 26) _ = _
       simp only [Act.put, Kx.sb, Kx.sz, Kx.ss, i64_w, i32_w]
       rfl
      refine one_ (i := 7) (N := some 27) #[true, true, true, true, true, true, true, true, false, false] rfl rfl (by kernel_rfl) (by decide) (fun K hK => ?_)
      refine Kd.R_append_rows_step (Kd.int .i64) (Rr := fun x c => x = x6 ∧ c = [.int .i64 x6]) (w0 := w) w.heap.size (by rfl) (.tmp 24) (.tmp 26) 36 3 (.int .i64 0) 8 rfl Try.underlying36 info3 rfl (by decide) (by omega) v5 x5 [x6] (some ⟨gl2, 0, none⟩) 1 1 (fun k => k ≠ ga) (fun _ => False) rfl rfl HO5.out (Kx.row_one x6 BL2.out rfl) (fun y c hy => by obtain ⟨rfl, rfl⟩ := hy; rfl) (fun _ h_ => h_.elim) (fun k_ hk => Kd.freshB BKa.out k_ hk) HB.out (below_size HB.out) (by have := HLL.out; omega) ?_
      intro v5n wq4 ho hb hg hat
      have n_BKb := Aside0.mk (blk_grown BKb.out hg (Kd.R_ne HO5.out BKb.out (by decide)))
      have n_BKa := Aside0.mk (blk_grown BKa.out hg (Kd.R_away HO5.out (fun _ hk => hk)))
      have n_BKx := Aside0.mk (blk_grown BKx.out hg (Kd.R_ne HO5.out BKx.out (by decide)))
      have n_HO4 := Aside0.mk (Kd.S_over' HO4.out (Kd.R_typed HO5.out) (by decide) hg)
      have n_HB := Aside0.mk (hb)
      have n_HO5 := Aside0.mk (ho)
      clear BKb BKa BKx HO4 HO5 HB BL2
      have BKb := n_BKb
      have BKa := n_BKa
      have BKx := n_BKx
      have HO4 := n_HO4
      have HB := n_HB
      have HO5 := n_HO5
      clear n_BKb n_BKa n_BKx n_HO4 n_HB n_HO5
      clear ho hb hg hat
      refine hK.out _ _ ⟨((blk_cell BKx.out 0).trans rfl), ((blk_cell BKx.out 1).trans rfl), ((blk_cell BKx.out 2).trans rfl), ((blk_cell BKa.out 0).trans rfl)⟩ (fun hHeld => ?_)
      clear hK K
      refine norm_ (a' := ?_) ?_ ?_
      rotate_left
      ·show Act.put _ (some 27) _ = _
       simp only [Act.put, Kx.sb, Kx.sz, Kx.ss, i64_w, i32_w]
       rfl
      refine pure_ (i := 8) (N := some 2) (v := ?_) (a' := ?_) #[true, true, true, true, true, true, true, true, true, false] rfl rfl (by kernel_rfl) (fun _ _ _ h => h) (Or.inl ⟨by rfl, ?_⟩) ?_ ?_
      rotate_left
      ·intro w'
       go_simp
       with_reducible rfl
      rotate_left
      ·simp only [Act.put, Kx.sb, Kx.sz, Kx.ss, i64_w, i32_w]
       rfl
      refine pure_ (i := 9) (N := some 3) (v := ?_) (a' := ?_) #[true, true, true, true, true, true, true, true, true, true] rfl rfl (by kernel_rfl) (fun _ _ _ h => h) (Or.inl ⟨by rfl, ?_⟩) ?_ ?_
      rotate_left
      ·intro w'
       go_simp
       with_reducible rfl
      rotate_left
      ·simp only [Act.put, Kx.sb, Kx.sz, Kx.ss, i64_w, i32_w]
       rfl
      refine done_ (by kernel_rfl) ?_
      have hca : wq4.cell? ⟨ga, 0, none⟩ = some (.int .i64 x6) := (blk_cell BKa.out 0).trans rfl
      have hfa := blk_frozen BKa.out 0
      go_wp2
      go_step3
      refine ⟨rfl, n, Nat.lt_succ_self n, _, _, _, _, _, _, _, _, _, _, _, _, _, _, _, _, _, _, _, _, _, _, _, _, _, _, _, _, _, rfl, H, ⟨blk_far BKb.out (p := ⟨ga, 0, none⟩) (blk_ne BKb.out BKa.out (by decide)) _⟩, ⟨blk_put BKa.out 0 _ rfl⟩, ⟨Kd.S_mono (Kd.S_far (p := ⟨ga, 0, none⟩) (Kd.S_types HO4.out BKa.out (by decide)) (fun _ hk => hk.2) _) (fun _ _ => trivial)⟩, ⟨Kd.R_far (p := ⟨ga, 0, none⟩) HO5.out (fun _ hk => hk) _⟩, ⟨below_set HB.out GA.out⟩⟩
     ·skip
      refine value_ (w1 := ?_) (v := ?_) (by rfl) rfl ?_ ?_
      rotate_left 2
      ·go_simp
       constructor
       ·rfl
       ·rfl
      refine hK.out _ _ ⟨((blk_cell (blk_alloc BKx.out _) 0).trans rfl), ((blk_cell (blk_alloc BKx.out _) 1).trans rfl), ((blk_cell (blk_alloc BKx.out _) 2).trans rfl), ((blk_cell (blk_alloc BKa.out _) 0).trans rfl)⟩ (fun hHeld => ?_)
      clear hK K
      have n_BKb := Aside0.mk (blk_alloc BKb.out (.cells #[.int .i64 x6] 3))
      have n_BKa := Aside0.mk (blk_alloc BKa.out (.cells #[.int .i64 x6] 3))
      have n_BKx := Aside0.mk (blk_alloc BKx.out (.cells #[.int .i64 x6] 3))
      have n_HO4 := Aside0.mk (Kd.S_alloc HO4.out (.cells #[.int .i64 x6] 3))
      have n_HO5 := Aside0.mk (Kd.R_alloc HO5.out (.cells #[.int .i64 x6] 3))
      have n_HB := Aside0.mk (below_alloc HB.out (.cells #[.int .i64 x6] 3))
      have n_HOb := Aside0.mk (Kd.R_alloc HOb.out (.cells #[.int .i64 x6] 3))
      have n_BL1 := Aside0.mk (blk_alloc BL1.out (.cells #[.int .i64 x6] 3))
      have n_BL2 := Aside0.mk (blk_new wq1 (.cells #[.int .i64 x6] 3))
      clear BKb BKa BKx HO4 HO5 HB HOb BL1
      have BKb := n_BKb
      have BKa := n_BKa
      have BKx := n_BKx
      have HO4 := n_HO4
      have HO5 := n_HO5
      have HB := n_HB
      have HOb := n_HOb
      have BL1 := n_BL1
      have BL2 := n_BL2
      clear n_BKb n_BKa n_BKx n_HO4 n_HO5 n_HB n_HOb n_BL1 n_BL2
      obtain ⟨gl2, hgl2⟩ : ∃ g, g = wq1.heap.size := ⟨_, rfl⟩
      rw [← hgl2] at BL2 ⊢
      clear hgl2
      generalize wq1.alloc (.cells #[.int .i64 x6] 3) = wq2 at BKb BKa BKx HO4 HO5 HB HOb BL1 BL2 hHeld ⊢
      refine norm_ (a' := ?_) ?_ ?_
      rotate_left
      ·show Act.put _ (some 26) _ = _
       simp only [Act.put, Kx.sb, Kx.sz, Kx.ss, i64_w, i32_w]
       rfl
      refine one_ (i := 3) (N := some 23) #[true, true, true, true, true, true, true, false, false, false] rfl rfl (by kernel_rfl) (by decide) (fun K hK => ?_)
      refine Kx.S_append_at_step k25 (w0 := w) w.heap.size (by rfl) (.tmp 20) (.tmp 22) 35 25 (.agg #[.int .i64 0, .int .i64 0, .slice none 0 0]) 40 rfl Try.underlying35 info25 rfl (by decide) (by omega) v4 x4 (⟨k, s, b⟩ : S25) [.int .i64 k, .int .i64 s, .slice Ao b.length co] gl1 (fun k_ => k_ ≠ gx) (fun k_ => some k_ = (.slice Ao b.length co : Value).ownBlock) rfl rfl BL1.out (k25_mkM _ _ _ (⟨k, s, b⟩ : S25) (Kd.R_mono (Kd.R_tight rfl (Kd.R_mono (ok' := fun k_ => ((fun k_ => k_ ≠ gx)) k_ ∧ some k_ ≠ (v4 : Value).ownBlock) (Kd.R_types (Kd.R_apart' HOb.out (Kd.S_typed HO4.out) (by decide)) BKx.out (by decide)) (fun k_ hk => ⟨hk.2, hk.1.2⟩))) (fun _ h_ => h_))) (fun k_ hk_ => (Kd.R_mono (ok' := fun k_ => ((fun k_ => k_ ≠ gx)) k_ ∧ some k_ ≠ (v4 : Value).ownBlock) (Kd.R_types (Kd.R_apart' HOb.out (Kd.S_typed HO4.out) (by decide)) BKx.out (by decide)) (fun k_ hk => ⟨hk.2, hk.1.2⟩)).1 k_ hk_.symm) (fun k_ hk => Kd.freshB BKx.out k_ hk) (Kd.S_mono HO4.out (fun k_ hk => ⟨hk.2, fun e_ => hk.1 e_⟩)) HB.out (below_size HB.out) (by have := HLL.out; omega) ?_
      intro v4n wq3 ho hb hg hat
      have n_BKb := Aside0.mk (blk_grown BKb.out hg (Kd.S_ne HO4.out BKb.out (by decide)))
      have n_BKa := Aside0.mk (blk_grown BKa.out hg (Kd.S_ne HO4.out BKa.out (by decide)))
      have n_BKx := Aside0.mk (blk_grown BKx.out hg (Kd.S_away HO4.out (fun _ hk => hk.2)))
      have n_HO5 := Aside0.mk (Kd.R_over' HO5.out (Kd.S_typed HO4.out) (by decide) hg)
      have n_HB := Aside0.mk (hb)
      have n_HO4 := Aside0.mk (ho)
      have n_BL2 := Aside0.mk (blk_grown BL2.out hg (Kd.S_ne HO4.out BL2.out (by decide)))
      clear BKb BKa BKx HO4 HO5 HB HOb BL1 BL2
      have BKb := n_BKb
      have BKa := n_BKa
      have BKx := n_BKx
      have HO5 := n_HO5
      have HB := n_HB
      have HO4 := n_HO4
      have BL2 := n_BL2
      clear n_BKb n_BKa n_BKx n_HO5 n_HB n_HO4 n_BL2
      clear ho hb hg hat
      refine hK.out _ _ ⟨((blk_cell BKx.out 0).trans rfl), ((blk_cell BKx.out 1).trans rfl), ((blk_cell BKx.out 2).trans rfl), ((blk_cell BKa.out 0).trans rfl)⟩ (fun hHeld => ?_)
      clear hK K
      refine norm_ (a' := ?_) ?_ ?_
      rotate_left
      ·show Act.put _ (some 23) _ = _
       simp only [Act.put, Kx.sb, Kx.sz, Kx.ss, i64_w, i32_w]
       rfl
      refine one_ (i := 7) (N := some 27) #[true, true, true, true, true, true, true, true, false, false] rfl rfl (by kernel_rfl) (by decide) (fun K hK => ?_)
      refine Kd.R_append_rows_step (Kd.int .i64) (Rr := fun x c => x = x6 ∧ c = [.int .i64 x6]) (w0 := w) w.heap.size (by rfl) (.tmp 24) (.tmp 26) 36 3 (.int .i64 0) 8 rfl Try.underlying36 info3 rfl (by decide) (by omega) v5 x5 [x6] (some ⟨gl2, 0, none⟩) 1 1 (fun k => k ≠ ga) (fun _ => False) rfl rfl HO5.out (Kx.row_one x6 BL2.out rfl) (fun y c hy => by obtain ⟨rfl, rfl⟩ := hy; rfl) (fun _ h_ => h_.elim) (fun k_ hk => Kd.freshB BKa.out k_ hk) HB.out (below_size HB.out) (by have := HLL.out; omega) ?_
      intro v5n wq4 ho hb hg hat
      have n_BKb := Aside0.mk (blk_grown BKb.out hg (Kd.R_ne HO5.out BKb.out (by decide)))
      have n_BKa := Aside0.mk (blk_grown BKa.out hg (Kd.R_away HO5.out (fun _ hk => hk)))
      have n_BKx := Aside0.mk (blk_grown BKx.out hg (Kd.R_ne HO5.out BKx.out (by decide)))
      have n_HO4 := Aside0.mk (Kd.S_over' HO4.out (Kd.R_typed HO5.out) (by decide) hg)
      have n_HB := Aside0.mk (hb)
      have n_HO5 := Aside0.mk (ho)
      clear BKb BKa BKx HO4 HO5 HB BL2
      have BKb := n_BKb
      have BKa := n_BKa
      have BKx := n_BKx
      have HO4 := n_HO4
      have HB := n_HB
      have HO5 := n_HO5
      clear n_BKb n_BKa n_BKx n_HO4 n_HB n_HO5
      clear ho hb hg hat
      refine hK.out _ _ ⟨((blk_cell BKx.out 0).trans rfl), ((blk_cell BKx.out 1).trans rfl), ((blk_cell BKx.out 2).trans rfl), ((blk_cell BKa.out 0).trans rfl)⟩ (fun hHeld => ?_)
      clear hK K
      refine norm_ (a' := ?_) ?_ ?_
      rotate_left
      ·show Act.put _ (some 27) _ = _
       simp only [Act.put, Kx.sb, Kx.sz, Kx.ss, i64_w, i32_w]
       rfl
      refine pure_ (i := 8) (N := some 2) (v := ?_) (a' := ?_) #[true, true, true, true, true, true, true, true, true, false] rfl rfl (by kernel_rfl) (fun _ _ _ h => h) (Or.inl ⟨by rfl, ?_⟩) ?_ ?_
      rotate_left
      ·intro w'
       go_simp
       with_reducible rfl
      rotate_left
      ·simp only [Act.put, Kx.sb, Kx.sz, Kx.ss, i64_w, i32_w]
       rfl
      refine pure_ (i := 9) (N := some 3) (v := ?_) (a' := ?_) #[true, true, true, true, true, true, true, true, true, true] rfl rfl (by kernel_rfl) (fun _ _ _ h => h) (Or.inl ⟨by rfl, ?_⟩) ?_ ?_
      rotate_left
      ·intro w'
       go_simp
       with_reducible rfl
      rotate_left
      ·simp only [Act.put, Kx.sb, Kx.sz, Kx.ss, i64_w, i32_w]
       rfl
      refine done_ (by kernel_rfl) ?_
      have hca : wq4.cell? ⟨ga, 0, none⟩ = some (.int .i64 x6) := (blk_cell BKa.out 0).trans rfl
      have hfa := blk_frozen BKa.out 0
      go_wp2
      go_step3
      refine ⟨rfl, n, Nat.lt_succ_self n, _, _, _, _, _, _, _, _, _, _, _, _, _, _, _, _, _, _, _, _, _, _, _, _, _, _, _, _, _, rfl, H, ⟨blk_far BKb.out (p := ⟨ga, 0, none⟩) (blk_ne BKb.out BKa.out (by decide)) _⟩, ⟨blk_put BKa.out 0 _ rfl⟩, ⟨Kd.S_mono (Kd.S_far (p := ⟨ga, 0, none⟩) (Kd.S_types HO4.out BKa.out (by decide)) (fun _ hk => hk.2) _) (fun _ _ => trivial)⟩, ⟨Kd.R_far (p := ⟨ga, 0, none⟩) HO5.out (fun _ hk => hk) _⟩, ⟨below_set HB.out GA.out⟩⟩
    ·skip
     refine value_ (w1 := ?_) (v := ?_) (by rfl) rfl ?_ ?_
     rotate_left 2
     ·go_simp
      constructor
      ·rfl
      ·rfl
     refine hK.out _ _ ⟨((blk_cell (blk_alloc BKx.out _) 0).trans rfl), ((blk_cell (blk_alloc BKx.out _) 1).trans rfl), ((blk_cell (blk_alloc BKx.out _) 2).trans rfl), ((blk_cell (blk_alloc BKa.out _) 0).trans rfl)⟩ (fun hHeld => ?_)
     clear hK K
     have n_BKb := Aside0.mk (blk_alloc BKb.out (.cells #[.int .i64 x6] 3))
     have n_BKa := Aside0.mk (blk_alloc BKa.out (.cells #[.int .i64 x6] 3))
     have n_BKx := Aside0.mk (blk_alloc BKx.out (.cells #[.int .i64 x6] 3))
     have n_HO4 := Aside0.mk (Kd.S_alloc HO4.out (.cells #[.int .i64 x6] 3))
     have n_HO5 := Aside0.mk (Kd.R_alloc HO5.out (.cells #[.int .i64 x6] 3))
     have n_HB := Aside0.mk (below_alloc HB.out (.cells #[.int .i64 x6] 3))
     have n_HOb := Aside0.mk (Kd.R_alloc HOb.out (.cells #[.int .i64 x6] 3))
     have n_BL2 := Aside0.mk (blk_new wq0 (.cells #[.int .i64 x6] 3))
     clear BKb BKa BKx HO4 HO5 HB HOb
     have BKb := n_BKb
     have BKa := n_BKa
     have BKx := n_BKx
     have HO4 := n_HO4
     have HO5 := n_HO5
     have HB := n_HB
     have HOb := n_HOb
     have BL2 := n_BL2
     clear n_BKb n_BKa n_BKx n_HO4 n_HO5 n_HB n_HOb n_BL2
     obtain ⟨gl2, hgl2⟩ : ∃ g, g = wq0.heap.size := ⟨_, rfl⟩
     rw [← hgl2] at BL2 ⊢
     clear hgl2
     generalize wq0.alloc (.cells #[.int .i64 x6] 3) = wq1 at BKb BKa BKx HO4 HO5 HB HOb BL2 hHeld ⊢
     refine norm_ (a' := ?_) ?_ ?_
     rotate_left
     ·show Act.put _ (some 26) _ = _
      simp only [Act.put, Kx.sb, Kx.sz, Kx.ss, i64_w, i32_w]
      rfl
     refine one_ (i := 2) (N := some 22) #[true, true, true, false, true, true, true, false, false, false] rfl rfl (by kernel_rfl) (by decide) (fun K hK => ?_)
     refine value_ (w1 := ?_) (v := ?_) (by rfl) rfl ?_ ?_
     rotate_left 2
     ·go_simp
      constructor
      ·rfl
      ·rfl
     refine hK.out _ _ ⟨((blk_cell (blk_alloc BKx.out _) 0).trans rfl), ((blk_cell (blk_alloc BKx.out _) 1).trans rfl), ((blk_cell (blk_alloc BKx.out _) 2).trans rfl), ((blk_cell (blk_alloc BKa.out _) 0).trans rfl)⟩ (fun hHeld => ?_)
     clear hK K
     have n_BKb := Aside0.mk (blk_alloc BKb.out (.cells #[.int .i64 k, .int .i64 s, .slice Ao b.length co] 25))
     have n_BKa := Aside0.mk (blk_alloc BKa.out (.cells #[.int .i64 k, .int .i64 s, .slice Ao b.length co] 25))
     have n_BKx := Aside0.mk (blk_alloc BKx.out (.cells #[.int .i64 k, .int .i64 s, .slice Ao b.length co] 25))
     have n_HO4 := Aside0.mk (Kd.S_alloc HO4.out (.cells #[.int .i64 k, .int .i64 s, .slice Ao b.length co] 25))
     have n_HO5 := Aside0.mk (Kd.R_alloc HO5.out (.cells #[.int .i64 k, .int .i64 s, .slice Ao b.length co] 25))
     have n_HB := Aside0.mk (below_alloc HB.out (.cells #[.int .i64 k, .int .i64 s, .slice Ao b.length co] 25))
     have n_HOb := Aside0.mk (Kd.R_alloc HOb.out (.cells #[.int .i64 k, .int .i64 s, .slice Ao b.length co] 25))
     have n_BL2 := Aside0.mk (blk_alloc BL2.out (.cells #[.int .i64 k, .int .i64 s, .slice Ao b.length co] 25))
     have n_BL1 := Aside0.mk (blk_new wq1 (.cells #[.int .i64 k, .int .i64 s, .slice Ao b.length co] 25))
     clear BKb BKa BKx HO4 HO5 HB HOb BL2
     have BKb := n_BKb
     have BKa := n_BKa
     have BKx := n_BKx
     have HO4 := n_HO4
     have HO5 := n_HO5
     have HB := n_HB
     have HOb := n_HOb
     have BL2 := n_BL2
     have BL1 := n_BL1
     clear n_BKb n_BKa n_BKx n_HO4 n_HO5 n_HB n_HOb n_BL2 n_BL1
     obtain ⟨gl1, hgl1⟩ : ∃ g, g = wq1.heap.size := ⟨_, rfl⟩
     rw [← hgl1] at BL1 ⊢
     clear hgl1
     generalize wq1.alloc (.cells #[.int .i64 k, .int .i64 s, .slice Ao b.length co] 25) = wq2 at BKb BKa BKx HO4 HO5 HB HOb BL2 BL1 hHeld ⊢
     refine norm_ (a' := ?_) ?_ ?_
     rotate_left
     ·show Act.put _ (some 22) _ = _
      simp only [Act.put, Kx.sb, Kx.sz, Kx.ss, i64_w, i32_w]
      rfl
     refine one_ (i := 3) (N := some 23) #[true, true, true, true, true, true, true, false, false, false] rfl rfl (by kernel_rfl) (by decide) (fun K hK => ?_)
     refine Kx.S_append_at_step k25 (w0 := w) w.heap.size (by rfl) (.tmp 20) (.tmp 22) 35 25 (.agg #[.int .i64 0, .int .i64 0, .slice none 0 0]) 40 rfl Try.underlying35 info25 rfl (by decide) (by omega) v4 x4 (⟨k, s, b⟩ : S25) [.int .i64 k, .int .i64 s, .slice Ao b.length co] gl1 (fun k_ => k_ ≠ gx) (fun k_ => some k_ = (.slice Ao b.length co : Value).ownBlock) rfl rfl BL1.out (k25_mkM _ _ _ (⟨k, s, b⟩ : S25) (Kd.R_mono (Kd.R_tight rfl (Kd.R_mono (ok' := fun k_ => ((fun k_ => k_ ≠ gx)) k_ ∧ some k_ ≠ (v4 : Value).ownBlock) (Kd.R_types (Kd.R_apart' HOb.out (Kd.S_typed HO4.out) (by decide)) BKx.out (by decide)) (fun k_ hk => ⟨hk.2, hk.1.2⟩))) (fun _ h_ => h_))) (fun k_ hk_ => (Kd.R_mono (ok' := fun k_ => ((fun k_ => k_ ≠ gx)) k_ ∧ some k_ ≠ (v4 : Value).ownBlock) (Kd.R_types (Kd.R_apart' HOb.out (Kd.S_typed HO4.out) (by decide)) BKx.out (by decide)) (fun k_ hk => ⟨hk.2, hk.1.2⟩)).1 k_ hk_.symm) (fun k_ hk => Kd.freshB BKx.out k_ hk) (Kd.S_mono HO4.out (fun k_ hk => ⟨hk.2, fun e_ => hk.1 e_⟩)) HB.out (below_size HB.out) (by have := HLL.out; omega) ?_
     intro v4n wq3 ho hb hg hat
     have n_BKb := Aside0.mk (blk_grown BKb.out hg (Kd.S_ne HO4.out BKb.out (by decide)))
     have n_BKa := Aside0.mk (blk_grown BKa.out hg (Kd.S_ne HO4.out BKa.out (by decide)))
     have n_BKx := Aside0.mk (blk_grown BKx.out hg (Kd.S_away HO4.out (fun _ hk => hk.2)))
     have n_HO5 := Aside0.mk (Kd.R_over' HO5.out (Kd.S_typed HO4.out) (by decide) hg)
     have n_HB := Aside0.mk (hb)
     have n_HO4 := Aside0.mk (ho)
     have n_BL2 := Aside0.mk (blk_grown BL2.out hg (Kd.S_ne HO4.out BL2.out (by decide)))
     clear BKb BKa BKx HO4 HO5 HB HOb BL1 BL2
     have BKb := n_BKb
     have BKa := n_BKa
     have BKx := n_BKx
     have HO5 := n_HO5
     have HB := n_HB
     have HO4 := n_HO4
     have BL2 := n_BL2
     clear n_BKb n_BKa n_BKx n_HO5 n_HB n_HO4 n_BL2
     clear ho hb hg hat
     refine hK.out _ _ ⟨((blk_cell BKx.out 0).trans rfl), ((blk_cell BKx.out 1).trans rfl), ((blk_cell BKx.out 2).trans rfl), ((blk_cell BKa.out 0).trans rfl)⟩ (fun hHeld => ?_)
     clear hK K
     refine norm_ (a' := ?_) ?_ ?_
     rotate_left
     ·show Act.put _ (some 23) _ = _
      simp only [Act.put, Kx.sb, Kx.sz, Kx.ss, i64_w, i32_w]
      rfl
     refine one_ (i := 7) (N := some 27) #[true, true, true, true, true, true, true, true, false, false] rfl rfl (by kernel_rfl) (by decide) (fun K hK => ?_)
     refine Kd.R_append_rows_step (Kd.int .i64) (Rr := fun x c => x = x6 ∧ c = [.int .i64 x6]) (w0 := w) w.heap.size (by rfl) (.tmp 24) (.tmp 26) 36 3 (.int .i64 0) 8 rfl Try.underlying36 info3 rfl (by decide) (by omega) v5 x5 [x6] (some ⟨gl2, 0, none⟩) 1 1 (fun k => k ≠ ga) (fun _ => False) rfl rfl HO5.out (Kx.row_one x6 BL2.out rfl) (fun y c hy => by obtain ⟨rfl, rfl⟩ := hy; rfl) (fun _ h_ => h_.elim) (fun k_ hk => Kd.freshB BKa.out k_ hk) HB.out (below_size HB.out) (by have := HLL.out; omega) ?_
     intro v5n wq4 ho hb hg hat
     have n_BKb := Aside0.mk (blk_grown BKb.out hg (Kd.R_ne HO5.out BKb.out (by decide)))
     have n_BKa := Aside0.mk (blk_grown BKa.out hg (Kd.R_away HO5.out (fun _ hk => hk)))
     have n_BKx := Aside0.mk (blk_grown BKx.out hg (Kd.R_ne HO5.out BKx.out (by decide)))
     have n_HO4 := Aside0.mk (Kd.S_over' HO4.out (Kd.R_typed HO5.out) (by decide) hg)
     have n_HB := Aside0.mk (hb)
     have n_HO5 := Aside0.mk (ho)
     clear BKb BKa BKx HO4 HO5 HB BL2
     have BKb := n_BKb
     have BKa := n_BKa
     have BKx := n_BKx
     have HO4 := n_HO4
     have HB := n_HB
     have HO5 := n_HO5
     clear n_BKb n_BKa n_BKx n_HO4 n_HB n_HO5
     clear ho hb hg hat
     refine hK.out _ _ ⟨((blk_cell BKx.out 0).trans rfl), ((blk_cell BKx.out 1).trans rfl), ((blk_cell BKx.out 2).trans rfl), ((blk_cell BKa.out 0).trans rfl)⟩ (fun hHeld => ?_)
     clear hK K
     refine norm_ (a' := ?_) ?_ ?_
     rotate_left
     ·show Act.put _ (some 27) _ = _
      simp only [Act.put, Kx.sb, Kx.sz, Kx.ss, i64_w, i32_w]
      rfl
     refine pure_ (i := 8) (N := some 2) (v := ?_) (a' := ?_) #[true, true, true, true, true, true, true, true, true, false] rfl rfl (by kernel_rfl) (fun _ _ _ h => h) (Or.inl ⟨by rfl, ?_⟩) ?_ ?_
     rotate_left
     ·intro w'
      go_simp
      with_reducible rfl
     rotate_left
     ·simp only [Act.put, Kx.sb, Kx.sz, Kx.ss, i64_w, i32_w]
      rfl
     refine pure_ (i := 9) (N := some 3) (v := ?_) (a' := ?_) #[true, true, true, true, true, true, true, true, true, true] rfl rfl (by kernel_rfl) (fun _ _ _ h => h) (Or.inl ⟨by rfl, ?_⟩) ?_ ?_
     rotate_left
     ·intro w'
      go_simp
      with_reducible rfl
     rotate_left
     ·simp only [Act.put, Kx.sb, Kx.sz, Kx.ss, i64_w, i32_w]
      rfl
     refine done_ (by kernel_rfl) ?_
     have hca : wq4.cell? ⟨ga, 0, none⟩ = some (.int .i64 x6) := (blk_cell BKa.out 0).trans rfl
     have hfa := blk_frozen BKa.out 0
     go_wp2
     go_step3
     refine ⟨rfl, n, Nat.lt_succ_self n, _, _, _, _, _, _, _, _, _, _, _, _, _, _, _, _, _, _, _, _, _, _, _, _, _, _, _, _, _, rfl, H, ⟨blk_far BKb.out (p := ⟨ga, 0, none⟩) (blk_ne BKb.out BKa.out (by decide)) _⟩, ⟨blk_put BKa.out 0 _ rfl⟩, ⟨Kd.S_mono (Kd.S_far (p := ⟨ga, 0, none⟩) (Kd.S_types HO4.out BKa.out (by decide)) (fun _ hk => hk.2) _) (fun _ _ => trivial)⟩, ⟨Kd.R_far (p := ⟨ga, 0, none⟩) HO5.out (fun _ hk => hk) _⟩, ⟨below_set HB.out GA.out⟩⟩
   ·rw [if_neg he] at H1
    simp only [Option.some.injEq, Prod.mk.injEq] at H1
    obtain ⟨rfl, rfl⟩ := H1
    go_wp2_with fail
    refine (record_Scan_next.calls gb ga A0 c0 l0 x6 k s b nn e _ BKb.out BKa.out HRn.out HC0.out HX.out.1 HX.out.2 HRd.out).mono ?_
    rintro e' w11 ⟨v, rfl, ho, hb⟩
    obtain ⟨Ao, co, rfl⟩ := Kd.R_slice ho
    have n1 := Aside0.mk (blk_below BKb.out hb)
    have n2 := Aside0.mk (blk_below BKa.out hb)
    have n3 := Aside0.mk (Kd.S_elder' HO4.out (Kd.R_base ho) hb)
    have n4 := Aside0.mk (Kd.R_below HO5.out hb)
    have n5 := Aside0.mk (Kd.R_lower ho (below_size HB.out))
    have n6 := Aside0.mk (below_step HB.out hb)
    clear BKb BKa HO4 HO5 HB ho hb HRn HX HRd HR0 HC0
    have BKb := n1
    have BKa := n2
    have HO4 := n3
    have HO5 := n4
    have HOb := n5
    have HB := n6
    clear n1 n2 n3 n4 n5 n6
    have hbt : (e == 0) = false := beq_eq_false_iff_ne.mpr he
    rw [hbt]
    go_wp2_with (first | ((with_reducible refine gate_dst (N := 6) rfl ?_); refine box_event ?hg (N := 6) ?hd (cs := #[.int .i64 0, .int .i64 0, .slice none 0 0]) (t := 25) ?hr ?_; (case hd => rfl); (case hg => rfl); (case hr => first | (go_simp; done) | (go_simp; rfl)); intro gx hg w12 hbox hb; have n1 := Aside0.mk (blk_below BKb.out hb); have n2 := Aside0.mk (blk_below BKa.out hb); have n3 := Aside0.mk (Kd.S_below (Kd.S_elderB HO4.out gx (Nat.le_of_eq hg.symm)) hb); have n4 := Aside0.mk (Kd.R_below HO5.out hb); have n5 := Aside0.mk (Kd.R_below HOb.out hb); have n6 := Aside0.mk (below_step HB.out hb); have BKx := Aside0.mk hbox; have GX := Aside0.mk (show w.heap.size ≤ gx by rw [hg]; exact below_size HB.out); clear BKb BKa HO4 HO5 HOb HB hb hbox hg; have BKb := n1; have BKa := n2; have HO4 := n3; have HO5 := n4; have HOb := n5; have HB := n6; clear n1 n2 n3 n4 n5 n6; have hcz0 : w12.cell? ⟨gx, 0, none⟩ = some (.int .i64 0) := (blk_cell BKx.out 0).trans rfl; have hcz1 : w12.cell? ⟨gx, 1, none⟩ = some (.int .i64 0) := (blk_cell BKx.out 1).trans rfl; have hcz2 : w12.cell? ⟨gx, 2, none⟩ = some (.slice none 0 0) := (blk_cell BKx.out 2).trans rfl; have hfz0 := blk_frozen BKx.out 0; have hfz1 := blk_frozen BKx.out 1; have hfz2 := blk_frozen BKx.out 2) | ((with_reducible refine gate_store (t := 25) (p := 6) rfl ?_); refine store_event (t := 25) (p := 6) (v := ?vo_w13) (w1 := (((w12.setCell ⟨gx, 0, none⟩ (.int .i64 k)).setCell ⟨gx, 1, none⟩ (.int .i64 s)).setCell ⟨gx, 2, none⟩ (.slice Ao b.length co))) ?hg ?ho ?hn ?hr ?_; (case ho => rfl); (case hg => rfl); (case hn => rfl); (case hr => first | (go_simp; done) | (go_simp; rfl)); intro w13 hw; have n1 : Aside0 (w13.heap[gb]? = some (.cells #[.slice A0 l0.length c0] 23 (0, 0))) := ⟨(by rw [hw]; exact blk_far (blk_far (blk_far BKb.out (p := ⟨gx, 0, none⟩) (blk_ne BKb.out BKx.out (by decide)) _) (p := ⟨gx, 1, none⟩) (blk_ne BKb.out BKx.out (by decide)) _) (p := ⟨gx, 2, none⟩) (blk_ne BKb.out BKx.out (by decide)) _)⟩; have n2 : Aside0 (w13.heap[ga]? = some (.cells #[.int .i64 x6] 3 (0, 0))) := ⟨(by rw [hw]; exact blk_far (blk_far (blk_far BKa.out (p := ⟨gx, 0, none⟩) (blk_ne BKa.out BKx.out (by decide)) _) (p := ⟨gx, 1, none⟩) (blk_ne BKa.out BKx.out (by decide)) _) (p := ⟨gx, 2, none⟩) (blk_ne BKa.out BKx.out (by decide)) _)⟩; have n3 : Aside0 (Kd.S k25 25 w13 w.heap.size (fun k_ => some k_ ≠ (.slice Ao b.length co : Value).ownBlock ∧ k_ ≠ gx) v4 x4) := ⟨(by rw [hw]; exact Kd.S_mono (Kd.S_far (p := ⟨gx, 2, none⟩) (Kd.S_far (p := ⟨gx, 1, none⟩) (Kd.S_far (p := ⟨gx, 0, none⟩) HO4.out (fun _ hk => hk.2) (.int .i64 k)) (fun _ hk => hk.2) (.int .i64 s)) (fun _ hk => hk.2) (.slice Ao b.length co)) (fun _ hk => ⟨hk.1.2, hk.2⟩))⟩; have n4 : Aside0 (Kd.R (Kd.int .i64) 3 w13 w.heap.size (fun k => k ≠ ga) v5 x5) := ⟨(by rw [hw]; exact Kd.R_mono (Kd.R_far (p := ⟨gx, 2, none⟩) (Kd.R_far (p := ⟨gx, 1, none⟩) (Kd.R_far (p := ⟨gx, 0, none⟩) (Kd.R_types HO5.out BKx.out (by decide)) (fun _ hk => hk.2) (.int .i64 k)) (fun _ hk => hk.2) (.int .i64 s)) (fun _ hk => hk.2) (.slice Ao b.length co)) (fun _ hk => hk.1))⟩; have n5 : Aside0 (Kd.R (Kd.int .u8) 5 w13 w.heap.size (fun _ => True) (.slice Ao b.length co) b) := ⟨(by rw [hw]; exact Kd.R_mono (Kd.R_far (p := ⟨gx, 2, none⟩) (Kd.R_far (p := ⟨gx, 1, none⟩) (Kd.R_far (p := ⟨gx, 0, none⟩) (Kd.R_types HOb.out BKx.out (by decide)) (fun _ hk => hk.2) (.int .i64 k)) (fun _ hk => hk.2) (.int .i64 s)) (fun _ hk => hk.2) (.slice Ao b.length co)) (fun _ hk => trivial))⟩; have n6 : Aside0 (w13.heap[gx]? = some (.cells #[.int .i64 k, .int .i64 s, .slice Ao b.length co] 25 (0, 0))) := ⟨(by rw [hw]; refine blk_put (cs := #[.int .i64 k, .int .i64 s, .slice none 0 0]) ?_ 2 _ rfl; refine blk_put (cs := #[.int .i64 k, .int .i64 0, .slice none 0 0]) ?_ 1 _ rfl; refine blk_put (cs := #[.int .i64 0, .int .i64 0, .slice none 0 0]) ?_ 0 _ rfl; exact BKx.out)⟩; have n7 : Aside0 (Below w.heap.size w w13) := ⟨(by rw [hw]; exact below_set (below_set (below_set HB.out GX.out) GX.out) GX.out)⟩; clear hw hcz0 hcz1 hcz2 hfz0 hfz1 hfz2 BKb BKa HO4 HO5 HOb BKx HB; have BKb := n1; have BKa := n2; have HO4 := n3; have HO5 := n4; have HOb := n5; have BKx := n6; have HB := n7; clear n1 n2 n3 n4 n5 n6 n7))
    simp only [Exit.jump]
    go_ret2
    exact ⟨_, _, rfl, Kd.S_mono HO4.out (fun _ _ => trivial), Kd.R_mono HO5.out (fun _ _ => trivial), HB.out⟩
theorem record_Scan.lens (l0 : List Int) (hb : Pl.byteB l0 = true) (hl : l0.length < 1000000000) : ∀ (d k : Nat) (x4 : List S25) (x5 : List Int) (i : Nat), l0.length - i < d → i ≤ l0.length → d < k → x4.length ≤ i → x5.length ≤ i →
  record_Scan.l0 k l0 x4 x5 (i : Int) = some (x4 ++ (Pl.scanG d (l0.drop i) i).1.map (fun p => (⟨p.1, p.2.1, p.2.2⟩ : S25)), x5 ++ (Pl.scanG d (l0.drop i) i).2)
 | 0, k, x4, x5, i, h0, hi, hk, h4, h5 => absurd h0 (Nat.not_lt_zero _)
 | d + 1, k, x4, x5, i, h0, hi, hk, h4, h5 => by
  obtain ⟨k, rfl⟩ : ∃ m, k = m + 1 := ⟨k - 1, by omega⟩
  have hbd := Pl.byteB_drop hb i
  rw [record_Scan.l0, if_pos ⟨by omega, by omega⟩, Int.toNat_natCast, show record_Read.f (l0.drop i) = some (Pl.rreadS (l0.drop i)) from by unfold record_Read.f; rw [if_pos ⟨hbd, by rw [List.length_drop]; omega⟩], Option.bind_some, Pl.scanG]
  rcases Pl.rreadS_cases (l0.drop i) with ⟨kk, s, l, t, ho, hbe, he⟩ | ⟨hno, he⟩
  ·have hlen := congrArg List.length hbe
   rw [List.length_drop, List.length_append, Pl.recB_length] at hlen
   rw [he]
   dsimp only
   rw [if_pos rfl, if_pos ⟨by omega, by omega⟩, if_pos rfl, show wrap64 ((i : Int) + ((l.length : Int) + 20)) = ((i + (l.length + 20) : Nat) : Int) from by unfold wrap64; omega,
    record_Scan.lens l0 hb hl d k _ _ (i + (l.length + 20)) (by omega) (by omega) (by omega) (by rw [List.length_append, List.length_singleton]; omega) (by rw [List.length_append, List.length_singleton]; omega)]
   rw [List.drop_drop, show ((l.length : Int) + 20).toNat = l.length + 20 from by omega, List.map_cons, List.append_assoc, List.append_assoc, List.singleton_append, List.singleton_append]
  ·rw [he]
   dsimp only
   rw [if_neg (by decide), if_neg (by decide)]
   simp
def record_Scan.f (l0 : List Int) : Option (List S25 × List Int) := if Pl.byteB l0 = true ∧ l0.length < 1000000000 then some ((Pl.scanS l0).1.map (fun p => (⟨p.1, p.2.1, p.2.2⟩ : S25)), (Pl.scanS l0).2) else none
theorem record_Scan.calls (A0 : Option Addr) (c0 : Nat) (l0 : List Int) (r1 : List S25) (r2 : List Int) (w : World) (hr0 : Kd.C (Kd.int .u8) w A0 l0.length l0) (hc0 : l0.length ≤ c0) (h : record_Scan.f l0 = some (r1, r2)) :
  Calls Try.prog 28 #[.slice A0 l0.length c0] w fun e w' => ∃ v0_ v1_ : Value, e = .returned (.tuple #[v0_, v1_]) ∧ Kd.S k25 25 w' w.heap.size (fun _ => True) v0_ r1 ∧ Kd.R (Kd.int .i64) 3 w' w.heap.size (fun _ => True) v1_ r2 ∧ Below w.heap.size w w' := by
 unfold record_Scan.f at h
 split at h
 case isFalse => cases h
 rename_i hh
 obtain ⟨hb, hl⟩ := hh
 refine record_Scan.callsK (l0.length + 2) A0 c0 l0 r1 r2 w hr0 hc0 ?_
 have := record_Scan.lens l0 hb hl (l0.length + 1) (l0.length + 2) [] [] 0 (by omega) (by omega) (by omega) (Nat.le_refl _) (Nat.le_refl _)
 rw [List.drop_zero, List.nil_append, List.nil_append] at this
 rw [← h]
 exact this
def waggonerref05_Numbers.l0 : Nat → List Int → List Int → Int → Option (Bool)
 | 0, _, _, _ => none
 | k + 1, x0, x1, x5 => if x5 < (x0.length : Int) then (if 0 ≤ x5 then (if x5 < (x1.length : Int) then (if (rd x0 x5) = (rd x1 x5) then (waggonerref05_Numbers.l0 k x0 x1 (wrap64 (x5 + 1))) else (some false)) else (none)) else (none)) else (some true)
def waggonerref05_Numbers.f (k : Nat) (l0 : List Int) (l1 : List Int) : Option (Bool) := if (l0.length : Int) = (l1.length : Int) then (waggonerref05_Numbers.l0 k l0 l1 0) else (some false)
set_option maxHeartbeats 8000000 in
set_option maxRecDepth 100000 in
theorem waggonerref05_Numbers.calls (k : Nat) (A0 : Option Addr) (c0 : Nat) (l0 : List Int) (A1 : Option Addr) (c1 : Nat) (l1 : List Int) (r : Bool) (w : World) (hr0 : Kd.C (Kd.int .i64) w A0 l0.length l0) (hc0 : l0.length ≤ c0) (hr1 : Kd.C (Kd.int .i64) w A1 l1.length l1) (hc1 : l1.length ≤ c1) (h : waggonerref05_Numbers.f k l0 l1 = some r) :
  Calls Try.prog 31 #[.slice A0 l0.length c0, .slice A1 l1.length c1] w fun e w' => e = .returned (.bool r) ∧ Drawn0 w w' := by
 have HR0 := Aside0.mk hr0
 have HC0 := Aside0.mk hc0
 clear hr0 hc0
 have HR1 := Aside0.mk hr1
 have HC1 := Aside0.mk hc1
 clear hr1 hc1
 have H : (if (l0.length : Int) = (l1.length : Int) then (waggonerref05_Numbers.l0 k l0 l1 0) else (some false)) = some r := h
 clear h
 by_cases c3 : (l0.length : Int) = (l1.length : Int)
 ·rw [if_pos c3] at H
  have c3b0 : ((l0.length : Int) == (l1.length : Int)) = true := beq_iff_eq.mpr c3
  have c3b1 : ((l0.length : Int) != (l1.length : Int)) = false := bne_eq_false_iff_eq.mpr c3
  have c3b2 : (l0.length == l1.length) = true := by first | simpa using c3 | (simp at c3 ⊢; omega)
  clear c3
  have H' := Aside0.mk H
  clear H
  go_enter Try.func31, Try.ntmps31
  go_wp2
  repeat (go_quiet (fail); try go_wp2)
  go_loopg [5] k (fun kq v5 w' => ∃ (x5_1 : Int), v5 = .int .i64 x5_1 ∧ Aside0 (waggonerref05_Numbers.l0 kq l0 l1 x5_1 = some r) ∧ Aside0 (kq ≤ k) ∧ Drawn0 w w')
  case atStart => exact ⟨(0), (by first | rfl | (simp; done) | (simp [*]; done)), H', ⟨Nat.le_refl _⟩, by repeat (first | exact Drawn0.refl _ | apply Drawn0.step)⟩
  case round =>
   clear H'
   try clear c1
   try clear p2
   try clear c3
   try clear c3b0
   try clear c3b1
   try clear c3b2
   obtain ⟨x5_1, rfl, HA, HK1, ⟨m1, rfl⟩⟩ := hrel
   cases gk with
   | zero => exact absurd HA.out (by simp [waggonerref05_Numbers.l0])
   | succ k1 =>
    have H := HA.out
    clear HA
    simp only [waggonerref05_Numbers.l0] at H
    by_cases c4 : x5_1 < (l0.length : Int)
    ·rw [if_pos c4] at H
     have c4b0 : decide (x5_1 < (l0.length : Int)) = true := decide_eq_true c4
     clear c4
     by_cases c5 : 0 ≤ x5_1
     ·rw [if_pos c5] at H
      have c5b0 : decide (0 ≤ x5_1) = true := decide_eq_true c5
      clear c5
      by_cases c6 : x5_1 < (l1.length : Int)
      ·rw [if_pos c6] at H
       have c6b0 : decide (x5_1 < (l1.length : Int)) = true := decide_eq_true c6
       clear c6
       by_cases c7 : (rd l0 x5_1) = (rd l1 x5_1)
       ·rw [if_pos c7] at H
        have c7b0 : ((rd l0 x5_1) == (rd l1 x5_1)) = true := beq_iff_eq.mpr c7
        have c7b1 : ((rd l0 x5_1) != (rd l1 x5_1)) = false := bne_eq_false_iff_eq.mpr c7
        clear c7
        have H' := Aside0.mk H
        clear H
        have p163 : 0 ≤ (x5_1 : Int) := of_decide_eq_true (by first | (with_reducible assumption) | assumption)
        have q163 : x5_1 < (l0.length : Int) := of_decide_eq_true (by first | (with_reducible assumption) | assumption)
        obtain ⟨ad163, e163, hx163_0⟩ := Kd.at_int HR0.out x5_1 p163 q163
        cases e163
        replace p163 := eq_true p163
        replace q163 := eq_true q163
        have p164 : 0 ≤ (x5_1 : Int) := of_decide_eq_true (by first | (with_reducible assumption) | assumption)
        have q164 : x5_1 < (l1.length : Int) := of_decide_eq_true (by first | (with_reducible assumption) | assumption)
        obtain ⟨ad164, e164, hx164_0⟩ := Kd.at_int HR1.out x5_1 p164 q164
        cases e164
        replace p164 := eq_true p164
        replace q164 := eq_true q164
        go_wp2
        repeat (go_quiet (fail); try go_wp2)
        go_roundg k1
        case measure => have := HK1.out; omega
        case rel => exact ⟨(wrap64 (x5_1 + 1)), (by first | rfl | (simp; done) | (simp [*]; done)), H', ⟨by have := HK1.out; omega⟩, by repeat (first | exact Drawn0.refl _ | apply Drawn0.step)⟩
       ·rw [if_neg c7] at H
        have c7b0 : ((rd l0 x5_1) == (rd l1 x5_1)) = false := beq_eq_false_iff_ne.mpr c7
        have c7b1 : ((rd l0 x5_1) != (rd l1 x5_1)) = true := bne_iff_ne.mpr c7
        obtain rfl := Option.some.inj H
        have p163 : 0 ≤ (x5_1 : Int) := of_decide_eq_true (by first | (with_reducible assumption) | assumption)
        have q163 : x5_1 < (l0.length : Int) := of_decide_eq_true (by first | (with_reducible assumption) | assumption)
        obtain ⟨ad163, e163, hx163_0⟩ := Kd.at_int HR0.out x5_1 p163 q163
        cases e163
        replace p163 := eq_true p163
        replace q163 := eq_true q163
        have p164 : 0 ≤ (x5_1 : Int) := of_decide_eq_true (by first | (with_reducible assumption) | assumption)
        have q164 : x5_1 < (l1.length : Int) := of_decide_eq_true (by first | (with_reducible assumption) | assumption)
        obtain ⟨ad164, e164, hx164_0⟩ := Kd.at_int HR1.out x5_1 p164 q164
        cases e164
        replace p164 := eq_true p164
        replace q164 := eq_true q164
        go_wp2
        repeat (go_quiet (fail); try go_wp2)
        go_ret
        exact ⟨by first | rfl | (simp; done) | (simp [*]; done), by repeat (first | exact Drawn0.refl _ | apply Drawn0.step)⟩
      ·rw [if_neg c6] at H
       exact absurd H (by simp)
     ·rw [if_neg c5] at H
      exact absurd H (by simp)
    ·rw [if_neg c4] at H
     have c4b0 : decide (x5_1 < (l0.length : Int)) = false := decide_eq_false c4
     clear c4
     obtain rfl := Option.some.inj H
     go_wp2
     repeat (go_quiet (fail); try go_wp2)
     go_ret
     exact ⟨by first | rfl | (simp; done) | (simp [*]; done), by repeat (first | exact Drawn0.refl _ | apply Drawn0.step)⟩
 ·rw [if_neg c3] at H
  have c3b0 : ((l0.length : Int) == (l1.length : Int)) = false := beq_eq_false_iff_ne.mpr c3
  have c3b1 : ((l0.length : Int) != (l1.length : Int)) = true := bne_iff_ne.mpr c3
  have c3b2 : (l0.length == l1.length) = false := by first | simpa using c3 | (simp at c3 ⊢; omega)
  obtain rfl := Option.some.inj H
  go_enter Try.func31, Try.ntmps31
  go_wp2
  repeat (go_quiet (fail); try go_wp2)
  go_ret
  exact ⟨by first | rfl | (simp; done) | (simp [*]; done), by repeat (first | exact Drawn0.refl _ | apply Drawn0.step)⟩
end Go.Proofs.Ytcemlfkboifncaa.PA
