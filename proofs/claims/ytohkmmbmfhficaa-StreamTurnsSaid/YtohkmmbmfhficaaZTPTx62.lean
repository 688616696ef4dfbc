/- Words and walks that this claim names, of those that the kit's print and programs of this workplace have printed. -/
import Derived.Test.YtohkmmbmfhficaaZTCz
import Derived.Test.YtohkmmbmfhficaaZTPTx5
import Derived.Test.YtohkmmbmfhficaaZTPTx38
import Derived.Test.YtohkmmbmfhficaaZTPTx57
import Derived.Test.YtohkmmbmfhficaaZTPTx61
namespace Go.Proofs.Ytohkmmbmfhficaa.PT
open Go.Proofs.Ytohkmmbmfhficaa Go.RowKit Go.Proofs.YtohkmmbmfhficaaW.PrintWords Go.Proofs.YtohkmmbmfhficaaW.PrintLast Go.Proofs.YtohkmmbmfhficaaW.PrintMore
attribute [local go_sem] max2_int min2_int max_two min_two max_three min_three max_four min_four
set_option linter.unusedVariables false
set_option linter.unusedSimpArgs false
theorem stGo_each {B : Int} : ∀ {L : List Pl.Ext} {p : Option Pl.Ext}, Pl.stGo B p L = true → ∀ u ∈ L, Pl.eOk u = true
 | [], _, _, u, hu => absurd hu (by simp)
 | x :: l, p, h, u, hu => by
  rw [Pl.stGo_cons, Bool.and_eq_true] at h
  rcases List.mem_cons.1 hu with rfl | hu
  ·exact (Pl.stOne_iff.1 h.1).1
  exact stGo_each h.2 u hu
theorem stepS_most {B : Int} {L M : List Pl.Ext} {f : Pl.Frm} (h : Pl.stepS B L f = some M) : M.length ≤ L.length + 1 := by
 rcases Pl.nil_or_snoc L with rfl | ⟨m, u, rfl⟩
 ·rw [Pl.stepS_nil] at h
  split at h
  ·cases h
  injection h with h; subst h; simp
 rw [Pl.stepS_snoc] at h
 split at h
 ·cases h
 split at h
 all_goals
  split at h
  ·injection h with h; subst h; simp
  cases h
theorem sum_word {l : List Int} (h : Pl.byteB l = true) : wrap64 ((Pl.sum (Pl.nats l) : Nat) : Int) = ((Pl.sum (Pl.nats l) : Nat) : Int) := by
 have := Pl.sum_lt (Pl.byteB_bytes h)
 unfold wrap64; omega
def stream_Begin.J (g2 : Nat) (A0 : Option Addr) (c0 : Nat) (l0 : List Int) (r : Pl.Stm × Int) (w : World) (K : Nat) (a' : Act) (w' : World) : Prop :=
 ∃ (gr : Nat) (B P T : Int) (L : List Pl.Ext) (many pos : Nat) (v u6 u7 u8 u13 u14 u15 u16 u17 u18 u19 u20 u21 u22 u23 u24 u25 u26 u27 u28 u29 u30 u31 u32 u33 u34 u35 u36 u37 u38 u39 u40 u41 u42 u43 u44 u45 u46 u47 u48 u49 u50 u51 u52 u53 u54 u55 u56 u57 u58 : Value), a' = { tmps := #[.slice A0 l0.length c0, undef, .pointer (some ⟨g2, 0, none⟩), .int .i64 0, .pointer (some ⟨gr, 0, none⟩), .int .i64 (pos : Int), u6, u7, u8, .slice A0 l0.length c0, .int .i64 (l0.length : Int), .bool false, undef, u13, u14, u15, u16, u17, u18, u19, u20, u21, u22, u23, u24, u25, u26, u27, u28, u29, u30, u31, u32, u33, u34, u35, u36, u37, u38, u39, u40, u41, u42, u43, u44, u45, u46, u47, u48, u49, u50, u51, u52, u53, u54, u55, u56, u57, u58], defers := [] } ∧ Aside0 (Pl.begL K (B, P, T, L) many (l0.take pos) (l0.drop pos) = r) ∧ Aside0 (l0.length ≤ 4000) ∧ Aside0 (pos ≤ l0.length ∧ l0.length < pos + K ∧ many ≤ pos ∧ L.length ≤ pos ∧ Pl.stGo B none L = true) ∧ Aside0 (g2 < gr) ∧ Aside0 (gr ≤ w'.heap.size) ∧ Aside0 (w'.heap[g2]? = some (.cells #[.int .i64 0, .int .i64 0, .int .i64 0, .slice none 0 0] 24 (0, 0))) ∧ Aside0 (w'.heap[gr]? = some (.cells #[.int .i64 B, .int .i64 P, .int .i64 T, v, .int .i64 (many : Int), .bool false] 62 (0, 0))) ∧ Aside0 (Kd.R k36 36 w' gr (fun _ => True) v (L.map ofE)) ∧ Aside0 (Below w.heap.size w w')
set_option maxHeartbeats 8000000 in
set_option maxRecDepth 2000000 in
theorem stream_Begin.callsR (A0 : Option Addr) (c0 : Nat) (l0 : List Int) (r : Pl.Stm × Int) (w : World) (hr0 : Kd.C (Kd.int .u8) w A0 l0.length l0) (hc0 : l0.length ≤ c0) (hby : Pl.byteB l0 = true) (h : Pl.beginS l0 = r) :
  Calls Try.prog 17 #[.slice A0 l0.length c0] w fun e w' => ∃ v3_ : Value, e = .returned (.tuple #[.agg #[.int .i64 r.1.1, .int .i64 r.1.2.1, .int .i64 r.1.2.2.1, v3_], .int .i64 r.2]) ∧ Kd.R k36 36 w' w.heap.size (fun _ => True) v3_ (r.1.2.2.2.map ofE) ∧ Below w.heap.size w w' := by
 have hu0 := Try.underlying24
 have HR0 := Aside0.mk hr0
 have HC0 := Aside0.mk hc0
 have HBY := Aside0.mk hby
 have HB := Aside0.mk (Below.refl w.heap.size w)
 have H := Aside0.mk h
 clear hr0 hc0 h hby
 go_enter Try.func17, Try.ntmps17
 go_wp2
 have G2 := Aside0.mk (blk_new w (.cells #[.int .i64 0, .int .i64 0, .int .i64 0, .slice none 0 0] 24))
 have HW := Aside0.mk (below_alloc HB.out (.cells #[.int .i64 0, .int .i64 0, .int .i64 0, .slice none 0 0] 24))
 have hz : (w.alloc (.cells #[.int .i64 0, .int .i64 0, .int .i64 0, .slice none 0 0] 24)).heap.size = w.heap.size + 1 := by simp
 clear HB
 obtain ⟨g2, hg2⟩ : ∃ g, g = w.heap.size := ⟨_, rfl⟩
 have G2s := Aside0.mk (Nat.le_of_eq hg2.symm)
 rw [← hg2] at G2 ⊢
 have HZ := Aside0.mk (show (w.alloc (.cells #[.int .i64 0, .int .i64 0, .int .i64 0, .slice none 0 0] 24)).heap.size = g2 + 1 by rw [hz, hg2])
 generalize w.alloc (.cells #[.int .i64 0, .int .i64 0, .int .i64 0, .slice none 0 0] 24) = w1 at G2 HW HZ ⊢
 clear hg2 hz
 refine Kx.scope_ghost 0 (stream_Begin.J g2 A0 c0 l0 r w) rfl ?_ ?_
 case refine_2 =>
  intro go
  have m2 := Aside0.mk (blk_alloc G2.out (.cells #[.int .i64 0, .int .i64 0, .int .i64 0, .slice none 0 0, .int .i64 0, .bool false] 62))
  have m3 := Aside0.mk (blk_new w1 (.cells #[.int .i64 0, .int .i64 0, .int .i64 0, .slice none 0 0, .int .i64 0, .bool false] 62))
  have m4 := Aside0.mk (below_alloc HW.out (.cells #[.int .i64 0, .int .i64 0, .int .i64 0, .slice none 0 0, .int .i64 0, .bool false] 62))
  have m5 := Aside0.mk (show w1.heap.size ≤ (w1.alloc (.cells #[.int .i64 0, .int .i64 0, .int .i64 0, .slice none 0 0, .int .i64 0, .bool false] 62)).heap.size by simp)
  by_cases hl : 4000 < l0.length
  ·have hl1 : decide (4000 < l0.length) = true := decide_eq_true hl
   have hl2 : decide ((4000 : Int) < (l0.length : Int)) = true := decide_eq_true (by omega)
   have HR := Aside0.mk (show r = (Pl.stZ, 170) by rw [← H.out, Pl.beginS, if_pos hl])
   clear hl go
   go_upto_region 4 with (fail)
   generalize w1.alloc (.cells #[.int .i64 0, .int .i64 0, .int .i64 0, .slice none 0 0, .int .i64 0, .bool false] 62) = w2 at m2 m3 m4 m5 ⊢
   clear G2
   have G2 := m2
   clear m2
   obtain ⟨hcz0, hcz1, hcz2, hcz3, hfz0, hfz1, hfz2, hfz3⟩ := Cz.d4 G2
   go_wp2
   simp only [Exit.jump]
   refine bodyPost_ret (results_ct rfl _ _ g2 24 #[.int .i64 0, .int .i64 0, .int .i64 0, .slice none 0 0] (0, 0) _ rfl (by apply Cz.a4; exact G2.out) Try.underlying24 rfl (by kernel_rfl)) rfl ?_
   rw [HR.out]
   exact ⟨.slice none 0 0, rfl, Kd.R_nil _ _ _ _ _, below_set (below_set (below_set (below_set (m4.out) G2s.out) G2s.out) G2s.out) G2s.out⟩
  have hl1 : decide (4000 < l0.length) = false := decide_eq_false hl
  have hl2 : decide ((4000 : Int) < (l0.length : Int)) = false := decide_eq_false (by omega)
  have HR : Aside0 (Pl.begL (l0.length + 1) Pl.stZ 0 [] l0 = r) := ⟨by rw [← H.out, Pl.beginS, if_neg hl]⟩
  have HL0 := Aside0.mk (show l0.length ≤ 4000 by omega)
  clear hl
  go_wp2
  go_step3
  rename_i Kk hKk
  refine hKk _ _ (go (l0.length + 1) _ _ ⟨w1.heap.size, 0, 0, 0, [], 0, 0, .slice none 0 0, undef, undef, undef, undef, undef, undef, undef, undef, undef, undef, undef, undef, undef, undef, undef, undef, undef, undef, undef, undef, undef, undef, undef, undef, undef, undef, undef, undef, undef, undef, undef, undef, undef, undef, undef, undef, undef, undef, undef, undef, undef, undef, undef, undef, undef, undef, undef, undef, undef, rfl, ⟨by rw [List.take_zero, List.drop_zero]; exact HR.out⟩, HL0, ⟨Nat.zero_le _, by omega, Nat.le_refl _, Nat.zero_le _, rfl⟩, ⟨by rw [HZ.out]; exact Nat.lt_succ_self _⟩, m5, m2, m3, ⟨Kd.R_nil _ _ _ _ _⟩, m4⟩)
 case refine_1 =>
  intro K a' w0' hJ
  clear H
  obtain ⟨gr, B, P, T, L, many, pos, v, u0, u1, u8, u2, u3, u4, u16, u5, u6, u7, u9, u10, u11, u12, u13, u14, u15, u17, u18, u19, u20, u21, u32, u22, u23, u24, u25, u26, u27, u28, u29, u30, u31, u33, u44, u34, u35, u36, u37, u38, u39, u40, u41, u42, u43, u45, u46, u47, u48, rfl, H, LM, PP, GL, GW, G2n, GR, BL, HWn⟩ := hJ
  clear G2 HW HZ
  have G2 := G2n
  have HW := HWn
  clear G2n HWn
  obtain ⟨K, rfl⟩ : ∃ m, K = m + 1 := ⟨K - 1, by have := PP.out; omega⟩
  have HB := Aside0.mk (Below.refl gr w0')
  have GS := Aside0.mk (show w.heap.size ≤ gr from Nat.le_of_lt (Nat.lt_of_le_of_lt G2s.out GL.out))
  have MN := Aside0.mk (show 0 ≤ (many : Int) ∧ (many : Int) ≤ 1000000 by have := PP.out; have := LM.out; omega)
  have HRn := Aside0.mk (Kd.C_below HR0.out HW.out)
  obtain ⟨i0_, hi0_, _, hsz_, _⟩ := info_parts info5
  obtain ⟨A1, hcut0, hA0, hC0⟩ := print_drop_of (P := Try.prog) (Value.int .u8) 0 27 5 .i64 Try.underlying27 hi0_ hsz_ A0 c0 l0 (pos : Int) (Int.natCast_nonneg _) (by have := PP.out; omega) HC0.out
  have hr1 := Kd.C_of_reads (h1 := fun _ => rfl) (hA0 _ (Kd.reads_of_C HRn.out))
  obtain ⟨hcut1, hA1, hC1⟩ := print_take_of (P := Try.prog) (Value.int .u8) 0 27 5 .i64 Try.underlying27 hi0_ hsz_ A0 c0 l0 (pos : Int) (Int.natCast_nonneg _) (by have := PP.out; omega) HC0.out
  have HX := Aside0.mk (show ∀ w', Below gr w0' w' → Kd.C (Kd.int .u8) w' A0 (l0.take pos).length (l0.take pos) from fun w' hb => Kd.C_of_reads (h1 := fun _ => rfl) (hA1 _ (Kd.reads_of_C (Kd.C_below HR0.out (HW.out.trans (hb.mono GS.out))))))
  clear hA0 hA1 hi0_ hsz_ HRn
  rw [Int.toNat_natCast] at hcut0 hr1 hC0 hcut1 hC1
  obtain ⟨b, hb⟩ : ∃ b, b = l0.drop pos := ⟨_, rfl⟩
  obtain ⟨pre, hpre⟩ : ∃ b, b = l0.take pos := ⟨_, rfl⟩
  have LB := Aside0.mk (show (b.length : Int) = (l0.length : Int) - (pos : Int) by rw [hb, List.length_drop]; have := PP.out; omega)
  have DB := Aside0.mk hb
  have DP := Aside0.mk hpre
  have HbB := Aside0.mk (show Pl.byteB b = true by rw [hb]; exact Pl.byteB_drop HBY.out _)
  have HbP := Aside0.mk (show Pl.byteB pre = true by rw [hpre]; exact Pl.byteB_take HBY.out _)
  rw [← hb] at hcut0 hr1 hC0 H
  rw [← hpre] at hcut1 hC1 HX H
  have HR1 := Aside0.mk hr1
  have HC1 := Aside0.mk hC0
  have HC2 := Aside0.mk hC1
  have BB := Aside0.mk (show b.length < 1073741824 by have := LB.out; have := LM.out; omega)
  obtain ⟨Av, cv, ev⟩ := Kd.R_slice BL.out
  rw [List.length_map] at ev
  subst ev
  clear hb hpre hr1 hC0 hC1
  rcases Pl.freadS_cases b with ⟨k, a, n, d, x, y, z, rest, ho, hbb, hr⟩ | ⟨-, hr | hr⟩
  ·obtain ⟨q, hq⟩ : ∃ q, q = (Pl.frW k a n d x y z).length := ⟨_, rfl⟩
   rw [← hq] at hr
   have HRd := Aside0.mk (frame_Read.tells HbB.out BB.out hr)
   have H0 := H.out
   clear H
   rw [Pl.begL, hr] at H0
   dsimp only at H0
   rw [if_neg (by decide), if_neg (by decide), Int.toNat_natCast] at H0
   have Q0 := Aside0.mk (show 9 ≤ q ∧ q ≤ b.length by rw [hq]; have := Pl.frW_le ho; have hl := congrArg List.length hbb; rw [List.length_append] at hl; omega)
   clear hq hbb hr
   by_cases hcome : ¬(k = 1 ↔ many = 0)
   rotate_left
   focus
    rw [if_neg hcome] at H0
    replace hcome := Decidable.not_not.1 hcome
    by_cases k1 : k = 1
    rotate_left
    focus
     rw [if_neg k1] at H0
     have HN := Aside0.mk (show (k == 1) = false from beq_eq_false_iff_ne.mpr k1)
     have HM := Aside0.mk (show ((many : Int) == 0) = false from beq_eq_false_iff_ne.mpr (by have := mt hcome.2 k1; omega))
     by_cases k5 : k = 5
     focus
      rw [if_pos k5] at H0
      have H1 := Aside0.mk (show (k == 5) = true from beq_iff_eq.mpr k5)
      have hs := crc_Sum.tells pre HbP.out
      have SW := Aside0.mk (sum_word HbP.out)
      have HS := Aside0.mk hs
      clear hs ho hcome
      by_cases hx : x = (many : Int)
      rotate_left
      rotate_left
      focus
       have EX := Aside0.mk hx
       by_cases hy : y = ((Pl.sum (Pl.nats pre) : Nat) : Int)
       rotate_left
       rotate_left
       focus
        have EY := Aside0.mk (show (y == wrap64 ((Pl.sum (Pl.nats pre) : Nat) : Int)) = true by rw [SW.out]; exact beq_iff_eq.mpr hy)
        have hw8 : wrap64 ((pos : Int) + (q : Int)) = ((pos + q : Nat) : Int) := by have := PP.out; have := Q0.out; have := LB.out; have := LM.out; unfold wrap64; omega
        by_cases hq : (q : Int) = (b.length : Int)
        rotate_left
       rotate_left 2
      rotate_left 3
     rotate_left 4
     focus
      rw [if_neg k5] at H0
      have KB := Aside0.mk (show (2 ≤ k ∧ k ≤ 4) ∧ (0 ≤ a ∧ 1 ≤ n ∧ n ≤ 64 - a) by rcases Pl.frOk_iff.1 ho with h | h | h | h <;> omega)
      have HE := Aside0.mk (stGo_each PP.out.2.2.2.2)
      have NL := Aside0.mk (show L.length ≤ 1000000 by have := PP.out; have := LM.out; omega)
      rcases hst : Pl.stepS B L (k, a, n, d, x, y, z) with _ | M
     rotate_left 2
    rotate_left 6
   rotate_left 7
   focus
    rw [if_pos hcome] at H0
    have HR := Aside0.mk H0.symm
    have HN := Aside0.mk (show (k == 1) = !((many : Int) == 0) by by_cases h1 : k = 1 <;> by_cases h2 : many = 0 <;> simp_all)
    clear H0 hcome ho
   rotate_left
   focus
    rw [if_pos k1] at H0
    have HN := Aside0.mk (show (k == 1) = true from beq_iff_eq.mpr k1)
    have HM := Aside0.mk (show ((many : Int) == 0) = true from beq_iff_eq.mpr (by have := hcome.1 k1; omega))
    have H := Aside0.mk H0
    clear H0 hcome ho k1
    have hw8 : wrap64 ((pos : Int) + (q : Int)) = ((pos + q : Nat) : Int) := by have := PP.out; have := Q0.out; have := LB.out; have := LM.out; unfold wrap64; omega
   rotate_left
   focus
    rw [if_neg (fun e => hx e.1)] at H0
    have HR := Aside0.mk H0.symm
    have EX := Aside0.mk hx
    clear H0 hx k1 k5
   rotate_left
   focus
    rw [if_neg (fun e => hy e.2.1)] at H0
    have HR := Aside0.mk H0.symm
    have EY := Aside0.mk (show (y == wrap64 ((Pl.sum (Pl.nats pre) : Nat) : Int)) = false by rw [SW.out]; exact beq_eq_false_iff_ne.mpr hy)
    clear H0 hx hy k1 k5
   rotate_left
   focus
    rw [if_neg (fun e => hq e.2.2)] at H0
    have HR := Aside0.mk H0.symm
    have hb1 : decide (((pos + q : Nat) : Int) < (l0.length : Int)) = true := decide_eq_true (by have := LB.out; have := Q0.out; omega)
    have hb2 : decide (pos + q < l0.length) = true := decide_eq_true (by have := LB.out; have := Q0.out; omega)
    have hb0 : decide ((pos : Int) + (q : Int) < (l0.length : Int)) = true := decide_eq_true (by have := LB.out; have := Q0.out; omega)
    have hb4 : decide (wrap64 ((pos : Int) + (q : Int)) < (l0.length : Int)) = true := by rw [hw8]; exact hb1
    clear H0 hx hy hq k1 k5
   rotate_left
   focus
    rw [if_pos ⟨hx, hy, hq⟩] at H0
    have HR := Aside0.mk H0.symm
    have hb1 : decide (((pos + q : Nat) : Int) < (l0.length : Int)) = false := decide_eq_false (by have := LB.out; have := Q0.out; omega)
    have hb2 : decide (pos + q < l0.length) = false := decide_eq_false (by have := LB.out; have := Q0.out; omega)
    have hb0 : decide ((pos : Int) + (q : Int) < (l0.length : Int)) = false := decide_eq_false (by have := LB.out; have := Q0.out; omega)
    have hb4 : decide (wrap64 ((pos : Int) + (q : Int)) < (l0.length : Int)) = false := by rw [hw8]; exact hb1
    clear H0 hx hy hq k1 k5
   rotate_left
   focus
    rw [hst] at H0
    have HR := Aside0.mk H0.symm
    have ST := Aside0.mk hst
    clear H0 hst ho hcome k1 k5
   rotate_left
   focus
    rw [hst] at H0
    have H := Aside0.mk H0
    have ST := Aside0.mk hst
    have SB := Aside0.mk (Pl.stepS_back (f := (k, a, n, d, x, y, z)) (show Pl.frOkT (k, a, n, d, x, y, z) = true from ho) KB.out.1 PP.out.2.2.2.2 hst).1
    have SM := Aside0.mk (stepS_most hst)
    clear H0 hst ho hcome k1 k5
    have hw8 : wrap64 ((pos : Int) + (q : Int)) = ((pos + q : Nat) : Int) := by have := PP.out; have := Q0.out; have := LB.out; have := LM.out; unfold wrap64; omega
   rotate_left
   all_goals
    go_wp2_with fail
    refine (frame_Read.calls A1 _ b k a n d x y z (q : Int) 0 _ HR1.out HC1.out HRd.out).mono ?_
    rintro e' w3 ⟨vd, rfl, ho, hb⟩
    obtain ⟨Ad, cd, ed⟩ := Kd.R_slice ho
    subst ed
    have BD := Aside0.mk (Kd.R_lower ho GW.out)
    have m_G0 := Aside0.mk (blk_below G2.out hb)
    have m_GR := Aside0.mk (blk_below GR.out hb)
    have m_BL := Aside0.mk (Kd.R_below BL.out hb)
    have m_HB := Aside0.mk (below_then HB.out (Nat.le_trans GW.out HB.out.size) hb)
    clear G2 GR BL HB
    have G2 := m_G0
    have GR := m_GR
    have BL := m_BL
    have HB := m_HB
    clear m_G0 m_GR m_BL m_HB
    clear ho hb HR1 HC1 HRd
    go_upto_region 6 with (((with_reducible refine gate_dst (N := 6) rfl ?_); refine Cz.bx (N := 6) #[.int .i64 0, .int .i64 0, .int .i64 0, .slice none 0 0, .int .i64 0, .int .i64 0, .int .i64 0] 38 ?_; intro gf hg w4 hbox hb; have GFs := Aside0.mk (show gr ≤ gf from Nat.le_trans (Nat.le_trans GW.out HB.out.size) (Nat.le_of_eq hg.symm)); clear hg; have m_G0 := Aside0.mk (blk_below G2.out hb); have m_GR := Aside0.mk (blk_below GR.out hb); have m_BL := Aside0.mk (Kd.R_below BL.out hb); have m_BD := Aside0.mk (Kd.R_below BD.out hb); have m_HB := Aside0.mk (below_then HB.out (Nat.le_trans GW.out HB.out.size) hb); clear G2 GR BL BD HB; have G2 := m_G0; have GR := m_GR; have BL := m_BL; have BD := m_BD; have HB := m_HB; clear m_G0 m_GR m_BL m_BD m_HB; have BF := Aside0.mk hbox; clear hbox hb; obtain ⟨hcf0, hcf1, hcf2, hcf3, hcf4, hcf5, hcf6, hff0, hff1, hff2, hff3, hff4, hff5, hff6⟩ := Cz.d7 BF))
    have q_ : ∀ k_, k_ ≠ gf → (((((((w4.setCell ⟨gf, 0, none⟩ (.int .i64 k)).setCell ⟨gf, 1, none⟩ (.int .i64 a)).setCell ⟨gf, 2, none⟩ (.int .i64 n)).setCell ⟨gf, 3, none⟩ (.slice Ad d.length cd)).setCell ⟨gf, 4, none⟩ (.int .i64 x)).setCell ⟨gf, 5, none⟩ (.int .i64 y)).setCell ⟨gf, 6, none⟩ (.int .i64 z)).heap[k_]? = w4.heap[k_]? := fun k_ hk => (Below.heap_setCell _ ⟨gf, 6, none⟩ _ k_ hk).trans ((Below.heap_setCell _ ⟨gf, 5, none⟩ _ k_ hk).trans ((Below.heap_setCell _ ⟨gf, 4, none⟩ _ k_ hk).trans ((Below.heap_setCell _ ⟨gf, 3, none⟩ _ k_ hk).trans ((Below.heap_setCell _ ⟨gf, 2, none⟩ _ k_ hk).trans ((Below.heap_setCell _ ⟨gf, 1, none⟩ _ k_ hk).trans ((Below.heap_setCell _ ⟨gf, 0, none⟩ _ k_ hk).trans (rfl)))))))
    have m1 : Aside0 ((((((((w4.setCell ⟨gf, 0, none⟩ (.int .i64 k)).setCell ⟨gf, 1, none⟩ (.int .i64 a)).setCell ⟨gf, 2, none⟩ (.int .i64 n)).setCell ⟨gf, 3, none⟩ (.slice Ad d.length cd)).setCell ⟨gf, 4, none⟩ (.int .i64 x)).setCell ⟨gf, 5, none⟩ (.int .i64 y)).setCell ⟨gf, 6, none⟩ (.int .i64 z)).heap[gf]? = some (.cells #[.int .i64 k, .int .i64 a, .int .i64 n, .slice Ad d.length cd, .int .i64 x, .int .i64 y, .int .i64 z] 38 (0, 0))) := ⟨blk_put (blk_put (blk_put (blk_put (blk_put (blk_put (blk_put BF.out 0 _ rfl) 1 _ rfl) 2 _ rfl) 3 _ rfl) 4 _ rfl) 5 _ rfl) 6 _ rfl⟩
    have m2 : Aside0 ((((((((w4.setCell ⟨gf, 0, none⟩ (.int .i64 k)).setCell ⟨gf, 1, none⟩ (.int .i64 a)).setCell ⟨gf, 2, none⟩ (.int .i64 n)).setCell ⟨gf, 3, none⟩ (.slice Ad d.length cd)).setCell ⟨gf, 4, none⟩ (.int .i64 x)).setCell ⟨gf, 5, none⟩ (.int .i64 y)).setCell ⟨gf, 6, none⟩ (.int .i64 z)).heap[gr]? = _) := ⟨(q_ _ (blk_ne GR.out BF.out (by decide))).trans GR.out⟩
    have m3 : Aside0 ((((((((w4.setCell ⟨gf, 0, none⟩ (.int .i64 k)).setCell ⟨gf, 1, none⟩ (.int .i64 a)).setCell ⟨gf, 2, none⟩ (.int .i64 n)).setCell ⟨gf, 3, none⟩ (.slice Ad d.length cd)).setCell ⟨gf, 4, none⟩ (.int .i64 x)).setCell ⟨gf, 5, none⟩ (.int .i64 y)).setCell ⟨gf, 6, none⟩ (.int .i64 z)).heap[g2]? = _) := ⟨(q_ _ (blk_ne G2.out BF.out (by decide))).trans G2.out⟩
    have m4 := Aside0.mk (show Kd.R k36 36 (((((((w4.setCell ⟨gf, 0, none⟩ (.int .i64 k)).setCell ⟨gf, 1, none⟩ (.int .i64 a)).setCell ⟨gf, 2, none⟩ (.int .i64 n)).setCell ⟨gf, 3, none⟩ (.slice Ad d.length cd)).setCell ⟨gf, 4, none⟩ (.int .i64 x)).setCell ⟨gf, 5, none⟩ (.int .i64 y)).setCell ⟨gf, 6, none⟩ (.int .i64 z)) gr (fun _ => True) _ _ from Kd.R_mono (Kd.R_step (Kd.R_types BL.out BF.out (by decide)) (fun k_ hk _ => q_ k_ hk.2)) (fun _ _ => trivial))
    have m5 := Aside0.mk (show Kd.R (Kd.int .u8) 5 (((((((w4.setCell ⟨gf, 0, none⟩ (.int .i64 k)).setCell ⟨gf, 1, none⟩ (.int .i64 a)).setCell ⟨gf, 2, none⟩ (.int .i64 n)).setCell ⟨gf, 3, none⟩ (.slice Ad d.length cd)).setCell ⟨gf, 4, none⟩ (.int .i64 x)).setCell ⟨gf, 5, none⟩ (.int .i64 y)).setCell ⟨gf, 6, none⟩ (.int .i64 z)) gr (fun _ => True) _ _ from Kd.R_mono (Kd.R_step (Kd.R_types BD.out BF.out (by decide)) (fun k_ hk _ => q_ k_ hk.2)) (fun _ _ => trivial))
    have m6 : Aside0 (Below gr w0' (((((((w4.setCell ⟨gf, 0, none⟩ (.int .i64 k)).setCell ⟨gf, 1, none⟩ (.int .i64 a)).setCell ⟨gf, 2, none⟩ (.int .i64 n)).setCell ⟨gf, 3, none⟩ (.slice Ad d.length cd)).setCell ⟨gf, 4, none⟩ (.int .i64 x)).setCell ⟨gf, 5, none⟩ (.int .i64 y)).setCell ⟨gf, 6, none⟩ (.int .i64 z))) := ⟨((((((HB.out.setCell (p := ⟨gf, 0, none⟩) GFs.out _).setCell (p := ⟨gf, 1, none⟩) GFs.out _).setCell (p := ⟨gf, 2, none⟩) GFs.out _).setCell (p := ⟨gf, 3, none⟩) GFs.out _).setCell (p := ⟨gf, 4, none⟩) GFs.out _).setCell (p := ⟨gf, 5, none⟩) GFs.out _).setCell (p := ⟨gf, 6, none⟩) GFs.out _⟩
    generalize (((((((w4.setCell ⟨gf, 0, none⟩ (.int .i64 k)).setCell ⟨gf, 1, none⟩ (.int .i64 a)).setCell ⟨gf, 2, none⟩ (.int .i64 n)).setCell ⟨gf, 3, none⟩ (.slice Ad d.length cd)).setCell ⟨gf, 4, none⟩ (.int .i64 x)).setCell ⟨gf, 5, none⟩ (.int .i64 y)).setCell ⟨gf, 6, none⟩ (.int .i64 z)) = w5 at m1 m2 m3 m4 m5 m6 ⊢
    clear q_ G2 GR BF BL BD HB
    clear hcf0 hff0 hcf1 hff1 hcf2 hff2 hcf3 hff3 hcf4 hff4 hcf5 hff5 hcf6 hff6
    have BF := m1
    have GR := m2
    have G2 := m3
    have BL := m4
    have BD := m5
    have HB := m6
    clear m1 m2 m3 m4 m5 m6
    go_wp2_with fail
    have m_G0 := Aside0.mk (blk_drew G2.out)
    have m_GR := Aside0.mk (blk_drew GR.out)
    have m_BL := Aside0.mk (Kd.R_drew BL.out)
    have m_BD := Aside0.mk (Kd.R_drew BD.out)
    have m_BF := Aside0.mk (blk_drew BF.out)
    have m_HB := Aside0.mk (below_drew HB.out)
    clear G2 GR BL BD BF HB
    have G2 := m_G0
    have GR := m_GR
    have BL := m_BL
    have BD := m_BD
    have BF := m_BF
    have HB := m_HB
    clear m_G0 m_GR m_BL m_BD m_BF m_HB
   focus refine Cz.s7 (n := 23) (ds := [7]) BF (fun hHeld => ?_)
   rotate_left
   focus refine Cz.s7 (n := 23) (ds := [7, 12]) BF (fun hHeld => ?_)
   rotate_left
   iterate 2
    focus refine Cz.s7 (n := 23) (ds := [7]) BF (fun hHeld => ?_)
    rotate_left
   iterate 2
    focus refine Cz.s7 (n := 23) (ds := [7, 12]) BF (fun hHeld => ?_)
    rotate_left
   focus refine Cz.s7 (n := 23) (ds := [7]) BF (fun hHeld => ?_)
   rotate_left
   focus refine Cz.s7 (n := 23) (ds := [7, 12]) BF (fun hHeld => ?_)
   rotate_left
   all_goals
    generalize w5.drew = w6 at G2 GR BL BD BF HB hHeld ⊢
    refine Cz.rP 0 28 ?_
    refine Cz.rP 1 29 ?_
    refine Cz.rP 2 30 ?_
    refine Cz.rP 4 32 ?_
    refine Cz.rP 5 33 ?_
    refine Cz.rP 6 34 ?_
    refine Cz.rT 3 31 hHeld ?_
    refine Cz.rL (N := some 35) 7 (fun K hK => ?_)
    refine goes_ Try.func37 (by kernel_rfl) rfl #[.pointer (some ⟨gr, 0, none⟩), .agg #[.int .i64 k, .int .i64 a, .int .i64 n, .slice Ad d.length cd, .int .i64 x, .int .i64 y, .int .i64 z], .slice A0 pre.length c0] (by rfl) rfl rfl (by simp only [List.map_toArray, List.map_cons, List.map_nil]; rfl) ?_
   focus
    with_reducible refine ((stream_reader_take.no gr gr B P T (many : Int) false _ _ L k a n d x y z A0 pre c0 _ GR.out (Nat.le_refl _) MN.out BL.out BD.out (HX.out _ HB.out) HN.out)).mono ?_
    rintro e' w7 ⟨rfl, hb⟩
   rotate_left
   focus
    with_reducible refine ((stream_reader_take.head gr gr B P T (many : Int) false _ _ L k a n d x y z A0 pre c0 _ GR.out (Nat.le_refl _) MN.out BL.out BD.out (HX.out _ HB.out) (fun w' hb => HX.out w' (HB.out.trans hb)) HN.out HM.out)).mono ?_
    rintro e' w7 ⟨rfl, hg, hb⟩
   rotate_left
   focus
    with_reducible refine ((stream_reader_take.endB_no gr gr B P T (many : Int) false _ _ L k a n d x y z A0 pre c0 _ GR.out (Nat.le_refl _) MN.out BL.out BD.out (HX.out _ HB.out) (fun w' hb => HX.out w' (HB.out.trans hb)) HN.out HM.out H1.out EX.out)).mono ?_
    rintro e' w7 ⟨rfl, hg, hl, hb⟩
   rotate_left
   iterate 3
    focus
     with_reducible refine ((stream_reader_take.endB gr gr B P T (many : Int) false _ _ L k a n d x y z A0 pre c0 _ _ _ GR.out (Nat.le_refl _) MN.out BL.out BD.out (HX.out _ HB.out) (fun w' hb => HX.out w' (HB.out.trans hb)) HN.out HM.out H1.out HS.out HC2.out EX.out EY.out)).mono ?_
     rintro e' w7 ⟨rfl, hg, hl, hb⟩
    rotate_left
   focus
    with_reducible refine ((stream_reader_take.blocks gr gr B P T (many : Int) false _ _ L k a n d x y z A0 pre c0 _ GR.out (Nat.le_refl _) MN.out BL.out BD.out (HX.out _ HB.out) (fun w' hb => HX.out w' (HB.out.trans hb)) KB.out.1 KB.out.2 HE.out NL.out HM.out)).mono ?_
    rintro e' w7 ⟨hp, hb⟩; obtain rfl : e' = .returned (.bool false) := by rcases hp with ⟨_, hs, _⟩ | ⟨_, he⟩; (rw [ST.out] at hs; cases hs); exact he
   rotate_left
   focus
    with_reducible refine ((stream_reader_take.blocks gr gr B P T (many : Int) false _ _ L k a n d x y z A0 pre c0 _ GR.out (Nat.le_refl _) MN.out BL.out BD.out (HX.out _ HB.out) (fun w' hb => HX.out w' (HB.out.trans hb)) KB.out.1 KB.out.2 HE.out NL.out HM.out)).mono ?_
    rintro e' w7 ⟨hp, hb⟩; obtain ⟨rfl, v1, hg, hl⟩ : e' = .returned (.bool true) ∧ ∃ v1, w7.heap[gr]? = some (.cells #[.int .i64 B, .int .i64 P, .int .i64 T, v1, .int .i64 ((many : Int) + 1), .bool false] 62 (0, 0)) ∧ Kd.R k36 36 w7 gr (fun _ => True) v1 (M.map ofE) := by rcases hp with ⟨_, hs, he, v1, hg, hl⟩ | ⟨hs, _⟩; (rw [ST.out] at hs; injection hs with hs; subst hs; exact ⟨he, v1, hg, hl⟩); (rw [ST.out] at hs; cases hs)
   rotate_left
   all_goals
    refine ⟨_, rfl, ?_⟩
    have m_G0 := Aside0.mk ((hb.block g2 GL.out).trans G2.out)
    have m_HB := Aside0.mk (HB.out.trans hb)
    clear G2 HB
    have G2 := m_G0
    have HB := m_HB
    clear m_G0 m_HB
    clear hb GR BL BD BF
   rotate_left
   focus
    have GR := Aside0.mk hg
    clear hg
    have hcr0 : w7.cell? ⟨gr, 5, none⟩ = some (.bool false) := ((blk_cell GR.out 5).trans rfl)
    have hfr0 := blk_frozen GR.out 5
   rotate_left
   iterate 2
    focus
     have GR := Aside0.mk hg
     clear hg
     have BL := Aside0.mk hl
     clear hl
    rotate_left
   iterate 2
    focus
     have GR := Aside0.mk hg
     clear hg
     have BL := Aside0.mk hl
     clear hl
     have hcr0 : w7.cell? ⟨gr, 5, none⟩ = some (.bool true) := ((blk_cell GR.out 5).trans rfl)
     have hfr0 := blk_frozen GR.out 5
    rotate_left
   rotate_left
   focus
    have GR := Aside0.mk hg
    clear hg
    have BL := Aside0.mk hl
    clear hl
    have hcr0 : w7.cell? ⟨gr, 5, none⟩ = some (.bool false) := ((blk_cell GR.out 5).trans rfl)
    have hfr0 := blk_frozen GR.out 5
   rotate_left
   all_goals
    refine hK.out _ _ ?_
    clear hK K
    refine Cz.nm (some 35) ?_
    refine Cz.rP 8 36 ?_
    refine Cz.rP 9 37 ?_
    refine Cz.rP 10 38 ?_
   focus
    refine Cz.rU 11 39 ?_
    refine Cz.rU 12 40 ?_
    refine Cz.rU 13 41 ?_
    refine Cz.rU 14 42 ?_
    refine Cz.rU 15 43 ?_
    refine Cz.rU 16 44 ?_
    refine Cz.rU 17 45 ?_
    refine Cz.rU 18 46 ?_
    refine Cz.rU 19 47 ?_
    refine Cz.rU 20 48 ?_
   rotate_left
   focus
    refine Cz.rP 11 39 ?_
    refine Cz.rL (N := some 40) 12 (fun K hK => ?_)
    refine value_ (w1 := ?_) (v := ?_) (by rfl) rfl ?_ ?_
    rotate_left 2
    ·go_simp
     constructor
     ·rfl
     ·rfl
    refine hK.out _ _ ?_
    clear hK K
    refine Cz.nm (some 40) ?_
    refine Cz.rP 13 41 ?_
    refine Cz.rU 14 42 ?_
    refine Cz.rU 15 43 ?_
    refine Cz.rU 16 44 ?_
    refine Cz.rU 17 45 ?_
    refine Cz.rU 18 46 ?_
    refine Cz.rU 19 47 ?_
    refine Cz.rP 20 48 ?_
   rotate_left
   iterate 2
    focus
     refine Cz.rU 11 39 ?_
     refine Cz.rU 12 40 ?_
     refine Cz.rU 13 41 ?_
     refine Cz.rU 14 42 ?_
     refine Cz.rU 15 43 ?_
     refine Cz.rU 16 44 ?_
     refine Cz.rU 17 45 ?_
     refine Cz.rU 18 46 ?_
     refine Cz.rU 19 47 ?_
     refine Cz.rU 20 48 ?_
    rotate_left
   iterate 2
    focus
     refine Cz.rP 11 39 ?_
     refine Cz.rL (N := some 40) 12 (fun K hK => ?_)
     refine value_ (w1 := ?_) (v := ?_) (by rfl) rfl ?_ ?_
     rotate_left 2
     ·go_simp
      constructor
      ·rfl
      ·rfl
     refine hK.out _ _ ?_
     clear hK K
     refine Cz.nm (some 40) ?_
     refine Cz.rP 13 41 ?_
     refine Cz.rP 14 42 ?_
     refine Cz.rP 15 43 ?_
     refine Cz.rP 16 44 ?_
     refine Cz.rP 17 45 ?_
     refine Cz.rP 18 46 ?_
     refine Cz.rP 19 47 ?_
     refine Cz.rP 20 48 ?_
    rotate_left
   focus
    refine Cz.rU 11 39 ?_
    refine Cz.rU 12 40 ?_
    refine Cz.rU 13 41 ?_
    refine Cz.rU 14 42 ?_
    refine Cz.rU 15 43 ?_
    refine Cz.rU 16 44 ?_
    refine Cz.rU 17 45 ?_
    refine Cz.rU 18 46 ?_
    refine Cz.rU 19 47 ?_
    refine Cz.rU 20 48 ?_
   rotate_left
   focus
    refine Cz.rP 11 39 ?_
    refine Cz.rL (N := some 40) 12 (fun K hK => ?_)
    refine value_ (w1 := ?_) (v := ?_) (by rfl) rfl ?_ ?_
    rotate_left 2
    ·go_simp
     constructor
     ·rfl
     ·rfl
    refine hK.out _ _ ?_
    clear hK K
    refine Cz.nm (some 40) ?_
    refine Cz.rP 13 41 ?_
    refine Cz.rU 14 42 ?_
    refine Cz.rU 15 43 ?_
    refine Cz.rU 16 44 ?_
    refine Cz.rU 17 45 ?_
    refine Cz.rU 18 46 ?_
    refine Cz.rU 19 47 ?_
    refine Cz.rP 20 48 ?_
   rotate_left
   all_goals
    refine Cz.rP 21 49 ?_
    refine Cz.rP 22 27 ?_
    refine done_ (by kernel_rfl) ?_
   ·clear hHeld
    obtain ⟨hcz0, hcz1, hcz2, hcz3, hfz0, hfz1, hfz2, hfz3⟩ := Cz.d4 G2
    go_wp2
    simp only [Exit.jump]
    refine bodyPost_ret (results_ct rfl _ _ g2 24 #[.int .i64 0, .int .i64 0, .int .i64 0, .slice none 0 0] (0, 0) _ rfl (by apply Cz.a4; exact G2.out) Try.underlying24 rfl (by kernel_rfl)) rfl ?_
    rw [HR.out]
    exact ⟨.slice none 0 0, rfl, Kd.R_nil _ _ _ _ _, below_set (below_set (below_set (below_set ((HW.out.trans (HB.out.mono GS.out))) G2s.out) G2s.out) G2s.out) G2s.out⟩
   ·clear hHeld
    go_wp2
    first | rw [hw8] | rw [show (pos : Int) + (q : Int) = ((pos + q : Nat) : Int) from (Int.natCast_add _ _).symm]
    go_step3
    refine ⟨rfl, K, Nat.lt_succ_self K, gr, x, y, z, [], many + 1, pos + q, .slice none 0 0, _, _, _, _, _, _, _, _, _, _, _, _, _, _, _, _, _, _, _, _, _, _, _, _, _, _, _, _, _, _, _, _, _, _, _, _, _, _, _, _, _, _, _, _, _, _, _, _, _, rfl, ⟨by rw [List.take_add, ← List.drop_drop, ← DB.out, ← DP.out]; exact H.out⟩, LM, ⟨by have := PP.out; have := Q0.out; have := LB.out; simp only [List.length_nil]; exact ⟨by omega, by omega, by omega, by omega, rfl⟩⟩, GL, ⟨Nat.le_trans GW.out HB.out.size⟩, G2, ⟨by rw [Int.natCast_succ]; exact GR.out⟩, ⟨Kd.R_nil _ _ _ _ _⟩, ⟨HW.out.trans (HB.out.mono GS.out)⟩⟩
   ·clear hHeld
    obtain ⟨hcz0, hcz1, hcz2, hcz3, hfz0, hfz1, hfz2, hfz3⟩ := Cz.d4 G2
    go_wp2
    simp only [Exit.jump]
    refine bodyPost_ret (results_ct rfl _ _ g2 24 #[.int .i64 0, .int .i64 0, .int .i64 0, .slice none 0 0] (0, 0) _ rfl (by apply Cz.a4; exact G2.out) Try.underlying24 rfl (by kernel_rfl)) rfl ?_
    rw [HR.out]
    exact ⟨.slice none 0 0, rfl, Kd.R_nil _ _ _ _ _, below_set (below_set (below_set (below_set ((HW.out.trans (HB.out.mono GS.out))) G2s.out) G2s.out) G2s.out) G2s.out⟩
   ·clear hHeld
    obtain ⟨hcz0, hcz1, hcz2, hcz3, hfz0, hfz1, hfz2, hfz3⟩ := Cz.d4 G2
    go_wp2
    simp only [Exit.jump]
    refine bodyPost_ret (results_ct rfl _ _ g2 24 #[.int .i64 0, .int .i64 0, .int .i64 0, .slice none 0 0] (0, 0) _ rfl (by apply Cz.a4; exact G2.out) Try.underlying24 rfl (by kernel_rfl)) rfl ?_
    rw [HR.out]
    exact ⟨.slice none 0 0, rfl, Kd.R_nil _ _ _ _ _, below_set (below_set (below_set (below_set ((HW.out.trans (HB.out.mono GS.out))) G2s.out) G2s.out) G2s.out) G2s.out⟩
   ·(try first | rw [hb4] | rw [hb1] | rw [hb0] | rw [hb2])
    clear hHeld
    obtain ⟨hcz0, hcz1, hcz2, hcz3, hfz0, hfz1, hfz2, hfz3⟩ := Cz.d4 G2
    go_wp2
    simp only [Exit.jump]
    refine bodyPost_ret (results_ct rfl _ _ g2 24 #[.int .i64 0, .int .i64 0, .int .i64 0, .slice none 0 0] (0, 0) _ rfl (by apply Cz.a4; exact G2.out) Try.underlying24 rfl (by kernel_rfl)) rfl ?_
    rw [HR.out]
    exact ⟨.slice none 0 0, rfl, Kd.R_nil _ _ _ _ _, below_set (below_set (below_set (below_set ((HW.out.trans (HB.out.mono GS.out))) G2s.out) G2s.out) G2s.out) G2s.out⟩
   ·(try first | rw [hb4] | rw [hb1] | rw [hb0] | rw [hb2])
    clear hHeld
    obtain ⟨hcz0, hcz1, hcz2, hcz3, hfz0, hfz1, hfz2, hfz3⟩ := Cz.d4 G2
    have hcr1 : w7.cell? ⟨gr, 0, none⟩ = some (.int .i64 B) := ((blk_cell GR.out 0).trans rfl)
    have hcr2 : w7.cell? ⟨gr, 1, none⟩ = some (.int .i64 P) := ((blk_cell GR.out 1).trans rfl)
    have hcr3 : w7.cell? ⟨gr, 2, none⟩ = some (.int .i64 T) := ((blk_cell GR.out 2).trans rfl)
    have hcr4 : w7.cell? ⟨gr, 3, none⟩ = some ((.slice Av L.length cv)) := ((blk_cell GR.out 3).trans rfl)
    have hfr1 := blk_frozen GR.out 0
    have hfr2 := blk_frozen GR.out 1
    have hfr3 := blk_frozen GR.out 2
    have hfr4 := blk_frozen GR.out 3
    have hne := (blk_ne GR.out G2.out (by decide))
    have hne2 := hne.symm
    go_wp2
    simp only [Exit.jump]
    refine bodyPost_ret (results_ct rfl _ _ g2 24 #[.int .i64 B, .int .i64 P, .int .i64 T, .slice Av L.length cv] (0, 0) _ rfl (by apply Cz.a4; exact G2.out) Try.underlying24 rfl (by kernel_rfl)) rfl ?_
    rw [HR.out]
    exact ⟨.slice Av L.length cv, rfl, Kd.R_lower (Kd.R_mono (Kd.R_far (p := ⟨g2, 3, none⟩) (Kd.R_far (p := ⟨g2, 2, none⟩) (Kd.R_far (p := ⟨g2, 1, none⟩) (Kd.R_far (p := ⟨g2, 0, none⟩) (Kd.R_types BL.out G2.out (by decide)) (fun _ hk => hk.2) _) (fun _ hk => hk.2) _) (fun _ hk => hk.2) _) (fun _ hk => hk.2) _) (fun _ _ => trivial)) GS.out, below_set (below_set (below_set (below_set ((HW.out.trans (HB.out.mono GS.out))) G2s.out) G2s.out) G2s.out) G2s.out⟩
   ·clear hHeld
    obtain ⟨hcz0, hcz1, hcz2, hcz3, hfz0, hfz1, hfz2, hfz3⟩ := Cz.d4 G2
    go_wp2
    simp only [Exit.jump]
    refine bodyPost_ret (results_ct rfl _ _ g2 24 #[.int .i64 0, .int .i64 0, .int .i64 0, .slice none 0 0] (0, 0) _ rfl (by apply Cz.a4; exact G2.out) Try.underlying24 rfl (by kernel_rfl)) rfl ?_
    rw [HR.out]
    exact ⟨.slice none 0 0, rfl, Kd.R_nil _ _ _ _ _, below_set (below_set (below_set (below_set ((HW.out.trans (HB.out.mono GS.out))) G2s.out) G2s.out) G2s.out) G2s.out⟩
   ·clear hHeld
    go_wp2
    first | rw [hw8] | rw [show (pos : Int) + (q : Int) = ((pos + q : Nat) : Int) from (Int.natCast_add _ _).symm]
    go_step3
    refine ⟨rfl, K, Nat.lt_succ_self K, gr, B, P, T, M, many + 1, pos + q, v1, _, _, _, _, _, _, _, _, _, _, _, _, _, _, _, _, _, _, _, _, _, _, _, _, _, _, _, _, _, _, _, _, _, _, _, _, _, _, _, _, _, _, _, _, _, _, _, _, _, rfl, ⟨by rw [List.take_add, ← List.drop_drop, ← DB.out, ← DP.out]; exact H.out⟩, LM, ⟨by have := PP.out; have := Q0.out; have := LB.out; have := SM.out; exact ⟨by omega, by omega, by omega, by omega, SB.out⟩⟩, GL, ⟨Nat.le_trans GW.out HB.out.size⟩, G2, ⟨by rw [Int.natCast_succ]; exact GR.out⟩, BL, ⟨HW.out.trans (HB.out.mono GS.out)⟩⟩
  ·have HRd := Aside0.mk (frame_Read.tells HbB.out BB.out hr)
   have HR : Aside0 (r = ((B, P, T, L), 161)) := ⟨by rw [← H.out, Pl.begL, hr]; rfl⟩
   clear H hr
   go_wp2_with fail
   refine (frame_Read.calls A1 _ b 0 0 0 [] 0 0 0 0 161 _ HR1.out HC1.out HRd.out).mono ?_
   rintro e' w3 ⟨vd, rfl, ho, hb⟩
   obtain ⟨Ad, cd, ed⟩ := Kd.R_slice ho
   subst ed
   have BD := Aside0.mk (Kd.R_lower ho GW.out)
   have m_G0 := Aside0.mk (blk_below G2.out hb)
   have m_GR := Aside0.mk (blk_below GR.out hb)
   have m_BL := Aside0.mk (Kd.R_below BL.out hb)
   have m_HB := Aside0.mk (below_then HB.out (Nat.le_trans GW.out HB.out.size) hb)
   clear G2 GR BL HB
   have G2 := m_G0
   have GR := m_GR
   have BL := m_BL
   have HB := m_HB
   clear m_G0 m_GR m_BL m_HB
   clear ho hb HR1 HC1 HRd
   go_upto_region 6 with (((with_reducible refine gate_dst (N := 6) rfl ?_); refine Cz.bx (N := 6) #[.int .i64 0, .int .i64 0, .int .i64 0, .slice none 0 0, .int .i64 0, .int .i64 0, .int .i64 0] 38 ?_; intro gf hg w4 hbox hb; have GFs := Aside0.mk (show gr ≤ gf from Nat.le_trans (Nat.le_trans GW.out HB.out.size) (Nat.le_of_eq hg.symm)); clear hg; have m_G0 := Aside0.mk (blk_below G2.out hb); have m_GR := Aside0.mk (blk_below GR.out hb); have m_BL := Aside0.mk (Kd.R_below BL.out hb); have m_BD := Aside0.mk (Kd.R_below BD.out hb); have m_HB := Aside0.mk (below_then HB.out (Nat.le_trans GW.out HB.out.size) hb); clear G2 GR BL BD HB; have G2 := m_G0; have GR := m_GR; have BL := m_BL; have BD := m_BD; have HB := m_HB; clear m_G0 m_GR m_BL m_BD m_HB; have BF := Aside0.mk hbox; clear hbox hb; obtain ⟨hcf0, hcf1, hcf2, hcf3, hcf4, hcf5, hcf6, hff0, hff1, hff2, hff3, hff4, hff5, hff6⟩ := Cz.d7 BF))
   have q_ : ∀ k_, k_ ≠ gf → (((((((w4.setCell ⟨gf, 0, none⟩ (.int .i64 0)).setCell ⟨gf, 1, none⟩ (.int .i64 0)).setCell ⟨gf, 2, none⟩ (.int .i64 0)).setCell ⟨gf, 3, none⟩ (.slice Ad 0 cd)).setCell ⟨gf, 4, none⟩ (.int .i64 0)).setCell ⟨gf, 5, none⟩ (.int .i64 0)).setCell ⟨gf, 6, none⟩ (.int .i64 0)).heap[k_]? = w4.heap[k_]? := fun k_ hk => (Below.heap_setCell _ ⟨gf, 6, none⟩ _ k_ hk).trans ((Below.heap_setCell _ ⟨gf, 5, none⟩ _ k_ hk).trans ((Below.heap_setCell _ ⟨gf, 4, none⟩ _ k_ hk).trans ((Below.heap_setCell _ ⟨gf, 3, none⟩ _ k_ hk).trans ((Below.heap_setCell _ ⟨gf, 2, none⟩ _ k_ hk).trans ((Below.heap_setCell _ ⟨gf, 1, none⟩ _ k_ hk).trans ((Below.heap_setCell _ ⟨gf, 0, none⟩ _ k_ hk).trans (rfl)))))))
   have m1 : Aside0 ((((((((w4.setCell ⟨gf, 0, none⟩ (.int .i64 0)).setCell ⟨gf, 1, none⟩ (.int .i64 0)).setCell ⟨gf, 2, none⟩ (.int .i64 0)).setCell ⟨gf, 3, none⟩ (.slice Ad 0 cd)).setCell ⟨gf, 4, none⟩ (.int .i64 0)).setCell ⟨gf, 5, none⟩ (.int .i64 0)).setCell ⟨gf, 6, none⟩ (.int .i64 0)).heap[gf]? = some (.cells #[.int .i64 0, .int .i64 0, .int .i64 0, .slice Ad 0 cd, .int .i64 0, .int .i64 0, .int .i64 0] 38 (0, 0))) := ⟨blk_put (blk_put (blk_put (blk_put (blk_put (blk_put (blk_put BF.out 0 _ rfl) 1 _ rfl) 2 _ rfl) 3 _ rfl) 4 _ rfl) 5 _ rfl) 6 _ rfl⟩
   have m2 : Aside0 ((((((((w4.setCell ⟨gf, 0, none⟩ (.int .i64 0)).setCell ⟨gf, 1, none⟩ (.int .i64 0)).setCell ⟨gf, 2, none⟩ (.int .i64 0)).setCell ⟨gf, 3, none⟩ (.slice Ad 0 cd)).setCell ⟨gf, 4, none⟩ (.int .i64 0)).setCell ⟨gf, 5, none⟩ (.int .i64 0)).setCell ⟨gf, 6, none⟩ (.int .i64 0)).heap[gr]? = _) := ⟨(q_ _ (blk_ne GR.out BF.out (by decide))).trans GR.out⟩
   have m3 : Aside0 ((((((((w4.setCell ⟨gf, 0, none⟩ (.int .i64 0)).setCell ⟨gf, 1, none⟩ (.int .i64 0)).setCell ⟨gf, 2, none⟩ (.int .i64 0)).setCell ⟨gf, 3, none⟩ (.slice Ad 0 cd)).setCell ⟨gf, 4, none⟩ (.int .i64 0)).setCell ⟨gf, 5, none⟩ (.int .i64 0)).setCell ⟨gf, 6, none⟩ (.int .i64 0)).heap[g2]? = _) := ⟨(q_ _ (blk_ne G2.out BF.out (by decide))).trans G2.out⟩
   have m4 := Aside0.mk (show Kd.R k36 36 (((((((w4.setCell ⟨gf, 0, none⟩ (.int .i64 0)).setCell ⟨gf, 1, none⟩ (.int .i64 0)).setCell ⟨gf, 2, none⟩ (.int .i64 0)).setCell ⟨gf, 3, none⟩ (.slice Ad 0 cd)).setCell ⟨gf, 4, none⟩ (.int .i64 0)).setCell ⟨gf, 5, none⟩ (.int .i64 0)).setCell ⟨gf, 6, none⟩ (.int .i64 0)) gr (fun _ => True) _ _ from Kd.R_mono (Kd.R_step (Kd.R_types BL.out BF.out (by decide)) (fun k_ hk _ => q_ k_ hk.2)) (fun _ _ => trivial))
   have m5 := Aside0.mk (show Kd.R (Kd.int .u8) 5 (((((((w4.setCell ⟨gf, 0, none⟩ (.int .i64 0)).setCell ⟨gf, 1, none⟩ (.int .i64 0)).setCell ⟨gf, 2, none⟩ (.int .i64 0)).setCell ⟨gf, 3, none⟩ (.slice Ad 0 cd)).setCell ⟨gf, 4, none⟩ (.int .i64 0)).setCell ⟨gf, 5, none⟩ (.int .i64 0)).setCell ⟨gf, 6, none⟩ (.int .i64 0)) gr (fun _ => True) _ _ from Kd.R_mono (Kd.R_step (Kd.R_types BD.out BF.out (by decide)) (fun k_ hk _ => q_ k_ hk.2)) (fun _ _ => trivial))
   have m6 : Aside0 (Below gr w0' (((((((w4.setCell ⟨gf, 0, none⟩ (.int .i64 0)).setCell ⟨gf, 1, none⟩ (.int .i64 0)).setCell ⟨gf, 2, none⟩ (.int .i64 0)).setCell ⟨gf, 3, none⟩ (.slice Ad 0 cd)).setCell ⟨gf, 4, none⟩ (.int .i64 0)).setCell ⟨gf, 5, none⟩ (.int .i64 0)).setCell ⟨gf, 6, none⟩ (.int .i64 0))) := ⟨((((((HB.out.setCell (p := ⟨gf, 0, none⟩) GFs.out _).setCell (p := ⟨gf, 1, none⟩) GFs.out _).setCell (p := ⟨gf, 2, none⟩) GFs.out _).setCell (p := ⟨gf, 3, none⟩) GFs.out _).setCell (p := ⟨gf, 4, none⟩) GFs.out _).setCell (p := ⟨gf, 5, none⟩) GFs.out _).setCell (p := ⟨gf, 6, none⟩) GFs.out _⟩
   generalize (((((((w4.setCell ⟨gf, 0, none⟩ (.int .i64 0)).setCell ⟨gf, 1, none⟩ (.int .i64 0)).setCell ⟨gf, 2, none⟩ (.int .i64 0)).setCell ⟨gf, 3, none⟩ (.slice Ad 0 cd)).setCell ⟨gf, 4, none⟩ (.int .i64 0)).setCell ⟨gf, 5, none⟩ (.int .i64 0)).setCell ⟨gf, 6, none⟩ (.int .i64 0)) = w5 at m1 m2 m3 m4 m5 m6 ⊢
   clear q_ G2 GR BF BL BD HB
   clear hcf0 hff0 hcf1 hff1 hcf2 hff2 hcf3 hff3 hcf4 hff4 hcf5 hff5 hcf6 hff6
   have BF := m1
   have GR := m2
   have G2 := m3
   have BL := m4
   have BD := m5
   have HB := m6
   clear m1 m2 m3 m4 m5 m6
   obtain ⟨hcz0, hcz1, hcz2, hcz3, hfz0, hfz1, hfz2, hfz3⟩ := Cz.d4 G2
   have hcr0 : w5.cell? ⟨gr, 0, none⟩ = some (.int .i64 B) := ((blk_cell GR.out 0).trans rfl)
   have hcr1 : w5.cell? ⟨gr, 1, none⟩ = some (.int .i64 P) := ((blk_cell GR.out 1).trans rfl)
   have hcr2 : w5.cell? ⟨gr, 2, none⟩ = some (.int .i64 T) := ((blk_cell GR.out 2).trans rfl)
   have hcr3 : w5.cell? ⟨gr, 3, none⟩ = some ((.slice Av L.length cv)) := ((blk_cell GR.out 3).trans rfl)
   have hfr0 := blk_frozen GR.out 0
   have hfr1 := blk_frozen GR.out 1
   have hfr2 := blk_frozen GR.out 2
   have hfr3 := blk_frozen GR.out 3
   have hne := (blk_ne GR.out G2.out (by decide))
   have hne2 := hne.symm
   go_wp2
   simp only [Exit.jump]
   refine bodyPost_ret (results_ct rfl _ _ g2 24 #[.int .i64 B, .int .i64 P, .int .i64 T, .slice Av L.length cv] (0, 0) _ rfl (by apply Cz.a4; exact G2.out) Try.underlying24 rfl (by kernel_rfl)) rfl ?_
   rw [HR.out]
   exact ⟨.slice Av L.length cv, rfl, Kd.R_lower (Kd.R_mono (Kd.R_far (p := ⟨g2, 3, none⟩) (Kd.R_far (p := ⟨g2, 2, none⟩) (Kd.R_far (p := ⟨g2, 1, none⟩) (Kd.R_far (p := ⟨g2, 0, none⟩) (Kd.R_types BL.out G2.out (by decide)) (fun _ hk => hk.2) _) (fun _ hk => hk.2) _) (fun _ hk => hk.2) _) (fun _ hk => hk.2) _) (fun _ _ => trivial)) GS.out, below_set (below_set (below_set (below_set ((HW.out.trans (HB.out.mono GS.out))) G2s.out) G2s.out) G2s.out) G2s.out⟩
  ·have HRd := Aside0.mk (frame_Read.tells HbB.out BB.out hr)
   have HR : Aside0 (r = (Pl.stZ, 170)) := ⟨by rw [← H.out, Pl.begL, hr]; rfl⟩
   clear H hr
   go_wp2_with fail
   refine (frame_Read.calls A1 _ b 0 0 0 [] 0 0 0 0 160 _ HR1.out HC1.out HRd.out).mono ?_
   rintro e' w3 ⟨vd, rfl, ho, hb⟩
   obtain ⟨Ad, cd, ed⟩ := Kd.R_slice ho
   subst ed
   have BD := Aside0.mk (Kd.R_lower ho GW.out)
   have m_G0 := Aside0.mk (blk_below G2.out hb)
   have m_GR := Aside0.mk (blk_below GR.out hb)
   have m_BL := Aside0.mk (Kd.R_below BL.out hb)
   have m_HB := Aside0.mk (below_then HB.out (Nat.le_trans GW.out HB.out.size) hb)
   clear G2 GR BL HB
   have G2 := m_G0
   have GR := m_GR
   have BL := m_BL
   have HB := m_HB
   clear m_G0 m_GR m_BL m_HB
   clear ho hb HR1 HC1 HRd
   go_upto_region 6 with (((with_reducible refine gate_dst (N := 6) rfl ?_); refine Cz.bx (N := 6) #[.int .i64 0, .int .i64 0, .int .i64 0, .slice none 0 0, .int .i64 0, .int .i64 0, .int .i64 0] 38 ?_; intro gf hg w4 hbox hb; have GFs := Aside0.mk (show gr ≤ gf from Nat.le_trans (Nat.le_trans GW.out HB.out.size) (Nat.le_of_eq hg.symm)); clear hg; have m_G0 := Aside0.mk (blk_below G2.out hb); have m_GR := Aside0.mk (blk_below GR.out hb); have m_BL := Aside0.mk (Kd.R_below BL.out hb); have m_BD := Aside0.mk (Kd.R_below BD.out hb); have m_HB := Aside0.mk (below_then HB.out (Nat.le_trans GW.out HB.out.size) hb); clear G2 GR BL BD HB; have G2 := m_G0; have GR := m_GR; have BL := m_BL; have BD := m_BD; have HB := m_HB; clear m_G0 m_GR m_BL m_BD m_HB; have BF := Aside0.mk hbox; clear hbox hb; obtain ⟨hcf0, hcf1, hcf2, hcf3, hcf4, hcf5, hcf6, hff0, hff1, hff2, hff3, hff4, hff5, hff6⟩ := Cz.d7 BF))
   have q_ : ∀ k_, k_ ≠ gf → (((((((w4.setCell ⟨gf, 0, none⟩ (.int .i64 0)).setCell ⟨gf, 1, none⟩ (.int .i64 0)).setCell ⟨gf, 2, none⟩ (.int .i64 0)).setCell ⟨gf, 3, none⟩ (.slice Ad 0 cd)).setCell ⟨gf, 4, none⟩ (.int .i64 0)).setCell ⟨gf, 5, none⟩ (.int .i64 0)).setCell ⟨gf, 6, none⟩ (.int .i64 0)).heap[k_]? = w4.heap[k_]? := fun k_ hk => (Below.heap_setCell _ ⟨gf, 6, none⟩ _ k_ hk).trans ((Below.heap_setCell _ ⟨gf, 5, none⟩ _ k_ hk).trans ((Below.heap_setCell _ ⟨gf, 4, none⟩ _ k_ hk).trans ((Below.heap_setCell _ ⟨gf, 3, none⟩ _ k_ hk).trans ((Below.heap_setCell _ ⟨gf, 2, none⟩ _ k_ hk).trans ((Below.heap_setCell _ ⟨gf, 1, none⟩ _ k_ hk).trans ((Below.heap_setCell _ ⟨gf, 0, none⟩ _ k_ hk).trans (rfl)))))))
   have m1 : Aside0 ((((((((w4.setCell ⟨gf, 0, none⟩ (.int .i64 0)).setCell ⟨gf, 1, none⟩ (.int .i64 0)).setCell ⟨gf, 2, none⟩ (.int .i64 0)).setCell ⟨gf, 3, none⟩ (.slice Ad 0 cd)).setCell ⟨gf, 4, none⟩ (.int .i64 0)).setCell ⟨gf, 5, none⟩ (.int .i64 0)).setCell ⟨gf, 6, none⟩ (.int .i64 0)).heap[gf]? = some (.cells #[.int .i64 0, .int .i64 0, .int .i64 0, .slice Ad 0 cd, .int .i64 0, .int .i64 0, .int .i64 0] 38 (0, 0))) := ⟨blk_put (blk_put (blk_put (blk_put (blk_put (blk_put (blk_put BF.out 0 _ rfl) 1 _ rfl) 2 _ rfl) 3 _ rfl) 4 _ rfl) 5 _ rfl) 6 _ rfl⟩
   have m2 : Aside0 ((((((((w4.setCell ⟨gf, 0, none⟩ (.int .i64 0)).setCell ⟨gf, 1, none⟩ (.int .i64 0)).setCell ⟨gf, 2, none⟩ (.int .i64 0)).setCell ⟨gf, 3, none⟩ (.slice Ad 0 cd)).setCell ⟨gf, 4, none⟩ (.int .i64 0)).setCell ⟨gf, 5, none⟩ (.int .i64 0)).setCell ⟨gf, 6, none⟩ (.int .i64 0)).heap[gr]? = _) := ⟨(q_ _ (blk_ne GR.out BF.out (by decide))).trans GR.out⟩
   have m3 : Aside0 ((((((((w4.setCell ⟨gf, 0, none⟩ (.int .i64 0)).setCell ⟨gf, 1, none⟩ (.int .i64 0)).setCell ⟨gf, 2, none⟩ (.int .i64 0)).setCell ⟨gf, 3, none⟩ (.slice Ad 0 cd)).setCell ⟨gf, 4, none⟩ (.int .i64 0)).setCell ⟨gf, 5, none⟩ (.int .i64 0)).setCell ⟨gf, 6, none⟩ (.int .i64 0)).heap[g2]? = _) := ⟨(q_ _ (blk_ne G2.out BF.out (by decide))).trans G2.out⟩
   have m4 := Aside0.mk (show Kd.R k36 36 (((((((w4.setCell ⟨gf, 0, none⟩ (.int .i64 0)).setCell ⟨gf, 1, none⟩ (.int .i64 0)).setCell ⟨gf, 2, none⟩ (.int .i64 0)).setCell ⟨gf, 3, none⟩ (.slice Ad 0 cd)).setCell ⟨gf, 4, none⟩ (.int .i64 0)).setCell ⟨gf, 5, none⟩ (.int .i64 0)).setCell ⟨gf, 6, none⟩ (.int .i64 0)) gr (fun _ => True) _ _ from Kd.R_mono (Kd.R_step (Kd.R_types BL.out BF.out (by decide)) (fun k_ hk _ => q_ k_ hk.2)) (fun _ _ => trivial))
   have m5 := Aside0.mk (show Kd.R (Kd.int .u8) 5 (((((((w4.setCell ⟨gf, 0, none⟩ (.int .i64 0)).setCell ⟨gf, 1, none⟩ (.int .i64 0)).setCell ⟨gf, 2, none⟩ (.int .i64 0)).setCell ⟨gf, 3, none⟩ (.slice Ad 0 cd)).setCell ⟨gf, 4, none⟩ (.int .i64 0)).setCell ⟨gf, 5, none⟩ (.int .i64 0)).setCell ⟨gf, 6, none⟩ (.int .i64 0)) gr (fun _ => True) _ _ from Kd.R_mono (Kd.R_step (Kd.R_types BD.out BF.out (by decide)) (fun k_ hk _ => q_ k_ hk.2)) (fun _ _ => trivial))
   have m6 : Aside0 (Below gr w0' (((((((w4.setCell ⟨gf, 0, none⟩ (.int .i64 0)).setCell ⟨gf, 1, none⟩ (.int .i64 0)).setCell ⟨gf, 2, none⟩ (.int .i64 0)).setCell ⟨gf, 3, none⟩ (.slice Ad 0 cd)).setCell ⟨gf, 4, none⟩ (.int .i64 0)).setCell ⟨gf, 5, none⟩ (.int .i64 0)).setCell ⟨gf, 6, none⟩ (.int .i64 0))) := ⟨((((((HB.out.setCell (p := ⟨gf, 0, none⟩) GFs.out _).setCell (p := ⟨gf, 1, none⟩) GFs.out _).setCell (p := ⟨gf, 2, none⟩) GFs.out _).setCell (p := ⟨gf, 3, none⟩) GFs.out _).setCell (p := ⟨gf, 4, none⟩) GFs.out _).setCell (p := ⟨gf, 5, none⟩) GFs.out _).setCell (p := ⟨gf, 6, none⟩) GFs.out _⟩
   generalize (((((((w4.setCell ⟨gf, 0, none⟩ (.int .i64 0)).setCell ⟨gf, 1, none⟩ (.int .i64 0)).setCell ⟨gf, 2, none⟩ (.int .i64 0)).setCell ⟨gf, 3, none⟩ (.slice Ad 0 cd)).setCell ⟨gf, 4, none⟩ (.int .i64 0)).setCell ⟨gf, 5, none⟩ (.int .i64 0)).setCell ⟨gf, 6, none⟩ (.int .i64 0)) = w5 at m1 m2 m3 m4 m5 m6 ⊢
   clear q_ G2 GR BF BL BD HB
   clear hcf0 hff0 hcf1 hff1 hcf2 hff2 hcf3 hff3 hcf4 hff4 hcf5 hff5 hcf6 hff6
   have BF := m1
   have GR := m2
   have G2 := m3
   have BL := m4
   have BD := m5
   have HB := m6
   clear m1 m2 m3 m4 m5 m6
   go_wp2_with fail
   have m_G0 := Aside0.mk (blk_drew G2.out)
   have m_GR := Aside0.mk (blk_drew GR.out)
   have m_BL := Aside0.mk (Kd.R_drew BL.out)
   have m_BD := Aside0.mk (Kd.R_drew BD.out)
   have m_BF := Aside0.mk (blk_drew BF.out)
   have m_HB := Aside0.mk (below_drew HB.out)
   clear G2 GR BL BD BF HB
   have G2 := m_G0
   have GR := m_GR
   have BL := m_BL
   have BD := m_BD
   have BF := m_BF
   have HB := m_HB
   clear m_G0 m_GR m_BL m_BD m_BF m_HB
   refine start_ (n := 23) (S := fun w' => True) (ds := []) #[false, false, false, false, false, false, false, false, false, false, false, false, false, false, false, false, false, false, false, false, false, false, false] (by kernel_rfl) rfl rfl trivial (fun hHeld => ?_)
   generalize w5.drew = w6 at G2 GR BL BD BF HB hHeld ⊢
   refine Cz.rP 0 28 ?_
   refine Cz.rP 1 29 ?_
   refine Cz.rP 2 30 ?_
   refine Cz.rU 3 31 ?_
   refine Cz.rU 4 32 ?_
   refine Cz.rU 5 33 ?_
   refine Cz.rU 6 34 ?_
   refine Cz.rU 7 35 ?_
   refine Cz.rU 8 36 ?_
   refine Cz.rP 9 37 ?_
   refine Cz.rP 10 38 ?_
   refine Cz.rU 11 39 ?_
   refine Cz.rU 12 40 ?_
   refine Cz.rU 13 41 ?_
   refine Cz.rU 14 42 ?_
   refine Cz.rU 15 43 ?_
   refine Cz.rU 16 44 ?_
   refine Cz.rU 17 45 ?_
   refine Cz.rU 18 46 ?_
   refine Cz.rU 19 47 ?_
   refine Cz.rU 20 48 ?_
   refine Cz.rP 21 49 ?_
   refine Cz.rP 22 27 ?_
   refine done_ (by kernel_rfl) ?_
   obtain ⟨hcz0, hcz1, hcz2, hcz3, hfz0, hfz1, hfz2, hfz3⟩ := Cz.d4 G2
   go_wp2
   simp only [Exit.jump]
   refine bodyPost_ret (results_ct rfl _ _ g2 24 #[.int .i64 0, .int .i64 0, .int .i64 0, .slice none 0 0] (0, 0) _ rfl (by apply Cz.a4; exact G2.out) Try.underlying24 rfl (by kernel_rfl)) rfl ?_
   rw [HR.out]
   exact ⟨.slice none 0 0, rfl, Kd.R_nil _ _ _ _ _, below_set (below_set (below_set (below_set ((HW.out.trans (HB.out.mono GS.out))) G2s.out) G2s.out) G2s.out) G2s.out⟩
def stream_Begin.f (l0 : List Int) : Option (Int × Int × Int × List S36 × Int) := if Pl.byteB l0 = true ∧ l0.length < 1000000000 then some ((Pl.beginS l0).1.1, (Pl.beginS l0).1.2.1, (Pl.beginS l0).1.2.2.1, (Pl.beginS l0).1.2.2.2.map ofE, (Pl.beginS l0).2) else none
theorem stream_Begin.tells {l0 : List Int} (hb : Pl.byteB l0 = true) (hl : l0.length < 1000000000) : stream_Begin.f l0 = some ((Pl.beginS l0).1.1, (Pl.beginS l0).1.2.1, (Pl.beginS l0).1.2.2.1, (Pl.beginS l0).1.2.2.2.map ofE, (Pl.beginS l0).2) := if_pos ⟨hb, hl⟩
theorem stream_Begin.calls (A0 : Option Addr) (c0 : Nat) (l0 : List Int) (r1 r2 r3 : Int) (r4 : List S36) (r5 : Int) (w : World) (hr0 : Kd.C (Kd.int .u8) w A0 l0.length l0) (hc0 : l0.length ≤ c0) (h : stream_Begin.f l0 = some (r1, r2, r3, r4, r5)) :
  Calls Try.prog 17 #[.slice A0 l0.length c0] w fun e w' => ∃ v3_ : Value, e = .returned (.tuple #[.agg #[.int .i64 r1, .int .i64 r2, .int .i64 r3, v3_], .int .i64 r5]) ∧ Kd.R k36 36 w' w.heap.size (fun _ => True) v3_ r4 ∧ Below w.heap.size w w' := by
 unfold stream_Begin.f at h
 split at h
 case isFalse => cases h
 rename_i hh
 simp only [Option.some.injEq, Prod.mk.injEq] at h
 obtain ⟨rfl, rfl, rfl, rfl, rfl⟩ := h
 exact stream_Begin.callsR A0 c0 l0 _ w hr0 hc0 hh.1 rfl
end Go.Proofs.Ytohkmmbmfhficaa.PT
