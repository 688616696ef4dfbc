/- Functions of the program as Lean functions, and that the Go code comes to just their answers: no condition but that the function says so. (Written by a program of this workplace over the kit's print, with contracts by hand.) -/
import Derived.Test.YtiaoehjldbnpkaaPAx0
import Derived.Test.YtiaoehjldbnpkaaPAx2
import Derived.Test.YtiaoehjldbnpkaaPAx4
import Derived.Test.YtiaoehjldbnpkaaPAx15
import Derived.Test.YtiaoehjldbnpkaaPAx16
namespace Go.Proofs.Ytiaoehjldbnpkaa.PA
open Go.RowKit Go.Proofs.YtiaoehjldbnpkaaW.PrintWords Go.Proofs.YtiaoehjldbnpkaaW.PrintLast Go.Proofs.YtiaoehjldbnpkaaW.PrintMore
attribute [local go_sem] max2_int min2_int max_two min_two max_three min_three max_four min_four   -- for this text's walks alone
set_option linter.unusedVariables false
set_option linter.unusedSimpArgs false

/-! ### waggonerlaw02_CrcNone: function 8 -/
def waggonerlaw02_CrcNone.f (l0 : List Int) (a1 : Int) (a2 : Int) : Option Bool := if Pl.byteB l0 = true ∧ 0 ≤ a1 ∧ a1 < 65536 ∧ 0 ≤ a2 ∧ a2 < 256 then some true else none
set_option maxHeartbeats 8000000 in
set_option maxRecDepth 2000000 in
theorem waggonerlaw02_CrcNone.calls (A0 : Option Addr) (c0 : Nat) (l0 : List Int) (a1 : Int) (a2 : Int) (r : Bool) (w : World) (hr0 : Kd.C (Kd.int .u8) w A0 l0.length l0) (hc0 : l0.length ≤ c0) (h : waggonerlaw02_CrcNone.f l0 a1 a2 = some r) :
    Calls Try.prog 8 #[.slice A0 l0.length c0, .int .u16 a1, .int .u8 a2] w fun e w' => e = .returned (.bool r) ∧ Below w.heap.size w w' := by
  unfold waggonerlaw02_CrcNone.f at h
  split at h
  case isFalse => cases h
  rename_i hh
  obtain ⟨hb0, h1, h2, h3, h4⟩ := hh
  obtain rfl := Option.some.inj h
  clear h
  have HR0 := Aside0.mk hr0
  have HC0 := Aside0.mk hc0
  have HB0 := Aside0.mk hb0
  clear hr0 hc0 hb0
  by_cases c0' : l0.length = 0
  · have d0 : ((l0.length : Int) == 0) = true := by simp only [c0']; rfl
    have HX := Aside0.mk c0'
    clear c0'
    have HB := Aside0.mk (Below.refl w.heap.size w)
    go_enter Try.func8, Try.ntmps8
    go_wp2_with fail
    refine (waggonerlaw02_awake.calls  true _ rfl).mono ?_
    rintro e w1 ⟨rfl, hb⟩
    have HB' := Aside0.mk (below_step HB.out hb)
    have HR0' := Aside0.mk (Kd.C_below HR0.out hb)
    clear HR0; have HR0 := HR0'; clear HR0'
    clear HB; have HB := HB'; clear HB'
    clear hb
    go_wp2
    go_ret
    exact ⟨rfl, HB.out⟩
  have d0 : ((l0.length : Int) == 0) = false := by simp; intro h; exact c0' (by rw [h]; rfl)
  by_cases c1' : (300 : Int) < (l0.length : Int)
  · have d1 : decide ((300 : Int) < (l0.length : Int)) = true := decide_eq_true c1'
    have HB := Aside0.mk (Below.refl w.heap.size w)
    go_enter Try.func8, Try.ntmps8
    go_wp2_with fail
    refine (waggonerlaw02_awake.calls  true _ rfl).mono ?_
    rintro e w1 ⟨rfl, hb⟩
    have HB' := Aside0.mk (below_step HB.out hb)
    have HR0' := Aside0.mk (Kd.C_below HR0.out hb)
    clear HR0; have HR0 := HR0'; clear HR0'
    clear HB; have HB := HB'; clear HB'
    clear hb
    go_wp2
    go_ret
    exact ⟨rfl, HB.out⟩
  have d1 : decide ((300 : Int) < (l0.length : Int)) = false := decide_eq_false c1'
  have n0 : l0.length ≤ 300 := by omega
  have n1 : 1 ≤ l0.length := by omega
  obtain ⟨a, rfl⟩ := Int.eq_ofNat_of_zero_le h1
  obtain ⟨b, rfl⟩ := Int.eq_ofNat_of_zero_le h3
  have hb : b < 256 := by omega
  clear c0' c1' h1 h3 h4
  have B0 := Aside0.mk (Pl.byteB_bytes HB0.out)
  obtain ⟨s, hs⟩ : ∃ s, s = Pl.sum (Pl.nats l0) := ⟨_, rfl⟩
  have s32 : s < 4294967296 := by rw [hs]; exact Pl.sum_lt B0.out
  have HS : Aside0 (crc_Sum.f l0 = some (s : Int)) := ⟨by rw [hs]; exact crc_Sum.tells l0 HB0.out⟩
  obtain ⟨k, hk⟩ : ∃ k, k = a % l0.length := ⟨_, rfl⟩
  have hkl : k < l0.length := by rw [hk]; exact Nat.mod_lt _ n1
  have qk : (a : Int) % (l0.length : Int) = (k : Int) := by rw [hk]; push_cast; rfl
  obtain ⟨x, hx⟩ : ∃ x, x = (Pl.nats l0)[k]'(by rw [Pl.nats_length]; exact hkl) := ⟨_, rfl⟩
  have hx8 : x < 256 := by rw [hx]; exact B0.out _ (List.getElem_mem _)
  have hxr : Aside0 (rd l0 (k : Int) = (x : Int)) := ⟨by
    obtain ⟨n, hn, h5, h6⟩ := Pl.byteB_at HB0.out k hkl
    unfold rd
    rw [Int.toNat_natCast, h5, hx]
    rw [List.take_succ_eq_append_getElem (by rw [Pl.nats_length]; exact hkl)] at h6
    have := List.append_cancel_left h6
    injection this with this
    rw [this]⟩
  obtain ⟨y, hy⟩ : ∃ y, y = x ^^^ b := ⟨_, rfl⟩
  have hy8 : y < 256 := by rw [hy]; exact Nat.xor_lt_two_pow (n := 8) hx8 hb
  have qy : bits .xor .u8 (x : Int) (b : Int) = (y : Int) := by rw [hy]; exact u8_xor_nat x b hx8 hb
  have hfl : Pl.sum (Pl.nats (l0.set k (y : Int))) = s ↔ b = 0 := by
    rw [hs]
    refine Pl.sum_flip _ _ B0.out (by rw [Pl.nats_set]; exact Pl.bytes_set B0.out _ _ hy8) (by rw [Pl.nats_set, List.length_set]) (8 * k) b (by omega) (by rw [Pl.nats_length]; omega) ?_
    rw [Pl.nats_set, hy, hx]
    exact Pl.leN_set _ k b B0.out hb _
  obtain ⟨m, hm⟩ : ∃ m, m = l0.set k (y : Int) := ⟨_, rfl⟩
  rw [← hm] at hfl
  have hmb : Aside0 (Pl.byteB m = true) := ⟨by rw [hm]; exact Pl.byteB_set HB0.out _ _ hy8⟩
  have hml : Aside0 (m.length = l0.length) := ⟨by rw [hm, List.length_set]⟩
  have HM := Aside0.mk hm
  obtain ⟨z, hz⟩ : ∃ z, z = Pl.sum (Pl.nats m) := ⟨_, rfl⟩
  have HZ : Aside0 (crc_Sum.f m = some (z : Int)) := ⟨by rw [hz]; exact crc_Sum.tells m hmb.out⟩
  have hzb : (((z : Int) == (s : Int)) == ((b : Int) == 0)) = true := by
    rw [← hz] at hfl
    rw [beq_iff_eq, Bool.eq_iff_iff, beq_iff_eq, beq_iff_eq]
    omega
  have E0 : Aside0 (crc_Sum.f [] = some 0) := ⟨by kernel_rfl⟩
  have E1 : Aside0 (crc_More.f (s : Int) [] = some (s : Int)) := ⟨by rw [crc_More.tells s [] s32 rfl, show Pl.nats [] = [] from rfl, Pl.more_nil]⟩
  have E2 : Aside0 (crc_Join.f (s : Int) 0 0 = some (s : Int)) := ⟨by
    have := crc_Join.tells s 0 0 s32 (by decide)
    rw [show Pl.join s 0 0 = s from by unfold Pl.join; rw [show (8 * (min (max (0 : Int) 0) 1073741824).toNat) = 0 from rfl, Pl.stpN, Nat.xor_zero]] at this
    exact this⟩
  have E3 : Aside0 (crc_Join.f 0 (s : Int) (l0.length : Int) = some (s : Int)) := ⟨by
    have := crc_Join.tells 0 s (l0.length : Int) (by decide) s32
    rw [show Pl.join 0 s (l0.length : Int) = s from by unfold Pl.join; rw [Pl.stpN_zero, Nat.zero_xor]] at this
    exact this⟩
  have E4 : Aside0 (crc_Join.f (s : Int) 0 (-5) = some (s : Int)) := ⟨by
    have := crc_Join.tells s 0 (-5) s32 (by decide)
    rw [show Pl.join s 0 (-5) = s from by unfold Pl.join; rw [show (8 * (min (max (-5 : Int) 0) 1073741824).toNat) = 0 from rfl, Pl.stpN, Nat.xor_zero]] at this
    exact this⟩
  clear hs hk hx hy hz hm hfl
  have HB := Aside0.mk (Below.refl w.heap.size w)
  go_enter Try.func8, Try.ntmps8
  go_wp2_with fail
  refine (waggonerlaw02_awake.calls  true _ rfl).mono ?_
  rintro e w1 ⟨rfl, hb⟩
  have HB' := Aside0.mk (below_step HB.out hb)
  have HR0' := Aside0.mk (Kd.C_below HR0.out hb)
  clear HR0; have HR0 := HR0'; clear HR0'
  clear HB; have HB := HB'; clear HB'
  clear hb
  go_wp2_with fail
  refine (crc_Sum.calls _ _ l0 _ _ HR0.out HC0.out HS.out).mono ?_
  rintro e w2 ⟨rfl, hb⟩
  have HB' := Aside0.mk (below_step HB.out hb)
  have HR0' := Aside0.mk (Kd.C_below HR0.out hb)
  clear HR0; have HR0 := HR0'; clear HR0'
  clear HB; have HB := HB'; clear HB'
  clear hb
  go_upto_region 6 with (first | ((with_reducible refine gate_dst (N := 23) rfl ?_); refine Kd.R_lit (Kd.int .u8) _ 5 ?hg (N := 23) ?hd (xs := ([] : List Int)) (inner := []) (ok := fun _ => True) (okp := fun _ => True) ?hr ?hp (fun _ hk => hk) trivial (Below.refl _ _) (Nat.le_refl _) (by simp) ?_; (case hd => rfl); (case hg => rfl); (case hr => first | (go_simp; done) | (go_simp; rfl)); (case hp => exact (Reps.none _ _)); intro v110 w13 ho14 hb hg_ hnew_; clear hg_ hnew_; have HL := Aside0.mk ho14; have HLB := Aside0.mk hb; clear hb ho14) | ((with_reducible refine gate_builtin (b := .append) (xs := #[.tmp 23, .tmp 24]) rfl ?_); at_builtin; go_must (refine Kd.R_append_rows (Kd.int .u8) (w0 := w2) w2.heap.size rfl (.tmp 23) (.tmp 24) 23 5 (.int .u8 0) 1 rfl Try.underlying23 info5 rfl (by decide) (by omega) v110 [] l0 _ _ _ (fun _ => True) (fun _ => False) rfl rfl ?aO ?aR (fun _ _ h => h) (fun _ h => h.elim) ?aF ?aB ?aS ?aL ?_); (case aR => exact (Kd.C_below HR0.out HLB.out)); (case aB => exact HLB.out); (case aF => exact (fun _ _ => trivial)); (case aO => exact HL.out); (case aS => exact HLB.out.size); (case aL => have := n0; simp; omega); intro v113 w15c ho hb hg hat; rw [List.nil_append] at ho; have HOc := Aside0.mk (Kd.R_lower ho (below_size HB.out)); have HB' := Aside0.mk (below_step HB.out hb); clear HB; have HB := HB'; clear HB'; have HR0' := Aside0.mk (Kd.C_below HR0.out hb); clear HR0; have HR0 := HR0'; clear HR0'; clear HL HLB ho hb hg hat))
  obtain ⟨g, cap, rfl, hgb, hgl, -⟩ := Kd.R_form HOc.out (by omega)
  obtain ⟨hcl, hfr⟩ := Kd.R_celln 0 HOc.out (k : Int) (by omega) (by omega)
  have hcl' : w15c.cell? ⟨g, k, none⟩ = some (.int .u8 (x : Int)) := by have e := hcl; rw [show rdOf (0 : Int) l0 (k : Int) = rd l0 (k : Int) from rfl, hxr.out] at e; exact e
  have hfr' : w15c.frozen? ⟨g, k, none⟩ = false := hfr
  have HP := Kd.R_putn HOc.out (k : Int) (y : Int)
  rw [Int.toNat_natCast, ← HM.out] at HP
  have HP' := Aside0.mk HP
  have HGB := Aside0.mk hgb
  clear hcl hfr HP HOc hgb hgl
  go_wp2_with fail
  have HB' := Aside0.mk (below_set (j := k) (v := .int .u8 (y : Int)) HB.out HGB.out); clear HB; have HB := HB'; clear HB'
  have HRc := Aside0.mk (show Kd.C (Kd.int .u8) (w15c.setCell ⟨g, k, none⟩ (.int .u8 (y : Int))) (some ⟨g, 0, none⟩) m.length m from (Kd.R_reads' HP'.out).2.2)
  have HCc : Aside0 (m.length ≤ cap) := ⟨by rw [hml.out]; exact (Kd.R_reads' HP'.out).2.1⟩
  clear HP' hcl' hfr' HR0 qk qy
  refine (crc_Sum.calls none 0 [] _ _ (Kd.C_nil _ _) (Nat.le_refl _) E0.out).mono ?_
  rintro e w3 ⟨rfl, hb⟩
  have HB' := Aside0.mk (below_step HB.out hb)
  have HRc' := Aside0.mk (Kd.C_below HRc.out hb)
  clear HRc; have HRc := HRc'; clear HRc'
  clear HB; have HB := HB'; clear HB'
  clear hb
  go_wp2_with fail
  refine (crc_More.calls _ none 0 [] _ _ (Kd.C_nil _ _) (Nat.le_refl _) E1.out).mono ?_
  rintro e w4 ⟨rfl, hb⟩
  have HB' := Aside0.mk (below_step HB.out hb)
  have HRc' := Aside0.mk (Kd.C_below HRc.out hb)
  clear HRc; have HRc := HRc'; clear HRc'
  clear HB; have HB := HB'; clear HB'
  clear hb
  go_wp2_with fail
  refine (crc_Join.calls _ _ _ _ _ E2.out).mono ?_
  rintro e w5 ⟨rfl, hb⟩
  have HB' := Aside0.mk (below_step HB.out hb)
  have HRc' := Aside0.mk (Kd.C_below HRc.out hb)
  clear HRc; have HRc := HRc'; clear HRc'
  clear HB; have HB := HB'; clear HB'
  clear hb
  go_wp2_with fail
  refine (crc_Join.calls _ _ _ _ _ E3.out).mono ?_
  rintro e w6 ⟨rfl, hb⟩
  have HB' := Aside0.mk (below_step HB.out hb)
  have HRc' := Aside0.mk (Kd.C_below HRc.out hb)
  clear HRc; have HRc := HRc'; clear HRc'
  clear HB; have HB := HB'; clear HB'
  clear hb
  go_wp2_with fail
  refine (crc_Sum.calls none 0 [] _ _ (Kd.C_nil _ _) (Nat.le_refl _) E0.out).mono ?_
  rintro e w7 ⟨rfl, hb⟩
  have HB' := Aside0.mk (below_step HB.out hb)
  have HRc' := Aside0.mk (Kd.C_below HRc.out hb)
  clear HRc; have HRc := HRc'; clear HRc'
  clear HB; have HB := HB'; clear HB'
  clear hb
  go_wp2_with fail
  refine (crc_Join.calls _ _ _ _ _ E4.out).mono ?_
  rintro e w8 ⟨rfl, hb⟩
  have HB' := Aside0.mk (below_step HB.out hb)
  have HRc' := Aside0.mk (Kd.C_below HRc.out hb)
  clear HRc; have HRc := HRc'; clear HRc'
  clear HB; have HB := HB'; clear HB'
  clear hb
  go_wp2_with fail
  rw [← hml.out]
  refine (crc_Sum.calls _ _ m _ _ HRc.out HCc.out HZ.out).mono ?_
  rintro e w9 ⟨rfl, hb⟩
  have HB' := Aside0.mk (below_step HB.out hb)
  have HRc' := Aside0.mk (Kd.C_below HRc.out hb)
  clear HRc; have HRc := HRc'; clear HRc'
  clear HB; have HB := HB'; clear HB'
  clear hb
  go_wp2
  go_ret
  exact ⟨rfl, HB.out⟩

def waggonerlaw02_CrcNone.Pure : Prop := ∀ (l0 : List Int) (a1 : Int) (a2 : Int), l0.length ≤ maxLen → l0.length * 1 ≤ 140737488351232 → (∀ x ∈ l0, (Lit.int .u8 x).wf = true) → (Lit.int .u16 a1).wf = true → (Lit.int .u8 a2).wf = true → waggonerlaw02_CrcNone.f l0 a1 a2 = some true
theorem waggonerlaw02_CrcNone.walk (P : waggonerlaw02_CrcNone.Pure) (a0 : Option Addr) (len0 cap0 : Nat) (z0 : List Int) (a1 : Int) (a2 : Int) (w : World) (w0 : (a0 = none ∧ len0 = 0 ∧ cap0 = 0 ∧ z0 = []) ∨ ∃ x, a0 = some x ∧ len0 ≤ cap0 ∧ cap0 ≤ maxLen ∧ z0.length = cap0 ∧ (∀ i, i < z0.length → w.cell? (x.add i) = some (.int .u8 (z0.getD i 0))) ∧ ∀ n ∈ z0, (Lit.int .u8 n).wf = true) (y0 : len0 * 1 ≤ 140737488351232) (w1 : (Lit.int .u16 a1).wf = true) (w2 : (Lit.int .u8 a2).wf = true) :
    Calls Try.prog 8 #[.slice a0 len0 cap0, .int .u16 a1, .int .u8 a2] w fun e w' => e = .returned (.bool true) ∧ Below w.heap.size w w' := by
  obtain ⟨l0, rfl, hr0, hm0, hw0, hc0⟩ := ReadsInt.ofRowC w0
  have h := P l0 a1 a2 hm0 y0 hw0 w1 w2
  refine (waggonerlaw02_CrcNone.calls _ _ l0 a1 a2 true w (Kd.C_of_reads (d := (0 : Int)) (h1 := fun _ => rfl) hr0) hc0 h).mono ?_
  rintro e w' ⟨rfl, hd⟩
  exact ⟨rfl, hd⟩

end Go.Proofs.Ytiaoehjldbnpkaa.PA
