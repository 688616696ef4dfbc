/- Functions of the program as Lean functions, and that the Go code comes to just their answers: no condition but that the function says so. (Written by a program of this workplace over the kit's print, with contracts by hand.) -/
import Derived.Test.YtiaoehjldbnpkaaPAx0
import Derived.Test.YtiaoehjldbnpkaaPAx10
import Derived.Test.YtiaoehjldbnpkaaPAx13
import Derived.Test.YtiaoehjldbnpkaaPAx16
namespace Go.Proofs.Ytiaoehjldbnpkaa.PA
open Go.RowKit Go.Proofs.YtiaoehjldbnpkaaW.PrintWords Go.Proofs.YtiaoehjldbnpkaaW.PrintLast Go.Proofs.YtiaoehjldbnpkaaW.PrintMore
attribute [local go_sem] max2_int min2_int max_two min_two max_three min_three max_four min_four   -- for this text's walks alone
set_option linter.unusedVariables false
set_option linter.unusedSimpArgs false

/-! ### waggonerlaw02_CrcBurst: function 5 -/
def waggonerlaw02_CrcBurst.f (l0 : List Int) (a1 : Int) (a2 : Int) : Option Bool := if Pl.byteB l0 = true ∧ 0 ≤ a1 ∧ a1 < 65536 ∧ 0 ≤ a2 ∧ a2 < 4294967296 then some true else none
/-- What the text is behind k of thirty-two bits. -/
structure BurstInv (q : List Int) (fr b k : Nat) (u : List Int) : Prop where
  len : u.length = q.length
  byte : Pl.byteB u = true
  num : Pl.leN (Pl.nats u) = Pl.leN (Pl.nats q) ^^^ 2 ^ fr * (b % 2 ^ k)
set_option maxHeartbeats 8000000 in
set_option maxRecDepth 2000000 in
theorem waggonerlaw02_CrcBurst.calls (A0 : Option Addr) (c0 : Nat) (l0 : List Int) (a1 : Int) (a2 : Int) (r : Bool) (w : World) (hr0 : Kd.C (Kd.int .u8) w A0 l0.length l0) (hc0 : l0.length ≤ c0) (h : waggonerlaw02_CrcBurst.f l0 a1 a2 = some r) :
    Calls Try.prog 5 #[.slice A0 l0.length c0, .int .u16 a1, .int .u32 a2] w fun e w' => e = .returned (.bool r) ∧ Below w.heap.size w w' := by
  unfold waggonerlaw02_CrcBurst.f at h
  split at h
  case isFalse => cases h
  rename_i hh
  obtain ⟨hb0, h1, h2, h3, h4⟩ := hh
  obtain rfl := Option.some.inj h
  clear h
  have HR0 := Aside0.mk hr0
  have HC0 := Aside0.mk hc0
  have HB0 := Aside0.mk hb0
  clear hr0 hc0 hb0
  by_cases c1' : (300 : Int) < (l0.length : Int)
  · have d1 : decide ((300 : Int) < (l0.length : Int)) = true := decide_eq_true c1'
    have HB := Aside0.mk (Below.refl w.heap.size w)
    go_enter Try.func5, Try.ntmps5
    go_wp2_with fail
    refine (waggonerlaw02_awake.calls  true _ rfl).mono ?_
    rintro e w1 ⟨rfl, hb⟩
    have HB' := Aside0.mk (below_step HB.out hb)
    have HR0' := Aside0.mk (Kd.C_below HR0.out hb)
    clear HR0; have HR0 := HR0'; clear HR0'
    clear HB; have HB := HB'; clear HB'
    clear hb
    go_wp2
    go_ret
    exact ⟨rfl, HB.out⟩
  have d1 : decide ((300 : Int) < (l0.length : Int)) = false := decide_eq_false c1'
  have n0 : l0.length ≤ 300 := by omega
  obtain ⟨a, rfl⟩ := Int.eq_ofNat_of_zero_le h1
  obtain ⟨b, rfl⟩ := Int.eq_ofNat_of_zero_le h3
  have hb : b < 4294967296 := by omega
  clear c1' h1 h3 h4
  obtain ⟨q, hq⟩ : ∃ q, q = Pl.seal4 l0 := ⟨_, rfl⟩
  have HQ := Aside0.mk hq
  have HS : Aside0 (crc_Seal.f l0 = some q) := ⟨by unfold crc_Seal.f; rw [if_pos ⟨HB0.out, by omega⟩, hq]⟩
  have hqn : q.length = l0.length + 4 := by rw [hq, Pl.seal4_length]
  have HQN := Aside0.mk hqn
  have hql : ((q.length : Int) != (l0.length : Int) + 4) = false := by rw [hqn]; simp
  have hqm : 4 ≤ q.length := by omega
  have hqx : q.length ≤ 304 := by omega
  have HQB : Aside0 (Pl.byteB q = true) := ⟨by rw [hq]; exact Pl.seal4_byte HB0.out⟩
  have HOq : Aside0 (crc_Open.f q = some (l0, 0)) := ⟨by unfold crc_Open.f; rw [if_pos ⟨HQB.out, by omega⟩, hq, Pl.openS_seal]⟩
  obtain ⟨fr, hfr⟩ : ∃ fr, fr = a % (8 * q.length - 31) := ⟨_, rfl⟩
  have hfr2 : fr < 8 * q.length - 31 := by rw [hfr]; exact Nat.mod_lt _ (by omega)
  have qfr : (a : Int) % (8 * (q.length : Int) - 31) = (fr : Int) := by
    rw [hfr, show (8 * (q.length : Int) - 31) = ((8 * q.length - 31 : Nat) : Int) from by omega]
    push_cast
    rfl
  clear hq hqn hfr
  have HB := Aside0.mk (Below.refl w.heap.size w)
  go_enter Try.func5, Try.ntmps5
  go_wp2_with fail
  refine (waggonerlaw02_awake.calls  true _ rfl).mono ?_
  rintro e w1 ⟨rfl, hb⟩
  have HB' := Aside0.mk (below_step HB.out hb)
  have HR0' := Aside0.mk (Kd.C_below HR0.out hb)
  clear HR0; have HR0 := HR0'; clear HR0'
  clear HB; have HB := HB'; clear HB'
  clear hb
  go_wp2_with fail
  refine (crc_Seal.calls _ _ l0 q _ HR0.out HC0.out HS.out).mono ?_
  rintro e w2 ⟨vq, rfl, hoq, hb⟩
  have HB' := Aside0.mk (below_step HB.out hb)
  have HR0' := Aside0.mk (Kd.C_below HR0.out hb)
  clear HR0; have HR0 := HR0'; clear HR0'
  clear HB; have HB := HB'; clear HB'
  clear hb
  obtain ⟨Aq, cq, rfl, hcq, hrq⟩ := Kd.R_reads hoq
  have HRq := Aside0.mk hrq
  have HCq := Aside0.mk hcq
  clear hrq hcq hoq
  go_upto_region 8 with (first | ((with_reducible refine gate_dst (N := 30) rfl ?_); refine Kd.R_lit (Kd.int .u8) _ 5 ?hg (N := 30) ?hd (xs := ([] : List Int)) (inner := []) (ok := fun _ => True) (okp := fun _ => True) ?hr ?hp (fun _ hk => hk) trivial (Below.refl _ _) (Nat.le_refl _) (by simp) ?_; (case hd => rfl); (case hg => rfl); (case hr => first | (go_simp; done) | (go_simp; rfl)); (case hp => exact (Reps.none _ _)); intro v110 w13 ho14 hb hg_ hnew_; clear hg_ hnew_; have HL := Aside0.mk ho14; have HLB := Aside0.mk hb; clear hb ho14) | ((with_reducible refine gate_builtin (b := .append) (xs := #[.tmp 30, .tmp 31]) rfl ?_); at_builtin; go_must (refine Kd.R_append_rows (Kd.int .u8) (w0 := w2) w2.heap.size rfl (.tmp 30) (.tmp 31) 23 5 (.int .u8 0) 1 rfl Try.underlying23 info5 rfl (by decide) (by omega) v110 [] q _ _ _ (fun _ => True) (fun _ => False) rfl rfl ?aO ?aR (fun _ _ h => h) (fun _ h => h.elim) ?aF ?aB ?aS ?aL ?_); (case aR => exact (Kd.C_below HRq.out HLB.out)); (case aB => exact HLB.out); (case aF => exact (fun _ _ => trivial)); (case aO => exact HL.out); (case aS => exact HLB.out.size); (case aL => have := hqx; simp; omega); intro v113 w15c ho hb hg hat; rw [List.nil_append] at ho; have HOc := Aside0.mk ho; have HBOc := Aside0.mk hb; clear HL HLB ho hb hg hat))
  obtain ⟨g, cap, rfl, hgb, hgl, -⟩ := Kd.R_form HOc.out (by omega)
  have HGB := Aside0.mk hgb
  clear hgb hgl
  have q0 : Aside0 (BurstInv q fr b 0 q) := ⟨⟨rfl, HQB.out, by rw [Nat.pow_zero, Nat.mod_one, Nat.mul_zero, Nat.xor_zero]⟩⟩
  have HBw := HB
  go_wp2
  go_loopw [11, 12] (fun i _ wr => ∃ (k : Nat) (u : List Int), k ≤ 32 ∧ i = .int .i64 k ∧ Aside0 (Kd.R (Kd.int .u8) 5 wr w2.heap.size (fun _ => True) (.slice (some ⟨g, 0, none⟩) q.length cap) u) ∧ Aside0 (BurstInv q fr b k u) ∧ Aside0 (Below w2.heap.size w2 wr)) (fun i _ _ => 32 - (intOf i).toNat)
  case atStart => exact ⟨0, q, by decide, rfl, HOc, q0, HBOc⟩
  case round =>
    clear HOc q0 HBOc
    obtain ⟨k, u, hk, rfl, HOu, HI, HBu⟩ := hrel
    by_cases hlt : k < 32
    · obtain ⟨hul, hub, hun⟩ := HI.out
      have hmod := Pl.mod_succ b k
      have HUL := Aside0.mk hul
      have HUB := Aside0.mk hub
      have HUN := Aside0.mk hun
      have hb2 : b / 2 ^ k < 4294967296 := Nat.lt_of_le_of_lt (Nat.div_le_self _ _) hb
      have etm : ((b : Int) / 2 ^ k).tmod 2 = ((b / 2 ^ k % 2 : Nat) : Int) := by
        rw [show (b : Int) / 2 ^ k = ((b / 2 ^ k : Nat) : Int) from by push_cast; rfl, Int.tmod_eq_emod_of_nonneg (Int.natCast_nonneg _)]
        rfl
      clear hul hub hun HI
      rcases Nat.mod_two_eq_zero_or_one (b / 2 ^ k) with e | e
      · rw [e, if_neg (by omega), Nat.xor_zero] at hmod
        have hbit : (((b : Int) / 2 ^ k).tmod 2 == 1) = false := by rw [etm, e]; rfl
        have HMOD := Aside0.mk hmod
        clear hmod etm e hb2
        go_wp2
        go_roundw
        case rel => exact ⟨k + 1, u, by omega, by go_num, HOu, ⟨⟨HUL.out, HUB.out, by rw [HMOD.out]; exact HUN.out⟩⟩, HBu⟩
        case measure => simp [intOf]; omega
      · rw [e, if_pos rfl] at hmod
        have hbit : (((b : Int) / 2 ^ k).tmod 2 == 1) = true := by rw [etm, e]; rfl
        have HMOD := Aside0.mk hmod
        clear hmod etm e hb2
        obtain ⟨j, hj⟩ : ∃ j, j = (fr + k) / 8 := ⟨_, rfl⟩
        obtain ⟨r, hr⟩ : ∃ r, r = (fr + k) % 8 := ⟨_, rfl⟩
        have hjl : j < q.length := by omega
        have hr8 : r < 8 := by omega
        have hjr : fr + k = 8 * j + r := by omega
        have HJR := Aside0.mk hjr
        have qj : ((fr : Int) + (k : Int)) / 8 = (j : Int) := by omega
        have qr : ((fr : Int) + (k : Int)) % 8 = (r : Int) := by omega
        obtain ⟨bm, hbm⟩ : ∃ bm, bm = 2 ^ r := ⟨_, rfl⟩
        have hbm8 : bm < 256 := by rw [hbm]; exact Nat.pow_lt_pow_right (m := r) (n := 8) (by decide) hr8
        have q1 : (2 : Int) ^ r % 256 = (bm : Int) := by rw [show (2 : Int) ^ r = ((2 ^ r : Nat) : Int) from by push_cast; rfl, ← hbm]; omega
        have hju : j < (Pl.nats u).length := by rw [Pl.nats_length, HUL.out]; exact hjl
        obtain ⟨x, hx⟩ : ∃ x, x = (Pl.nats u)[j]'hju := ⟨_, rfl⟩
        have hx8 : x < 256 := by rw [hx]; exact Pl.byteB_bytes HUB.out _ (List.getElem_mem _)
        have hxr : rd u (j : Int) = (x : Int) := by rw [hx]; exact Kx.rd_nats HUB.out j hju
        obtain ⟨y, hy⟩ : ∃ y, y = x ^^^ bm := ⟨_, rfl⟩
        have hy8 : y < 256 := by rw [hy]; exact Nat.xor_lt_two_pow (n := 8) hx8 hbm8
        have qy : bits .xor .u8 (x : Int) (bm : Int) = (y : Int) := by rw [hy]; exact u8_xor_nat x bm hx8 hbm8
        obtain ⟨hcl, hfz⟩ := Kd.R_celln 0 HOu.out (j : Int) (by omega) (by omega)
        have hcl' : wr.cell? ⟨g, j, none⟩ = some (.int .u8 (x : Int)) := by have e := hcl; rw [show rdOf (0 : Int) u (j : Int) = rd u (j : Int) from rfl, hxr] at e; exact e
        have hfz' : wr.frozen? ⟨g, j, none⟩ = false := hfz
        have HP := Aside0.mk (Kd.R_putn HOu.out (j : Int) (y : Int))
        have HNX : Aside0 (BurstInv q fr b (k + 1) (u.set j (y : Int))) := ⟨⟨by rw [List.length_set]; exact HUL.out, Pl.byteB_set HUB.out _ _ hy8, by
          rw [Pl.nats_set, hy, hx, Pl.leN_set _ j bm (Pl.byteB_bytes HUB.out) hbm8 hju, HUN.out, HMOD.out, hbm, Nat.xor_assoc]
          congr 1
          rw [← Nat.pow_add, ← HJR.out, Nat.pow_add, ← Pl.mul_xor]⟩⟩
        clear hj hr hjr hbm hju hx hxr hy hcl hfz HUL HUB HUN HMOD HJR
        go_wp2
        go_roundw
        case rel => exact ⟨k + 1, u.set j (y : Int), by omega, by go_num, HP, HNX, ⟨HBu.out.setCell HGB.out _⟩⟩
        case measure => simp [intOf]; omega
    · have hke : Aside0 (k = 32) := ⟨by omega⟩
      obtain ⟨hul, hub, hun⟩ := HI.out
      have HUB := Aside0.mk hub
      have hun2 : Pl.leN (Pl.nats u) = Pl.leN (Pl.nats q) ^^^ 2 ^ fr * b := by rw [hun, hke.out, Nat.mod_eq_of_lt (by simpa using hb)]
      have hsum := Pl.sum_flip (Pl.nats q) (Pl.nats u) (Pl.byteB_bytes HQB.out) (Pl.byteB_bytes hub) (by rw [Pl.nats_length, Pl.nats_length, hul]) fr b hb (by rw [Pl.nats_length]; omega) hun2
      have hsq : Pl.sum (Pl.nats q) = 1214729159 := by rw [HQ.out]; exact Pl.sum_seal _ (Pl.byteB_bytes HB0.out)
      have hob := Pl.openB_iff u hub (by omega)
      rw [hsq] at hsum
      rw [hsum] at hob
      have HUL := Aside0.mk hul
      have HOB := Aside0.mk hob
      clear hul hub hun hun2 hsum hsq hob HI hke
      have HCc : Aside0 (u.length ≤ cap) := ⟨by rw [HUL.out]; exact (Kd.R_reads' HOu.out).2.1⟩
      have HRc : Aside0 (Kd.C (Kd.int .u8) wr (some ⟨g, 0, none⟩) u.length u) := ⟨(Kd.R_reads' HOu.out).2.2⟩
      have HR0' := Aside0.mk (Kd.C_below HR0.out HBu.out)
      have HRq' := Aside0.mk (Kd.C_below HRq.out HBu.out)
      have HB' := Aside0.mk (below_step HB.out HBu.out)
      clear HR0 HRq HB HBw HOu HBu
      have HR0 := HR0'
      have HRq := HRq'
      have HB := HB'
      clear HR0' HRq' HB'
      go_wp2_with fail
      refine (crc_Open.calls _ _ q l0 0 _ HRq.out HCq.out HOq.out).mono ?_
      rintro e w51 ⟨vx, rfl, hox, hb⟩
      have HB' := Aside0.mk (below_step HB.out hb)
      have HR0' := Aside0.mk (Kd.C_below HR0.out hb)
      clear HR0; have HR0 := HR0'; clear HR0'
      have HRq' := Aside0.mk (Kd.C_below HRq.out hb)
      clear HRq; have HRq := HRq'; clear HRq'
      have HRc' := Aside0.mk (Kd.C_below HRc.out hb)
      clear HRc; have HRc := HRc'; clear HRc'
      clear HB; have HB := HB'; clear HB'
      clear hb
      obtain ⟨Ax, cx, rfl, hcx, hrx⟩ := Kd.R_reads hox
      have HRx := Aside0.mk hrx
      have HCx := Aside0.mk hcx
      clear hrx hcx hox
      by_cases hb0 : b = 0
      · have HO2 : Aside0 (crc_Open.f u = some ((u.take (u.length - 4)), 0)) := ⟨by unfold crc_Open.f; rw [if_pos ⟨HUB.out, by rw [HUL.out]; omega⟩]; unfold Pl.openS; rw [if_pos (HOB.out.2 hb0)]⟩
        have e1 : ((b : Int) == 0) = true := by simp; omega
        go_wp2_with fail
        rw [← HUL.out]
        refine (crc_Open.calls _ _ u (u.take (u.length - 4)) 0 _ HRc.out HCc.out HO2.out).mono ?_
        rintro e w52 ⟨vy, rfl, hoy, hb⟩
        have HB' := Aside0.mk (below_step HB.out hb)
        have HR0' := Aside0.mk (Kd.C_below HR0.out hb)
        clear HR0; have HR0 := HR0'; clear HR0'
        have HRq' := Aside0.mk (Kd.C_below HRq.out hb)
        clear HRq; have HRq := HRq'; clear HRq'
        have HRc' := Aside0.mk (Kd.C_below HRc.out hb)
        clear HRc; have HRc := HRc'; clear HRc'
        have HRx' := Aside0.mk (Kd.C_below HRx.out hb)
        clear HRx; have HRx := HRx'; clear HRx'
        clear HB; have HB := HB'; clear HB'
        clear hb
        obtain ⟨Ay, cy, rfl, hcy, hry⟩ := Kd.R_reads hoy
        have HRy := Aside0.mk hry
        have HCy := Aside0.mk hcy
        clear hry hcy hoy
        have hcvx := Kd.C_string (P := Try.prog) (A := Ax) (c := cx) Try.underlying23 Try.underlying5 Try.underlying9 HRx.out
        have hcv0 := Kd.C_string (P := Try.prog) (A := A0) (c := c0) Try.underlying23 Try.underlying5 Try.underlying9 HR0.out
        go_wp2
        go_ret
        exact ⟨rfl, HB.out⟩
      · have HO2 : Aside0 (crc_Open.f u = some ([], 20)) := ⟨by unfold crc_Open.f; rw [if_pos ⟨HUB.out, by rw [HUL.out]; omega⟩]; unfold Pl.openS; rw [if_neg (fun h => hb0 (HOB.out.1 h))]⟩
        have e1 : ((b : Int) == 0) = false := by simp; omega
        go_wp2_with fail
        rw [← HUL.out]
        refine (crc_Open.calls _ _ u [] 20 _ HRc.out HCc.out HO2.out).mono ?_
        rintro e w52 ⟨vy, rfl, hoy, hb⟩
        have HB' := Aside0.mk (below_step HB.out hb)
        have HR0' := Aside0.mk (Kd.C_below HR0.out hb)
        clear HR0; have HR0 := HR0'; clear HR0'
        have HRq' := Aside0.mk (Kd.C_below HRq.out hb)
        clear HRq; have HRq := HRq'; clear HRq'
        have HRc' := Aside0.mk (Kd.C_below HRc.out hb)
        clear HRc; have HRc := HRc'; clear HRc'
        have HRx' := Aside0.mk (Kd.C_below HRx.out hb)
        clear HRx; have HRx := HRx'; clear HRx'
        clear HB; have HB := HB'; clear HB'
        clear hb
        obtain ⟨Ay, cy, rfl, hcy, hry⟩ := Kd.R_reads hoy
        have HRy := Aside0.mk hry
        have HCy := Aside0.mk hcy
        clear hry hcy hoy
        have hcvx := Kd.C_string (P := Try.prog) (A := Ax) (c := cx) Try.underlying23 Try.underlying5 Try.underlying9 HRx.out
        have hcv0 := Kd.C_string (P := Try.prog) (A := A0) (c := c0) Try.underlying23 Try.underlying5 Try.underlying9 HR0.out
        go_wp2
        go_ret
        exact ⟨rfl, HB.out⟩

def waggonerlaw02_CrcBurst.Pure : Prop := ∀ (l0 : List Int) (a1 : Int) (a2 : Int), l0.length ≤ maxLen → l0.length * 1 ≤ 140737488351232 → (∀ x ∈ l0, (Lit.int .u8 x).wf = true) → (Lit.int .u16 a1).wf = true → (Lit.int .u32 a2).wf = true → waggonerlaw02_CrcBurst.f l0 a1 a2 = some true
theorem waggonerlaw02_CrcBurst.walk (P : waggonerlaw02_CrcBurst.Pure) (a0 : Option Addr) (len0 cap0 : Nat) (z0 : List Int) (a1 : Int) (a2 : Int) (w : World) (w0 : (a0 = none ∧ len0 = 0 ∧ cap0 = 0 ∧ z0 = []) ∨ ∃ x, a0 = some x ∧ len0 ≤ cap0 ∧ cap0 ≤ maxLen ∧ z0.length = cap0 ∧ (∀ i, i < z0.length → w.cell? (x.add i) = some (.int .u8 (z0.getD i 0))) ∧ ∀ n ∈ z0, (Lit.int .u8 n).wf = true) (y0 : len0 * 1 ≤ 140737488351232) (w1 : (Lit.int .u16 a1).wf = true) (w2 : (Lit.int .u32 a2).wf = true) :
    Calls Try.prog 5 #[.slice a0 len0 cap0, .int .u16 a1, .int .u32 a2] w fun e w' => e = .returned (.bool true) ∧ Below w.heap.size w w' := by
  obtain ⟨l0, rfl, hr0, hm0, hw0, hc0⟩ := ReadsInt.ofRowC w0
  have h := P l0 a1 a2 hm0 y0 hw0 w1 w2
  refine (waggonerlaw02_CrcBurst.calls _ _ l0 a1 a2 true w (Kd.C_of_reads (d := (0 : Int)) (h1 := fun _ => rfl) hr0) hc0 h).mono ?_
  rintro e w' ⟨rfl, hd⟩
  exact ⟨rfl, hd⟩

end Go.Proofs.Ytiaoehjldbnpkaa.PA
