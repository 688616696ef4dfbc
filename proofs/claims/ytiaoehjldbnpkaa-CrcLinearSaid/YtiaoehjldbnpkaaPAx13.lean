/- Functions of the program as Lean functions, and that the Go code comes to just their answers: no condition but that the function says so. (Written by a program of this workplace over the kit's print, with contracts by hand.) -/
import Derived.Test.YtiaoehjldbnpkaaPAx0
import Derived.Test.YtiaoehjldbnpkaaPAx10
import Derived.Test.YtiaoehjldbnpkaaPAx12
namespace Go.Proofs.Ytiaoehjldbnpkaa.PA
open Go.RowKit Go.Proofs.YtiaoehjldbnpkaaW.PrintWords Go.Proofs.YtiaoehjldbnpkaaW.PrintLast Go.Proofs.YtiaoehjldbnpkaaW.PrintMore
attribute [local go_sem] max2_int min2_int max_two min_two max_three min_three max_four min_four   -- for this text's walks alone
set_option linter.unusedVariables false
set_option linter.unusedSimpArgs false

/-! ### crc_Open: function 17 -/
def crc_Open.f (l0 : List Int) : Option (List Int × Int) := if Pl.byteB l0 = true ∧ l0.length < 70368744177664 then some (Pl.openS l0) else none
set_option maxHeartbeats 2000000 in
theorem crc_Open.calls (A0 : Option Addr) (c0 : Nat) (l0 : List Int) (r1 : List Int) (r2 : Int) (w : World) (hr0 : Kd.C (Kd.int .u8) w A0 l0.length l0) (hc0 : l0.length ≤ c0) (h : crc_Open.f l0 = some (r1, r2)) :
    Calls Try.prog 17 #[.slice A0 l0.length c0] w fun e w' => ∃ v0_ : Value, e = .returned (.tuple #[v0_, .int .i64 r2]) ∧ Kd.R (Kd.int .u8) 5 w' w.heap.size (fun _ => True) v0_ r1 ∧ Below w.heap.size w w' := by
  unfold crc_Open.f at h
  split at h
  case isFalse => cases h
  rename_i hh
  obtain ⟨hby, hlen⟩ := hh
  replace h := Option.some.inj h
  have HR0 := Aside0.mk hr0
  have HC0 := Aside0.mk hc0
  have HBY := Aside0.mk hby
  clear hr0 hc0 hby
  by_cases hlt : l0.length < 4
  · have ho : Pl.openB l0 = false := by unfold Pl.openB; rw [decide_eq_false (by omega)]; rfl
    rw [Pl.openS, if_neg (by rw [ho]; decide)] at h
    obtain ⟨rfl, rfl⟩ := Prod.mk.inj h
    clear h ho
    have d1 : decide ((l0.length : Int) - 4 < 0) = true := decide_eq_true (by omega)
    go_enter Try.func17, Try.ntmps17
    go_wp2
    go_ret2
    exact ⟨_, rfl, Kd.R_nil _ _ _ _ _, Below.refl _ _⟩
  · obtain ⟨i0, hi, hz0, hz1, hz2⟩ := info_parts info5
    obtain ⟨m, hm⟩ : ∃ m, m = l0.length - 4 := ⟨_, rfl⟩
    obtain ⟨hcut, -, hC⟩ := print_take_of (P := Try.prog) (Value.int .u8) 0 23 5 .i64 Try.underlying23 hi hz1 A0 c0 l0 ((l0.length : Int) - 4) (by omega) (by omega) HC0.out
    have e4 : ((l0.length : Int) - 4).toNat = m := by omega
    have hml : (l0.take m).length = m := by rw [List.length_take]; omega
    rw [e4, hml] at hcut hC
    have HT : Aside0 (Kd.C (Kd.int .u8) w A0 m (l0.take m)) := ⟨by have := Kx.takeC m (by omega) HR0.out; rw [hml] at this; exact this⟩
    have hbt : Pl.byteB (l0.take m) = true := Pl.byteB_iff.2 fun x hx => Pl.byteB_iff.1 HBY.out x (List.mem_of_mem_take hx)
    have hS := fun (w : World) (hr : Kd.C (Kd.int .u8) w A0 (l0.take m).length (l0.take m)) => crc_Seal.calls A0 c0 (l0.take m) _ w hr (by omega) (by unfold crc_Seal.f; rw [if_pos ⟨hbt, by omega⟩])
    rw [hml] at hS
    have HS := Aside0.mk hS
    clear hS
    have hq : Pl.openB l0 = (Pl.seal4 (l0.take m) == l0) := by unfold Pl.openB; rw [decide_eq_true (by omega), ← hm]; rfl
    have HQ := Aside0.mk hq
    have hE := fun (A1 : Option Addr) (c1 : Nat) (w : World) (hr : Kd.C (Kd.int .u8) w A1 (Pl.seal4 (l0.take m)).length (Pl.seal4 (l0.take m))) (hc : (Pl.seal4 (l0.take m)).length ≤ c1) (hr' : Kd.C (Kd.int .u8) w A0 l0.length l0) => bytes_Equal.calls A1 c1 (Pl.seal4 (l0.take m)) A0 c0 l0 (Pl.openB l0) w hr hc hr' HC0.out (by unfold bytes_Equal.f; rw [if_pos ⟨Pl.seal4_byte hbt, HBY.out⟩, hq])
    have HE := Aside0.mk hE
    clear hE hq hbt
    obtain ⟨q, hqq⟩ : ∃ q, q = Pl.seal4 (l0.take m) := ⟨_, rfl⟩
    rw [← hqq] at HS HE HQ
    clear hqq
    have d1 : decide ((l0.length : Int) - 4 < 0) = false := decide_eq_false (by omega)
    obtain ⟨b, hb⟩ : ∃ b, b = Pl.openB l0 := ⟨_, rfl⟩
    rw [← hb] at HE HQ
    unfold Pl.openS at h
    rw [← hb, ← hm] at h
    clear hb
    have HM := Aside0.mk hm
    clear hm HQ
    cases b with
    | true =>
      obtain ⟨rfl, rfl⟩ := Prod.mk.inj h
      clear h
      go_enter Try.func17, Try.ntmps17
      go_wp2_with fail
      refine (HS.out _ HT.out).mono ?_
      rintro e w1 ⟨v1, rfl, ho1, hb1⟩
      obtain ⟨A1, c1, rfl, hc1, hr1⟩ := Kd.R_reads ho1
      have HB1 := Aside0.mk hb1
      have HC1 := Aside0.mk hc1
      have HR1 := Aside0.mk hr1
      have hsz : w.heap.size ≤ w1.heap.size := hb1.size
      clear ho1 hb1 hr1 hc1
      go_wp2_with fail
      refine (HE.out _ _ _ HR1.out HC1.out (Kd.C_below HR0.out HB1.out)).mono ?_
      rintro e w' ⟨rfl, ⟨nd, rfl⟩⟩
      have HB := Aside0.mk (pw_below_drewN HB1.out nd)
      clear HB1
      go_wp2_with (first | ((with_reducible refine gate_dst (N := 19) rfl ?_); refine Kd.R_lit (Kd.int .u8) _ 5 ?hg (N := 19) ?hd (xs := ([] : List Int)) (inner := []) (ok := fun _ => True) (okp := fun _ => True) ?hr ?hp (fun _ hk => hk) trivial (Below.refl _ _) (Nat.le_refl _) (by simp) ?_; (case hd => rfl); (case hg => rfl); (case hr => first | (go_simp; done) | (go_simp; rfl)); (case hp => exact (Reps.none _ _)); intro v110 w13 ho14 hb hg_ hnew_; clear hg_ hnew_; have n0_ := Aside0.mk (Kd.R_lower ho14 (below_size HB.out)); have n1_ := Aside0.mk (below_step HB.out hb); clear HB; have HO111 := n0_; have HB := n1_; clear n0_ n1_; clear hb ho14) | ((with_reducible refine gate_builtin (b := .append) (xs := #[.tmp 19, .tmp 22]) rfl ?_); at_builtin; go_must (refine Kd.R_append_rows (Kd.int .u8) (w0 := w) w.heap.size rfl (.tmp 19) (.tmp 22) 23 5 (.int .u8 0) 1 rfl Try.underlying23 info5 rfl (by decide) (by omega) v110 [] (l0.take m) _ m _ (fun _ => True) (fun _ => False) rfl rfl ?aO ?aR (fun _ _ h => h) (fun _ h => h.elim) ?aF ?aB ?aS ?aL ?_); (case aR => exact (Kd.C_below HT.out HB.out)); (case aB => exact HB.out); (case aF => exact (fun _ _ => trivial)); (case aO => exact HO111.out); (case aS => exact below_size HB.out); (case aL => have := HM.out; simp; omega); intro v113 w15 ho hb hg hat; have n0_ := Aside0.mk (hb); have n1_ := Aside0.mk (ho); clear HB; clear HO111; have HB := n0_; have HO114 := n1_; clear n0_ n1_; clear ho hb hg hat))
      go_ret2
      exact ⟨_, rfl, HO114.out, HB.out⟩
    | false =>
      obtain ⟨rfl, rfl⟩ := Prod.mk.inj h
      clear h
      go_enter Try.func17, Try.ntmps17
      go_wp2_with fail
      refine (HS.out _ HT.out).mono ?_
      rintro e w1 ⟨v1, rfl, ho1, hb1⟩
      obtain ⟨A1, c1, rfl, hc1, hr1⟩ := Kd.R_reads ho1
      have HB1 := Aside0.mk hb1
      have HC1 := Aside0.mk hc1
      have HR1 := Aside0.mk hr1
      clear ho1 hb1 hr1 hc1
      go_wp2_with fail
      refine (HE.out _ _ _ HR1.out HC1.out (Kd.C_below HR0.out HB1.out)).mono ?_
      rintro e w' ⟨rfl, ⟨nd, rfl⟩⟩
      go_wp2
      go_ret2
      exact ⟨_, rfl, Kd.R_nil _ _ _ _ _, pw_below_drewN HB1.out nd⟩

end Go.Proofs.Ytiaoehjldbnpkaa.PA
