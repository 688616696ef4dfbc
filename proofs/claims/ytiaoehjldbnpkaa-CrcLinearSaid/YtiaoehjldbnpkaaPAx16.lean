/- Functions of the program as Lean functions, and that the Go code comes to just their answers: no condition but that the function says so. (Written by a program of this workplace over the kit's print, with contracts by hand.) -/
import Derived.Test.YtiaoehjldbnpkaaPAx0
import Derived.Test.YtiaoehjldbnpkaaPAx2
import Derived.Test.YtiaoehjldbnpkaaPAx4
import Derived.Test.YtiaoehjldbnpkaaPAx10
import Derived.Test.YtiaoehjldbnpkaaPAx13
import Derived.Test.YtiaoehjldbnpkaaPAx15
namespace Go.Proofs.Ytiaoehjldbnpkaa.PA
open Go.RowKit Go.Proofs.YtiaoehjldbnpkaaW.PrintWords Go.Proofs.YtiaoehjldbnpkaaW.PrintLast Go.Proofs.YtiaoehjldbnpkaaW.PrintMore
attribute [local go_sem] max2_int min2_int max_two min_two max_three min_three max_four min_four   -- for this text's walks alone
set_option linter.unusedVariables false
set_option linter.unusedSimpArgs false

/-! ### waggonerlaw02_awake: function 16 -/
def waggonerlaw02_awake.f : Option Bool := some true
theorem aw02_seal : crc_Seal.f [116, 101, 120, 116] = some (Pl.seal4 [116, 101, 120, 116]) := by kernel_rfl
theorem aw02_open : crc_Open.f (Pl.seal4 [116, 101, 120, 116]) = some ([116, 101, 120, 116], 0) := by kernel_rfl
theorem aw02_no : crc_Open.f [97, 98, 99] = some ([], 20) := by kernel_rfl
theorem aw02_sum (l : List Int) (n : Nat) (h : Pl.byteB l = true) (e : Pl.sum (Pl.nats l) = n) : crc_Sum.f l = some (n : Int) := by
  unfold crc_Sum.f crc_More.f
  rw [if_pos ⟨by decide, by decide, h⟩, ← e]
  rfl
theorem aw02_more (s : Nat) (l : List Int) (n : Nat) (hs : s < 4294967296) (h : Pl.byteB l = true) (e : Pl.more s (Pl.nats l) = n) : crc_More.f (s : Int) l = some (n : Int) := by
  unfold crc_More.f
  rw [if_pos ⟨by omega, by omega, h⟩, ← e, Int.toNat_natCast]
set_option maxHeartbeats 4000000 in
set_option maxRecDepth 100000 in
theorem waggonerlaw02_awake.calls (r : Bool) (w : World) (h : waggonerlaw02_awake.f = some r) :
    Calls Try.prog 16 #[] w fun e w' => e = .returned (.bool r) ∧ Below w.heap.size w w' := by
  unfold waggonerlaw02_awake.f at h
  obtain rfl := Option.some.inj h
  clear h
  have kc := fun (w : World) (C : Array Value) (n c : Nat) => Lib.run_convert_bytes_const (P := Try.prog) w 23 5 C n c Try.underlying23 Try.underlying5
  go_enter Try.func16, Try.ntmps16
  go_wp2_with fail
  refine (crc_Seal.calls _ _ [116, 101, 120, 116] _ _ (Kx.C_lit _ [116, 101, 120, 116] (by decide) 5 _) (by decide) aw02_seal).mono ?_
  rintro e w1 ⟨v1, rfl, ho, hb⟩
  obtain ⟨A1, c1, rfl, hc1, hr1⟩ := Kd.R_reads ho
  have HB1 := Aside0.mk (below_step (below_alloc (Below.refl w.heap.size w) _) hb)
  have HQ := Aside0.mk aw02_open
  have HC1 := Aside0.mk hc1
  have HR1 := Aside0.mk hr1
  have hql : (Pl.seal4 [116, 101, 120, 116]).length = 8 := by kernel_rfl
  clear ho hb hc1 hr1
  generalize Pl.seal4 [116, 101, 120, 116] = q at *
  go_wp2_with fail
  rw [← hql]
  refine (crc_Open.calls _ _ q _ _ _ HR1.out HC1.out HQ.out).mono ?_
  rintro e w2 ⟨v2, rfl, ho, hb⟩
  obtain ⟨A2, c2, rfl, hc2, hr2⟩ := Kd.R_reads ho
  have HB2 := Aside0.mk (below_step HB1.out hb)
  have HR2 := Aside0.mk hr2
  clear ho hb hc2 hr2 HB1
  go_wp2_with fail
  refine (crc_Open.calls _ _ [97, 98, 99] _ _ _ (Kx.C_lit _ [97, 98, 99] (by decide) 5 _) (by decide) aw02_no).mono ?_
  rintro e w3 ⟨v3, rfl, ho, hb⟩
  obtain ⟨A3, c3, rfl, hc3, hr3⟩ := Kd.R_reads ho
  have HB3 := Aside0.mk (below_step (below_alloc HB2.out _) hb)
  have HR3 := Aside0.mk (Kd.C_below (Kd.C_alloc HR2.out _) hb)
  clear ho hb hc3 hr3 HB2 HR2
  go_wp2_with fail
  refine (crc_Sum.calls _ _ [49, 50, 51, 52, 53] _ _ (Kx.C_lit _ [49, 50, 51, 52, 53] (by decide) 5 _) (by decide) (aw02_sum [49, 50, 51, 52, 53] 416359221 (by kernel_rfl) (by kernel_rfl))).mono ?_
  rintro e w4 ⟨rfl, hb⟩
  have HB4 := Aside0.mk (below_step (below_alloc HB3.out _) hb)
  have HR4 := Aside0.mk (Kd.C_below (Kd.C_alloc HR3.out _) hb)
  clear hb HB3 HR3
  go_wp2_with fail
  refine (crc_Sum.calls _ _ [54, 55, 56, 57] _ _ (Kx.C_lit _ [54, 55, 56, 57] (by decide) 5 _) (by decide) (aw02_sum [54, 55, 56, 57] 3263061426 (by kernel_rfl) (by kernel_rfl))).mono ?_
  rintro e w5 ⟨rfl, hb⟩
  have HB5 := Aside0.mk (below_step (below_alloc HB4.out _) hb)
  have HR5 := Aside0.mk (Kd.C_below (Kd.C_alloc HR4.out _) hb)
  clear hb HB4 HR4
  go_wp2_with fail
  refine (crc_Sum.calls _ _ [49, 50, 51, 52, 53, 54, 55, 56, 57] _ _ (Kx.C_lit _ [49, 50, 51, 52, 53, 54, 55, 56, 57] (by decide) 5 _) (by decide) (aw02_sum [49, 50, 51, 52, 53, 54, 55, 56, 57] 3808858755 (by kernel_rfl) (by kernel_rfl))).mono ?_
  rintro e w6 ⟨rfl, hb⟩
  have HB6 := Aside0.mk (below_step (below_alloc HB5.out _) hb)
  have HR6 := Aside0.mk (Kd.C_below (Kd.C_alloc HR5.out _) hb)
  clear hb HB5 HR5
  go_wp2_with fail
  refine (crc_Sum.calls none 0 [] _ _ (Kd.C_nil _ _) (Nat.le_refl _) (aw02_sum [] 0 (by kernel_rfl) (by kernel_rfl))).mono ?_
  rintro e w7 ⟨rfl, hb⟩
  have HB7 := Aside0.mk (below_step HB6.out hb)
  have HR7 := Aside0.mk (Kd.C_below HR6.out hb)
  clear hb HB6 HR6
  go_wp2_with fail
  refine (crc_More.calls _ _ _ [54, 55, 56, 57] _ _ (Kx.C_lit _ [54, 55, 56, 57] (by decide) 5 _) (by decide) (aw02_more 416359221 [54, 55, 56, 57] 3808858755 (by decide) (by kernel_rfl) (by kernel_rfl))).mono ?_
  rintro e w8 ⟨rfl, hb⟩
  have HB8 := Aside0.mk (below_step (below_alloc HB7.out _) hb)
  have HR8 := Aside0.mk (Kd.C_below (Kd.C_alloc HR7.out _) hb)
  clear hb HB7 HR7
  go_wp2_with fail
  refine (crc_Join.calls _ _ _ 3808858755 _ (by kernel_rfl)).mono ?_
  rintro e w9 ⟨rfl, hb⟩
  have HB9 := Aside0.mk (below_step HB8.out hb)
  have hcv : (convert 23 9 (.slice A2 4 c2)).run Try.prog w9 = .ok (.string ⟨#[116, 101, 120, 116]⟩) w9 := Kd.C_string (P := Try.prog) (A := A2) (c := c2) Try.underlying23 Try.underlying5 Try.underlying9 (Kd.C_below HR8.out hb)
  clear hb HB8 HR8 kc
  go_wp2
  go_ret
  exact ⟨rfl, HB9.out⟩

end Go.Proofs.Ytiaoehjldbnpkaa.PA
