/- Functions of the program as Lean functions, and that the Go code comes to just their answers: no condition but that the function says so. (Written by a program of this workplace over the kit's print, with contracts by hand.) -/
import Derived.Test.YtiaoehjldbnpkaaPBx0
import Derived.Test.YtiaoehjldbnpkaaPBx4
import Derived.Test.YtiaoehjldbnpkaaPBx6
import Derived.Test.YtiaoehjldbnpkaaPBx15
import Derived.Test.YtiaoehjldbnpkaaPBx16
import Derived.Test.YtiaoehjldbnpkaaPBx18
namespace Go.Proofs.Ytiaoehjldbnpkaa.PB
open Go.RowKit Go.Proofs.YtiaoehjldbnpkaaW.PrintWords Go.Proofs.YtiaoehjldbnpkaaW.PrintLast Go.Proofs.YtiaoehjldbnpkaaW.PrintMore
attribute [local go_sem] max2_int min2_int max_two min_two max_three min_three max_four min_four   -- for this text's walks alone
set_option linter.unusedVariables false
set_option linter.unusedSimpArgs false

/-! ### waggonerlaw01_awake: function 26 -/
def waggonerlaw01_awake.f : Option Bool := some true
theorem aw01_p1 : le_Pack.f ⟨#[98, 104]⟩ [7, 258] = some ([7, 2, 1], 0) := by kernel_rfl
theorem aw01_u1 : le_Unpack.f ⟨#[98, 104]⟩ [7, 2, 1] = some ([7, 258], 0) := by kernel_rfl
theorem aw01_p2 : le_Pack.f ⟨#[98]⟩ [256] = some ([], 10) := by kernel_rfl
theorem aw01_p3 : le_Pack.f ⟨#[120]⟩ [1] = some ([], 10) := by kernel_rfl
theorem aw01_t1 : le_Take.f [2, 1, 9] 2 = some (258, [9], 0) := by kernel_rfl
theorem aw01_w : le_Put.f [5] 258 2 = some ([5, 2, 1], 0) := by kernel_rfl
theorem aw01_t2 : le_Take.f [1] 2 = some (0, [], 10) := by kernel_rfl
theorem aw01_s : waggonerref01_Same.f [7, 258] [7, 258] = some true := by kernel_rfl
set_option maxHeartbeats 1000000 in
set_option maxRecDepth 2000000 in
theorem waggonerlaw01_awake.calls (r : Bool) (w : World) (h : waggonerlaw01_awake.f = some r) :
    Calls Try.prog 26 #[] w fun e w' => e = .returned (.bool r) ∧ Below w.heap.size w w' := by
  unfold waggonerlaw01_awake.f at h
  obtain rfl := Option.some.inj h
  clear h
  have hlit7_2_1 : ∀ (W : World) (g : Nat), g = W.heap.size → (convert 23 9 (.slice (some ⟨g, 0, none⟩) 3 3)).run Try.prog (W.alloc (.cells #[.int .u8 7, .int .u8 2, .int .u8 1] 5)) = .ok (.string (strOfNums [7, 2, 1])) (W.alloc (.cells #[.int .u8 7, .int .u8 2, .int .u8 1] 5)) := fun W g hg => Kd.C_string (P := Try.prog) (A := _) (c := _) Try.underlying23 Try.underlying5 Try.underlying9 (Kx.C_lita .u8 g W hg [7, 2, 1] (by decide) _ _)
  have hlit9 : ∀ (W : World) (g : Nat), g = W.heap.size → (convert 23 9 (.slice (some ⟨g, 0, none⟩) 1 1)).run Try.prog (W.alloc (.cells #[.int .u8 9] 5)) = .ok (.string (strOfNums [9])) (W.alloc (.cells #[.int .u8 9] 5)) := fun W g hg => Kd.C_string (P := Try.prog) (A := _) (c := _) Try.underlying23 Try.underlying5 Try.underlying9 (Kx.C_lita .u8 g W hg [9] (by decide) _ _)
  have hlit5_2_1 : ∀ (W : World) (g : Nat), g = W.heap.size → (convert 23 9 (.slice (some ⟨g, 0, none⟩) 3 3)).run Try.prog (W.alloc (.cells #[.int .u8 5, .int .u8 2, .int .u8 1] 5)) = .ok (.string (strOfNums [5, 2, 1])) (W.alloc (.cells #[.int .u8 5, .int .u8 2, .int .u8 1] 5)) := fun W g hg => Kd.C_string (P := Try.prog) (A := _) (c := _) Try.underlying23 Try.underlying5 Try.underlying9 (Kx.C_lita .u8 g W hg [5, 2, 1] (by decide) _ _)
  have HB := Aside0.mk (Below.refl w.heap.size w)
  go_enter Try.func26, Try.ntmps26
  go_wp2_with fail
  refine (le_Pack.calls _ _ _ [7, 258] [7, 2, 1] 0 _ (Kx.C_litk .u64 _ [7, 258] (by decide) _ _) (Nat.le_refl _) aw01_p1).mono ?_
  rintro e w1 ⟨va, rfl, hoa, hb⟩
  have HB' := Aside0.mk (below_step (below_alloc HB.out _) hb)
  clear HB; have HB := HB'; clear HB'
  clear hb
  obtain ⟨Aa, ca, rfl, hca, hra⟩ := Kd.R_reads hoa
  have HRa := Aside0.mk hra
  have HCa := Aside0.mk hca
  clear hra hca hoa
  go_wp2_with fail
  refine (le_Unpack.calls _ _ _ [7, 2, 1] [7, 258] 0 _ HRa.out HCa.out aw01_u1).mono ?_
  rintro e w2 ⟨vl, rfl, hol, hb⟩
  have HB' := Aside0.mk (below_step HB.out hb)
  have HRa' := Aside0.mk (Kd.C_below HRa.out hb)
  clear HRa; have HRa := HRa'; clear HRa'
  clear HB; have HB := HB'; clear HB'
  clear hb
  obtain ⟨Al, cl, rfl, hcl, hrl⟩ := Kd.R_reads hol
  have HRl := Aside0.mk hrl
  have HCl := Aside0.mk hcl
  clear hrl hcl hol
  go_wp2_with fail
  refine (le_Pack.calls _ _ _ [256] [] 10 _ (Kx.C_litk .u64 _ [256] (by decide) _ _) (Nat.le_refl _) aw01_p2).mono ?_
  rintro e w3 ⟨vx, rfl, hox, hb⟩
  have HB' := Aside0.mk (below_step (below_alloc HB.out _) hb)
  have HRa' := Aside0.mk (Kd.C_below (Kd.C_alloc HRa.out _) hb)
  clear HRa; have HRa := HRa'; clear HRa'
  have HRl' := Aside0.mk (Kd.C_below (Kd.C_alloc HRl.out _) hb)
  clear HRl; have HRl := HRl'; clear HRl'
  clear HB; have HB := HB'; clear HB'
  clear hb
  obtain ⟨Ax, cx, rfl, hcx, hrx⟩ := Kd.R_reads hox
  have HRx := Aside0.mk hrx
  have HCx := Aside0.mk hcx
  clear hrx hcx hox
  clear HRx HCx
  go_wp2_with fail
  refine (le_Pack.calls _ _ _ [1] [] 10 _ (Kx.C_litk .u64 _ [1] (by decide) _ _) (Nat.le_refl _) aw01_p3).mono ?_
  rintro e w4 ⟨vx, rfl, hox, hb⟩
  have HB' := Aside0.mk (below_step (below_alloc HB.out _) hb)
  have HRa' := Aside0.mk (Kd.C_below (Kd.C_alloc HRa.out _) hb)
  clear HRa; have HRa := HRa'; clear HRa'
  have HRl' := Aside0.mk (Kd.C_below (Kd.C_alloc HRl.out _) hb)
  clear HRl; have HRl := HRl'; clear HRl'
  clear HB; have HB := HB'; clear HB'
  clear hb
  obtain ⟨Ax, cx, rfl, hcx, hrx⟩ := Kd.R_reads hox
  have HRx := Aside0.mk hrx
  have HCx := Aside0.mk hcx
  clear hrx hcx hox
  clear HRx HCx
  go_wp2_with fail
  refine (le_Take.calls _ _ [2, 1, 9] _ 258 [9] 0 _ (Kx.C_litk .u8 _ [2, 1, 9] (by decide) _ _) (Nat.le_refl _) aw01_t1).mono ?_
  rintro e w5 ⟨vr, rfl, hor, hb⟩
  have HB' := Aside0.mk (below_step (below_alloc HB.out _) hb)
  have HRa' := Aside0.mk (Kd.C_below (Kd.C_alloc HRa.out _) hb)
  clear HRa; have HRa := HRa'; clear HRa'
  have HRl' := Aside0.mk (Kd.C_below (Kd.C_alloc HRl.out _) hb)
  clear HRl; have HRl := HRl'; clear HRl'
  clear HB; have HB := HB'; clear HB'
  clear hb
  obtain ⟨Ar, cr, rfl, hcr, hrr⟩ := Kd.R_reads hor
  have HRr := Aside0.mk hrr
  have HCr := Aside0.mk hcr
  clear hrr hcr hor
  go_wp2_with fail
  refine (le_Put.calls _ _ [5] _ _ [5, 2, 1] 0 _ (Kx.C_litk .u8 _ [5] (by decide) _ _) (Nat.le_refl _) aw01_w).mono ?_
  rintro e w6 ⟨vp, rfl, hop, hb⟩
  have HB' := Aside0.mk (below_step (below_alloc HB.out _) hb)
  have HRa' := Aside0.mk (Kd.C_below (Kd.C_alloc HRa.out _) hb)
  clear HRa; have HRa := HRa'; clear HRa'
  have HRl' := Aside0.mk (Kd.C_below (Kd.C_alloc HRl.out _) hb)
  clear HRl; have HRl := HRl'; clear HRl'
  have HRr' := Aside0.mk (Kd.C_below (Kd.C_alloc HRr.out _) hb)
  clear HRr; have HRr := HRr'; clear HRr'
  clear HB; have HB := HB'; clear HB'
  clear hb
  obtain ⟨Ap, cp, rfl, hcp, hrp⟩ := Kd.R_reads hop
  have HRp := Aside0.mk hrp
  have HCp := Aside0.mk hcp
  clear hrp hcp hop
  go_wp2_with fail
  refine (le_Take.calls _ _ [1] _ 0 [] 10 _ (Kx.C_litk .u8 _ [1] (by decide) _ _) (Nat.le_refl _) aw01_t2).mono ?_
  rintro e w7 ⟨vx, rfl, hox, hb⟩
  have HB' := Aside0.mk (below_step (below_alloc HB.out _) hb)
  have HRa' := Aside0.mk (Kd.C_below (Kd.C_alloc HRa.out _) hb)
  clear HRa; have HRa := HRa'; clear HRa'
  have HRl' := Aside0.mk (Kd.C_below (Kd.C_alloc HRl.out _) hb)
  clear HRl; have HRl := HRl'; clear HRl'
  have HRr' := Aside0.mk (Kd.C_below (Kd.C_alloc HRr.out _) hb)
  clear HRr; have HRr := HRr'; clear HRr'
  have HRp' := Aside0.mk (Kd.C_below (Kd.C_alloc HRp.out _) hb)
  clear HRp; have HRp := HRp'; clear HRp'
  clear HB; have HB := HB'; clear HB'
  clear hb
  obtain ⟨Ax, cx, rfl, hcx, hrx⟩ := Kd.R_reads hox
  have HRx := Aside0.mk hrx
  have HCx := Aside0.mk hcx
  clear hrx hcx hox
  clear HRx HCx
  have ha : (convert 23 9 (.slice Aa 3 ca)).run Try.prog w7 = .ok (.string (strOfNums [7, 2, 1])) w7 := Kd.C_string (P := Try.prog) (A := Aa) (c := ca) Try.underlying23 Try.underlying5 Try.underlying9 HRa.out
  go_wp2_with fail
  refine (waggonerref01_Same.calls _ _ [7, 258] _ _ [7, 258] _ _ (Kd.C_alloc (Kd.C_alloc HRl.out _) _) HCl.out (Kx.C_lita .u64 _ _ (by simp) [7, 258] (by decide) _ _) (Nat.le_refl _) aw01_s).mono ?_
  rintro e w8 ⟨rfl, hd⟩
  have hb := hd.below
  clear hd
  have HB' := Aside0.mk (below_step (below_alloc (below_alloc HB.out _) _) hb)
  have HRa' := Aside0.mk (Kd.C_below (Kd.C_alloc (Kd.C_alloc HRa.out _) _) hb)
  clear HRa; have HRa := HRa'; clear HRa'
  have HRl' := Aside0.mk (Kd.C_below (Kd.C_alloc (Kd.C_alloc HRl.out _) _) hb)
  clear HRl; have HRl := HRl'; clear HRl'
  have HRr' := Aside0.mk (Kd.C_below (Kd.C_alloc (Kd.C_alloc HRr.out _) _) hb)
  clear HRr; have HRr := HRr'; clear HRr'
  have HRp' := Aside0.mk (Kd.C_below (Kd.C_alloc (Kd.C_alloc HRp.out _) _) hb)
  clear HRp; have HRp := HRp'; clear HRp'
  clear HB; have HB := HB'; clear HB'
  clear hb
  have hr0 := fun (_ : Unit) => (show (convert 23 9 (.slice Ar 1 cr)).run Try.prog w8 = .ok (.string (strOfNums [9])) w8 from Kd.C_string (P := Try.prog) (A := Ar) (c := cr) Try.underlying23 Try.underlying5 Try.underlying9 HRr.out)
  have hp0 := fun (o : Obj) => (show (convert 23 9 (.slice Ap 3 cp)).run Try.prog (w8.alloc o) = .ok (.string (strOfNums [5, 2, 1])) (w8.alloc o) from Kd.C_string (P := Try.prog) (A := Ap) (c := cp) Try.underlying23 Try.underlying5 Try.underlying9 (Kd.C_alloc HRp.out _))
  have hr1 := hr0 (); clear hr0 ha hlit7_2_1
  go_wp2
  go_ret
  exact ⟨rfl, below_alloc (below_alloc HB.out _) _⟩

end Go.Proofs.Ytiaoehjldbnpkaa.PB
