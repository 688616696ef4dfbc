/- Words and walks that this claim names, of those that the kit's print and programs of this workplace have printed. -/
import Derived.Test.YtmgohkffphogdaaZUCz
import Derived.Test.YtmgohkffphogdaaZUPUx15
import Derived.Test.YtmgohkffphogdaaZUPUx49
import Derived.Test.YtmgohkffphogdaaZUPUx50
namespace Go.Proofs.Ytmgohkffphogdaa.PU
open Go.Proofs.Ytmgohkffphogdaa Go.RowKit Go.Proofs.YtmgohkffphogdaaW.PrintWords Go.Proofs.YtmgohkffphogdaaW.PrintLast Go.Proofs.YtmgohkffphogdaaW.PrintMore
attribute [local go_sem] max2_int min2_int max_two min_two max_three min_three max_four min_four
set_option linter.unusedVariables false
set_option linter.unusedSimpArgs false
def waggonerref10_Check.f (a0_0 a0_1 a0_2 a0_3 : Int) (l0_4 : List Int) (l0_5 : List S39) : Option Bool := some (Pl.chOk a0_0 a0_1 a0_2 a0_3 l0_4 (l0_5.map toE))
theorem waggonerref10_Check.inner {k a n i : Int} {d : List Int} {l : List S39} (b : Bool) (hb : b = Pl.blocksB a n) : waggonerref10_Check_p.j0 4 b k a n i d l = some (Pl.chOk k a n i d (l.map toE)) := by
 have hw : b = true → wrap64 (32 * n) = n * 32 := fun h => by
  rw [hb, Pl.blocksB, decide_eq_true_eq] at h
  unfold wrap64; omega
 have h0 : waggonerref10_Check_p.j0 4 b k a n i d l = waggonerref10_Check_p.j1 3 b (Pl.idB i) k a n i d l := by
  simp only [waggonerref10_Check_p.j0]
  unfold Pl.idB
  by_cases h : i ≥ 1
  ·rw [if_pos h]
   congr 1
   rw [decide_eq_decide]; omega
  ·rw [if_neg h, decide_eq_false (show ¬ (1 ≤ i ∧ i ≤ 2147483647) by omega)]
 rw [h0]
 simp only [waggonerref10_Check_p.j1, waggonerref10_Check_p.j2, waggonerref10_Check_p.j3]
 rw [waggonerref10_List.f, Option.bind_some]
 have hz : ∀ z : List S39, decide ((z.map toE).length = 0) = ((z.length : Int) == 0) := fun z => by
  rw [List.length_map, Bool.eq_iff_iff, decide_eq_true_eq, beq_iff_eq]; omega
 by_cases k1 : k = 1
 ·subst k1
  rw [Pl.chOk_1, hz, ← hb, if_pos rfl]
  cases b with
  | false => rfl
  | true =>
   rw [if_pos rfl, hw rfl]
   by_cases h3 : i = 0 <;> by_cases h4 : (d.length : Int) = n * 32 <;> simp [h3, h4]
 rw [if_neg k1]
 by_cases k2 : k = 2 ∨ k = 3
 ·rw [Pl.chOk_2 k2, hz, ← hb]
  have e : (if k = 2 then (k == 2) else (k == 3)) = true := by rcases k2 with rfl | rfl <;> rfl
  rcases k2 with rfl | rfl <;> (cases b <;> by_cases h3 : i = 0 <;> by_cases h4 : d.length = 0 <;> simp [h3, h4])
 by_cases k4 : k = 4 ∨ k = 5
 ·rw [Pl.chOk_4 k4, hz]
  rcases k4 with rfl | rfl <;> (by_cases h1 : a = 0 <;> by_cases h2 : n = 0 <;> by_cases h4 : d.length = 0 <;> cases Pl.idB i <;> simp [h1, h2, h4])
 by_cases k6 : k = 6
 ·subst k6
  rw [Pl.chOk_6, hz]
  have e : ∀ X : Bool, (if (d.length : Int) ≥ 1 then (if (d.length : Int) ≤ 1000 then some X else some false) else some false) = some (decide (1 ≤ d.length ∧ d.length ≤ 1000) && X) := fun X => by
   by_cases h4 : (d.length : Int) ≥ 1
   ·by_cases h5 : (d.length : Int) ≤ 1000
    ·rw [if_pos h4, if_pos h5, decide_eq_true (by omega), Bool.true_and]
    ·rw [if_pos h4, if_neg h5, decide_eq_false (by omega), Bool.false_and]
   ·rw [if_neg h4, decide_eq_false (by omega), Bool.false_and]
  rw [e]
  by_cases h1 : a = 0 <;> by_cases h2 : n = 0 <;> by_cases h3 : i = 0 <;> simp [h1, h2, h3]
 by_cases k7 : k = 7
 ·subst k7
  rw [Pl.chOk_7, hz]
  by_cases h1 : a = 0 <;> by_cases h2 : n = 0 <;> by_cases h3 : i = 0 <;> by_cases h4 : d.length = 0 <;> simp [h1, h2, h3, h4]
 by_cases k8 : k = 8
 ·subst k8
  rw [Pl.chOk_8, hz]
  have hf : l.length = 0 → Pl.folS (l.map toE) = true := fun h => by rw [List.eq_nil_of_length_eq_zero h]; rfl
  by_cases h1 : a = 0 <;> by_cases h2 : n = 0 <;> by_cases h4 : d.length = 0 <;> by_cases h5 : l.length = 0 <;> cases hq : Pl.idB i <;> simp [h1, h2, h4, h5, hf] <;> simp_all
 ·rw [Pl.chOk_not (by omega)]
  simp [k1, k6, k7, k8, show k ≠ 2 by omega, show k ≠ 3 by omega, show k ≠ 4 by omega, show k ≠ 5 by omega]
theorem waggonerref10_Check.closes {a0_0 a0_1 a0_2 a0_3 : Int} {l0_4 : List Int} {l0_5 : List S39} {r : Bool} (h : waggonerref10_Check.f a0_0 a0_1 a0_2 a0_3 l0_4 l0_5 = some r) : waggonerref10_Check_p.f 4 a0_0 a0_1 a0_2 a0_3 l0_4 l0_5 = some r := by
 rw [← h]
 unfold waggonerref10_Check_p.f waggonerref10_Check.f
 by_cases h0 : a0_1 ≥ 0
 rotate_left
 ·rw [if_neg h0]; exact waggonerref10_Check.inner _ (by unfold Pl.blocksB; rw [decide_eq_false (by omega)])
 rw [if_pos h0]
 by_cases h1 : a0_1 ≤ 64
 rotate_left
 ·rw [if_neg h1]; exact waggonerref10_Check.inner _ (by unfold Pl.blocksB; rw [decide_eq_false (by omega)])
 rw [if_pos h1]
 by_cases h2 : a0_2 ≥ 1
 rotate_left
 ·rw [if_neg h2]; exact waggonerref10_Check.inner _ (by unfold Pl.blocksB; rw [decide_eq_false (by omega)])
 rw [if_pos h2]
 exact waggonerref10_Check.inner _ (by unfold Pl.blocksB; rw [decide_eq_decide, show wrap64 (64 - a0_1) = 64 - a0_1 by unfold wrap64; omega]; omega)
theorem waggonerref10_Check.calls (a0_0 : Int) (a0_1 : Int) (a0_2 : Int) (a0_3 : Int) (A0_4 : Option Addr) (c0_4 : Nat) (l0_4 : List Int) (A0_5 : Option Addr) (c0_5 : Nat) (l0_5 : List (S39)) (r : Bool) (w : World) (hr0_4 : Kd.C (Kd.int .u8) w A0_4 l0_4.length l0_4) (hc0_4 : l0_4.length ≤ c0_4) (hr0_5 : Kd.C k39 w A0_5 l0_5.length l0_5) (hc0_5 : l0_5.length ≤ c0_5) (h : waggonerref10_Check.f a0_0 a0_1 a0_2 a0_3 l0_4 l0_5 = some r) :
  Calls Try.prog 17 #[.agg #[.int .i64 a0_0, .int .i64 a0_1, .int .i64 a0_2, .int .i64 a0_3, .slice A0_4 l0_4.length c0_4, .slice A0_5 l0_5.length c0_5]] w fun e w' => e = .returned (.bool r) ∧ Below w.heap.size w w' :=
 waggonerref10_Check_p.calls 4 a0_0 a0_1 a0_2 a0_3 A0_4 c0_4 l0_4 A0_5 c0_5 l0_5 r w hr0_4 hc0_4 hr0_5 hc0_5 (waggonerref10_Check.closes h)
def waggonerref01_may.f (a0 : Int) : Option (Bool) := if a0 = 1 then (some true) else (if a0 = 2 then (some true) else (if a0 = 4 then (some true) else (some (a0 == 8))))
set_option maxHeartbeats 8000000 in
set_option maxRecDepth 100000 in
theorem waggonerref01_may.calls (a0 : Int) (r : Bool) (w : World) (h : waggonerref01_may.f a0 = some r) :
  Calls Try.prog 51 #[.int .i64 a0] w fun e w' => e = .returned (.bool r) ∧ Drawn0 w w' := by
 have H : (if a0 = 1 then (some true) else (if a0 = 2 then (some true) else (if a0 = 4 then (some true) else (some (a0 == 8))))) = some r := h
 clear h
 by_cases c2 : a0 = 1
 ·rw [if_pos c2] at H
  have c2b0 : (a0 == 1) = true := beq_iff_eq.mpr c2
  have c2b1 : (a0 != 1) = false := bne_eq_false_iff_eq.mpr c2
  clear c2
  obtain rfl := Option.some.inj H
  go_enter Try.func51, Try.ntmps51
  go_wp2
  go_ret
  exact ⟨by first | rfl | (simp; done) | (simp [*]; done), by repeat (first | exact Drawn0.refl _ | apply Drawn0.step)⟩
 ·rw [if_neg c2] at H
  have c2b0 : (a0 == 1) = false := beq_eq_false_iff_ne.mpr c2
  have c2b1 : (a0 != 1) = true := bne_iff_ne.mpr c2
  by_cases c3 : a0 = 2
  ·rw [if_pos c3] at H
   have c3b0 : (a0 == 2) = true := beq_iff_eq.mpr c3
   have c3b1 : (a0 != 2) = false := bne_eq_false_iff_eq.mpr c3
   clear c3
   obtain rfl := Option.some.inj H
   go_enter Try.func51, Try.ntmps51
   go_wp2
   go_ret
   exact ⟨by first | rfl | (simp; done) | (simp [*]; done), by repeat (first | exact Drawn0.refl _ | apply Drawn0.step)⟩
  ·rw [if_neg c3] at H
   have c3b0 : (a0 == 2) = false := beq_eq_false_iff_ne.mpr c3
   have c3b1 : (a0 != 2) = true := bne_iff_ne.mpr c3
   by_cases c4 : a0 = 4
   ·rw [if_pos c4] at H
    have c4b0 : (a0 == 4) = true := beq_iff_eq.mpr c4
    have c4b1 : (a0 != 4) = false := bne_eq_false_iff_eq.mpr c4
    clear c4
    obtain rfl := Option.some.inj H
    go_enter Try.func51, Try.ntmps51
    go_wp2
    go_ret
    exact ⟨by first | rfl | (simp; done) | (simp [*]; done), by repeat (first | exact Drawn0.refl _ | apply Drawn0.step)⟩
   ·rw [if_neg c4] at H
    have c4b0 : (a0 == 4) = false := beq_eq_false_iff_ne.mpr c4
    have c4b1 : (a0 != 4) = true := bne_iff_ne.mpr c4
    obtain rfl := Option.some.inj H
    go_enter Try.func51, Try.ntmps51
    go_wp2
    go_ret
    exact ⟨by first | rfl | (simp; done) | (simp [*]; done), by repeat (first | exact Drawn0.refl _ | apply Drawn0.step)⟩
mutual
def waggonerref01_Put_p.j0 : Nat → List Int → Int → Int → Bool → Option (List Int × Int)
 | 0, _, _, _, _ => none
 | k + 1, x0, x1, x2, x26 => if x26 = true then (some (([] : List Int), 10)) else ((some (([] : List Int) : List Int)).bind fun y248 => (if y248.length + x0.length < 140737488355328 then (waggonerref01_Put_p.l0 k x1 x2 (y248 ++ x0) 0) else (none)))
def waggonerref01_Put_p.l0 : Nat → Int → Int → List Int → Int → Option (List Int × Int)
 | 0, _, _, _, _ => none
 | k + 1, x1, x2, x9, x10 => if x10 < x2 then (if 0 ≤ (IntKind.u64.wrap (wrap64 (8 * x10))) then (if x9.length < 140737488355328 then (waggonerref01_Put_p.l0 k x1 x2 (x9 ++ [(shr .u64 x1 (IntKind.u64.wrap (wrap64 (8 * x10)))) % 256]) (wrap64 (x10 + 1))) else (none)) else (none)) else (some (x9, 0))
end
def waggonerref01_Put_p.f (k : Nat) (l0 : List Int) (a1 : Int) (a2 : Int) : Option (List Int × Int) := (waggonerref01_may.f a2).bind fun t247 => (if t247 = true then (if a2 < 8 then (if 0 ≤ (IntKind.u64.wrap (wrap64 (8 * a2))) then (waggonerref01_Put_p.j0 k l0 a1 a2 ((shr .u64 a1 (IntKind.u64.wrap (wrap64 (8 * a2)))) != 0)) else (none)) else (waggonerref01_Put_p.j0 k l0 a1 a2 false)) else (waggonerref01_Put_p.j0 k l0 a1 a2 true))
set_option maxHeartbeats 8000000 in
set_option maxRecDepth 100000 in
theorem waggonerref01_Put_p.calls (k : Nat) (A0 : Option Addr) (c0 : Nat) (l0 : List Int) (a1 : Int) (a2 : Int) (r1 : List Int) (r2 : Int) (w : World) (hr0 : Kd.C (Kd.int .u8) w A0 l0.length l0) (hc0 : l0.length ≤ c0) (h : waggonerref01_Put_p.f k l0 a1 a2 = some (r1, r2)) :
  Calls Try.prog 37 #[.slice A0 l0.length c0, .int .u64 a1, .int .i64 a2] w fun e w' => ∃ v0_ : Value, e = .returned (.tuple #[v0_, .int .i64 r2]) ∧ Kd.R (Kd.int .u8) 5 w' w.heap.size (fun _ => True) v0_ r1 ∧ Below w.heap.size w w' := by
 have HR0 := Aside0.mk hr0
 have HC0 := Aside0.mk hc0
 clear hr0 hc0
 have HB := Aside0.mk (Below.refl w.heap.size w)
 have H : ((waggonerref01_may.f a2).bind fun t247 => (if t247 = true then (if a2 < 8 then (if 0 ≤ (IntKind.u64.wrap (wrap64 (8 * a2))) then (waggonerref01_Put_p.j0 k l0 a1 a2 ((shr .u64 a1 (IntKind.u64.wrap (wrap64 (8 * a2)))) != 0)) else (none)) else (waggonerref01_Put_p.j0 k l0 a1 a2 false)) else (waggonerref01_Put_p.j0 k l0 a1 a2 true))) = some (r1, r2) := h
 clear h
 replace H := Option.bind_eq_some_iff.mp H
 obtain ⟨t247, A40, H⟩ := H
 (try dsimp only at H)
 have A4 := Aside0.mk A40
 clear A40
 have HC5 := Aside0.mk H
 clear H
 go_enter Try.func37, Try.ntmps37
 go_upto_region 2 with (first | ((with_reducible refine gate_callee (f := 51) rfl ?_); refine Cz.gL (N := (some 12)) Try.func51 #[.int .i64 a2] ?_; (with_reducible refine (waggonerref01_may.calls a2 t247 _ A4.out).mono ?_); rintro e w' ⟨rfl, ⟨nd, rfl⟩⟩; refine ⟨_, rfl, ?_⟩))
 (try simp only [Act.put, Kx.sb, Kx.sz, Kx.ss])
 go_cut [26] (fun v26 wc => ∃ (kq : Nat) (x26_4 : Bool), v26 = .bool x26_4 ∧ Aside0 (waggonerref01_Put_p.j0 kq l0 a1 a2 x26_4 = some (r1, r2)) ∧ Aside0 (kq ≤ k) ∧ Aside0 (Below w.heap.size w wc))
 case first =>
  have H := HC5.out
  clear HC5
  by_cases c6 : t247 = true
  ·subst c6
   rw [if_pos rfl] at H
   by_cases c7 : a2 < 8
   ·rw [if_pos c7] at H
    have c7b0 : decide (a2 < 8) = true := decide_eq_true c7
    clear c7
    (first | rw [c7b0] | (simp only [i64_w, i32_w]; rw [c7b0]) | skip)
    obtain ⟨ji8, hji8⟩ : ∃ j_ : Int, (IntKind.u64.wrap (wrap64 (8 * a2))) = j_ := ⟨_, rfl⟩
    replace H : (if 0 ≤ (ji8) then (waggonerref01_Put_p.j0 k l0 a1 a2 ((shr .u64 a1 (ji8)) != 0)) else (none)) = some (r1, r2) := by first | (rw [hji8] at H; exact H) | (simp only [hji8] at H ⊢; exact H)
    by_cases c9 : 0 ≤ (ji8)
    ·rw [if_pos c9] at H
     have c9b0 := eq_true c9
     have c9b1 : decide (0 ≤ (ji8)) = true := decide_eq_true c9
     clear c9
     obtain ⟨ji10, hji10⟩ : ∃ j_ : Int, (shr .u64 a1 (ji8)) = j_ := ⟨_, rfl⟩
     replace H : (waggonerref01_Put_p.j0 k l0 a1 a2 ((ji10) != 0)) = some (r1, r2) := by first | (rw [hji10] at H; exact H) | (simp only [hji10] at H ⊢; exact H)
     have hji10_ : (a1 / 2 ^ min (ji8).toNat 64) = ji10 := hji10
     have hji10z : (ji8) ≤ 64 → (a1 / 2 ^ (ji8).toNat) = ji10 := shr_small hji10
     have H' := Aside0.mk H
     clear H
     go_wp2
     go_meet
     case rel => exact ⟨_, (((ji10) != 0)), (by first | rfl | (simp; done) | (simp only [← hji10] <;> (first | rfl | simp)) | (simp [*]; done)), H', ⟨by first | omega | exact Nat.le_refl _⟩, ⟨Cz.bl (w := w)⟩⟩
    ·rw [if_neg c9] at H
     exact absurd H (by simp)
   ·rw [if_neg c7] at H
    have c7b0 : decide (a2 < 8) = false := decide_eq_false c7
    clear c7
    (first | rw [c7b0] | (simp only [i64_w, i32_w]; rw [c7b0]) | skip)
    have H' := Aside0.mk H
    clear H
    go_wp2
    go_meet
    case rel => exact ⟨_, (false), Cz.si, H', ⟨by first | omega | exact Nat.le_refl _⟩, ⟨Cz.bl (w := w)⟩⟩
  ·replace c6 := Bool.eq_false_iff.mpr c6
   subst c6
   rw [if_neg (show ¬ (false = true) by decide)] at H
   have H' := Aside0.mk H
   clear H
   go_wp2
   go_meet
   case rel => exact ⟨_, (true), Cz.si, H', ⟨by first | omega | exact Nat.le_refl _⟩, ⟨Cz.bl (w := w)⟩⟩
 case rest =>
  clear HC5
  try clear p2
  try clear c3
  try clear c5
  try clear c6
  try clear p6
  try clear c7
  try clear c7b0
  try clear c9
  try clear c9b0
  try clear c9b1
  obtain ⟨kq, x26_4, rfl, HA, HJ4, HB⟩ := hcut
  cases kq with
  | zero => exact absurd HA.out (by simp [waggonerref01_Put_p.j0])
  | succ kj4 =>
   have H := HA.out
   clear HA
   simp only [waggonerref01_Put_p.j0] at H
   by_cases c11 : x26_4 = true
   ·subst c11
    rw [if_pos rfl] at H
    simp only [Option.some.injEq, Prod.mk.injEq] at H
    obtain ⟨rfl, rfl⟩ := H
    go_wp2
    go_ret2
    exact ⟨_, Cz.er, by first | exact Kd.R_nil _ _ _ _ _ | exact Kd.N_nil _ _ _ _ _ | exact Kd.V_nil _ _ _ _ _ | exact Kd.Q_nil _ _ _ _ _ | exact Kd.S_nil _ _ _ _ _, Cz.bl (w := w)⟩
   ·replace c11 := Bool.eq_false_iff.mpr c11
    subst c11
    rw [if_neg (show ¬ (false = true) by decide)] at H
    obtain ⟨y248, hy248⟩ : ∃ y_ : List Int, y_ = (([] : List Int)) := ⟨_, rfl⟩
    replace H : (if y248.length + l0.length < 140737488355328 then (waggonerref01_Put_p.l0 kj4 a1 a2 (y248 ++ l0) 0) else (none)) = some (r1, r2) := by first | (rw [hy248]; with_reducible exact H) | (have H2_ := (Option.bind_some _ _).symm.trans H; rw [hy248]; with_reducible exact H2_) | (have H2_ := (Option.bind_some _ _).symm.trans H; with_reducible exact H2_) | with_reducible exact H | (rw [hy248]; exact H) | exact H
    have Ny248 := Aside0.mk hy248
    clear hy248
    by_cases c12 : y248.length + l0.length < 140737488355328
    ·rw [if_pos c12] at H
     have LMc12 := Aside0.mk c12
     clear c12
     obtain ⟨y251, hy251⟩ : ∃ y_ : List Int, y_ = (y248 ++ l0) := ⟨_, rfl⟩
     replace H : (waggonerref01_Put_p.l0 kj4 a1 a2 y251 0) = some (r1, r2) := by first | (rw [hy251]; with_reducible exact H) | (have H2_ := (Option.bind_some _ _).symm.trans H; rw [hy251]; with_reducible exact H2_) | (have H2_ := (Option.bind_some _ _).symm.trans H; with_reducible exact H2_) | with_reducible exact H | (rw [hy251]; exact H) | exact H
     have Ny251 := Aside0.mk hy251
     clear hy251
     have H' := Aside0.mk H
     clear H
     go_wp2_with (first | ((with_reducible refine gate_dst (N := 27) rfl ?_); refine Kd.R_lit (Kd.int .u8) _ 5 ?hg (N := 27) ?hd (xs := ([] : List Int)) (inner := []) (ok := fun _ => True) (okp := fun _ => True) ?hr ?hp (fun _ hk => hk) trivial (Below.refl _ _) (Nat.le_refl _) (by simp) ?_; (case hd => rfl); (case hg => rfl); (case hr => first | (go_simp; done) | (go_simp; rfl)); (case hp => exact (Reps.none _ _)); intro v249 w13 ho14 hb hg_ hnew_; clear hg_ hnew_; (first | rw [← Ny248.out] at ho14 | (simp only [Int.reduceToNat] at ho14; rw [← Ny248.out] at ho14)); have HO250 := Aside0.mk (Kd.R_lower ho14 (below_size (Cz.bl (w := w)))); replace HB := Cz.bs (w := w) hb; clear hb ho14) | ((with_reducible refine gate_builtin (b := .append) (xs := #[.tmp 27, .tmp 28]) rfl ?_); at_builtin; refine Kd.R_append_rows (Kd.int .u8) (w0 := w) w.heap.size rfl (.tmp 27) (.tmp 28) 23 5 (.int .u8 0) 1 rfl Try.underlying23 info5 rfl (by decide) (by omega) v249 y248 l0 _ _ _ (fun _ => True) (fun _ => False) rfl rfl ?aO ?aR (fun _ _ h => h) (fun _ h => h.elim) ?aF ?aB ?aS ?aL ?_; (case aR => exact Cz.cb HR0); (case aB => exact (Cz.bl (w := w))); (case aF => exact (fun _ _ => trivial)); (case aO => exact (by (with_reducible repeat (first | apply Kd.R_alloc | apply Kd.R_drewN | apply Kd.R_drew)); exact HO250.out)); (case aS => exact (below_size (Cz.bl (w := w)))); (case aL => have := LMc12.out; omega); intro v252 w15 ho hb hg hat; rw [← Ny251.out] at ho; have HO253 := Aside0.mk (ho); replace HB := Aside0.mk (hb); clear HO250; clear ho hb hg hat))
     go_loopg [9, 10] kj4 (fun kq v9 v10 w' => ∃ (x9_2 : List Int) (x10_2 : Int), v10 = .int .i64 x10_2 ∧ Aside0 (waggonerref01_Put_p.l0 kq a1 a2 x9_2 x10_2 = some (r1, r2)) ∧ Aside0 (kq ≤ kj4) ∧ Aside0 (Kd.R (Kd.int .u8) 5 w' w.heap.size (fun _ => True) v9 x9_2) ∧ Aside0 (Below w.heap.size w w'))
     case atStart => exact ⟨(y251), (0), Cz.si, H', ⟨Nat.le_refl _⟩, ⟨by (with_reducible repeat (first | apply Kd.R_alloc | apply Kd.R_drewN | apply Kd.R_drew)); exact HO253.out⟩, ⟨Cz.bl (w := w)⟩⟩
     case round =>
      clear H'
      try clear c1
      try clear p2 p2
      try clear c3
      try clear c5
      try clear c6
      try clear p6 p6
      try clear c7
      try clear c7b0
      try clear c9
      try clear c9b0
      try clear c9b1
      try clear c11
      try clear c12
      obtain ⟨x9_2, x10_2, rfl, HA, HK2, HO_9, HB⟩ := hrel
      cases gk with
      | zero => exact absurd HA.out (by simp [waggonerref01_Put_p.l0])
      | succ k2 =>
       have H := HA.out
       clear HA
       simp only [waggonerref01_Put_p.l0] at H
       by_cases c16 : x10_2 < a2
       ·rw [if_pos c16] at H
        have c16b0 : decide (x10_2 < a2) = true := decide_eq_true c16
        clear c16
        obtain ⟨ji17, hji17⟩ : ∃ j_ : Int, (IntKind.u64.wrap (wrap64 (8 * x10_2))) = j_ := ⟨_, rfl⟩
        replace H : (if 0 ≤ (ji17) then (if x9_2.length < 140737488355328 then (waggonerref01_Put_p.l0 k2 a1 a2 (x9_2 ++ [(shr .u64 a1 (ji17)) % 256]) (wrap64 (x10_2 + 1))) else (none)) else (none)) = some (r1, r2) := by first | (rw [hji17] at H; exact H) | (simp only [hji17] at H ⊢; exact H)
        by_cases c18 : 0 ≤ (ji17)
        ·rw [if_pos c18] at H
         have c18b0 := eq_true c18
         have c18b1 : decide (0 ≤ (ji17)) = true := decide_eq_true c18
         clear c18
         obtain ⟨ji19, hji19⟩ : ∃ j_ : Int, (shr .u64 a1 (ji17)) = j_ := ⟨_, rfl⟩
         replace H : (if x9_2.length < 140737488355328 then (waggonerref01_Put_p.l0 k2 a1 a2 (x9_2 ++ [(ji19) % 256]) (wrap64 (x10_2 + 1))) else (none)) = some (r1, r2) := by first | (rw [hji19] at H; exact H) | (simp only [hji19] at H ⊢; exact H)
         have hji19_ : (a1 / 2 ^ min (ji17).toNat 64) = ji19 := hji19
         have hji19z : (ji17) ≤ 64 → (a1 / 2 ^ (ji17).toNat) = ji19 := shr_small hji19
         by_cases c20 : x9_2.length < 140737488355328
         ·rw [if_pos c20] at H
          have LMc20 := Aside0.mk c20
          clear c20
          obtain ⟨y254, hy254⟩ : ∃ y_ : List Int, y_ = (x9_2 ++ [(ji19) % 256]) := ⟨_, rfl⟩
          replace H : (waggonerref01_Put_p.l0 k2 a1 a2 y254 (wrap64 (x10_2 + 1))) = some (r1, r2) := by first | (rw [hy254]; with_reducible exact H) | (have H2_ := (Option.bind_some _ _).symm.trans H; rw [hy254]; with_reducible exact H2_) | (have H2_ := (Option.bind_some _ _).symm.trans H; with_reducible exact H2_) | with_reducible exact H | (rw [hy254]; exact H) | exact H
          have Ny254 := Aside0.mk hy254
          clear hy254
          have H' := Aside0.mk H
          clear H
          go_wp2_with (first | ((with_reducible refine gate_builtin (b := .append) (xs := #[.tmp 35, .tmp 42]) rfl ?_); at_builtin; refine Kd.R_append (Kd.int .u8) (w0 := w) w.heap.size rfl (.tmp 35) (.tmp 42) 23 5 (.int .u8 0) 1 rfl Try.underlying23 info5 rfl (by decide) (by omega) u9 x9_2 ((ji19) % 256) [.int .u8 ((ji19) % 256)] (fun _ => True) (fun _ => False) rfl rfl ?aP (fun _ hk => hk.elim) ?aF ?aO ?aB ?aS ?aL ?_; (case aP => exact rfl); (case aB => exact (Cz.bl (w := w))); (case aF => exact (fun _ _ => trivial)); (case aO => exact (by (with_reducible repeat (first | apply Kd.R_alloc | apply Kd.R_drewN | apply Kd.R_drew)); exact HO_9.out)); (case aS => exact (below_size (Cz.bl (w := w)))); (case aL => have := LMc20.out; omega); intro v255 w21 ho hb hg hat; rw [← Ny254.out] at ho; have HO256 := Aside0.mk (ho); replace HB := Aside0.mk (hb); clear HO_9; clear ho hb hg hat))
          go_roundg k2
          case measure => have := HJ4.out; have := HK2.out; omega
          case rel => exact ⟨(y254), (wrap64 (x10_2 + 1)), Cz.si, H', ⟨by have := HJ4.out; have := HK2.out; omega⟩, ⟨by (with_reducible repeat (first | apply Kd.R_alloc | apply Kd.R_drewN | apply Kd.R_drew)); exact HO256.out⟩, ⟨Cz.bl (w := w)⟩⟩
         ·rw [if_neg c20] at H
          exact absurd H (by simp)
        ·rw [if_neg c18] at H
         exact absurd H (by simp)
       ·rw [if_neg c16] at H
        have c16b0 : decide (x10_2 < a2) = false := decide_eq_false c16
        clear c16
        simp only [Option.some.injEq, Prod.mk.injEq] at H
        obtain ⟨rfl, rfl⟩ := H
        go_wp2
        go_ret2
        exact ⟨_, Cz.er, Cz.rh, Cz.bl (w := w)⟩
    ·rw [if_neg c12] at H
     exact absurd H (by simp)
def waggonerref01_Put.f (l0 : List Int) (a1 : Int) (a2 : Int) : Option (List Int × Int) := if 0 ≤ a1 ∧ a1 < 18446744073709551616 ∧ l0.length < 70368744177664 then some (Pl.putS l0 a1 a2) else none
theorem waggonerref01_may.tells (s : Int) : waggonerref01_may.f s = some (Pl.okS s) := by
 unfold waggonerref01_may.f Pl.okS
 by_cases h1 : s = 1
 ·subst h1; rfl
 by_cases h2 : s = 2
 ·subst h2; rfl
 by_cases h4 : s = 4
 ·subst h4; rfl
 by_cases h8 : s = 8
 ·subst h8; rfl
 simp [h1, h2, h4, h8]
theorem u64_8 {x : Int} (h0 : 0 ≤ x) (h1 : x ≤ 8) : IntKind.u64.wrap (wrap64 (8 * x)) = 8 * x := by
 have e : wrap64 (8 * x) = 8 * x := by unfold wrap64; omega
 rw [e, IntKind.wrap_u64]
 omega
theorem shr_8 (n i : Nat) (hi : i ≤ 8) : shr .u64 (n : Int) (8 * (i : Int)) = ((n / 2 ^ (8 * i) : Nat) : Int) := by
 unfold shr
 rw [show (8 * (i : Int)).toNat = 8 * i from by omega, Nat.min_eq_left (show 8 * i ≤ IntKind.u64.bits from by show 8 * i ≤ 64; omega)]
 push_cast
 rfl
theorem waggonerref01_Put.loop : ∀ (d : Nat) (k : Nat) (n : Nat) (l : List Int) (s i : Nat), d < k → i + d = s → s ≤ 8 → l.length + d < 140737488355328 → waggonerref01_Put_p.l0 k (n : Int) (s : Int) l (i : Int) = some (l ++ Pl.leB d (n / 2 ^ (8 * i)), 0)
 | 0, k, n, l, s, i, hk, hd, hs, hl => by
  obtain ⟨k, rfl⟩ : ∃ m, k = m + 1 := ⟨k - 1, by omega⟩
  simp only [waggonerref01_Put_p.l0]
  rw [if_neg (by omega), Pl.leB, List.append_nil]
 | d + 1, k, n, l, s, i, hk, hd, hs, hl => by
  obtain ⟨k, rfl⟩ : ∃ m, k = m + 1 := ⟨k - 1, by omega⟩
  simp only [waggonerref01_Put_p.l0]
  rw [if_pos (by omega), u64_8 (by omega) (by omega), if_pos (by omega), if_pos (by omega), shr_8 n i (by omega), show wrap64 ((i : Int) + 1) = ((i + 1 : Nat) : Int) from by unfold wrap64; omega,
   waggonerref01_Put.loop d k n _ s (i + 1) (by omega) (by omega) hs (by rw [List.length_append, List.length_singleton]; omega)]
  rw [Pl.leB, List.append_assoc, List.singleton_append, show n / 2 ^ (8 * (i + 1)) = n / 2 ^ (8 * i) / 256 from by rw [Nat.div_div_eq_div_mul, show 8 * (i + 1) = 8 * i + 8 from by omega, Nat.pow_add]]
  rfl
theorem waggonerref01_Put.tells {l0 : List Int} {a1 a2 : Int} {r : List Int × Int} (h : waggonerref01_Put.f l0 a1 a2 = some r) : waggonerref01_Put_p.f 11 l0 a1 a2 = some r := by
 unfold waggonerref01_Put.f at h
 split at h
 case isFalse => cases h
 rename_i hh
 obtain ⟨h0, h1, h2⟩ := hh
 obtain rfl := Option.some.inj h
 obtain ⟨n, rfl⟩ := Int.eq_ofNat_of_zero_le h0
 have hgo : ∀ s : Nat, s ≤ 8 → waggonerref01_Put_p.j0 11 l0 (n : Int) (s : Int) false = some (l0 ++ Pl.leB s n, 0) := by
  intro s hs
  simp only [waggonerref01_Put_p.j0]
  rw [if_neg (by decide), Option.bind_some, if_pos (by rw [List.length_nil]; omega), List.nil_append]
  have := waggonerref01_Put.loop s 10 n l0 s 0 (by omega) (by omega) hs (by omega)
  rw [Nat.mul_zero, Nat.pow_zero, Nat.div_one] at this
  exact this
 unfold waggonerref01_Put_p.f
 rw [waggonerref01_may.tells, Option.bind_some]
 unfold Pl.putS
 by_cases hs : Pl.okS a2 = true
 ·rw [if_pos hs]
  rcases Pl.okS_iff.1 hs with rfl | rfl | rfl | rfl
  ·rw [if_pos (by decide), u64_8 (by decide) (by decide), if_pos (by decide), Pl.fits_1, show (8 * (1 : Int)) = 8 * ((1 : Nat) : Int) from rfl, shr_8 n 1 (by decide)]
   by_cases hf : (n : Int) < 256
   ·rw [if_pos (decide_eq_true hf), show ((((n / 2 ^ (8 * 1) : Nat) : Int) != 0)) = false from by simp; omega]
    exact hgo 1 (by decide)
   ·rw [if_neg (by simpa using hf), show ((((n / 2 ^ (8 * 1) : Nat) : Int) != 0)) = true from by simp; omega]
    rfl
  ·rw [if_pos (by decide), u64_8 (by decide) (by decide), if_pos (by decide), Pl.fits_2, show (8 * (2 : Int)) = 8 * ((2 : Nat) : Int) from rfl, shr_8 n 2 (by decide)]
   by_cases hf : (n : Int) < 65536
   ·rw [if_pos (decide_eq_true hf), show ((((n / 2 ^ (8 * 2) : Nat) : Int) != 0)) = false from by simp; omega]
    exact hgo 2 (by decide)
   ·rw [if_neg (by simpa using hf), show ((((n / 2 ^ (8 * 2) : Nat) : Int) != 0)) = true from by simp; omega]
    rfl
  ·rw [if_pos (by decide), u64_8 (by decide) (by decide), if_pos (by decide), Pl.fits_4, show (8 * (4 : Int)) = 8 * ((4 : Nat) : Int) from rfl, shr_8 n 4 (by decide)]
   by_cases hf : (n : Int) < 4294967296
   ·rw [if_pos (decide_eq_true hf), show ((((n / 2 ^ (8 * 4) : Nat) : Int) != 0)) = false from by simp; omega]
    exact hgo 4 (by decide)
   ·rw [if_neg (by simpa using hf), show ((((n / 2 ^ (8 * 4) : Nat) : Int) != 0)) = true from by simp; omega]
    rfl
  ·rw [if_neg (by decide), if_pos (Pl.fits_8 (by omega))]
   exact hgo 8 (by decide)
 ·rw [if_neg hs, if_neg (by rw [Pl.fits_no (by simpa using hs)]; decide)]
  rfl
theorem waggonerref01_Put.calls (A0 : Option Addr) (c0 : Nat) (l0 : List Int) (a1 : Int) (a2 : Int) (r1 : List Int) (r2 : Int) (w : World) (hr0 : Kd.C (Kd.int .u8) w A0 l0.length l0) (hc0 : l0.length ≤ c0) (h : waggonerref01_Put.f l0 a1 a2 = some (r1, r2)) :
  Calls Try.prog 37 #[.slice A0 l0.length c0, .int .u64 a1, .int .i64 a2] w fun e w' => ∃ v0_ : Value, e = .returned (.tuple #[v0_, .int .i64 r2]) ∧ Kd.R (Kd.int .u8) 5 w' w.heap.size (fun _ => True) v0_ r1 ∧ Below w.heap.size w w' :=
 waggonerref01_Put_p.calls 11 A0 c0 l0 a1 a2 r1 r2 w hr0 hc0 (waggonerref01_Put.tells h)
def waggonerref01_size.f (a0 : Int) : Option (Int) := if a0 = 98 then (some 1) else (if a0 = 104 then (some 2) else (if a0 = 119 then (some 4) else (if a0 = 113 then (some 8) else (some 0))))
set_option maxHeartbeats 8000000 in
set_option maxRecDepth 100000 in
theorem waggonerref01_size.calls (a0 : Int) (r : Int) (w : World) (h : waggonerref01_size.f a0 = some r) :
  Calls Try.prog 38 #[.int .u8 a0] w fun e w' => e = .returned (.int .i64 r) ∧ Drawn0 w w' := by
 have H : (if a0 = 98 then (some 1) else (if a0 = 104 then (some 2) else (if a0 = 119 then (some 4) else (if a0 = 113 then (some 8) else (some 0))))) = some r := h
 clear h
 by_cases c2 : a0 = 98
 ·rw [if_pos c2] at H
  have c2b0 : (a0 == 98) = true := beq_iff_eq.mpr c2
  have c2b1 : (a0 != 98) = false := bne_eq_false_iff_eq.mpr c2
  clear c2
  obtain rfl := Option.some.inj H
  go_enter Try.func38, Try.ntmps38
  go_wp2
  go_ret
  exact ⟨by first | rfl | (simp; done) | (simp [*]; done), by repeat (first | exact Drawn0.refl _ | apply Drawn0.step)⟩
 ·rw [if_neg c2] at H
  have c2b0 : (a0 == 98) = false := beq_eq_false_iff_ne.mpr c2
  have c2b1 : (a0 != 98) = true := bne_iff_ne.mpr c2
  by_cases c3 : a0 = 104
  ·rw [if_pos c3] at H
   have c3b0 : (a0 == 104) = true := beq_iff_eq.mpr c3
   have c3b1 : (a0 != 104) = false := bne_eq_false_iff_eq.mpr c3
   clear c3
   obtain rfl := Option.some.inj H
   go_enter Try.func38, Try.ntmps38
   go_wp2
   go_ret
   exact ⟨by first | rfl | (simp; done) | (simp [*]; done), by repeat (first | exact Drawn0.refl _ | apply Drawn0.step)⟩
  ·rw [if_neg c3] at H
   have c3b0 : (a0 == 104) = false := beq_eq_false_iff_ne.mpr c3
   have c3b1 : (a0 != 104) = true := bne_iff_ne.mpr c3
   by_cases c4 : a0 = 119
   ·rw [if_pos c4] at H
    have c4b0 : (a0 == 119) = true := beq_iff_eq.mpr c4
    have c4b1 : (a0 != 119) = false := bne_eq_false_iff_eq.mpr c4
    clear c4
    obtain rfl := Option.some.inj H
    go_enter Try.func38, Try.ntmps38
    go_wp2
    go_ret
    exact ⟨by first | rfl | (simp; done) | (simp [*]; done), by repeat (first | exact Drawn0.refl _ | apply Drawn0.step)⟩
   ·rw [if_neg c4] at H
    have c4b0 : (a0 == 119) = false := beq_eq_false_iff_ne.mpr c4
    have c4b1 : (a0 != 119) = true := bne_iff_ne.mpr c4
    by_cases c5 : a0 = 113
    ·rw [if_pos c5] at H
     have c5b0 : (a0 == 113) = true := beq_iff_eq.mpr c5
     have c5b1 : (a0 != 113) = false := bne_eq_false_iff_eq.mpr c5
     clear c5
     obtain rfl := Option.some.inj H
     go_enter Try.func38, Try.ntmps38
     go_wp2
     go_ret
     exact ⟨by first | rfl | (simp; done) | (simp [*]; done), by repeat (first | exact Drawn0.refl _ | apply Drawn0.step)⟩
    ·rw [if_neg c5] at H
     have c5b0 : (a0 == 113) = false := beq_eq_false_iff_ne.mpr c5
     have c5b1 : (a0 != 113) = true := bne_iff_ne.mpr c5
     obtain rfl := Option.some.inj H
     go_enter Try.func38, Try.ntmps38
     go_wp2
     go_ret
     exact ⟨by first | rfl | (simp; done) | (simp [*]; done), by repeat (first | exact Drawn0.refl _ | apply Drawn0.step)⟩
def waggonerref01_Pack_p.l0 : Nat → ByteArray → List Int → List Int → Int → Option (List Int × Int)
 | 0, _, _, _, _ => none
 | k + 1, x0, x1, x6, x7 => if x7 < (x0.size : Int) then (if 0 ≤ x7 then (if x7 < (x1.length : Int) then ((waggonerref01_size.f (bt x0 x7)).bind fun t258 => ((waggonerref01_Put.f x6 (rd x1 x7) t258).bind fun bt259 => (if bt259.2 = 0 then (waggonerref01_Pack_p.l0 k x0 x1 bt259.1 (wrap64 (x7 + 1))) else (some (([] : List Int), 10))))) else (none)) else (none)) else (some (x6, 0))
def waggonerref01_Pack_p.f (k : Nat) (a0 : ByteArray) (l1 : List Int) : Option (List Int × Int) := if (a0.size : Int) = (l1.length : Int) then (waggonerref01_Pack_p.l0 k a0 l1 ([] : List Int) 0) else (some (([] : List Int), 10))
def waggonerref01_Pack_p.T7 : Bool × List (List Nat × List Nat) := (true, [([], []), ([], []), ([], []), ([1, 2], [1, 2]), ([3], [3]), ([], []), ([], []), ([5, 6], [5, 6]), ([7], [7]), ([0, 4, 8, 8], [0, 4, 8]), ([9], [9]), ([10], [10]), ([10], [10]), ([11, 9, 0, 1, 2, 3, 4, 5, 6, 7, 8, 9, 10, 11], [11]), ([12, 13, 0, 1, 2, 3, 4, 5, 6, 7, 8, 9, 10, 11, 12, 13], [12])])
def waggonerref01_Pack_p.B7 : List Nat := [0, 0, 0, 6, 14, 0, 0, 96, 224, 511, 1023, 2047, 2047, 4095, 16383]
theorem waggonerref01_Pack_p.tab7 : rtab .any (opsOf Try.f22 7) = waggonerref01_Pack_p.T7 := by kernel_rfl
theorem waggonerref01_Pack_p.bits7 : waitsOk waggonerref01_Pack_p.T7.2 waggonerref01_Pack_p.B7 = true := by kernel_rfl
set_option maxHeartbeats 8000000 in
set_option maxRecDepth 100000 in
theorem waggonerref01_Pack_p.calls (k : Nat) (a0 : ByteArray) (A1 : Option Addr) (c1 : Nat) (l1 : List Int) (r1 : List Int) (r2 : Int) (w : World) (hr1 : Kd.C (Kd.int .u64) w A1 l1.length l1) (hc1 : l1.length ≤ c1) (h : waggonerref01_Pack_p.f k a0 l1 = some (r1, r2)) :
  Calls Try.prog 22 #[.string a0, .slice A1 l1.length c1] w fun e w' => ∃ v0_ : Value, e = .returned (.tuple #[v0_, .int .i64 r2]) ∧ Kd.R (Kd.int .u8) 5 w' w.heap.size (fun _ => True) v0_ r1 ∧ Below w.heap.size w w' := by
 have HR1 := Aside0.mk hr1
 have HC1 := Aside0.mk hc1
 clear hr1 hc1
 have HB := Aside0.mk (Below.refl w.heap.size w)
 have H : (if (a0.size : Int) = (l1.length : Int) then (waggonerref01_Pack_p.l0 k a0 l1 ([] : List Int) 0) else (some (([] : List Int), 10))) = some (r1, r2) := h
 clear h
 by_cases c3 : (a0.size : Int) = (l1.length : Int)
 ·rw [if_pos c3] at H
  have c3b0 : ((a0.size : Int) == (l1.length : Int)) = true := beq_iff_eq.mpr c3
  have c3b1 : ((a0.size : Int) != (l1.length : Int)) = false := bne_eq_false_iff_eq.mpr c3
  have c3b2 : (a0.size == l1.length) = true := by first | simpa using c3 | (simp at c3 ⊢; omega)
  clear c3
  have H' := Aside0.mk H
  clear H
  go_enter Try.func22, Try.ntmps22
  go_wp2
  go_loopg [6, 7] k (fun kq v6 v7 w' => ∃ (x6_1 : List Int) (x7_1 : Int), v7 = .int .i64 x7_1 ∧ Aside0 (waggonerref01_Pack_p.l0 kq a0 l1 x6_1 x7_1 = some (r1, r2)) ∧ Aside0 (kq ≤ k) ∧ Aside0 (Kd.R (Kd.int .u8) 5 w' w.heap.size (fun _ => True) v6 x6_1) ∧ Aside0 (Below w.heap.size w w'))
  case atStart => exact ⟨(([] : List Int)), (0), Cz.si, H', ⟨Nat.le_refl _⟩, ⟨by first | exact Kd.R_nil _ _ _ _ _ | exact Kd.N_nil _ _ _ _ _ | exact Kd.V_nil _ _ _ _ _ | exact Kd.Q_nil _ _ _ _ _ | exact Kd.S_nil _ _ _ _ _⟩, ⟨Cz.bl (w := w)⟩⟩
  case round =>
   clear H'
   try clear c1
   try clear c2
   try clear p2
   try clear c3
   try clear c3b0
   try clear c3b1
   try clear c3b2
   obtain ⟨x6_1, x7_1, rfl, HA, HK1, HO_6, HB⟩ := hrel
   cases gk with
   | zero => exact absurd HA.out (by simp [waggonerref01_Pack_p.l0])
   | succ k1 =>
    have H := HA.out
    clear HA
    simp only [waggonerref01_Pack_p.l0] at H
    by_cases c4 : x7_1 < (a0.size : Int)
    ·rw [if_pos c4] at H
     have c4b0 : decide (x7_1 < (a0.size : Int)) = true := decide_eq_true c4
     clear c4
     by_cases c5 : 0 ≤ x7_1
     ·rw [if_pos c5] at H
      have c5b0 : decide (0 ≤ x7_1) = true := decide_eq_true c5
      clear c5
      by_cases c6 : x7_1 < (l1.length : Int)
      ·rw [if_pos c6] at H
       have c6b0 : decide (x7_1 < (l1.length : Int)) = true := decide_eq_true c6
       clear c6
       replace H := Option.bind_eq_some_iff.mp H
       obtain ⟨t258, A80, H⟩ := H
       (try dsimp only at H)
       have A8 := Aside0.mk A80
       clear A80
       replace H := Option.bind_eq_some_iff.mp H
       obtain ⟨⟨t259, t260⟩, A90, H⟩ := H
       (try dsimp only at H)
       have A9 := Aside0.mk A90
       clear A90
       by_cases c10 : t260 = 0
       ·rw [if_pos c10] at H
        have c10b0 : (t260 == 0) = true := beq_iff_eq.mpr c10
        have c10b1 : (t260 != 0) = false := bne_eq_false_iff_eq.mpr c10
        clear c10
        have H' := Aside0.mk H
        clear H
        try go_wp2
        replace HO_6 := Aside0.mk (Kd.R_drew HO_6.out)
        replace HB := Aside0.mk (below_drew1 HB.out)
        have p257 : 0 ≤ (x7_1 : Int) := of_decide_eq_true (by first | (with_reducible assumption) | assumption)
        have q257 : x7_1 < (l1.length : Int) := of_decide_eq_true (by first | (with_reducible assumption) | assumption)
        obtain ⟨ad257, e257, hx257_0⟩ := Kd.at_int HR1.out x7_1 p257 q257
        have hw257_0 := hx257_0
        cases e257
        replace hx257_0 := (HB.out.cell (World.block_lt_of_cell? w _ hx257_0)).trans hx257_0
        replace p257 := eq_true p257
        replace q257 := eq_true q257
        have p7 : 0 ≤ (x7_1 : Int) := of_decide_eq_true (by first | (with_reducible assumption) | assumption)
        have q7 : x7_1 < (a0.size : Int) := of_decide_eq_true (by first | (with_reducible assumption) | assumption)
        have hx7 := bt_at a0 x7_1
        replace p7 := eq_true p7
        replace q7 := eq_true q7
        refine start_ (n := 15) (S := fun w' => w'.cell? (ad257.add (x7_1).toNat) = some (.int .u64 (rd l1 x7_1))) (ds := []) #[false, false, false, false, false, false, false, false, false, false, false, false, false, false, false] (by kernel_rfl) rfl rfl (((HB.out.cell (World.block_lt_of_cell? w _ hw257_0)).trans hw257_0)) (fun hHeld => ?_); refine with_tabW waggonerref01_Pack_p.tab7 waggonerref01_Pack_p.bits7 (fun HT_ HW_ => ?_)
        generalize wr.drew = w11 at HO_6 HB hx257_0 hHeld ⊢
        refine Cz.qP 0 22 HT_ ?_
        refine Cz.qP 1 23 HT_ ?_
        refine Cz.qP 2 24 HT_ ?_
        refine Cz.qP 3 25 HT_ ?_
        refine Cz.qP 5 27 HT_ ?_
        refine Cz.qP 6 28 HT_ ?_
        refine Cz.qT 4 26 HT_ HW_ hHeld ?_
        refine Cz.qT 7 29 HT_ HW_ hHeld ?_
        refine Cz.qO (N := some 30) 8 HT_ (fun K hK => ?_)
        refine Cz.gO Try.func38 #[.int .u8 (bt a0 x7_1)] ?_
        with_reducible refine (waggonerref01_size.calls (bt a0 x7_1) t258 _ A8.out).mono ?_
        rintro e w' ⟨rfl, ⟨nd, rfl⟩⟩
        refine ⟨_, rfl, ?_⟩
        obtain ⟨Ao12, co12, eo12⟩ := Kd.R_slice HO_6.out
        (first | subst eo12 | (injection eo12 with f1_ f2_ f3_; have f4_ := f1_.symm; have f5_ := f3_.symm; clear f1_ f2_ f3_; subst f4_; subst f5_))
        refine hK.out _ _ (((HB.out.cell (World.block_lt_of_cell? w _ hw257_0)).trans hw257_0)) (fun hHeld => ?_)
        clear hK K
        refine norm_ (a' := ?_) ?_ ?_
        rotate_left
        ·show Act.put _ (some 30) _ = _
         simp only [Act.put, Kx.sb, Kx.sz, Kx.ss, i64_w, i32_w]
         rfl
        refine Cz.qO (N := some 31) 9 HT_ (fun K hK => ?_)
        refine Cz.gO Try.func37 #[.slice Ao12 x6_1.length co12, .int .u64 (rd l1 x7_1), .int .i64 t258] ?_
        with_reducible refine (waggonerref01_Put.calls _ _ x6_1 (rd l1 x7_1) t258 t259 t260 _ ?side1 ?side2 A9.out).mono ?_
        (case side1 => repeat (first | exact (Kd.R_reads' HO_6.out).2.2 | (with_reducible refine Kd.C_alloc ?_ _) | (with_reducible refine Kd.C_drewN ?_ _) | (with_reducible refine Kd.C_drew ?_)))
        (case side2 => exact (Kd.R_reads' HO_6.out).2.1)
        rintro e w13 ⟨v261, rfl, ho0, hb⟩
        refine ⟨_, rfl, ?_⟩
        have HO262 := Aside0.mk (Kd.R_lower (Kd.R_new' ho0 (Kd.R_lt (by (with_reducible repeat (first | apply Kd.R_alloc | apply Kd.R_drewN | apply Kd.R_drew)); exact HO_6.out))) (below_size (Cz.bl (w := w))))
        replace HO_6 := Aside0.mk (Kd.R_elder' (Cz.rq HO_6) (Kd.R_base ho0) hb)
        replace HB := Cz.bs (w := w) hb
        (try clear hb)
        (try clear hb2)
        (try clear hk)
        (try clear hi)
        (try clear ho0)
        refine hK.out _ _ (((HB.out.cell (World.block_lt_of_cell? w _ hw257_0)).trans hw257_0)) (fun hHeld => ?_)
        clear hK K
        refine norm_ (a' := ?_) ?_ ?_
        rotate_left
        ·show Act.put _ (some 31) _ = _
         simp only [Act.put, Kx.sb, Kx.sz, Kx.ss, i64_w, i32_w]
         rfl
        refine Cz.qP 10 21 HT_ ?_
        refine Cz.qP 11 32 HT_ ?_
        refine Cz.qP 12 33 HT_ ?_
        refine Cz.qP 13 8 HT_ ?_
        refine Cz.qP 14 9 HT_ ?_
        refine done_ (done_of HT_.out (by kernel_rfl)) ?_
        try go_wp2
        go_roundg k1
        case measure => have := HK1.out; omega
        case rel => exact ⟨(t259), (wrap64 (x7_1 + 1)), Cz.si, H', ⟨by have := HK1.out; omega⟩, ⟨by (with_reducible repeat (first | apply Kd.R_alloc | apply Kd.R_drewN | apply Kd.R_drew)); exact Kd.R_mono HO262.out (fun _ hk => trivial)⟩, ⟨Cz.bl (w := w)⟩⟩
       ·rw [if_neg c10] at H
        have c10b0 : (t260 == 0) = false := beq_eq_false_iff_ne.mpr c10
        have c10b1 : (t260 != 0) = true := bne_iff_ne.mpr c10
        simp only [Option.some.injEq, Prod.mk.injEq] at H
        obtain ⟨rfl, rfl⟩ := H
        try go_wp2
        replace HO_6 := Aside0.mk (Kd.R_drew HO_6.out)
        replace HB := Aside0.mk (below_drew1 HB.out)
        have p257 : 0 ≤ (x7_1 : Int) := of_decide_eq_true (by first | (with_reducible assumption) | assumption)
        have q257 : x7_1 < (l1.length : Int) := of_decide_eq_true (by first | (with_reducible assumption) | assumption)
        obtain ⟨ad257, e257, hx257_0⟩ := Kd.at_int HR1.out x7_1 p257 q257
        have hw257_0 := hx257_0
        cases e257
        replace hx257_0 := (HB.out.cell (World.block_lt_of_cell? w _ hx257_0)).trans hx257_0
        replace p257 := eq_true p257
        replace q257 := eq_true q257
        have p7 : 0 ≤ (x7_1 : Int) := of_decide_eq_true (by first | (with_reducible assumption) | assumption)
        have q7 : x7_1 < (a0.size : Int) := of_decide_eq_true (by first | (with_reducible assumption) | assumption)
        have hx7 := bt_at a0 x7_1
        replace p7 := eq_true p7
        replace q7 := eq_true q7
        refine start_ (n := 15) (S := fun w' => w'.cell? (ad257.add (x7_1).toNat) = some (.int .u64 (rd l1 x7_1))) (ds := []) #[false, false, false, false, false, false, false, false, false, false, false, false, false, false, false] (by kernel_rfl) rfl rfl (((HB.out.cell (World.block_lt_of_cell? w _ hw257_0)).trans hw257_0)) (fun hHeld => ?_); refine with_tabW waggonerref01_Pack_p.tab7 waggonerref01_Pack_p.bits7 (fun HT_ HW_ => ?_)
        generalize wr.drew = w14 at HO_6 HB hx257_0 hHeld ⊢
        refine Cz.qP 0 22 HT_ ?_
        refine Cz.qP 1 23 HT_ ?_
        refine Cz.qP 2 24 HT_ ?_
        refine Cz.qP 3 25 HT_ ?_
        refine Cz.qP 5 27 HT_ ?_
        refine Cz.qP 6 28 HT_ ?_
        refine Cz.qT 4 26 HT_ HW_ hHeld ?_
        refine Cz.qT 7 29 HT_ HW_ hHeld ?_
        refine Cz.qO (N := some 30) 8 HT_ (fun K hK => ?_)
        refine Cz.gO Try.func38 #[.int .u8 (bt a0 x7_1)] ?_
        with_reducible refine (waggonerref01_size.calls (bt a0 x7_1) t258 _ A8.out).mono ?_
        rintro e w' ⟨rfl, ⟨nd, rfl⟩⟩
        refine ⟨_, rfl, ?_⟩
        obtain ⟨Ao15, co15, eo15⟩ := Kd.R_slice HO_6.out
        (first | subst eo15 | (injection eo15 with f1_ f2_ f3_; have f4_ := f1_.symm; have f5_ := f3_.symm; clear f1_ f2_ f3_; subst f4_; subst f5_))
        refine hK.out _ _ (((HB.out.cell (World.block_lt_of_cell? w _ hw257_0)).trans hw257_0)) (fun hHeld => ?_)
        clear hK K
        refine norm_ (a' := ?_) ?_ ?_
        rotate_left
        ·show Act.put _ (some 30) _ = _
         simp only [Act.put, Kx.sb, Kx.sz, Kx.ss, i64_w, i32_w]
         rfl
        refine Cz.qO (N := some 31) 9 HT_ (fun K hK => ?_)
        refine Cz.gO Try.func37 #[.slice Ao15 x6_1.length co15, .int .u64 (rd l1 x7_1), .int .i64 t258] ?_
        with_reducible refine (waggonerref01_Put.calls _ _ x6_1 (rd l1 x7_1) t258 t259 t260 _ ?side1 ?side2 A9.out).mono ?_
        (case side1 => repeat (first | exact (Kd.R_reads' HO_6.out).2.2 | (with_reducible refine Kd.C_alloc ?_ _) | (with_reducible refine Kd.C_drewN ?_ _) | (with_reducible refine Kd.C_drew ?_)))
        (case side2 => exact (Kd.R_reads' HO_6.out).2.1)
        rintro e w16 ⟨v261, rfl, ho0, hb⟩
        refine ⟨_, rfl, ?_⟩
        have HO262 := Aside0.mk (Kd.R_lower (Kd.R_new' ho0 (Kd.R_lt (by (with_reducible repeat (first | apply Kd.R_alloc | apply Kd.R_drewN | apply Kd.R_drew)); exact HO_6.out))) (below_size (Cz.bl (w := w))))
        replace HO_6 := Aside0.mk (Kd.R_elder' (Cz.rq HO_6) (Kd.R_base ho0) hb)
        replace HB := Cz.bs (w := w) hb
        (try clear hb)
        (try clear hb2)
        (try clear hk)
        (try clear hi)
        (try clear ho0)
        refine hK.out _ _ (((HB.out.cell (World.block_lt_of_cell? w _ hw257_0)).trans hw257_0)) (fun hHeld => ?_)
        clear hK K
        refine norm_ (a' := ?_) ?_ ?_
        rotate_left
        ·show Act.put _ (some 31) _ = _
         simp only [Act.put, Kx.sb, Kx.sz, Kx.ss, i64_w, i32_w]
         rfl
        refine Cz.qP 10 21 HT_ ?_
        refine Cz.qP 11 32 HT_ ?_
        refine Cz.qP 12 33 HT_ ?_
        refine Cz.qP 13 8 HT_ ?_
        refine Cz.qP 14 9 HT_ ?_
        refine done_ (done_of HT_.out (by kernel_rfl)) ?_
        try go_wp2
        go_ret2
        exact ⟨_, Cz.er, by first | exact Kd.R_nil _ _ _ _ _ | exact Kd.N_nil _ _ _ _ _ | exact Kd.V_nil _ _ _ _ _ | exact Kd.Q_nil _ _ _ _ _ | exact Kd.S_nil _ _ _ _ _, Cz.bl (w := w)⟩
      ·rw [if_neg c6] at H
       exact absurd H (by simp)
     ·rw [if_neg c5] at H
      exact absurd H (by simp)
    ·rw [if_neg c4] at H
     have c4b0 : decide (x7_1 < (a0.size : Int)) = false := decide_eq_false c4
     clear c4
     simp only [Option.some.injEq, Prod.mk.injEq] at H
     obtain ⟨rfl, rfl⟩ := H
     go_wp2
     go_ret2
     exact ⟨_, Cz.er, Cz.rh, Cz.bl (w := w)⟩
 ·rw [if_neg c3] at H
  have c3b0 : ((a0.size : Int) == (l1.length : Int)) = false := beq_eq_false_iff_ne.mpr c3
  have c3b1 : ((a0.size : Int) != (l1.length : Int)) = true := bne_iff_ne.mpr c3
  have c3b2 : (a0.size == l1.length) = false := by first | simpa using c3 | (simp at c3 ⊢; omega)
  simp only [Option.some.injEq, Prod.mk.injEq] at H
  obtain ⟨rfl, rfl⟩ := H
  go_enter Try.func22, Try.ntmps22
  go_wp2
  go_ret2
  exact ⟨_, Cz.er, by first | exact Kd.R_nil _ _ _ _ _ | exact Kd.N_nil _ _ _ _ _ | exact Kd.V_nil _ _ _ _ _ | exact Kd.Q_nil _ _ _ _ _ | exact Kd.S_nil _ _ _ _ _, Cz.bl (w := w)⟩
theorem waggonerref01_size.tells (c : Int) : waggonerref01_size.f c = some (Pl.letS c) := by
 unfold waggonerref01_size.f Pl.letS
 repeat' split
 all_goals rfl
theorem bt_fb (s : ByteArray) (i : Nat) (h : i < s.size) : bt s (i : Int) = (Pl.fb s)[i]'(by rw [Pl.fb_length]; exact h) := by
 unfold bt
 rw [dif_pos (by rw [Int.toNat_natCast]; exact h)]
 simp only [Pl.fb, List.getElem_map, Int.toNat_natCast]
 rfl
def waggonerref01_Pack.f (a0 : ByteArray) (l1 : List Int) : Option (List Int × Int) := if Pl.u64B l1 = true ∧ a0.size < 2147483648 then some (Pl.packS (Pl.fb a0) l1) else none
theorem waggonerref01_Pack.loop (s : ByteArray) (l : List Int) (hl : Pl.u64B l = true) (hn : s.size = l.length) (hs : s.size < 2147483648) : ∀ (d k i : Nat) (out : List Int), i + d = s.size → d < k → out.length ≤ 8 * i →
  waggonerref01_Pack_p.l0 k s l out (i : Int) = some (Pl.packGo out ((Pl.fb s).drop i) (l.drop i))
 | 0, k, i, out, hi, hk, ho => by
  obtain ⟨k, rfl⟩ : ∃ m, k = m + 1 := ⟨k - 1, by omega⟩
  simp only [waggonerref01_Pack_p.l0]
  rw [if_neg (by omega), List.drop_eq_nil_of_le (by rw [Pl.fb_length]; omega), List.drop_eq_nil_of_le (by omega)]
  rfl
 | d + 1, k, i, out, hi, hk, ho => by
  obtain ⟨k, rfl⟩ : ∃ m, k = m + 1 := ⟨k - 1, by omega⟩
  have hif : i < (Pl.fb s).length := by rw [Pl.fb_length]; omega
  have hil : i < l.length := by omega
  have hrd : rd l (i : Int) = l[i]'hil := by unfold rd; rw [Int.toNat_natCast, List.getD_eq_getElem?_getD, List.getElem?_eq_getElem hil, Option.getD_some]
  have hb := Pl.u64B_iff.1 hl _ (List.getElem_mem hil)
  simp only [waggonerref01_Pack_p.l0]
  rw [if_pos (by omega), if_pos (by omega), if_pos (by omega), bt_fb s i (by omega), hrd, waggonerref01_size.tells, Option.bind_some]
  rw [List.drop_eq_getElem_cons hif, List.drop_eq_getElem_cons hil, Pl.packGo]
  unfold waggonerref01_Put.f
  rw [if_pos ⟨hb.1, hb.2, by omega⟩, Option.bind_some]
  unfold Pl.putS
  have h8 := Pl.letS_le ((Pl.fb s)[i]'hif)
  by_cases hf : Pl.fits (l[i]'hil) (Pl.letS ((Pl.fb s)[i]'hif)) = true
  ·rw [if_pos hf, if_pos hf]
   rw [if_pos rfl, show wrap64 ((i : Int) + 1) = ((i + 1 : Nat) : Int) from by unfold wrap64; omega]
   exact waggonerref01_Pack.loop s l hl hn hs d k (i + 1) _ (by omega) (by omega) (by rw [List.length_append, Pl.leB_length]; omega)
  ·rw [if_neg hf, if_neg hf]
   rfl
theorem waggonerref01_Pack.tells {a0 : ByteArray} {l1 : List Int} {r : List Int × Int} (h : waggonerref01_Pack.f a0 l1 = some r) : waggonerref01_Pack_p.f (a0.size + 1) a0 l1 = some r := by
 unfold waggonerref01_Pack.f at h
 split at h
 case isFalse => cases h
 rename_i hh
 obtain ⟨h0, h1⟩ := hh
 obtain rfl := Option.some.inj h
 unfold waggonerref01_Pack_p.f Pl.packS
 by_cases he : (a0.size : Int) = (l1.length : Int)
 ·rw [if_pos he]
  exact waggonerref01_Pack.loop a0 l1 h0 (by omega) h1 a0.size (a0.size + 1) 0 [] (by omega) (by omega) (by simp)
 ·rw [if_neg he, Pl.packGo_ne _ _ _ (by rw [Pl.fb_length]; omega)]
theorem waggonerref01_Pack.calls (a0 : ByteArray) (A1 : Option Addr) (c1 : Nat) (l1 : List Int) (r1 : List Int) (r2 : Int) (w : World) (hr1 : Kd.C (Kd.int .u64) w A1 l1.length l1) (hc1 : l1.length ≤ c1) (h : waggonerref01_Pack.f a0 l1 = some (r1, r2)) :
  Calls Try.prog 22 #[.string a0, .slice A1 l1.length c1] w fun e w' => ∃ v0_ : Value, e = .returned (.tuple #[v0_, .int .i64 r2]) ∧ Kd.R (Kd.int .u8) 5 w' w.heap.size (fun _ => True) v0_ r1 ∧ Below w.heap.size w w' :=
 waggonerref01_Pack_p.calls (a0.size + 1) a0 A1 c1 l1 r1 r2 w hr1 hc1 (waggonerref01_Pack.tells h)
end Go.Proofs.Ytmgohkffphogdaa.PU
