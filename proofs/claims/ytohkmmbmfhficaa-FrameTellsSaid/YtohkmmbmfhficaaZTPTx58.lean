/- Words and walks that this claim names, of those that the kit's print and programs of this workplace have printed. -/
import Derived.Test.YtohkmmbmfhficaaZTPTx11
import Derived.Test.YtohkmmbmfhficaaZTPTx50
import Derived.Test.YtohkmmbmfhficaaZTPTx51
namespace Go.Proofs.Ytohkmmbmfhficaa.PT
open Go.RowKit Go.Proofs.YtohkmmbmfhficaaW.PrintWords Go.Proofs.YtohkmmbmfhficaaW.PrintLast Go.Proofs.YtohkmmbmfhficaaW.PrintMore
attribute [local go_sem] max2_int min2_int max_two min_two max_three min_three max_four min_four
set_option linter.unusedVariables false
set_option linter.unusedSimpArgs false
def waggonerref16_Check.f (a0_0 a0_1 a0_2 : Int) (l0_3 : List Int) (a0_4 a0_5 a0_6 : Int) : Option Bool := if l0_3.length < 1073741824 then some (Pl.frOk a0_0 a0_1 a0_2 l0_3 a0_4 a0_5 a0_6) else none
theorem waggonerref16_Check.tells {a0_0 a0_1 a0_2 : Int} {l0_3 : List Int} {a0_4 a0_5 a0_6 : Int} (h : l0_3.length < 1073741824) : waggonerref16_Check.f a0_0 a0_1 a0_2 l0_3 a0_4 a0_5 a0_6 = some (Pl.frOk a0_0 a0_1 a0_2 l0_3 a0_4 a0_5 a0_6) := if_pos h
theorem waggonerref16_Check.inner {k a n : Int} {d : List Int} {A B C : Int} (hd : d.length < 1073741824) (b : Bool) (hb : b = decide (0 ≤ a ∧ a ≤ 64 ∧ 1 ≤ n ∧ n ≤ 64 - a)) : waggonerref16_Check_p.j0 4 b k a n d A B C = some (Pl.frOk k a n d A B C) := by
 have h0 : waggonerref16_Check_p.j0 4 b k a n d A B C = waggonerref16_Check_p.j1 3 b (decide (A = 0 ∧ B = 0 ∧ C = 0)) k a n d A B C := by
  simp only [waggonerref16_Check_p.j0]
  by_cases h1 : A = 0
  ·by_cases h2 : B = 0
   ·rw [if_pos h1, if_pos h2]
    congr 1
    rw [Bool.eq_iff_iff, beq_iff_eq, decide_eq_true_eq]; omega
   ·rw [if_pos h1, if_neg h2, decide_eq_false (by omega)]
  ·rw [if_neg h1, decide_eq_false (by omega)]
 have h1 : waggonerref16_Check_p.j1 3 b (decide (A = 0 ∧ B = 0 ∧ C = 0)) k a n d A B C = waggonerref16_Check_p.j2 2 b (decide (A = 0 ∧ B = 0 ∧ C = 0)) (decide (a = 0 ∧ n = 0 ∧ d.length = 0)) k a n d A B C := by
  simp only [waggonerref16_Check_p.j1]
  by_cases h1 : a = 0
  ·by_cases h2 : n = 0
   ·rw [if_pos h1, if_pos h2]
    congr 1
    rw [Bool.eq_iff_iff, beq_iff_eq, decide_eq_true_eq]; omega
   ·rw [if_pos h1, if_neg h2, decide_eq_false (show ¬ (a = 0 ∧ n = 0 ∧ d.length = 0) by omega)]
  ·rw [if_neg h1, decide_eq_false (show ¬ (a = 0 ∧ n = 0 ∧ d.length = 0) by omega)]
 rw [h0, h1]
 clear h0 h1
 simp only [waggonerref16_Check_p.j2, waggonerref16_Check_p.j3]
 rw [waggonerref16_zeros.tells hd, Option.bind_some]
 have hlen : ((d.length : Int) == 0) = decide (d.length = 0) := by rw [Bool.eq_iff_iff, beq_iff_eq, decide_eq_true_eq]; omega
 by_cases k1 : k = 1
 ·subst k1
  rw [if_pos rfl, Pl.frOk_1]
  by_cases g : a = 0 ∧ n = 0 ∧ d.length = 0
  rotate_left
  ·rw [decide_eq_false g, if_neg (by decide), decide_eq_false (by omega)]
  rw [decide_eq_true g, if_pos rfl]
  by_cases g1 : A ≥ 1
  rotate_left
  ·rw [if_neg g1, decide_eq_false (by omega)]
  by_cases g2 : A ≤ 64
  rotate_left
  ·rw [if_pos g1, if_neg g2, decide_eq_false (by omega)]
  by_cases g3 : B ≥ 0
  rotate_left
  ·rw [if_pos g1, if_pos g2, if_neg g3, decide_eq_false (by omega)]
  by_cases g4 : C > B
  rotate_left
  ·rw [if_pos g1, if_pos g2, if_pos g3, if_neg g4, decide_eq_false (by omega)]
  rw [if_pos g1, if_pos g2, if_pos g3, if_pos g4, Option.some.injEq, decide_eq_decide]
  omega
 rw [if_neg k1]
 by_cases k2 : k = 2
 ·subst k2
  rw [if_pos rfl, Pl.frOk_2]
  by_cases g1 : 0 ≤ a ∧ a ≤ 64 ∧ 1 ≤ n ∧ n ≤ 64 - a
  rotate_left
  ·rw [hb, decide_eq_false g1, if_neg (by decide), decide_eq_false (by omega), Bool.false_and]
  rw [hb, decide_eq_true g1, if_pos rfl, show wrap64 (32 * n) = 32 * n by unfold wrap64; omega]
  by_cases g2 : A = 0 ∧ B = 0 ∧ C = 0
  rotate_left
  ·rw [decide_eq_false g2, if_neg (by decide), decide_eq_false (by omega), Bool.false_and]
  rw [decide_eq_true g2, if_pos rfl]
  by_cases g3 : n ≤ 16
  rotate_left
  ·rw [if_neg g3, decide_eq_false (by omega), Bool.false_and]
  rw [if_pos g3]
  by_cases g4 : (d.length : Int) = 32 * n
  ·rw [if_pos g4, decide_eq_true (by omega), Bool.true_and]
  ·rw [if_neg g4, decide_eq_false (by omega), Bool.false_and]
 rw [if_neg k2]
 have key : ∀ t : Bool, t = decide (k = 3 ∨ k = 4) → (if t = true then (if b = true then (if decide (A = 0 ∧ B = 0 ∧ C = 0) = true then some ((d.length : Int) == 0) else some false) else some false) else (if k = 5 then (if decide (a = 0 ∧ n = 0 ∧ d.length = 0) = true then (if A ≥ 1 then (if A ≤ 65535 then (if B ≥ 0 then (if B < 4294967296 then some (C == 0) else some false) else some false) else some false) else some false) else some false) else some false)) = some (Pl.frOk k a n d A B C) := by
  intro t ht
  by_cases k3 : k = 3 ∨ k = 4
  ·rw [ht, decide_eq_true k3, if_pos rfl, Pl.frOk_3 k3, hlen, hb]
   by_cases g1 : 0 ≤ a ∧ a ≤ 64 ∧ 1 ≤ n ∧ n ≤ 64 - a
   rotate_left
   ·rw [decide_eq_false g1, if_neg (by decide), decide_eq_false (by omega)]
   by_cases g2 : A = 0 ∧ B = 0 ∧ C = 0
   rotate_left
   ·rw [decide_eq_true g1, if_pos rfl, decide_eq_false g2, if_neg (by decide), decide_eq_false (by omega)]
   rw [decide_eq_true g1, if_pos rfl, decide_eq_true g2, if_pos rfl, Option.some.injEq, decide_eq_decide]
   omega
  rw [ht, decide_eq_false k3, if_neg (by decide)]
  by_cases k5 : k = 5
  ·subst k5
   rw [if_pos rfl, Pl.frOk_5]
   by_cases g : a = 0 ∧ n = 0 ∧ d.length = 0
   rotate_left
   ·rw [decide_eq_false g, if_neg (by decide), decide_eq_false (by omega)]
   rw [decide_eq_true g, if_pos rfl]
   by_cases g1 : A ≥ 1
   rotate_left
   ·rw [if_neg g1, decide_eq_false (by omega)]
   by_cases g2 : A ≤ 65535
   rotate_left
   ·rw [if_pos g1, if_neg g2, decide_eq_false (by omega)]
   by_cases g3 : B ≥ 0
   rotate_left
   ·rw [if_pos g1, if_pos g2, if_neg g3, decide_eq_false (by omega)]
   by_cases g4 : B < 4294967296
   rotate_left
   ·rw [if_pos g1, if_pos g2, if_pos g3, if_neg g4, decide_eq_false (by omega)]
   rw [if_pos g1, if_pos g2, if_pos g3, if_pos g4, Option.some.injEq, Bool.eq_iff_iff, beq_iff_eq, decide_eq_true_eq]
   omega
  ·rw [if_neg k5, Pl.frOk_not (by omega)]
 by_cases k3 : k = 3
 ·rw [if_pos k3]
  exact key _ (by subst k3; rfl)
 ·rw [if_neg k3]
  exact key _ (by rw [Bool.eq_iff_iff, beq_iff_eq, decide_eq_true_eq]; omega)
theorem waggonerref16_Check.closes {a0_0 a0_1 a0_2 : Int} {l0_3 : List Int} {a0_4 a0_5 a0_6 : Int} {r : Bool} (h : waggonerref16_Check.f a0_0 a0_1 a0_2 l0_3 a0_4 a0_5 a0_6 = some r) : waggonerref16_Check_p.f 4 a0_0 a0_1 a0_2 l0_3 a0_4 a0_5 a0_6 = some r := by
 unfold waggonerref16_Check.f at h
 split at h
 case isFalse => cases h
 rename_i hd
 rw [← h]
 unfold waggonerref16_Check_p.f
 by_cases h0 : a0_1 ≥ 0
 rotate_left
 ·rw [if_neg h0]; exact waggonerref16_Check.inner hd _ (by rw [decide_eq_false (by omega)])
 rw [if_pos h0]
 by_cases h1 : a0_1 ≤ 64
 rotate_left
 ·rw [if_neg h1]; exact waggonerref16_Check.inner hd _ (by rw [decide_eq_false (by omega)])
 rw [if_pos h1]
 by_cases h2 : a0_2 ≥ 1
 rotate_left
 ·rw [if_neg h2]; exact waggonerref16_Check.inner hd _ (by rw [decide_eq_false (by omega)])
 rw [if_pos h2]
 exact waggonerref16_Check.inner hd _ (by rw [decide_eq_decide, show wrap64 (64 - a0_1) = 64 - a0_1 by unfold wrap64; omega]; omega)
theorem waggonerref16_Check.calls (a0_0 : Int) (a0_1 : Int) (a0_2 : Int) (A0_3 : Option Addr) (c0_3 : Nat) (l0_3 : List Int) (a0_4 : Int) (a0_5 : Int) (a0_6 : Int) (r : Bool) (w : World) (hr0_3 : Kd.C (Kd.int .u8) w A0_3 l0_3.length l0_3) (hc0_3 : l0_3.length ≤ c0_3) (h : waggonerref16_Check.f a0_0 a0_1 a0_2 l0_3 a0_4 a0_5 a0_6 = some r) :
  Calls Try.prog 25 #[.agg #[.int .i64 a0_0, .int .i64 a0_1, .int .i64 a0_2, .slice A0_3 l0_3.length c0_3, .int .i64 a0_4, .int .i64 a0_5, .int .i64 a0_6]] w fun e w' => e = .returned (.bool r) ∧ Below w.heap.size w w' :=
 waggonerref16_Check_p.calls 4 a0_0 a0_1 a0_2 A0_3 c0_3 l0_3 a0_4 a0_5 a0_6 r w hr0_3 hc0_3 (waggonerref16_Check.closes h)
def waggonerref01_may.f (a0 : Int) : Option (Bool) := if a0 = 1 then (some true) else (if a0 = 2 then (some true) else (if a0 = 4 then (some true) else (some (a0 == 8))))
set_option maxHeartbeats 8000000 in
set_option maxRecDepth 100000 in
theorem waggonerref01_may.calls (a0 : Int) (r : Bool) (w : World) (h : waggonerref01_may.f a0 = some r) :
  Calls Try.prog 84 #[.int .i64 a0] w fun e w' => e = .returned (.bool r) ∧ Drawn0 w w' := by
 have H : (if a0 = 1 then (some true) else (if a0 = 2 then (some true) else (if a0 = 4 then (some true) else (some (a0 == 8))))) = some r := h
 clear h
 by_cases c2 : a0 = 1
 ·rw [if_pos c2] at H
  have c2b0 : (a0 == 1) = true := beq_iff_eq.mpr c2
  have c2b1 : (a0 != 1) = false := bne_eq_false_iff_eq.mpr c2
  clear c2
  obtain rfl := Option.some.inj H
  go_enter Try.func84, Try.ntmps84
  go_wp2
  go_ret
  exact ⟨by first | rfl | (simp; done) | (simp [*]; done), by repeat (first | exact Drawn0.refl _ | apply Drawn0.step)⟩
 ·rw [if_neg c2] at H
  have c2b0 : (a0 == 1) = false := beq_eq_false_iff_ne.mpr c2
  have c2b1 : (a0 != 1) = true := bne_iff_ne.mpr c2
  by_cases c3 : a0 = 2
  ·rw [if_pos c3] at H
   have c3b0 : (a0 == 2) = true := beq_iff_eq.mpr c3
   have c3b1 : (a0 != 2) = false := bne_eq_false_iff_eq.mpr c3
   clear c3
   obtain rfl := Option.some.inj H
   go_enter Try.func84, Try.ntmps84
   go_wp2
   go_ret
   exact ⟨by first | rfl | (simp; done) | (simp [*]; done), by repeat (first | exact Drawn0.refl _ | apply Drawn0.step)⟩
  ·rw [if_neg c3] at H
   have c3b0 : (a0 == 2) = false := beq_eq_false_iff_ne.mpr c3
   have c3b1 : (a0 != 2) = true := bne_iff_ne.mpr c3
   by_cases c4 : a0 = 4
   ·rw [if_pos c4] at H
    have c4b0 : (a0 == 4) = true := beq_iff_eq.mpr c4
    have c4b1 : (a0 != 4) = false := bne_eq_false_iff_eq.mpr c4
    clear c4
    obtain rfl := Option.some.inj H
    go_enter Try.func84, Try.ntmps84
    go_wp2
    go_ret
    exact ⟨by first | rfl | (simp; done) | (simp [*]; done), by repeat (first | exact Drawn0.refl _ | apply Drawn0.step)⟩
   ·rw [if_neg c4] at H
    have c4b0 : (a0 == 4) = false := beq_eq_false_iff_ne.mpr c4
    have c4b1 : (a0 != 4) = true := bne_iff_ne.mpr c4
    obtain rfl := Option.some.inj H
    go_enter Try.func84, Try.ntmps84
    go_wp2
    go_ret
    exact ⟨by first | rfl | (simp; done) | (simp [*]; done), by repeat (first | exact Drawn0.refl _ | apply Drawn0.step)⟩
mutual
def waggonerref01_Put_p.j0 : Nat → List Int → Int → Int → Bool → Option (List Int × Int)
 | 0, _, _, _, _ => none
 | k + 1, x0, x1, x2, x26 => if x26 = true then (some (([] : List Int), 10)) else ((some (([] : List Int) : List Int)).bind fun y272 => (if y272.length + x0.length < 140737488355328 then (waggonerref01_Put_p.l0 k x1 x2 (y272 ++ x0) 0) else (none)))
def waggonerref01_Put_p.l0 : Nat → Int → Int → List Int → Int → Option (List Int × Int)
 | 0, _, _, _, _ => none
 | k + 1, x1, x2, x9, x10 => if x10 < x2 then (if 0 ≤ (IntKind.u64.wrap (wrap64 (8 * x10))) then (if x9.length < 140737488355328 then (waggonerref01_Put_p.l0 k x1 x2 (x9 ++ [(shr .u64 x1 (IntKind.u64.wrap (wrap64 (8 * x10)))) % 256]) (wrap64 (x10 + 1))) else (none)) else (none)) else (some (x9, 0))
end
def waggonerref01_Put_p.f (k : Nat) (l0 : List Int) (a1 : Int) (a2 : Int) : Option (List Int × Int) := (waggonerref01_may.f a2).bind fun t271 => (if t271 = true then (if a2 < 8 then (if 0 ≤ (IntKind.u64.wrap (wrap64 (8 * a2))) then (waggonerref01_Put_p.j0 k l0 a1 a2 ((shr .u64 a1 (IntKind.u64.wrap (wrap64 (8 * a2)))) != 0)) else (none)) else (waggonerref01_Put_p.j0 k l0 a1 a2 false)) else (waggonerref01_Put_p.j0 k l0 a1 a2 true))
set_option maxHeartbeats 8000000 in
set_option maxRecDepth 100000 in
theorem waggonerref01_Put_p.calls (k : Nat) (A0 : Option Addr) (c0 : Nat) (l0 : List Int) (a1 : Int) (a2 : Int) (r1 : List Int) (r2 : Int) (w : World) (hr0 : Kd.C (Kd.int .u8) w A0 l0.length l0) (hc0 : l0.length ≤ c0) (h : waggonerref01_Put_p.f k l0 a1 a2 = some (r1, r2)) :
  Calls Try.prog 68 #[.slice A0 l0.length c0, .int .u64 a1, .int .i64 a2] w fun e w' => ∃ v0_ : Value, e = .returned (.tuple #[v0_, .int .i64 r2]) ∧ Kd.R (Kd.int .u8) 5 w' w.heap.size (fun _ => True) v0_ r1 ∧ Below w.heap.size w w' := by
 have HR0 := Aside0.mk hr0
 have HC0 := Aside0.mk hc0
 clear hr0 hc0
 have HB := Aside0.mk (Below.refl w.heap.size w)
 have H : ((waggonerref01_may.f a2).bind fun t271 => (if t271 = true then (if a2 < 8 then (if 0 ≤ (IntKind.u64.wrap (wrap64 (8 * a2))) then (waggonerref01_Put_p.j0 k l0 a1 a2 ((shr .u64 a1 (IntKind.u64.wrap (wrap64 (8 * a2)))) != 0)) else (none)) else (waggonerref01_Put_p.j0 k l0 a1 a2 false)) else (waggonerref01_Put_p.j0 k l0 a1 a2 true))) = some (r1, r2) := h
 clear h
 replace H := Option.bind_eq_some_iff.mp H
 obtain ⟨t271, A40, H⟩ := H
 replace H : (if t271 = true then (if a2 < 8 then (if 0 ≤ (IntKind.u64.wrap (wrap64 (8 * a2))) then (waggonerref01_Put_p.j0 k l0 a1 a2 ((shr .u64 a1 (IntKind.u64.wrap (wrap64 (8 * a2)))) != 0)) else (none)) else (waggonerref01_Put_p.j0 k l0 a1 a2 false)) else (waggonerref01_Put_p.j0 k l0 a1 a2 true)) = some (r1, r2) := H
 have A4 := Aside0.mk A40
 clear A40
 have HC5 := Aside0.mk H
 clear H
 go_enter Try.func68, Try.ntmps68
 go_upto_region 2 with (first | ((with_reducible refine gate_callee (f := 84) rfl ?_); refine goesL_ (some 12) rfl rfl Try.func84 (by kernel_rfl) rfl #[.int .i64 a2] rfl (by (try simp only [List.map_toArray, List.map_cons, List.map_nil]); first | done | rfl | (simp only [List.length_drop, List.length_take]; rfl)) ?_; (with_reducible refine (waggonerref01_may.calls a2 t271 _ A4.out).mono ?_); rintro e w' ⟨rfl, ⟨nd, rfl⟩⟩; refine ⟨_, rfl, ?_⟩))
 (try simp only [Act.put, Kx.sb, Kx.sz, Kx.ss])
 go_cut [26] (fun v26 wc => ∃ (kq : Nat) (x26_4 : Bool), v26 = .bool x26_4 ∧ Aside0 (waggonerref01_Put_p.j0 kq l0 a1 a2 x26_4 = some (r1, r2)) ∧ Aside0 (kq ≤ k) ∧ Aside0 (Below w.heap.size w wc))
 case first =>
  have H := HC5.out
  clear HC5
  by_cases c6 : t271 = true
  ·subst c6
   have H1 : (if a2 < 8 then (if 0 ≤ (IntKind.u64.wrap (wrap64 (8 * a2))) then (waggonerref01_Put_p.j0 k l0 a1 a2 ((shr .u64 a1 (IntKind.u64.wrap (wrap64 (8 * a2)))) != 0)) else (none)) else (waggonerref01_Put_p.j0 k l0 a1 a2 false)) = some (r1, r2) := by rw [if_pos rfl] at H <;> exact H
   clear H
   have H := H1
   clear H1
   by_cases c7 : a2 < 8
   ·rw [if_pos c7] at H
    have c7b0 : decide (a2 < 8) = true := decide_eq_true c7
    clear c7
    (first | rw [c7b0] | (simp only [i64_w, i32_w]; rw [c7b0]) | skip)
    obtain ⟨ji8, hji8⟩ : ∃ j_ : Int, (IntKind.u64.wrap (wrap64 (8 * a2))) = j_ := ⟨_, rfl⟩
    replace H : (if 0 ≤ (ji8) then (waggonerref01_Put_p.j0 k l0 a1 a2 ((shr .u64 a1 (ji8)) != 0)) else (none)) = some (r1, r2) := by first | (rw [hji8] at H; exact H) | (simp only [hji8] at H ⊢; exact H)
    by_cases c9 : 0 ≤ (ji8)
    ·rw [if_pos c9] at H
     have c9b0 := eq_true c9
     have c9b1 : decide (0 ≤ (ji8)) = true := decide_eq_true c9
     clear c9
     obtain ⟨ji10, hji10⟩ : ∃ j_ : Int, (shr .u64 a1 (ji8)) = j_ := ⟨_, rfl⟩
     replace H : (waggonerref01_Put_p.j0 k l0 a1 a2 ((ji10) != 0)) = some (r1, r2) := by first | (rw [hji10] at H; exact H) | (simp only [hji10] at H ⊢; exact H)
     have hji10_ : (a1 / 2 ^ min (ji8).toNat 64) = ji10 := hji10
     have hji10z : (ji8) ≤ 64 → (a1 / 2 ^ (ji8).toNat) = ji10 := shr_small hji10
     have H' := Aside0.mk H
     clear H
     go_wp2
     go_meet
     case rel => exact ⟨_, (((ji10) != 0)), (by first | rfl | (simp; done) | (simp only [← hji10] <;> (first | rfl | simp)) | (simp [*]; done)), H', ⟨by first | omega | exact Nat.le_refl _⟩, ⟨by repeat (first | (with_reducible first | exact HB.out | apply below_alloc | apply pw_below_drewN | apply below_drew1) | exact HB.out)⟩⟩
    ·rw [if_neg c9] at H
     exact absurd H (by simp)
   ·rw [if_neg c7] at H
    have c7b0 : decide (a2 < 8) = false := decide_eq_false c7
    clear c7
    (first | rw [c7b0] | (simp only [i64_w, i32_w]; rw [c7b0]) | skip)
    have H' := Aside0.mk H
    clear H
    go_wp2
    go_meet
    case rel => exact ⟨_, (false), (by first | rfl | (simp; done) | (simp [*]; done)), H', ⟨by first | omega | exact Nat.le_refl _⟩, ⟨by repeat (first | (with_reducible first | exact HB.out | apply below_alloc | apply pw_below_drewN | apply below_drew1) | exact HB.out)⟩⟩
  ·replace c6 := Bool.eq_false_iff.mpr c6
   subst c6
   have H1 : (waggonerref01_Put_p.j0 k l0 a1 a2 true) = some (r1, r2) := by rw [if_neg (show ¬ (false = true) by decide)] at H <;> exact H
   clear H
   have H := H1
   clear H1
   have H' := Aside0.mk H
   clear H
   go_wp2
   go_meet
   case rel => exact ⟨_, (true), (by first | rfl | (simp; done) | (simp [*]; done)), H', ⟨by first | omega | exact Nat.le_refl _⟩, ⟨by repeat (first | (with_reducible first | exact HB.out | apply below_alloc | apply pw_below_drewN | apply below_drew1) | exact HB.out)⟩⟩
 case rest =>
  clear HC5
  try clear p2
  try clear c6
  try clear p6
  try clear c7
  try clear c7b0
  try clear c8
  try clear c9
  try clear c9b0
  try clear c9b1
  obtain ⟨kq, x26_4, rfl, HA, HJ4, HB⟩ := hcut
  cases kq with
  | zero => exact absurd HA.out (by simp [waggonerref01_Put_p.j0])
  | succ kj4 =>
   have H := HA.out
   clear HA
   simp only [waggonerref01_Put_p.j0] at H
   by_cases c11 : x26_4 = true
   ·subst c11
    have H1 : (some (([] : List Int), 10)) = some (r1, r2) := by rw [if_pos rfl] at H <;> exact H
    clear H
    have H := H1
    clear H1
    simp only [Option.some.injEq, Prod.mk.injEq] at H
    obtain ⟨rfl, rfl⟩ := H
    go_wp2
    go_ret2
    exact ⟨_, by first | rfl | (simp [errW_none, errW_some] <;> rfl) | (simp [*, errW_none, errW_some] <;> rfl), by first | exact Kd.R_nil _ _ _ _ _ | exact Kd.N_nil _ _ _ _ _ | exact Kd.V_nil _ _ _ _ _ | exact Kd.Q_nil _ _ _ _ _ | exact Kd.S_nil _ _ _ _ _, by repeat (first | (with_reducible first | exact HB.out | apply below_alloc | apply pw_below_drewN | apply below_drew1) | exact HB.out)⟩
   ·replace c11 := Bool.eq_false_iff.mpr c11
    subst c11
    have H1 : ((some (([] : List Int) : List Int)).bind fun y272 => (if y272.length + l0.length < 140737488355328 then (waggonerref01_Put_p.l0 kj4 a1 a2 (y272 ++ l0) 0) else (none))) = some (r1, r2) := by rw [if_neg (show ¬ (false = true) by decide)] at H <;> exact H
    clear H
    have H := H1
    clear H1
    obtain ⟨y272, hy272⟩ : ∃ y_ : List Int, y_ = (([] : List Int)) := ⟨_, rfl⟩
    replace H : (if y272.length + l0.length < 140737488355328 then (waggonerref01_Put_p.l0 kj4 a1 a2 (y272 ++ l0) 0) else (none)) = some (r1, r2) := by first | (rw [hy272]; with_reducible exact H) | (have H2_ := (Option.bind_some _ _).symm.trans H; rw [hy272]; with_reducible exact H2_) | (have H2_ := (Option.bind_some _ _).symm.trans H; with_reducible exact H2_) | with_reducible exact H | (rw [hy272]; exact H) | exact H
    have Ny272 := Aside0.mk hy272
    clear hy272
    by_cases c12 : y272.length + l0.length < 140737488355328
    ·rw [if_pos c12] at H
     have LMc12 := Aside0.mk c12
     clear c12
     obtain ⟨y275, hy275⟩ : ∃ y_ : List Int, y_ = (y272 ++ l0) := ⟨_, rfl⟩
     replace H : (waggonerref01_Put_p.l0 kj4 a1 a2 y275 0) = some (r1, r2) := by first | (rw [hy275]; with_reducible exact H) | (have H2_ := (Option.bind_some _ _).symm.trans H; rw [hy275]; with_reducible exact H2_) | (have H2_ := (Option.bind_some _ _).symm.trans H; with_reducible exact H2_) | with_reducible exact H | (rw [hy275]; exact H) | exact H
     have Ny275 := Aside0.mk hy275
     clear hy275
     have H' := Aside0.mk H
     clear H
     go_wp2_with (first | ((with_reducible refine gate_dst (N := 27) rfl ?_); refine Kd.R_lit (Kd.int .u8) _ 5 ?hg (N := 27) ?hd (xs := ([] : List Int)) (inner := []) (ok := fun _ => True) (okp := fun _ => True) ?hr ?hp (fun _ hk => hk) trivial (Below.refl _ _) (Nat.le_refl _) (by simp) ?_; (case hd => rfl); (case hg => rfl); (case hr => first | (go_simp; done) | (go_simp; rfl)); (case hp => exact (Reps.none _ _)); intro v273 w13 ho14 hb hg_ hnew_; clear hg_ hnew_; (first | rw [← Ny272.out] at ho14 | (simp only [Int.reduceToNat] at ho14; rw [← Ny272.out] at ho14)); have n0_ := Aside0.mk (Kd.R_lower ho14 (below_size (by repeat (first | (with_reducible first | exact HB.out | apply below_alloc | apply pw_below_drewN | apply below_drew1) | exact HB.out)))); have n1_ := Aside0.mk (below_step (by repeat (first | (with_reducible first | exact HB.out | apply below_alloc | apply pw_below_drewN | apply below_drew1) | exact HB.out)) hb); clear HB; have HO274 := n0_; have HB := n1_; clear n0_ n1_; clear hb ho14) | ((with_reducible refine gate_builtin (b := .append) (xs := #[.tmp 27, .tmp 28]) rfl ?_); at_builtin; refine Kd.R_append_rows (Kd.int .u8) (w0 := w) w.heap.size rfl (.tmp 27) (.tmp 28) 27 5 (.int .u8 0) 1 rfl Try.underlying27 info5 rfl (by decide) (by omega) v273 y272 l0 _ _ _ (fun _ => True) (fun _ => False) rfl rfl ?aO ?aR (fun _ _ h => h) (fun _ h => h.elim) ?aF ?aB ?aS ?aL ?_; (case aR => repeat (first | exact (Kd.C_below HR0.out HB.out) | (with_reducible refine Kd.C_alloc ?_ _) | (with_reducible refine Kd.C_drewN ?_ _) | (with_reducible refine Kd.C_drew ?_))); (case aB => exact (by repeat (first | (with_reducible first | exact HB.out | apply below_alloc | apply pw_below_drewN | apply below_drew1) | exact HB.out))); (case aF => exact (fun _ _ => trivial)); (case aO => exact (by (with_reducible repeat (first | apply Kd.R_alloc | apply Kd.R_drewN | apply Kd.R_drew)); exact HO274.out)); (case aS => exact (below_size (by repeat (first | (with_reducible first | exact HB.out | apply below_alloc | apply pw_below_drewN | apply below_drew1) | exact HB.out)))); (case aL => have := LMc12.out; omega); intro v276 w15 ho hb hg hat; rw [← Ny275.out] at ho; have n0_ := Aside0.mk (hb); have n1_ := Aside0.mk (ho); clear HB; clear HO274; have HB := n0_; have HO277 := n1_; clear n0_ n1_; clear ho hb hg hat))
     go_loopg [9, 10] kj4 (fun kq v9 v10 w' => ∃ (x9_2 : List Int) (x10_2 : Int), v10 = .int .i64 x10_2 ∧ Aside0 (waggonerref01_Put_p.l0 kq a1 a2 x9_2 x10_2 = some (r1, r2)) ∧ Aside0 (kq ≤ kj4) ∧ Aside0 (Kd.R (Kd.int .u8) 5 w' w.heap.size (fun _ => True) v9 x9_2) ∧ Aside0 (Below w.heap.size w w'))
     case atStart => exact ⟨(y275), (0), (by first | rfl | (simp; done) | (simp [*]; done)), H', ⟨Nat.le_refl _⟩, ⟨by (with_reducible repeat (first | apply Kd.R_alloc | apply Kd.R_drewN | apply Kd.R_drew)); exact HO277.out⟩, ⟨by repeat (first | (with_reducible first | exact HB.out | apply below_alloc | apply pw_below_drewN | apply below_drew1) | exact HB.out)⟩⟩
     case round =>
      clear H'
      try clear c1
      try clear p2
      try clear c6
      try clear p6
      try clear c7
      try clear c7b0
      try clear c8
      try clear c9
      try clear c9b0
      try clear c9b1
      try clear c11
      try clear c12
      try clear p2
      try clear p6
      obtain ⟨x9_2, x10_2, rfl, HA, HK2, HO_9, HB⟩ := hrel
      cases gk with
      | zero => exact absurd HA.out (by simp [waggonerref01_Put_p.l0])
      | succ k2 =>
       have H := HA.out
       clear HA
       simp only [waggonerref01_Put_p.l0] at H
       by_cases c16 : x10_2 < a2
       ·rw [if_pos c16] at H
        have c16b0 : decide (x10_2 < a2) = true := decide_eq_true c16
        clear c16
        obtain ⟨ji17, hji17⟩ : ∃ j_ : Int, (IntKind.u64.wrap (wrap64 (8 * x10_2))) = j_ := ⟨_, rfl⟩
        replace H : (if 0 ≤ (ji17) then (if x9_2.length < 140737488355328 then (waggonerref01_Put_p.l0 k2 a1 a2 (x9_2 ++ [(shr .u64 a1 (ji17)) % 256]) (wrap64 (x10_2 + 1))) else (none)) else (none)) = some (r1, r2) := by first | (rw [hji17] at H; exact H) | (simp only [hji17] at H ⊢; exact H)
        by_cases c18 : 0 ≤ (ji17)
        ·rw [if_pos c18] at H
         have c18b0 := eq_true c18
         have c18b1 : decide (0 ≤ (ji17)) = true := decide_eq_true c18
         clear c18
         obtain ⟨ji19, hji19⟩ : ∃ j_ : Int, (shr .u64 a1 (ji17)) = j_ := ⟨_, rfl⟩
         replace H : (if x9_2.length < 140737488355328 then (waggonerref01_Put_p.l0 k2 a1 a2 (x9_2 ++ [(ji19) % 256]) (wrap64 (x10_2 + 1))) else (none)) = some (r1, r2) := by first | (rw [hji19] at H; exact H) | (simp only [hji19] at H ⊢; exact H)
         have hji19_ : (a1 / 2 ^ min (ji17).toNat 64) = ji19 := hji19
         have hji19z : (ji17) ≤ 64 → (a1 / 2 ^ (ji17).toNat) = ji19 := shr_small hji19
         by_cases c20 : x9_2.length < 140737488355328
         ·rw [if_pos c20] at H
          have LMc20 := Aside0.mk c20
          clear c20
          obtain ⟨y278, hy278⟩ : ∃ y_ : List Int, y_ = (x9_2 ++ [(ji19) % 256]) := ⟨_, rfl⟩
          replace H : (waggonerref01_Put_p.l0 k2 a1 a2 y278 (wrap64 (x10_2 + 1))) = some (r1, r2) := by first | (rw [hy278]; with_reducible exact H) | (have H2_ := (Option.bind_some _ _).symm.trans H; rw [hy278]; with_reducible exact H2_) | (have H2_ := (Option.bind_some _ _).symm.trans H; with_reducible exact H2_) | with_reducible exact H | (rw [hy278]; exact H) | exact H
          have Ny278 := Aside0.mk hy278
          clear hy278
          have H' := Aside0.mk H
          clear H
          go_wp2_with (first | ((with_reducible refine gate_builtin (b := .append) (xs := #[.tmp 35, .tmp 42]) rfl ?_); at_builtin; refine Kd.R_append (Kd.int .u8) (w0 := w) w.heap.size rfl (.tmp 35) (.tmp 42) 27 5 (.int .u8 0) 1 rfl Try.underlying27 info5 rfl (by decide) (by omega) u9 x9_2 ((ji19) % 256) [.int .u8 ((ji19) % 256)] (fun _ => True) (fun _ => False) rfl rfl ?aP (fun _ hk => hk.elim) ?aF ?aO ?aB ?aS ?aL ?_; (case aP => exact rfl); (case aB => exact (by repeat (first | (with_reducible first | exact HB.out | apply below_alloc | apply pw_below_drewN | apply below_drew1) | exact HB.out))); (case aF => exact (fun _ _ => trivial)); (case aO => exact (by (with_reducible repeat (first | apply Kd.R_alloc | apply Kd.R_drewN | apply Kd.R_drew)); exact HO_9.out)); (case aS => exact (below_size (by repeat (first | (with_reducible first | exact HB.out | apply below_alloc | apply pw_below_drewN | apply below_drew1) | exact HB.out)))); (case aL => have := LMc20.out; omega); intro v279 w21 ho hb hg hat; rw [← Ny278.out] at ho; have n0_ := Aside0.mk (hb); have n1_ := Aside0.mk (ho); clear HB; clear HO_9; have HB := n0_; have HO280 := n1_; clear n0_ n1_; clear ho hb hg hat))
          go_roundg k2
          case measure => have := HJ4.out; have := HK2.out; omega
          case rel => exact ⟨(y278), (wrap64 (x10_2 + 1)), (by first | rfl | (simp; done) | (simp [*]; done)), H', ⟨by have := HJ4.out; have := HK2.out; omega⟩, ⟨by (with_reducible repeat (first | apply Kd.R_alloc | apply Kd.R_drewN | apply Kd.R_drew)); exact HO280.out⟩, ⟨by repeat (first | (with_reducible first | exact HB.out | apply below_alloc | apply pw_below_drewN | apply below_drew1) | exact HB.out)⟩⟩
         ·rw [if_neg c20] at H
          exact absurd H (by simp)
        ·rw [if_neg c18] at H
         exact absurd H (by simp)
       ·rw [if_neg c16] at H
        have c16b0 : decide (x10_2 < a2) = false := decide_eq_false c16
        clear c16
        simp only [Option.some.injEq, Prod.mk.injEq] at H
        obtain ⟨rfl, rfl⟩ := H
        go_wp2
        go_ret2
        exact ⟨_, by first | rfl | (simp [errW_none, errW_some] <;> rfl) | (simp [*, errW_none, errW_some] <;> rfl), by (with_reducible repeat (first | apply Kd.R_alloc | apply Kd.R_drewN | apply Kd.R_drew)); exact HO_9.out, by repeat (first | (with_reducible first | exact HB.out | apply below_alloc | apply pw_below_drewN | apply below_drew1) | exact HB.out)⟩
    ·rw [if_neg c12] at H
     exact absurd H (by simp)
def waggonerref01_Put.f (l0 : List Int) (a1 : Int) (a2 : Int) : Option (List Int × Int) := if 0 ≤ a1 ∧ a1 < 18446744073709551616 ∧ l0.length < 70368744177664 then some (Pl.putS l0 a1 a2) else none
theorem waggonerref01_may.tells (s : Int) : waggonerref01_may.f s = some (Pl.okS s) := by
 unfold waggonerref01_may.f Pl.okS
 by_cases h1 : s = 1
 ·subst h1; rfl
 by_cases h2 : s = 2
 ·subst h2; rfl
 by_cases h4 : s = 4
 ·subst h4; rfl
 by_cases h8 : s = 8
 ·subst h8; rfl
 simp [h1, h2, h4, h8]
theorem u64_8 {x : Int} (h0 : 0 ≤ x) (h1 : x ≤ 8) : IntKind.u64.wrap (wrap64 (8 * x)) = 8 * x := by
 have e : wrap64 (8 * x) = 8 * x := by unfold wrap64; omega
 rw [e, IntKind.wrap_u64]
 omega
theorem shr_8 (n i : Nat) (hi : i ≤ 8) : shr .u64 (n : Int) (8 * (i : Int)) = ((n / 2 ^ (8 * i) : Nat) : Int) := by
 unfold shr
 rw [show (8 * (i : Int)).toNat = 8 * i from by omega, Nat.min_eq_left (show 8 * i ≤ IntKind.u64.bits from by show 8 * i ≤ 64; omega)]
 push_cast
 rfl
theorem waggonerref01_Put.loop : ∀ (d : Nat) (k : Nat) (n : Nat) (l : List Int) (s i : Nat), d < k → i + d = s → s ≤ 8 → l.length + d < 140737488355328 → waggonerref01_Put_p.l0 k (n : Int) (s : Int) l (i : Int) = some (l ++ Pl.leB d (n / 2 ^ (8 * i)), 0)
 | 0, k, n, l, s, i, hk, hd, hs, hl => by
  obtain ⟨k, rfl⟩ : ∃ m, k = m + 1 := ⟨k - 1, by omega⟩
  simp only [waggonerref01_Put_p.l0]
  rw [if_neg (by omega), Pl.leB, List.append_nil]
 | d + 1, k, n, l, s, i, hk, hd, hs, hl => by
  obtain ⟨k, rfl⟩ : ∃ m, k = m + 1 := ⟨k - 1, by omega⟩
  simp only [waggonerref01_Put_p.l0]
  rw [if_pos (by omega), u64_8 (by omega) (by omega), if_pos (by omega), if_pos (by omega), shr_8 n i (by omega), show wrap64 ((i : Int) + 1) = ((i + 1 : Nat) : Int) from by unfold wrap64; omega,
   waggonerref01_Put.loop d k n _ s (i + 1) (by omega) (by omega) hs (by rw [List.length_append, List.length_singleton]; omega)]
  rw [Pl.leB, List.append_assoc, List.singleton_append, show n / 2 ^ (8 * (i + 1)) = n / 2 ^ (8 * i) / 256 from by rw [Nat.div_div_eq_div_mul, show 8 * (i + 1) = 8 * i + 8 from by omega, Nat.pow_add]]
  rfl
theorem waggonerref01_Put.tells {l0 : List Int} {a1 a2 : Int} {r : List Int × Int} (h : waggonerref01_Put.f l0 a1 a2 = some r) : waggonerref01_Put_p.f 11 l0 a1 a2 = some r := by
 unfold waggonerref01_Put.f at h
 split at h
 case isFalse => cases h
 rename_i hh
 obtain ⟨h0, h1, h2⟩ := hh
 obtain rfl := Option.some.inj h
 obtain ⟨n, rfl⟩ := Int.eq_ofNat_of_zero_le h0
 have hgo : ∀ s : Nat, s ≤ 8 → waggonerref01_Put_p.j0 11 l0 (n : Int) (s : Int) false = some (l0 ++ Pl.leB s n, 0) := by
  intro s hs
  simp only [waggonerref01_Put_p.j0]
  rw [if_neg (by decide), Option.bind_some, if_pos (by rw [List.length_nil]; omega), List.nil_append]
  have := waggonerref01_Put.loop s 10 n l0 s 0 (by omega) (by omega) hs (by omega)
  rw [Nat.mul_zero, Nat.pow_zero, Nat.div_one] at this
  exact this
 unfold waggonerref01_Put_p.f
 rw [waggonerref01_may.tells, Option.bind_some]
 unfold Pl.putS
 by_cases hs : Pl.okS a2 = true
 ·rw [if_pos hs]
  rcases Pl.okS_iff.1 hs with rfl | rfl | rfl | rfl
  ·rw [if_pos (by decide), u64_8 (by decide) (by decide), if_pos (by decide), Pl.fits_1, show (8 * (1 : Int)) = 8 * ((1 : Nat) : Int) from rfl, shr_8 n 1 (by decide)]
   by_cases hf : (n : Int) < 256
   ·rw [if_pos (decide_eq_true hf), show ((((n / 2 ^ (8 * 1) : Nat) : Int) != 0)) = false from by simp; omega]
    exact hgo 1 (by decide)
   ·rw [if_neg (by simpa using hf), show ((((n / 2 ^ (8 * 1) : Nat) : Int) != 0)) = true from by simp; omega]
    rfl
  ·rw [if_pos (by decide), u64_8 (by decide) (by decide), if_pos (by decide), Pl.fits_2, show (8 * (2 : Int)) = 8 * ((2 : Nat) : Int) from rfl, shr_8 n 2 (by decide)]
   by_cases hf : (n : Int) < 65536
   ·rw [if_pos (decide_eq_true hf), show ((((n / 2 ^ (8 * 2) : Nat) : Int) != 0)) = false from by simp; omega]
    exact hgo 2 (by decide)
   ·rw [if_neg (by simpa using hf), show ((((n / 2 ^ (8 * 2) : Nat) : Int) != 0)) = true from by simp; omega]
    rfl
  ·rw [if_pos (by decide), u64_8 (by decide) (by decide), if_pos (by decide), Pl.fits_4, show (8 * (4 : Int)) = 8 * ((4 : Nat) : Int) from rfl, shr_8 n 4 (by decide)]
   by_cases hf : (n : Int) < 4294967296
   ·rw [if_pos (decide_eq_true hf), show ((((n / 2 ^ (8 * 4) : Nat) : Int) != 0)) = false from by simp; omega]
    exact hgo 4 (by decide)
   ·rw [if_neg (by simpa using hf), show ((((n / 2 ^ (8 * 4) : Nat) : Int) != 0)) = true from by simp; omega]
    rfl
  ·rw [if_neg (by decide), if_pos (Pl.fits_8 (by omega))]
   exact hgo 8 (by decide)
 ·rw [if_neg hs, if_neg (by rw [Pl.fits_no (by simpa using hs)]; decide)]
  rfl
theorem waggonerref01_Put.calls (A0 : Option Addr) (c0 : Nat) (l0 : List Int) (a1 : Int) (a2 : Int) (r1 : List Int) (r2 : Int) (w : World) (hr0 : Kd.C (Kd.int .u8) w A0 l0.length l0) (hc0 : l0.length ≤ c0) (h : waggonerref01_Put.f l0 a1 a2 = some (r1, r2)) :
  Calls Try.prog 68 #[.slice A0 l0.length c0, .int .u64 a1, .int .i64 a2] w fun e w' => ∃ v0_ : Value, e = .returned (.tuple #[v0_, .int .i64 r2]) ∧ Kd.R (Kd.int .u8) 5 w' w.heap.size (fun _ => True) v0_ r1 ∧ Below w.heap.size w w' :=
 waggonerref01_Put_p.calls 11 A0 c0 l0 a1 a2 r1 r2 w hr0 hc0 (waggonerref01_Put.tells h)
def waggonerref01_size.f (a0 : Int) : Option (Int) := if a0 = 98 then (some 1) else (if a0 = 104 then (some 2) else (if a0 = 119 then (some 4) else (if a0 = 113 then (some 8) else (some 0))))
set_option maxHeartbeats 8000000 in
set_option maxRecDepth 100000 in
theorem waggonerref01_size.calls (a0 : Int) (r : Int) (w : World) (h : waggonerref01_size.f a0 = some r) :
  Calls Try.prog 69 #[.int .u8 a0] w fun e w' => e = .returned (.int .i64 r) ∧ Drawn0 w w' := by
 have H : (if a0 = 98 then (some 1) else (if a0 = 104 then (some 2) else (if a0 = 119 then (some 4) else (if a0 = 113 then (some 8) else (some 0))))) = some r := h
 clear h
 by_cases c2 : a0 = 98
 ·rw [if_pos c2] at H
  have c2b0 : (a0 == 98) = true := beq_iff_eq.mpr c2
  have c2b1 : (a0 != 98) = false := bne_eq_false_iff_eq.mpr c2
  clear c2
  obtain rfl := Option.some.inj H
  go_enter Try.func69, Try.ntmps69
  go_wp2
  go_ret
  exact ⟨by first | rfl | (simp; done) | (simp [*]; done), by repeat (first | exact Drawn0.refl _ | apply Drawn0.step)⟩
 ·rw [if_neg c2] at H
  have c2b0 : (a0 == 98) = false := beq_eq_false_iff_ne.mpr c2
  have c2b1 : (a0 != 98) = true := bne_iff_ne.mpr c2
  by_cases c3 : a0 = 104
  ·rw [if_pos c3] at H
   have c3b0 : (a0 == 104) = true := beq_iff_eq.mpr c3
   have c3b1 : (a0 != 104) = false := bne_eq_false_iff_eq.mpr c3
   clear c3
   obtain rfl := Option.some.inj H
   go_enter Try.func69, Try.ntmps69
   go_wp2
   go_ret
   exact ⟨by first | rfl | (simp; done) | (simp [*]; done), by repeat (first | exact Drawn0.refl _ | apply Drawn0.step)⟩
  ·rw [if_neg c3] at H
   have c3b0 : (a0 == 104) = false := beq_eq_false_iff_ne.mpr c3
   have c3b1 : (a0 != 104) = true := bne_iff_ne.mpr c3
   by_cases c4 : a0 = 119
   ·rw [if_pos c4] at H
    have c4b0 : (a0 == 119) = true := beq_iff_eq.mpr c4
    have c4b1 : (a0 != 119) = false := bne_eq_false_iff_eq.mpr c4
    clear c4
    obtain rfl := Option.some.inj H
    go_enter Try.func69, Try.ntmps69
    go_wp2
    go_ret
    exact ⟨by first | rfl | (simp; done) | (simp [*]; done), by repeat (first | exact Drawn0.refl _ | apply Drawn0.step)⟩
   ·rw [if_neg c4] at H
    have c4b0 : (a0 == 119) = false := beq_eq_false_iff_ne.mpr c4
    have c4b1 : (a0 != 119) = true := bne_iff_ne.mpr c4
    by_cases c5 : a0 = 113
    ·rw [if_pos c5] at H
     have c5b0 : (a0 == 113) = true := beq_iff_eq.mpr c5
     have c5b1 : (a0 != 113) = false := bne_eq_false_iff_eq.mpr c5
     clear c5
     obtain rfl := Option.some.inj H
     go_enter Try.func69, Try.ntmps69
     go_wp2
     go_ret
     exact ⟨by first | rfl | (simp; done) | (simp [*]; done), by repeat (first | exact Drawn0.refl _ | apply Drawn0.step)⟩
    ·rw [if_neg c5] at H
     have c5b0 : (a0 == 113) = false := beq_eq_false_iff_ne.mpr c5
     have c5b1 : (a0 != 113) = true := bne_iff_ne.mpr c5
     obtain rfl := Option.some.inj H
     go_enter Try.func69, Try.ntmps69
     go_wp2
     go_ret
     exact ⟨by first | rfl | (simp; done) | (simp [*]; done), by repeat (first | exact Drawn0.refl _ | apply Drawn0.step)⟩
def waggonerref01_Pack_p.l0 : Nat → ByteArray → List Int → List Int → Int → Option (List Int × Int)
 | 0, _, _, _, _ => none
 | k + 1, x0, x1, x6, x7 => if x7 < (x0.size : Int) then (if 0 ≤ x7 then (if x7 < (x1.length : Int) then ((waggonerref01_size.f (bt x0 x7)).bind fun t282 => ((waggonerref01_Put.f x6 (rd x1 x7) t282).bind fun bt283 => (if bt283.2 = 0 then (waggonerref01_Pack_p.l0 k x0 x1 bt283.1 (wrap64 (x7 + 1))) else (some (([] : List Int), 10))))) else (none)) else (none)) else (some (x6, 0))
def waggonerref01_Pack_p.f (k : Nat) (a0 : ByteArray) (l1 : List Int) : Option (List Int × Int) := if (a0.size : Int) = (l1.length : Int) then (waggonerref01_Pack_p.l0 k a0 l1 ([] : List Int) 0) else (some (([] : List Int), 10))
def waggonerref01_Pack_p.T7 : Bool × List (List Nat × List Nat) := (true, [([], []), ([], []), ([], []), ([1, 2], [1, 2]), ([3], [3]), ([], []), ([], []), ([5, 6], [5, 6]), ([7], [7]), ([0, 4, 8, 8], [0, 4, 8]), ([9], [9]), ([10], [10]), ([10], [10]), ([11, 9, 0, 1, 2, 3, 4, 5, 6, 7, 8, 9, 10, 11], [11]), ([12, 13, 0, 1, 2, 3, 4, 5, 6, 7, 8, 9, 10, 11, 12, 13], [12])])
def waggonerref01_Pack_p.B7 : List Nat := [0, 0, 0, 6, 14, 0, 0, 96, 224, 511, 1023, 2047, 2047, 4095, 16383]
theorem waggonerref01_Pack_p.tab7 : rtab .any (opsOf Try.f42 7) = waggonerref01_Pack_p.T7 := by kernel_rfl
theorem waggonerref01_Pack_p.bits7 : waitsOk waggonerref01_Pack_p.T7.2 waggonerref01_Pack_p.B7 = true := by kernel_rfl
set_option maxHeartbeats 8000000 in
set_option maxRecDepth 100000 in
theorem waggonerref01_Pack_p.calls (k : Nat) (a0 : ByteArray) (A1 : Option Addr) (c1 : Nat) (l1 : List Int) (r1 : List Int) (r2 : Int) (w : World) (hr1 : Kd.C (Kd.int .u64) w A1 l1.length l1) (hc1 : l1.length ≤ c1) (h : waggonerref01_Pack_p.f k a0 l1 = some (r1, r2)) :
  Calls Try.prog 42 #[.string a0, .slice A1 l1.length c1] w fun e w' => ∃ v0_ : Value, e = .returned (.tuple #[v0_, .int .i64 r2]) ∧ Kd.R (Kd.int .u8) 5 w' w.heap.size (fun _ => True) v0_ r1 ∧ Below w.heap.size w w' := by
 have HR1 := Aside0.mk hr1
 have HC1 := Aside0.mk hc1
 clear hr1 hc1
 have HB := Aside0.mk (Below.refl w.heap.size w)
 have H : (if (a0.size : Int) = (l1.length : Int) then (waggonerref01_Pack_p.l0 k a0 l1 ([] : List Int) 0) else (some (([] : List Int), 10))) = some (r1, r2) := h
 clear h
 by_cases c3 : (a0.size : Int) = (l1.length : Int)
 ·rw [if_pos c3] at H
  have c3b0 : ((a0.size : Int) == (l1.length : Int)) = true := beq_iff_eq.mpr c3
  have c3b1 : ((a0.size : Int) != (l1.length : Int)) = false := bne_eq_false_iff_eq.mpr c3
  have c3b2 : (a0.size == l1.length) = true := by first | simpa using c3 | (simp at c3 ⊢; omega)
  clear c3
  have H' := Aside0.mk H
  clear H
  go_enter Try.func42, Try.ntmps42
  go_wp2
  go_loopg [6, 7] k (fun kq v6 v7 w' => ∃ (x6_1 : List Int) (x7_1 : Int), v7 = .int .i64 x7_1 ∧ Aside0 (waggonerref01_Pack_p.l0 kq a0 l1 x6_1 x7_1 = some (r1, r2)) ∧ Aside0 (kq ≤ k) ∧ Aside0 (Kd.R (Kd.int .u8) 5 w' w.heap.size (fun _ => True) v6 x6_1) ∧ Aside0 (Below w.heap.size w w'))
  case atStart => exact ⟨(([] : List Int)), (0), (by first | rfl | (simp; done) | (simp [*]; done)), H', ⟨Nat.le_refl _⟩, ⟨by first | exact Kd.R_nil _ _ _ _ _ | exact Kd.N_nil _ _ _ _ _ | exact Kd.V_nil _ _ _ _ _ | exact Kd.Q_nil _ _ _ _ _ | exact Kd.S_nil _ _ _ _ _⟩, ⟨by repeat (first | (with_reducible first | exact HB.out | apply below_alloc | apply pw_below_drewN | apply below_drew1) | exact HB.out)⟩⟩
  case round =>
   clear H'
   try clear c1
   try clear p2
   try clear c3
   try clear c3b0
   try clear c3b1
   try clear c3b2
   obtain ⟨x6_1, x7_1, rfl, HA, HK1, HO_6, HB⟩ := hrel
   cases gk with
   | zero => exact absurd HA.out (by simp [waggonerref01_Pack_p.l0])
   | succ k1 =>
    have H := HA.out
    clear HA
    simp only [waggonerref01_Pack_p.l0] at H
    by_cases c4 : x7_1 < (a0.size : Int)
    ·rw [if_pos c4] at H
     have c4b0 : decide (x7_1 < (a0.size : Int)) = true := decide_eq_true c4
     clear c4
     by_cases c5 : 0 ≤ x7_1
     ·rw [if_pos c5] at H
      have c5b0 : decide (0 ≤ x7_1) = true := decide_eq_true c5
      clear c5
      by_cases c6 : x7_1 < (l1.length : Int)
      ·rw [if_pos c6] at H
       have c6b0 : decide (x7_1 < (l1.length : Int)) = true := decide_eq_true c6
       clear c6
       replace H := Option.bind_eq_some_iff.mp H
       obtain ⟨t282, A80, H⟩ := H
       replace H : ((waggonerref01_Put.f x6_1 (rd l1 x7_1) t282).bind fun bt283 => (if bt283.2 = 0 then (waggonerref01_Pack_p.l0 k1 a0 l1 bt283.1 (wrap64 (x7_1 + 1))) else (some (([] : List Int), 10)))) = some (r1, r2) := H
       have A8 := Aside0.mk A80
       clear A80
       replace H := Option.bind_eq_some_iff.mp H
       obtain ⟨⟨t283, t284⟩, A90, H⟩ := H
       replace H : (if t284 = 0 then (waggonerref01_Pack_p.l0 k1 a0 l1 t283 (wrap64 (x7_1 + 1))) else (some (([] : List Int), 10))) = some (r1, r2) := H
       have A9 := Aside0.mk A90
       clear A90
       by_cases c10 : t284 = 0
       ·rw [if_pos c10] at H
        have c10b0 : (t284 == 0) = true := beq_iff_eq.mpr c10
        have c10b1 : (t284 != 0) = false := bne_eq_false_iff_eq.mpr c10
        clear c10
        have H' := Aside0.mk H
        clear H
        try go_wp2
        have n0_ := Aside0.mk (Kd.R_drew HO_6.out)
        have n1_ := Aside0.mk (below_drew1 HB.out)
        clear HO_6
        clear HB
        have HO_6 := n0_
        have HB := n1_
        clear n0_ n1_
        have p281 : 0 ≤ (x7_1 : Int) := of_decide_eq_true (by first | (with_reducible assumption) | assumption)
        have q281 : x7_1 < (l1.length : Int) := of_decide_eq_true (by first | (with_reducible assumption) | assumption)
        obtain ⟨ad281, e281, hx281_0⟩ := Kd.at_int HR1.out x7_1 p281 q281
        have hw281_0 := hx281_0
        cases e281
        replace hx281_0 := (HB.out.cell (World.block_lt_of_cell? w _ hx281_0)).trans hx281_0
        replace p281 := eq_true p281
        replace q281 := eq_true q281
        have p7 : 0 ≤ (x7_1 : Int) := of_decide_eq_true (by first | (with_reducible assumption) | assumption)
        have q7 : x7_1 < (a0.size : Int) := of_decide_eq_true (by first | (with_reducible assumption) | assumption)
        have hx7 := bt_at a0 x7_1
        replace p7 := eq_true p7
        replace q7 := eq_true q7
        refine start_ (n := 15) (S := fun w' => w'.cell? (ad281.add (x7_1).toNat) = some (.int .u64 (rd l1 x7_1))) (ds := []) #[false, false, false, false, false, false, false, false, false, false, false, false, false, false, false] (by kernel_rfl) rfl rfl (((HB.out.cell (World.block_lt_of_cell? w _ hw281_0)).trans hw281_0)) (fun hHeld => ?_); refine with_tabW waggonerref01_Pack_p.tab7 waggonerref01_Pack_p.bits7 (fun HT_ HW_ => ?_)
        generalize wr.drew = w11 at HO_6 HB hx281_0 hHeld ⊢
        refine pure_ (i := 0) (N := some 22) (v := ?_) (a' := ?_) #[true, false, false, false, false, false, false, false, false, false, false, false, false, false, false] rfl rfl (any_of HT_.out (by kernel_rfl)) (fun _ _ _ h => h) (Or.inl ⟨by rfl, ?_⟩) ?_ ?_
        rotate_left
        ·intro w'
         go_simp
         with_reducible rfl
        rotate_left
        ·simp only [Act.put, Kx.sb, Kx.sz, Kx.ss, i64_w, i32_w]
         rfl
        refine pure_ (i := 1) (N := some 23) (v := ?_) (a' := ?_) #[true, true, false, false, false, false, false, false, false, false, false, false, false, false, false] rfl rfl (any_of HT_.out (by kernel_rfl)) (fun _ _ _ h => h) (Or.inl ⟨by rfl, ?_⟩) ?_ ?_
        rotate_left
        ·intro w'
         go_simp
         with_reducible rfl
        rotate_left
        ·simp only [Act.put, Kx.sb, Kx.sz, Kx.ss, i64_w, i32_w]
         rfl
        refine pure_ (i := 2) (N := some 24) (v := ?_) (a' := ?_) #[true, true, true, false, false, false, false, false, false, false, false, false, false, false, false] rfl rfl (any_of HT_.out (by kernel_rfl)) (fun _ _ _ h => h) (Or.inl ⟨by rfl, ?_⟩) ?_ ?_
        rotate_left
        ·intro w'
         go_simp
         with_reducible rfl
        rotate_left
        ·simp only [Act.put, Kx.sb, Kx.sz, Kx.ss, i64_w, i32_w]
         rfl
        refine pure_ (i := 3) (N := some 25) (v := ?_) (a' := ?_) #[true, true, true, true, false, false, false, false, false, false, false, false, false, false, false] rfl rfl (any_of HT_.out (by kernel_rfl)) (fun _ _ _ h => h) (Or.inl ⟨by rfl, ?_⟩) ?_ ?_
        rotate_left
        ·intro w'
         go_simp
         with_reducible rfl
        rotate_left
        ·simp only [Act.put, Kx.sb, Kx.sz, Kx.ss, i64_w, i32_w]
         rfl
        refine pure_ (i := 5) (N := some 27) (v := ?_) (a' := ?_) #[true, true, true, true, false, true, false, false, false, false, false, false, false, false, false] rfl rfl (any_of HT_.out (by kernel_rfl)) (fun _ _ _ h => h) (Or.inl ⟨by rfl, ?_⟩) ?_ ?_
        rotate_left
        ·intro w'
         go_simp
         with_reducible rfl
        rotate_left
        ·simp only [Act.put, Kx.sb, Kx.sz, Kx.ss, i64_w, i32_w]
         rfl
        refine pure_ (i := 6) (N := some 28) (v := ?_) (a' := ?_) #[true, true, true, true, false, true, true, false, false, false, false, false, false, false, false] rfl rfl (any_of HT_.out (by kernel_rfl)) (fun _ _ _ h => h) (Or.inl ⟨by rfl, ?_⟩) ?_ ?_
        rotate_left
        ·intro w'
         go_simp
         with_reducible rfl
        rotate_left
        ·simp only [Act.put, Kx.sb, Kx.sz, Kx.ss, i64_w, i32_w]
         rfl
        refine take_ (i := 4) (N := some 26) (v := ?_) (a' := ?_) #[true, true, true, true, true, true, true, false, false, false, false, false, false, false, false] rfl rfl (take_ofW HT_.out HW_.out (by kernel_rfl)) (fun _ _ _ h => h) (Or.inl ⟨by rfl, ?_⟩) hHeld ?_ ?_
        rotate_left
        ·intro w' s0
         go_simp
         with_reducible rfl
        rotate_left
        ·simp only [Act.put, Kx.sb, Kx.sz, Kx.ss, i64_w, i32_w]
         rfl
        refine take_ (i := 7) (N := some 29) (v := ?_) (a' := ?_) #[true, true, true, true, true, true, true, true, false, false, false, false, false, false, false] rfl rfl (take_ofW HT_.out HW_.out (by kernel_rfl)) (fun _ _ _ h => h) (Or.inl ⟨by rfl, ?_⟩) hHeld ?_ ?_
        rotate_left
        ·intro w' s0
         go_simp
         with_reducible rfl
        rotate_left
        ·simp only [Act.put, Kx.sb, Kx.sz, Kx.ss, i64_w, i32_w]
         rfl
        refine one_ (i := 8) (N := some 30) #[true, true, true, true, true, true, true, true, true, false, false, false, false, false, false] rfl rfl (one_of HT_.out (by kernel_rfl)) (by decide) (fun K hK => ?_)
        refine goes_ Try.func69 (by kernel_rfl) rfl #[.int .u8 (bt a0 x7_1)] (by rfl) rfl rfl (by (try simp only [List.map_toArray, List.map_cons, List.map_nil]); first | done | rfl | (simp only [List.length_drop, List.length_take]; rfl)) ?_
        with_reducible refine (waggonerref01_size.calls (bt a0 x7_1) t282 _ A8.out).mono ?_
        rintro e w' ⟨rfl, ⟨nd, rfl⟩⟩
        refine ⟨_, rfl, ?_⟩
        obtain ⟨Ao12, co12, eo12⟩ := Kd.R_slice HO_6.out
        (first | subst eo12 | (injection eo12 with f1_ f2_ f3_; have f4_ := f1_.symm; have f5_ := f3_.symm; clear f1_ f2_ f3_; subst f4_; subst f5_))
        refine hK.out _ _ (((HB.out.cell (World.block_lt_of_cell? w _ hw281_0)).trans hw281_0)) (fun hHeld => ?_)
        clear hK K
        refine norm_ (a' := ?_) ?_ ?_
        rotate_left
        ·show Act.put _ (some 30) _ = _
         simp only [Act.put, Kx.sb, Kx.sz, Kx.ss, i64_w, i32_w]
         rfl
        refine one_ (i := 9) (N := some 31) #[true, true, true, true, true, true, true, true, true, true, false, false, false, false, false] rfl rfl (one_of HT_.out (by kernel_rfl)) (by decide) (fun K hK => ?_)
        refine goes_ Try.func68 (by kernel_rfl) rfl #[.slice Ao12 x6_1.length co12, .int .u64 (rd l1 x7_1), .int .i64 t282] (by rfl) rfl rfl (by (try simp only [List.map_toArray, List.map_cons, List.map_nil]); first | done | rfl | (simp only [List.length_drop, List.length_take]; rfl)) ?_
        with_reducible refine (waggonerref01_Put.calls _ _ x6_1 (rd l1 x7_1) t282 t283 t284 _ ?side1 ?side2 A9.out).mono ?_
        (case side1 => repeat (first | exact (Kd.R_reads' HO_6.out).2.2 | (with_reducible refine Kd.C_alloc ?_ _) | (with_reducible refine Kd.C_drewN ?_ _) | (with_reducible refine Kd.C_drew ?_)))
        (case side2 => exact (Kd.R_reads' HO_6.out).2.1)
        rintro e w13 ⟨v285, rfl, ho0, hb⟩
        refine ⟨_, rfl, ?_⟩
        have n0_ := Aside0.mk (Kd.R_elder' (by (with_reducible repeat (first | apply Kd.R_alloc | apply Kd.R_drewN | apply Kd.R_drew)); exact HO_6.out) (Kd.R_base ho0) hb)
        have n1_ := Aside0.mk (Kd.R_lower (Kd.R_new' ho0 (Kd.R_lt (by (with_reducible repeat (first | apply Kd.R_alloc | apply Kd.R_drewN | apply Kd.R_drew)); exact HO_6.out))) (below_size (by repeat (first | (with_reducible first | exact HB.out | apply below_alloc | apply pw_below_drewN | apply below_drew1) | exact HB.out))))
        have n2_ := Aside0.mk (below_step (by repeat (first | (with_reducible first | exact HB.out | apply below_alloc | apply pw_below_drewN | apply below_drew1) | exact HB.out)) hb)
        clear HO_6
        clear HB
        have HO_6 := n0_
        have HO286 := n1_
        have HB := n2_
        clear n0_ n1_ n2_
        (try clear hb)
        (try clear hb2)
        (try clear hk)
        (try clear hi)
        (try clear ho0)
        refine hK.out _ _ (((HB.out.cell (World.block_lt_of_cell? w _ hw281_0)).trans hw281_0)) (fun hHeld => ?_)
        clear hK K
        refine norm_ (a' := ?_) ?_ ?_
        rotate_left
        ·show Act.put _ (some 31) _ = _
         simp only [Act.put, Kx.sb, Kx.sz, Kx.ss, i64_w, i32_w]
         rfl
        refine pure_ (i := 10) (N := some 21) (v := ?_) (a' := ?_) #[true, true, true, true, true, true, true, true, true, true, true, false, false, false, false] rfl rfl (any_of HT_.out (by kernel_rfl)) (fun _ _ _ h => h) (Or.inl ⟨by rfl, ?_⟩) ?_ ?_
        rotate_left
        ·intro w'
         go_simp
         with_reducible rfl
        rotate_left
        ·simp only [Act.put, Kx.sb, Kx.sz, Kx.ss, i64_w, i32_w]
         rfl
        refine pure_ (i := 11) (N := some 32) (v := ?_) (a' := ?_) #[true, true, true, true, true, true, true, true, true, true, true, true, false, false, false] rfl rfl (any_of HT_.out (by kernel_rfl)) (fun _ _ _ h => h) (Or.inl ⟨by rfl, ?_⟩) ?_ ?_
        rotate_left
        ·intro w'
         go_simp
         with_reducible rfl
        rotate_left
        ·simp only [Act.put, Kx.sb, Kx.sz, Kx.ss, i64_w, i32_w]
         rfl
        refine pure_ (i := 12) (N := some 33) (v := ?_) (a' := ?_) #[true, true, true, true, true, true, true, true, true, true, true, true, true, false, false] rfl rfl (any_of HT_.out (by kernel_rfl)) (fun _ _ _ h => h) (Or.inl ⟨by rfl, ?_⟩) ?_ ?_
        rotate_left
        ·intro w'
         go_simp
         with_reducible rfl
        rotate_left
        ·simp only [Act.put, Kx.sb, Kx.sz, Kx.ss, i64_w, i32_w]
         rfl
        refine pure_ (i := 13) (N := some 8) (v := ?_) (a' := ?_) #[true, true, true, true, true, true, true, true, true, true, true, true, true, true, false] rfl rfl (any_of HT_.out (by kernel_rfl)) (fun _ _ _ h => h) (Or.inl ⟨by rfl, ?_⟩) ?_ ?_
        rotate_left
        ·intro w'
         go_simp
         with_reducible rfl
        rotate_left
        ·simp only [Act.put, Kx.sb, Kx.sz, Kx.ss, i64_w, i32_w]
         rfl
        refine pure_ (i := 14) (N := some 9) (v := ?_) (a' := ?_) #[true, true, true, true, true, true, true, true, true, true, true, true, true, true, true] rfl rfl (any_of HT_.out (by kernel_rfl)) (fun _ _ _ h => h) (Or.inl ⟨by rfl, ?_⟩) ?_ ?_
        rotate_left
        ·intro w'
         go_simp
         with_reducible rfl
        rotate_left
        ·simp only [Act.put, Kx.sb, Kx.sz, Kx.ss, i64_w, i32_w]
         rfl
        refine done_ (done_of HT_.out (by kernel_rfl)) ?_
        try go_wp2
        go_roundg k1
        case measure => have := HK1.out; omega
        case rel => exact ⟨(t283), (wrap64 (x7_1 + 1)), (by first | rfl | (simp; done) | (simp [*]; done)), H', ⟨by have := HK1.out; omega⟩, ⟨by (with_reducible repeat (first | apply Kd.R_alloc | apply Kd.R_drewN | apply Kd.R_drew)); exact Kd.R_mono HO286.out (fun _ hk => trivial)⟩, ⟨by repeat (first | (with_reducible first | exact HB.out | apply below_alloc | apply pw_below_drewN | apply below_drew1) | exact HB.out)⟩⟩
       ·rw [if_neg c10] at H
        have c10b0 : (t284 == 0) = false := beq_eq_false_iff_ne.mpr c10
        have c10b1 : (t284 != 0) = true := bne_iff_ne.mpr c10
        simp only [Option.some.injEq, Prod.mk.injEq] at H
        obtain ⟨rfl, rfl⟩ := H
        try go_wp2
        have n0_ := Aside0.mk (Kd.R_drew HO_6.out)
        have n1_ := Aside0.mk (below_drew1 HB.out)
        clear HO_6
        clear HB
        have HO_6 := n0_
        have HB := n1_
        clear n0_ n1_
        have p281 : 0 ≤ (x7_1 : Int) := of_decide_eq_true (by first | (with_reducible assumption) | assumption)
        have q281 : x7_1 < (l1.length : Int) := of_decide_eq_true (by first | (with_reducible assumption) | assumption)
        obtain ⟨ad281, e281, hx281_0⟩ := Kd.at_int HR1.out x7_1 p281 q281
        have hw281_0 := hx281_0
        cases e281
        replace hx281_0 := (HB.out.cell (World.block_lt_of_cell? w _ hx281_0)).trans hx281_0
        replace p281 := eq_true p281
        replace q281 := eq_true q281
        have p7 : 0 ≤ (x7_1 : Int) := of_decide_eq_true (by first | (with_reducible assumption) | assumption)
        have q7 : x7_1 < (a0.size : Int) := of_decide_eq_true (by first | (with_reducible assumption) | assumption)
        have hx7 := bt_at a0 x7_1
        replace p7 := eq_true p7
        replace q7 := eq_true q7
        refine start_ (n := 15) (S := fun w' => w'.cell? (ad281.add (x7_1).toNat) = some (.int .u64 (rd l1 x7_1))) (ds := []) #[false, false, false, false, false, false, false, false, false, false, false, false, false, false, false] (by kernel_rfl) rfl rfl (((HB.out.cell (World.block_lt_of_cell? w _ hw281_0)).trans hw281_0)) (fun hHeld => ?_); refine with_tabW waggonerref01_Pack_p.tab7 waggonerref01_Pack_p.bits7 (fun HT_ HW_ => ?_)
        generalize wr.drew = w14 at HO_6 HB hx281_0 hHeld ⊢
        refine pure_ (i := 0) (N := some 22) (v := ?_) (a' := ?_) #[true, false, false, false, false, false, false, false, false, false, false, false, false, false, false] rfl rfl (any_of HT_.out (by kernel_rfl)) (fun _ _ _ h => h) (Or.inl ⟨by rfl, ?_⟩) ?_ ?_
        rotate_left
        ·intro w'
         go_simp
         with_reducible rfl
        rotate_left
        ·simp only [Act.put, Kx.sb, Kx.sz, Kx.ss, i64_w, i32_w]
         rfl
        refine pure_ (i := 1) (N := some 23) (v := ?_) (a' := ?_) #[true, true, false, false, false, false, false, false, false, false, false, false, false, false, false] rfl rfl (any_of HT_.out (by kernel_rfl)) (fun _ _ _ h => h) (Or.inl ⟨by rfl, ?_⟩) ?_ ?_
        rotate_left
        ·intro w'
         go_simp
         with_reducible rfl
        rotate_left
        ·simp only [Act.put, Kx.sb, Kx.sz, Kx.ss, i64_w, i32_w]
         rfl
        refine pure_ (i := 2) (N := some 24) (v := ?_) (a' := ?_) #[true, true, true, false, false, false, false, false, false, false, false, false, false, false, false] rfl rfl (any_of HT_.out (by kernel_rfl)) (fun _ _ _ h => h) (Or.inl ⟨by rfl, ?_⟩) ?_ ?_
        rotate_left
        ·intro w'
         go_simp
         with_reducible rfl
        rotate_left
        ·simp only [Act.put, Kx.sb, Kx.sz, Kx.ss, i64_w, i32_w]
         rfl
        refine pure_ (i := 3) (N := some 25) (v := ?_) (a' := ?_) #[true, true, true, true, false, false, false, false, false, false, false, false, false, false, false] rfl rfl (any_of HT_.out (by kernel_rfl)) (fun _ _ _ h => h) (Or.inl ⟨by rfl, ?_⟩) ?_ ?_
        rotate_left
        ·intro w'
         go_simp
         with_reducible rfl
        rotate_left
        ·simp only [Act.put, Kx.sb, Kx.sz, Kx.ss, i64_w, i32_w]
         rfl
        refine pure_ (i := 5) (N := some 27) (v := ?_) (a' := ?_) #[true, true, true, true, false, true, false, false, false, false, false, false, false, false, false] rfl rfl (any_of HT_.out (by kernel_rfl)) (fun _ _ _ h => h) (Or.inl ⟨by rfl, ?_⟩) ?_ ?_
        rotate_left
        ·intro w'
         go_simp
         with_reducible rfl
        rotate_left
        ·simp only [Act.put, Kx.sb, Kx.sz, Kx.ss, i64_w, i32_w]
         rfl
        refine pure_ (i := 6) (N := some 28) (v := ?_) (a' := ?_) #[true, true, true, true, false, true, true, false, false, false, false, false, false, false, false] rfl rfl (any_of HT_.out (by kernel_rfl)) (fun _ _ _ h => h) (Or.inl ⟨by rfl, ?_⟩) ?_ ?_
        rotate_left
        ·intro w'
         go_simp
         with_reducible rfl
        rotate_left
        ·simp only [Act.put, Kx.sb, Kx.sz, Kx.ss, i64_w, i32_w]
         rfl
        refine take_ (i := 4) (N := some 26) (v := ?_) (a' := ?_) #[true, true, true, true, true, true, true, false, false, false, false, false, false, false, false] rfl rfl (take_ofW HT_.out HW_.out (by kernel_rfl)) (fun _ _ _ h => h) (Or.inl ⟨by rfl, ?_⟩) hHeld ?_ ?_
        rotate_left
        ·intro w' s0
         go_simp
         with_reducible rfl
        rotate_left
        ·simp only [Act.put, Kx.sb, Kx.sz, Kx.ss, i64_w, i32_w]
         rfl
        refine take_ (i := 7) (N := some 29) (v := ?_) (a' := ?_) #[true, true, true, true, true, true, true, true, false, false, false, false, false, false, false] rfl rfl (take_ofW HT_.out HW_.out (by kernel_rfl)) (fun _ _ _ h => h) (Or.inl ⟨by rfl, ?_⟩) hHeld ?_ ?_
        rotate_left
        ·intro w' s0
         go_simp
         with_reducible rfl
        rotate_left
        ·simp only [Act.put, Kx.sb, Kx.sz, Kx.ss, i64_w, i32_w]
         rfl
        refine one_ (i := 8) (N := some 30) #[true, true, true, true, true, true, true, true, true, false, false, false, false, false, false] rfl rfl (one_of HT_.out (by kernel_rfl)) (by decide) (fun K hK => ?_)
        refine goes_ Try.func69 (by kernel_rfl) rfl #[.int .u8 (bt a0 x7_1)] (by rfl) rfl rfl (by (try simp only [List.map_toArray, List.map_cons, List.map_nil]); first | done | rfl | (simp only [List.length_drop, List.length_take]; rfl)) ?_
        with_reducible refine (waggonerref01_size.calls (bt a0 x7_1) t282 _ A8.out).mono ?_
        rintro e w' ⟨rfl, ⟨nd, rfl⟩⟩
        refine ⟨_, rfl, ?_⟩
        obtain ⟨Ao15, co15, eo15⟩ := Kd.R_slice HO_6.out
        (first | subst eo15 | (injection eo15 with f1_ f2_ f3_; have f4_ := f1_.symm; have f5_ := f3_.symm; clear f1_ f2_ f3_; subst f4_; subst f5_))
        refine hK.out _ _ (((HB.out.cell (World.block_lt_of_cell? w _ hw281_0)).trans hw281_0)) (fun hHeld => ?_)
        clear hK K
        refine norm_ (a' := ?_) ?_ ?_
        rotate_left
        ·show Act.put _ (some 30) _ = _
         simp only [Act.put, Kx.sb, Kx.sz, Kx.ss, i64_w, i32_w]
         rfl
        refine one_ (i := 9) (N := some 31) #[true, true, true, true, true, true, true, true, true, true, false, false, false, false, false] rfl rfl (one_of HT_.out (by kernel_rfl)) (by decide) (fun K hK => ?_)
        refine goes_ Try.func68 (by kernel_rfl) rfl #[.slice Ao15 x6_1.length co15, .int .u64 (rd l1 x7_1), .int .i64 t282] (by rfl) rfl rfl (by (try simp only [List.map_toArray, List.map_cons, List.map_nil]); first | done | rfl | (simp only [List.length_drop, List.length_take]; rfl)) ?_
        with_reducible refine (waggonerref01_Put.calls _ _ x6_1 (rd l1 x7_1) t282 t283 t284 _ ?side1 ?side2 A9.out).mono ?_
        (case side1 => repeat (first | exact (Kd.R_reads' HO_6.out).2.2 | (with_reducible refine Kd.C_alloc ?_ _) | (with_reducible refine Kd.C_drewN ?_ _) | (with_reducible refine Kd.C_drew ?_)))
        (case side2 => exact (Kd.R_reads' HO_6.out).2.1)
        rintro e w16 ⟨v285, rfl, ho0, hb⟩
        refine ⟨_, rfl, ?_⟩
        have n0_ := Aside0.mk (Kd.R_elder' (by (with_reducible repeat (first | apply Kd.R_alloc | apply Kd.R_drewN | apply Kd.R_drew)); exact HO_6.out) (Kd.R_base ho0) hb)
        have n1_ := Aside0.mk (Kd.R_lower (Kd.R_new' ho0 (Kd.R_lt (by (with_reducible repeat (first | apply Kd.R_alloc | apply Kd.R_drewN | apply Kd.R_drew)); exact HO_6.out))) (below_size (by repeat (first | (with_reducible first | exact HB.out | apply below_alloc | apply pw_below_drewN | apply below_drew1) | exact HB.out))))
        have n2_ := Aside0.mk (below_step (by repeat (first | (with_reducible first | exact HB.out | apply below_alloc | apply pw_below_drewN | apply below_drew1) | exact HB.out)) hb)
        clear HO_6
        clear HB
        have HO_6 := n0_
        have HO286 := n1_
        have HB := n2_
        clear n0_ n1_ n2_
        (try clear hb)
        (try clear hb2)
        (try clear hk)
        (try clear hi)
        (try clear ho0)
        refine hK.out _ _ (((HB.out.cell (World.block_lt_of_cell? w _ hw281_0)).trans hw281_0)) (fun hHeld => ?_)
        clear hK K
        refine norm_ (a' := ?_) ?_ ?_
        rotate_left
        ·show Act.put _ (some 31) _ = _
         simp only [Act.put, Kx.sb, Kx.sz, Kx.ss, i64_w, i32_w]
         rfl
        refine pure_ (i := 10) (N := some 21) (v := ?_) (a' := ?_) #[true, true, true, true, true, true, true, true, true, true, true, false, false, false, false] rfl rfl (any_of HT_.out (by kernel_rfl)) (fun _ _ _ h => h) (Or.inl ⟨by rfl, ?_⟩) ?_ ?_
        rotate_left
        ·intro w'
         go_simp
         with_reducible rfl
        rotate_left
        ·simp only [Act.put, Kx.sb, Kx.sz, Kx.ss, i64_w, i32_w]
         rfl
        refine pure_ (i := 11) (N := some 32) (v := ?_) (a' := ?_) #[true, true, true, true, true, true, true, true, true, true, true, true, false, false, false] rfl rfl (any_of HT_.out (by kernel_rfl)) (fun _ _ _ h => h) (Or.inl ⟨by rfl, ?_⟩) ?_ ?_
        rotate_left
        ·intro w'
         go_simp
         with_reducible rfl
        rotate_left
        ·simp only [Act.put, Kx.sb, Kx.sz, Kx.ss, i64_w, i32_w]
         rfl
        refine pure_ (i := 12) (N := some 33) (v := ?_) (a' := ?_) #[true, true, true, true, true, true, true, true, true, true, true, true, true, false, false] rfl rfl (any_of HT_.out (by kernel_rfl)) (fun _ _ _ h => h) (Or.inl ⟨by rfl, ?_⟩) ?_ ?_
        rotate_left
        ·intro w'
         go_simp
         with_reducible rfl
        rotate_left
        ·simp only [Act.put, Kx.sb, Kx.sz, Kx.ss, i64_w, i32_w]
         rfl
        refine pure_ (i := 13) (N := some 8) (v := ?_) (a' := ?_) #[true, true, true, true, true, true, true, true, true, true, true, true, true, true, false] rfl rfl (any_of HT_.out (by kernel_rfl)) (fun _ _ _ h => h) (Or.inl ⟨by rfl, ?_⟩) ?_ ?_
        rotate_left
        ·intro w'
         go_simp
         with_reducible rfl
        rotate_left
        ·simp only [Act.put, Kx.sb, Kx.sz, Kx.ss, i64_w, i32_w]
         rfl
        refine pure_ (i := 14) (N := some 9) (v := ?_) (a' := ?_) #[true, true, true, true, true, true, true, true, true, true, true, true, true, true, true] rfl rfl (any_of HT_.out (by kernel_rfl)) (fun _ _ _ h => h) (Or.inl ⟨by rfl, ?_⟩) ?_ ?_
        rotate_left
        ·intro w'
         go_simp
         with_reducible rfl
        rotate_left
        ·simp only [Act.put, Kx.sb, Kx.sz, Kx.ss, i64_w, i32_w]
         rfl
        refine done_ (done_of HT_.out (by kernel_rfl)) ?_
        try go_wp2
        go_ret2
        exact ⟨_, by first | rfl | (simp [errW_none, errW_some] <;> rfl) | (simp [*, errW_none, errW_some] <;> rfl), by first | exact Kd.R_nil _ _ _ _ _ | exact Kd.N_nil _ _ _ _ _ | exact Kd.V_nil _ _ _ _ _ | exact Kd.Q_nil _ _ _ _ _ | exact Kd.S_nil _ _ _ _ _, by repeat (first | (with_reducible first | exact HB.out | apply below_alloc | apply pw_below_drewN | apply below_drew1) | exact HB.out)⟩
      ·rw [if_neg c6] at H
       exact absurd H (by simp)
     ·rw [if_neg c5] at H
      exact absurd H (by simp)
    ·rw [if_neg c4] at H
     have c4b0 : decide (x7_1 < (a0.size : Int)) = false := decide_eq_false c4
     clear c4
     simp only [Option.some.injEq, Prod.mk.injEq] at H
     obtain ⟨rfl, rfl⟩ := H
     go_wp2
     go_ret2
     exact ⟨_, by first | rfl | (simp [errW_none, errW_some] <;> rfl) | (simp [*, errW_none, errW_some] <;> rfl), by (with_reducible repeat (first | apply Kd.R_alloc | apply Kd.R_drewN | apply Kd.R_drew)); exact HO_6.out, by repeat (first | (with_reducible first | exact HB.out | apply below_alloc | apply pw_below_drewN | apply below_drew1) | exact HB.out)⟩
 ·rw [if_neg c3] at H
  have c3b0 : ((a0.size : Int) == (l1.length : Int)) = false := beq_eq_false_iff_ne.mpr c3
  have c3b1 : ((a0.size : Int) != (l1.length : Int)) = true := bne_iff_ne.mpr c3
  have c3b2 : (a0.size == l1.length) = false := by first | simpa using c3 | (simp at c3 ⊢; omega)
  simp only [Option.some.injEq, Prod.mk.injEq] at H
  obtain ⟨rfl, rfl⟩ := H
  go_enter Try.func42, Try.ntmps42
  go_wp2
  go_ret2
  exact ⟨_, by first | rfl | (simp [errW_none, errW_some] <;> rfl) | (simp [*, errW_none, errW_some] <;> rfl), by first | exact Kd.R_nil _ _ _ _ _ | exact Kd.N_nil _ _ _ _ _ | exact Kd.V_nil _ _ _ _ _ | exact Kd.Q_nil _ _ _ _ _ | exact Kd.S_nil _ _ _ _ _, by repeat (first | (with_reducible first | exact HB.out | apply below_alloc | apply pw_below_drewN | apply below_drew1) | exact HB.out)⟩
theorem waggonerref01_size.tells (c : Int) : waggonerref01_size.f c = some (Pl.letS c) := by
 unfold waggonerref01_size.f Pl.letS
 repeat' split
 all_goals rfl
theorem bt_fb (s : ByteArray) (i : Nat) (h : i < s.size) : bt s (i : Int) = (Pl.fb s)[i]'(by rw [Pl.fb_length]; exact h) := by
 unfold bt
 rw [dif_pos (by rw [Int.toNat_natCast]; exact h)]
 simp only [Pl.fb, List.getElem_map, Int.toNat_natCast]
 rfl
def waggonerref01_Pack.f (a0 : ByteArray) (l1 : List Int) : Option (List Int × Int) := if Pl.u64B l1 = true ∧ a0.size < 2147483648 then some (Pl.packS (Pl.fb a0) l1) else none
theorem waggonerref01_Pack.loop (s : ByteArray) (l : List Int) (hl : Pl.u64B l = true) (hn : s.size = l.length) (hs : s.size < 2147483648) : ∀ (d k i : Nat) (out : List Int), i + d = s.size → d < k → out.length ≤ 8 * i →
  waggonerref01_Pack_p.l0 k s l out (i : Int) = some (Pl.packGo out ((Pl.fb s).drop i) (l.drop i))
 | 0, k, i, out, hi, hk, ho => by
  obtain ⟨k, rfl⟩ : ∃ m, k = m + 1 := ⟨k - 1, by omega⟩
  simp only [waggonerref01_Pack_p.l0]
  rw [if_neg (by omega), List.drop_eq_nil_of_le (by rw [Pl.fb_length]; omega), List.drop_eq_nil_of_le (by omega)]
  rfl
 | d + 1, k, i, out, hi, hk, ho => by
  obtain ⟨k, rfl⟩ : ∃ m, k = m + 1 := ⟨k - 1, by omega⟩
  have hif : i < (Pl.fb s).length := by rw [Pl.fb_length]; omega
  have hil : i < l.length := by omega
  have hrd : rd l (i : Int) = l[i]'hil := by unfold rd; rw [Int.toNat_natCast, List.getD_eq_getElem?_getD, List.getElem?_eq_getElem hil, Option.getD_some]
  have hb := Pl.u64B_iff.1 hl _ (List.getElem_mem hil)
  simp only [waggonerref01_Pack_p.l0]
  rw [if_pos (by omega), if_pos (by omega), if_pos (by omega), bt_fb s i (by omega), hrd, waggonerref01_size.tells, Option.bind_some]
  rw [List.drop_eq_getElem_cons hif, List.drop_eq_getElem_cons hil, Pl.packGo]
  unfold waggonerref01_Put.f
  rw [if_pos ⟨hb.1, hb.2, by omega⟩, Option.bind_some]
  unfold Pl.putS
  have h8 := Pl.letS_le ((Pl.fb s)[i]'hif)
  by_cases hf : Pl.fits (l[i]'hil) (Pl.letS ((Pl.fb s)[i]'hif)) = true
  ·rw [if_pos hf, if_pos hf]
   rw [if_pos rfl, show wrap64 ((i : Int) + 1) = ((i + 1 : Nat) : Int) from by unfold wrap64; omega]
   exact waggonerref01_Pack.loop s l hl hn hs d k (i + 1) _ (by omega) (by omega) (by rw [List.length_append, Pl.leB_length]; omega)
  ·rw [if_neg hf, if_neg hf]
   rfl
theorem waggonerref01_Pack.tells {a0 : ByteArray} {l1 : List Int} {r : List Int × Int} (h : waggonerref01_Pack.f a0 l1 = some r) : waggonerref01_Pack_p.f (a0.size + 1) a0 l1 = some r := by
 unfold waggonerref01_Pack.f at h
 split at h
 case isFalse => cases h
 rename_i hh
 obtain ⟨h0, h1⟩ := hh
 obtain rfl := Option.some.inj h
 unfold waggonerref01_Pack_p.f Pl.packS
 by_cases he : (a0.size : Int) = (l1.length : Int)
 ·rw [if_pos he]
  exact waggonerref01_Pack.loop a0 l1 h0 (by omega) h1 a0.size (a0.size + 1) 0 [] (by omega) (by omega) (by simp)
 ·rw [if_neg he, Pl.packGo_ne _ _ _ (by rw [Pl.fb_length]; omega)]
theorem waggonerref01_Pack.calls (a0 : ByteArray) (A1 : Option Addr) (c1 : Nat) (l1 : List Int) (r1 : List Int) (r2 : Int) (w : World) (hr1 : Kd.C (Kd.int .u64) w A1 l1.length l1) (hc1 : l1.length ≤ c1) (h : waggonerref01_Pack.f a0 l1 = some (r1, r2)) :
  Calls Try.prog 42 #[.string a0, .slice A1 l1.length c1] w fun e w' => ∃ v0_ : Value, e = .returned (.tuple #[v0_, .int .i64 r2]) ∧ Kd.R (Kd.int .u8) 5 w' w.heap.size (fun _ => True) v0_ r1 ∧ Below w.heap.size w w' :=
 waggonerref01_Pack_p.calls (a0.size + 1) a0 A1 c1 l1 r1 r2 w hr1 hc1 (waggonerref01_Pack.tells h)
end Go.Proofs.Ytohkmmbmfhficaa.PT
