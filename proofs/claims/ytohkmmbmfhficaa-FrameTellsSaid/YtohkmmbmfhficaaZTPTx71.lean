/- Words and walks that this claim names, of those that the kit's print and programs of this workplace have printed. -/
import Derived.Test.YtohkmmbmfhficaaZTPTx11
import Derived.Test.YtohkmmbmfhficaaZTPTx58
namespace Go.Proofs.Ytohkmmbmfhficaa.PT
open Go.RowKit Go.Proofs.YtohkmmbmfhficaaW.PrintWords Go.Proofs.YtohkmmbmfhficaaW.PrintLast Go.Proofs.YtohkmmbmfhficaaW.PrintMore
attribute [local go_sem] max2_int min2_int max_two min_two max_three min_three max_four min_four
set_option linter.unusedVariables false
set_option linter.unusedSimpArgs false
mutual
def waggonerref01_Take_p.j0 : Nat → List Int → Int → Bool → Option (Int × List Int × Int)
 | 0, _, _, _ => none
 | k + 1, x0, x1, x19 => if x19 = true then (some (0, ([] : List Int), 10)) else (waggonerref01_Take_p.l0 k x0 x1 0 (wrap64 (x1 - 1)))
def waggonerref01_Take_p.l0 : Nat → List Int → Int → Int → Int → Option (Int × List Int × Int)
 | 0, _, _, _, _ => none
 | k + 1, x0, x1, x8, x9 => if x9 ≥ 0 then (if 0 ≤ x9 then (if x9 < (x0.length : Int) then (waggonerref01_Take_p.l0 k x0 x1 (IntKind.u64.wrap ((IntKind.u64.wrap (x8 * 256)) + (IntKind.u64.wrap (rd x0 x9)))) (wrap64 (x9 - 1))) else (none)) else (none)) else ((some (([] : List Int) : List Int)).bind fun y339 => (if 0 ≤ x1 then (if x1 ≤ (x0.length : Int) then (if y339.length + (x0.drop (x1 : Int).toNat).length < 140737488355328 then (some (x8, (y339 ++ (x0.drop (x1 : Int).toNat)), 0)) else (none)) else (none)) else (none)))
end
def waggonerref01_Take_p.f (k : Nat) (l0 : List Int) (a1 : Int) : Option (Int × List Int × Int) := (waggonerref01_may.f a1).bind fun t337 => (if t337 = true then (waggonerref01_Take_p.j0 k l0 a1 (decide ((l0.length : Int) < a1))) else (waggonerref01_Take_p.j0 k l0 a1 true))
set_option maxHeartbeats 8000000 in
set_option maxRecDepth 100000 in
theorem waggonerref01_Take_p.calls (k : Nat) (A0 : Option Addr) (c0 : Nat) (l0 : List Int) (a1 : Int) (r1 : Int) (r2 : List Int) (r3 : Int) (w : World) (hr0 : Kd.C (Kd.int .u8) w A0 l0.length l0) (hc0 : l0.length ≤ c0) (h : waggonerref01_Take_p.f k l0 a1 = some (r1, r2, r3)) :
  Calls Try.prog 85 #[.slice A0 l0.length c0, .int .i64 a1] w fun e w' => ∃ v1_ : Value, e = .returned (.tuple #[.int .u64 r1, v1_, .int .i64 r3]) ∧ Kd.R (Kd.int .u8) 5 w' w.heap.size (fun _ => True) v1_ r2 ∧ Below w.heap.size w w' := by
 have HR0 := Aside0.mk hr0
 have HC0 := Aside0.mk hc0
 clear hr0 hc0
 have HB := Aside0.mk (Below.refl w.heap.size w)
 have H : ((waggonerref01_may.f a1).bind fun t337 => (if t337 = true then (waggonerref01_Take_p.j0 k l0 a1 (decide ((l0.length : Int) < a1))) else (waggonerref01_Take_p.j0 k l0 a1 true))) = some (r1, r2, r3) := h
 clear h
 replace H := Option.bind_eq_some_iff.mp H
 obtain ⟨t337, A30, H⟩ := H
 replace H : (if t337 = true then (waggonerref01_Take_p.j0 k l0 a1 (decide ((l0.length : Int) < a1))) else (waggonerref01_Take_p.j0 k l0 a1 true)) = some (r1, r2, r3) := H
 have A3 := Aside0.mk A30
 clear A30
 have HC4 := Aside0.mk H
 clear H
 go_enter Try.func85, Try.ntmps85
 go_upto_region 2 with (first | ((with_reducible refine gate_callee (f := 84) rfl ?_); refine goesL_ (some 11) rfl rfl Try.func84 (by kernel_rfl) rfl #[.int .i64 a1] rfl (by (try simp only [List.map_toArray, List.map_cons, List.map_nil]); first | done | rfl | (simp only [List.length_drop, List.length_take]; rfl)) ?_; (with_reducible refine (waggonerref01_may.calls a1 t337 _ A3.out).mono ?_); rintro e w' ⟨rfl, ⟨nd, rfl⟩⟩; refine ⟨_, rfl, ?_⟩))
 (try simp only [Act.put, Kx.sb, Kx.sz, Kx.ss])
 go_cut [19] (fun v19 wc => ∃ (kq : Nat) (x19_3 : Bool), v19 = .bool x19_3 ∧ Aside0 (waggonerref01_Take_p.j0 kq l0 a1 x19_3 = some (r1, r2, r3)) ∧ Aside0 (kq ≤ k) ∧ Aside0 (Below w.heap.size w wc))
 case first =>
  have H := HC4.out
  clear HC4
  by_cases c5 : t337 = true
  ·subst c5
   have H1 : (waggonerref01_Take_p.j0 k l0 a1 (decide ((l0.length : Int) < a1))) = some (r1, r2, r3) := by rw [if_pos rfl] at H <;> exact H
   clear H
   have H := H1
   clear H1
   have H' := Aside0.mk H
   clear H
   go_wp2
   go_meet
   case rel => exact ⟨_, (decide ((l0.length : Int) < a1)), (by first | rfl | (simp; done) | (simp [*]; done)), H', ⟨by first | omega | exact Nat.le_refl _⟩, ⟨by repeat (first | (with_reducible first | exact HB.out | apply below_alloc | apply pw_below_drewN | apply below_drew1) | exact HB.out)⟩⟩
  ·replace c5 := Bool.eq_false_iff.mpr c5
   subst c5
   have H1 : (waggonerref01_Take_p.j0 k l0 a1 true) = some (r1, r2, r3) := by rw [if_neg (show ¬ (false = true) by decide)] at H <;> exact H
   clear H
   have H := H1
   clear H1
   have H' := Aside0.mk H
   clear H
   go_wp2
   go_meet
   case rel => exact ⟨_, (true), (by first | rfl | (simp; done) | (simp [*]; done)), H', ⟨by first | omega | exact Nat.le_refl _⟩, ⟨by repeat (first | (with_reducible first | exact HB.out | apply below_alloc | apply pw_below_drewN | apply below_drew1) | exact HB.out)⟩⟩
 case rest =>
  clear HC4
  try clear p2
  try clear c5
  obtain ⟨kq, x19_3, rfl, HA, HJ3, HB⟩ := hcut
  cases kq with
  | zero => exact absurd HA.out (by simp [waggonerref01_Take_p.j0])
  | succ kj3 =>
   have H := HA.out
   clear HA
   simp only [waggonerref01_Take_p.j0] at H
   by_cases c6 : x19_3 = true
   ·subst c6
    have H1 : (some (0, ([] : List Int), 10)) = some (r1, r2, r3) := by rw [if_pos rfl] at H <;> exact H
    clear H
    have H := H1
    clear H1
    simp only [Option.some.injEq, Prod.mk.injEq] at H
    obtain ⟨rfl, rfl, rfl⟩ := H
    go_wp2
    go_ret3
    exact ⟨_, by first | rfl | (simp [errW_none, errW_some] <;> rfl) | (simp [*, errW_none, errW_some] <;> rfl), by first | exact Kd.R_nil _ _ _ _ _ | exact Kd.N_nil _ _ _ _ _ | exact Kd.V_nil _ _ _ _ _ | exact Kd.Q_nil _ _ _ _ _ | exact Kd.S_nil _ _ _ _ _, by repeat (first | (with_reducible first | exact HB.out | apply below_alloc | apply pw_below_drewN | apply below_drew1) | exact HB.out)⟩
   ·replace c6 := Bool.eq_false_iff.mpr c6
    subst c6
    have H1 : (waggonerref01_Take_p.l0 kj3 l0 a1 0 (wrap64 (a1 - 1))) = some (r1, r2, r3) := by rw [if_neg (show ¬ (false = true) by decide)] at H <;> exact H
    clear H
    have H := H1
    clear H1
    have H' := Aside0.mk H
    clear H
    go_wp2
    go_loopg [8, 9] kj3 (fun kq v8 v9 w' => ∃ (x8_2 : Int) (x9_2 : Int), v8 = .int .u64 x8_2 ∧ v9 = .int .i64 x9_2 ∧ Aside0 (waggonerref01_Take_p.l0 kq l0 a1 x8_2 x9_2 = some (r1, r2, r3)) ∧ Aside0 (kq ≤ kj3) ∧ Aside0 (Below w.heap.size w w'))
    case atStart => exact ⟨(0), (wrap64 (a1 - 1)), (by first | rfl | (simp; done) | (simp [*]; done)), (by first | rfl | (simp; done) | (simp [*]; done)), H', ⟨Nat.le_refl _⟩, ⟨by repeat (first | (with_reducible first | exact HB.out | apply below_alloc | apply pw_below_drewN | apply below_drew1) | exact HB.out)⟩⟩
    case round =>
     clear H'
     try clear p2
     try clear c5
     try clear c6
     try clear p6
     try clear p2
     obtain ⟨x8_2, x9_2, rfl, rfl, HA, HK2, HB⟩ := hrel
     cases gk with
     | zero => exact absurd HA.out (by simp [waggonerref01_Take_p.l0])
     | succ k2 =>
      have H := HA.out
      clear HA
      simp only [waggonerref01_Take_p.l0] at H
      by_cases c7 : x9_2 ≥ 0
      ·rw [if_pos c7] at H
       have c7b0 : decide (0 ≤ x9_2) = true := decide_eq_true c7
       clear c7
       by_cases c8 : 0 ≤ x9_2
       ·rw [if_pos c8] at H
        have c8b0 : decide (0 ≤ x9_2) = true := decide_eq_true c8
        clear c8
        by_cases c9 : x9_2 < (l0.length : Int)
        ·rw [if_pos c9] at H
         have c9b0 : decide (x9_2 < (l0.length : Int)) = true := decide_eq_true c9
         clear c9
         have H' := Aside0.mk H
         clear H
         have p338 : 0 ≤ (x9_2 : Int) := of_decide_eq_true (by first | (with_reducible assumption) | assumption)
         have q338 : x9_2 < (l0.length : Int) := of_decide_eq_true (by first | (with_reducible assumption) | assumption)
         obtain ⟨ad338, e338, hx338_0⟩ := Kd.at_int HR0.out x9_2 p338 q338
         cases e338
         replace hx338_0 := (HB.out.cell (World.block_lt_of_cell? w _ hx338_0)).trans hx338_0
         replace p338 := eq_true p338
         replace q338 := eq_true q338
         go_wp2
         go_roundg k2
         case measure => have := HJ3.out; have := HK2.out; omega
         case rel => exact ⟨(IntKind.u64.wrap ((IntKind.u64.wrap (x8_2 * 256)) + (IntKind.u64.wrap (rd l0 x9_2)))), (wrap64 (x9_2 - 1)), (by first | rfl | (simp; done) | (simp [*]; done)), (by first | rfl | (simp; done) | (simp [*]; done)), H', ⟨by have := HJ3.out; have := HK2.out; omega⟩, ⟨by repeat (first | (with_reducible first | exact HB.out | apply below_alloc | apply pw_below_drewN | apply below_drew1) | exact HB.out)⟩⟩
        ·rw [if_neg c9] at H
         exact absurd H (by simp)
       ·rw [if_neg c8] at H
        exact absurd H (by simp)
      ·rw [if_neg c7] at H
       have c7b0 : decide (0 ≤ x9_2) = false := decide_eq_false c7
       clear c7
       obtain ⟨y339, hy339⟩ : ∃ y_ : List Int, y_ = (([] : List Int)) := ⟨_, rfl⟩
       replace H : (if 0 ≤ a1 then (if a1 ≤ (l0.length : Int) then (if y339.length + (l0.drop (a1 : Int).toNat).length < 140737488355328 then (some (x8_2, (y339 ++ (l0.drop (a1 : Int).toNat)), 0)) else (none)) else (none)) else (none)) = some (r1, r2, r3) := by first | (rw [hy339]; with_reducible exact H) | (have H2_ := (Option.bind_some _ _).symm.trans H; rw [hy339]; with_reducible exact H2_) | (have H2_ := (Option.bind_some _ _).symm.trans H; with_reducible exact H2_) | with_reducible exact H | (rw [hy339]; exact H) | exact H
       have Ny339 := Aside0.mk hy339
       clear hy339
       by_cases c10 : 0 ≤ a1
       ·rw [if_pos c10] at H
        have c10b0 := eq_true c10
        have c10b1 : decide (0 ≤ a1) = true := decide_eq_true c10
        clear c10
        by_cases c11 : a1 ≤ (l0.length : Int)
        ·rw [if_pos c11] at H
         have c11b0 := eq_true c11
         have c11b1 : decide (a1 ≤ (l0.length : Int)) = true := decide_eq_true c11
         clear c11
         by_cases c12 : y339.length + (l0.drop (a1 : Int).toNat).length < 140737488355328
         ·rw [if_pos c12] at H
          have LMc12 := Aside0.mk c12
          clear c12
          obtain ⟨y343, hy343⟩ : ∃ y_ : List Int, y_ = (y339 ++ (l0.drop (a1 : Int).toNat)) := ⟨_, rfl⟩
          replace H : (some (x8_2, y343, 0)) = some (r1, r2, r3) := by first | (rw [hy343]; with_reducible exact H) | (have H2_ := (Option.bind_some _ _).symm.trans H; rw [hy343]; with_reducible exact H2_) | (have H2_ := (Option.bind_some _ _).symm.trans H; with_reducible exact H2_) | with_reducible exact H | (rw [hy343]; exact H) | exact H
          have Ny343 := Aside0.mk hy343
          clear hy343
          simp only [Option.some.injEq, Prod.mk.injEq] at H
          obtain ⟨rfl, rfl, rfl⟩ := H
          go_wp2_with (first | ((with_reducible refine gate_dst (N := 35) rfl ?_); (try (refine gate_guard (by rfl) ?_; dsimp only)); refine Kd.R_lit (Kd.int .u8) _ 5 ?hg (N := 35) ?hd (xs := ([] : List Int)) (inner := []) (ok := fun _ => True) (okp := fun _ => True) ?hr ?hp (fun _ hk => hk) trivial (Below.refl _ _) (Nat.le_refl _) (by simp) ?_; (case hd => rfl); (case hg => rfl); (case hr => first | (go_simp; done) | (go_simp; rfl)); (case hp => exact (Reps.none _ _)); intro v340 w13 ho14 hb hg_ hnew_; clear hg_ hnew_; (first | rw [← Ny339.out] at ho14 | (simp only [Int.reduceToNat] at ho14; rw [← Ny339.out] at ho14)); have n0_ := Aside0.mk (Kd.R_lower ho14 (below_size (by repeat (first | (with_reducible first | exact HB.out | apply below_alloc | apply pw_below_drewN | apply below_drew1) | exact HB.out)))); have n1_ := Aside0.mk (below_step (by repeat (first | (with_reducible first | exact HB.out | apply below_alloc | apply pw_below_drewN | apply below_drew1) | exact HB.out)) hb); clear HB; have HO341 := n0_; have HB := n1_; clear n0_ n1_; clear hb ho14; obtain ⟨i015, hi015, _, hsz15, _⟩ := info_parts info5; obtain ⟨A15, hcut15, hA15, hC15⟩ := print_drop_of (P := Try.prog) (Value.int .u8) 0 27 5 .i64 Try.underlying27 hi015 hsz15 A0 c0 l0 a1 (of_decide_eq_true (by first | (with_reducible assumption) | assumption)) (of_decide_eq_true (by first | (with_reducible assumption) | assumption)) HC0.out; have HR342 := Aside0.mk (Kd.C_of_reads (h1 := fun _ => rfl) (hA15 _ (Kd.reads_of_C HR0.out))); have HC342 := Aside0.mk hC15; clear hA15 hC15 hi015 hsz15) | ((with_reducible refine gate_builtin (b := .append) (xs := #[.tmp 35, .tmp 38]) rfl ?_); (try (refine gate_guard (by rfl) ?_; dsimp only)); at_builtin; refine Kd.R_append_rows (Kd.int .u8) (w0 := w) w.heap.size rfl (.tmp 35) (.tmp 38) 27 5 (.int .u8 0) 1 rfl Try.underlying27 info5 rfl (by decide) (by omega) v340 y339 (l0.drop (a1 : Int).toNat) _ _ _ (fun _ => True) (fun _ => False) rfl rfl ?aO ?aR (fun _ _ h => h) (fun _ h => h.elim) ?aF ?aB ?aS ?aL ?_; (case aR => first | (rw [← show (l0.drop (a1 : Int).toNat).length = (l0.length - a1.toNat) from List.length_drop]; repeat (first | exact (Kd.C_below HR342.out HB.out) | (with_reducible refine Kd.C_alloc ?_ _) | (with_reducible refine Kd.C_drewN ?_ _) | (with_reducible refine Kd.C_drew ?_))) | (repeat (first | exact (Kd.C_below HR342.out HB.out) | (with_reducible refine Kd.C_alloc ?_ _) | (with_reducible refine Kd.C_drewN ?_ _) | (with_reducible refine Kd.C_drew ?_)))); (case aB => exact (by repeat (first | (with_reducible first | exact HB.out | apply below_alloc | apply pw_below_drewN | apply below_drew1) | exact HB.out))); (case aF => exact (fun _ _ => trivial)); (case aO => exact (by (with_reducible repeat (first | apply Kd.R_alloc | apply Kd.R_drewN | apply Kd.R_drew)); exact HO341.out)); (case aS => exact (below_size (by repeat (first | (with_reducible first | exact HB.out | apply below_alloc | apply pw_below_drewN | apply below_drew1) | exact HB.out)))); (case aL => have := LMc12.out; have hlx_ := (show (l0.drop (a1 : Int).toNat).length = (l0.length - a1.toNat) from List.length_drop); omega); intro v344 w16 ho hb hg hat; rw [← Ny343.out] at ho; have n0_ := Aside0.mk (hb); have n1_ := Aside0.mk (ho); clear HB; clear HO341; have HB := n0_; have HO345 := n1_; clear n0_ n1_; clear ho hb hg hat))
          go_ret3
          exact ⟨_, by first | rfl | (simp [errW_none, errW_some] <;> rfl) | (simp [*, errW_none, errW_some] <;> rfl), by (with_reducible repeat (first | apply Kd.R_alloc | apply Kd.R_drewN | apply Kd.R_drew)); exact HO345.out, by repeat (first | (with_reducible first | exact HB.out | apply below_alloc | apply pw_below_drewN | apply below_drew1) | exact HB.out)⟩
         ·rw [if_neg c12] at H
          exact absurd H (by simp)
        ·rw [if_neg c11] at H
         exact absurd H (by simp)
       ·rw [if_neg c10] at H
        exact absurd H (by simp)
def waggonerref01_Take.f (l0 : List Int) (a1 : Int) : Option (Int × List Int × Int) := if Pl.byteB l0 = true ∧ l0.length < 70368744177664 then some (Pl.takeS l0 a1) else none
theorem waggonerref01_Take.may (s : Int) : waggonerref01_may.f s = some (Pl.okS s) := by
 unfold waggonerref01_may.f Pl.okS
 by_cases h1 : s = 1
 ·subst h1; rfl
 by_cases h2 : s = 2
 ·subst h2; rfl
 by_cases h4 : s = 4
 ·subst h4; rfl
 by_cases h8 : s = 8
 ·subst h8; rfl
 simp [h1, h2, h4, h8]
theorem waggonerref01_Take.grow (l : List Int) (hb : Pl.byteB l = true) (s j : Nat) (hs : s ≤ l.length) (hj : j < s) (hs8 : s ≤ 8) : ∃ b : Nat, b < 256 ∧ rd l (j : Int) = (b : Int) ∧ Pl.leN (Pl.nats ((l.take s).drop (j + 1))) < 72057594037927936 ∧ Pl.leN (Pl.nats ((l.take s).drop j)) = 256 * Pl.leN (Pl.nats ((l.take s).drop (j + 1))) + b := by
 have hn : ∀ j, Pl.nats ((l.take s).drop j) = ((Pl.nats l).take s).drop j := fun j => by unfold Pl.nats; rw [List.map_drop, List.map_take]
 have hB : Pl.Bytes (Pl.nats l) := Pl.byteB_bytes hb
 have hjl : j < ((Pl.nats l).take s).length := by rw [List.length_take, Pl.nats_length]; omega
 have hjn : j < (Pl.nats l).length := by rw [Pl.nats_length]; omega
 have hlt : Pl.leN (((Pl.nats l).take s).drop (j + 1)) < 72057594037927936 := by
  have h1 := Pl.leN_lt (((Pl.nats l).take s).drop (j + 1)) (fun x hx => hB x (List.mem_of_mem_take (List.mem_of_mem_drop hx)))
  have h2 : 2 ^ (8 * (((Pl.nats l).take s).drop (j + 1)).length) ≤ 2 ^ 56 := Nat.pow_le_pow_right (by decide) (by rw [List.length_drop, List.length_take]; omega)
  exact Nat.lt_of_lt_of_le h1 h2
 refine ⟨(Pl.nats l)[j]'hjn, hB _ (List.getElem_mem _), ?_, by rw [hn]; exact hlt, ?_⟩
 ·exact Kx.rd_nats hb j hjn
 ·rw [hn, hn, List.drop_eq_getElem_cons hjl, Pl.leN, List.getElem_take]
theorem waggonerref01_Take.loop (l : List Int) (hb : Pl.byteB l = true) (s : Nat) (hs : s ≤ l.length) (hs8 : s ≤ 8) (hl : l.length < 70368744177664) : ∀ (j k : Nat), j ≤ s → j < k →
  waggonerref01_Take_p.l0 k l (s : Int) ((Pl.leN (Pl.nats ((l.take s).drop j)) : Nat) : Int) ((j : Int) - 1) = some (((Pl.leN (Pl.nats (l.take s)) : Nat) : Int), l.drop s, 0)
 | 0, k, hj, hk => by
  obtain ⟨k, rfl⟩ : ∃ m, k = m + 1 := ⟨k - 1, by omega⟩
  simp only [waggonerref01_Take_p.l0]
  rw [if_neg (by omega), Option.bind_some, if_pos (by omega), if_pos (by omega), Int.toNat_natCast, if_pos (by rw [List.length_drop, List.length_nil]; omega), List.nil_append, List.drop_zero]
 | j + 1, k, hj, hk => by
  obtain ⟨k, rfl⟩ : ∃ m, k = m + 1 := ⟨k - 1, by omega⟩
  obtain ⟨b, hb8, hr, hlt, hgo⟩ := waggonerref01_Take.grow l hb s j hs (by omega) hs8
  have ih := waggonerref01_Take.loop l hb s hs hs8 hl j k (by omega) (by omega)
  rw [hgo] at ih
  obtain ⟨x, hx⟩ : ∃ x, x = Pl.leN (Pl.nats ((l.take s).drop (j + 1))) := ⟨_, rfl⟩
  rw [← hx] at ih hlt ⊢
  simp only [waggonerref01_Take_p.l0]
  rw [show ((j + 1 : Nat) : Int) - 1 = (j : Int) from by omega, if_pos (by omega), if_pos (by omega), if_pos (by omega), hr, IntKind.wrap_u64, IntKind.wrap_u64, IntKind.wrap_u64,
   show ((x : Int) * 256 % 18446744073709551616 + (b : Int) % 18446744073709551616) % 18446744073709551616 = ((256 * x + b : Nat) : Int) from by omega, show wrap64 ((j : Int) - 1) = (j : Int) - 1 from by unfold wrap64; omega]
  exact ih
theorem waggonerref01_Take.tells {l0 : List Int} {a1 : Int} {r : Int × List Int × Int} (h : waggonerref01_Take.f l0 a1 = some r) : waggonerref01_Take_p.f 12 l0 a1 = some r := by
 unfold waggonerref01_Take.f at h
 split at h
 case isFalse => cases h
 rename_i hh
 obtain ⟨h0, h1⟩ := hh
 obtain rfl := Option.some.inj h
 unfold waggonerref01_Take_p.f
 rw [waggonerref01_Take.may, Option.bind_some]
 unfold Pl.takeS
 by_cases hs : Pl.okS a1 = true
 ·obtain ⟨s, rfl⟩ := Int.eq_ofNat_of_zero_le (show 0 ≤ a1 from by rcases Pl.okS_iff.1 hs with h | h | h | h <;> omega)
  have hs8 : s ≤ 8 := by rcases Pl.okS_iff.1 hs with h | h | h | h <;> omega
  rw [if_pos hs]
  simp only [waggonerref01_Take_p.j0]
  by_cases hl : (l0.length : Int) < (s : Int)
  ·rw [decide_eq_true hl, if_pos rfl, if_neg (by omega)]
  ·rw [decide_eq_false hl, if_neg (by decide), if_pos ⟨hs, by omega⟩, Int.toNat_natCast, show wrap64 ((s : Int) - 1) = (s : Int) - 1 from by unfold wrap64; omega]
   have h := waggonerref01_Take.loop l0 h0 s (by omega) hs8 h1 s 11 (by omega) (by omega)
   rw [show (l0.take s).drop s = [] from by rw [List.drop_eq_nil_iff, List.length_take]; omega] at h
   exact h
 ·rw [if_neg hs, if_neg (fun h => hs h.1)]
  simp only [waggonerref01_Take_p.j0]
  rfl
theorem waggonerref01_Take.calls (A0 : Option Addr) (c0 : Nat) (l0 : List Int) (a1 : Int) (r1 : Int) (r2 : List Int) (r3 : Int) (w : World) (hr0 : Kd.C (Kd.int .u8) w A0 l0.length l0) (hc0 : l0.length ≤ c0) (h : waggonerref01_Take.f l0 a1 = some (r1, r2, r3)) :
  Calls Try.prog 85 #[.slice A0 l0.length c0, .int .i64 a1] w fun e w' => ∃ v1_ : Value, e = .returned (.tuple #[.int .u64 r1, v1_, .int .i64 r3]) ∧ Kd.R (Kd.int .u8) 5 w' w.heap.size (fun _ => True) v1_ r2 ∧ Below w.heap.size w w' :=
 waggonerref01_Take_p.calls 12 A0 c0 l0 a1 r1 r2 r3 w hr0 hc0 (waggonerref01_Take.tells h)
def waggonerref01_Unpack_p.l0 : Nat → ByteArray → List Int → List Int → Int → Option (List Int × Int)
 | 0, _, _, _, _ => none
 | k + 1, x0, x1, x6, x7 => if x7 < (x0.size : Int) then (if 0 ≤ x7 then ((waggonerref01_size.f (bt x0 x7)).bind fun t346 => ((waggonerref01_Take.f x1 t346).bind fun bt347 => (if bt347.2.2 = 0 then (if x6.length < 17592186044416 then (waggonerref01_Unpack_p.l0 k x0 bt347.2.1 (x6 ++ [bt347.1]) (wrap64 (x7 + 1))) else (none)) else (some (([] : List Int), 10))))) else (none)) else (if (x1.length : Int) > 0 then (some (([] : List Int), 10)) else (some (x6, 0)))
def waggonerref01_Unpack_p.f (k : Nat) (a0 : ByteArray) (l1 : List Int) : Option (List Int × Int) := waggonerref01_Unpack_p.l0 k a0 l1 ([] : List Int) 0
set_option maxHeartbeats 8000000 in
set_option maxRecDepth 100000 in
theorem waggonerref01_Unpack_p.calls (k : Nat) (a0 : ByteArray) (P1_ : Nat → Prop) (A1 : Option Addr) (c1 : Nat) (l1 : List Int) (r1 : List Int) (r2 : Int) (w : World) (hs1 : Kd.V (Kd.int .u8) 5 w w.heap.size (fun k_ => P1_ k_) (.slice A1 l1.length c1) l1) (h : waggonerref01_Unpack_p.f k a0 l1 = some (r1, r2)) :
  Calls Try.prog 73 #[.string a0, .slice A1 l1.length c1] w fun e w' => ∃ v0_ : Value, e = .returned (.tuple #[v0_, .int .i64 r2]) ∧ Kd.R (Kd.int .u64) 68 w' w.heap.size (fun k_ => (w.heap.size ≤ k_)) v0_ r1 ∧ Below w.heap.size w w' := by
 have HO1 := Aside0.mk (show Kd.V (Kd.int .u8) 5 w w.heap.size (fun k_ => (P1_ k_ ∨ w.heap.size ≤ k_)) (.slice A1 l1.length c1) l1 from Kd.V_mono hs1 (fun k_ hk => .inl hk))
 have HB := Aside0.mk (Below.refl w.heap.size w)
 have H : (waggonerref01_Unpack_p.l0 k a0 l1 ([] : List Int) 0) = some (r1, r2) := h
 clear h
 have H' := Aside0.mk H
 clear H
 go_enter Try.func73, Try.ntmps73
 go_wp2
 go_loopg [1, 6, 7] k (fun kq v1 v6 v7 w' => ∃ (x1_1 : List Int) (x6_1 : List Int) (x7_1 : Int), v7 = .int .i64 x7_1 ∧ Aside0 (waggonerref01_Unpack_p.l0 kq a0 x1_1 x6_1 x7_1 = some (r1, r2)) ∧ Aside0 (kq ≤ k) ∧ Aside0 (Kd.V (Kd.int .u8) 5 w' w.heap.size (fun k_ => (P1_ k_ ∨ w.heap.size ≤ k_) ∧ some k_ ≠ (v6 : Value).ownBlock) v1 x1_1) ∧ Aside0 (Kd.R (Kd.int .u64) 68 w' w.heap.size (fun k_ => (w.heap.size ≤ k_)) v6 x6_1) ∧ Aside0 (Below w.heap.size w w'))
 case atStart => exact ⟨(l1), (([] : List Int)), (0), (by first | rfl | (simp; done) | (simp [*]; done)), H', ⟨Nat.le_refl _⟩, ⟨by (with_reducible repeat (first | apply Kd.V_alloc | apply Kd.V_drewN | apply Kd.V_drew)); exact Kd.V_mono HO1.out (fun _ hk => ⟨hk, (by simp [Value.ownBlock])⟩)⟩, ⟨by first | exact Kd.R_nil _ _ _ _ _ | exact Kd.N_nil _ _ _ _ _ | exact Kd.V_nil _ _ _ _ _ | exact Kd.Q_nil _ _ _ _ _ | exact Kd.S_nil _ _ _ _ _⟩, ⟨by repeat (first | (with_reducible first | exact HB.out | apply below_alloc | apply pw_below_drewN | apply below_drew1) | exact HB.out)⟩⟩
 case round =>
  clear H'
  try clear c1
  try clear p2
  obtain ⟨x1_1, x6_1, x7_1, rfl, HA, HK1, HO_1, HO_6, HB⟩ := hrel
  cases gk with
  | zero => exact absurd HA.out (by simp [waggonerref01_Unpack_p.l0])
  | succ k1 =>
   have H := HA.out
   clear HA
   simp only [waggonerref01_Unpack_p.l0] at H
   by_cases c3 : x7_1 < (a0.size : Int)
   ·rw [if_pos c3] at H
    have c3b0 : decide (x7_1 < (a0.size : Int)) = true := decide_eq_true c3
    clear c3
    by_cases c4 : 0 ≤ x7_1
    ·rw [if_pos c4] at H
     have c4b0 : decide (0 ≤ x7_1) = true := decide_eq_true c4
     clear c4
     replace H := Option.bind_eq_some_iff.mp H
     obtain ⟨t346, A60, H⟩ := H
     replace H : ((waggonerref01_Take.f x1_1 t346).bind fun bt347 => (if bt347.2.2 = 0 then (if x6_1.length < 17592186044416 then (waggonerref01_Unpack_p.l0 k1 a0 bt347.2.1 (x6_1 ++ [bt347.1]) (wrap64 (x7_1 + 1))) else (none)) else (some (([] : List Int), 10)))) = some (r1, r2) := H
     have A6 := Aside0.mk A60
     clear A60
     replace H := Option.bind_eq_some_iff.mp H
     obtain ⟨⟨t347, t348, t349⟩, A70, H⟩ := H
     replace H : (if t349 = 0 then (if x6_1.length < 17592186044416 then (waggonerref01_Unpack_p.l0 k1 a0 t348 (x6_1 ++ [t347]) (wrap64 (x7_1 + 1))) else (none)) else (some (([] : List Int), 10))) = some (r1, r2) := H
     have A7 := Aside0.mk A70
     clear A70
     by_cases c8 : t349 = 0
     ·rw [if_pos c8] at H
      have c8b0 : (t349 == 0) = true := beq_iff_eq.mpr c8
      have c8b1 : (t349 != 0) = false := bne_eq_false_iff_eq.mpr c8
      clear c8
      by_cases c9 : x6_1.length < 17592186044416
      ·rw [if_pos c9] at H
       have LMc9 := Aside0.mk c9
       clear c9
       obtain ⟨y352, hy352⟩ : ∃ y_ : List Int, y_ = (x6_1 ++ [t347]) := ⟨_, rfl⟩
       replace H : (waggonerref01_Unpack_p.l0 k1 a0 t348 y352 (wrap64 (x7_1 + 1))) = some (r1, r2) := by first | (rw [hy352]; with_reducible exact H) | (have H2_ := (Option.bind_some _ _).symm.trans H; rw [hy352]; with_reducible exact H2_) | (have H2_ := (Option.bind_some _ _).symm.trans H; with_reducible exact H2_) | with_reducible exact H | (rw [hy352]; exact H) | exact H
       have Ny352 := Aside0.mk hy352
       clear hy352
       have H' := Aside0.mk H
       clear H
       have p5 : 0 ≤ (x7_1 : Int) := of_decide_eq_true (by first | (with_reducible assumption) | assumption)
       have q5 : x7_1 < (a0.size : Int) := of_decide_eq_true (by first | (with_reducible assumption) | assumption)
       have hx5 := bt_at a0 x7_1
       replace p5 := eq_true p5
       replace q5 := eq_true q5
       go_wp2_with (first | ((with_reducible refine gate_callee (f := 69) rfl ?_); refine goesL_ (some 22) rfl rfl Try.func69 (by kernel_rfl) rfl #[.int .u8 (bt a0 x7_1)] rfl (by (try simp only [List.map_toArray, List.map_cons, List.map_nil]); first | done | rfl | (simp only [List.length_drop, List.length_take]; rfl)) ?_; (with_reducible refine (waggonerref01_size.calls (bt a0 x7_1) t346 _ A6.out).mono ?_); rintro e w' ⟨rfl, ⟨nd, rfl⟩⟩; refine ⟨_, rfl, ?_⟩; obtain ⟨Ao10, co10, eo10⟩ := Kd.V_slice HO_1.out; subst eo10) | ((with_reducible refine gate_callee (f := 85) rfl ?_); refine goesL_ (some 23) rfl rfl Try.func85 (by kernel_rfl) rfl #[.slice Ao10 x1_1.length co10, .int .i64 t346] rfl (by (try simp only [List.map_toArray, List.map_cons, List.map_nil]); first | done | rfl | (simp only [List.length_drop, List.length_take]; rfl)) ?_; (with_reducible refine (waggonerref01_Take.calls _ _ x1_1 t346 t347 t348 t349 _ ?side1 ?side2 A7.out).mono ?_); (case side1 => repeat (first | exact (Kd.V_reads' HO_1.out).2.2 | (with_reducible refine Kd.C_alloc ?_ _) | (with_reducible refine Kd.C_drewN ?_ _) | (with_reducible refine Kd.C_drew ?_))); (case side2 => exact (Kd.V_reads' HO_1.out).2.1); rintro e w11 ⟨v350, rfl, ho0, hb⟩; refine ⟨_, rfl, ?_⟩; have n0_ := Aside0.mk (Kd.V_elder' (by (with_reducible repeat (first | apply Kd.V_alloc | apply Kd.V_drewN | apply Kd.V_drew)); exact HO_1.out) (Kd.R_base ho0) hb); have n1_ := Aside0.mk (Kd.R_below (by (with_reducible repeat (first | apply Kd.R_alloc | apply Kd.R_drewN | apply Kd.R_drew)); exact HO_6.out) hb); have n2_ := Aside0.mk (Kd.R_lower (Kd.R_newM (M := fun k_ => (w.heap.size ≤ k_)) ho0 (below_size (by repeat (first | (with_reducible first | exact HB.out | apply below_alloc | apply pw_below_drewN | apply below_drew1) | exact HB.out))) (fun k_ h_ => h_)) (below_size (by repeat (first | (with_reducible first | exact HB.out | apply below_alloc | apply pw_below_drewN | apply below_drew1) | exact HB.out)))); have n3_ := Aside0.mk (below_step (by repeat (first | (with_reducible first | exact HB.out | apply below_alloc | apply pw_below_drewN | apply below_drew1) | exact HB.out)) hb); clear HO_1; clear HO_6; clear HB; have HO_1 := n0_; have HO_6 := n1_; have HO351 := n2_; have HB := n3_; clear n0_ n1_ n2_ n3_; (try clear hb); (try clear hb2); (try clear hk); (try clear hi); (try clear ho0)) | ((with_reducible refine gate_builtin (b := .append) (xs := #[.tmp 29, .tmp 31]) rfl ?_); at_builtin; refine Kd.R_append (Kd.int .u64) (w0 := w) w.heap.size rfl (.tmp 29) (.tmp 31) 72 68 (.int .u64 0) 8 rfl Try.underlying72 info68 rfl (by decide) (by omega) u6 x6_1 t347 [.int .u64 t347] (fun k_ => (w.heap.size ≤ k_)) (fun _ => False) rfl rfl ?aP (fun _ hk => hk.elim) ?aF ?aO ?aB ?aS ?aL ?_; (case aP => exact rfl); (case aB => exact (by repeat (first | (with_reducible first | exact HB.out | apply below_alloc | apply pw_below_drewN | apply below_drew1) | exact HB.out))); (case aF => exact (fun k_ hk => (Nat.le_trans (below_size (by repeat (first | (with_reducible first | exact HB.out | apply below_alloc | apply pw_below_drewN | apply below_drew1) | exact HB.out))) hk))); (case aO => exact (by (with_reducible repeat (first | apply Kd.R_alloc | apply Kd.R_drewN | apply Kd.R_drew)); exact HO_6.out)); (case aS => exact (below_size (by repeat (first | (with_reducible first | exact HB.out | apply below_alloc | apply pw_below_drewN | apply below_drew1) | exact HB.out)))); (case aL => have := LMc9.out; omega); intro v353 w12 ho hb hg hat; rw [← Ny352.out] at ho; have n0_ := Aside0.mk (Kd.V_afterv (ok := (fun k_ => (P1_ k_ ∨ w.heap.size ≤ k_) ∧ some k_ ≠ (v350 : Value).ownBlock)) (by (with_reducible repeat (first | apply Kd.V_alloc | apply Kd.V_drewN | apply Kd.V_drew)); exact Kd.V_mono HO_1.out (fun _ hk => ⟨⟨hk.1.1, hk.2⟩, hk.1.2⟩)) hg hat); have n1_ := Aside0.mk (Kd.R_over' (by (with_reducible repeat (first | apply Kd.R_alloc | apply Kd.R_drewN | apply Kd.R_drew)); exact HO351.out) (Kd.R_typed (by (with_reducible repeat (first | apply Kd.R_alloc | apply Kd.R_drewN | apply Kd.R_drew)); exact HO_6.out)) (by decide) hg); have n2_ := Aside0.mk (hb); have n3_ := Aside0.mk (ho); clear HO_1; clear HO351; clear HB; clear HO_6; have HO_1 := n0_; have HO351 := n1_; have HB := n2_; have HO354 := n3_; clear n0_ n1_ n2_ n3_; clear ho hb hg hat))
       go_roundg k1
       case measure => have := HK1.out; omega
       case rel => exact ⟨(t348), (y352), (wrap64 (x7_1 + 1)), (by first | rfl | (simp; done) | (simp [*]; done)), H', ⟨by have := HK1.out; omega⟩, ⟨Kd.V_mono (Kd.R_V (by (with_reducible repeat (first | apply Kd.R_alloc | apply Kd.R_drewN | apply Kd.R_drew)); exact Kd.R_apart' HO351.out (Kd.R_typed HO354.out) (by decide))) (fun k_ hk => by first | exact ⟨(.inr (hk.1.1)), hk.2⟩ | exact ⟨(.inr (hk.1)), hk.2⟩ | exact (.inr (hk)))⟩, ⟨by (with_reducible repeat (first | apply Kd.R_alloc | apply Kd.R_drewN | apply Kd.R_drew)); exact HO354.out⟩, ⟨by repeat (first | (with_reducible first | exact HB.out | apply below_alloc | apply pw_below_drewN | apply below_drew1) | exact HB.out)⟩⟩
      ·rw [if_neg c9] at H
       exact absurd H (by simp)
     ·rw [if_neg c8] at H
      have c8b0 : (t349 == 0) = false := beq_eq_false_iff_ne.mpr c8
      have c8b1 : (t349 != 0) = true := bne_iff_ne.mpr c8
      simp only [Option.some.injEq, Prod.mk.injEq] at H
      obtain ⟨rfl, rfl⟩ := H
      have p5 : 0 ≤ (x7_1 : Int) := of_decide_eq_true (by first | (with_reducible assumption) | assumption)
      have q5 : x7_1 < (a0.size : Int) := of_decide_eq_true (by first | (with_reducible assumption) | assumption)
      have hx5 := bt_at a0 x7_1
      replace p5 := eq_true p5
      replace q5 := eq_true q5
      go_wp2_with (first | ((with_reducible refine gate_callee (f := 69) rfl ?_); refine goesL_ (some 22) rfl rfl Try.func69 (by kernel_rfl) rfl #[.int .u8 (bt a0 x7_1)] rfl (by (try simp only [List.map_toArray, List.map_cons, List.map_nil]); first | done | rfl | (simp only [List.length_drop, List.length_take]; rfl)) ?_; (with_reducible refine (waggonerref01_size.calls (bt a0 x7_1) t346 _ A6.out).mono ?_); rintro e w' ⟨rfl, ⟨nd, rfl⟩⟩; refine ⟨_, rfl, ?_⟩; obtain ⟨Ao13, co13, eo13⟩ := Kd.V_slice HO_1.out; subst eo13) | ((with_reducible refine gate_callee (f := 85) rfl ?_); refine goesL_ (some 23) rfl rfl Try.func85 (by kernel_rfl) rfl #[.slice Ao13 x1_1.length co13, .int .i64 t346] rfl (by (try simp only [List.map_toArray, List.map_cons, List.map_nil]); first | done | rfl | (simp only [List.length_drop, List.length_take]; rfl)) ?_; (with_reducible refine (waggonerref01_Take.calls _ _ x1_1 t346 t347 t348 t349 _ ?side1 ?side2 A7.out).mono ?_); (case side1 => repeat (first | exact (Kd.V_reads' HO_1.out).2.2 | (with_reducible refine Kd.C_alloc ?_ _) | (with_reducible refine Kd.C_drewN ?_ _) | (with_reducible refine Kd.C_drew ?_))); (case side2 => exact (Kd.V_reads' HO_1.out).2.1); rintro e w14 ⟨v350, rfl, ho0, hb⟩; refine ⟨_, rfl, ?_⟩; have n0_ := Aside0.mk (Kd.V_elder' (by (with_reducible repeat (first | apply Kd.V_alloc | apply Kd.V_drewN | apply Kd.V_drew)); exact HO_1.out) (Kd.R_base ho0) hb); have n1_ := Aside0.mk (Kd.R_below (by (with_reducible repeat (first | apply Kd.R_alloc | apply Kd.R_drewN | apply Kd.R_drew)); exact HO_6.out) hb); have n2_ := Aside0.mk (Kd.R_lower (Kd.R_newM (M := fun k_ => (w.heap.size ≤ k_)) ho0 (below_size (by repeat (first | (with_reducible first | exact HB.out | apply below_alloc | apply pw_below_drewN | apply below_drew1) | exact HB.out))) (fun k_ h_ => h_)) (below_size (by repeat (first | (with_reducible first | exact HB.out | apply below_alloc | apply pw_below_drewN | apply below_drew1) | exact HB.out)))); have n3_ := Aside0.mk (below_step (by repeat (first | (with_reducible first | exact HB.out | apply below_alloc | apply pw_below_drewN | apply below_drew1) | exact HB.out)) hb); clear HO_1; clear HO_6; clear HB; have HO_1 := n0_; have HO_6 := n1_; have HO351 := n2_; have HB := n3_; clear n0_ n1_ n2_ n3_; (try clear hb); (try clear hb2); (try clear hk); (try clear hi); (try clear ho0)))
      go_ret2
      exact ⟨_, by first | rfl | (simp [errW_none, errW_some] <;> rfl) | (simp [*, errW_none, errW_some] <;> rfl), by first | exact Kd.R_nil _ _ _ _ _ | exact Kd.N_nil _ _ _ _ _ | exact Kd.V_nil _ _ _ _ _ | exact Kd.Q_nil _ _ _ _ _ | exact Kd.S_nil _ _ _ _ _, by repeat (first | (with_reducible first | exact HB.out | apply below_alloc | apply pw_below_drewN | apply below_drew1) | exact HB.out)⟩
    ·rw [if_neg c4] at H
     exact absurd H (by simp)
   ·rw [if_neg c3] at H
    have c3b0 : decide (x7_1 < (a0.size : Int)) = false := decide_eq_false c3
    clear c3
    by_cases c15 : (x1_1.length : Int) > 0
    ·rw [if_pos c15] at H
     have c15b0 : decide (0 < (x1_1.length : Int)) = true := decide_eq_true c15
     have c15b1 : decide (0 < x1_1.length) = true := decide_eq_true (by omega)
     clear c15
     simp only [Option.some.injEq, Prod.mk.injEq] at H
     obtain ⟨rfl, rfl⟩ := H
     obtain ⟨Ao16, co16, eo16⟩ := Kd.V_slice HO_1.out
     subst eo16
     go_wp2
     go_ret2
     exact ⟨_, by first | rfl | (simp [errW_none, errW_some] <;> rfl) | (simp [*, errW_none, errW_some] <;> rfl), by first | exact Kd.R_nil _ _ _ _ _ | exact Kd.N_nil _ _ _ _ _ | exact Kd.V_nil _ _ _ _ _ | exact Kd.Q_nil _ _ _ _ _ | exact Kd.S_nil _ _ _ _ _, by repeat (first | (with_reducible first | exact HB.out | apply below_alloc | apply pw_below_drewN | apply below_drew1) | exact HB.out)⟩
    ·rw [if_neg c15] at H
     have c15b0 : decide (0 < (x1_1.length : Int)) = false := decide_eq_false c15
     have c15b1 : decide (0 < x1_1.length) = false := decide_eq_false (by omega)
     clear c15
     simp only [Option.some.injEq, Prod.mk.injEq] at H
     obtain ⟨rfl, rfl⟩ := H
     obtain ⟨Ao17, co17, eo17⟩ := Kd.V_slice HO_1.out
     subst eo17
     go_wp2
     go_ret2
     exact ⟨_, by first | rfl | (simp [errW_none, errW_some] <;> rfl) | (simp [*, errW_none, errW_some] <;> rfl), by (with_reducible repeat (first | apply Kd.R_alloc | apply Kd.R_drewN | apply Kd.R_drew)); exact HO_6.out, by repeat (first | (with_reducible first | exact HB.out | apply below_alloc | apply pw_below_drewN | apply below_drew1) | exact HB.out)⟩
theorem waggonerref01_Unpack.size (c : Int) : waggonerref01_size.f c = some (Pl.letS c) := by
 unfold waggonerref01_size.f Pl.letS
 repeat' split
 all_goals rfl
theorem waggonerref01_Unpack.atBt (s : ByteArray) (i : Nat) (h : i < s.size) : bt s (i : Int) = (Pl.fb s)[i]'(by rw [Pl.fb_length]; exact h) := by
 unfold bt
 rw [dif_pos (by rw [Int.toNat_natCast]; exact h)]
 simp only [Pl.fb, List.getElem_map, Int.toNat_natCast]
 rfl
def waggonerref01_Unpack.f (a0 : ByteArray) (l1 : List Int) : Option (List Int × Int) := if Pl.byteB l1 = true ∧ l1.length < 70368744177664 ∧ a0.size < 2147483648 then some (Pl.unpackS (Pl.fb a0) l1) else none
theorem waggonerref01_Unpack.drop {b : List Int} (h : Pl.byteB b = true) (n : Nat) : Pl.byteB (b.drop n) = true := by
 rw [Pl.byteB_iff] at h ⊢
 exact fun x hx => h x (List.mem_of_mem_drop hx)
theorem waggonerref01_Unpack.loop (s : ByteArray) (hs : s.size < 2147483648) : ∀ (d k i : Nat) (b out : List Int), Pl.byteB b = true → b.length < 70368744177664 → i + d = s.size → d < k → out.length ≤ i →
  waggonerref01_Unpack_p.l0 k s b out (i : Int) = some (Pl.unpackGo out ((Pl.fb s).drop i) b)
 | 0, k, i, b, out, hb, hbl, hi, hk, ho => by
  obtain ⟨k, rfl⟩ : ∃ m, k = m + 1 := ⟨k - 1, by omega⟩
  simp only [waggonerref01_Unpack_p.l0]
  rw [if_neg (by omega), List.drop_eq_nil_of_le (by rw [Pl.fb_length]; omega), Pl.unpackGo]
  cases b with
  | nil => rfl
  | cons x b => rw [if_pos (by rw [List.length_cons]; omega), if_neg (by simp)]
 | d + 1, k, i, b, out, hb, hbl, hi, hk, ho => by
  obtain ⟨k, rfl⟩ : ∃ m, k = m + 1 := ⟨k - 1, by omega⟩
  have hif : i < (Pl.fb s).length := by rw [Pl.fb_length]; omega
  simp only [waggonerref01_Unpack_p.l0]
  rw [if_pos (by omega), if_pos (by omega), waggonerref01_Unpack.atBt s i (by omega), waggonerref01_Unpack.size, Option.bind_some]
  rw [List.drop_eq_getElem_cons hif, Pl.unpackGo]
  unfold waggonerref01_Take.f
  rw [if_pos ⟨hb, hbl⟩, Option.bind_some]
  unfold Pl.takeS
  by_cases hf : Pl.okS (Pl.letS ((Pl.fb s)[i]'hif)) = true ∧ Pl.letS ((Pl.fb s)[i]'hif) ≤ b.length
  ·rw [if_pos hf, if_pos hf]
   rw [if_pos rfl, if_pos (by omega), show wrap64 ((i : Int) + 1) = ((i + 1 : Nat) : Int) from by unfold wrap64; omega]
   exact waggonerref01_Unpack.loop s hs d k (i + 1) _ _ (waggonerref01_Unpack.drop hb _) (by rw [List.length_drop]; omega) (by omega) (by omega) (by rw [List.length_append, List.length_singleton]; omega)
  ·rw [if_neg hf, if_neg hf]
   rfl
theorem waggonerref01_Unpack.tells {a0 : ByteArray} {l1 : List Int} {r : List Int × Int} (h : waggonerref01_Unpack.f a0 l1 = some r) : waggonerref01_Unpack_p.f (a0.size + 1) a0 l1 = some r := by
 unfold waggonerref01_Unpack.f at h
 split at h
 case isFalse => cases h
 rename_i hh
 obtain ⟨h0, h1, h2⟩ := hh
 obtain rfl := Option.some.inj h
 unfold waggonerref01_Unpack_p.f Pl.unpackS
 exact waggonerref01_Unpack.loop a0 h2 a0.size (a0.size + 1) 0 l1 [] h0 h1 (by omega) (by omega) (by simp)
theorem waggonerref01_Unpack.calls (a0 : ByteArray) (P1_ : Nat → Prop) (A1 : Option Addr) (c1 : Nat) (l1 : List Int) (r1 : List Int) (r2 : Int) (w : World) (hs1 : Kd.V (Kd.int .u8) 5 w w.heap.size (fun k_ => P1_ k_) (.slice A1 l1.length c1) l1) (h : waggonerref01_Unpack.f a0 l1 = some (r1, r2)) :
  Calls Try.prog 73 #[.string a0, .slice A1 l1.length c1] w fun e w' => ∃ v0_ : Value, e = .returned (.tuple #[v0_, .int .i64 r2]) ∧ Kd.R (Kd.int .u64) 68 w' w.heap.size (fun k_ => (w.heap.size ≤ k_)) v0_ r1 ∧ Below w.heap.size w w' :=
 waggonerref01_Unpack_p.calls (a0.size + 1) a0 P1_ A1 c1 l1 r1 r2 w hs1 (waggonerref01_Unpack.tells h)
end Go.Proofs.Ytohkmmbmfhficaa.PT
