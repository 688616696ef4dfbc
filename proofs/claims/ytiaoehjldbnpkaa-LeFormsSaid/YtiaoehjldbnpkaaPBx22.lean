/- Functions of the program as Lean functions, and that the Go code comes to just their answers: no condition but that the function says so. (Written by a program of this workplace over the kit's print, with contracts by hand.) -/
import Derived.Test.YtiaoehjldbnpkaaPBx0
import Derived.Test.YtiaoehjldbnpkaaPBx15
import Derived.Test.YtiaoehjldbnpkaaPBx16
import Derived.Test.YtiaoehjldbnpkaaPBx18
import Derived.Test.YtiaoehjldbnpkaaPBx19
namespace Go.Proofs.Ytiaoehjldbnpkaa.PB
open Go.RowKit Go.Proofs.YtiaoehjldbnpkaaW.PrintWords Go.Proofs.YtiaoehjldbnpkaaW.PrintLast Go.Proofs.YtiaoehjldbnpkaaW.PrintMore
attribute [local go_sem] max2_int min2_int max_two min_two max_three min_three max_four min_four   -- for this text's walks alone
set_option linter.unusedVariables false
set_option linter.unusedSimpArgs false

/-! ### waggonerlaw01_LeForms: function 13 -/
mutual
def waggonerlaw01_LeForms.j0 : Nat → ByteArray → List Int → ByteArray → List Int → Bool → Bool → Option (Bool)
  | 0, _, _, _, _, _, _ => none
  | k + 1, x0, x1, x2, x3, x9, x36 => if x36 = true then (some x9) else ((le_Pack.f x0 x1).bind fun bt172 => ((le_Pack.f x2 x3).bind fun bt176 => (if x0.size + x2.size ≤ 9223372036854775807 then ((some (([] : List Int) : List Int)).bind fun y180 => (if y180.length + x1.length < 17592186044416 then ((some (y180 ++ x1 : List Int)).bind fun y183 => (if y183.length + x3.length < 17592186044416 then ((le_Pack.f (x0 ++ x2) (y183 ++ x3)).bind fun bt189 => (if bt172.2 = 0 then (waggonerlaw01_LeForms.j1 k x0 x1 x2 x3 x9 bt172.1 bt176.1 bt189.1 bt189.2 (bt176.2 != 0)) else (waggonerlaw01_LeForms.j1 k x0 x1 x2 x3 x9 bt172.1 bt176.1 bt189.1 bt189.2 true))) else (none))) else (none))) else (none))))
def waggonerlaw01_LeForms.j1 : Nat → ByteArray → List Int → ByteArray → List Int → Bool → List Int → List Int → List Int → Int → Bool → Option (Bool)
  | 0, _, _, _, _, _, _, _, _, _, _ => none
  | k + 1, x0, x1, x2, x3, x9, x10, x12, x14, x15, x67 => if x67 = true then (some x9) else (if x0.size + x2.size ≤ 9223372036854775807 then ((le_Unpack.f (x0 ++ x2) x14).bind fun bt193 => (if x9 = true then (if x15 = 0 then (if x10.length + x12.length < 140737488355328 then (if (strOfNums x14).toList = (strOfNums (x10 ++ x12)).toList then (if bt193.2 = 0 then ((some (([] : List Int) : List Int)).bind fun y200 => (if y200.length + x1.length < 17592186044416 then ((some (y200 ++ x1 : List Int)).bind fun y203 => (if y203.length + x3.length < 17592186044416 then ((waggonerref01_Same.f bt193.1 (y203 ++ x3)).bind fun t209 => (some t209)) else (none))) else (none))) else (some false)) else (some false)) else (none)) else (some false)) else (some false))) else (none))
end
def waggonerlaw01_LeForms.f (k : Nat) (a0 : ByteArray) (l1 : List Int) (a2 : ByteArray) (l3 : List Int) : Option (Bool) := (waggonerlaw01_awake.f).bind fun t171 => (if (a0.size : Int) > 60 then (waggonerlaw01_LeForms.j0 k a0 l1 a2 l3 t171 true) else (if (a2.size : Int) > 60 then (waggonerlaw01_LeForms.j0 k a0 l1 a2 l3 t171 true) else (if (l1.length : Int) > 60 then (waggonerlaw01_LeForms.j0 k a0 l1 a2 l3 t171 true) else (waggonerlaw01_LeForms.j0 k a0 l1 a2 l3 t171 (decide ((l3.length : Int) > 60))))))
theorem waggonerlaw01_LeForms.mono_l : ∀ k, (∀ y0 y1 y2 y3 y4 y5, LeO (waggonerlaw01_LeForms.j0 k y0 y1 y2 y3 y4 y5) (waggonerlaw01_LeForms.j0 (k + 1) y0 y1 y2 y3 y4 y5)) ∧ (∀ y0 y1 y2 y3 y4 y5 y6 y7 y8 y9, LeO (waggonerlaw01_LeForms.j1 k y0 y1 y2 y3 y4 y5 y6 y7 y8 y9) (waggonerlaw01_LeForms.j1 (k + 1) y0 y1 y2 y3 y4 y5 y6 y7 y8 y9))
  | 0 => ⟨fun _ _ _ _ _ _ r h => by simp [waggonerlaw01_LeForms.j0] at h, fun _ _ _ _ _ _ _ _ _ _ r h => by simp [waggonerlaw01_LeForms.j1] at h⟩
  | k + 1 => by
    obtain ⟨ih0, ih1⟩ := waggonerlaw01_LeForms.mono_l k
    refine ⟨?_, ?_⟩
    · intro y0 y1 y2 y3 y4 y5
      unfold waggonerlaw01_LeForms.j0
      repeat' first
      | (with_reducible exact ih0 _ _ _ _ _ _)
      | (with_reducible exact ih1 _ _ _ _ _ _ _ _ _ _)
      | (with_reducible exact LeO.refl _)
      | (with_reducible exact LeO.none _)
      | (with_reducible refine LeO.ite ?_ ?_)
      | (with_reducible refine LeO.bind ?_ (fun _ => ?_))
      | exact ih0 _ _ _ _ _ _
      | exact ih1 _ _ _ _ _ _ _ _ _ _
      | exact LeO.none _
      | refine LeO.ite ?_ ?_
      | refine LeO.bind ?_ (fun _ => ?_)
    · intro y0 y1 y2 y3 y4 y5 y6 y7 y8 y9
      unfold waggonerlaw01_LeForms.j1
      repeat' first
      | (with_reducible exact ih0 _ _ _ _ _ _)
      | (with_reducible exact ih1 _ _ _ _ _ _ _ _ _ _)
      | (with_reducible exact LeO.refl _)
      | (with_reducible exact LeO.none _)
      | (with_reducible refine LeO.ite ?_ ?_)
      | (with_reducible refine LeO.bind ?_ (fun _ => ?_))
      | exact ih0 _ _ _ _ _ _
      | exact ih1 _ _ _ _ _ _ _ _ _ _
      | exact LeO.none _
      | refine LeO.ite ?_ ?_
      | refine LeO.bind ?_ (fun _ => ?_)
theorem waggonerlaw01_LeForms.mono : ∀ a0 a1 a2 a3 k, LeO (waggonerlaw01_LeForms.f k a0 a1 a2 a3) (waggonerlaw01_LeForms.f (k + 1) a0 a1 a2 a3) := by
  intro a0 a1 a2 a3 k
  obtain ⟨ih0, ih1⟩ := waggonerlaw01_LeForms.mono_l k
  unfold waggonerlaw01_LeForms.f
  repeat' first
      | (with_reducible exact ih0 _ _ _ _ _ _)
      | (with_reducible exact ih1 _ _ _ _ _ _ _ _ _ _)
      | (with_reducible exact LeO.refl _)
      | (with_reducible exact LeO.none _)
      | (with_reducible refine LeO.ite ?_ ?_)
      | (with_reducible refine LeO.bind ?_ (fun _ => ?_))
      | exact ih0 _ _ _ _ _ _
      | exact ih1 _ _ _ _ _ _ _ _ _ _
      | exact LeO.none _
      | refine LeO.ite ?_ ?_
      | refine LeO.bind ?_ (fun _ => ?_)
def waggonerlaw01_LeForms.T10 : Bool × List (List Nat × List Nat) := (true, [([], []), ([0], [0]), ([1], [1]), ([2, 1], [1, 2]), ([1, 3], [1, 3]), ([4, 1], [4]), ([5], [5]), ([6, 5], [5, 6]), ([5], [5]), ([5], [5]), ([8, 9, 5, 5], [5, 8, 9]), ([10, 5], [5, 10]), ([7, 11, 5], [5, 7, 11]), ([5, 12], [5, 12]), ([13, 10], [13]), ([14], [14]), ([15, 14], [14, 15]), ([14, 16], [14, 16]), ([17, 14], [17]), ([18], [18]), ([18], [18]), ([18], [18]), ([20, 21, 18, 18], [18, 20, 21]), ([18], [18]), ([22, 23, 22, 18], [18, 22, 23]), ([19, 24, 24, 18], [18, 19, 24]), ([18, 25], [18, 25]), ([26, 25, 0, 1, 2, 3, 4, 5, 6, 7, 8, 9, 10, 11, 12, 13, 14, 15, 16, 17, 18, 19, 20, 21, 22, 23, 24, 25, 26], [26])])
def waggonerlaw01_LeForms.B10 : List Nat := [0, 1, 3, 7, 15, 31, 63, 127, 63, 63, 831, 1855, 4095, 8191, 16383, 32767, 65535, 131071, 262143, 524287, 524287, 524287, 3670015, 524287, 16252927, 33554431, 67108863, 134217727]
theorem waggonerlaw01_LeForms.tab10 : rtab .any (opsOf Try.f13 10) = waggonerlaw01_LeForms.T10 := by kernel_rfl
theorem waggonerlaw01_LeForms.bits10 : waitsOk waggonerlaw01_LeForms.T10.2 waggonerlaw01_LeForms.B10 = true := by kernel_rfl
set_option maxHeartbeats 8000000 in
set_option maxRecDepth 100000 in
theorem waggonerlaw01_LeForms.calls (k : Nat) (a0 : ByteArray) (A1 : Option Addr) (c1 : Nat) (l1 : List Int) (a2 : ByteArray) (A3 : Option Addr) (c3 : Nat) (l3 : List Int) (r : Bool) (hT : r = true) (w : World) (hr1 : Kd.C (Kd.int .u64) w A1 l1.length l1) (hc1 : l1.length ≤ c1) (hr3 : Kd.C (Kd.int .u64) w A3 l3.length l3) (hc3 : l3.length ≤ c3) (h : waggonerlaw01_LeForms.f k a0 l1 a2 l3 = some r) :
    Calls Try.prog 13 #[.string a0, .slice A1 l1.length c1, .string a2, .slice A3 l3.length c3] w fun e w' => e = .returned (.bool r) ∧ Below w.heap.size w w' := by
  subst hT
  have HR1 := Aside0.mk hr1
  have HC1 := Aside0.mk hc1
  clear hr1 hc1
  have HR3 := Aside0.mk hr3
  have HC3 := Aside0.mk hc3
  clear hr3 hc3
  have HB := Aside0.mk (Below.refl w.heap.size w)
  have H : ((waggonerlaw01_awake.f).bind fun t171 => (if (a0.size : Int) > 60 then (waggonerlaw01_LeForms.j0 k a0 l1 a2 l3 t171 true) else (if (a2.size : Int) > 60 then (waggonerlaw01_LeForms.j0 k a0 l1 a2 l3 t171 true) else (if (l1.length : Int) > 60 then (waggonerlaw01_LeForms.j0 k a0 l1 a2 l3 t171 true) else (waggonerlaw01_LeForms.j0 k a0 l1 a2 l3 t171 (decide ((l3.length : Int) > 60))))))) = some true := h
  clear h
  replace H := Option.bind_eq_some_iff.mp H
  obtain ⟨t171, A50, H⟩ := H
  replace H : (if (a0.size : Int) > 60 then (waggonerlaw01_LeForms.j0 k a0 l1 a2 l3 t171 true) else (if (a2.size : Int) > 60 then (waggonerlaw01_LeForms.j0 k a0 l1 a2 l3 t171 true) else (if (l1.length : Int) > 60 then (waggonerlaw01_LeForms.j0 k a0 l1 a2 l3 t171 true) else (waggonerlaw01_LeForms.j0 k a0 l1 a2 l3 t171 (decide ((l3.length : Int) > 60)))))) = some true := H
  have A5 := Aside0.mk A50
  clear A50
  have HC6 := Aside0.mk H
  clear H
  go_enter Try.func13, Try.ntmps13
  go_upto_region 2 with (first | ((with_reducible refine gate_callee (f := 26) rfl ?_); refine goesL_ (some 18) rfl rfl Try.func26 (by kernel_rfl) rfl #[] rfl (by (try simp only [List.map_toArray, List.map_cons, List.map_nil]); first | done | rfl | (simp only [List.length_drop, List.length_take]; rfl)) ?_; (with_reducible refine (waggonerlaw01_awake.calls  t171 _ A5.out).mono ?_); rintro e w7 ⟨rfl, hb⟩; refine ⟨_, rfl, ?_⟩; have n0_ := Aside0.mk (below_step (by repeat (first | (with_reducible first | exact HB.out | apply below_alloc | apply pw_below_drewN | apply below_drew1) | exact HB.out)) hb); clear HB; have HB := n0_; clear n0_; (try clear hb); (try clear hb2); (try clear hk); (try clear hi)))
  (try simp only [Act.put, List.setIfInBounds_toArray, List.set_cons_zero, List.set_cons_succ])
  go_cut [36] (fun v36 wc => ∃ (kq : Nat) (x36_5 : Bool), v36 = .bool x36_5 ∧ Aside0 (waggonerlaw01_LeForms.j0 kq a0 l1 a2 l3 t171 x36_5 = some true) ∧ Aside0 (kq ≤ k) ∧ Aside0 (Below w.heap.size w wc))
  case first =>
    have H := HC6.out
    clear HC6
    by_cases c8 : (a0.size : Int) > 60
    · rw [if_pos c8] at H
      have c8b0 : decide (60 < (a0.size : Int)) = true := decide_eq_true c8
      have c8b1 : decide (60 < a0.size) = true := decide_eq_true (by omega)
      clear c8
      (first | rw [c8b0] | (simp only [i64_w, i32_w]; rw [c8b0]) | skip)
      have H' := Aside0.mk H
      clear H
      go_wp2
      go_meet
      case rel => exact ⟨_, (true), (by first | rfl | (simp; done) | (simp [*]; done)), H', ⟨by first | omega | exact Nat.le_refl _⟩, ⟨by repeat (first | (with_reducible first | exact HB.out | apply below_alloc | apply pw_below_drewN | apply below_drew1) | exact HB.out)⟩⟩
    · rw [if_neg c8] at H
      have c8b0 : decide (60 < (a0.size : Int)) = false := decide_eq_false c8
      have c8b1 : decide (60 < a0.size) = false := decide_eq_false (by omega)
      clear c8
      (first | rw [c8b0] | (simp only [i64_w, i32_w]; rw [c8b0]) | skip)
      by_cases c9 : (a2.size : Int) > 60
      · rw [if_pos c9] at H
        have c9b0 : decide (60 < (a2.size : Int)) = true := decide_eq_true c9
        have c9b1 : decide (60 < a2.size) = true := decide_eq_true (by omega)
        clear c9
        have H' := Aside0.mk H
        clear H
        go_wp2
        go_meet
        case rel => exact ⟨_, (true), (by first | rfl | (simp; done) | (simp [*]; done)), H', ⟨by first | omega | exact Nat.le_refl _⟩, ⟨by repeat (first | (with_reducible first | exact HB.out | apply below_alloc | apply pw_below_drewN | apply below_drew1) | exact HB.out)⟩⟩
      · rw [if_neg c9] at H
        have c9b0 : decide (60 < (a2.size : Int)) = false := decide_eq_false c9
        have c9b1 : decide (60 < a2.size) = false := decide_eq_false (by omega)
        clear c9
        by_cases c10 : (l1.length : Int) > 60
        · rw [if_pos c10] at H
          have c10b0 : decide (60 < (l1.length : Int)) = true := decide_eq_true c10
          have c10b1 : decide (60 < l1.length) = true := decide_eq_true (by omega)
          clear c10
          have H' := Aside0.mk H
          clear H
          go_wp2
          go_meet
          case rel => exact ⟨_, (true), (by first | rfl | (simp; done) | (simp [*]; done)), H', ⟨by first | omega | exact Nat.le_refl _⟩, ⟨by repeat (first | (with_reducible first | exact HB.out | apply below_alloc | apply pw_below_drewN | apply below_drew1) | exact HB.out)⟩⟩
        · rw [if_neg c10] at H
          have c10b0 : decide (60 < (l1.length : Int)) = false := decide_eq_false c10
          have c10b1 : decide (60 < l1.length) = false := decide_eq_false (by omega)
          clear c10
          have H' := Aside0.mk H
          clear H
          go_wp2
          go_meet
          case rel => exact ⟨_, (decide ((l3.length : Int) > 60)), (by first | rfl | (simp; done) | (simp [*]; done)), H', ⟨by first | omega | exact Nat.le_refl _⟩, ⟨by repeat (first | (with_reducible first | exact HB.out | apply below_alloc | apply pw_below_drewN | apply below_drew1) | exact HB.out)⟩⟩
  case rest =>
    clear HC6
    try clear c1
    try clear c2
    try clear p2
    try clear c3
    try clear c8
    try clear c8b0
    try clear c8b1
    try clear c9
    try clear c9b0
    try clear c9b1
    try clear c10
    try clear c10b0
    try clear c10b1
    obtain ⟨kq, x36_5, rfl, HA, HJ5, HB⟩ := hcut
    cases kq with
    | zero => exact absurd HA.out (by simp [waggonerlaw01_LeForms.j0])
    | succ kj5 =>
      have H := HA.out
      clear HA
      simp only [waggonerlaw01_LeForms.j0] at H
      by_cases c11 : x36_5 = true
      · subst c11
        have H1 : (some t171) = some true := by rw [if_pos rfl] at H; exact H
        clear H
        have H := H1
        clear H1
        (have HRT := Aside0.mk (Option.some.inj H); clear H)
        go_wp2
        go_ret
        exact ⟨by first | rfl | (exact congrArg (fun z_ => Ending.returned (Value.bool z_)) HRT.out) | (rw [HRT.out]; done) | (simp [errW_none, errW_some] <;> rfl) | (simp [*, errW_none, errW_some] <;> rfl), by repeat (first | (with_reducible first | exact HB.out | apply below_alloc | apply pw_below_drewN | apply below_drew1) | exact HB.out)⟩
      · replace c11 := Bool.eq_false_iff.mpr c11
        subst c11
        have H1 : ((le_Pack.f a0 l1).bind fun bt172 => ((le_Pack.f a2 l3).bind fun bt176 => (if a0.size + a2.size ≤ 9223372036854775807 then ((some (([] : List Int) : List Int)).bind fun y180 => (if y180.length + l1.length < 17592186044416 then ((some (y180 ++ l1 : List Int)).bind fun y183 => (if y183.length + l3.length < 17592186044416 then ((le_Pack.f (a0 ++ a2) (y183 ++ l3)).bind fun bt189 => (if bt172.2 = 0 then (waggonerlaw01_LeForms.j1 kj5 a0 l1 a2 l3 t171 bt172.1 bt176.1 bt189.1 bt189.2 (bt176.2 != 0)) else (waggonerlaw01_LeForms.j1 kj5 a0 l1 a2 l3 t171 bt172.1 bt176.1 bt189.1 bt189.2 true))) else (none))) else (none))) else (none)))) = some true := by rw [if_neg (show ¬ (false = true) by decide)] at H; exact H
        clear H
        have H := H1
        clear H1
        replace H := Option.bind_eq_some_iff.mp H
        obtain ⟨⟨t172, t173⟩, A120, H⟩ := H
        replace H : ((le_Pack.f a2 l3).bind fun bt176 => (if a0.size + a2.size ≤ 9223372036854775807 then ((some (([] : List Int) : List Int)).bind fun y180 => (if y180.length + l1.length < 17592186044416 then ((some (y180 ++ l1 : List Int)).bind fun y183 => (if y183.length + l3.length < 17592186044416 then ((le_Pack.f (a0 ++ a2) (y183 ++ l3)).bind fun bt189 => (if t173 = 0 then (waggonerlaw01_LeForms.j1 kj5 a0 l1 a2 l3 t171 t172 bt176.1 bt189.1 bt189.2 (bt176.2 != 0)) else (waggonerlaw01_LeForms.j1 kj5 a0 l1 a2 l3 t171 t172 bt176.1 bt189.1 bt189.2 true))) else (none))) else (none))) else (none))) = some true := H
        have A12 := Aside0.mk A120
        clear A120
        replace H := Option.bind_eq_some_iff.mp H
        obtain ⟨⟨t176, t177⟩, A130, H⟩ := H
        replace H : (if a0.size + a2.size ≤ 9223372036854775807 then ((some (([] : List Int) : List Int)).bind fun y180 => (if y180.length + l1.length < 17592186044416 then ((some (y180 ++ l1 : List Int)).bind fun y183 => (if y183.length + l3.length < 17592186044416 then ((le_Pack.f (a0 ++ a2) (y183 ++ l3)).bind fun bt189 => (if t173 = 0 then (waggonerlaw01_LeForms.j1 kj5 a0 l1 a2 l3 t171 t172 t176 bt189.1 bt189.2 (t177 != 0)) else (waggonerlaw01_LeForms.j1 kj5 a0 l1 a2 l3 t171 t172 t176 bt189.1 bt189.2 true))) else (none))) else (none))) else (none)) = some true := H
        have A13 := Aside0.mk A130
        clear A130
        by_cases c14 : a0.size + a2.size ≤ 9223372036854775807
        · rw [if_pos c14] at H
          have c14b0 := eq_true c14
          have c14b1 : decide (a0.size + a2.size ≤ 9223372036854775807) = true := decide_eq_true c14
          try have c14b2 : (9223372036854775807 < a0.size + a2.size) = False := eq_false (Nat.not_lt.2 c14)
          obtain ⟨y180, hy180⟩ : ∃ y_ : List Int, y_ = (([] : List Int)) := ⟨_, rfl⟩
          replace H : (if y180.length + l1.length < 17592186044416 then ((some (y180 ++ l1 : List Int)).bind fun y183 => (if y183.length + l3.length < 17592186044416 then ((le_Pack.f (a0 ++ a2) (y183 ++ l3)).bind fun bt189 => (if t173 = 0 then (waggonerlaw01_LeForms.j1 kj5 a0 l1 a2 l3 t171 t172 t176 bt189.1 bt189.2 (t177 != 0)) else (waggonerlaw01_LeForms.j1 kj5 a0 l1 a2 l3 t171 t172 t176 bt189.1 bt189.2 true))) else (none))) else (none)) = some true := by first | (rw [hy180]; with_reducible exact H) | (have H2_ := (Option.bind_some _ _).symm.trans H; rw [hy180]; with_reducible exact H2_) | (have H2_ := (Option.bind_some _ _).symm.trans H; with_reducible exact H2_) | with_reducible exact H | (rw [hy180]; exact H) | exact H
          have Ny180 := Aside0.mk hy180
          clear hy180
          by_cases c15 : y180.length + l1.length < 17592186044416
          · rw [if_pos c15] at H
            have LMc15 := Aside0.mk c15
            clear c15
            obtain ⟨y183, hy183⟩ : ∃ y_ : List Int, y_ = (y180 ++ l1) := ⟨_, rfl⟩
            replace H : (if y183.length + l3.length < 17592186044416 then ((le_Pack.f (a0 ++ a2) (y183 ++ l3)).bind fun bt189 => (if t173 = 0 then (waggonerlaw01_LeForms.j1 kj5 a0 l1 a2 l3 t171 t172 t176 bt189.1 bt189.2 (t177 != 0)) else (waggonerlaw01_LeForms.j1 kj5 a0 l1 a2 l3 t171 t172 t176 bt189.1 bt189.2 true))) else (none)) = some true := by first | (rw [hy183]; with_reducible exact H) | (have H2_ := (Option.bind_some _ _).symm.trans H; rw [hy183]; with_reducible exact H2_) | (have H2_ := (Option.bind_some _ _).symm.trans H; with_reducible exact H2_) | with_reducible exact H | (rw [hy183]; exact H) | exact H
            have Ny183 := Aside0.mk hy183
            clear hy183
            by_cases c16 : y183.length + l3.length < 17592186044416
            · rw [if_pos c16] at H
              have LMc16 := Aside0.mk c16
              clear c16
              obtain ⟨y186, hy186⟩ : ∃ y_ : List Int, y_ = (y183 ++ l3) := ⟨_, rfl⟩
              replace H : ((le_Pack.f (a0 ++ a2) y186).bind fun bt189 => (if t173 = 0 then (waggonerlaw01_LeForms.j1 kj5 a0 l1 a2 l3 t171 t172 t176 bt189.1 bt189.2 (t177 != 0)) else (waggonerlaw01_LeForms.j1 kj5 a0 l1 a2 l3 t171 t172 t176 bt189.1 bt189.2 true))) = some true := by first | (rw [hy186]; with_reducible exact H) | (have H2_ := (Option.bind_some _ _).symm.trans H; rw [hy186]; with_reducible exact H2_) | (have H2_ := (Option.bind_some _ _).symm.trans H; with_reducible exact H2_) | with_reducible exact H | (rw [hy186]; exact H) | exact H
              have Ny186 := Aside0.mk hy186
              clear hy186
              replace H := Option.bind_eq_some_iff.mp H
              obtain ⟨⟨t189, t190⟩, A170, H⟩ := H
              replace H : (if t173 = 0 then (waggonerlaw01_LeForms.j1 kj5 a0 l1 a2 l3 t171 t172 t176 t189 t190 (t177 != 0)) else (waggonerlaw01_LeForms.j1 kj5 a0 l1 a2 l3 t171 t172 t176 t189 t190 true)) = some true := H
              have A17 := Aside0.mk A170
              clear A170
              have HC18 := Aside0.mk H
              clear H
              go_upto_region 7 with (first | ((with_reducible refine gate_callee (f := 31) rfl ?_); refine goesL_ (some 41) rfl rfl Try.func31 (by kernel_rfl) rfl #[.string a0, .slice A1 l1.length c1] rfl (by (try simp only [List.map_toArray, List.map_cons, List.map_nil]); first | done | rfl | (simp only [List.length_drop, List.length_take]; rfl)) ?_; (with_reducible refine (le_Pack.calls a0 _ _ l1 t172 t173 _ ?side1 ?side2 A12.out).mono ?_); (case side1 => repeat (first | exact (Kd.C_below HR1.out HB.out) | (with_reducible refine Kd.C_alloc ?_ _) | (with_reducible refine Kd.C_drewN ?_ _) | (with_reducible refine Kd.C_drew ?_))); (case side2 => exact HC1.out); rintro e w19 ⟨v174, rfl, ho0, hb⟩; refine ⟨_, rfl, ?_⟩; have n0_ := Aside0.mk (Kd.R_lower ho0 (below_size (by repeat (first | (with_reducible first | exact HB.out | apply below_alloc | apply pw_below_drewN | apply below_drew1) | exact HB.out)))); have n1_ := Aside0.mk (below_step (by repeat (first | (with_reducible first | exact HB.out | apply below_alloc | apply pw_below_drewN | apply below_drew1) | exact HB.out)) hb); clear HB; have HO175 := n0_; have HB := n1_; clear n0_ n1_; (try clear hb); (try clear hb2); (try clear hk); (try clear hi); (try clear ho0)) | ((with_reducible refine gate_callee (f := 31) rfl ?_); refine goesL_ (some 47) rfl rfl Try.func31 (by kernel_rfl) rfl #[.string a2, .slice A3 l3.length c3] rfl (by (try simp only [List.map_toArray, List.map_cons, List.map_nil]); first | done | rfl | (simp only [List.length_drop, List.length_take]; rfl)) ?_; (with_reducible refine (le_Pack.calls a2 _ _ l3 t176 t177 _ ?side1 ?side2 A13.out).mono ?_); (case side1 => repeat (first | exact (Kd.C_below HR3.out HB.out) | (with_reducible refine Kd.C_alloc ?_ _) | (with_reducible refine Kd.C_drewN ?_ _) | (with_reducible refine Kd.C_drew ?_))); (case side2 => exact HC3.out); rintro e w20 ⟨v178, rfl, ho0, hb⟩; refine ⟨_, rfl, ?_⟩; have n0_ := Aside0.mk (Kd.R_elder' (by (with_reducible repeat (first | apply Kd.R_alloc | apply Kd.R_drewN | apply Kd.R_drew)); exact HO175.out) (Kd.R_base ho0) hb); have n1_ := Aside0.mk (Kd.R_lower (Kd.R_new' ho0 (Kd.R_lt (by (with_reducible repeat (first | apply Kd.R_alloc | apply Kd.R_drewN | apply Kd.R_drew)); exact HO175.out))) (below_size (by repeat (first | (with_reducible first | exact HB.out | apply below_alloc | apply pw_below_drewN | apply below_drew1) | exact HB.out)))); have n2_ := Aside0.mk (below_step (by repeat (first | (with_reducible first | exact HB.out | apply below_alloc | apply pw_below_drewN | apply below_drew1) | exact HB.out)) hb); clear HO175; clear HB; have HO175 := n0_; have HO179 := n1_; have HB := n2_; clear n0_ n1_ n2_; (try clear hb); (try clear hb2); (try clear hk); (try clear hi); (try clear ho0)) | ((with_reducible refine gate_dst (N := 54) rfl ?_); (try (refine gate_guard (by rfl) ?_; dsimp only)); refine Kd.R_lit (Kd.int .u64) _ 39 ?hg (N := 54) ?hd (xs := ([] : List Int)) (inner := []) (ok := fun _ => True) (okp := fun _ => True) ?hr ?hp (fun _ hk => hk) trivial (Below.refl _ _) (Nat.le_refl _) (by simp) ?_; (case hd => rfl); (case hg => rfl); (case hr => first | (go_simp; done) | (go_simp; rfl)); (case hp => exact (Reps.none _ _)); intro v181 w21 ho22 hb hg_ hnew_; clear hg_ hnew_; (first | rw [← Ny180.out] at ho22 | (simp only [Int.reduceToNat] at ho22; rw [← Ny180.out] at ho22)); have n0_ := Aside0.mk (Kd.R_below (by (with_reducible repeat (first | apply Kd.R_alloc | apply Kd.R_drewN | apply Kd.R_drew)); exact HO175.out) hb); have n1_ := Aside0.mk (Kd.R_below (by (with_reducible repeat (first | apply Kd.R_alloc | apply Kd.R_drewN | apply Kd.R_drew)); exact HO179.out) hb); have n2_ := Aside0.mk (Kd.R_lower ho22 (below_size (by repeat (first | (with_reducible first | exact HB.out | apply below_alloc | apply pw_below_drewN | apply below_drew1) | exact HB.out)))); have n3_ := Aside0.mk (below_step (by repeat (first | (with_reducible first | exact HB.out | apply below_alloc | apply pw_below_drewN | apply below_drew1) | exact HB.out)) hb); clear HO175; clear HO179; clear HB; have HO175 := n0_; have HO179 := n1_; have HO182 := n2_; have HB := n3_; clear n0_ n1_ n2_ n3_; clear hb ho22) | ((with_reducible refine gate_builtin (b := .append) (xs := #[.tmp 54, .tmp 55]) rfl ?_); (try (refine gate_guard (by rfl) ?_; dsimp only)); at_builtin; refine Kd.R_append_rows (Kd.int .u64) (w0 := w) w.heap.size rfl (.tmp 54) (.tmp 55) 44 39 (.int .u64 0) 8 rfl Try.underlying44 info39 rfl (by decide) (by omega) v181 y180 l1 _ _ _ (fun _ => True) (fun _ => False) rfl rfl ?aO ?aR (fun _ _ h => h) (fun _ h => h.elim) ?aF ?aB ?aS ?aL ?_; (case aR => repeat (first | exact (Kd.C_below HR1.out HB.out) | (with_reducible refine Kd.C_alloc ?_ _) | (with_reducible refine Kd.C_drewN ?_ _) | (with_reducible refine Kd.C_drew ?_))); (case aB => exact (by repeat (first | (with_reducible first | exact HB.out | apply below_alloc | apply pw_below_drewN | apply below_drew1) | exact HB.out))); (case aF => exact (fun _ _ => trivial)); (case aO => exact (by (with_reducible repeat (first | apply Kd.R_alloc | apply Kd.R_drewN | apply Kd.R_drew)); exact HO182.out)); (case aS => exact (below_size (by repeat (first | (with_reducible first | exact HB.out | apply below_alloc | apply pw_below_drewN | apply below_drew1) | exact HB.out)))); (case aL => have := LMc15.out; omega); intro v184 w23 ho hb hg hat; rw [← Ny183.out] at ho; have n0_ := Aside0.mk (Kd.R_over' (by (with_reducible repeat (first | apply Kd.R_alloc | apply Kd.R_drewN | apply Kd.R_drew)); exact HO175.out) (Kd.R_typed (by (with_reducible repeat (first | apply Kd.R_alloc | apply Kd.R_drewN | apply Kd.R_drew)); exact HO182.out)) (by decide) hg); have n1_ := Aside0.mk (Kd.R_over' (by (with_reducible repeat (first | apply Kd.R_alloc | apply Kd.R_drewN | apply Kd.R_drew)); exact HO179.out) (Kd.R_typed (by (with_reducible repeat (first | apply Kd.R_alloc | apply Kd.R_drewN | apply Kd.R_drew)); exact HO182.out)) (by decide) hg); have n2_ := Aside0.mk (hb); have n3_ := Aside0.mk (ho); clear HO175; clear HO179; clear HB; clear HO182; have HO175 := n0_; have HO179 := n1_; have HB := n2_; have HO185 := n3_; clear n0_ n1_ n2_ n3_; clear ho hb hg hat) | ((with_reducible refine gate_builtin (b := .append) (xs := #[.tmp 56, .tmp 57]) rfl ?_); (try (refine gate_guard (by rfl) ?_; dsimp only)); at_builtin; refine Kd.R_append_rows (Kd.int .u64) (w0 := w) w.heap.size rfl (.tmp 56) (.tmp 57) 44 39 (.int .u64 0) 8 rfl Try.underlying44 info39 rfl (by decide) (by omega) v184 y183 l3 _ _ _ (fun _ => True) (fun _ => False) rfl rfl ?aO ?aR (fun _ _ h => h) (fun _ h => h.elim) ?aF ?aB ?aS ?aL ?_; (case aR => repeat (first | exact (Kd.C_below HR3.out HB.out) | (with_reducible refine Kd.C_alloc ?_ _) | (with_reducible refine Kd.C_drewN ?_ _) | (with_reducible refine Kd.C_drew ?_))); (case aB => exact (by repeat (first | (with_reducible first | exact HB.out | apply below_alloc | apply pw_below_drewN | apply below_drew1) | exact HB.out))); (case aF => exact (fun _ _ => trivial)); (case aO => exact (by (with_reducible repeat (first | apply Kd.R_alloc | apply Kd.R_drewN | apply Kd.R_drew)); exact HO185.out)); (case aS => exact (below_size (by repeat (first | (with_reducible first | exact HB.out | apply below_alloc | apply pw_below_drewN | apply below_drew1) | exact HB.out)))); (case aL => have := LMc16.out; omega); intro v187 w24 ho hb hg hat; rw [← Ny186.out] at ho; have n0_ := Aside0.mk (Kd.R_over' (by (with_reducible repeat (first | apply Kd.R_alloc | apply Kd.R_drewN | apply Kd.R_drew)); exact HO175.out) (Kd.R_typed (by (with_reducible repeat (first | apply Kd.R_alloc | apply Kd.R_drewN | apply Kd.R_drew)); exact HO185.out)) (by decide) hg); have n1_ := Aside0.mk (Kd.R_over' (by (with_reducible repeat (first | apply Kd.R_alloc | apply Kd.R_drewN | apply Kd.R_drew)); exact HO179.out) (Kd.R_typed (by (with_reducible repeat (first | apply Kd.R_alloc | apply Kd.R_drewN | apply Kd.R_drew)); exact HO185.out)) (by decide) hg); have n2_ := Aside0.mk (hb); have n3_ := Aside0.mk (ho); clear HO175; clear HO179; clear HB; clear HO185; have HO175 := n0_; have HO179 := n1_; have HB := n2_; have HO188 := n3_; clear n0_ n1_ n2_ n3_; clear ho hb hg hat; obtain ⟨Ao25, co25, eo25⟩ := Kd.R_slice HO188.out; subst eo25) | ((with_reducible refine gate_callee (f := 31) rfl ?_); refine goesL_ (some 59) rfl rfl Try.func31 (by kernel_rfl) rfl #[.string (a0 ++ a2), .slice Ao25 y186.length co25] rfl (by (try simp only [List.map_toArray, List.map_cons, List.map_nil]); first | done | rfl | (simp only [List.length_drop, List.length_take]; rfl)) ?_; (with_reducible refine (le_Pack.calls (a0 ++ a2) _ _ y186 t189 t190 _ ?side1 ?side2 A17.out).mono ?_); (case side1 => repeat (first | exact (Kd.R_reads' HO188.out).2.2 | (with_reducible refine Kd.C_alloc ?_ _) | (with_reducible refine Kd.C_drewN ?_ _) | (with_reducible refine Kd.C_drew ?_))); (case side2 => exact (Kd.R_reads' HO188.out).2.1); rintro e w26 ⟨v191, rfl, ho0, hb⟩; refine ⟨_, rfl, ?_⟩; have n0_ := Aside0.mk (Kd.R_elder' (by (with_reducible repeat (first | apply Kd.R_alloc | apply Kd.R_drewN | apply Kd.R_drew)); exact HO175.out) (Kd.R_base ho0) hb); have n1_ := Aside0.mk (Kd.R_elder' (by (with_reducible repeat (first | apply Kd.R_alloc | apply Kd.R_drewN | apply Kd.R_drew)); exact HO179.out) (Kd.R_base ho0) hb); have n2_ := Aside0.mk (Kd.R_below (by (with_reducible repeat (first | apply Kd.R_alloc | apply Kd.R_drewN | apply Kd.R_drew)); exact HO188.out) hb); have n3_ := Aside0.mk (Kd.R_lower (Kd.R_new' (Kd.R_new' ho0 (Kd.R_lt (by (with_reducible repeat (first | apply Kd.R_alloc | apply Kd.R_drewN | apply Kd.R_drew)); exact HO175.out))) (Kd.R_lt (by (with_reducible repeat (first | apply Kd.R_alloc | apply Kd.R_drewN | apply Kd.R_drew)); exact HO179.out))) (below_size (by repeat (first | (with_reducible first | exact HB.out | apply below_alloc | apply pw_below_drewN | apply below_drew1) | exact HB.out)))); have n4_ := Aside0.mk (below_step (by repeat (first | (with_reducible first | exact HB.out | apply below_alloc | apply pw_below_drewN | apply below_drew1) | exact HB.out)) hb); clear HO175; clear HO179; clear HO188; clear HB; have HO175 := n0_; have HO179 := n1_; have HO188 := n2_; have HO192 := n3_; have HB := n4_; clear n0_ n1_ n2_ n3_ n4_; (try clear hb); (try clear hb2); (try clear hk); (try clear hi); (try clear ho0)))
              (try simp only [Act.put, List.setIfInBounds_toArray, List.set_cons_zero, List.set_cons_succ])
              go_cut [67] (fun v67 wc => ∃ (kq : Nat) (x67_17 : Bool), v67 = .bool x67_17 ∧ Aside0 (waggonerlaw01_LeForms.j1 kq a0 l1 a2 l3 t171 t172 t176 t189 t190 x67_17 = some true) ∧ Aside0 (kq ≤ kj5) ∧ Aside0 (Kd.R (Kd.int .u8) 5 wc w.heap.size (fun k_ => some k_ ≠ (v178 : Value).ownBlock ∧ some k_ ≠ (v191 : Value).ownBlock) v174 t172) ∧ Aside0 (Kd.R (Kd.int .u8) 5 wc w.heap.size (fun k_ => some k_ ≠ (v174 : Value).ownBlock ∧ some k_ ≠ (v191 : Value).ownBlock) v178 t176) ∧ Aside0 (Kd.R (Kd.int .u8) 5 wc w.heap.size (fun k_ => some k_ ≠ (v174 : Value).ownBlock ∧ some k_ ≠ (v178 : Value).ownBlock) v191 t189) ∧ Aside0 (Below w.heap.size w wc))
              case first =>
                have H := HC18.out
                clear HC18
                by_cases c27 : t173 = 0
                · rw [if_pos c27] at H
                  have c27b0 : (t173 == 0) = true := beq_iff_eq.mpr c27
                  have c27b1 : (t173 != 0) = false := bne_eq_false_iff_eq.mpr c27
                  clear c27
                  (first | rw [c27b0] | (simp only [i64_w, i32_w]; rw [c27b0]) | skip)
                  have H' := Aside0.mk H
                  clear H
                  go_wp2
                  go_meet
                  case rel => exact ⟨_, ((t177 != 0)), (by first | rfl | (simp; done) | (simp [*]; done)), H', ⟨by have := HJ5.out; first | omega | exact Nat.le_refl _⟩, ⟨by (with_reducible repeat (first | apply Kd.R_alloc | apply Kd.R_drewN | apply Kd.R_drew)); exact Kd.R_mono HO175.out (fun _ hk => ⟨hk.1.2, hk.2⟩)⟩, ⟨by (with_reducible repeat (first | apply Kd.R_alloc | apply Kd.R_drewN | apply Kd.R_drew)); exact Kd.R_mono HO179.out (fun _ hk => ⟨hk.1.2, hk.2⟩)⟩, ⟨by (with_reducible repeat (first | apply Kd.R_alloc | apply Kd.R_drewN | apply Kd.R_drew)); exact Kd.R_mono HO192.out (fun _ hk => ⟨hk.1.2, hk.2⟩)⟩, ⟨by repeat (first | (with_reducible first | exact HB.out | apply below_alloc | apply pw_below_drewN | apply below_drew1) | exact HB.out)⟩⟩
                · rw [if_neg c27] at H
                  have c27b0 : (t173 == 0) = false := beq_eq_false_iff_ne.mpr c27
                  have c27b1 : (t173 != 0) = true := bne_iff_ne.mpr c27
                  (first | rw [c27b0] | (simp only [i64_w, i32_w]; rw [c27b0]) | skip)
                  have H' := Aside0.mk H
                  clear H
                  go_wp2
                  go_meet
                  case rel => exact ⟨_, (true), (by first | rfl | (simp; done) | (simp [*]; done)), H', ⟨by have := HJ5.out; first | omega | exact Nat.le_refl _⟩, ⟨by (with_reducible repeat (first | apply Kd.R_alloc | apply Kd.R_drewN | apply Kd.R_drew)); exact Kd.R_mono HO175.out (fun _ hk => ⟨hk.1.2, hk.2⟩)⟩, ⟨by (with_reducible repeat (first | apply Kd.R_alloc | apply Kd.R_drewN | apply Kd.R_drew)); exact Kd.R_mono HO179.out (fun _ hk => ⟨hk.1.2, hk.2⟩)⟩, ⟨by (with_reducible repeat (first | apply Kd.R_alloc | apply Kd.R_drewN | apply Kd.R_drew)); exact Kd.R_mono HO192.out (fun _ hk => ⟨hk.1.2, hk.2⟩)⟩, ⟨by repeat (first | (with_reducible first | exact HB.out | apply below_alloc | apply pw_below_drewN | apply below_drew1) | exact HB.out)⟩⟩
              case rest =>
                clear HC18
                try clear c1
                try clear c2
                try clear p2
                try clear c3
                try clear c8
                try clear c8b0
                try clear c8b1
                try clear c9
                try clear c9b0
                try clear c9b1
                try clear c10
                try clear c10b0
                try clear c10b1
                try clear c11
                try clear c13
                try clear c14
                try clear c14b0
                try clear c14b1
                try clear c14b2
                try clear c15
                try clear c16
                try clear c26
                try clear c27
                try clear c27b0
                try clear c27b1
                try clear p2
                obtain ⟨kq, x67_17, rfl, HA, HJ17, HO_10, HO_12, HO_14, HB⟩ := hcut
                cases kq with
                | zero => exact absurd HA.out (by simp [waggonerlaw01_LeForms.j1])
                | succ kj17 =>
                  have H := HA.out
                  clear HA
                  simp only [waggonerlaw01_LeForms.j1] at H
                  by_cases c28 : x67_17 = true
                  · subst c28
                    have H1 : (some t171) = some true := by rw [if_pos rfl] at H; exact H
                    clear H
                    have H := H1
                    clear H1
                    (have HRT := Aside0.mk (Option.some.inj H); clear H)
                    go_wp2
                    go_ret
                    exact ⟨by first | rfl | (exact congrArg (fun z_ => Ending.returned (Value.bool z_)) HRT.out) | (rw [HRT.out]; done) | (simp [errW_none, errW_some] <;> rfl) | (simp [*, errW_none, errW_some] <;> rfl), by repeat (first | (with_reducible first | exact HB.out | apply below_alloc | apply pw_below_drewN | apply below_drew1) | exact HB.out)⟩
                  · replace c28 := Bool.eq_false_iff.mpr c28
                    subst c28
                    have H1 : (if a0.size + a2.size ≤ 9223372036854775807 then ((le_Unpack.f (a0 ++ a2) t189).bind fun bt193 => (if t171 = true then (if t190 = 0 then (if t172.length + t176.length < 140737488355328 then (if (strOfNums t189).toList = (strOfNums (t172 ++ t176)).toList then (if bt193.2 = 0 then ((some (([] : List Int) : List Int)).bind fun y200 => (if y200.length + l1.length < 17592186044416 then ((some (y200 ++ l1 : List Int)).bind fun y203 => (if y203.length + l3.length < 17592186044416 then ((waggonerref01_Same.f bt193.1 (y203 ++ l3)).bind fun t209 => (some t209)) else (none))) else (none))) else (some false)) else (some false)) else (none)) else (some false)) else (some false))) else (none)) = some true := by rw [if_neg (show ¬ (false = true) by decide)] at H; exact H
                    clear H
                    have H := H1
                    clear H1
                    by_cases c29 : a0.size + a2.size ≤ 9223372036854775807
                    · rw [if_pos c29] at H
                      have c29b0 := eq_true c29
                      have c29b1 : decide (a0.size + a2.size ≤ 9223372036854775807) = true := decide_eq_true c29
                      try have c29b2 : (9223372036854775807 < a0.size + a2.size) = False := eq_false (Nat.not_lt.2 c29)
                      replace H := Option.bind_eq_some_iff.mp H
                      obtain ⟨⟨t193, t194⟩, A300, H⟩ := H
                      replace H : (if t171 = true then (if t190 = 0 then (if t172.length + t176.length < 140737488355328 then (if (strOfNums t189).toList = (strOfNums (t172 ++ t176)).toList then (if t194 = 0 then ((some (([] : List Int) : List Int)).bind fun y200 => (if y200.length + l1.length < 17592186044416 then ((some (y200 ++ l1 : List Int)).bind fun y203 => (if y203.length + l3.length < 17592186044416 then ((waggonerref01_Same.f t193 (y203 ++ l3)).bind fun t209 => (some t209)) else (none))) else (none))) else (some false)) else (some false)) else (none)) else (some false)) else (some false)) = some true := H
                      have A30 := Aside0.mk A300
                      clear A300
                      by_cases c31 : t171 = true
                      · subst c31
                        have H1 : (if t190 = 0 then (if t172.length + t176.length < 140737488355328 then (if (strOfNums t189).toList = (strOfNums (t172 ++ t176)).toList then (if t194 = 0 then ((some (([] : List Int) : List Int)).bind fun y200 => (if y200.length + l1.length < 17592186044416 then ((some (y200 ++ l1 : List Int)).bind fun y203 => (if y203.length + l3.length < 17592186044416 then ((waggonerref01_Same.f t193 (y203 ++ l3)).bind fun t209 => (some t209)) else (none))) else (none))) else (some false)) else (some false)) else (none)) else (some false)) = some true := by rw [if_pos rfl] at H; exact H
                        clear H
                        have H := H1
                        clear H1
                        by_cases c32 : t190 = 0
                        · rw [if_pos c32] at H
                          have c32b0 : (t190 == 0) = true := beq_iff_eq.mpr c32
                          have c32b1 : (t190 != 0) = false := bne_eq_false_iff_eq.mpr c32
                          clear c32
                          by_cases c33 : t172.length + t176.length < 140737488355328
                          · rw [if_pos c33] at H
                            have LMc33 := Aside0.mk c33
                            clear c33
                            obtain ⟨y197, hy197⟩ : ∃ y_ : List Int, y_ = (t172 ++ t176) := ⟨_, rfl⟩
                            replace H : (if (strOfNums t189).toList = (strOfNums y197).toList then (if t194 = 0 then ((some (([] : List Int) : List Int)).bind fun y200 => (if y200.length + l1.length < 17592186044416 then ((some (y200 ++ l1 : List Int)).bind fun y203 => (if y203.length + l3.length < 17592186044416 then ((waggonerref01_Same.f t193 (y203 ++ l3)).bind fun t209 => (some t209)) else (none))) else (none))) else (some false)) else (some false)) = some true := by first | (rw [hy197]; with_reducible exact H) | (have H2_ := (Option.bind_some _ _).symm.trans H; rw [hy197]; with_reducible exact H2_) | (have H2_ := (Option.bind_some _ _).symm.trans H; with_reducible exact H2_) | with_reducible exact H | (rw [hy197]; exact H) | exact H
                            have Ny197 := Aside0.mk hy197
                            clear hy197
                            by_cases c34 : (strOfNums t189).toList = (strOfNums y197).toList
                            · rw [if_pos c34] at H
                              have c34b0 : ((strOfNums t189).toList == (strOfNums y197).toList) = true := beq_iff_eq.mpr c34
                              have c34b1 : ((strOfNums t189).toList != (strOfNums y197).toList) = false := bne_eq_false_iff_eq.mpr c34
                              clear c34
                              by_cases c35 : t194 = 0
                              · rw [if_pos c35] at H
                                have c35b0 : (t194 == 0) = true := beq_iff_eq.mpr c35
                                have c35b1 : (t194 != 0) = false := bne_eq_false_iff_eq.mpr c35
                                clear c35
                                obtain ⟨y200, hy200⟩ : ∃ y_ : List Int, y_ = (([] : List Int)) := ⟨_, rfl⟩
                                replace H : (if y200.length + l1.length < 17592186044416 then ((some (y200 ++ l1 : List Int)).bind fun y203 => (if y203.length + l3.length < 17592186044416 then ((waggonerref01_Same.f t193 (y203 ++ l3)).bind fun t209 => (some t209)) else (none))) else (none)) = some true := by first | (rw [hy200]; with_reducible exact H) | (have H2_ := (Option.bind_some _ _).symm.trans H; rw [hy200]; with_reducible exact H2_) | (have H2_ := (Option.bind_some _ _).symm.trans H; with_reducible exact H2_) | with_reducible exact H | (rw [hy200]; exact H) | exact H
                                have Ny200 := Aside0.mk hy200
                                clear hy200
                                by_cases c36 : y200.length + l1.length < 17592186044416
                                · rw [if_pos c36] at H
                                  have LMc36 := Aside0.mk c36
                                  clear c36
                                  obtain ⟨y203, hy203⟩ : ∃ y_ : List Int, y_ = (y200 ++ l1) := ⟨_, rfl⟩
                                  replace H : (if y203.length + l3.length < 17592186044416 then ((waggonerref01_Same.f t193 (y203 ++ l3)).bind fun t209 => (some t209)) else (none)) = some true := by first | (rw [hy203]; with_reducible exact H) | (have H2_ := (Option.bind_some _ _).symm.trans H; rw [hy203]; with_reducible exact H2_) | (have H2_ := (Option.bind_some _ _).symm.trans H; with_reducible exact H2_) | with_reducible exact H | (rw [hy203]; exact H) | exact H
                                  have Ny203 := Aside0.mk hy203
                                  clear hy203
                                  by_cases c37 : y203.length + l3.length < 17592186044416
                                  · rw [if_pos c37] at H
                                    have LMc37 := Aside0.mk c37
                                    clear c37
                                    obtain ⟨y206, hy206⟩ : ∃ y_ : List Int, y_ = (y203 ++ l3) := ⟨_, rfl⟩
                                    replace H : ((waggonerref01_Same.f t193 y206).bind fun t209 => (some t209)) = some true := by first | (rw [hy206]; with_reducible exact H) | (have H2_ := (Option.bind_some _ _).symm.trans H; rw [hy206]; with_reducible exact H2_) | (have H2_ := (Option.bind_some _ _).symm.trans H; with_reducible exact H2_) | with_reducible exact H | (rw [hy206]; exact H) | exact H
                                    have Ny206 := Aside0.mk hy206
                                    clear hy206
                                    replace H := Option.bind_eq_some_iff.mp H
                                    obtain ⟨t209, A380, H⟩ := H
                                    replace H : (some t209) = some true := H
                                    have A38 := Aside0.mk A380
                                    clear A380
                                    (have HRT := Aside0.mk (Option.some.inj H); clear H)
                                    obtain ⟨Ao39, co39, eo39⟩ := Kd.R_slice HO_14.out
                                    subst eo39
                                    try go_wp2_with (first | ((with_reducible refine gate_callee (f := 33) rfl ?_); refine goesL_ (some 74) rfl rfl Try.func33 (by kernel_rfl) rfl #[.string (a0 ++ a2), .slice Ao39 t189.length co39] rfl (by (try simp only [List.map_toArray, List.map_cons, List.map_nil]); first | done | rfl | (simp only [List.length_drop, List.length_take]; rfl)) ?_; (with_reducible refine (le_Unpack.calls (a0 ++ a2) _ _ t189 t193 t194 _ ?side1 ?side2 A30.out).mono ?_); (case side1 => repeat (first | exact (Kd.R_reads' HO_14.out).2.2 | (with_reducible refine Kd.C_alloc ?_ _) | (with_reducible refine Kd.C_drewN ?_ _) | (with_reducible refine Kd.C_drew ?_))); (case side2 => exact (Kd.R_reads' HO_14.out).2.1); rintro e w40 ⟨v195, rfl, ho0, hb⟩; refine ⟨_, rfl, ?_⟩; have n0_ := Aside0.mk (Kd.R_below (by (with_reducible repeat (first | apply Kd.R_alloc | apply Kd.R_drewN | apply Kd.R_drew)); exact HO_10.out) hb); have n1_ := Aside0.mk (Kd.R_below (by (with_reducible repeat (first | apply Kd.R_alloc | apply Kd.R_drewN | apply Kd.R_drew)); exact HO_12.out) hb); have n2_ := Aside0.mk (Kd.R_below (by (with_reducible repeat (first | apply Kd.R_alloc | apply Kd.R_drewN | apply Kd.R_drew)); exact HO_14.out) hb); have n3_ := Aside0.mk (Kd.R_lower ho0 (below_size (by repeat (first | (with_reducible first | exact HB.out | apply below_alloc | apply pw_below_drewN | apply below_drew1) | exact HB.out)))); have n4_ := Aside0.mk (below_step (by repeat (first | (with_reducible first | exact HB.out | apply below_alloc | apply pw_below_drewN | apply below_drew1) | exact HB.out)) hb); clear HO_10; clear HO_12; clear HO_14; clear HB; have HO_10 := n0_; have HO_12 := n1_; have HO_14 := n2_; have HO196 := n3_; have HB := n4_; clear n0_ n1_ n2_ n3_ n4_; (try clear hb); (try clear hb2); (try clear hk); (try clear hi); (try clear ho0); obtain ⟨Ao41, co41, eo41⟩ := Kd.R_slice HO_10.out; subst eo41; obtain ⟨Ao42, co42, eo42⟩ := Kd.R_slice HO_12.out; subst eo42; obtain ⟨Ao43, co43, eo43⟩ := Kd.R_slice HO196.out; subst eo43))
                                    have n0_ := Aside0.mk (Kd.R_drew HO_10.out)
                                    have n1_ := Aside0.mk (Kd.R_drew HO_12.out)
                                    have n2_ := Aside0.mk (Kd.R_drew HO_14.out)
                                    have n3_ := Aside0.mk (Kd.R_drew HO196.out)
                                    have n4_ := Aside0.mk (below_drew1 HB.out)
                                    clear HO_10
                                    clear HO_12
                                    clear HO_14
                                    clear HO196
                                    clear HB
                                    have HO_10 := n0_
                                    have HO_12 := n1_
                                    have HO_14 := n2_
                                    have HO196 := n3_
                                    have HB := n4_
                                    clear n0_ n1_ n2_ n3_ n4_
                                    refine start_ (n := 28) (S := fun w' => (convert 23 9 (.slice Ao39 t189.length co39)).run Try.prog w' = .ok (.string (strOfNums t189)) w') (ds := []) #[false, false, false, false, false, false, false, false, false, false, false, false, false, false, false, false, false, false, false, false, false, false, false, false, false, false, false, false] (by kernel_rfl) rfl rfl ((own_string (P := Try.prog) Try.underlying23 Try.underlying5 Try.underlying9 (Kd.own_of_R HO_14.out))) (fun hHeld => ?_); refine with_tabW waggonerlaw01_LeForms.tab10 waggonerlaw01_LeForms.bits10 (fun HT_ HW_ => ?_)
                                    generalize w40.drew = w44 at HO_10 HO_12 HO_14 HO196 HB hHeld ⊢
                                    refine pure_ (i := 0) (N := some 77) (v := ?_) (a' := ?_) #[true, false, false, false, false, false, false, false, false, false, false, false, false, false, false, false, false, false, false, false, false, false, false, false, false, false, false, false] rfl rfl (any_of HT_.out (by kernel_rfl)) (fun _ _ _ h => h) (Or.inl ⟨by rfl, ?_⟩) ?_ ?_
                                    rotate_left
                                    · intro w'
                                      go_simp
                                      with_reducible rfl
                                    rotate_left
                                    · simp only [Act.put, List.setIfInBounds_toArray, List.set_cons_zero, List.set_cons_succ, i64_w, i32_w]
                                      rfl
                                    refine pure_ (i := 1) (N := some 78) (v := ?_) (a' := ?_) #[true, true, false, false, false, false, false, false, false, false, false, false, false, false, false, false, false, false, false, false, false, false, false, false, false, false, false, false] rfl rfl (any_of HT_.out (by kernel_rfl)) (fun _ _ _ h => h) (Or.inl ⟨by rfl, ?_⟩) ?_ ?_
                                    rotate_left
                                    · intro w'
                                      go_simp
                                      with_reducible rfl
                                    rotate_left
                                    · simp only [Act.put, List.setIfInBounds_toArray, List.set_cons_zero, List.set_cons_succ, i64_w, i32_w]
                                      rfl
                                    refine pure_ (i := 2) (N := some 79) (v := ?_) (a' := ?_) #[true, true, true, false, false, false, false, false, false, false, false, false, false, false, false, false, false, false, false, false, false, false, false, false, false, false, false, false] rfl rfl (any_of HT_.out (by kernel_rfl)) (fun _ _ _ h => h) (Or.inl ⟨by rfl, ?_⟩) ?_ ?_
                                    rotate_left
                                    · intro w'
                                      go_simp
                                      with_reducible rfl
                                    rotate_left
                                    · simp only [Act.put, List.setIfInBounds_toArray, List.set_cons_zero, List.set_cons_succ, i64_w, i32_w]
                                      rfl
                                    refine pure_ (i := 3) (N := some 80) (v := ?_) (a' := ?_) #[true, true, true, true, false, false, false, false, false, false, false, false, false, false, false, false, false, false, false, false, false, false, false, false, false, false, false, false] rfl rfl (any_of HT_.out (by kernel_rfl)) (fun _ _ _ h => h) (Or.inl ⟨by rfl, ?_⟩) ?_ ?_
                                    rotate_left
                                    · intro w'
                                      go_simp
                                      with_reducible rfl
                                    rotate_left
                                    · simp only [Act.put, List.setIfInBounds_toArray, List.set_cons_zero, List.set_cons_succ, i64_w, i32_w]
                                      rfl
                                    refine pure_ (i := 4) (N := some 81) (v := ?_) (a' := ?_) #[true, true, true, true, true, false, false, false, false, false, false, false, false, false, false, false, false, false, false, false, false, false, false, false, false, false, false, false] rfl rfl (any_of HT_.out (by kernel_rfl)) (fun _ _ _ h => h) (Or.inl ⟨by rfl, ?_⟩) ?_ ?_
                                    rotate_left
                                    · intro w'
                                      go_simp
                                      with_reducible rfl
                                    rotate_left
                                    · simp only [Act.put, List.setIfInBounds_toArray, List.set_cons_zero, List.set_cons_succ, i64_w, i32_w]
                                      rfl
                                    refine pure_ (i := 5) (N := some 82) (v := ?_) (a' := ?_) #[true, true, true, true, true, true, false, false, false, false, false, false, false, false, false, false, false, false, false, false, false, false, false, false, false, false, false, false] rfl rfl (any_of HT_.out (by kernel_rfl)) (fun _ _ _ h => h) (Or.inl ⟨by rfl, ?_⟩) ?_ ?_
                                    rotate_left
                                    · intro w'
                                      go_simp
                                      with_reducible rfl
                                    rotate_left
                                    · simp only [Act.put, List.setIfInBounds_toArray, List.set_cons_zero, List.set_cons_succ, i64_w, i32_w]
                                      rfl
                                    refine pure_ (i := 6) (N := some 83) (v := ?_) (a' := ?_) #[true, true, true, true, true, true, true, false, false, false, false, false, false, false, false, false, false, false, false, false, false, false, false, false, false, false, false, false] rfl rfl (any_of HT_.out (by kernel_rfl)) (fun _ _ _ h => h) (Or.inl ⟨by rfl, ?_⟩) ?_ ?_
                                    rotate_left
                                    · intro w'
                                      go_simp
                                      with_reducible rfl
                                    rotate_left
                                    · simp only [Act.put, List.setIfInBounds_toArray, List.set_cons_zero, List.set_cons_succ, i64_w, i32_w]
                                      rfl
                                    refine pure_ (i := 8) (N := some 85) (v := ?_) (a' := ?_) #[true, true, true, true, true, true, true, false, true, false, false, false, false, false, false, false, false, false, false, false, false, false, false, false, false, false, false, false] rfl rfl (any_of HT_.out (by kernel_rfl)) (fun _ _ _ h => h) (Or.inl ⟨by rfl, ?_⟩) ?_ ?_
                                    rotate_left
                                    · intro w'
                                      go_simp
                                      with_reducible rfl
                                    rotate_left
                                    · simp only [Act.put, List.setIfInBounds_toArray, List.set_cons_zero, List.set_cons_succ, i64_w, i32_w]
                                      rfl
                                    refine pure_ (i := 9) (N := some 86) (v := ?_) (a' := ?_) #[true, true, true, true, true, true, true, false, true, true, false, false, false, false, false, false, false, false, false, false, false, false, false, false, false, false, false, false] rfl rfl (any_of HT_.out (by kernel_rfl)) (fun _ _ _ h => h) (Or.inl ⟨by rfl, ?_⟩) ?_ ?_
                                    rotate_left
                                    · intro w'
                                      go_simp
                                      with_reducible rfl
                                    rotate_left
                                    · simp only [Act.put, List.setIfInBounds_toArray, List.set_cons_zero, List.set_cons_succ, i64_w, i32_w]
                                      rfl
                                    refine take_ (i := 7) (N := some 84) (v := ?_) (a' := ?_) #[true, true, true, true, true, true, true, true, true, true, false, false, false, false, false, false, false, false, false, false, false, false, false, false, false, false, false, false] rfl rfl (take_ofW HT_.out HW_.out (by kernel_rfl)) (fun _ _ _ h => h) (Or.inl ⟨by rfl, ?_⟩) hHeld ?_ ?_
                                    rotate_left
                                    · intro w' s0
                                      go_simp
                                      with_reducible rfl
                                    rotate_left
                                    · simp only [Act.put, List.setIfInBounds_toArray, List.set_cons_zero, List.set_cons_succ, i64_w, i32_w]
                                      rfl
                                    refine one_ (i := 10) (N := some 87) #[true, true, true, true, true, true, true, true, true, true, true, false, false, false, false, false, false, false, false, false, false, false, false, false, false, false, false, false] rfl rfl (one_of HT_.out (by kernel_rfl)) (by decide) (fun K hK => ?_)
                                    refine Kd.R_append_rows_step (Kd.int .u8) (w0 := w) w.heap.size (by rfl) (.tmp 85) (.tmp 86) 23 5 (.int .u8 0) 1 rfl Try.underlying23 info5 rfl (by decide) (by omega) (.slice Ao41 t172.length co41) t172 t176 _ _ _ (fun k_ => some k_ ≠ (.slice Ao42 t176.length co42 : Value).ownBlock ∧ some k_ ≠ (.slice Ao39 t189.length co39 : Value).ownBlock) (fun _ => False) rfl rfl ?aO ?aR (fun _ _ h => h) (fun _ h => h.elim) ?aF ?aB ?aS ?aL ?_
                                    (case aR => repeat (first | exact (Kd.R_reads' HO_12.out).2.2 | (with_reducible refine Kd.C_alloc ?_ _) | (with_reducible refine Kd.C_drewN ?_ _) | (with_reducible refine Kd.C_drew ?_)))
                                    (case aB => exact (by repeat (first | (with_reducible first | exact HB.out | apply below_alloc | apply pw_below_drewN | apply below_drew1) | exact HB.out)))
                                    (case aF => exact (fun k_ hk => ⟨Kd.fresh' (Kd.R_lt (by (with_reducible repeat (first | apply Kd.R_alloc | apply Kd.R_drewN | apply Kd.R_drew)); exact HO_12.out)) k_ hk, Kd.fresh' (Kd.R_lt (by (with_reducible repeat (first | apply Kd.R_alloc | apply Kd.R_drewN | apply Kd.R_drew)); exact HO_14.out)) k_ hk⟩))
                                    (case aO => exact (by (with_reducible repeat (first | apply Kd.R_alloc | apply Kd.R_drewN | apply Kd.R_drew)); exact HO_10.out))
                                    (case aS => exact (below_size (by repeat (first | (with_reducible first | exact HB.out | apply below_alloc | apply pw_below_drewN | apply below_drew1) | exact HB.out))))
                                    (case aL => have := LMc33.out; omega)
                                    intro v198 w45 ho hb hg hat
                                    rw [← Ny197.out] at ho
                                    have n0_ := Aside0.mk (Kd.R_after (ok := (fun k_ => some k_ ≠ (.slice Ao39 t189.length co39 : Value).ownBlock)) (by (with_reducible repeat (first | apply Kd.R_alloc | apply Kd.R_drewN | apply Kd.R_drew)); exact Kd.R_mono HO_12.out (fun _ hk => ⟨hk.2, hk.1⟩)) hg hat)
                                    have n1_ := Aside0.mk (Kd.R_after (ok := (fun k_ => some k_ ≠ (.slice Ao42 t176.length co42 : Value).ownBlock)) (by (with_reducible repeat (first | apply Kd.R_alloc | apply Kd.R_drewN | apply Kd.R_drew)); exact Kd.R_mono HO_14.out (fun _ hk => ⟨hk.2, hk.1⟩)) hg hat)
                                    have n2_ := Aside0.mk (Kd.R_over' (by (with_reducible repeat (first | apply Kd.R_alloc | apply Kd.R_drewN | apply Kd.R_drew)); exact HO196.out) (Kd.R_typed (by (with_reducible repeat (first | apply Kd.R_alloc | apply Kd.R_drewN | apply Kd.R_drew)); exact HO_10.out)) (by decide) hg)
                                    have n3_ := Aside0.mk (hb)
                                    have n4_ := Aside0.mk (ho)
                                    clear HO_12
                                    clear HO_14
                                    clear HO196
                                    clear HB
                                    clear HO_10
                                    have HO_12 := n0_
                                    have HO_14 := n1_
                                    have HO196 := n2_
                                    have HB := n3_
                                    have HO199 := n4_
                                    clear n0_ n1_ n2_ n3_ n4_
                                    clear ho hb hg hat
                                    refine hK.out _ _ ((own_string (P := Try.prog) Try.underlying23 Try.underlying5 Try.underlying9 (Kd.own_of_R HO_14.out))) (fun hHeld => ?_)
                                    clear hK K
                                    refine norm_ (a' := ?_) ?_ ?_
                                    rotate_left
                                    · show Act.put _ (some 87) _ = _
                                      simp only [Act.put, List.setIfInBounds_toArray, List.set_cons_zero, List.set_cons_succ, i64_w, i32_w]
                                      rfl
                                    refine one_ (i := 11) (N := some 88) #[true, true, true, true, true, true, true, true, true, true, true, true, false, false, false, false, false, false, false, false, false, false, false, false, false, false, false, false] rfl rfl (one_of HT_.out (by kernel_rfl)) (by decide) (fun K hK => ?_)
                                    have hcv46 := own_string (P := Try.prog) Try.underlying23 Try.underlying5 Try.underlying9 (Kd.own_of_R HO199.out)
                                    refine value_ (w1 := ?_) (v := ?_) (by rfl) rfl ?_ ?_
                                    rotate_left 2
                                    · go_simp
                                      constructor
                                      · rfl
                                      · rfl
                                    clear hcv46
                                    refine hK.out _ _ ((own_string (P := Try.prog) Try.underlying23 Try.underlying5 Try.underlying9 (Kd.own_of_R HO_14.out))) (fun hHeld => ?_)
                                    clear hK K
                                    refine norm_ (a' := ?_) ?_ ?_
                                    rotate_left
                                    · show Act.put _ (some 88) _ = _
                                      simp only [Act.put, List.setIfInBounds_toArray, List.set_cons_zero, List.set_cons_succ, i64_w, i32_w]
                                      rfl
                                    refine pure_ (i := 12) (N := some 89) (v := ?_) (a' := ?_) #[true, true, true, true, true, true, true, true, true, true, true, true, true, false, false, false, false, false, false, false, false, false, false, false, false, false, false, false] rfl rfl (any_of HT_.out (by kernel_rfl)) (fun _ _ _ h => h) (Or.inl ⟨by rfl, ?_⟩) ?_ ?_
                                    rotate_left
                                    · intro w'
                                      go_simp
                                      with_reducible rfl
                                    rotate_left
                                    · simp only [Act.put, List.setIfInBounds_toArray, List.set_cons_zero, List.set_cons_succ, i64_w, i32_w]
                                      rfl
                                    refine pure_ (i := 13) (N := some 90) (v := ?_) (a' := ?_) #[true, true, true, true, true, true, true, true, true, true, true, true, true, true, false, false, false, false, false, false, false, false, false, false, false, false, false, false] rfl rfl (any_of HT_.out (by kernel_rfl)) (fun _ _ _ h => h) (Or.inl ⟨by rfl, ?_⟩) ?_ ?_
                                    rotate_left
                                    · intro w'
                                      go_simp
                                      with_reducible rfl
                                    rotate_left
                                    · simp only [Act.put, List.setIfInBounds_toArray, List.set_cons_zero, List.set_cons_succ, i64_w, i32_w]
                                      rfl
                                    refine pure_ (i := 14) (N := some 91) (v := ?_) (a' := ?_) #[true, true, true, true, true, true, true, true, true, true, true, true, true, true, true, false, false, false, false, false, false, false, false, false, false, false, false, false] rfl rfl (any_of HT_.out (by kernel_rfl)) (fun _ _ _ h => h) (Or.inl ⟨by rfl, ?_⟩) ?_ ?_
                                    rotate_left
                                    · intro w'
                                      go_simp
                                      with_reducible rfl
                                    rotate_left
                                    · simp only [Act.put, List.setIfInBounds_toArray, List.set_cons_zero, List.set_cons_succ, i64_w, i32_w]
                                      rfl
                                    refine pure_ (i := 15) (N := some 92) (v := ?_) (a' := ?_) #[true, true, true, true, true, true, true, true, true, true, true, true, true, true, true, true, false, false, false, false, false, false, false, false, false, false, false, false] rfl rfl (any_of HT_.out (by kernel_rfl)) (fun _ _ _ h => h) (Or.inl ⟨by rfl, ?_⟩) ?_ ?_
                                    rotate_left
                                    · intro w'
                                      go_simp
                                      with_reducible rfl
                                    rotate_left
                                    · simp only [Act.put, List.setIfInBounds_toArray, List.set_cons_zero, List.set_cons_succ, i64_w, i32_w]
                                      rfl
                                    refine pure_ (i := 16) (N := some 93) (v := ?_) (a' := ?_) #[true, true, true, true, true, true, true, true, true, true, true, true, true, true, true, true, true, false, false, false, false, false, false, false, false, false, false, false] rfl rfl (any_of HT_.out (by kernel_rfl)) (fun _ _ _ h => h) (Or.inl ⟨by rfl, ?_⟩) ?_ ?_
                                    rotate_left
                                    · intro w'
                                      go_simp
                                      with_reducible rfl
                                    rotate_left
                                    · simp only [Act.put, List.setIfInBounds_toArray, List.set_cons_zero, List.set_cons_succ, i64_w, i32_w]
                                      rfl
                                    refine pure_ (i := 17) (N := some 94) (v := ?_) (a' := ?_) #[true, true, true, true, true, true, true, true, true, true, true, true, true, true, true, true, true, true, false, false, false, false, false, false, false, false, false, false] rfl rfl (any_of HT_.out (by kernel_rfl)) (fun _ _ _ h => h) (Or.inl ⟨by rfl, ?_⟩) ?_ ?_
                                    rotate_left
                                    · intro w'
                                      go_simp
                                      with_reducible rfl
                                    rotate_left
                                    · simp only [Act.put, List.setIfInBounds_toArray, List.set_cons_zero, List.set_cons_succ, i64_w, i32_w]
                                      rfl
                                    refine pure_ (i := 18) (N := some 95) (v := ?_) (a' := ?_) #[true, true, true, true, true, true, true, true, true, true, true, true, true, true, true, true, true, true, true, false, false, false, false, false, false, false, false, false] rfl rfl (any_of HT_.out (by kernel_rfl)) (fun _ _ _ h => h) (Or.inl ⟨by rfl, ?_⟩) ?_ ?_
                                    rotate_left
                                    · intro w'
                                      go_simp
                                      with_reducible rfl
                                    rotate_left
                                    · simp only [Act.put, List.setIfInBounds_toArray, List.set_cons_zero, List.set_cons_succ, i64_w, i32_w]
                                      rfl
                                    refine pure_ (i := 19) (N := some 96) (v := ?_) (a' := ?_) #[true, true, true, true, true, true, true, true, true, true, true, true, true, true, true, true, true, true, true, true, false, false, false, false, false, false, false, false] rfl rfl (any_of HT_.out (by kernel_rfl)) (fun _ _ _ h => h) (Or.inl ⟨by rfl, ?_⟩) ?_ ?_
                                    rotate_left
                                    · intro w'
                                      go_simp
                                      with_reducible rfl
                                    rotate_left
                                    · simp only [Act.put, List.setIfInBounds_toArray, List.set_cons_zero, List.set_cons_succ, i64_w, i32_w]
                                      rfl
                                    refine pure_ (i := 21) (N := some 98) (v := ?_) (a' := ?_) #[true, true, true, true, true, true, true, true, true, true, true, true, true, true, true, true, true, true, true, true, false, true, false, false, false, false, false, false] rfl rfl (any_of HT_.out (by kernel_rfl)) (fun _ _ _ h => h) (Or.inl ⟨by rfl, ?_⟩) ?_ ?_
                                    rotate_left
                                    · intro w'
                                      go_simp
                                      with_reducible rfl
                                    rotate_left
                                    · simp only [Act.put, List.setIfInBounds_toArray, List.set_cons_zero, List.set_cons_succ, i64_w, i32_w]
                                      rfl
                                    refine pure_ (i := 23) (N := some 100) (v := ?_) (a' := ?_) #[true, true, true, true, true, true, true, true, true, true, true, true, true, true, true, true, true, true, true, true, false, true, false, true, false, false, false, false] rfl rfl (any_of HT_.out (by kernel_rfl)) (fun _ _ _ h => h) (Or.inl ⟨by rfl, ?_⟩) ?_ ?_
                                    rotate_left
                                    · intro w'
                                      go_simp
                                      with_reducible rfl
                                    rotate_left
                                    · simp only [Act.put, List.setIfInBounds_toArray, List.set_cons_zero, List.set_cons_succ, i64_w, i32_w]
                                      rfl
                                    refine one_ (i := 20) (N := some 97) #[true, true, true, true, true, true, true, true, true, true, true, true, true, true, true, true, true, true, true, true, true, true, false, true, false, false, false, false] rfl rfl (one_of HT_.out (by kernel_rfl)) (by decide) (fun K hK => ?_)
                                    refine Kd.R_lit_step (Kd.int .u64) _ 39 ?hg (N := 97) ?hd (xs := ([] : List Int)) (inner := []) (ok := fun _ => True) (okp := fun _ => True) ?hr ?hp (fun _ hk => hk) trivial (Below.refl _ _) (Nat.le_refl _) (by simp) ?_; (case hd => rfl); (case hg => rfl); (case hr => first | (go_simp; done) | (go_simp; rfl)); (case hp => exact (Reps.none _ _))
                                    intro v201 w48 ho49 hb hg_ hnew_
                                    clear hg_ hnew_
                                    (first | rw [← Ny200.out] at ho49 | (simp only [Int.reduceToNat] at ho49; rw [← Ny200.out] at ho49))
                                    have n0_ := Aside0.mk (Kd.R_below (by (with_reducible repeat (first | apply Kd.R_alloc | apply Kd.R_drewN | apply Kd.R_drew)); exact HO_12.out) hb)
                                    have n1_ := Aside0.mk (Kd.R_below (by (with_reducible repeat (first | apply Kd.R_alloc | apply Kd.R_drewN | apply Kd.R_drew)); exact HO_14.out) hb)
                                    have n2_ := Aside0.mk (Kd.R_elder' (by (with_reducible repeat (first | apply Kd.R_alloc | apply Kd.R_drewN | apply Kd.R_drew)); exact HO196.out) (Kd.R_base ho49) hb)
                                    have n3_ := Aside0.mk (Kd.R_below (by (with_reducible repeat (first | apply Kd.R_alloc | apply Kd.R_drewN | apply Kd.R_drew)); exact HO199.out) hb)
                                    have n4_ := Aside0.mk (Kd.R_lower (Kd.R_new' ho49 (Kd.R_lt (by (with_reducible repeat (first | apply Kd.R_alloc | apply Kd.R_drewN | apply Kd.R_drew)); exact HO196.out))) (below_size (by repeat (first | (with_reducible first | exact HB.out | apply below_alloc | apply pw_below_drewN | apply below_drew1) | exact HB.out))))
                                    have n5_ := Aside0.mk (below_step (by repeat (first | (with_reducible first | exact HB.out | apply below_alloc | apply pw_below_drewN | apply below_drew1) | exact HB.out)) hb)
                                    clear HO_12
                                    clear HO_14
                                    clear HO196
                                    clear HO199
                                    clear HB
                                    have HO_12 := n0_
                                    have HO_14 := n1_
                                    have HO196 := n2_
                                    have HO199 := n3_
                                    have HO202 := n4_
                                    have HB := n5_
                                    clear n0_ n1_ n2_ n3_ n4_ n5_
                                    clear hb ho49
                                    refine hK.out _ _ ((own_string (P := Try.prog) Try.underlying23 Try.underlying5 Try.underlying9 (Kd.own_of_R HO_14.out))) (fun hHeld => ?_)
                                    clear hK K
                                    refine norm_ (a' := ?_) ?_ ?_
                                    rotate_left
                                    · show Act.put _ (some 97) _ = _
                                      simp only [Act.put, List.setIfInBounds_toArray, List.set_cons_zero, List.set_cons_succ, i64_w, i32_w]
                                      rfl
                                    refine one_ (i := 22) (N := some 99) #[true, true, true, true, true, true, true, true, true, true, true, true, true, true, true, true, true, true, true, true, true, true, true, true, false, false, false, false] rfl rfl (one_of HT_.out (by kernel_rfl)) (by decide) (fun K hK => ?_)
                                    refine Kd.R_append_rows_step (Kd.int .u64) (w0 := w) w.heap.size (by rfl) (.tmp 97) (.tmp 98) 44 39 (.int .u64 0) 8 rfl Try.underlying44 info39 rfl (by decide) (by omega) v201 y200 l1 _ _ _ (fun k_ => some k_ ≠ (.slice Ao43 t193.length co43 : Value).ownBlock) (fun _ => False) rfl rfl ?aO ?aR (fun _ _ h => h) (fun _ h => h.elim) ?aF ?aB ?aS ?aL ?_
                                    (case aR => repeat (first | exact (Kd.C_below HR1.out HB.out) | (with_reducible refine Kd.C_alloc ?_ _) | (with_reducible refine Kd.C_drewN ?_ _) | (with_reducible refine Kd.C_drew ?_)))
                                    (case aB => exact (by repeat (first | (with_reducible first | exact HB.out | apply below_alloc | apply pw_below_drewN | apply below_drew1) | exact HB.out)))
                                    (case aF => exact (fun k_ hk => Kd.fresh' (Kd.R_lt (by (with_reducible repeat (first | apply Kd.R_alloc | apply Kd.R_drewN | apply Kd.R_drew)); exact HO196.out)) k_ hk))
                                    (case aO => exact (by (with_reducible repeat (first | apply Kd.R_alloc | apply Kd.R_drewN | apply Kd.R_drew)); exact Kd.R_mono HO202.out (fun _ hk => hk.2)))
                                    (case aS => exact (below_size (by repeat (first | (with_reducible first | exact HB.out | apply below_alloc | apply pw_below_drewN | apply below_drew1) | exact HB.out))))
                                    (case aL => have := LMc36.out; omega)
                                    intro v204 w50 ho hb hg hat
                                    rw [← Ny203.out] at ho
                                    have n0_ := Aside0.mk (Kd.R_over' (by (with_reducible repeat (first | apply Kd.R_alloc | apply Kd.R_drewN | apply Kd.R_drew)); exact HO_12.out) (Kd.R_typed (by (with_reducible repeat (first | apply Kd.R_alloc | apply Kd.R_drewN | apply Kd.R_drew)); exact HO202.out)) (by decide) hg)
                                    have n1_ := Aside0.mk (Kd.R_over' (by (with_reducible repeat (first | apply Kd.R_alloc | apply Kd.R_drewN | apply Kd.R_drew)); exact HO_14.out) (Kd.R_typed (by (with_reducible repeat (first | apply Kd.R_alloc | apply Kd.R_drewN | apply Kd.R_drew)); exact HO202.out)) (by decide) hg)
                                    have n2_ := Aside0.mk (Kd.R_after (ok := (fun _ => True)) (by (with_reducible repeat (first | apply Kd.R_alloc | apply Kd.R_drewN | apply Kd.R_drew)); exact HO196.out) hg hat)
                                    have n3_ := Aside0.mk (Kd.R_over' (by (with_reducible repeat (first | apply Kd.R_alloc | apply Kd.R_drewN | apply Kd.R_drew)); exact HO199.out) (Kd.R_typed (by (with_reducible repeat (first | apply Kd.R_alloc | apply Kd.R_drewN | apply Kd.R_drew)); exact HO202.out)) (by decide) hg)
                                    have n4_ := Aside0.mk (hb)
                                    have n5_ := Aside0.mk (ho)
                                    clear HO_12
                                    clear HO_14
                                    clear HO196
                                    clear HO199
                                    clear HB
                                    clear HO202
                                    have HO_12 := n0_
                                    have HO_14 := n1_
                                    have HO196 := n2_
                                    have HO199 := n3_
                                    have HB := n4_
                                    have HO205 := n5_
                                    clear n0_ n1_ n2_ n3_ n4_ n5_
                                    clear ho hb hg hat
                                    refine hK.out _ _ ((own_string (P := Try.prog) Try.underlying23 Try.underlying5 Try.underlying9 (Kd.own_of_R HO_14.out))) (fun hHeld => ?_)
                                    clear hK K
                                    refine norm_ (a' := ?_) ?_ ?_
                                    rotate_left
                                    · show Act.put _ (some 99) _ = _
                                      simp only [Act.put, List.setIfInBounds_toArray, List.set_cons_zero, List.set_cons_succ, i64_w, i32_w]
                                      rfl
                                    refine one_ (i := 24) (N := some 101) #[true, true, true, true, true, true, true, true, true, true, true, true, true, true, true, true, true, true, true, true, true, true, true, true, true, false, false, false] rfl rfl (one_of HT_.out (by kernel_rfl)) (by decide) (fun K hK => ?_)
                                    refine Kd.R_append_rows_step (Kd.int .u64) (w0 := w) w.heap.size (by rfl) (.tmp 99) (.tmp 100) 44 39 (.int .u64 0) 8 rfl Try.underlying44 info39 rfl (by decide) (by omega) v204 y203 l3 _ _ _ (fun k_ => some k_ ≠ (.slice Ao43 t193.length co43 : Value).ownBlock) (fun _ => False) rfl rfl ?aO ?aR (fun _ _ h => h) (fun _ h => h.elim) ?aF ?aB ?aS ?aL ?_
                                    (case aR => repeat (first | exact (Kd.C_below HR3.out HB.out) | (with_reducible refine Kd.C_alloc ?_ _) | (with_reducible refine Kd.C_drewN ?_ _) | (with_reducible refine Kd.C_drew ?_)))
                                    (case aB => exact (by repeat (first | (with_reducible first | exact HB.out | apply below_alloc | apply pw_below_drewN | apply below_drew1) | exact HB.out)))
                                    (case aF => exact (fun k_ hk => Kd.fresh' (Kd.R_lt (by (with_reducible repeat (first | apply Kd.R_alloc | apply Kd.R_drewN | apply Kd.R_drew)); exact HO196.out)) k_ hk))
                                    (case aO => exact (by (with_reducible repeat (first | apply Kd.R_alloc | apply Kd.R_drewN | apply Kd.R_drew)); exact HO205.out))
                                    (case aS => exact (below_size (by repeat (first | (with_reducible first | exact HB.out | apply below_alloc | apply pw_below_drewN | apply below_drew1) | exact HB.out))))
                                    (case aL => have := LMc37.out; omega)
                                    intro v207 w51 ho hb hg hat
                                    rw [← Ny206.out] at ho
                                    have n0_ := Aside0.mk (Kd.R_over' (by (with_reducible repeat (first | apply Kd.R_alloc | apply Kd.R_drewN | apply Kd.R_drew)); exact HO_12.out) (Kd.R_typed (by (with_reducible repeat (first | apply Kd.R_alloc | apply Kd.R_drewN | apply Kd.R_drew)); exact HO205.out)) (by decide) hg)
                                    have n1_ := Aside0.mk (Kd.R_over' (by (with_reducible repeat (first | apply Kd.R_alloc | apply Kd.R_drewN | apply Kd.R_drew)); exact HO_14.out) (Kd.R_typed (by (with_reducible repeat (first | apply Kd.R_alloc | apply Kd.R_drewN | apply Kd.R_drew)); exact HO205.out)) (by decide) hg)
                                    have n2_ := Aside0.mk (Kd.R_after (ok := (fun _ => True)) (by (with_reducible repeat (first | apply Kd.R_alloc | apply Kd.R_drewN | apply Kd.R_drew)); exact HO196.out) hg hat)
                                    have n3_ := Aside0.mk (Kd.R_over' (by (with_reducible repeat (first | apply Kd.R_alloc | apply Kd.R_drewN | apply Kd.R_drew)); exact HO199.out) (Kd.R_typed (by (with_reducible repeat (first | apply Kd.R_alloc | apply Kd.R_drewN | apply Kd.R_drew)); exact HO205.out)) (by decide) hg)
                                    have n4_ := Aside0.mk (hb)
                                    have n5_ := Aside0.mk (ho)
                                    clear HO_12
                                    clear HO_14
                                    clear HO196
                                    clear HO199
                                    clear HB
                                    clear HO205
                                    have HO_12 := n0_
                                    have HO_14 := n1_
                                    have HO196 := n2_
                                    have HO199 := n3_
                                    have HB := n4_
                                    have HO208 := n5_
                                    clear n0_ n1_ n2_ n3_ n4_ n5_
                                    clear ho hb hg hat
                                    obtain ⟨Ao52, co52, eo52⟩ := Kd.R_slice HO208.out
                                    (first | subst eo52 | (injection eo52 with f1_ f2_ f3_; have f4_ := f1_.symm; have f5_ := f3_.symm; clear f1_ f2_ f3_; subst f4_; subst f5_))
                                    refine hK.out _ _ ((own_string (P := Try.prog) Try.underlying23 Try.underlying5 Try.underlying9 (Kd.own_of_R HO_14.out))) (fun hHeld => ?_)
                                    clear hK K
                                    refine norm_ (a' := ?_) ?_ ?_
                                    rotate_left
                                    · show Act.put _ (some 101) _ = _
                                      simp only [Act.put, List.setIfInBounds_toArray, List.set_cons_zero, List.set_cons_succ, i64_w, i32_w]
                                      rfl
                                    refine one_ (i := 25) (N := some 102) #[true, true, true, true, true, true, true, true, true, true, true, true, true, true, true, true, true, true, true, true, true, true, true, true, true, true, false, false] rfl rfl (one_of HT_.out (by kernel_rfl)) (by decide) (fun K hK => ?_)
                                    refine goes_ Try.func35 (by kernel_rfl) rfl #[.slice Ao43 t193.length co43, .slice Ao52 y206.length co52] (by rfl) rfl rfl (by (try simp only [List.map_toArray, List.map_cons, List.map_nil]); first | done | rfl | (simp only [List.length_drop, List.length_take]; rfl)) ?_
                                    with_reducible refine (waggonerref01_Same.calls _ _ t193 _ _ y206 t209 _ ?side1 ?side2 ?side3 ?side4 A38.out).mono ?_
                                    (case side1 => repeat (first | exact (Kd.R_reads' HO196.out).2.2 | (with_reducible refine Kd.C_alloc ?_ _) | (with_reducible refine Kd.C_drewN ?_ _) | (with_reducible refine Kd.C_drew ?_)))
                                    (case side2 => exact (Kd.R_reads' HO196.out).2.1)
                                    (case side3 => repeat (first | exact (Kd.R_reads' HO208.out).2.2 | (with_reducible refine Kd.C_alloc ?_ _) | (with_reducible refine Kd.C_drewN ?_ _) | (with_reducible refine Kd.C_drew ?_)))
                                    (case side4 => exact (Kd.R_reads' HO208.out).2.1)
                                    rintro e w' ⟨rfl, ⟨nd, rfl⟩⟩
                                    refine ⟨_, rfl, ?_⟩
                                    refine hK.out _ _ ((own_string (P := Try.prog) Try.underlying23 Try.underlying5 Try.underlying9 (Kd.own_of_R HO_14.out))) (fun hHeld => ?_)
                                    clear hK K
                                    refine norm_ (a' := ?_) ?_ ?_
                                    rotate_left
                                    · show Act.put _ (some 102) _ = _
                                      simp only [Act.put, List.setIfInBounds_toArray, List.set_cons_zero, List.set_cons_succ, i64_w, i32_w]
                                      rfl
                                    refine pure_ (i := 26) (N := some 103) (v := ?_) (a' := ?_) #[true, true, true, true, true, true, true, true, true, true, true, true, true, true, true, true, true, true, true, true, true, true, true, true, true, true, true, false] rfl rfl (any_of HT_.out (by kernel_rfl)) (fun _ _ _ h => h) (Or.inl ⟨by rfl, ?_⟩) ?_ ?_
                                    rotate_left
                                    · intro w'
                                      go_simp
                                      with_reducible rfl
                                    rotate_left
                                    · simp only [Act.put, List.setIfInBounds_toArray, List.set_cons_zero, List.set_cons_succ, i64_w, i32_w]
                                      rfl
                                    refine pure_ (i := 27) (N := some 8) (v := ?_) (a' := ?_) #[true, true, true, true, true, true, true, true, true, true, true, true, true, true, true, true, true, true, true, true, true, true, true, true, true, true, true, true] rfl rfl (any_of HT_.out (by kernel_rfl)) (fun _ _ _ h => h) (Or.inl ⟨by rfl, ?_⟩) ?_ ?_
                                    rotate_left
                                    · intro w'
                                      go_simp
                                      with_reducible rfl
                                    rotate_left
                                    · simp only [Act.put, List.setIfInBounds_toArray, List.set_cons_zero, List.set_cons_succ, i64_w, i32_w]
                                      rfl
                                    refine done_ (done_of HT_.out (by kernel_rfl)) ?_
                                    try go_wp2
                                    go_ret
                                    exact ⟨by first | rfl | (exact congrArg (fun z_ => Ending.returned (Value.bool z_)) HRT.out) | (rw [HRT.out]; done) | (simp [errW_none, errW_some] <;> rfl) | (simp [*, errW_none, errW_some] <;> rfl), by repeat (first | (with_reducible first | exact HB.out | apply below_alloc | apply pw_below_drewN | apply below_drew1) | exact HB.out)⟩
                                  · rw [if_neg c37] at H
                                    exact absurd H (by simp)
                                · rw [if_neg c36] at H
                                  exact absurd H (by simp)
                              · rw [if_neg c35] at H
                                first | exact absurd H (by simp; done) | skip
                            · rw [if_neg c34] at H
                              first | exact absurd H (by simp; done) | skip
                          · rw [if_neg c33] at H
                            exact absurd H (by simp)
                        · rw [if_neg c32] at H
                          first | exact absurd H (by simp; done) | skip
                      · replace c31 := Bool.eq_false_iff.mpr c31
                        subst c31
                        have H1 : (some false) = some true := by rw [if_neg (show ¬ (false = true) by decide)] at H; exact H
                        exact absurd H1 (by simp)
                    · rw [if_neg c29] at H
                      exact absurd H (by simp)
            · rw [if_neg c16] at H
              exact absurd H (by simp)
          · rw [if_neg c15] at H
            exact absurd H (by simp)
        · rw [if_neg c14] at H
          exact absurd H (by simp)

/-- THE ONE PURE STATEMENT of waggonerlaw01_LeForms: yours. -/
def waggonerlaw01_LeForms.Pure : Prop := ∀ (a0 : ByteArray) (l1 : List Int) (a2 : ByteArray) (l3 : List Int), a0.size ≤ 140737488351232 → l1.length ≤ maxLen → l1.length * 8 ≤ 140737488351232 → (∀ x ∈ l1, (Lit.int .u64 x).wf = true) → a2.size ≤ 140737488351232 → l3.length ≤ maxLen → l3.length * 8 ≤ 140737488351232 → (∀ x ∈ l3, (Lit.int .u64 x).wf = true) → ∃ k, waggonerlaw01_LeForms.f k a0 l1 a2 l3 = some true
theorem waggonerlaw01_LeForms.walk (P : waggonerlaw01_LeForms.Pure) (a0 : ByteArray) (a1 : Option Addr) (len1 cap1 : Nat) (z1 : List Int) (a2 : ByteArray) (a3 : Option Addr) (len3 cap3 : Nat) (z3 : List Int) (w : World) (w0 : a0.size ≤ 140737488351232) (w1 : (a1 = none ∧ len1 = 0 ∧ cap1 = 0 ∧ z1 = []) ∨ ∃ x, a1 = some x ∧ len1 ≤ cap1 ∧ cap1 ≤ maxLen ∧ z1.length = cap1 ∧ (∀ i, i < z1.length → w.cell? (x.add i) = some (.int .u64 (z1.getD i 0))) ∧ ∀ n ∈ z1, (Lit.int .u64 n).wf = true) (y1 : len1 * 8 ≤ 140737488351232) (w2 : a2.size ≤ 140737488351232) (w3 : (a3 = none ∧ len3 = 0 ∧ cap3 = 0 ∧ z3 = []) ∨ ∃ x, a3 = some x ∧ len3 ≤ cap3 ∧ cap3 ≤ maxLen ∧ z3.length = cap3 ∧ (∀ i, i < z3.length → w.cell? (x.add i) = some (.int .u64 (z3.getD i 0))) ∧ ∀ n ∈ z3, (Lit.int .u64 n).wf = true) (y3 : len3 * 8 ≤ 140737488351232) :
    Calls Try.prog 13 #[.string a0, .slice a1 len1 cap1, .string a2, .slice a3 len3 cap3] w fun e w' => e = .returned (.bool true) ∧ Below w.heap.size w w' := by
  obtain ⟨l1, rfl, hr1, hm1, hw1, hc1⟩ := ReadsInt.ofRowC w1
  obtain ⟨l3, rfl, hr3, hm3, hw3, hc3⟩ := ReadsInt.ofRowC w3
  obtain ⟨k, h⟩ := P a0 l1 a2 l3 w0 hm1 y1 hw1 w2 hm3 y3 hw3
  refine (waggonerlaw01_LeForms.calls k a0 _ _ l1 a2 _ _ l3 true rfl w (Kd.C_of_reads (d := (0 : Int)) (h1 := fun _ => rfl) hr1) hc1 (Kd.C_of_reads (d := (0 : Int)) (h1 := fun _ => rfl) hr3) hc3 h).mono ?_
  rintro e w' ⟨rfl, hd⟩
  exact ⟨rfl, hd⟩

end Go.Proofs.Ytiaoehjldbnpkaa.PB
