/- Words and walks that this claim names, of those that the kit's print and programs of this workplace have printed. -/
import Derived.Test.YtohkmmbmfhficaaZTCz
import Derived.Test.YtohkmmbmfhficaaZTPTx5
import Derived.Test.YtohkmmbmfhficaaZTPTx45
import Derived.Test.YtohkmmbmfhficaaZTPTx47
import Derived.Test.YtohkmmbmfhficaaZTPTx48
import Derived.Test.YtohkmmbmfhficaaZTPTx13
import Derived.Test.YtohkmmbmfhficaaZTPTx38
import Derived.Test.YtohkmmbmfhficaaZTPTx36
namespace Go.Proofs.Ytohkmmbmfhficaa.PT
open Go.Proofs.Ytohkmmbmfhficaa Go.RowKit Go.Proofs.YtohkmmbmfhficaaW.PrintWords Go.Proofs.YtohkmmbmfhficaaW.PrintLast Go.Proofs.YtohkmmbmfhficaaW.PrintMore
attribute [local go_sem] max2_int min2_int max_two min_two max_three min_three max_four min_four
set_option linter.unusedVariables false
set_option linter.unusedSimpArgs false
def stream_Check.f (a0_0 a0_1 a0_2 : Int) (l0_3 : List S36) : Option Bool := some (Pl.stOk a0_0 a0_1 a0_2 (l0_3.map toE))
def stEnd : Option Pl.Ext → Int
 | none => 0
 | some w => w.1 + w.2.1
theorem stream_Check.loop {l : List S36} {B P T : Int} (hB : 1 ≤ B ∧ B ≤ 64) (h64 : l.length ≤ 64) : ∀ (m k i : Nat) (p : Option Pl.Ext), l.length - i = m → i ≤ l.length → 2 * m + 2 ≤ k → 0 ≤ stEnd p → stEnd p ≤ 64 → (i = 0 ∧ p = none ∨ ∃ h : i - 1 < l.length, 0 < i ∧ p = some (toE l[i - 1])) →
  stream_Check_p.l0 k (stEnd p) l (l.length : Int) (i : Int) B P T l = some (Pl.stGo B p ((l.drop i).map toE))
 | 0, k, i, p, hm, hi, hk, h0, h1, hp => by
  obtain ⟨k, rfl⟩ : ∃ m, k = m + 1 := ⟨k - 1, by omega⟩
  simp only [stream_Check_p.l0]
  rw [if_neg (by omega), List.drop_of_length_le (by omega), List.map_nil, Pl.stGo_nil]
  rcases p with _ | w
  ·rw [show stEnd none = 0 from rfl, decide_eq_true (by omega)]
  rfl
 | m + 1, k, i, p, hm, hi, hk, h0, h1, hp => by
  obtain ⟨k, rfl⟩ : ∃ m, k = m + 1 + 1 := ⟨k - 2, by omega⟩
  have hi0 : i < l.length := by omega
  have q1 : wrap64 ((i : Int) + 1) = ((i + 1 : Nat) : Int) := by unfold wrap64; omega
  have bad : stream_Check_p.j2 (k + 1) l (l.length : Int) (i : Int) true B P T l l[i].f0 l[i].f1 l[i].f2 l[i].f3 l[i].f4 = some false := by
   simp only [stream_Check_p.j2]
   rw [if_pos trivial]
  simp only [stream_Check_p.l0]
  rw [if_pos (by omega), if_pos (by omega), if_pos (by omega), rd_getE l i hi0, extent_Check.tells, Option.bind_some, List.drop_eq_getElem_cons hi0, List.map_cons, Pl.stGo_cons]
  by_cases hok : Pl.extOk l[i].f0 l[i].f1 l[i].f2 l[i].f3 l[i].f4 = true
  rotate_left
  ·rw [if_neg hok, bad, Pl.stOne, show Pl.eOk (toE l[i]) = false from Bool.eq_false_iff.2 hok, Bool.false_and, Bool.false_and]
  have q := Pl.extOk_iff.1 hok
  rw [if_pos hok, Pl.stOne, show Pl.eOk (toE l[i]) = true from hok, Bool.true_and]
  by_cases hg : l[i].f3 = 0
  rotate_left
  ·rw [if_neg hg, bad, decide_eq_false (show ¬ (toE l[i]).2.2.2.1 = 0 from hg), Bool.false_and, Bool.false_and]
  rw [if_pos hg, decide_eq_true (show (toE l[i]).2.2.2.1 = 0 from hg), Bool.true_and]
  have q2 : wrap64 (l[i].f0 + l[i].f1) = stEnd (some (toE l[i])) := by show _ = l[i].f0 + l[i].f1; unfold wrap64; omega
  have next : ∀ b : Bool, Pl.behind p (toE l[i]) = !b → stream_Check_p.j2 (k + 1) l (l.length : Int) (i : Int) b B P T l l[i].f0 l[i].f1 l[i].f2 l[i].f3 l[i].f4 = some ((Pl.behind p (toE l[i]) && !Pl.zerS (toE l[i]).2.2.2.2) && Pl.stGo B (some (toE l[i])) ((l.drop (i + 1)).map toE)) := by
   intro b hb
   simp only [stream_Check_p.j2]
   rw [hb]
   cases b with
   | true => rw [if_pos rfl]; rfl
   | false =>
    rw [if_neg (by decide), stream_Zeros.f, Option.bind_some, show (toE l[i]).2.2.2.2 = l[i].f4 from rfl]
    by_cases hz : Pl.zerS l[i].f4 = true
    ·rw [if_pos hz, hz]; rfl
    rw [if_neg hz, (Bool.eq_false_iff.2 hz : Pl.zerS l[i].f4 = false), q1, q2, stream_Check.loop hB h64 m k (i + 1) (some (toE l[i])) (by omega) (by omega) (by omega) (by show 0 ≤ l[i].f0 + l[i].f1; omega) (by show l[i].f0 + l[i].f1 ≤ 64; omega) (.inr ⟨by rw [Nat.add_sub_cancel]; exact hi0, Nat.succ_pos _, rfl⟩)]
    rfl
  by_cases hlt : l[i].f0 < stEnd p
  ·rw [if_pos hlt, next true]
   rcases p with _ | w
   ·exact absurd hlt (by show ¬ l[i].f0 < 0; omega)
   rw [Pl.behind, decide_eq_false (show ¬ w.1 + w.2.1 ≤ (toE l[i]).1 by show ¬ stEnd (some w) ≤ l[i].f0; omega)]; rfl
  rw [if_neg hlt]
  rcases hp with ⟨rfl, rfl⟩ | ⟨hj, hpos, rfl⟩
  ·rw [if_neg (by omega), next false]
   rw [Pl.behind, decide_eq_true (show (0 : Int) ≤ (toE l[0]).1 by show (0 : Int) ≤ l[0].f0; omega)]; rfl
  have q3 : wrap64 ((i : Int) - 1) = ((i - 1 : Nat) : Int) := by unfold wrap64; omega
  rw [if_pos (by omega), q3, if_pos (by omega), if_pos (by omega), rd_getE l (i - 1) hj, extent_Joins.f, Option.bind_some, next]
  rw [Pl.behind, decide_eq_true (show (toE l[i - 1]).1 + (toE l[i - 1]).2.1 ≤ (toE l[i]).1 by show stEnd (some (toE l[i - 1])) ≤ l[i].f0; omega), Bool.true_and]
  rfl
theorem stream_Check.closes {a0_0 a0_1 a0_2 : Int} {l0_3 : List S36} {r : Bool} (h : stream_Check.f a0_0 a0_1 a0_2 l0_3 = some r) : stream_Check_p.f (2 * l0_3.length + 5) a0_0 a0_1 a0_2 l0_3 = some r := by
 rw [← h]
 unfold stream_Check_p.f stream_Check.f
 have bad : ∀ b : Bool, stream_Check_p.j0 (2 * l0_3.length + 5) true a0_0 a0_1 a0_2 l0_3 = some false := fun _ => by
  simp only [stream_Check_p.j0]
  rw [if_pos trivial]
 rw [Pl.stOk, List.length_map]
 by_cases c : 1 ≤ a0_0 ∧ a0_0 ≤ 64 ∧ 1 ≤ a0_2 ∧ a0_2 ≤ 2147483647 ∧ 0 ≤ a0_1 ∧ a0_1 < a0_2 ∧ l0_3.length ≤ 64
 ·rw [decide_eq_true c, Bool.true_and, if_neg (by omega), if_neg (by omega), if_neg (by omega), if_neg (by omega), if_neg (by omega), if_neg (by omega), decide_eq_false (by omega)]
  simp only [stream_Check_p.j0]
  rw [if_neg (by decide)]
  exact stream_Check.loop ⟨c.1, c.2.1⟩ c.2.2.2.2.2.2 l0_3.length (2 * l0_3.length + 4) 0 none (Nat.sub_zero _) (Nat.zero_le _) (by omega) (by decide) (by decide) (.inl ⟨rfl, rfl⟩)
 rw [decide_eq_false c, Bool.false_and]
 by_cases c1 : a0_0 < 1
 ·rw [if_pos c1, bad true]
 rw [if_neg c1]
 by_cases c2 : a0_0 > 64
 ·rw [if_pos c2, bad true]
 rw [if_neg c2]
 by_cases c3 : a0_2 < 1
 ·rw [if_pos c3, bad true]
 rw [if_neg c3]
 by_cases c4 : a0_2 > 2147483647
 ·rw [if_pos c4, bad true]
 rw [if_neg c4]
 by_cases c5 : a0_1 < 0
 ·rw [if_pos c5, bad true]
 rw [if_neg c5]
 by_cases c6 : a0_1 ≥ a0_2
 ·rw [if_pos c6, bad true]
 rw [if_neg c6, decide_eq_true (show (l0_3.length : Int) > 64 by omega), bad true]
theorem stream_Check.calls (a0_0 : Int) (a0_1 : Int) (a0_2 : Int) (A0_3 : Option Addr) (c0_3 : Nat) (l0_3 : List (S36)) (r : Bool) (w : World) (hr0_3 : Kd.C k36 w A0_3 l0_3.length l0_3) (hc0_3 : l0_3.length ≤ c0_3) (h : stream_Check.f a0_0 a0_1 a0_2 l0_3 = some r) :
  Calls Try.prog 31 #[.agg #[.int .i64 a0_0, .int .i64 a0_1, .int .i64 a0_2, .slice A0_3 l0_3.length c0_3]] w fun e w' => e = .returned (.bool r) ∧ Below w.heap.size w w' :=
 stream_Check_p.calls (2 * l0_3.length + 5) a0_0 a0_1 a0_2 A0_3 c0_3 l0_3 r w hr0_3 hc0_3 (stream_Check.closes h)
set_option maxHeartbeats 400000 in
set_option maxRecDepth 2000000 in
theorem stream_frames.calls (B P T : Int) (v : Value) (w : World) (hv : v.oneCell' = true) : Calls Try.prog 34 #[.agg #[.int .i64 B, .int .i64 P, .int .i64 T, v]] w fun e w' => ∃ g, e = .returned (.func (.func 61) #[] #[.pointer (some ⟨g, 0, none⟩)]) ∧ w.heap.size ≤ g ∧ w'.heap[g]? = some (.cells #[.int .i64 B, .int .i64 P, .int .i64 T, v] 24 (0, 0)) ∧ Below w.heap.size w w' := by
 have HB := Aside0.mk (Below.refl w.heap.size w)
 go_enter Try.func34, Try.ntmps34
 go_wp2_with (first | ((with_reducible refine gate_dst (N := 1) rfl ?_); refine Cz.bx (N := 1) #[.int .i64 B, .int .i64 P, .int .i64 T, v] 24 ?_; intro gx hg w1 hbox hb; have BK := Aside0.mk hbox; have GE := Aside0.mk (show w.heap.size ≤ gx by rw [hg]; exact Nat.le_refl _); have n1 := Aside0.mk (below_step HB.out hb); clear HB hg hbox hb; have HB := n1; clear n1))
 go_ret
 exact ⟨_, rfl, GE.out, BK.out, HB.out⟩
attribute [local go_sem] Oper.semAt_some
abbrev wrAssign : Code := (Go.Code.region 6 #[{ dst := some 6, op := Go.Op.alloc 38, type := 0, pos := "stream.go:69", after := #[], guard := none }, { dst := none, op := Go.Op.store 38 (Go.Operand.tmp 6) (Go.Operand.tmp 13), type := 0, pos := "stream.go:69", after := #[{ on := 0, ground := Go.Ground.data }, { on := 0, ground := Go.Ground.phase }], guard := none }] false)
abbrev wrBody : Code := (Go.Code.block 1 (Go.Code.region 7 #[{ dst := some 14, op := Go.Op.load 55 (Go.Operand.tmp 5), type := 55, pos := "stream.go:70", after := #[], guard := none }, { dst := some 15, op := Go.Op.load 38 (Go.Operand.tmp 6), type := 38, pos := "stream.go:70", after := #[], guard := none }, { dst := some 16, op := Go.Op.call { callee := Go.Callee.value (Go.Operand.tmp 14), args := #[Go.Operand.tmp 15], argTypes := #[38] }, type := 0, pos := "stream.go:70", after := #[{ on := 0, ground := Go.Ground.data }, { on := 1, ground := Go.Ground.data }], guard := none }] false))
def wrRec (fn D : Nat) (tmps : Array Value) (st : LoopState) (pe : Option Code) : Loop := { state := st, pending := pe, fn, tmps, params := #[13], assign := wrAssign, body := wrBody, defers := D }
def wrJ (go ge gm gp gs l D b0 fn : Nat) (tmps : Array Value) (pre : List Pl.Frm) (W : World) : Prop :=
 ∃ vo, W.heap[go]? = some (.cells #[vo] 27 (0, 0)) ∧ W.heap[ge]? = some (.cells #[.int .i64 0] 28 (0, 0)) ∧ W.heap[gm]? = some (.cells #[.int .i64 (pre.length : Int)] 3 (0, 0)) ∧ W.heap[gp]? = some (.cells #[.func (.func 33) #[] #[.pointer (some ⟨go, 0, none⟩), .pointer (some ⟨ge, 0, none⟩), .pointer (some ⟨gm, 0, none⟩)]] 55 (0, 0)) ∧
  (∃ cs, W.heap[gs]? = some (.cells cs 24 (0, 0))) ∧ Kd.R (Kd.int .u8) 5 W b0 (fun _ => True) vo (Pl.fsB pre) ∧ W.heap[l]? = some (.loop (wrRec fn D tmps .ready none)) ∧ W.heap[D]? = some (.deferred (some []))
theorem ne_t36 {cs : Array Value} {t : TypeId} {m : Nat × Nat} (h : t ≠ 36) : ∀ cs', Obj.cells cs t m ≠ .cells cs' 36 (0, 0) := fun cs' e => by
 injection e with _ e2
 exact h e2
theorem wrJ.kept {go ge gm gp gs l D b0 fn : Nat} {tmps : Array Value} {pre : List Pl.Frm} {W W' : World} (h : wrJ go ge gm gp gs l D b0 fn tmps pre W) (hk : itKeeps W W') : wrJ go ge gm gp gs l D b0 fn tmps pre W' := by
 obtain ⟨vo, h1, h2, h3, h4, ⟨cs, h5⟩, h6, h7, h8⟩ := h
 refine ⟨vo, hk.2 _ _ h1 (ne_t36 (by decide)), hk.2 _ _ h2 (ne_t36 (by decide)), hk.2 _ _ h3 (ne_t36 (by decide)), hk.2 _ _ h4 (ne_t36 (by decide)), ⟨cs, hk.2 _ _ h5 (ne_t36 (by decide))⟩, ?_, hk.2 _ _ h7 (fun _ e => by cases e), hk.2 _ _ h8 (fun _ e => by cases e)⟩
 refine Kd.R_mono (Kd.R_move (Kd.R_bound h6) (fun k hq => ?_)) (fun _ _ => trivial)
 obtain ⟨_, _, _, q, hq1, cells, hc⟩ := hq
 rw [hc]
 exact hk.2 k _ hc (ne_t36 (by rintro rfl; exact absurd hq1 (by decide)))
theorem putObj_keeps {w : World} {b0 l : Nat} {o : Obj} (o' : Obj) (hw : w.heap[l]? = some o) (h : b0 ≤ l) : Below b0 w (w.putObj l o') := (Below.refl b0 w).grown (grownBy_putObj' w l o') (by have := (Array.getElem?_eq_some_iff.1 hw).1; omega) (fun k e => by cases e; omega)
theorem cell_putObj {w : World} {l : Nat} {o o' : Obj} (hw : w.heap[l]? = some o) (hn : ∀ cs t m, o ≠ .cells cs t m) {a : Addr} {v : Value} (h : w.cell? a = some v) : (w.putObj l o').cell? a = some v := by
 have hne : a.block ≠ l := by
  intro e
  unfold World.cell? at h
  rw [e, hw] at h
  cases o <;> first | (exact absurd rfl (hn _ _ _)) | (simp at h)
 unfold World.cell? at h ⊢
 rw [World.putObj_heap_other hne]
 exact h
theorem C_putObj8 {w : World} {l n : Nat} {o o' : Obj} {A : Option Addr} {xs : List Int} (h : Kd.C (Kd.int .u8) w A n xs) (hw : w.heap[l]? = some o) (hn : ∀ cs t m, o ≠ .cells cs t m) : Kd.C (Kd.int .u8) (w.putObj l o') A n xs := by
 refine ⟨h.1, h.2.1, fun hp => ?_⟩
 obtain ⟨ad, e, hc⟩ := h.2.2 hp
 refine ⟨ad, e, fun j p hj => ?_⟩
 obtain ⟨c, hl, hk, hat⟩ := hc j p hj
 exact ⟨c, hl, hk, fun i u hu => cell_putObj hw hn (hat i u hu)⟩
set_option maxHeartbeats 2000000 in
set_option maxRecDepth 2000000 in
theorem stream_Write.round (go ge gm gp gs l D b0 fn : Nat) (u0 u1 u2 u3 u4 u6 u7 u8 u9 u10 u11 u12 u13 u14 u15 u16 u17 u18 u19 u20 u21 u22 u23 u24 u25 u26 : Value) (B P T : Int) (L : List Pl.Ext) (hok : Pl.stOk B P T L = true) (hby : ∀ x ∈ L, Pl.byteB x.2.2.2.2 = true) (b1 : b0 ≤ go) (b2 : b0 ≤ ge) (b3 : b0 ≤ gm) (b4 : b0 ≤ l)
  (pre : List Pl.Frm) (x : Pl.Frm) (A : Option Addr) (c : Nat) (W : World) (hJ : wrJ go ge gm gp gs l D b0 fn #[u0, u1, u2, u3, u4, .pointer (some ⟨gp, 0, none⟩), u6, u7, u8, u9, u10, u11, u12, u13, u14, u15, u16, u17, u18, u19, u20, u21, u22, u23, u24, u25, u26] pre W) (hrest : ∃ rest, Pl.stF B P T L = pre ++ x :: rest) (hC : Kd.C (Kd.int .u8) W A x.2.2.2.1.length x.2.2.2.1) (hc : x.2.2.2.1.length ≤ c) :
  YieldAt Fence.wide 2 Try.prog l #[frV x (.slice A x.2.2.2.1.length c)] W fun e W' => e = .returned (.bool true) ∧ wrJ go ge gm gp gs l D b0 fn #[u0, u1, u2, u3, u4, .pointer (some ⟨gp, 0, none⟩), u6, u7, u8, u9, u10, u11, u12, u13, u14, u15, u16, u17, u18, u19, u20, u21, u22, u23, u24, u25, u26] (pre ++ [x]) W' ∧ rdKeeps gs b0 W W' := by
 obtain ⟨vo, h1, h2, h3, h4, ⟨cs, h5⟩, h6, h7, h8⟩ := hJ
 refine ⟨fn, _, wrAssign, wrBody, run_yield h7 rfl, roundIn_of_wpIn trivial ?_⟩
 simp only [wrRec, frV, wrAssign, List.zip_toArray, List.zip_cons_cons, List.zip_nil_right, List.size_toArray, List.foldl_toArray, List.foldl_toArray', List.foldl_cons, List.foldl_nil, Kx.sb, Kx.sz, Kx.ss]
 gi_wp2
 have hsz : b0 ≤ W.heap.size := Nat.le_of_lt (Nat.lt_of_le_of_lt b1 (blk_lt h1))
 obtain ⟨gq, hgq⟩ : ∃ g, g = W.heap.size := ⟨_, rfl⟩
 have hb1 := below_alloc (Below.refl W.heap.size W) (.cells #[.int .i64 x.1, .int .i64 x.2.1, .int .i64 x.2.2.1, .slice A x.2.2.2.1.length c, .int .i64 x.2.2.2.2.1, .int .i64 x.2.2.2.2.2.1, .int .i64 x.2.2.2.2.2.2] 38)
 have hq := blk_new W (.cells #[.int .i64 x.1, .int .i64 x.2.1, .int .i64 x.2.2.1, .slice A x.2.2.2.1.length c, .int .i64 x.2.2.2.2.1, .int .i64 x.2.2.2.2.2.1, .int .i64 x.2.2.2.2.2.2] 38)
 rw [← hgq] at hq ⊢
 clear hgq
 generalize W.alloc (.cells #[.int .i64 x.1, .int .i64 x.2.1, .int .i64 x.2.2.1, .slice A x.2.2.2.1.length c, .int .i64 x.2.2.2.2.1, .int .i64 x.2.2.2.2.2.1, .int .i64 x.2.2.2.2.2.2] 38) = W1 at hb1 hq ⊢
 have np : ∀ k o, W.heap[k]? = some o → (∀ cs t m, o = .cells cs t m → t ≠ 27 ∧ t ≠ 28 ∧ t ≠ 3 ∧ t ≠ 5) → ¬ stPut go ge gm vo k := by
  intro k o hk ho hp
  rcases hp with rfl | rfl | rfl | he
  ·rw [h1] at hk; injection hk with hk; exact (ho _ _ _ hk.symm).1 rfl
  ·rw [h2] at hk; injection hk with hk; exact (ho _ _ _ hk.symm).2.1 rfl
  ·rw [h3] at hk; injection hk with hk; exact (ho _ _ _ hk.symm).2.2.1 rfl
  ·obtain ⟨cells, hc2⟩ := Kd.R_typed h6 k he.symm
   rw [hc2] at hk; injection hk with hk; exact (ho _ _ _ hk.symm).2.2.2 rfl
 have h7a : W1.heap[l]? = some (.loop (wrRec fn D #[u0, u1, u2, u3, u4, .pointer (some ⟨gp, 0, none⟩), u6, u7, u8, u9, u10, u11, u12, u13, u14, u15, u16, u17, u18, u19, u20, u21, u22, u23, u24, u25, u26] .ready none)) := blk_below h7 hb1
 have ol : ∀ {k : Nat} {o : Obj} {w : World} {r : Loop}, w.heap[k]? = some o → w.heap[l]? = some (.loop r) → (∀ r, o ≠ .loop r) → k ≠ l := by
  intro k o w r hk hl ho e
  rw [e, hl] at hk
  injection hk with hk
  exact ho r hk.symm
 have nc : ∀ {cs : Array Value} {t : TypeId} {m : Nat × Nat}, ∀ r, Obj.cells cs t m ≠ .loop r := fun r e => by cases e
 refine ⟨_, run_beginRound h7a rfl, ?_⟩
 have a1 := (World.putObj_heap_other (w := W1) (o := .loop { wrRec fn D #[u0, u1, u2, u3, u4, .pointer (some ⟨gp, 0, none⟩), u6, u7, u8, u9, u10, u11, u12, u13, u14, u15, u16, u17, u18, u19, u20, u21, u22, u23, u24, u25, u26] .ready none with state := .busy }) (ol (blk_below h1 hb1) h7a nc)).trans (blk_below h1 hb1)
 have a2 := (World.putObj_heap_other (w := W1) (o := .loop { wrRec fn D #[u0, u1, u2, u3, u4, .pointer (some ⟨gp, 0, none⟩), u6, u7, u8, u9, u10, u11, u12, u13, u14, u15, u16, u17, u18, u19, u20, u21, u22, u23, u24, u25, u26] .ready none with state := .busy }) (ol (blk_below h2 hb1) h7a nc)).trans (blk_below h2 hb1)
 have a3 := (World.putObj_heap_other (w := W1) (o := .loop { wrRec fn D #[u0, u1, u2, u3, u4, .pointer (some ⟨gp, 0, none⟩), u6, u7, u8, u9, u10, u11, u12, u13, u14, u15, u16, u17, u18, u19, u20, u21, u22, u23, u24, u25, u26] .ready none with state := .busy }) (ol (blk_below h3 hb1) h7a nc)).trans (blk_below h3 hb1)
 have a4 := (World.putObj_heap_other (w := W1) (o := .loop { wrRec fn D #[u0, u1, u2, u3, u4, .pointer (some ⟨gp, 0, none⟩), u6, u7, u8, u9, u10, u11, u12, u13, u14, u15, u16, u17, u18, u19, u20, u21, u22, u23, u24, u25, u26] .ready none with state := .busy }) (ol (blk_below h4 hb1) h7a nc)).trans (blk_below h4 hb1)
 have a5 := (World.putObj_heap_other (w := W1) (o := .loop { wrRec fn D #[u0, u1, u2, u3, u4, .pointer (some ⟨gp, 0, none⟩), u6, u7, u8, u9, u10, u11, u12, u13, u14, u15, u16, u17, u18, u19, u20, u21, u22, u23, u24, u25, u26] .ready none with state := .busy }) (ol hq h7a nc)).trans hq
 have a6 : (W1.putObj l (.loop { wrRec fn D #[u0, u1, u2, u3, u4, .pointer (some ⟨gp, 0, none⟩), u6, u7, u8, u9, u10, u11, u12, u13, u14, u15, u16, u17, u18, u19, u20, u21, u22, u23, u24, u25, u26] .ready none with state := .busy })).heap[l]? = some (.loop { wrRec fn D #[u0, u1, u2, u3, u4, .pointer (some ⟨gp, 0, none⟩), u6, u7, u8, u9, u10, u11, u12, u13, u14, u15, u16, u17, u18, u19, u20, u21, u22, u23, u24, u25, u26] .ready none with state := .busy }) := World.putObj_heap_same (blk_lt h7a)
 have a7 : ∀ k o, W.heap[k]? = some o → k ≠ l → (W1.putObj l (.loop { wrRec fn D #[u0, u1, u2, u3, u4, .pointer (some ⟨gp, 0, none⟩), u6, u7, u8, u9, u10, u11, u12, u13, u14, u15, u16, u17, u18, u19, u20, u21, u22, u23, u24, u25, u26] .ready none with state := .busy })).heap[k]? = some o := fun k o hk hn => (World.putObj_heap_other hn).trans (blk_below hk hb1)
 have a8 : Below b0 W (W1.putObj l (.loop { wrRec fn D #[u0, u1, u2, u3, u4, .pointer (some ⟨gp, 0, none⟩), u6, u7, u8, u9, u10, u11, u12, u13, u14, u15, u16, u17, u18, u19, u20, u21, u22, u23, u24, u25, u26] .ready none with state := .busy })) := (hb1.mono hsz).trans (putObj_keeps _ h7a b4)
 have aR : Kd.R (Kd.int .u8) 5 (W1.putObj l (.loop { wrRec fn D #[u0, u1, u2, u3, u4, .pointer (some ⟨gp, 0, none⟩), u6, u7, u8, u9, u10, u11, u12, u13, u14, u15, u16, u17, u18, u19, u20, u21, u22, u23, u24, u25, u26] .ready none with state := .busy })) b0 (fun _ => True) vo (Pl.fsB pre) := Kd.R_mono (Kd.R_move (Kd.R_bound h6) (fun k hk => by
  obtain ⟨_, _, _, q, _, cells, hc2⟩ := hk
  rw [hc2]
  exact a7 k _ hc2 (ol hc2 h7 nc))) (fun _ _ => trivial)
 have aC : Kd.C (Kd.int .u8) (W1.putObj l (.loop { wrRec fn D #[u0, u1, u2, u3, u4, .pointer (some ⟨gp, 0, none⟩), u6, u7, u8, u9, u10, u11, u12, u13, u14, u15, u16, u17, u18, u19, u20, u21, u22, u23, u24, u25, u26] .ready none with state := .busy })) A x.2.2.2.1.length x.2.2.2.1 := by
  have hc1 := Kd.C_below hC hb1
  exact C_putObj8 hc1 h7a (fun _ _ _ e => by cases e)
 generalize (W1.putObj l (.loop { wrRec fn D #[u0, u1, u2, u3, u4, .pointer (some ⟨gp, 0, none⟩), u6, u7, u8, u9, u10, u11, u12, u13, u14, u15, u16, u17, u18, u19, u20, u21, u22, u23, u24, u25, u26] .ready none with state := .busy })) = W2 at a1 a2 a3 a4 a5 a6 a7 a8 aR aC ⊢
 obtain ⟨rest, hrest⟩ := hrest
 have hin : x ∈ Pl.stF B P T L := by rw [hrest]; simp
 have hfr := (Pl.stF_ok hok x hin).1
 have hfb : Pl.byteB x.2.2.2.1 = true := by
  have hin2 := hin
  unfold Pl.stF at hin2
  rcases List.mem_cons.1 hin2 with rfl | hx
  ·rfl
  exact Pl.exsF_byte hby x hx
 have hwr : frame_Write.f x.1 x.2.1 x.2.2.1 x.2.2.2.1 x.2.2.2.2.1 x.2.2.2.2.2.1 x.2.2.2.2.2.2 = some (Pl.frWT x, 0) := by
  rw [frame_Write.tells hfb, Pl.fwriteS, if_pos (show Pl.frOk x.1 x.2.1 x.2.2.1 x.2.2.2.1 x.2.2.2.2.1 x.2.2.2.2.2.1 x.2.2.2.2.2.2 = true from hfr)]
  rfl
 have hlen : (Pl.fsB pre).length + (Pl.frWT x).length ≤ 4000 ∧ pre.length + 1 ≤ 65 := by
  have q1 := (Pl.stW_length hok).2
  have q2 := (Pl.stF_length hok).2
  rw [Pl.stW, List.length_append] at q1
  rw [hrest] at q1 q2
  rw [show pre ++ x :: rest = (pre ++ [x]) ++ rest by simp, Pl.fsB_append, Pl.fsB_snoc] at q1
  simp only [List.length_append, List.length_cons] at q1 q2
  omega
 have h4' := h4
 have h7' := h7
 have h8' := h8
 clear h1 h2 h3 h4 h6 h7 h8 hb1 hq hC h7a
 have hcp : W2.cell? ⟨gp, 0, none⟩ = some (.func (.func 33) #[] #[.pointer (some ⟨go, 0, none⟩), .pointer (some ⟨ge, 0, none⟩), .pointer (some ⟨gm, 0, none⟩)]) := (blk_cell a4 0).trans rfl
 have hcq0 : W2.cell? ⟨gq, 0, none⟩ = some (.int .i64 x.1) := (blk_cell a5 0).trans rfl
 have hcq1 : W2.cell? ⟨gq, 1, none⟩ = some (.int .i64 x.2.1) := (blk_cell a5 1).trans rfl
 have hcq2 : W2.cell? ⟨gq, 2, none⟩ = some (.int .i64 x.2.2.1) := (blk_cell a5 2).trans rfl
 have hcq3 : W2.cell? ⟨gq, 3, none⟩ = some (.slice A x.2.2.2.1.length c) := (blk_cell a5 3).trans rfl
 have hcq4 : W2.cell? ⟨gq, 4, none⟩ = some (.int .i64 x.2.2.2.2.1) := (blk_cell a5 4).trans rfl
 have hcq5 : W2.cell? ⟨gq, 5, none⟩ = some (.int .i64 x.2.2.2.2.2.1) := (blk_cell a5 5).trans rfl
 have hcq6 : W2.cell? ⟨gq, 6, none⟩ = some (.int .i64 x.2.2.2.2.2.2) := (blk_cell a5 6).trans rfl
 have hfq0 := blk_frozen a5 0
 have hfq1 := blk_frozen a5 1
 have hfq2 := blk_frozen a5 2
 have hfq3 := blk_frozen a5 3
 have hfq4 := blk_frozen a5 4
 have hfq5 := blk_frozen a5 5
 have hfq6 := blk_frozen a5 6
 simp only [wrBody]
 gi_wp2
 refine ⟨trivial, ?_⟩
 refine (CallsIn.inRound l (callsIn_wide.2 (stream_Write_1.calls go ge gm b0 vo (Pl.fsB pre) (pre.length : Int) x.1 x.2.1 x.2.2.1 A c x.2.2.2.1 x.2.2.2.2.1 x.2.2.2.2.2.1 x.2.2.2.2.2.2 (Pl.frWT x) _ a1 a2 a3 b1 b2 b3 aR aC hc hwr (by omega)))).mono ?_
 rintro e W3 ⟨⟨u, rfl⟩, v1, g1, g2, g3, g4, hb3, hk3⟩
 have npl : ¬ stPut go ge gm vo l := by
  intro hp
  rcases hp with rfl | rfl | rfl | he
  ·rw [a1] at a6; cases a6
  ·rw [a2] at a6; cases a6
  ·rw [a3] at a6; cases a6
  ·obtain ⟨cells, hc2⟩ := Kd.R_typed aR l he.symm
   rw [hc2] at a6; cases a6
 have e6 : W3.heap[l]? = some (.loop { wrRec fn D #[u0, u1, u2, u3, u4, .pointer (some ⟨gp, 0, none⟩), u6, u7, u8, u9, u10, u11, u12, u13, u14, u15, u16, u17, u18, u19, u20, u21, u22, u23, u24, u25, u26] .ready none with state := .busy }) := (hk3.2 l (blk_lt a6) npl).trans a6
 have e7 : ∀ k o, W.heap[k]? = some o → k ≠ l → ¬ stPut go ge gm vo k → (W3.putObj l (.loop (wrRec fn D #[u0, u1, u2, u3, u4, .pointer (some ⟨gp, 0, none⟩), u6, u7, u8, u9, u10, u11, u12, u13, u14, u15, u16, u17, u18, u19, u20, u21, u22, u23, u24, u25, u26] .ready none))).heap[k]? = some o := fun k o hk hn hp => (World.putObj_heap_other hn).trans ((hk3.2 k (blk_lt (a7 k o hk hn)) hp).trans (a7 k o hk hn))
 clear hcp hcq0 hcq1 hcq2 hcq3 hcq4 hcq5 hcq6 hfq0 hfq1 hfq2 hfq3 hfq4 hfq5 hfq6 a1 a2 a3 a4 a5 aC aR
 gi_wp2
 refine ⟨_, _, run_endRound none e6, rfl, ?_, ?_⟩
 ·refine ⟨v1, (World.putObj_heap_other (ol g1 e6 nc)).trans g1, (World.putObj_heap_other (ol g2 e6 nc)).trans g2, ?_, e7 gp _ h4' (ol h4' h7' nc) (np gp _ h4' (fun cs t m e => by injection e with _ e; subst e; exact ⟨by decide, by decide, by decide, by decide⟩)), ⟨cs, e7 gs _ h5 (ol h5 h7' nc) (np gs _ h5 (fun cs t m e => by injection e with _ e; subst e; exact ⟨by decide, by decide, by decide, by decide⟩))⟩, ?_, World.putObj_heap_same (blk_lt e6), e7 D _ h8' (ol h8' h7' (fun r e => by cases e)) (np D _ h8' (fun cs t m e => by cases e))⟩
  ·refine (World.putObj_heap_other (ol g3 e6 nc)).trans ?_
   rw [g3, show wrap64 ((pre.length : Int) + 1) = (((pre ++ [x]).length : Nat) : Int) from by rw [List.length_append, List.length_singleton]; have := hlen.2; unfold wrap64; omega]
  ·rw [Pl.fsB_snoc]
   refine Kd.R_mono (Kd.R_move (Kd.R_bound g4) (fun k hk => ?_)) (fun _ _ => trivial)
   obtain ⟨_, _, _, q, _, cells, hc2⟩ := hk
   exact World.putObj_heap_other (ol hc2 e6 nc)
 ·refine ⟨(a8.trans hb3).trans (putObj_keeps _ e6 b4), fun k cs hk => e7 k _ hk (ol hk h7' nc) (np k _ hk (fun cs t m e => by injection e with _ e; subst e; exact ⟨by decide, by decide, by decide, by decide⟩)), ?_⟩
  rw [h5]
  exact e7 gs _ h5 (ol h5 h7' nc) (np gs _ h5 (fun cs t m e => by injection e with _ e; subst e; exact ⟨by decide, by decide, by decide, by decide⟩))
def onlyN (Q : Exit → Act → World → Prop) : Exit → Act → World → Prop
 | .normal, a, w => Q .normal a w
 | _, _, _ => False
theorem onlyN_of {Q : Exit → Act → World → Prop} : ∀ e a w, onlyN Q e a w → Q e a w := fun e a w h => by cases e <;> first | exact h | exact h.elim
theorem stGo_eok {B : Int} : ∀ {L : List Pl.Ext} {p : Option Pl.Ext}, Pl.stGo B p L = true → ∀ u ∈ L, Pl.eOk u = true
 | [], _, _, u, hu => absurd hu (by simp)
 | x :: l, p, h, u, hu => by
  rw [Pl.stGo_cons, Bool.and_eq_true] at h
  rcases List.mem_cons.1 hu with rfl | hu
  ·exact (Pl.stOne_iff.1 h.1).1
  exact stGo_eok h.2 u hu
theorem results_c2 {P : Program} {fn : Func} {p p' : Tmp} {ty ty' : TypeId} (h : fn.results = #[.cell p ty, .cell p' ty']) (tmps : Array Value) (w : World) (g g' : Nat) (v v' : Value) (hp : tmps.getD p undef = .pointer (some ⟨g, 0, none⟩)) (hp' : tmps.getD p' undef = .pointer (some ⟨g', 0, none⟩))
  (hc : w.cell? ⟨g, 0, none⟩ = some v) (hc' : w.cell? ⟨g', 0, none⟩ = some v') {e : TypeId} {k : IntKind} (hu : P.underlying ty = some (.slice e)) (hu' : P.underlying ty' = some (.int k)) :
  (results fn tmps).run P w = .ok (.tuple #[v, v']) w := by
 have o1 : (loadVar ty ⟨g, 0, none⟩).run P w = .ok v w := by simp [go_sem, isAgg, underlying, hu, hc]
 have o2 : (loadVar ty' ⟨g', 0, none⟩).run P w = .ok v' w := by simp [go_sem, isAgg, underlying, hu', hc']
 rw [Array.getD_eq_getD_getElem?] at hp hp'
 simp only [results, h]
 simp [Sem.run_bind, Result.andThen, hp, hp', asAddr, o1, o2]
set_option maxHeartbeats 4000000 in
set_option maxRecDepth 2000000 in
theorem stream_Write.no (B P T : Int) (A0 : Option Addr) (c0 : Nat) (L : List Pl.Ext) (w : World) (hr0 : Kd.C k36 w A0 L.length (L.map ofE)) (hc0 : L.length ≤ c0) (hok : Pl.stOk B P T L = false) :
  Calls Try.prog 15 #[.agg #[.int .i64 B, .int .i64 P, .int .i64 T, .slice A0 L.length c0]] w fun e w' => ∃ v0_ : Value, e = .returned (.tuple #[v0_, .int .i64 170]) ∧ Kd.R (Kd.int .u8) 5 w' w.heap.size (fun _ => True) v0_ ([]) ∧ Below w.heap.size w w' := by
 have HR0 := Aside0.mk hr0
 have HC0 := Aside0.mk hc0
 have HB := Aside0.mk (Below.refl w.heap.size w)
 have hck : ∀ (r : Bool) (w' : World), Below w.heap.size w w' → stream_Check.f B P T (L.map ofE) = some r → Calls Try.prog 31 #[.agg #[.int .i64 B, .int .i64 P, .int .i64 T, .slice A0 L.length c0]] w' fun e w2 => e = .returned (.bool r) ∧ Below w'.heap.size w' w2 := by
  intro r w' hb hf
  have := stream_Check.calls B P T A0 c0 (L.map ofE) r w' (by rw [List.length_map]; exact Kd.C_below HR0.out hb) (by rw [List.length_map]; exact HC0.out) hf
  rwa [List.length_map] at this
 have HCK := Aside0.mk hck
 clear hck
 have HK : Aside0 (stream_Check.f B P T (L.map ofE) = some false) := ⟨by unfold stream_Check.f; rw [map_toE_ofE, hok]⟩
 clear hr0 hc0
 refine callsIn_wide.1 (callsIn_of_wp_marks (n := 4) Try.func15 rfl trivial ?_)
 simp only [Try.ntmps15, List.size_toArray, List.length_cons, List.length_nil, Nat.reduceAdd, Nat.reduceSub, Array.replicate_succ, Array.replicate_zero, List.push_toArray, List.append_toArray, List.nil_append, List.cons_append]
 refine wpIn_wide.2 ?_
 go_wp2_with (first | ((with_reducible refine gate_dst (N := 1) rfl ?_); refine Cz.bx (N := 1) #[.int .i64 B, .int .i64 P, .int .i64 T, .slice A0 L.length c0] 24 ?_; intro g1 hg w1 hbox hb; have G1s := Aside0.mk (show w.heap.size ≤ g1 from Nat.le_trans HB.out.size (Nat.le_of_eq hg.symm)); clear hg; have m_HB := Aside0.mk (below_step HB.out hb); clear HB; have HB := m_HB; clear m_HB; have G1 := Aside0.mk hbox; clear hbox hb) | ((with_reducible refine gate_dst (N := 2) rfl ?_); refine Cz.bx (N := 2) #[.slice none 0 0] 27 ?_; intro go hg w2 hbox hb; have GOs := Aside0.mk (show w.heap.size ≤ go from Nat.le_trans HB.out.size (Nat.le_of_eq hg.symm)); clear hg; have m_G1 := Aside0.mk (blk_below G1.out hb); have m_HB := Aside0.mk (below_step HB.out hb); clear G1 HB; have G1 := m_G1; have HB := m_HB; clear m_G1 m_HB; have GO := Aside0.mk hbox; clear hbox hb) | ((with_reducible refine gate_dst (N := 3) rfl ?_); refine Cz.bx (N := 3) #[.int .i64 0] 28 ?_; intro ge hg w3 hbox hb; have GEs := Aside0.mk (show w.heap.size ≤ ge from Nat.le_trans HB.out.size (Nat.le_of_eq hg.symm)); clear hg; have m_G1 := Aside0.mk (blk_below G1.out hb); have m_GO := Aside0.mk (blk_below GO.out hb); have m_HB := Aside0.mk (below_step HB.out hb); clear G1 GO HB; have G1 := m_G1; have GO := m_GO; have HB := m_HB; clear m_G1 m_GO m_HB; have GE := Aside0.mk hbox; clear hbox hb; obtain ⟨hcs0, hcs1, hcs2, hcs3, hfs0, hfs1, hfs2, hfs3⟩ := Cz.d4 G1) | (go_at_call 31; refine (HCK.out false _ HB.out HK.out).mono ?_; rintro e' w4 ⟨rfl, hb⟩; have m_G1 := Aside0.mk (blk_below G1.out hb); have m_GO := Aside0.mk (blk_below GO.out hb); have m_GE := Aside0.mk (blk_below GE.out hb); have m_HB := Aside0.mk (below_step HB.out hb); clear G1 GO GE HB; have G1 := m_G1; have GO := m_GO; have GE := m_GE; have HB := m_HB; clear m_G1 m_GO m_GE m_HB; clear hb hcs0 hfs0 hcs1 hfs1 hcs2 hfs2 hcs3 hfs3; obtain ⟨hco0, hfo0⟩ := Cz.d1 GO; obtain ⟨hce0, hfe0⟩ := Cz.d1 GE; have hn1 := (blk_ne GO.out GE.out (by decide)); have hn2 := hn1.symm))
 exact ⟨_, results_c2 rfl _ _ go ge (.slice none 0 0) (.int .i64 170) rfl rfl ((blk_cell (blk_far (p := ⟨ge, 0, none⟩) (blk_put GO.out 0 _ rfl) (blk_ne GO.out GE.out (by decide)) _) 0).trans rfl) ((blk_cell (blk_put (blk_far (p := ⟨go, 0, none⟩) GE.out (blk_ne GE.out GO.out (by decide)) _) 0 _ rfl) 0).trans rfl) Try.underlying27 Try.underlying28, .slice none 0 0, rfl, Kd.R_nil _ _ _ _ _, (HB.out.setCell (p := ⟨go, 0, none⟩) GOs.out _).setCell (p := ⟨ge, 0, none⟩) GEs.out _⟩
set_option maxHeartbeats 4000000 in
set_option maxRecDepth 2000000 in
theorem stream_Write.yes (B P T : Int) (A0 : Option Addr) (c0 : Nat) (L : List Pl.Ext) (w : World) (hr0 : Kd.C k36 w A0 L.length (L.map ofE)) (hc0 : L.length ≤ c0) (hok : Pl.stOk B P T L = true) (hby : ∀ x ∈ L, Pl.byteB x.2.2.2.2 = true) :
  Calls Try.prog 15 #[.agg #[.int .i64 B, .int .i64 P, .int .i64 T, .slice A0 L.length c0]] w fun e w' => ∃ v0_ : Value, e = .returned (.tuple #[v0_, .int .i64 0]) ∧ Kd.R (Kd.int .u8) 5 w' w.heap.size (fun _ => True) v0_ (Pl.stW B P T L) ∧ Below w.heap.size w w' := by
 have HR0 := Aside0.mk hr0
 have HC0 := Aside0.mk hc0
 have HB := Aside0.mk (Below.refl w.heap.size w)
 have hck : ∀ (r : Bool) (w' : World), Below w.heap.size w w' → stream_Check.f B P T (L.map ofE) = some r → Calls Try.prog 31 #[.agg #[.int .i64 B, .int .i64 P, .int .i64 T, .slice A0 L.length c0]] w' fun e w2 => e = .returned (.bool r) ∧ Below w'.heap.size w' w2 := by
  intro r w' hb hf
  have := stream_Check.calls B P T A0 c0 (L.map ofE) r w' (by rw [List.length_map]; exact Kd.C_below HR0.out hb) (by rw [List.length_map]; exact HC0.out) hf
  rwa [List.length_map] at this
 have HCK := Aside0.mk hck
 clear hck
 have HK : Aside0 (stream_Check.f B P T (L.map ofE) = some true) := ⟨by unfold stream_Check.f; rw [map_toE_ofE, hok]⟩
 clear hr0 hc0
 refine callsIn_wide.1 (callsIn_of_wp_marks (n := 4) Try.func15 rfl trivial ?_)
 simp only [Try.ntmps15, List.size_toArray, List.length_cons, List.length_nil, Nat.reduceAdd, Nat.reduceSub, Array.replicate_succ, Array.replicate_zero, List.push_toArray, List.append_toArray, List.nil_append, List.cons_append]
 refine wpIn_wide.2 ?_
 have HOK := Aside0.mk hok
 have HBY := Aside0.mk hby
 clear hok hby
 go_upto_region 5 with (first | ((with_reducible refine gate_dst (N := 1) rfl ?_); refine Cz.bx (N := 1) #[.int .i64 B, .int .i64 P, .int .i64 T, .slice A0 L.length c0] 24 ?_; intro g1 hg w1 hbox hb; have G0s := Aside0.mk (show w.heap.size ≤ g1 from Nat.le_trans HB.out.size (Nat.le_of_eq hg.symm)); clear hg; have m_HB := Aside0.mk (below_step HB.out hb); clear HB; have HB := m_HB; clear m_HB; have G0 := Aside0.mk hbox; clear hbox hb) | ((with_reducible refine gate_dst (N := 2) rfl ?_); refine Cz.bx (N := 2) #[.slice none 0 0] 27 ?_; intro go hg w2 hbox hb; have GOs := Aside0.mk (show w.heap.size ≤ go from Nat.le_trans HB.out.size (Nat.le_of_eq hg.symm)); clear hg; have m_G0 := Aside0.mk (blk_below G0.out hb); have m_HB := Aside0.mk (below_step HB.out hb); clear G0 HB; have G0 := m_G0; have HB := m_HB; clear m_G0 m_HB; have GO := Aside0.mk hbox; clear hbox hb) | ((with_reducible refine gate_dst (N := 3) rfl ?_); refine Cz.bx (N := 3) #[.int .i64 0] 28 ?_; intro ge hg w3 hbox hb; have GEs := Aside0.mk (show w.heap.size ≤ ge from Nat.le_trans HB.out.size (Nat.le_of_eq hg.symm)); clear hg; have m_G0 := Aside0.mk (blk_below G0.out hb); have m_GO := Aside0.mk (blk_below GO.out hb); have m_HB := Aside0.mk (below_step HB.out hb); clear G0 GO HB; have G0 := m_G0; have GO := m_GO; have HB := m_HB; clear m_G0 m_GO m_HB; have GE := Aside0.mk hbox; clear hbox hb; obtain ⟨hcs0, hcs1, hcs2, hcs3, hfs0, hfs1, hfs2, hfs3⟩ := Cz.d4 G0) | (go_at_call 31; refine (HCK.out true _ HB.out HK.out).mono ?_; rintro e' w4 ⟨rfl, hb⟩; have m_G0 := Aside0.mk (blk_below G0.out hb); have m_GO := Aside0.mk (blk_below GO.out hb); have m_GE := Aside0.mk (blk_below GE.out hb); have m_HB := Aside0.mk (below_step HB.out hb); clear G0 GO GE HB; have G0 := m_G0; have GO := m_GO; have GE := m_GE; have HB := m_HB; clear m_G0 m_GO m_GE m_HB; clear hb hcs0 hfs0 hcs1 hfs1 hcs2 hfs2 hcs3 hfs3; obtain ⟨hco0, hfo0⟩ := Cz.d1 GO; obtain ⟨hce0, hfe0⟩ := Cz.d1 GE; have hn0 := (blk_ne GO.out GE.out (by decide)); have hn1 := hn0.symm))
 clear hco0 hfo0 hce0 hfe0 hn0 hn1
 have GMs := Aside0.mk HB.out.size
 have M0 := Aside0.mk (blk_new w4 (.cells #[.int .i64 0] 3))
 have m1 := Aside0.mk (blk_alloc G0.out (.cells #[.int .i64 0] 3))
 have m2 := Aside0.mk (blk_alloc GO.out (.cells #[.int .i64 0] 3))
 have m3 := Aside0.mk (blk_alloc GE.out (.cells #[.int .i64 0] 3))
 have m4 := Aside0.mk (below_alloc HB.out (.cells #[.int .i64 0] 3))
 have hz : (w4.alloc (.cells #[.int .i64 0] 3)).heap.size = w4.heap.size + 1 := by simp
 obtain ⟨gm, hgm⟩ : ∃ g, g = w4.heap.size := ⟨_, rfl⟩
 rw [← hgm] at M0 hz GMs ⊢
 clear G0 GO GE HB hgm
 generalize w4.alloc (.cells #[.int .i64 0] 3) = w5 at M0 m1 m2 m3 m4 hz ⊢
 obtain ⟨gp, hgp⟩ : ∃ g, g = w5.heap.size := ⟨_, rfl⟩
 rw [show gm + 1 = gp by omega]
 have P0 := Aside0.mk (blk_new w5 (.cells #[.func (.func 33) #[] #[.pointer (some ⟨go, 0, none⟩), .pointer (some ⟨ge, 0, none⟩), .pointer (some ⟨gm, 0, none⟩)]] 55))
 have G0 := Aside0.mk (blk_alloc m1.out (.cells #[.func (.func 33) #[] #[.pointer (some ⟨go, 0, none⟩), .pointer (some ⟨ge, 0, none⟩), .pointer (some ⟨gm, 0, none⟩)]] 55))
 have GO := Aside0.mk (blk_alloc m2.out (.cells #[.func (.func 33) #[] #[.pointer (some ⟨go, 0, none⟩), .pointer (some ⟨ge, 0, none⟩), .pointer (some ⟨gm, 0, none⟩)]] 55))
 have GE := Aside0.mk (blk_alloc m3.out (.cells #[.func (.func 33) #[] #[.pointer (some ⟨go, 0, none⟩), .pointer (some ⟨ge, 0, none⟩), .pointer (some ⟨gm, 0, none⟩)]] 55))
 have HB := Aside0.mk (below_alloc m4.out (.cells #[.func (.func 33) #[] #[.pointer (some ⟨go, 0, none⟩), .pointer (some ⟨ge, 0, none⟩), .pointer (some ⟨gm, 0, none⟩)]] 55))
 have GM := Aside0.mk (blk_alloc M0.out (.cells #[.func (.func 33) #[] #[.pointer (some ⟨go, 0, none⟩), .pointer (some ⟨ge, 0, none⟩), .pointer (some ⟨gm, 0, none⟩)]] 55))
 rw [← hgp] at P0
 clear m1 m2 m3 m4 M0 hz hgp
 generalize w5.alloc (.cells #[.func (.func 33) #[] #[.pointer (some ⟨go, 0, none⟩), .pointer (some ⟨ge, 0, none⟩), .pointer (some ⟨gm, 0, none⟩)]] 55) = w0 at P0 G0 GO GE HB GM ⊢
 obtain ⟨hcs0, hcs1, hcs2, hcs3, hfs0, hfs1, hfs2, hfs3⟩ := Cz.d4 G0
 go_wp2_with fail
 refine (stream_frames.calls B P T (.slice A0 L.length c0) _ rfl).mono ?_
 rintro e' w7 ⟨gs, rfl, hgs, hS, hb⟩
 have GSs := Aside0.mk (Nat.le_trans HB.out.size hgs)
 have m_P0 := Aside0.mk (blk_below P0.out hb)
 have m_GO := Aside0.mk (blk_below GO.out hb)
 have m_GE := Aside0.mk (blk_below GE.out hb)
 have m_GM := Aside0.mk (blk_below GM.out hb)
 have m_HB := Aside0.mk (below_step HB.out hb)
 clear P0 GO GE GM HB
 have P0 := m_P0
 have GO := m_GO
 have GE := m_GE
 have GM := m_GM
 have HB := m_HB
 clear m_P0 m_GO m_GE m_GM m_HB
 have GS := Aside0.mk hS
 clear hS hgs hb G0 hcs0 hfs0 hcs1 hfs1 hcs2 hfs2 hcs3 hfs3
 go_wp2_with fail
 refine (wpIn_wide (n := 4)).1 ?_
 refine wpIn_rangeFunc ?_
 intro fn _
 obtain ⟨D, hD⟩ : ∃ D, D = w7.heap.size := ⟨_, rfl⟩
 obtain ⟨W1, hW1⟩ : ∃ W1, (w7.alloc (.deferred (some []))).alloc (.loop (wrRec fn w7.heap.size #[.agg #[.int .i64 B, .int .i64 P, .int .i64 T, .slice A0 L.length c0], .pointer (some ⟨g1, 0, none⟩), .pointer (some ⟨go, 0, none⟩), .pointer (some ⟨ge, 0, none⟩), .pointer (some ⟨gm, 0, none⟩), .pointer (some ⟨gp, 0, none⟩), undef, .agg #[.int .i64 B, .int .i64 P, .int .i64 T, .slice A0 L.length c0], .bool true, .bool false, .func (.func 33) #[] #[.pointer (some ⟨go, 0, none⟩), .pointer (some ⟨ge, 0, none⟩), .pointer (some ⟨gm, 0, none⟩)], .agg #[.int .i64 B, .int .i64 P, .int .i64 T, .slice A0 L.length c0], .func (.func 61) #[] #[.pointer (some ⟨gs, 0, none⟩)], undef, undef, undef, undef, undef, undef, undef, undef, undef, undef, undef, undef, undef, undef] .ready none)) = W1 := ⟨_, rfl⟩
 have hL1 : W1.heap[D + 1]? = some (.loop (wrRec fn D #[.agg #[.int .i64 B, .int .i64 P, .int .i64 T, .slice A0 L.length c0], .pointer (some ⟨g1, 0, none⟩), .pointer (some ⟨go, 0, none⟩), .pointer (some ⟨ge, 0, none⟩), .pointer (some ⟨gm, 0, none⟩), .pointer (some ⟨gp, 0, none⟩), undef, .agg #[.int .i64 B, .int .i64 P, .int .i64 T, .slice A0 L.length c0], .bool true, .bool false, .func (.func 33) #[] #[.pointer (some ⟨go, 0, none⟩), .pointer (some ⟨ge, 0, none⟩), .pointer (some ⟨gm, 0, none⟩)], .agg #[.int .i64 B, .int .i64 P, .int .i64 T, .slice A0 L.length c0], .func (.func 61) #[] #[.pointer (some ⟨gs, 0, none⟩)], undef, undef, undef, undef, undef, undef, undef, undef, undef, undef, undef, undef, undef, undef] .ready none)) := by
  rw [← hW1, hD]; have := World.alloc_heap_new (w7.alloc (.deferred (some []))) (.loop (wrRec fn w7.heap.size #[.agg #[.int .i64 B, .int .i64 P, .int .i64 T, .slice A0 L.length c0], .pointer (some ⟨g1, 0, none⟩), .pointer (some ⟨go, 0, none⟩), .pointer (some ⟨ge, 0, none⟩), .pointer (some ⟨gm, 0, none⟩), .pointer (some ⟨gp, 0, none⟩), undef, .agg #[.int .i64 B, .int .i64 P, .int .i64 T, .slice A0 L.length c0], .bool true, .bool false, .func (.func 33) #[] #[.pointer (some ⟨go, 0, none⟩), .pointer (some ⟨ge, 0, none⟩), .pointer (some ⟨gm, 0, none⟩)], .agg #[.int .i64 B, .int .i64 P, .int .i64 T, .slice A0 L.length c0], .func (.func 61) #[] #[.pointer (some ⟨gs, 0, none⟩)], undef, undef, undef, undef, undef, undef, undef, undef, undef, undef, undef, undef, undef, undef] .ready none)); rwa [World.size_alloc] at this
 have hK1 : W1.heap[D]? = some (.deferred (some [])) := by
  rw [← hW1, hD]; exact (Below.heap_alloc _ _ _ (by simp)).trans (World.alloc_heap_new w7 _)
 have al : ∀ {k : Nat} {o : Obj}, w7.heap[k]? = some o → W1.heap[k]? = some o := fun {k o} h => by rw [← hW1]; exact (Below.heap_alloc _ _ _ (by have := (Array.getElem?_eq_some_iff.1 h).1; simp; omega)).trans ((Below.heap_alloc _ _ _ (Array.getElem?_eq_some_iff.1 h).1).trans h)
 have hB0 : Below w.heap.size w W1 := by rw [← hW1]; exact below_alloc (below_alloc HB.out _) _
 have DS := Aside0.mk (show w.heap.size ≤ D by rw [hD]; exact HB.out.size)
 have hE : ∀ u ∈ L, Pl.eOk u = true := stGo_eok (Pl.stOk_iff.1 HOK.out).2
 have hl : L.length ≤ 64 := by
  have := HOK.out
  unfold Pl.stOk at this
  rw [Bool.and_eq_true, decide_eq_true_eq] at this
  exact this.1.2.2.2.2.2.2
 have hJ0 : wrJ go ge gm gp gs (D + 1) D w.heap.size fn #[.agg #[.int .i64 B, .int .i64 P, .int .i64 T, .slice A0 L.length c0], .pointer (some ⟨g1, 0, none⟩), .pointer (some ⟨go, 0, none⟩), .pointer (some ⟨ge, 0, none⟩), .pointer (some ⟨gm, 0, none⟩), .pointer (some ⟨gp, 0, none⟩), undef, .agg #[.int .i64 B, .int .i64 P, .int .i64 T, .slice A0 L.length c0], .bool true, .bool false, .func (.func 33) #[] #[.pointer (some ⟨go, 0, none⟩), .pointer (some ⟨ge, 0, none⟩), .pointer (some ⟨gm, 0, none⟩)], .agg #[.int .i64 B, .int .i64 P, .int .i64 T, .slice A0 L.length c0], .func (.func 61) #[] #[.pointer (some ⟨gs, 0, none⟩)], undef, undef, undef, undef, undef, undef, undef, undef, undef, undef, undef, undef, undef, undef] [] W1 := ⟨_, al GO.out, al GE.out, al GM.out, al P0.out, ⟨_, al GS.out⟩, Kd.R_nil _ _ _ _ _, hL1, hK1⟩
 refine ⟨w7.heap.size + 1, [{ target := .collected w7.heap.size, args := #[] }], W1, { target := .fn (.func 61) #[.pointer (some ⟨gs, 0, none⟩)], args := #[.func (.yield (w7.heap.size + 1)) #[] #[]] }, W1, 61,
  #[.func (.yield (w7.heap.size + 1)) #[] #[], .pointer (some ⟨gs, 0, none⟩)], W1, by rw [← hW1]; exact run_enterLoop_outer _ _ _ _ _, ?_, fun _ _ => trivial, ?_, fun _ => by decide, ?_⟩
 ·simp only [resolve]
  simp [go_sem]
 ·have eg := enters_ Try.func61 (by kernel_rfl) rfl
  simp [invoke, go_sem, eg]
 rw [← hD]
 have D1 := Aside0.mk (Nat.le_trans DS.out (Nat.le_succ D))
 refine callsIn_wide.2 ?_
 refine (stream_frames_1.calls gs w.heap.size B P T A0 c0 L (D + 1) (wrJ go ge gm gp gs (D + 1) D w.heap.size fn #[.agg #[.int .i64 B, .int .i64 P, .int .i64 T, .slice A0 L.length c0], .pointer (some ⟨g1, 0, none⟩), .pointer (some ⟨go, 0, none⟩), .pointer (some ⟨ge, 0, none⟩), .pointer (some ⟨gm, 0, none⟩), .pointer (some ⟨gp, 0, none⟩), undef, .agg #[.int .i64 B, .int .i64 P, .int .i64 T, .slice A0 L.length c0], .bool true, .bool false, .func (.func 33) #[] #[.pointer (some ⟨go, 0, none⟩), .pointer (some ⟨ge, 0, none⟩), .pointer (some ⟨gm, 0, none⟩)], .agg #[.int .i64 B, .int .i64 P, .int .i64 T, .slice A0 L.length c0], .func (.func 61) #[] #[.pointer (some ⟨gs, 0, none⟩)], undef, undef, undef, undef, undef, undef, undef, undef, undef, undef, undef, undef, undef, undef]) w W1 (al GS.out) hB0.size (Nat.le_refl _) hB0 HR0.out HC0.out hE hl
  (fun pre x A c W hJ hr hC hc => stream_Write.round go ge gm gp gs (D + 1) D w.heap.size fn (.agg #[.int .i64 B, .int .i64 P, .int .i64 T, .slice A0 L.length c0]) (.pointer (some ⟨g1, 0, none⟩)) (.pointer (some ⟨go, 0, none⟩)) (.pointer (some ⟨ge, 0, none⟩)) (.pointer (some ⟨gm, 0, none⟩)) (undef) (.agg #[.int .i64 B, .int .i64 P, .int .i64 T, .slice A0 L.length c0]) (.bool true) (.bool false) (.func (.func 33) #[] #[.pointer (some ⟨go, 0, none⟩), .pointer (some ⟨ge, 0, none⟩), .pointer (some ⟨gm, 0, none⟩)]) (.agg #[.int .i64 B, .int .i64 P, .int .i64 T, .slice A0 L.length c0]) (.func (.func 61) #[] #[.pointer (some ⟨gs, 0, none⟩)]) (undef) (undef) (undef) (undef) (undef) (undef) (undef) (undef) (undef) (undef) (undef) (undef) (undef) (undef) B P T L HOK.out HBY.out GOs.out GEs.out GMs.out D1.out pre x A c W hJ hr hC hc)
  (fun _ _ _ h hk => wrJ.kept h hk) hJ0).mono ?_
 rintro e W2 ⟨⟨v, rfl⟩, hJ1, hB1⟩
 clear hW1 hL1 hK1 al hE hl hJ0 P0 GO GE GM GS hD
 have HB := Aside0.mk (hB0.trans hB1)
 clear hB0 hB1
 obtain ⟨vo, j1, j2, j3, j0, ⟨cs, j4⟩, j5, j7, j8⟩ := hJ1
 refine ⟨none, _, run_endLoop j7 (by simp [wrRec]), ?_⟩
 have nl : ∀ {k : Nat} {o : Obj}, W2.heap[k]? = some o → (∀ r, o ≠ .loop r) → k ≠ D + 1 := fun {k o} h ho e => by
  rw [e, j7] at h
  injection h with h
  exact ho _ h.symm
 have GO := Aside0.mk ((World.putObj_heap_other (o := .loop { wrRec fn D #[.agg #[.int .i64 B, .int .i64 P, .int .i64 T, .slice A0 L.length c0], .pointer (some ⟨g1, 0, none⟩), .pointer (some ⟨go, 0, none⟩), .pointer (some ⟨ge, 0, none⟩), .pointer (some ⟨gm, 0, none⟩), .pointer (some ⟨gp, 0, none⟩), undef, .agg #[.int .i64 B, .int .i64 P, .int .i64 T, .slice A0 L.length c0], .bool true, .bool false, .func (.func 33) #[] #[.pointer (some ⟨go, 0, none⟩), .pointer (some ⟨ge, 0, none⟩), .pointer (some ⟨gm, 0, none⟩)], .agg #[.int .i64 B, .int .i64 P, .int .i64 T, .slice A0 L.length c0], .func (.func 61) #[] #[.pointer (some ⟨gs, 0, none⟩)], undef, undef, undef, undef, undef, undef, undef, undef, undef, undef, undef, undef, undef, undef] .ready none with state := .exhausted }) (nl j1 (fun r e => by cases e))).trans j1)
 have GE := Aside0.mk ((World.putObj_heap_other (o := .loop { wrRec fn D #[.agg #[.int .i64 B, .int .i64 P, .int .i64 T, .slice A0 L.length c0], .pointer (some ⟨g1, 0, none⟩), .pointer (some ⟨go, 0, none⟩), .pointer (some ⟨ge, 0, none⟩), .pointer (some ⟨gm, 0, none⟩), .pointer (some ⟨gp, 0, none⟩), undef, .agg #[.int .i64 B, .int .i64 P, .int .i64 T, .slice A0 L.length c0], .bool true, .bool false, .func (.func 33) #[] #[.pointer (some ⟨go, 0, none⟩), .pointer (some ⟨ge, 0, none⟩), .pointer (some ⟨gm, 0, none⟩)], .agg #[.int .i64 B, .int .i64 P, .int .i64 T, .slice A0 L.length c0], .func (.func 61) #[] #[.pointer (some ⟨gs, 0, none⟩)], undef, undef, undef, undef, undef, undef, undef, undef, undef, undef, undef, undef, undef, undef] .ready none with state := .exhausted }) (nl j2 (fun r e => by cases e))).trans j2)
 have GM := Aside0.mk ((World.putObj_heap_other (o := .loop { wrRec fn D #[.agg #[.int .i64 B, .int .i64 P, .int .i64 T, .slice A0 L.length c0], .pointer (some ⟨g1, 0, none⟩), .pointer (some ⟨go, 0, none⟩), .pointer (some ⟨ge, 0, none⟩), .pointer (some ⟨gm, 0, none⟩), .pointer (some ⟨gp, 0, none⟩), undef, .agg #[.int .i64 B, .int .i64 P, .int .i64 T, .slice A0 L.length c0], .bool true, .bool false, .func (.func 33) #[] #[.pointer (some ⟨go, 0, none⟩), .pointer (some ⟨ge, 0, none⟩), .pointer (some ⟨gm, 0, none⟩)], .agg #[.int .i64 B, .int .i64 P, .int .i64 T, .slice A0 L.length c0], .func (.func 61) #[] #[.pointer (some ⟨gs, 0, none⟩)], undef, undef, undef, undef, undef, undef, undef, undef, undef, undef, undef, undef, undef, undef] .ready none with state := .exhausted }) (nl j3 (fun r e => by cases e))).trans j3)
 have P0 := Aside0.mk ((World.putObj_heap_other (o := .loop { wrRec fn D #[.agg #[.int .i64 B, .int .i64 P, .int .i64 T, .slice A0 L.length c0], .pointer (some ⟨g1, 0, none⟩), .pointer (some ⟨go, 0, none⟩), .pointer (some ⟨ge, 0, none⟩), .pointer (some ⟨gm, 0, none⟩), .pointer (some ⟨gp, 0, none⟩), undef, .agg #[.int .i64 B, .int .i64 P, .int .i64 T, .slice A0 L.length c0], .bool true, .bool false, .func (.func 33) #[] #[.pointer (some ⟨go, 0, none⟩), .pointer (some ⟨ge, 0, none⟩), .pointer (some ⟨gm, 0, none⟩)], .agg #[.int .i64 B, .int .i64 P, .int .i64 T, .slice A0 L.length c0], .func (.func 61) #[] #[.pointer (some ⟨gs, 0, none⟩)], undef, undef, undef, undef, undef, undef, undef, undef, undef, undef, undef, undef, undef, undef] .ready none with state := .exhausted }) (nl j0 (fun r e => by cases e))).trans j0)
 have DD := Aside0.mk ((World.putObj_heap_other (o := .loop { wrRec fn D #[.agg #[.int .i64 B, .int .i64 P, .int .i64 T, .slice A0 L.length c0], .pointer (some ⟨g1, 0, none⟩), .pointer (some ⟨go, 0, none⟩), .pointer (some ⟨ge, 0, none⟩), .pointer (some ⟨gm, 0, none⟩), .pointer (some ⟨gp, 0, none⟩), undef, .agg #[.int .i64 B, .int .i64 P, .int .i64 T, .slice A0 L.length c0], .bool true, .bool false, .func (.func 33) #[] #[.pointer (some ⟨go, 0, none⟩), .pointer (some ⟨ge, 0, none⟩), .pointer (some ⟨gm, 0, none⟩)], .agg #[.int .i64 B, .int .i64 P, .int .i64 T, .slice A0 L.length c0], .func (.func 61) #[] #[.pointer (some ⟨gs, 0, none⟩)], undef, undef, undef, undef, undef, undef, undef, undef, undef, undef, undef, undef, undef, undef] .ready none with state := .exhausted }) (nl j8 (fun r e => by cases e))).trans j8)
 have HB0 := Aside0.mk (HB.out.trans (putObj_keeps (.loop { wrRec fn D #[.agg #[.int .i64 B, .int .i64 P, .int .i64 T, .slice A0 L.length c0], .pointer (some ⟨g1, 0, none⟩), .pointer (some ⟨go, 0, none⟩), .pointer (some ⟨ge, 0, none⟩), .pointer (some ⟨gm, 0, none⟩), .pointer (some ⟨gp, 0, none⟩), undef, .agg #[.int .i64 B, .int .i64 P, .int .i64 T, .slice A0 L.length c0], .bool true, .bool false, .func (.func 33) #[] #[.pointer (some ⟨go, 0, none⟩), .pointer (some ⟨ge, 0, none⟩), .pointer (some ⟨gm, 0, none⟩)], .agg #[.int .i64 B, .int .i64 P, .int .i64 T, .slice A0 L.length c0], .func (.func 61) #[] #[.pointer (some ⟨gs, 0, none⟩)], undef, undef, undef, undef, undef, undef, undef, undef, undef, undef, undef, undef, undef, undef] .ready none with state := .exhausted }) j7 D1.out))
 have RO : Aside0 (Kd.R (Kd.int .u8) 5 (W2.putObj (D + 1) (.loop { wrRec fn D #[.agg #[.int .i64 B, .int .i64 P, .int .i64 T, .slice A0 L.length c0], .pointer (some ⟨g1, 0, none⟩), .pointer (some ⟨go, 0, none⟩), .pointer (some ⟨ge, 0, none⟩), .pointer (some ⟨gm, 0, none⟩), .pointer (some ⟨gp, 0, none⟩), undef, .agg #[.int .i64 B, .int .i64 P, .int .i64 T, .slice A0 L.length c0], .bool true, .bool false, .func (.func 33) #[] #[.pointer (some ⟨go, 0, none⟩), .pointer (some ⟨ge, 0, none⟩), .pointer (some ⟨gm, 0, none⟩)], .agg #[.int .i64 B, .int .i64 P, .int .i64 T, .slice A0 L.length c0], .func (.func 61) #[] #[.pointer (some ⟨gs, 0, none⟩)], undef, undef, undef, undef, undef, undef, undef, undef, undef, undef, undef, undef, undef, undef] .ready none with state := .exhausted })) w.heap.size (fun _ => True) vo (Pl.fsB (Pl.stF B P T L))) := ⟨Kd.R_mono (Kd.R_move (Kd.R_bound j5) (fun k hk => by
  obtain ⟨_, _, _, q, _, cells, hc2⟩ := hk
  exact World.putObj_heap_other (nl hc2 (fun r e => by cases e)))) (fun _ _ => trivial)⟩
 clear j1 j2 j3 j0 j4 j5 j7 j8 nl HB
 have HB := HB0
 clear HB0
 show Exit.inBlock 0 _ .normal _ (W2.putObj (D + 1) (.loop { wrRec fn D #[.agg #[.int .i64 B, .int .i64 P, .int .i64 T, .slice A0 L.length c0], .pointer (some ⟨g1, 0, none⟩), .pointer (some ⟨go, 0, none⟩), .pointer (some ⟨ge, 0, none⟩), .pointer (some ⟨gm, 0, none⟩), .pointer (some ⟨gp, 0, none⟩), undef, .agg #[.int .i64 B, .int .i64 P, .int .i64 T, .slice A0 L.length c0], .bool true, .bool false, .func (.func 33) #[] #[.pointer (some ⟨go, 0, none⟩), .pointer (some ⟨ge, 0, none⟩), .pointer (some ⟨gm, 0, none⟩)], .agg #[.int .i64 B, .int .i64 P, .int .i64 T, .slice A0 L.length c0], .func (.func 61) #[] #[.pointer (some ⟨gs, 0, none⟩)], undef, undef, undef, undef, undef, undef, undef, undef, undef, undef, undef, undef, undef, undef] .ready none with state := .exhausted }))
 generalize (W2.putObj (D + 1) (.loop { wrRec fn D #[.agg #[.int .i64 B, .int .i64 P, .int .i64 T, .slice A0 L.length c0], .pointer (some ⟨g1, 0, none⟩), .pointer (some ⟨go, 0, none⟩), .pointer (some ⟨ge, 0, none⟩), .pointer (some ⟨gm, 0, none⟩), .pointer (some ⟨gp, 0, none⟩), undef, .agg #[.int .i64 B, .int .i64 P, .int .i64 T, .slice A0 L.length c0], .bool true, .bool false, .func (.func 33) #[] #[.pointer (some ⟨go, 0, none⟩), .pointer (some ⟨ge, 0, none⟩), .pointer (some ⟨gm, 0, none⟩)], .agg #[.int .i64 B, .int .i64 P, .int .i64 T, .slice A0 L.length c0], .func (.func 61) #[] #[.pointer (some ⟨gs, 0, none⟩)], undef, undef, undef, undef, undef, undef, undef, undef, undef, undef, undef, undef, undef, undef] .ready none with state := .exhausted })) = w8 at GO GE GM P0 DD RO HB ⊢
 have hfb := Pl.stF_byte (B := B) (P := P) (T := T) HBY.out
 have hln := Pl.stF_length HOK.out
 have hwl := (Pl.stW_length HOK.out).2
 have heo := Pl.stE_ok HOK.out HBY.out
 rw [Pl.stW, List.length_append] at hwl
 obtain ⟨F, hF⟩ : ∃ F, F = Pl.fsB (Pl.stF B P T L) := ⟨_, rfl⟩
 obtain ⟨N, hN⟩ : ∃ N, N = (Pl.stF B P T L).length := ⟨_, rfl⟩
 rw [← hF] at RO hfb heo hwl
 rw [← hN] at GM hln heo hwl
 have HFN := Aside0.mk (show Pl.stW B P T L = F ++ Pl.frWT (Pl.stE N F) by rw [hF, hN]; rfl)
 have HLN := Aside0.mk (show F.length + (Pl.frWT (Pl.stE N F)).length < 140737488355328 by omega)
 have HSM := Aside0.mk (crc_Sum.tells F hfb)
 obtain ⟨s, hs⟩ : ∃ s : Int, s = ((Pl.sum (Pl.nats F) : Nat) : Int) := ⟨_, rfl⟩
 have hsw : wrap64 s = s := by have := Pl.sum_lt (Pl.byteB_bytes hfb); unfold wrap64; omega
 have HWE := Aside0.mk (show frame_Write.f 5 0 0 [] (N : Int) (wrap64 s) 0 = some (Pl.frWT (Pl.stE N F), 0) by
  rw [hsw, frame_Write.tells rfl, Pl.fwriteS, hs, if_pos (show Pl.frOk 5 0 0 [] (N : Int) ((Pl.sum (Pl.nats F) : Nat) : Int) 0 = true from heo)]; rfl)
 rw [← hs] at HSM
 clear hfb hln hwl heo hF hN hs hsw HOK HBY
 obtain ⟨Ao, co, eo⟩ := Kd.R_slice RO.out
 subst eo
 go_wp2_with fail
 refine wp_mono (Q := onlyN _) ?_ onlyN_of
 have m_GO := Aside0.mk (blk_drew GO.out)
 have m_GE := Aside0.mk (blk_drew GE.out)
 have m_GM := Aside0.mk (blk_drew GM.out)
 have m_P0 := Aside0.mk (blk_drew P0.out)
 have m_DD := Aside0.mk ((show w8.drew.heap[D]? = some (.deferred (some [])) from DD.out))
 have m_RO := Aside0.mk (Kd.R_drew RO.out)
 have m_HB := Aside0.mk (below_drew HB.out)
 clear GO GE GM P0 DD RO HB
 have GO := m_GO
 have GE := m_GE
 have GM := m_GM
 have P0 := m_P0
 have DD := m_DD
 have RO := m_RO
 have HB := m_HB
 clear m_GO m_GE m_GM m_P0 m_DD m_RO m_HB
 refine start_ (n := 7) (S := fun w' => w'.cell? ⟨gp, 0, none⟩ = some (.func (.func 33) #[] #[.pointer (some ⟨go, 0, none⟩), .pointer (some ⟨ge, 0, none⟩), .pointer (some ⟨gm, 0, none⟩)]) ∧ w'.cell? ⟨gm, 0, none⟩ = some (.int .i64 (N : Int)) ∧ w'.cell? ⟨go, 0, none⟩ = some (.slice Ao F.length co)) (ds := [6]) #[false, false, false, false, false, false, false] (by kernel_rfl) rfl rfl ⟨((blk_cell P0.out 0).trans rfl), ((blk_cell GM.out 0).trans rfl), ((blk_cell GO.out 0).trans rfl)⟩ (fun hHeld => ?_)
 generalize w8.drew = w8d at GO GE GM P0 DD RO HB hHeld ⊢
 refine Cz.rT 0 17 hHeld ?_
 refine Cz.rT 1 18 hHeld ?_
 refine Cz.rT 2 19 hHeld ?_
 refine Cz.rO (N := some 20) 3 (fun K hK => ?_)
 refine goes_ Try.func35 (by kernel_rfl) rfl #[.slice Ao F.length co] (by rfl) rfl rfl (by simp only [List.map_toArray, List.map_cons, List.map_nil]; rfl) ?_
 with_reducible refine ((crc_Sum.calls Ao co F s _ (Kd.R_reads' RO.out).2.2 (Kd.R_reads' RO.out).2.1 HSM.out)).mono ?_
 rintro e' w6 ⟨rfl, hb⟩
 refine ⟨_, rfl, ?_⟩
 have m_GO := Aside0.mk (blk_below GO.out hb)
 have m_GE := Aside0.mk (blk_below GE.out hb)
 have m_GM := Aside0.mk (blk_below GM.out hb)
 have m_P0 := Aside0.mk (blk_below P0.out hb)
 have m_DD := Aside0.mk (blk_below DD.out hb)
 have m_RO := Aside0.mk (Kd.R_below RO.out hb)
 have m_HB := Aside0.mk (below_step HB.out hb)
 clear GO GE GM P0 DD RO HB
 have GO := m_GO
 have GE := m_GE
 have GM := m_GM
 have P0 := m_P0
 have DD := m_DD
 have RO := m_RO
 have HB := m_HB
 clear m_GO m_GE m_GM m_P0 m_DD m_RO m_HB
 clear hb
 refine hK.out _ _ ⟨((blk_cell P0.out 0).trans rfl), ((blk_cell GM.out 0).trans rfl), ((blk_cell GO.out 0).trans rfl)⟩ (fun hHeld => ?_)
 clear hK K
 refine Cz.nm (some 20) ?_
 refine Cz.rP 4 21 ?_
 refine Cz.rP 5 22 ?_
 refine Cz.rL (N := some 23) 6 (fun K hK => ?_)
 refine call_ 33 #[.agg #[.int .i64 5, .int .i64 0, .int .i64 0, .slice none 0 0, .int .i64 (N : Int), .int .i64 (wrap64 s), .int .i64 0], .pointer (some ⟨go, 0, none⟩), .pointer (some ⟨ge, 0, none⟩), .pointer (some ⟨gm, 0, none⟩)] rfl rfl (by have he : ∀ w : World, (callFunc 33 #[.agg #[.int .i64 5, .int .i64 0, .int .i64 0, .slice none 0 0, .int .i64 (N : Int), .int .i64 (wrap64 s), .int .i64 0], .pointer (some ⟨go, 0, none⟩), .pointer (some ⟨ge, 0, none⟩), .pointer (some ⟨gm, 0, none⟩)]).run Try.prog w = .ok (.enter 33 #[.agg #[.int .i64 5, .int .i64 0, .int .i64 0, .slice none 0 0, .int .i64 (N : Int), .int .i64 (wrap64 s), .int .i64 0], .pointer (some ⟨go, 0, none⟩), .pointer (some ⟨ge, 0, none⟩), .pointer (some ⟨gm, 0, none⟩)]) w := fun w => enters_ Try.func33 (by kernel_rfl) rfl _ w; unfold execOp; simp [resolve, Deferred.ofValue, invoke, Act.eval, he]) ?_
 refine (stream_Write_1.calls go ge gm w.heap.size _ F (N : Int) 5 0 0 none 0 [] (N : Int) (wrap64 s) 0 (Pl.frWT (Pl.stE N F)) _ GO.out GE.out GM.out GOs.out GEs.out GMs.out RO.out ⟨rfl, Nat.zero_le _, fun h => absurd h (Nat.lt_irrefl 0)⟩ (Nat.le_refl _) HWE.out HLN.out).mono ?_
 rintro e' w9 ⟨⟨u, rfl⟩, v1, g1_, g0_, g2_, g3_, hb, hk⟩
 refine ⟨_, rfl, ?_⟩
 have nD : ¬ stPut go ge gm (.slice Ao F.length co) D := by
  intro hp
  rcases hp with rfl | rfl | rfl | he
  ·have h1 := DD.out; rw [GO.out] at h1; cases h1
  ·have h1 := DD.out; rw [GE.out] at h1; cases h1
  ·have h1 := DD.out; rw [GM.out] at h1; cases h1
  ·obtain ⟨cells, hc2⟩ := Kd.R_typed RO.out D he.symm
   have h1 := DD.out; rw [hc2] at h1; cases h1
 have m1 := Aside0.mk g1_
 have m2 := Aside0.mk g0_
 have m3 := Aside0.mk g3_
 have m4 := Aside0.mk ((hk.2 D (blk_lt DD.out) nD).trans DD.out)
 have m5 := Aside0.mk (HB.out.trans hb)
 clear g1_ g0_ g2_ g3_ hb hk nD GO GE GM P0 DD RO HB
 have GO := m1
 have GE := m2
 have RO := m3
 have DD := m4
 have HB := m5
 clear m1 m2 m3 m4 m5
 refine hK.out _ _ ?_
 clear hK K
 refine Cz.nm (some 23) ?_
 refine done_ (by kernel_rfl) ?_
 clear hHeld
 simp only [onlyN]
 obtain ⟨ys, hys⟩ : ∃ ys, ys = F ++ Pl.frWT (Pl.stE N F) := ⟨_, rfl⟩
 rw [← hys] at RO
 have HYS := Aside0.mk hys
 clear hys
 obtain ⟨A1, c1, e1⟩ := Kd.R_slice RO.out
 subst e1
 have hn0 := (blk_ne GO.out GE.out (by decide))
 have hn1 := hn0.symm
 obtain ⟨hco0, hfo0⟩ := Cz.d1 GO
 obtain ⟨hce0, hfe0⟩ := Cz.d1 GE
 go_wp2
 have d1 : D ≠ go := fun e => by have h1 := DD.out; rw [e, GO.out] at h1; cases h1
 have d2 : D ≠ ge := fun e => by have h1 := DD.out; rw [e, GE.out] at h1; cases h1
 have m1 : Aside0 (((w9.setCell ⟨go, 0, none⟩ (.slice A1 ys.length c1)).setCell ⟨ge, 0, none⟩ (.int .i64 0)).heap[go]? = some (.cells #[.slice A1 ys.length c1] 27 (0, 0))) := ⟨blk_far (blk_put GO.out 0 _ rfl) (p := ⟨ge, 0, none⟩) hn0 _⟩
 have m2 : Aside0 (((w9.setCell ⟨go, 0, none⟩ (.slice A1 ys.length c1)).setCell ⟨ge, 0, none⟩ (.int .i64 0)).heap[ge]? = some (.cells #[.int .i64 0] 28 (0, 0))) := ⟨blk_put (blk_far GE.out (p := ⟨go, 0, none⟩) hn1 _) 0 _ rfl⟩
 have m3 : Aside0 (((w9.setCell ⟨go, 0, none⟩ (.slice A1 ys.length c1)).setCell ⟨ge, 0, none⟩ (.int .i64 0)).heap[D]? = some (.deferred (some []))) := ⟨(Below.heap_setCell _ ⟨ge, 0, none⟩ _ D d2).trans ((Below.heap_setCell _ ⟨go, 0, none⟩ _ D d1).trans DD.out)⟩
 have m4 := Aside0.mk (show Kd.R (Kd.int .u8) 5 ((w9.setCell ⟨go, 0, none⟩ (.slice A1 ys.length c1)).setCell ⟨ge, 0, none⟩ (.int .i64 0)) w.heap.size (fun _ => True) (.slice A1 ys.length c1) ys from Kd.R_mono (Kd.R_far (p := ⟨ge, 0, none⟩) (Kd.R_types (Kd.R_far (p := ⟨go, 0, none⟩) (Kd.R_types RO.out GO.out (by decide)) (fun _ hk => hk.2) _) (blk_far GE.out (p := ⟨go, 0, none⟩) hn1 _) (by decide)) (fun _ hk => hk.2) _) (fun _ _ => trivial))
 have m5 := Aside0.mk ((HB.out.setCell (p := ⟨go, 0, none⟩) GOs.out (.slice A1 ys.length c1)).setCell (p := ⟨ge, 0, none⟩) GEs.out (.int .i64 0))
 generalize ((w9.setCell ⟨go, 0, none⟩ (.slice A1 ys.length c1)).setCell ⟨ge, 0, none⟩ (.int .i64 0)) = w10 at m1 m2 m3 m4 m5 ⊢
 refine ⟨by simp, .inl ⟨_, _, rfl, run_takeDeferred m3.out, ?_⟩⟩
 have o1 := (World.putObj_heap_other (w := w10) (o := .deferred none) d1.symm).trans m1.out
 have o2 := (World.putObj_heap_other (w := w10) (o := .deferred none) d2.symm).trans m2.out
 refine ⟨_, results_c2 rfl _ _ go ge (.slice A1 ys.length c1) (.int .i64 0) rfl rfl ((blk_cell o1 0).trans rfl) ((blk_cell o2 0).trans rfl) Try.underlying27 Try.underlying28, .slice A1 ys.length c1, rfl, ?_, m5.out.trans (putObj_keeps _ m3.out DS.out)⟩
 rw [HFN.out, ← HYS.out]
 refine Kd.R_mono (Kd.R_move (Kd.R_bound m4.out) (fun k hk => ?_)) (fun _ _ => trivial)
 obtain ⟨_, _, _, q, _, cells, hc2⟩ := hk
 exact World.putObj_heap_other (fun e => by rw [e, m3.out] at hc2; cases hc2)
def stream_Write.f (a0_0 a0_1 a0_2 : Int) (l0_3 : List S36) : Option (List Int × Int) := if (l0_3.all fun s => Pl.byteB s.f4) = true then some (Pl.swriteS a0_0 a0_1 a0_2 (l0_3.map toE)) else none
theorem stream_Write.tells {a0_0 a0_1 a0_2 : Int} {l0_3 : List S36} (h : ∀ s ∈ l0_3, Pl.byteB s.f4 = true) : stream_Write.f a0_0 a0_1 a0_2 l0_3 = some (Pl.swriteS a0_0 a0_1 a0_2 (l0_3.map toE)) := if_pos (List.all_eq_true.2 h)
theorem stream_Write.calls (a0_0 a0_1 a0_2 : Int) (A0_3 : Option Addr) (c0_3 : Nat) (l0_3 : List S36) (r1 : List Int) (r2 : Int) (w : World) (hr0_3 : Kd.C k36 w A0_3 l0_3.length l0_3) (hc0_3 : l0_3.length ≤ c0_3) (h : stream_Write.f a0_0 a0_1 a0_2 l0_3 = some (r1, r2)) :
  Calls Try.prog 15 #[.agg #[.int .i64 a0_0, .int .i64 a0_1, .int .i64 a0_2, .slice A0_3 l0_3.length c0_3]] w fun e w' => ∃ v0_ : Value, e = .returned (.tuple #[v0_, .int .i64 r2]) ∧ Kd.R (Kd.int .u8) 5 w' w.heap.size (fun _ => True) v0_ r1 ∧ Below w.heap.size w w' := by
 unfold stream_Write.f at h
 split at h
 case isFalse => cases h
 rename_i hb
 injection h with h
 obtain ⟨L, rfl⟩ : ∃ L : List Pl.Ext, l0_3 = L.map ofE := ⟨l0_3.map toE, (map_ofE_toE l0_3).symm⟩
 rw [map_toE_ofE] at h
 rw [List.length_map] at hr0_3 hc0_3 ⊢
 unfold Pl.swriteS at h
 by_cases hok : Pl.stOk a0_0 a0_1 a0_2 L = true
 focus rw [if_pos hok] at h
 rotate_left
 focus rw [if_neg hok] at h
 rotate_left
 all_goals
  simp only [Prod.mk.injEq] at h
  obtain ⟨rfl, rfl⟩ := h
 ·exact stream_Write.yes a0_0 a0_1 a0_2 A0_3 c0_3 L w hr0_3 hc0_3 hok (fun x hx => List.all_eq_true.1 hb (ofE x) (List.mem_map_of_mem hx))
 ·exact stream_Write.no a0_0 a0_1 a0_2 A0_3 c0_3 L w hr0_3 hc0_3 (Bool.eq_false_iff.2 hok)
mutual
def le_Take_p.j0 : Nat → List Int → Int → Int → Bool → Option (Int × List Int × Int)
 | 0, _, _, _, _ => none
 | k + 1, x0, x1, x4, x16 => if x16 = true then (some (0, ([] : List Int), 10)) else (le_Take_p.l0 k x0 x1 x4 x1 0)
def le_Take_p.l0 : Nat → List Int → Int → Int → Int → Int → Option (Int × List Int × Int)
 | 0, _, _, _, _, _ => none
 | k + 1, x0, x1, x4, x17, x18 => if x18 < x17 then (if 0 ≤ x18 then (if x18 < (x0.length : Int) then (if 0 ≤ (wrap64 (8 * x18)) then (le_Take_p.l0 k x0 x1 (Go.bits .or .u64 x4 (shl .u64 (IntKind.u64.wrap (rd x0 x18)) (wrap64 (8 * x18)))) x17 (wrap64 (x18 + 1))) else (none)) else (none)) else (none)) else (if 0 ≤ x1 then (if x1 ≤ (x0.length : Int) then ((bytes_Clone.f (x0.drop (x1 : Int).toNat)).bind fun t215 => (some (x4, t215, 0))) else (none)) else (none))
end
def le_Take_p.f (k : Nat) (l0 : List Int) (a1 : Int) : Option (Int × List Int × Int) := (le_may.f 0 a1).bind fun t212 => (if t212 = true then (le_Take_p.j0 k l0 a1 0 (decide ((l0.length : Int) < a1))) else (le_Take_p.j0 k l0 a1 0 true))
set_option maxHeartbeats 8000000 in
set_option maxRecDepth 100000 in
theorem le_Take_p.calls (k : Nat) (A0 : Option Addr) (c0 : Nat) (l0 : List Int) (a1 : Int) (r1 : Int) (r2 : List Int) (r3 : Int) (w : World) (hr0 : Kd.C (Kd.int .u8) w A0 l0.length l0) (hc0 : l0.length ≤ c0) (h : le_Take_p.f k l0 a1 = some (r1, r2, r3)) :
  Calls Try.prog 70 #[.slice A0 l0.length c0, .int .i64 a1] w fun e w' => ∃ v1_ : Value, e = .returned (.tuple #[.int .u64 r1, v1_, .int .i64 r3]) ∧ Kd.R (Kd.int .u8) 5 w' w.heap.size (fun _ => True) v1_ r2 ∧ Below w.heap.size w w' := by
 have HR0 := Aside0.mk hr0
 have HC0 := Aside0.mk hc0
 clear hr0 hc0
 have HB := Aside0.mk (Below.refl w.heap.size w)
 have H : ((le_may.f 0 a1).bind fun t212 => (if t212 = true then (le_Take_p.j0 k l0 a1 0 (decide ((l0.length : Int) < a1))) else (le_Take_p.j0 k l0 a1 0 true))) = some (r1, r2, r3) := h
 clear h
 have HC1 := Aside0.mk H
 clear H
 go_enter Try.func70, Try.ntmps70
 go_upto_region 1 with (fail)
 go_cut [16] (fun v16 wc => ∃ (kq : Nat) (x0_2 : Bool), v16 = .bool x0_2 ∧ Aside0 (le_Take_p.j0 kq l0 a1 0 x0_2 = some (r1, r2, r3)) ∧ Aside0 (kq ≤ k) ∧ Aside0 (Below w.heap.size w wc))
 case first =>
  have H := HC1.out
  clear HC1
  replace H := Option.bind_eq_some_iff.mp H
  obtain ⟨t212, A1, H⟩ := H
  (try dsimp only at H)
  have A4 := Aside0.mk A1
  clear A1
  by_cases c5 : t212 = true
  ·subst c5
   rw [if_pos rfl] at H
   have H' := Aside0.mk H
   clear H
   go_wp2_with (first | ((with_reducible refine gate_callee (f := 82) rfl ?_); refine Cz.gL (N := (some 9)) Try.func82 #[.int .u64 0, .int .i64 a1] ?_; (with_reducible refine (le_may.calls 0 a1 true _ A4.out).mono ?_); rintro e w' ⟨rfl, ⟨nd, rfl⟩⟩; refine ⟨_, rfl, ?_⟩))
   go_meet
   case rel => exact ⟨_, (decide ((l0.length : Int) < a1)), Cz.si, H', ⟨by first | omega | exact Nat.le_refl _⟩, ⟨Cz.bl (w := w)⟩⟩
  replace c5 := Bool.eq_false_iff.mpr c5
  subst c5
  rw [if_neg (show ¬ (false = true) by decide)] at H
  have H' := Aside0.mk H
  clear H
  go_wp2_with (first | ((with_reducible refine gate_callee (f := 82) rfl ?_); refine Cz.gL (N := (some 9)) Try.func82 #[.int .u64 0, .int .i64 a1] ?_; (with_reducible refine (le_may.calls 0 a1 false _ A4.out).mono ?_); rintro e w' ⟨rfl, ⟨nd, rfl⟩⟩; refine ⟨_, rfl, ?_⟩))
  go_meet
  case rel => exact ⟨_, (true), Cz.si, H', ⟨by first | omega | exact Nat.le_refl _⟩, ⟨Cz.bl (w := w)⟩⟩
 case rest =>
  clear HC1
  try clear p2
  try clear c5
  obtain ⟨kq, x0_2, rfl, HA, HJ0, HB⟩ := hcut
  cases kq with
  | zero => exact absurd HA.out (by simp [le_Take_p.j0])
  | succ kj0 =>
   have H := HA.out
   clear HA
   simp only [le_Take_p.j0] at H
   by_cases c6 : x0_2 = true
   ·subst c6
    rw [if_pos rfl] at H
    simp only [Option.some.injEq, Prod.mk.injEq] at H
    obtain ⟨rfl, rfl, rfl⟩ := H
    go_wp2
    go_ret3
    exact ⟨_, Cz.er, by first | exact Kd.R_nil _ _ _ _ _ | exact Kd.N_nil _ _ _ _ _ | exact Kd.V_nil _ _ _ _ _ | exact Kd.Q_nil _ _ _ _ _ | exact Kd.S_nil _ _ _ _ _, Cz.bl (w := w)⟩
   replace c6 := Bool.eq_false_iff.mpr c6
   subst c6
   rw [if_neg (show ¬ (false = true) by decide)] at H
   have H' := Aside0.mk H
   clear H
   go_wp2
   go_loopg [4, 18] kj0 (fun kq v4 v18 w' => ∃ (x1_2 : Int) (x2_2 : Int), v4 = .int .u64 x1_2 ∧ v18 = .int .i64 x2_2 ∧ Aside0 (le_Take_p.l0 kq l0 a1 x1_2 a1 x2_2 = some (r1, r2, r3)) ∧ Aside0 (kq ≤ kj0) ∧ Aside0 (Below w.heap.size w w'))
   case atStart => exact ⟨(0), (0), Cz.si, Cz.si, H', ⟨Nat.le_refl _⟩, ⟨Cz.bl (w := w)⟩⟩
   case round =>
    clear H'
    try clear p2 p2
    try clear c5
    try clear c6
    obtain ⟨x1_2, x2_2, rfl, rfl, HA, HK0, HB⟩ := hrel
    cases gk with
    | zero => exact absurd HA.out (by simp [le_Take_p.l0])
    | succ k2 =>
     have H := HA.out
     clear HA
     simp only [le_Take_p.l0] at H
     by_cases c7 : x2_2 < a1
     ·rw [if_pos c7] at H
      have c7b0 : decide (x2_2 < a1) = true := decide_eq_true c7
      clear c7
      by_cases c8 : 0 ≤ x2_2
      rotate_left
      ·rw [if_neg c8] at H
       exact absurd H (by simp)
      rw [if_pos c8] at H
      have c8b0 : decide (0 ≤ x2_2) = true := decide_eq_true c8
      clear c8
      by_cases c9 : x2_2 < (l0.length : Int)
      rotate_left
      ·rw [if_neg c9] at H
       exact absurd H (by simp)
      rw [if_pos c9] at H
      have c9b0 : decide (x2_2 < (l0.length : Int)) = true := decide_eq_true c9
      clear c9
      obtain ⟨ji0, hji0⟩ : ∃ j_ : Int, (wrap64 (8 * x2_2)) = j_ := ⟨_, rfl⟩
      replace H : (if 0 ≤ (ji0) then (le_Take_p.l0 k2 l0 a1 (Go.bits .or .u64 x1_2 (shl .u64 (IntKind.u64.wrap (rd l0 x2_2)) (ji0))) a1 (wrap64 (x2_2 + 1))) else (none)) = some (r1, r2, r3) := by first | (rw [hji0] at H; exact H) | (simp only [hji0] at H ⊢; exact H)
      have hji0w : (IntKind.i64.wrap (8 * x2_2)) = ji0 := (i64_w _).trans hji0
      by_cases c11 : 0 ≤ (ji0)
      rotate_left
      ·rw [if_neg c11] at H
       exact absurd H (by simp)
      rw [if_pos c11] at H
      have c11b0 := eq_true c11
      have c11b1 : decide (0 ≤ (ji0)) = true := decide_eq_true c11
      clear c11
      obtain ⟨ji1, hji1⟩ : ∃ j_ : Int, (shl .u64 (IntKind.u64.wrap (rd l0 x2_2)) (ji0)) = j_ := ⟨_, rfl⟩
      replace H : (le_Take_p.l0 k2 l0 a1 (Go.bits .or .u64 x1_2 (ji1)) a1 (wrap64 (x2_2 + 1))) = some (r1, r2, r3) := by first | (rw [hji1] at H; exact H) | (simp only [hji1] at H ⊢; exact H)
      have hji1_ : (IntKind.u64.wrap ((IntKind.u64.wrap (rd l0 x2_2)) * 2 ^ min (ji0).toNat 64)) = ji1 := hji1
      have hji1z : (ji0) ≤ 64 → (IntKind.u64.wrap ((IntKind.u64.wrap (rd l0 x2_2)) * 2 ^ (ji0).toNat)) = ji1 := shl_small hji1
      have H' := Aside0.mk H
      clear H
      have p0 : 0 ≤ (x2_2 : Int) := of_decide_eq_true (by first | (with_reducible assumption) | assumption)
      have q0 : x2_2 < (l0.length : Int) := of_decide_eq_true (by first | (with_reducible assumption) | assumption)
      obtain ⟨ad0, e0, hx0_0⟩ := Kd.at_int HR0.out x2_2 p0 q0
      cases e0
      replace hx0_0 := Cz.hx HB hx0_0
      replace p0 := eq_true p0
      replace q0 := eq_true q0
      go_wp2
      go_roundg k2
      case measure => have := HJ0.out; have := HK0.out; omega
      case rel => exact ⟨(Go.bits .or .u64 x1_2 (ji1)), (wrap64 (x2_2 + 1)), (by first | rfl | (simp; done) | (simp only [← hji1] <;> (first | rfl | simp)) | (simp [*]; done)), Cz.si, H', ⟨by have := HJ0.out; have := HK0.out; omega⟩, ⟨Cz.bl (w := w)⟩⟩
     rw [if_neg c7] at H
     have c7b0 : decide (x2_2 < a1) = false := decide_eq_false c7
     clear c7
     by_cases c13 : 0 ≤ a1
     rotate_left
     ·rw [if_neg c13] at H
      exact absurd H (by simp)
     rw [if_pos c13] at H
     have c13b0 := eq_true c13
     have c13b1 : decide (0 ≤ a1) = true := decide_eq_true c13
     clear c13
     by_cases c14 : a1 ≤ (l0.length : Int)
     rotate_left
     ·rw [if_neg c14] at H
      exact absurd H (by simp)
     rw [if_pos c14] at H
     have c14b0 := eq_true c14
     have c14b1 : decide (a1 ≤ (l0.length : Int)) = true := decide_eq_true c14
     clear c14
     replace H := Option.bind_eq_some_iff.mp H
     obtain ⟨t0, A2, H⟩ := H
     (try dsimp only at H)
     have A3 := Aside0.mk A2
     clear A2
     simp only [Option.some.injEq, Prod.mk.injEq] at H
     obtain ⟨rfl, rfl, rfl⟩ := H
     obtain ⟨i0, hi0, _, hsz0, _⟩ := info_parts info5
     obtain ⟨A5, hcut0, hA0, hC0⟩ := print_drop_of (P := Try.prog) (Value.int .u8) 0 27 5 .i64 Try.underlying27 hi0 hsz0 A0 c0 l0 a1 (of_decide_eq_true (by first | (with_reducible assumption) | assumption)) (of_decide_eq_true (by first | (with_reducible assumption) | assumption)) HC0.out
     have HR1 := Aside0.mk (Kd.C_of_reads (h1 := fun _ => rfl) (hA0 _ (Kd.reads_of_C HR0.out)))
     have HC2 := Aside0.mk hC0
     clear hA0 hC0 hi0 hsz0
     go_wp2_with (first | ((with_reducible refine gate_callee (f := 72) rfl ?_); refine goesL_ (some 36) rfl rfl Try.func72 (by kernel_rfl) rfl #[.slice A5 (l0.drop (a1 : Int).toNat).length (c0 - a1.toNat)] rfl (by (try simp only [List.map_toArray, List.map_cons, List.map_nil]); first | done | (rw [show (l0.drop (a1 : Int).toNat).length = (l0.length - a1.toNat) from List.length_drop] <;> rfl) | rfl | (simp only [List.length_drop, List.length_take]; rfl)) ?_; (with_reducible refine (bytes_Clone.calls _ _ (l0.drop (a1 : Int).toNat) t0 _ ?side0 ?side1 A3.out).mono ?_); (case side0 => exact Cz.cb HR1); (case side1 => exact HC2.out); rintro e w0 ⟨v0, rfl, ho0, hb⟩; refine ⟨_, rfl, ?_⟩; have HO0 := Aside0.mk (Kd.R_lower ho0 (below_size (Cz.bl (w := w)))); replace HB := Cz.bs (w := w) hb; (try clear hb); (try clear ho0)))
     go_ret3
     exact ⟨_, Cz.er, Cz.rh, Cz.bl (w := w)⟩
def le_Take.f (l0 : List Int) (a1 : Int) : Option (Int × List Int × Int) := if Pl.byteB l0 = true ∧ l0.length < 70368744177664 then some (Pl.takeS l0 a1) else none
theorem le_Take.may (s : Int) : le_may.f 0 s = some (Pl.okS s) := by
 unfold le_may.f
 by_cases h1 : s = 1
 ·subst h1
  rw [if_pos rfl, show (wrap64 (8 * 1)) = 8 from by unfold wrap64; omega, if_pos (by decide)]
  rfl
 by_cases h2 : s = 2
 ·subst h2
  rw [if_neg (by decide), if_pos rfl, show (wrap64 (8 * 2)) = 16 from by unfold wrap64; omega, if_pos (by decide)]
  rfl
 by_cases h4 : s = 4
 ·subst h4
  rw [if_neg (by decide), if_neg (by decide), if_pos rfl, show (wrap64 (8 * 4)) = 32 from by unfold wrap64; omega, if_pos (by decide)]
  rfl
 rw [if_neg h1, if_neg h2, if_neg h4]
 unfold Pl.okS
 simp [h1, h2, h4]
theorem le_Take.step (v b i : Nat) (hv : v < 2 ^ (8 * i)) (hb : b < 256) (hi : i < 8) : bits .or .u64 (v : Int) (shl .u64 (IntKind.u64.wrap (b : Int)) (wrap64 (8 * (i : Int)))) = ((2 ^ (8 * i) * b + v : Nat) : Int) := by
 have e1 : IntKind.u64.wrap (b : Int) = (b : Int) := by rw [IntKind.wrap_u64]; omega
 have e2 : wrap64 (8 * (i : Int)) = ((8 * i : Nat) : Int) := by unfold wrap64; omega
 have hp : 2 ^ (8 * i) * b < 18446744073709551616 := by
  have h1 : 2 ^ (8 * i) * 256 ≤ 2 ^ 64 := by
   rw [show (256 : Nat) = 2 ^ 8 from rfl, ← Nat.pow_add]
   exact Nat.pow_le_pow_right (by decide) (by omega)
  have h2 : 2 ^ (8 * i) * b < 2 ^ (8 * i) * 256 := Nat.mul_lt_mul_of_pos_left hb (Nat.two_pow_pos _)
  omega
 have h64 : 2 ^ (8 * i) ≤ 2 ^ 64 := Nat.pow_le_pow_right (by decide) (by omega)
 have hv0 : v < 18446744073709551616 := Nat.lt_of_lt_of_le hv h64
 unfold shl
 rw [e1, e2, Int.toNat_natCast, Nat.min_eq_left (show 8 * i ≤ IntKind.u64.bits from by show 8 * i ≤ 64; omega),
  show (b : Int) * 2 ^ (8 * i) = ((2 ^ (8 * i) * b : Nat) : Int) from by push_cast; rw [Int.mul_comm], IntKind.wrap_u64]
 obtain ⟨p, hpe⟩ : ∃ p, p = 2 ^ (8 * i) * b := ⟨_, rfl⟩
 rw [← hpe] at hp ⊢
 rw [show ((p : Nat) : Int) % 18446744073709551616 = (p : Int) from by omega, u64_or_nat v p hv0 hp, hpe, Nat.or_comm, Nat.two_pow_add_eq_or_of_lt hv b]
theorem le_Take.grow (l : List Int) (hb : Pl.byteB l = true) (i : Nat) (hi : i < l.length) : ∃ b : Nat, b < 256 ∧ rd l (i : Int) = (b : Int) ∧ Pl.leN (Pl.nats (l.take i)) < 2 ^ (8 * i) ∧ Pl.leN (Pl.nats (l.take (i + 1))) = 2 ^ (8 * i) * b + Pl.leN (Pl.nats (l.take i)) := by
 obtain ⟨b, hb8, hg, ht⟩ := Pl.byteB_at hb i hi
 have hn : ∀ j, Pl.nats (l.take j) = (Pl.nats l).take j := fun j => by unfold Pl.nats; rw [List.map_take]
 have hbt : Pl.Bytes ((Pl.nats l).take i) := Pl.bytes_take (Pl.byteB_bytes hb) i
 have hlen : ((Pl.nats l).take i).length = i := by rw [List.length_take, Pl.nats_length]; omega
 have hlt : Pl.leN (Pl.nats (l.take i)) < 2 ^ (8 * i) := by
  have := Pl.leN_lt _ hbt
  rw [hlen] at this
  rw [hn]
  exact this
 refine ⟨b, hb8, by unfold rd; rw [Int.toNat_natCast, hg], hlt, ?_⟩
 rw [Pl.add_eq_xor hlt, hn, hn, ht, Pl.leN_append _ _ hbt, hlen, Nat.xor_comm]
 congr 1
 simp [Pl.leN]
theorem le_Take.loop (l : List Int) (hb : Pl.byteB l = true) (s : Nat) (hs : s ≤ l.length) (hs8 : s ≤ 8) (hl : l.length < 70368744177664) : ∀ (d k i : Nat), i + d = s → d < k →
  le_Take_p.l0 k l (s : Int) ((Pl.leN (Pl.nats (l.take i)) : Nat) : Int) (s : Int) (i : Int) = some (((Pl.leN (Pl.nats (l.take s)) : Nat) : Int), l.drop s, 0)
 | 0, k, i, hi, hk => by
  obtain ⟨k, rfl⟩ : ∃ m, k = m + 1 := ⟨k - 1, by omega⟩
  obtain rfl : i = s := by omega
  simp only [le_Take_p.l0]
  unfold bytes_Clone.f
  rw [if_neg (by omega), if_pos (by omega), if_pos (by omega), Int.toNat_natCast, if_pos (by rw [List.length_drop]; omega), Option.bind_some]
 | d + 1, k, i, hi, hk => by
  obtain ⟨k, rfl⟩ : ∃ m, k = m + 1 := ⟨k - 1, by omega⟩
  obtain ⟨b, hb8, hr, hlt, hgo⟩ := le_Take.grow l hb i (by omega)
  simp only [le_Take_p.l0]
  rw [if_pos (by omega), if_pos (by omega), if_pos (by omega), if_pos (by unfold wrap64; omega), hr, le_Take.step _ b i hlt hb8 (by omega), ← hgo, show wrap64 ((i : Int) + 1) = ((i + 1 : Nat) : Int) from by unfold wrap64; omega]
  exact le_Take.loop l hb s hs hs8 hl d k (i + 1) (by omega) (by omega)
theorem le_Take.tells {l0 : List Int} {a1 : Int} {r : Int × List Int × Int} (h : le_Take.f l0 a1 = some r) : le_Take_p.f 12 l0 a1 = some r := by
 unfold le_Take.f at h
 split at h
 case isFalse => cases h
 rename_i hh
 obtain ⟨h0, h1⟩ := hh
 obtain rfl := Option.some.inj h
 unfold le_Take_p.f
 rw [le_Take.may, Option.bind_some]
 unfold Pl.takeS
 by_cases hs : Pl.okS a1 = true
 ·obtain ⟨s, rfl⟩ := Int.eq_ofNat_of_zero_le (show 0 ≤ a1 from by rcases Pl.okS_iff.1 hs with h | h | h | h <;> omega)
  have hs8 : s ≤ 8 := by rcases Pl.okS_iff.1 hs with h | h | h | h <;> omega
  rw [if_pos hs]
  simp only [le_Take_p.j0]
  by_cases hl : (l0.length : Int) < (s : Int)
  ·rw [decide_eq_true hl, if_pos rfl, if_neg (by omega)]
  rw [decide_eq_false hl, if_neg (by decide), if_pos ⟨hs, by omega⟩, Int.toNat_natCast]
  exact le_Take.loop l0 h0 s (by omega) hs8 h1 s 11 0 (by omega) (by omega)
 rw [if_neg hs, if_neg (fun h => hs h.1)]
 simp only [le_Take_p.j0]
 rfl
theorem le_Take.calls (A0 : Option Addr) (c0 : Nat) (l0 : List Int) (a1 : Int) (r1 : Int) (r2 : List Int) (r3 : Int) (w : World) (hr0 : Kd.C (Kd.int .u8) w A0 l0.length l0) (hc0 : l0.length ≤ c0) (h : le_Take.f l0 a1 = some (r1, r2, r3)) :
  Calls Try.prog 70 #[.slice A0 l0.length c0, .int .i64 a1] w fun e w' => ∃ v1_ : Value, e = .returned (.tuple #[.int .u64 r1, v1_, .int .i64 r3]) ∧ Kd.R (Kd.int .u8) 5 w' w.heap.size (fun _ => True) v1_ r2 ∧ Below w.heap.size w w' :=
 le_Take_p.calls 12 A0 c0 l0 a1 r1 r2 r3 w hr0 hc0 (le_Take.tells h)
def le_Unpack.f (a0 : ByteArray) (l1 : List Int) : Option (List Int × Int) := if Pl.byteB l1 = true ∧ l1.length < 70368744177664 ∧ a0.size < 2147483648 then some (Pl.unpackS (Pl.fb a0) l1) else none
theorem le_Unpack.R_iter {α : Type} {d : Kd α} {e base : Nat} {ok : Nat → Prop} {v : Value} {xs : List α} {w : World} {B : Nat} (h : d.R e w base ok v xs) (hB : B < base) (s : ByteArray) (p : Nat) : d.R e (w.iterAt B s p) base ok v xs :=
 Kd.R_mono (Kd.R_move (Kd.R_bound h) (fun k hk => Lib.iterAt_other w B k s p (by have := hk.2.1; omega))) (fun _ hk => hk.1)
theorem le_Unpack.drop {b : List Int} (h : Pl.byteB b = true) (n : Nat) : Pl.byteB (b.drop n) = true := by
 rw [Pl.byteB_iff] at h ⊢
 exact fun x hx => h x (List.mem_of_mem_drop hx)
theorem le_Unpack.rune (s : ByteArray) (i : Nat) (h : i < s.size) : Pl.letS ((Utf8.decode s i).1 : Int) = Pl.letS ((Pl.fb s)[i]'(by rw [Pl.fb_length]; exact h)) ∧ (Pl.letS ((Pl.fb s)[i]'(by rw [Pl.fb_length]; exact h)) ≠ 0 → (Utf8.decode s i).2 = 1) := by
 have e : (Pl.fb s)[i]'(by rw [Pl.fb_length]; exact h) = (((s[i]'h).toNat : Nat) : Int) := by
  simp only [Pl.fb, List.getElem_map]
  rfl
 rw [e]
 by_cases ha : (s[i]'h).toNat < 128
 ·rw [decode_ascii s i h ha]
  exact ⟨rfl, fun _ => rfl⟩
 have hd := decode_high s i h (by omega)
 have z : ∀ c : Nat, 128 ≤ c → Pl.letS (c : Int) = 0 := fun c hc => by
  unfold Pl.letS
  rw [if_neg (by omega), if_neg (by omega), if_neg (by omega), if_neg (by omega)]
 rw [z _ hd.1, z _ (by omega)]
 exact ⟨rfl, fun h => absurd rfl h⟩
set_option maxHeartbeats 8000000 in
set_option maxRecDepth 2000000 in
theorem le_Unpack.callsV (a0 : ByteArray) (P1_ : Nat → Prop) (A1 : Option Addr) (c1 : Nat) (l1 : List Int) (r1 : List Int) (r2 : Int) (w : World) (hs1 : Kd.V (Kd.int .u8) 5 w w.heap.size (fun k_ => P1_ k_) (.slice A1 l1.length c1) l1) (h : le_Unpack.f a0 l1 = some (r1, r2)) :
  Calls Try.prog 44 #[.string a0, .slice A1 l1.length c1] w fun e w' => ∃ v0_ : Value, e = .returned (.tuple #[v0_, .int .i64 r2]) ∧ Kd.R (Kd.int .u64) 68 w' w.heap.size (fun k_ => (w.heap.size ≤ k_)) v0_ r1 ∧ Below w.heap.size w w' := by
 unfold le_Unpack.f at h
 split at h
 case isFalse => cases h
 rename_i hh
 obtain ⟨hb, hbl, hsz⟩ := hh
 have HP0 := Aside0.mk (Option.some.inj h)
 have HBY := Aside0.mk hb
 have HBL := Aside0.mk hbl
 clear h hb hbl
 obtain ⟨B, hB⟩ : ∃ B, B = w.heap.size := ⟨_, rfl⟩
 have HBN := Aside0.mk hB
 clear hB
 have HV0 : Aside0 (Kd.V (Kd.int .u8) 5 (w.iter a0 0) 0 (fun k => k ≠ B) (.slice A1 l1.length c1) l1) := ⟨Kd.V_mono (Kd.V_alloc (Kd.V_bound (Kd.V_lower (base' := 0) hs1 (Nat.zero_le _))) _) (fun k hk => by have := hk.2; rw [HBN.out]; omega)⟩
 have hk0 : Aside0 ((w.iter a0 0).heap[B]? = some (.stringIter a0 0)) := ⟨by rw [HBN.out]; exact World.iter_heap w a0 0⟩
 have hb0 : Aside0 (Below w.heap.size w (w.iter a0 0)) := ⟨(Below.refl _ w).alloc (Nat.le_refl _) _⟩
 have hs0 : Aside0 (B + 1 ≤ (w.iter a0 0).heap.size) := ⟨by rw [HBN.out]; simp [World.iter]⟩
 clear hs1
 go_enter Try.func44, Try.ntmps44
 go_wp2
 rw [← HBN.out]
 generalize w.iter a0 0 = w0 at hk0 hb0 hs0 HV0 ⊢
 go_loopw [1, 4] (fun v u wr => ∃ (i : Nat) (out b : List Int), i ≤ a0.size ∧ Aside0 (out.length ≤ i) ∧ Aside0 (Pl.byteB b = true) ∧ Aside0 (b.length < 70368744177664) ∧ Aside0 (wr.heap[B]? = some (.stringIter a0 i)) ∧ Aside0 (Kd.V (Kd.int .u8) 5 wr 0 (fun k => k ≠ B) v b) ∧ Aside0 (Kd.R (Kd.int .u64) 68 wr (B + 1) (fun k => B + 1 ≤ k) u out) ∧ Aside0 (Pl.unpackGo out ((Pl.fb a0).drop i) b = (r1, r2)) ∧ Aside0 (B + 1 ≤ wr.heap.size) ∧ Aside0 (Below w.heap.size w wr)) (fun _ _ wr => a0.size - wr.iterPos B)
 case atStart => exact ⟨0, [], l1, by omega, ⟨Nat.le_refl _⟩, HBY, HBL, hk0, HV0, ⟨Kd.R_nil _ _ _ _ _⟩, HP0, hs0, hb0⟩
 case round =>
  clear hk0 hb0 hs0 HP0 HV0 HBY HBL
  obtain ⟨i, out, b, hi, HOL, HBY, HBL, hk, HV, HO, HP, HS, HB⟩ := hrel
  obtain ⟨Ab, cb, rfl⟩ := Kd.V_slice HV.out
  by_cases hp : i < a0.size
  rotate_left
  ·have hnext : ∀ ty, (Instr.next (.pointer (some ⟨B, 0, none⟩)) true ty).run Try.prog wr = _ := fun ty => Lib.run_next_end_at wr B a0 i ty hk.out hp
   have e := HP.out
   rw [List.drop_eq_nil_of_le (by rw [Pl.fb_length]; omega), Pl.unpackGo] at e
   by_cases hl : 0 < b.length
   ·have d0 : decide ((0 : Int) < (b.length : Int)) = true := decide_eq_true (by omega)
    have d1 : decide (0 < b.length) = true := decide_eq_true hl
    rw [if_neg (by intro h0; rw [h0] at hl; exact absurd hl (by decide))] at e
    injection e with e1 e2
    subst e1 e2
    go_wp2
    go_ret2
    exact ⟨_, rfl, Kd.R_nil _ _ _ _ _, HB.out⟩
   have d0 : decide ((0 : Int) < (b.length : Int)) = false := decide_eq_false (by omega)
   have d1 : decide (0 < b.length) = false := decide_eq_false hl
   rw [if_pos (List.length_eq_zero_iff.1 (by omega))] at e
   injection e with e1 e2
   subst e1 e2
   go_wp2
   go_ret2
   exact ⟨_, rfl, Kd.R_mono (Kd.R_lower HO.out (by rw [HBN.out]; omega)) (fun k hk => by rw [← HBN.out]; omega), HB.out⟩
  obtain ⟨rs, rn⟩ := le_Unpack.rune a0 i hp
  have hif : i < (Pl.fb a0).length := by rw [Pl.fb_length]; exact hp
  have hle := decode_le a0 i
  obtain ⟨z, hz⟩ : ∃ z, z = Pl.letS ((Pl.fb a0)[i]'hif) := ⟨_, rfl⟩
  rw [← hz] at rs rn
  have HZ := Aside0.mk hz
  have hnext : ∀ ty, (Instr.next (.pointer (some ⟨B, 0, none⟩)) true ty).run Try.prog wr = _ := fun ty => Lib.run_next_any_at wr B a0 i ty hk.out hp
  obtain ⟨q, hq⟩ : ∃ q, q = i + (Utf8.decode a0 i).2 := ⟨_, rfl⟩
  rw [← hq] at hnext
  have HRN : Aside0 (z ≠ 0 → q = i + 1) := ⟨fun h => by rw [hq, rn h]⟩
  obtain ⟨c, hc⟩ : ∃ c, c = (Utf8.decode a0 i).1 := ⟨_, rfl⟩
  rw [← hc] at hnext rs hle
  have HRS : Aside0 (le_size.f (c : Int) = some z) := ⟨by unfold le_size.f; rw [if_pos ⟨by omega, by omega⟩, rs]⟩
  have hmu : Aside0 (wr.iterPos B = i) := ⟨by simp [World.iterPos, hk.out]⟩
  clear hq hc rs rn hle hz
  have hk1 := Aside0.mk (Lib.iterAt_heap wr B a0 i q hk.out)
  have hn1 := Aside0.mk (Lib.below_iterAt (k := B) HB.out (by rw [HBN.out]; exact Nat.le_refl _) a0 q)
  have HO1 := Aside0.mk (le_Unpack.R_iter HO.out (Nat.lt_succ_self B) a0 q)
  have HV1 := Aside0.mk (Kd.V_step (w1 := wr.iterAt B a0 q) HV.out (fun k hk _ => Lib.iterAt_other wr B k a0 q hk))
  have hs1 : Aside0 (B + 1 ≤ (wr.iterAt B a0 q).heap.size) := ⟨by rw [Lib.iterAt_size]; exact HS.out⟩
  clear hk HO HS HB HV
  generalize wr.iterAt B a0 q = W1 at hnext hk1 hn1 HO1 HV1 hs1
  obtain ⟨x, rest, E, HTK⟩ : ∃ x rest E, Aside0 (Pl.takeS b z = (x, rest, E)) := ⟨_, _, _, ⟨rfl⟩⟩
  have HTake : Aside0 (le_Take.f b z = some (x, rest, E)) := ⟨by unfold le_Take.f; rw [if_pos ⟨HBY.out, HBL.out⟩, HTK.out]⟩
  by_cases hf : Pl.okS z = true ∧ z ≤ b.length
  all_goals
   have e := HTK.out
   unfold Pl.takeS at e
  focus rw [if_pos hf] at e
  rotate_left
  focus rw [if_neg hf] at e
  rotate_left
  all_goals
   injection e with e1 e2
   injection e2 with e2 e3
  ·have HX := Aside0.mk e1
   have HRE := Aside0.mk e2
   subst e3
   clear e1 e2
   have LM := Aside0.mk (show out.length < 17592186044416 from by have := HOL.out; omega)
   go_wp2_with (first | (go_at_call 67; refine (le_size.calls _ _ _ HRS.out).mono ?_; rintro e w2 ⟨rfl, hb2⟩; have HV2 := Aside0.mk (Kd.V_below HV1.out hb2); have HO2 := Aside0.mk (Kd.R_below HO1.out hb2); have hn2 := Aside0.mk (below_step hn1.out hb2); have hs2 := Aside0.mk (Nat.le_trans hs1.out hb2.size); have hk2 := Aside0.mk ((hb2.block B (by have := hs1.out; omega)).trans hk1.out); clear hb2) | (go_at_call 70; refine (le_Take.calls _ _ b z x rest 0 _ (Kd.V_reads' HV2.out).2.2 (Kd.V_reads' HV2.out).2.1 HTake.out).mono ?_; rintro e w3 ⟨vr, rfl, ho, hb3⟩; have HR3 := Aside0.mk (Kd.R_lower ho hs2.out); have HO3 := Aside0.mk (Kd.R_below HO2.out hb3); have hn3 := Aside0.mk (below_step hn2.out hb3); have hs3 := Aside0.mk (Nat.le_trans hs2.out hb3.size); have hk3 := Aside0.mk ((hb3.block B (by have := hs2.out; omega)).trans hk2.out); clear hb3 ho) | ((with_reducible refine gate_builtin (b := .append) (xs := #[.tmp 25, .tmp 27]) rfl ?_); at_builtin; refine Kd.R_append (Kd.int .u64) (w0 := w3) (B + 1) rfl (.tmp 25) (.tmp 27) 72 68 (.int .u64 0) 8 rfl Try.underlying72 info68 rfl (by decide) (by omega) u4 out x [.int .u64 x] (fun k_ => B + 1 ≤ k_) (fun _ => False) rfl rfl ?aP (fun _ hk => hk.elim) ?aF ?aO ?aB ?aS ?aL ?_; (case aP => exact rfl); (case aB => exact Below.refl _ _); (case aF => exact (fun k_ hk => Nat.le_trans hs3.out hk)); (case aO => exact HO3.out); (case aS => exact hs3.out); (case aL => have := LM.out; omega); intro v9 w4 ho hb4 hg hat; have HO4 := Aside0.mk ho; have HR4 := Aside0.mk (Kd.R_over' HR3.out (Kd.R_typed HO3.out) (by decide) hg); have hb4' := Aside0.mk hb4; clear ho hb4 hg hat))
   have h8 : z ≤ 8 ∧ 0 ≤ z ∧ z ≠ 0 := by have := hf.1; rw [Pl.okS_iff] at this; omega
   have hk4 : Aside0 (w4.heap[B]? = some (.stringIter a0 (i + 1))) := ⟨by rw [hb4'.out.block B (Nat.lt_succ_self B), hk3.out, HRN.out h8.2.2]⟩
   have hm4 : Aside0 (w4.iterPos B = i + 1) := ⟨by simp [World.iterPos, hk4.out]⟩
   go_roundw
   case rel =>
    refine ⟨i + 1, out ++ [x], rest, by omega, ⟨?_⟩, ⟨?_⟩, ⟨?_⟩, ⟨?_⟩, ⟨?_⟩, HO4, ⟨?_⟩, ⟨?_⟩, ⟨?_⟩⟩
    ·rw [List.length_append, List.length_singleton]; have := HOL.out; omega
    ·rw [← HRE.out]; exact le_Unpack.drop HBY.out _
    ·rw [← HRE.out, List.length_drop]; have := HBL.out; omega
    ·exact hk4.out
    ·exact Kd.V_mono (Kd.R_V (Kd.R_bound HR4.out)) (fun k hk => by have := hk.2.1; omega)
    ·have e := HP.out
     rw [List.drop_eq_getElem_cons hif, Pl.unpackGo, ← HZ.out, if_pos hf, HX.out, HRE.out] at e
     exact e
    ·exact Nat.le_trans hs3.out hb4'.out.size
    ·exact hn3.out.trans (hb4'.out.mono (by have := HBN.out; omega))
   case measure => rw [hmu.out, hm4.out]; omega
  ·subst e1 e2 e3
   go_wp2_with (first | (go_at_call 67; refine (le_size.calls _ _ _ HRS.out).mono ?_; rintro e w2 ⟨rfl, hb2⟩; have HV2 := Aside0.mk (Kd.V_below HV1.out hb2); have hn2 := Aside0.mk (below_step hn1.out hb2); clear hb2) | (go_at_call 70; refine (le_Take.calls _ _ b z 0 [] 10 _ (Kd.V_reads' HV2.out).2.2 (Kd.V_reads' HV2.out).2.1 HTake.out).mono ?_; rintro e w3 ⟨vr, rfl, ho, hb3⟩; have hn3 := Aside0.mk (below_step hn2.out hb3); clear hb3 ho))
   go_ret2
   have e := HP.out
   rw [List.drop_eq_getElem_cons hif, Pl.unpackGo, ← HZ.out, if_neg hf] at e
   injection e with e1 e2
   subst e1 e2
   exact ⟨_, rfl, Kd.R_nil _ _ _ _ _, hn3.out⟩
theorem le_Unpack.calls (a0 : ByteArray) (A1 : Option Addr) (c1 : Nat) (l1 : List Int) (r1 : List Int) (r2 : Int) (w : World) (hr1 : Kd.C (Kd.int .u8) w A1 l1.length l1) (hc1 : l1.length ≤ c1) (h : le_Unpack.f a0 l1 = some (r1, r2)) :
  Calls Try.prog 44 #[.string a0, .slice A1 l1.length c1] w fun e w' => ∃ v0_ : Value, e = .returned (.tuple #[v0_, .int .i64 r2]) ∧ Kd.R (Kd.int .u64) 68 w' w.heap.size (fun _ => True) v0_ r1 ∧ Below w.heap.size w w' :=
 (le_Unpack.callsV a0 _ A1 c1 l1 r1 r2 w (Kx.V_of_C _ _ hc1 hr1) h).mono fun e w' h => by
  obtain ⟨v, he, hr, hb⟩ := h
  exact ⟨v, he, Kd.R_mono hr (fun _ _ => trivial), hb⟩
def crc_Open.f (l0 : List Int) : Option (List Int × Int) := if Pl.byteB l0 = true ∧ l0.length < 70368744177664 then some (Pl.openS l0) else none
set_option maxHeartbeats 2000000 in
theorem crc_Open.calls (A0 : Option Addr) (c0 : Nat) (l0 : List Int) (r1 : List Int) (r2 : Int) (w : World) (hr0 : Kd.C (Kd.int .u8) w A0 l0.length l0) (hc0 : l0.length ≤ c0) (h : crc_Open.f l0 = some (r1, r2)) :
  Calls Try.prog 45 #[.slice A0 l0.length c0] w fun e w' => ∃ v0_ : Value, e = .returned (.tuple #[v0_, .int .i64 r2]) ∧ Kd.R (Kd.int .u8) 5 w' w.heap.size (fun _ => True) v0_ r1 ∧ Below w.heap.size w w' := by
 unfold crc_Open.f at h
 split at h
 case isFalse => cases h
 rename_i hh
 obtain ⟨hby, hlen⟩ := hh
 replace h := Option.some.inj h
 have HR0 := Aside0.mk hr0
 have HC0 := Aside0.mk hc0
 have HBY := Aside0.mk hby
 clear hr0 hc0 hby
 by_cases hlt : l0.length < 4
 ·have ho : Pl.openB l0 = false := by unfold Pl.openB; rw [decide_eq_false (by omega)]; rfl
  rw [Pl.openS, if_neg (by rw [ho]; decide)] at h
  obtain ⟨rfl, rfl⟩ := Prod.mk.inj h
  clear h ho
  have d1 : decide ((l0.length : Int) - 4 < 0) = true := decide_eq_true (by omega)
  go_enter Try.func45, Try.ntmps45
  go_wp2
  go_ret2
  exact ⟨_, rfl, Kd.R_nil _ _ _ _ _, Below.refl _ _⟩
 obtain ⟨i0, hi, hz0, hz1, hz2⟩ := info_parts info5
 obtain ⟨m, hm⟩ : ∃ m, m = l0.length - 4 := ⟨_, rfl⟩
 obtain ⟨hcut, -, hC⟩ := print_take_of (P := Try.prog) (Value.int .u8) 0 27 5 .i64 Try.underlying27 hi hz1 A0 c0 l0 ((l0.length : Int) - 4) (by omega) (by omega) HC0.out
 have e4 : ((l0.length : Int) - 4).toNat = m := by omega
 have hml : (l0.take m).length = m := by rw [List.length_take]; omega
 rw [e4, hml] at hcut hC
 have HT : Aside0 (Kd.C (Kd.int .u8) w A0 m (l0.take m)) := ⟨by have := Kx.takeC m (by omega) HR0.out; rw [hml] at this; exact this⟩
 have hbt : Pl.byteB (l0.take m) = true := Pl.byteB_iff.2 fun x hx => Pl.byteB_iff.1 HBY.out x (List.mem_of_mem_take hx)
 have hS := fun (w : World) (hr : Kd.C (Kd.int .u8) w A0 (l0.take m).length (l0.take m)) => crc_Seal.calls A0 c0 (l0.take m) _ w hr (by omega) (by unfold crc_Seal.f; rw [if_pos ⟨hbt, by omega⟩])
 rw [hml] at hS
 have HS := Aside0.mk hS
 clear hS
 have hq : Pl.openB l0 = (Pl.seal4 (l0.take m) == l0) := by unfold Pl.openB; rw [decide_eq_true (by omega), ← hm]; rfl
 have HQ := Aside0.mk hq
 have hE := fun (A1 : Option Addr) (c1 : Nat) (w : World) (hr : Kd.C (Kd.int .u8) w A1 (Pl.seal4 (l0.take m)).length (Pl.seal4 (l0.take m))) (hc : (Pl.seal4 (l0.take m)).length ≤ c1) (hr' : Kd.C (Kd.int .u8) w A0 l0.length l0) => bytes_Equal.calls A1 c1 (Pl.seal4 (l0.take m)) A0 c0 l0 (Pl.openB l0) w hr hc hr' HC0.out (by unfold bytes_Equal.f; rw [if_pos ⟨Pl.seal4_byte hbt, HBY.out⟩, hq])
 have HE := Aside0.mk hE
 clear hE hq hbt
 obtain ⟨q, hqq⟩ : ∃ q, q = Pl.seal4 (l0.take m) := ⟨_, rfl⟩
 rw [← hqq] at HS HE HQ
 clear hqq
 have d1 : decide ((l0.length : Int) - 4 < 0) = false := decide_eq_false (by omega)
 obtain ⟨b, hb⟩ : ∃ b, b = Pl.openB l0 := ⟨_, rfl⟩
 rw [← hb] at HE HQ
 unfold Pl.openS at h
 rw [← hb, ← hm] at h
 clear hb
 have HM := Aside0.mk hm
 clear hm HQ
 cases b with
 | true =>
  obtain ⟨rfl, rfl⟩ := Prod.mk.inj h
  clear h
  go_enter Try.func45, Try.ntmps45
  go_wp2_with fail
  refine (HS.out _ HT.out).mono ?_
  rintro e w1 ⟨v1, rfl, ho0, hb1⟩
  obtain ⟨A1, c1, rfl, hc1, hr1⟩ := Kd.R_reads ho0
  have HB0 := Aside0.mk hb1
  have HC1 := Aside0.mk hc1
  have HR1 := Aside0.mk hr1
  have hsz : w.heap.size ≤ w1.heap.size := hb1.size
  clear ho0 hb1 hr1 hc1
  go_wp2_with fail
  refine (HE.out _ _ _ HR1.out HC1.out (Kd.C_below HR0.out HB0.out)).mono ?_
  rintro e w' ⟨rfl, ⟨nd, rfl⟩⟩
  have HB := Aside0.mk (pw_below_drewN HB0.out nd)
  clear HB0
  go_wp2_with (first | ((with_reducible refine gate_dst (N := 19) rfl ?_); refine Kd.R_lit (Kd.int .u8) _ 5 ?hg (N := 19) ?hd (xs := ([] : List Int)) (inner := []) (ok := fun _ => True) (okp := fun _ => True) ?hr ?hp (fun _ hk => hk) trivial (Below.refl _ _) (Nat.le_refl _) (by simp) ?_; (case hd => rfl); (case hg => rfl); (case hr => first | (go_simp; done) | (go_simp; rfl)); (case hp => exact (Reps.none _ _)); intro v2 w2 ho1 hb hg_ hnew_; clear hg_ hnew_; have HO0 := Aside0.mk (Kd.R_lower ho1 (below_size HB.out)); replace HB := Cz.bs (w := w) hb; clear hb ho1) | ((with_reducible refine gate_builtin (b := .append) (xs := #[.tmp 19, .tmp 22]) rfl ?_); at_builtin; go_must (refine Kd.R_append_rows (Kd.int .u8) (w0 := w) w.heap.size rfl (.tmp 19) (.tmp 22) 27 5 (.int .u8 0) 1 rfl Try.underlying27 info5 rfl (by decide) (by omega) v2 [] (l0.take m) _ m _ (fun _ => True) (fun _ => False) rfl rfl ?aO ?aR (fun _ _ h => h) (fun _ h => h.elim) ?aF ?aB ?aS ?aL ?_); (case aR => exact (Kd.C_below HT.out HB.out)); (case aB => exact HB.out); (case aF => exact (fun _ _ => trivial)); (case aO => exact HO0.out); (case aS => exact below_size HB.out); (case aL => have := HM.out; simp; omega); intro v3 w3 ho hb hg hat; have HO1 := Aside0.mk (ho); replace HB := Aside0.mk (hb); clear HO0; clear ho hb hg hat))
  go_ret2
  exact ⟨_, rfl, HO1.out, HB.out⟩
 | false =>
  obtain ⟨rfl, rfl⟩ := Prod.mk.inj h
  clear h
  go_enter Try.func45, Try.ntmps45
  go_wp2_with fail
  refine (HS.out _ HT.out).mono ?_
  rintro e w1 ⟨v1, rfl, ho0, hb1⟩
  obtain ⟨A1, c1, rfl, hc1, hr1⟩ := Kd.R_reads ho0
  have HB0 := Aside0.mk hb1
  have HC1 := Aside0.mk hc1
  have HR1 := Aside0.mk hr1
  clear ho0 hb1 hr1 hc1
  go_wp2_with fail
  refine (HE.out _ _ _ HR1.out HC1.out (Kd.C_below HR0.out HB0.out)).mono ?_
  rintro e w' ⟨rfl, ⟨nd, rfl⟩⟩
  go_wp2
  go_ret2
  exact ⟨_, rfl, Kd.R_nil _ _ _ _ _, pw_below_drewN HB0.out nd⟩
end Go.Proofs.Ytohkmmbmfhficaa.PT
