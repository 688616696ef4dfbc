/- Words and walks that this claim names, of those that the kit's print and programs of this workplace have printed. -/
import Derived.Test.YtohkmmbmfhficaaZTCz
import Derived.Test.YtohkmmbmfhficaaZTPTx5
import Derived.Test.YtohkmmbmfhficaaZTPTx8
namespace Go.Proofs.Ytohkmmbmfhficaa.PT
open Go.Proofs.Ytohkmmbmfhficaa Go.RowKit Go.Proofs.YtohkmmbmfhficaaW.PrintWords Go.Proofs.YtohkmmbmfhficaaW.PrintLast Go.Proofs.YtohkmmbmfhficaaW.PrintMore
attribute [local go_sem] max2_int min2_int max_two min_two max_three min_three max_four min_four
set_option linter.unusedVariables false
set_option linter.unusedSimpArgs false
theorem intOf_i64 (x : Int) : intOf (.int .i64 x) = x := rfl
theorem meas_next {n j : Nat} (h : j < n) : n - (((j + 1 : Nat) : Int)).toNat < n - ((j : Nat) : Int).toNat := by rw [Int.toNat_natCast, Int.toNat_natCast]; omega
theorem meas_in {n p m : Int} (h : p < n) (hm : 1 ≤ m) : (n - (p + m)).toNat < (n - p).toNat := by omega
abbrev frPre : Array Oper := #[{ dst := some 53, op := Go.Op.move (Go.Operand.tmp 0), type := 43, pos := "stream.go:50", after := #[], guard := none }, { dst := some 54, op := Go.Op.call { callee := Go.Callee.value (Go.Operand.func 63), args := #[], argTypes := #[] }, type := 89, pos := "stream.go:50", after := #[], guard := none }, { dst := some 55, op := Go.Op.fieldAddr 36 (Go.Operand.tmp 4) 2, type := 0, pos := "stream.go:50", after := #[], guard := none }, { dst := some 56, op := Go.Op.load 3 (Go.Operand.tmp 55), type := 3, pos := "stream.go:50", after := #[{ on := 2, ground := Go.Ground.data }], guard := none }, { dst := some 57, op := Go.Op.index 89 (Go.Operand.tmp 54) (Go.Operand.tmp 56), type := 3, pos := "stream.go:50", after := #[{ on := 1, ground := Go.Ground.data }, { on := 3, ground := Go.Ground.data }], guard := none }, { dst := some 58, op := Go.Op.fieldAddr 36 (Go.Operand.tmp 7) 0, type := 0, pos := "stream.go:50", after := #[], guard := none }, { dst := some 59, op := Go.Op.load 3 (Go.Operand.tmp 58), type := 3, pos := "stream.go:50", after := #[{ on := 5, ground := Go.Ground.data }], guard := none }, { dst := some 60, op := Go.Op.fieldAddr 36 (Go.Operand.tmp 7) 1, type := 0, pos := "stream.go:50", after := #[], guard := none }, { dst := some 61, op := Go.Op.load 3 (Go.Operand.tmp 60), type := 3, pos := "stream.go:50", after := #[{ on := 7, ground := Go.Ground.data }], guard := none }, { dst := some 62, op := Go.Op.fieldAddr 36 (Go.Operand.tmp 7) 4, type := 0, pos := "stream.go:50", after := #[], guard := none }, { dst := some 63, op := Go.Op.load 27 (Go.Operand.tmp 62), type := 27, pos := "stream.go:50", after := #[{ on := 9, ground := Go.Ground.data }], guard := none }, { dst := some 64, op := Go.Op.build 38 #[(0, Go.Operand.tmp 57), (1, Go.Operand.tmp 59), (2, Go.Operand.tmp 61), (3, Go.Operand.tmp 63)], type := 38, pos := "stream.go:50", after := #[{ on := 4, ground := Go.Ground.data }, { on := 6, ground := Go.Ground.data }, { on := 8, ground := Go.Ground.data }, { on := 10, ground := Go.Ground.data }], guard := none }]
def frV (f : Pl.Frm) (v : Value) : Value := .agg #[.int .i64 f.1, .int .i64 f.2.1, .int .i64 f.2.2.1, v, .int .i64 f.2.2.2.2.1, .int .i64 f.2.2.2.2.2.1, .int .i64 f.2.2.2.2.2.2]
def itKeeps (W W' : World) : Prop := W.heap.size ≤ W'.heap.size ∧ ∀ (k : Nat) (o : Obj), W.heap[k]? = some o → (∀ cs, o ≠ .cells cs 36 (0, 0)) → W'.heap[k]? = some o
def rdKeeps (gs b0 : Nat) (W W' : World) : Prop := Below b0 W W' ∧ (∀ (k : Nat) (cs : Array Value), W.heap[k]? = some (.cells cs 36 (0, 0)) → W'.heap[k]? = some (.cells cs 36 (0, 0))) ∧ W'.heap[gs]? = W.heap[gs]?
theorem itKeeps.trans {A B C : World} (h : itKeeps A B) (k : itKeeps B C) : itKeeps A C := ⟨Nat.le_trans h.1 k.1, fun i o hi ho => k.2 i o (h.2 i o hi ho) ho⟩
theorem itKeeps.below {W W' : World} (h : Below W.heap.size W W') : itKeeps W W' := ⟨h.size, fun k o hk _ => (h.block k (Array.getElem?_eq_some_iff.1 hk).1).trans hk⟩
theorem itKeeps.set {W : World} {g i : Nat} {cs : Array Value} (h : W.heap[g]? = some (.cells cs 36 (0, 0))) (v : Value) : itKeeps W (W.setCell ⟨g, i, none⟩ v) := ⟨by show W.heap.size ≤ (W.heap.modify _ _).size; rw [Array.size_modify]; exact Nat.le_refl _, fun k o hk ho => (Below.heap_setCell W ⟨g, i, none⟩ v k (fun e => by
 have e' : k = g := e
 rw [e', h] at hk
 injection hk with hk
 exact ho cs hk.symm)).trans hk⟩
theorem itKeeps.drew (W : World) : itKeeps W W.drew := ⟨Nat.le_refl _, fun _ _ h _ => h⟩
theorem yield_op {n : Nat} {oi : Oper} {a : Act} {w : World} {K : Act → World → Prop} {Q : Exit → Act → World → Prop} {P : Program} {l : Nat} {s x : Operand} {ts : Array TypeId} {v : Value} {X Y : Prop} [Decidable X] {fn : FuncId} {tm : Array Value} {asg bd : Code}
  (hX : X) (hop : oi.op = .call { callee := .value s, args := #[x], argTypes := ts }) (hs : a.eval s = .func (.yield l) #[] #[]) (hx : a.eval x = v)
  (hy : (Instr.yield l #[v]).run P w = .ok (.round l fn tm asg bd) w) (hR : RoundIn Fence.wide (n - 1) P l fn tm asg bd w (fun e w' => ∃ u, e = .returned u ∧ K (a.put oi.dst u) w')) : if X then Oper.wpIn Fence.wide n P oi a w K Q else Y := by
 rw [if_pos hX]
 refine ⟨fun _ _ => trivial, ?_⟩
 show oi.uponIn Fence.wide n P a K Q ((execOp a.eval oi).run P w)
 have he : (execOp a.eval oi).run P w = .ok (.round l fn tm asg bd) w := by
  unfold execOp
  simp [hop, resolve, Deferred.ofValue, invoke, hs, hx, hy]
 rw [he]
 exact ⟨fun hd => by simp [Fence.wide] at hd, RoundIn.mono hR fun e w' he => by obtain ⟨u, rfl, hk⟩ := he; exact hk⟩
theorem value_op {n : Nat} {oi : Oper} {a : Act} {w w' : World} {K : Act → World → Prop} {Q : Exit → Act → World → Prop} {P : Program} {v : Value} {X Y : Prop} [Decidable X] (hX : X) (hr : (execOp a.eval oi).run P w = .ok (.value v) w') (h : K (a.put oi.dst v) w') : if X then Oper.wpIn Fence.wide n P oi a w K Q else Y := by
 rw [if_pos hX]
 refine ⟨fun _ _ => trivial, ?_⟩
 show oi.uponIn Fence.wide n P a K Q ((execOp a.eval oi).run P w)
 rw [hr]
 exact h
set_option maxHeartbeats 4000000 in
set_option maxRecDepth 2000000 in
theorem stream_frames_1.calls (gs b0 : Nat) (B P T : Int) (A0 : Option Addr) (c0 : Nat) (L : List Pl.Ext) (l : Nat) (J : List Pl.Frm → World → Prop) (w0 w : World)
  (hgs : w.heap[gs]? = some (.cells #[.int .i64 B, .int .i64 P, .int .i64 T, .slice A0 L.length c0] 24 (0, 0))) (b2 : b0 ≤ w.heap.size) (hw0 : w0.heap.size ≤ b0) (hb0 : Below w0.heap.size w0 w) (hX : Kd.C k36 w0 A0 L.length (L.map ofE)) (hc : L.length ≤ c0) (hE : ∀ u ∈ L, Pl.eOk u = true) (hl : L.length ≤ 64)
  (hY : ∀ pre (x : Pl.Frm) A c W, J pre W → (∃ rest, Pl.stF B P T L = pre ++ x :: rest) → Kd.C (Kd.int .u8) W A x.2.2.2.1.length x.2.2.2.1 → x.2.2.2.1.length ≤ c → YieldAt Fence.wide 2 Try.prog l #[frV x (.slice A x.2.2.2.1.length c)] W fun e W' => e = .returned (.bool true) ∧ J (pre ++ [x]) W' ∧ rdKeeps gs b0 W W')
  (hJ : ∀ pre W W', J pre W → itKeeps W W' → J pre W') (h0 : J [] w) :
  Calls Try.prog 61 #[.func (.yield l) #[] #[], .pointer (some ⟨gs, 0, none⟩)] w fun e w' => (∃ v, e = .returned v) ∧ J (Pl.stF B P T L) w' ∧ Below b0 w w' := by
 have GS := Aside0.mk hgs
 have B2 := Aside0.mk b2
 have HX := Aside0.mk hX
 have HW0 := Aside0.mk hw0
 have HXB := Aside0.mk hb0
 have HC := Aside0.mk hc
 have HE := Aside0.mk hE
 have HL := Aside0.mk hl
 have HY := Aside0.mk hY
 have HJ := Aside0.mk hJ
 have J0 := Aside0.mk h0
 have HB := Aside0.mk (Below.refl b0 w)
 clear hgs b2 hX hw0 hb0 hc hE hl hY hJ h0
 obtain ⟨fn, tm, asg, bd, hy, hR⟩ := HY.out [] (Pl.stH B P T) none 0 w J0.out ⟨_, rfl⟩ ⟨rfl, Nat.zero_le _, fun h => absurd h (Nat.lt_irrefl 0)⟩ (Nat.le_refl _)
 have HR := Aside0.mk hR
 clear hR
 simp only [frV, Pl.stH, List.length_nil] at hy
 go_enter Try.func61, Try.ntmps61
 go_upto_region 0 with (fail)
 obtain ⟨hcs0, hcs1, hcs2, hcs3, hfs0, hfs1, hfs2, hfs3⟩ := Cz.d4 GS
 refine (wpIn_wide (n := 3)).1 ?_
 gi_wp2
 refine (HR.out).mono ?_
 rintro e W1 ⟨rfl, hj1, hk1⟩
 have m1 : Aside0 (W1.heap[gs]? = _) := ⟨hk1.2.2.trans GS.out⟩
 have m2 := Aside0.mk hk1.1
 have JJ : Aside0 (J (Pl.stH B P T :: Pl.exsF (L.take 0)) W1) := ⟨hj1⟩
 clear GS HB J0 hj1 hk1 HR hy hcs0 hfs0 hcs1 hfs1 hcs2 hfs2 hcs3 hfs3
 have GS := m1
 have HB := m2
 clear m1 m2
 have hcs3 : W1.cell? ⟨gs, 3, none⟩ = some (.slice A0 L.length c0) := ((blk_cell GS.out 3).trans rfl)
 have hfs3 := blk_frozen GS.out 3
 gi_wp2
 go_wp2
 go_loopw [22] (fun i wr => ∃ j : Nat, j ≤ L.length ∧ i = .int .i64 (j : Int) ∧ Aside0 (J (Pl.stH B P T :: Pl.exsF (L.take j)) wr) ∧ Aside0 (Below b0 w wr) ∧ Aside0 (wr.heap[gs]? = some (.cells #[.int .i64 B, .int .i64 P, .int .i64 T, .slice A0 L.length c0] 24 (0, 0)))) (fun i _ => L.length - (intOf i).toNat)
 case atStart => exact ⟨0, Nat.zero_le _, rfl, JJ, HB, GS⟩
 case round =>
  clear JJ HB GS hcs3 hfs3
  obtain ⟨j, hj, rfl, JJ, HB, GS⟩ := hrel
  by_cases hlt : j < L.length
  rotate_left
  ·have JE := Aside0.mk (show J (Pl.stF B P T L) wr from by rw [Pl.stF]; have h := JJ.out; rwa [List.take_of_length_le (by omega)] at h)
   go_wp2
   go_end0
   exact ⟨⟨_, rfl⟩, JE.out, HB.out⟩
  obtain ⟨x, hx⟩ : ∃ x, x = L[j] := ⟨_, rfl⟩
  have p0 : (0 : Int) ≤ (j : Int) := Int.natCast_nonneg _
  have q0 : (j : Int) < (L.length : Int) := by omega
  obtain ⟨ad, Ax, cx, e, hx0, hx1, hx2, hx3, hx4, hlx, hix⟩ := at_T36 HX.out (j : Int) p0 q0
  have hrd : rd_T36 (L.map ofE) (j : Int) = ofE x := by rw [rd_getE (L.map ofE) j (by rw [List.length_map]; exact hlt), List.getElem_map, hx]
  rw [hrd] at hx0 hx1 hx2 hx3 hx4 hlx hix
  simp only [ofE, Int.toNat_natCast] at hx0 hx1 hx2 hx3 hx4
  simp only [ofE] at hlx hix
  cases e
  have BW := HXB.out.trans (HB.out.mono HW0.out)
  replace hx0 := (BW.cell (World.block_lt_of_cell? w0 _ hx0)).trans hx0
  replace hx1 := (BW.cell (World.block_lt_of_cell? w0 _ hx1)).trans hx1
  replace hx2 := (BW.cell (World.block_lt_of_cell? w0 _ hx2)).trans hx2
  replace hx3 := (BW.cell (World.block_lt_of_cell? w0 _ hx3)).trans hx3
  replace hx4 := (BW.cell (World.block_lt_of_cell? w0 _ hx4)).trans hx4
  clear BW
  have HLx := Aside0.mk hlx
  have HIx := Aside0.mk hix
  have EX := Aside0.mk (show Pl.eOk x = true from HE.out x (by rw [hx]; exact List.getElem_mem hlt))
  have TX := Aside0.mk (show L.take (j + 1) = L.take j ++ [x] from by rw [hx]; exact (List.take_append_getElem hlt).symm)
  have DX := Aside0.mk (show L = L.take j ++ x :: L.drop (j + 1) from by rw [hx]; exact (by rw [← List.drop_eq_getElem_cons hlt, List.take_append_drop]))
  replace p0 := eq_true p0
  replace q0 := eq_true q0
  clear hlx hix hrd hx
  go_upto_region 4 with (((with_reducible refine gate_dst (N := 4) rfl ?_); refine Cz.bx (N := 4) #[.int .i64 0, .int .i64 0, .int .i64 0, .int .i64 0, .slice none 0 0] 36 ?_; intro gx hg w2 hbox hb; have BJ := Aside0.mk (HJ.out _ _ _ JJ.out (itKeeps.below hb)); have GXs := Aside0.mk (show b0 ≤ gx from Nat.le_trans (Nat.le_trans B2.out HB.out.size) (Nat.le_of_eq hg.symm)); have m_GS := Aside0.mk (blk_below GS.out hb); have m_HB := Aside0.mk (below_then HB.out (Nat.le_trans B2.out HB.out.size) hb); clear GS HB; have GS := m_GS; have HB := m_HB; clear m_GS m_HB; have BX := Aside0.mk hbox; clear JJ hg hbox hb; obtain ⟨hcx0, hcx1, hcx2, hcx3, hcx4, hfx0, hfx1, hfx2, hfx3, hfx4⟩ := Cz.d5 BX))
  have q_ : ∀ k_, k_ ≠ gx → (((((w2.setCell ⟨gx, 0, none⟩ (.int .i64 x.1)).setCell ⟨gx, 1, none⟩ (.int .i64 x.2.1)).setCell ⟨gx, 2, none⟩ (.int .i64 x.2.2.1)).setCell ⟨gx, 3, none⟩ (.int .i64 x.2.2.2.1)).setCell ⟨gx, 4, none⟩ (.slice Ax x.2.2.2.2.length cx)).heap[k_]? = w2.heap[k_]? := fun k_ hk => (Below.heap_setCell _ ⟨gx, 4, none⟩ _ k_ hk).trans ((Below.heap_setCell _ ⟨gx, 3, none⟩ _ k_ hk).trans ((Below.heap_setCell _ ⟨gx, 2, none⟩ _ k_ hk).trans ((Below.heap_setCell _ ⟨gx, 1, none⟩ _ k_ hk).trans ((Below.heap_setCell _ ⟨gx, 0, none⟩ _ k_ hk).trans (rfl)))))
  have m1 : Aside0 ((((((w2.setCell ⟨gx, 0, none⟩ (.int .i64 x.1)).setCell ⟨gx, 1, none⟩ (.int .i64 x.2.1)).setCell ⟨gx, 2, none⟩ (.int .i64 x.2.2.1)).setCell ⟨gx, 3, none⟩ (.int .i64 x.2.2.2.1)).setCell ⟨gx, 4, none⟩ (.slice Ax x.2.2.2.2.length cx)).heap[gx]? = some (.cells #[.int .i64 x.1, .int .i64 x.2.1, .int .i64 x.2.2.1, .int .i64 x.2.2.2.1, .slice Ax x.2.2.2.2.length cx] 36 (0, 0))) := ⟨blk_put (blk_put (blk_put (blk_put (blk_put BX.out 0 _ rfl) 1 _ rfl) 2 _ rfl) 3 _ rfl) 4 _ rfl⟩
  have m2 : Aside0 ((((((w2.setCell ⟨gx, 0, none⟩ (.int .i64 x.1)).setCell ⟨gx, 1, none⟩ (.int .i64 x.2.1)).setCell ⟨gx, 2, none⟩ (.int .i64 x.2.2.1)).setCell ⟨gx, 3, none⟩ (.int .i64 x.2.2.2.1)).setCell ⟨gx, 4, none⟩ (.slice Ax x.2.2.2.2.length cx)).heap[gs]? = _) := ⟨(q_ _ (blk_ne GS.out BX.out (by decide))).trans GS.out⟩
  have m3 := Aside0.mk (show J (Pl.stH B P T :: Pl.exsF (L.take j)) (((((w2.setCell ⟨gx, 0, none⟩ (.int .i64 x.1)).setCell ⟨gx, 1, none⟩ (.int .i64 x.2.1)).setCell ⟨gx, 2, none⟩ (.int .i64 x.2.2.1)).setCell ⟨gx, 3, none⟩ (.int .i64 x.2.2.2.1)).setCell ⟨gx, 4, none⟩ (.slice Ax x.2.2.2.2.length cx)) from HJ.out _ _ _ BJ.out (itKeeps.trans (itKeeps.trans (itKeeps.trans (itKeeps.trans (itKeeps.set BX.out _) (itKeeps.set (blk_put BX.out 0 _ rfl) _)) (itKeeps.set (blk_put (blk_put BX.out 0 _ rfl) 1 _ rfl) _)) (itKeeps.set (blk_put (blk_put (blk_put BX.out 0 _ rfl) 1 _ rfl) 2 _ rfl) _)) (itKeeps.set (blk_put (blk_put (blk_put (blk_put BX.out 0 _ rfl) 1 _ rfl) 2 _ rfl) 3 _ rfl) _)))
  have m4 : Aside0 (Below b0 w (((((w2.setCell ⟨gx, 0, none⟩ (.int .i64 x.1)).setCell ⟨gx, 1, none⟩ (.int .i64 x.2.1)).setCell ⟨gx, 2, none⟩ (.int .i64 x.2.2.1)).setCell ⟨gx, 3, none⟩ (.int .i64 x.2.2.2.1)).setCell ⟨gx, 4, none⟩ (.slice Ax x.2.2.2.2.length cx))) := ⟨((((HB.out.setCell (p := ⟨gx, 0, none⟩) GXs.out _).setCell (p := ⟨gx, 1, none⟩) GXs.out _).setCell (p := ⟨gx, 2, none⟩) GXs.out _).setCell (p := ⟨gx, 3, none⟩) GXs.out _).setCell (p := ⟨gx, 4, none⟩) GXs.out _⟩
  generalize (((((w2.setCell ⟨gx, 0, none⟩ (.int .i64 x.1)).setCell ⟨gx, 1, none⟩ (.int .i64 x.2.1)).setCell ⟨gx, 2, none⟩ (.int .i64 x.2.2.1)).setCell ⟨gx, 3, none⟩ (.int .i64 x.2.2.2.1)).setCell ⟨gx, 4, none⟩ (.slice Ax x.2.2.2.2.length cx)) = w3 at m1 m2 m3 m4 ⊢
  clear q_ GS BX BJ HB hx0 hx1 hx2 hx3 hx4 hcx0 hfx0 hcx1 hfx1 hcx2 hfx2 hcx3 hfx3 hcx4 hfx4
  have BX := m1
  have GS := m2
  have JJ := m3
  have HB := m4
  clear m1 m2 m3 m4
  have EXF := Aside0.mk (Pl.cutsF_all EX.out)
  have MO := Aside0.mk (Pl.mostF_pos EX.out)
  have XO := Aside0.mk (Pl.extOk_iff.1 (show Pl.extOk x.1 x.2.1 x.2.2.1 x.2.2.2.1 x.2.2.2.2 = true from EX.out))
  have hcx1 : w3.cell? ⟨gx, 1, none⟩ = some (.int .i64 x.2.1) := ((blk_cell BX.out 1).trans rfl)
  have hcx2 : w3.cell? ⟨gx, 2, none⟩ = some (.int .i64 x.2.2.1) := ((blk_cell BX.out 2).trans rfl)
  have hfx1 := blk_frozen BX.out 1
  have hfx2 := blk_frozen BX.out 2
  by_cases k2 : x.2.2.1 = 2
  ·have hk2 : (x.2.2.1 == 2) = true := beq_iff_eq.mpr k2
   have HM := Aside0.mk (show Pl.mostF x = 16 from if_pos k2)
   clear k2
   go_wp2
   clear hk2 hcx1 hfx1 hcx2 hfx2
   go_loopw [6] (fun i wr => ∃ (p : Int) (kf : Nat) (done : List Pl.Frm), i = .int .i64 p ∧ Aside0 (0 ≤ p ∧ p ≤ 128 ∧ (x.2.1 - p).toNat < kf) ∧ Aside0 (Pl.exF x = done ++ Pl.cutsF x (Pl.mostF x) kf p) ∧ Aside0 (J (Pl.stH B P T :: (Pl.exsF (L.take j) ++ done)) wr) ∧ Aside0 (Below b0 w wr) ∧ Aside0 (wr.heap[gs]? = some (.cells #[.int .i64 B, .int .i64 P, .int .i64 T, .slice (some ad) L.length c0] 24 (0, 0))) ∧ Aside0 (wr.heap[gx]? = some (.cells #[.int .i64 x.1, .int .i64 x.2.1, .int .i64 x.2.2.1, .int .i64 x.2.2.2.1, .slice Ax x.2.2.2.2.length cx] 36 (0, 0)))) (fun i _ => (x.2.1 - intOf i).toNat)
   case atStart => exact ⟨0, 65, [], rfl, ⟨by have := XO.out; omega⟩, ⟨EXF.out.symm⟩, ⟨by rw [List.append_nil]; exact JJ.out⟩, HB, GS, BX⟩
   case round =>
    clear JJ HB GS BX EXF p0 q0
    obtain ⟨p, kf, done, rfl, PB, EXF, JJ, HB, GS, BX⟩ := hrel
    obtain ⟨hcx0, hcx1, hcx2, hcx3, hcx4, hfx0, hfx1, hfx2, hfx3, hfx4⟩ := Cz.d5 BX
    have hidx : ∀ w : World, (Instr.index 89 (.agg #[.int .i64 4, .int .i64 3, .int .i64 2]) (.int .i64 x.2.2.1)).run Try.prog w = .ok (.int .i64 (4 - x.2.2.1)) w := by
     intro w
     obtain h | h | h : x.2.2.1 = 0 ∨ x.2.2.1 = 1 ∨ x.2.2.1 = 2 := by have := XO.out; omega
     all_goals (rw [h]; kernel_rfl)
    by_cases hp : p < x.2.1
    rotate_left
    ·have d1 : decide (p < x.2.1) = false := decide_eq_false hp
     have JE : Aside0 (J (Pl.stH B P T :: Pl.exsF (L.take (j + 1))) wr) := ⟨by have h := EXF.out; rw [Pl.cutsF_end hp, List.append_nil] at h; rw [TX.out, Pl.exsF_snoc, h]; exact JJ.out⟩
     have w9 : wrap64 ((j : Int) + 1) = ((j + 1 : Nat) : Int) := by have := HL.out; unfold wrap64; omega
     clear hidx
     go_wp2
     go_roundw
     case rel => exact ⟨j + 1, hlt, by rw [w9], JE, HB, GS⟩
     case measure => rw [w9, intOf_i64, intOf_i64]; exact meas_next hlt
    have d1 : decide (p < x.2.1) = true := decide_eq_true hp
    obtain ⟨kf, rfl⟩ : ∃ m, kf = m + 1 := ⟨kf - 1, by have := PB.out; omega⟩
    have w1 : wrap64 (x.1 + p) = x.1 + p := by have := PB.out; have := XO.out; unfold wrap64; omega
    have w2 : wrap64 (x.2.1 - p) = x.2.1 - p := by have := PB.out; have := XO.out; unfold wrap64; omega
    have HP := Aside0.mk hp
    clear hp
    by_cases hs : x.2.1 - p < 16
    focus
     have d2 : (x.2.1 - p < 16) = True := eq_true hs
     obtain ⟨dd, hdd⟩ : ∃ dd, dd = Pl.part x.2.2.1 x.2.2.2.2 p (p + (x.2.1 - p)) := ⟨_, rfl⟩
     have hmin : min (Pl.mostF x) (x.2.1 - p) = (x.2.1 - p) := by rw [HM.out]; omega
     have HCt := Aside0.mk (show extent_Cut.f x.1 x.2.1 x.2.2.1 x.2.2.2.1 x.2.2.2.2 (x.1 + p) (x.2.1 - p) = some (x.1 + p, (x.2.1 - p), x.2.2.1, x.2.2.2.1, dd, true) from by have h := Pl.cut_here EX.out (i := p) PB.out.1 HP.out; rw [hmin, ← hdd] at h; exact congrArg some h)
     have EXG := Aside0.mk (show Pl.exF x = done ++ ((4 - x.2.2.1, x.1 + p, (x.2.1 - p), dd, 0, 0, 0) :: Pl.cutsF x (Pl.mostF x) kf (p + 16)) from by have h := EXF.out; rw [Pl.cutsF, if_pos HP.out, hmin, ← hdd, HM.out] at h; rw [HM.out]; exact h)
    rotate_left
    focus
     have d2 : (x.2.1 - p < 16) = False := eq_false hs
     obtain ⟨dd, hdd⟩ : ∃ dd, dd = Pl.part x.2.2.1 x.2.2.2.2 p (p + 16) := ⟨_, rfl⟩
     have hmin : min (Pl.mostF x) (x.2.1 - p) = 16 := by rw [HM.out]; omega
     have HCt := Aside0.mk (show extent_Cut.f x.1 x.2.1 x.2.2.1 x.2.2.2.1 x.2.2.2.2 (x.1 + p) 16 = some (x.1 + p, 16, x.2.2.1, x.2.2.2.1, dd, true) from by have h := Pl.cut_here EX.out (i := p) PB.out.1 HP.out; rw [hmin, ← hdd] at h; exact congrArg some h)
     have EXG := Aside0.mk (show Pl.exF x = done ++ ((4 - x.2.2.1, x.1 + p, 16, dd, 0, 0, 0) :: Pl.cutsF x (Pl.mostF x) kf (p + 16)) from by have h := EXF.out; rw [Pl.cutsF, if_pos HP.out, hmin, ← hdd, HM.out] at h; rw [HM.out]; exact h)
    rotate_left
    all_goals
     have w4 : wrap64 (p + 16) = p + 16 := by have := PB.out; have := XO.out; unfold wrap64; omega
     have HIr := Aside0.mk (Kd.C_below HIx.out (HXB.out.trans (HB.out.mono HW0.out)))
     have MB := Aside0.mk (show (1 : Int) ≤ 16 from by have := XO.out; have := HP.out; omega)
     clear hdd hmin EXF
     go_wp2_with fail
    focus refine (extent_Cut.calls x.1 x.2.1 x.2.2.1 x.2.2.2.1 _ _ x.2.2.2.2 _ _ (x.1 + p) (x.2.1 - p) x.2.2.1 x.2.2.2.1 dd true _ HIr.out HLx.out HCt.out).mono ?_
    rotate_left
    focus refine (extent_Cut.calls x.1 x.2.1 x.2.2.1 x.2.2.2.1 _ _ x.2.2.2.2 _ _ (x.1 + p) 16 x.2.2.1 x.2.2.2.1 dd true _ HIr.out HLx.out HCt.out).mono ?_
    rotate_left
    all_goals
     rintro e' w4_ ⟨vy, rfl, ho, hb⟩
     obtain ⟨Ay, cy, ey⟩ := Kd.R_slice ho
     subst ey
     have BD := Aside0.mk (Kd.R_lower ho (Nat.le_trans B2.out HB.out.size))
     have m_GS := Aside0.mk (blk_below GS.out hb)
     have m_BX := Aside0.mk (blk_below BX.out hb)
     have m_HB := Aside0.mk (below_then HB.out (Nat.le_trans B2.out HB.out.size) hb)
     have m_JJ := Aside0.mk (HJ.out _ _ _ JJ.out (itKeeps.below hb))
     clear GS BX HB JJ
     have GS := m_GS
     have BX := m_BX
     have HB := m_HB
     have JJ := m_JJ
     clear m_GS m_BX m_HB m_JJ
     clear ho hb HIr HCt hcx0 hfx0 hcx1 hfx1 hcx2 hfx2 hcx3 hfx3 hcx4 hfx4
     go_upto_region 11 with (((with_reducible refine gate_dst (N := 7) rfl ?_); refine Cz.bx (N := 7) #[.int .i64 0, .int .i64 0, .int .i64 0, .int .i64 0, .slice none 0 0] 36 ?_; intro gy hg w5 hbox hb; have GYs := Aside0.mk (show b0 ≤ gy from Nat.le_trans (Nat.le_trans B2.out HB.out.size) (Nat.le_of_eq hg.symm)); have NXY := Aside0.mk (show gx ≠ gy from Nat.ne_of_lt (Nat.lt_of_lt_of_le (blk_lt BX.out) (Nat.le_of_eq hg.symm))); clear hg; have m_GS := Aside0.mk (blk_below GS.out hb); have m_BX := Aside0.mk (blk_below BX.out hb); have m_BD := Aside0.mk (Kd.R_below BD.out hb); have m_HB := Aside0.mk (below_then HB.out (Nat.le_trans B2.out HB.out.size) hb); have m_JJ := Aside0.mk (HJ.out _ _ _ JJ.out (itKeeps.below hb)); clear GS BX BD HB JJ; have GS := m_GS; have BX := m_BX; have BD := m_BD; have HB := m_HB; have JJ := m_JJ; clear m_GS m_BX m_BD m_HB m_JJ; have BY := Aside0.mk hbox; clear hbox hb; obtain ⟨hcy0, hcy1, hcy2, hcy3, hcy4, hfy0, hfy1, hfy2, hfy3, hfy4⟩ := Cz.d5 BY))
    focus
     have q_ : ∀ k_, k_ ≠ gy → (((((w5.setCell ⟨gy, 0, none⟩ (.int .i64 (x.1 + p))).setCell ⟨gy, 1, none⟩ (.int .i64 (x.2.1 - p))).setCell ⟨gy, 2, none⟩ (.int .i64 x.2.2.1)).setCell ⟨gy, 3, none⟩ (.int .i64 x.2.2.2.1)).setCell ⟨gy, 4, none⟩ (.slice Ay dd.length cy)).heap[k_]? = w5.heap[k_]? := fun k_ hk => (Below.heap_setCell _ ⟨gy, 4, none⟩ _ k_ hk).trans ((Below.heap_setCell _ ⟨gy, 3, none⟩ _ k_ hk).trans ((Below.heap_setCell _ ⟨gy, 2, none⟩ _ k_ hk).trans ((Below.heap_setCell _ ⟨gy, 1, none⟩ _ k_ hk).trans ((Below.heap_setCell _ ⟨gy, 0, none⟩ _ k_ hk).trans (rfl)))))
     have m1 : Aside0 ((((((w5.setCell ⟨gy, 0, none⟩ (.int .i64 (x.1 + p))).setCell ⟨gy, 1, none⟩ (.int .i64 (x.2.1 - p))).setCell ⟨gy, 2, none⟩ (.int .i64 x.2.2.1)).setCell ⟨gy, 3, none⟩ (.int .i64 x.2.2.2.1)).setCell ⟨gy, 4, none⟩ (.slice Ay dd.length cy)).heap[gy]? = some (.cells #[.int .i64 (x.1 + p), .int .i64 (x.2.1 - p), .int .i64 x.2.2.1, .int .i64 x.2.2.2.1, .slice Ay dd.length cy] 36 (0, 0))) := ⟨blk_put (blk_put (blk_put (blk_put (blk_put BY.out 0 _ rfl) 1 _ rfl) 2 _ rfl) 3 _ rfl) 4 _ rfl⟩
     have m2 : Aside0 ((((((w5.setCell ⟨gy, 0, none⟩ (.int .i64 (x.1 + p))).setCell ⟨gy, 1, none⟩ (.int .i64 (x.2.1 - p))).setCell ⟨gy, 2, none⟩ (.int .i64 x.2.2.1)).setCell ⟨gy, 3, none⟩ (.int .i64 x.2.2.2.1)).setCell ⟨gy, 4, none⟩ (.slice Ay dd.length cy)).heap[gs]? = _) := ⟨(q_ _ (blk_ne GS.out BY.out (by decide))).trans GS.out⟩
     have m3 : Aside0 ((((((w5.setCell ⟨gy, 0, none⟩ (.int .i64 (x.1 + p))).setCell ⟨gy, 1, none⟩ (.int .i64 (x.2.1 - p))).setCell ⟨gy, 2, none⟩ (.int .i64 x.2.2.1)).setCell ⟨gy, 3, none⟩ (.int .i64 x.2.2.2.1)).setCell ⟨gy, 4, none⟩ (.slice Ay dd.length cy)).heap[gx]? = _) := ⟨(q_ _ NXY.out).trans BX.out⟩
     have m4 := Aside0.mk (show J (Pl.stH B P T :: (Pl.exsF (L.take j) ++ done)) (((((w5.setCell ⟨gy, 0, none⟩ (.int .i64 (x.1 + p))).setCell ⟨gy, 1, none⟩ (.int .i64 (x.2.1 - p))).setCell ⟨gy, 2, none⟩ (.int .i64 x.2.2.1)).setCell ⟨gy, 3, none⟩ (.int .i64 x.2.2.2.1)).setCell ⟨gy, 4, none⟩ (.slice Ay dd.length cy)) from HJ.out _ _ _ JJ.out (itKeeps.trans (itKeeps.trans (itKeeps.trans (itKeeps.trans (itKeeps.set BY.out _) (itKeeps.set (blk_put BY.out 0 _ rfl) _)) (itKeeps.set (blk_put (blk_put BY.out 0 _ rfl) 1 _ rfl) _)) (itKeeps.set (blk_put (blk_put (blk_put BY.out 0 _ rfl) 1 _ rfl) 2 _ rfl) _)) (itKeeps.set (blk_put (blk_put (blk_put (blk_put BY.out 0 _ rfl) 1 _ rfl) 2 _ rfl) 3 _ rfl) _)))
     have m5 := Aside0.mk (show Kd.R (Kd.int .u8) 5 (((((w5.setCell ⟨gy, 0, none⟩ (.int .i64 (x.1 + p))).setCell ⟨gy, 1, none⟩ (.int .i64 (x.2.1 - p))).setCell ⟨gy, 2, none⟩ (.int .i64 x.2.2.1)).setCell ⟨gy, 3, none⟩ (.int .i64 x.2.2.2.1)).setCell ⟨gy, 4, none⟩ (.slice Ay dd.length cy)) b0 (fun _ => True) _ _ from Kd.R_mono (Kd.R_step (Kd.R_types BD.out BY.out (by decide)) (fun k_ hk _ => q_ k_ hk.2)) (fun _ _ => trivial))
     have m6 : Aside0 (Below b0 w (((((w5.setCell ⟨gy, 0, none⟩ (.int .i64 (x.1 + p))).setCell ⟨gy, 1, none⟩ (.int .i64 (x.2.1 - p))).setCell ⟨gy, 2, none⟩ (.int .i64 x.2.2.1)).setCell ⟨gy, 3, none⟩ (.int .i64 x.2.2.2.1)).setCell ⟨gy, 4, none⟩ (.slice Ay dd.length cy))) := ⟨((((HB.out.setCell (p := ⟨gy, 0, none⟩) GYs.out _).setCell (p := ⟨gy, 1, none⟩) GYs.out _).setCell (p := ⟨gy, 2, none⟩) GYs.out _).setCell (p := ⟨gy, 3, none⟩) GYs.out _).setCell (p := ⟨gy, 4, none⟩) GYs.out _⟩
     generalize (((((w5.setCell ⟨gy, 0, none⟩ (.int .i64 (x.1 + p))).setCell ⟨gy, 1, none⟩ (.int .i64 (x.2.1 - p))).setCell ⟨gy, 2, none⟩ (.int .i64 x.2.2.1)).setCell ⟨gy, 3, none⟩ (.int .i64 x.2.2.2.1)).setCell ⟨gy, 4, none⟩ (.slice Ay dd.length cy)) = w6 at m1 m2 m3 m4 m5 m6 ⊢
    rotate_left
    focus
     have q_ : ∀ k_, k_ ≠ gy → (((((w5.setCell ⟨gy, 0, none⟩ (.int .i64 (x.1 + p))).setCell ⟨gy, 1, none⟩ (.int .i64 16)).setCell ⟨gy, 2, none⟩ (.int .i64 x.2.2.1)).setCell ⟨gy, 3, none⟩ (.int .i64 x.2.2.2.1)).setCell ⟨gy, 4, none⟩ (.slice Ay dd.length cy)).heap[k_]? = w5.heap[k_]? := fun k_ hk => (Below.heap_setCell _ ⟨gy, 4, none⟩ _ k_ hk).trans ((Below.heap_setCell _ ⟨gy, 3, none⟩ _ k_ hk).trans ((Below.heap_setCell _ ⟨gy, 2, none⟩ _ k_ hk).trans ((Below.heap_setCell _ ⟨gy, 1, none⟩ _ k_ hk).trans ((Below.heap_setCell _ ⟨gy, 0, none⟩ _ k_ hk).trans (rfl)))))
     have m1 : Aside0 ((((((w5.setCell ⟨gy, 0, none⟩ (.int .i64 (x.1 + p))).setCell ⟨gy, 1, none⟩ (.int .i64 16)).setCell ⟨gy, 2, none⟩ (.int .i64 x.2.2.1)).setCell ⟨gy, 3, none⟩ (.int .i64 x.2.2.2.1)).setCell ⟨gy, 4, none⟩ (.slice Ay dd.length cy)).heap[gy]? = some (.cells #[.int .i64 (x.1 + p), .int .i64 16, .int .i64 x.2.2.1, .int .i64 x.2.2.2.1, .slice Ay dd.length cy] 36 (0, 0))) := ⟨blk_put (blk_put (blk_put (blk_put (blk_put BY.out 0 _ rfl) 1 _ rfl) 2 _ rfl) 3 _ rfl) 4 _ rfl⟩
     have m2 : Aside0 ((((((w5.setCell ⟨gy, 0, none⟩ (.int .i64 (x.1 + p))).setCell ⟨gy, 1, none⟩ (.int .i64 16)).setCell ⟨gy, 2, none⟩ (.int .i64 x.2.2.1)).setCell ⟨gy, 3, none⟩ (.int .i64 x.2.2.2.1)).setCell ⟨gy, 4, none⟩ (.slice Ay dd.length cy)).heap[gs]? = _) := ⟨(q_ _ (blk_ne GS.out BY.out (by decide))).trans GS.out⟩
     have m3 : Aside0 ((((((w5.setCell ⟨gy, 0, none⟩ (.int .i64 (x.1 + p))).setCell ⟨gy, 1, none⟩ (.int .i64 16)).setCell ⟨gy, 2, none⟩ (.int .i64 x.2.2.1)).setCell ⟨gy, 3, none⟩ (.int .i64 x.2.2.2.1)).setCell ⟨gy, 4, none⟩ (.slice Ay dd.length cy)).heap[gx]? = _) := ⟨(q_ _ NXY.out).trans BX.out⟩
     have m4 := Aside0.mk (show J (Pl.stH B P T :: (Pl.exsF (L.take j) ++ done)) (((((w5.setCell ⟨gy, 0, none⟩ (.int .i64 (x.1 + p))).setCell ⟨gy, 1, none⟩ (.int .i64 16)).setCell ⟨gy, 2, none⟩ (.int .i64 x.2.2.1)).setCell ⟨gy, 3, none⟩ (.int .i64 x.2.2.2.1)).setCell ⟨gy, 4, none⟩ (.slice Ay dd.length cy)) from HJ.out _ _ _ JJ.out (itKeeps.trans (itKeeps.trans (itKeeps.trans (itKeeps.trans (itKeeps.set BY.out _) (itKeeps.set (blk_put BY.out 0 _ rfl) _)) (itKeeps.set (blk_put (blk_put BY.out 0 _ rfl) 1 _ rfl) _)) (itKeeps.set (blk_put (blk_put (blk_put BY.out 0 _ rfl) 1 _ rfl) 2 _ rfl) _)) (itKeeps.set (blk_put (blk_put (blk_put (blk_put BY.out 0 _ rfl) 1 _ rfl) 2 _ rfl) 3 _ rfl) _)))
     have m5 := Aside0.mk (show Kd.R (Kd.int .u8) 5 (((((w5.setCell ⟨gy, 0, none⟩ (.int .i64 (x.1 + p))).setCell ⟨gy, 1, none⟩ (.int .i64 16)).setCell ⟨gy, 2, none⟩ (.int .i64 x.2.2.1)).setCell ⟨gy, 3, none⟩ (.int .i64 x.2.2.2.1)).setCell ⟨gy, 4, none⟩ (.slice Ay dd.length cy)) b0 (fun _ => True) _ _ from Kd.R_mono (Kd.R_step (Kd.R_types BD.out BY.out (by decide)) (fun k_ hk _ => q_ k_ hk.2)) (fun _ _ => trivial))
     have m6 : Aside0 (Below b0 w (((((w5.setCell ⟨gy, 0, none⟩ (.int .i64 (x.1 + p))).setCell ⟨gy, 1, none⟩ (.int .i64 16)).setCell ⟨gy, 2, none⟩ (.int .i64 x.2.2.1)).setCell ⟨gy, 3, none⟩ (.int .i64 x.2.2.2.1)).setCell ⟨gy, 4, none⟩ (.slice Ay dd.length cy))) := ⟨((((HB.out.setCell (p := ⟨gy, 0, none⟩) GYs.out _).setCell (p := ⟨gy, 1, none⟩) GYs.out _).setCell (p := ⟨gy, 2, none⟩) GYs.out _).setCell (p := ⟨gy, 3, none⟩) GYs.out _).setCell (p := ⟨gy, 4, none⟩) GYs.out _⟩
     generalize (((((w5.setCell ⟨gy, 0, none⟩ (.int .i64 (x.1 + p))).setCell ⟨gy, 1, none⟩ (.int .i64 16)).setCell ⟨gy, 2, none⟩ (.int .i64 x.2.2.1)).setCell ⟨gy, 3, none⟩ (.int .i64 x.2.2.2.1)).setCell ⟨gy, 4, none⟩ (.slice Ay dd.length cy)) = w6 at m1 m2 m3 m4 m5 m6 ⊢
    rotate_left
    all_goals
     clear q_ GS BX BY JJ BD HB hcy0 hfy0 hcy1 hfy1 hcy2 hfy2 hcy3 hfy3 hcy4 hfy4
     have BY := m1
     have GS := m2
     have BX := m3
     have JJ := m4
     have BD := m5
     have HB := m6
     clear m1 m2 m3 m4 m5 m6
     have m_GS := Aside0.mk (blk_drew GS.out)
     have m_BX := Aside0.mk (blk_drew BX.out)
     have m_BY := Aside0.mk (blk_drew BY.out)
     have m_BD := Aside0.mk (Kd.R_drew BD.out)
     have m_HB := Aside0.mk (below_drew HB.out)
     have m_JJ := Aside0.mk (HJ.out _ _ _ JJ.out (itKeeps.drew _))
     clear GS BX BY BD HB JJ
     have GS := m_GS
     have BX := m_BX
     have BY := m_BY
     have BD := m_BD
     have HB := m_HB
     have JJ := m_JJ
     clear m_GS m_BX m_BY m_BD m_HB m_JJ
    focus refine Kx.region_split (pre := frPre) (S := fun w' => w'.cell? ⟨gx, 2, none⟩ = some (.int .i64 x.2.2.1) ∧ w'.cell? ⟨gy, 0, none⟩ = some (.int .i64 (x.1 + p)) ∧ w'.cell? ⟨gy, 1, none⟩ = some (.int .i64 (x.2.1 - p)) ∧ w'.cell? ⟨gy, 4, none⟩ = some (.slice Ay dd.length cy)) (ds := []) 3 12 #[false, false, false, false, false, false, false, false, false, false, false, false] (by kernel_rfl) (by kernel_rfl) (by kernel_rfl) rfl ⟨((blk_cell BX.out 2).trans rfl), ((blk_cell BY.out 0).trans rfl), ((blk_cell BY.out 1).trans rfl), ((blk_cell BY.out 4).trans rfl)⟩ (fun hHeld => ?_)
    rotate_left
    focus refine Kx.region_split (pre := frPre) (S := fun w' => w'.cell? ⟨gx, 2, none⟩ = some (.int .i64 x.2.2.1) ∧ w'.cell? ⟨gy, 0, none⟩ = some (.int .i64 (x.1 + p)) ∧ w'.cell? ⟨gy, 1, none⟩ = some (.int .i64 16) ∧ w'.cell? ⟨gy, 4, none⟩ = some (.slice Ay dd.length cy)) (ds := []) 3 12 #[false, false, false, false, false, false, false, false, false, false, false, false] (by kernel_rfl) (by kernel_rfl) (by kernel_rfl) rfl ⟨((blk_cell BX.out 2).trans rfl), ((blk_cell BY.out 0).trans rfl), ((blk_cell BY.out 1).trans rfl), ((blk_cell BY.out 4).trans rfl)⟩ (fun hHeld => ?_)
    rotate_left
    all_goals
     generalize w6.drew = w7 at GS BX BY BD HB JJ hHeld ⊢
     refine Cz.rP 0 53 ?_
     refine Cz.rP 2 55 ?_
     refine Cz.rP 5 58 ?_
     refine Cz.rP 7 60 ?_
     refine Cz.rP 9 62 ?_
     refine Cz.rT 3 56 hHeld ?_
     refine Cz.rT 6 59 hHeld ?_
     refine Cz.rT 8 61 hHeld ?_
     refine Cz.rT 10 63 hHeld ?_
     refine Cz.rO (N := some 54) 1 (fun K hK => ?_)
     refine goes_ Try.func63 (by kernel_rfl) rfl #[] (by rfl) rfl rfl (by simp only [List.map_toArray, List.map_cons, List.map_nil]) ?_
     with_reducible refine ((stream_kinds.calls _)).mono ?_
     rintro e' w8 ⟨rfl, hb⟩
     refine ⟨_, rfl, ?_⟩
     have m_GS := Aside0.mk (blk_below GS.out hb)
     have m_BX := Aside0.mk (blk_below BX.out hb)
     have m_BY := Aside0.mk (blk_below BY.out hb)
     have m_BD := Aside0.mk (Kd.R_below BD.out hb)
     have m_HB := Aside0.mk (below_then HB.out (Nat.le_trans B2.out HB.out.size) hb)
     have m_JJ := Aside0.mk (HJ.out _ _ _ JJ.out (itKeeps.below hb))
     clear GS BX BY BD HB JJ
     have GS := m_GS
     have BX := m_BX
     have BY := m_BY
     have BD := m_BD
     have HB := m_HB
     have JJ := m_JJ
     clear m_GS m_BX m_BY m_BD m_HB m_JJ
     clear hb
     refine hK.out _ _ ⟨((blk_cell BX.out 2).trans rfl), ((blk_cell BY.out 0).trans rfl), ((blk_cell BY.out 1).trans rfl), ((blk_cell BY.out 4).trans rfl)⟩ (fun hHeld => ?_)
     clear hK K
     refine Cz.nm (some 54) ?_
     refine Cz.rT 4 57 hHeld ?_
     refine Cz.rP 11 64 ?_
     refine done_ (by kernel_rfl) ?_
    focus obtain ⟨fn, tm, asg, bd, hy, hR⟩ := HY.out (Pl.stH B P T :: (Pl.exsF (L.take j) ++ done)) (4 - x.2.2.1, x.1 + p, (x.2.1 - p), dd, 0, 0, 0) Ay cy _ JJ.out ⟨Pl.cutsF x (Pl.mostF x) kf (p + 16) ++ Pl.exsF (L.drop (j + 1)), by rw [Pl.stF, List.cons_append]; congr 1; have h := congrArg Pl.exsF DX.out; rw [Pl.exsF_append, Pl.exsF, EXG.out] at h; rw [h]; simp only [List.append_assoc, List.cons_append]⟩ (Kd.R_reads' BD.out).2.2 (Kd.R_reads' BD.out).2.1
    rotate_left
    focus obtain ⟨fn, tm, asg, bd, hy, hR⟩ := HY.out (Pl.stH B P T :: (Pl.exsF (L.take j) ++ done)) (4 - x.2.2.1, x.1 + p, 16, dd, 0, 0, 0) Ay cy _ JJ.out ⟨Pl.cutsF x (Pl.mostF x) kf (p + 16) ++ Pl.exsF (L.drop (j + 1)), by rw [Pl.stF, List.cons_append]; congr 1; have h := congrArg Pl.exsF DX.out; rw [Pl.exsF_append, Pl.exsF, EXG.out] at h; rw [h]; simp only [List.append_assoc, List.cons_append]⟩ (Kd.R_reads' BD.out).2.2 (Kd.R_reads' BD.out).2.1
    rotate_left
    all_goals
     have HR := Aside0.mk hR
     clear hR
     simp only [frV] at hy
     refine (show wpAnyIn Fence.wide 3 _ _ _ _ (1 + 1) #[true, true, true, true, true, true, true, true, true, true, true, true, false, false] _ _ from ?_)
     refine wpAnyIn_ready (rs := [12]) (by kernel_rfl) (by simp) (AllReadyIn.cons rfl (fun K hK => ?_) AllReadyIn.nil)
     refine yield_op rfl rfl rfl rfl hy (RoundIn.mono HR.out (fun e W2 h => ?_))
     obtain ⟨rfl, hj, hk⟩ := h
     refine ⟨_, rfl, hK _ _ ?_⟩
     clear hK K
     have m1 : Aside0 (W2.heap[gs]? = _) := ⟨hk.2.2.trans GS.out⟩
     have m2 : Aside0 (W2.heap[gx]? = _) := ⟨hk.2.1 gx _ BX.out⟩
    focus have m3 : Aside0 (J (Pl.stH B P T :: (Pl.exsF (L.take j) ++ (done ++ [(4 - x.2.2.1, x.1 + p, (x.2.1 - p), dd, 0, 0, 0)]))) W2) := ⟨by rw [← List.append_assoc]; exact hj⟩
    rotate_left
    focus have m3 : Aside0 (J (Pl.stH B P T :: (Pl.exsF (L.take j) ++ (done ++ [(4 - x.2.2.1, x.1 + p, 16, dd, 0, 0, 0)]))) W2) := ⟨by rw [← List.append_assoc]; exact hj⟩
    rotate_left
    all_goals
     have m4 := Aside0.mk (HB.out.trans hk.1)
     clear GS BX BY JJ BD HB hj hk hy HR hHeld
     have GS := m1
     have BX := m2
     have JJ := m3
     have HB := m4
     clear m1 m2 m3 m4
     refine wpAnyIn_ready (rs := [13]) (by kernel_rfl) (by simp) (AllReadyIn.cons rfl (fun K hK => ?_) AllReadyIn.nil)
     refine value_op (v := .bool false) rfl (by rfl) (hK _ _ ?_)
     clear hK K
     refine wpAnyIn_done (by kernel_rfl) ?_ _
     simp only [Act.put, Kx.sb, Kx.sz, Kx.ss]
     go_wp2
    ·go_roundw
     case rel => exact ⟨p + 16, kf, done ++ [(4 - x.2.2.1, x.1 + p, (x.2.1 - p), dd, 0, 0, 0)], by rw [w4], ⟨by have := PB.out; have := XO.out; have := HP.out; have := MB.out; omega⟩, ⟨by rw [EXG.out, HM.out, List.append_assoc]; rfl⟩, JJ, HB, GS, BX⟩
     case measure => rw [w4, intOf_i64, intOf_i64]; exact meas_in HP.out MB.out
    ·go_roundw
     case rel => exact ⟨p + 16, kf, done ++ [(4 - x.2.2.1, x.1 + p, 16, dd, 0, 0, 0)], by rw [w4], ⟨by have := PB.out; have := XO.out; have := HP.out; have := MB.out; omega⟩, ⟨by rw [EXG.out, HM.out, List.append_assoc]; rfl⟩, JJ, HB, GS, BX⟩
     case measure => rw [w4, intOf_i64, intOf_i64]; exact meas_in HP.out MB.out
  have hk2 : (x.2.2.1 == 2) = false := beq_eq_false_iff_ne.mpr k2
  have HM := Aside0.mk (show Pl.mostF x = x.2.1 from if_neg k2)
  clear k2
  go_wp2
  clear hk2 hcx1 hfx1 hcx2 hfx2
  go_loopw [6] (fun i wr => ∃ (p : Int) (kf : Nat) (done : List Pl.Frm), i = .int .i64 p ∧ Aside0 (0 ≤ p ∧ p ≤ 128 ∧ (x.2.1 - p).toNat < kf) ∧ Aside0 (Pl.exF x = done ++ Pl.cutsF x (Pl.mostF x) kf p) ∧ Aside0 (J (Pl.stH B P T :: (Pl.exsF (L.take j) ++ done)) wr) ∧ Aside0 (Below b0 w wr) ∧ Aside0 (wr.heap[gs]? = some (.cells #[.int .i64 B, .int .i64 P, .int .i64 T, .slice (some ad) L.length c0] 24 (0, 0))) ∧ Aside0 (wr.heap[gx]? = some (.cells #[.int .i64 x.1, .int .i64 x.2.1, .int .i64 x.2.2.1, .int .i64 x.2.2.2.1, .slice Ax x.2.2.2.2.length cx] 36 (0, 0)))) (fun i _ => (x.2.1 - intOf i).toNat)
  case atStart => exact ⟨0, 65, [], rfl, ⟨by have := XO.out; omega⟩, ⟨EXF.out.symm⟩, ⟨by rw [List.append_nil]; exact JJ.out⟩, HB, GS, BX⟩
  case round =>
   clear JJ HB GS BX EXF p0 q0
   obtain ⟨p, kf, done, rfl, PB, EXF, JJ, HB, GS, BX⟩ := hrel
   obtain ⟨hcx0, hcx1, hcx2, hcx3, hcx4, hfx0, hfx1, hfx2, hfx3, hfx4⟩ := Cz.d5 BX
   have hidx : ∀ w : World, (Instr.index 89 (.agg #[.int .i64 4, .int .i64 3, .int .i64 2]) (.int .i64 x.2.2.1)).run Try.prog w = .ok (.int .i64 (4 - x.2.2.1)) w := by
    intro w
    obtain h | h | h : x.2.2.1 = 0 ∨ x.2.2.1 = 1 ∨ x.2.2.1 = 2 := by have := XO.out; omega
    all_goals (rw [h]; kernel_rfl)
   by_cases hp : p < x.2.1
   rotate_left
   ·have d1 : decide (p < x.2.1) = false := decide_eq_false hp
    have JE : Aside0 (J (Pl.stH B P T :: Pl.exsF (L.take (j + 1))) wr) := ⟨by have h := EXF.out; rw [Pl.cutsF_end hp, List.append_nil] at h; rw [TX.out, Pl.exsF_snoc, h]; exact JJ.out⟩
    have w9 : wrap64 ((j : Int) + 1) = ((j + 1 : Nat) : Int) := by have := HL.out; unfold wrap64; omega
    clear hidx
    go_wp2
    go_roundw
    case rel => exact ⟨j + 1, hlt, by rw [w9], JE, HB, GS⟩
    case measure => rw [w9, intOf_i64, intOf_i64]; exact meas_next hlt
   have d1 : decide (p < x.2.1) = true := decide_eq_true hp
   obtain ⟨kf, rfl⟩ : ∃ m, kf = m + 1 := ⟨kf - 1, by have := PB.out; omega⟩
   have w1 : wrap64 (x.1 + p) = x.1 + p := by have := PB.out; have := XO.out; unfold wrap64; omega
   have w2 : wrap64 (x.2.1 - p) = x.2.1 - p := by have := PB.out; have := XO.out; unfold wrap64; omega
   have HP := Aside0.mk hp
   clear hp
   by_cases hs : x.2.1 - p < x.2.1
   focus
    have d2 : (x.2.1 - p < x.2.1) = True := eq_true hs
    have d3 : (0 < p) = True := eq_true (by omega)
    obtain ⟨dd, hdd⟩ : ∃ dd, dd = Pl.part x.2.2.1 x.2.2.2.2 p (p + (x.2.1 - p)) := ⟨_, rfl⟩
    have hmin : min (Pl.mostF x) (x.2.1 - p) = (x.2.1 - p) := by rw [HM.out]; omega
    have HCt := Aside0.mk (show extent_Cut.f x.1 x.2.1 x.2.2.1 x.2.2.2.1 x.2.2.2.2 (x.1 + p) (x.2.1 - p) = some (x.1 + p, (x.2.1 - p), x.2.2.1, x.2.2.2.1, dd, true) from by have h := Pl.cut_here EX.out (i := p) PB.out.1 HP.out; rw [hmin, ← hdd] at h; exact congrArg some h)
    have EXG := Aside0.mk (show Pl.exF x = done ++ ((4 - x.2.2.1, x.1 + p, (x.2.1 - p), dd, 0, 0, 0) :: Pl.cutsF x (Pl.mostF x) kf (p + x.2.1)) from by have h := EXF.out; rw [Pl.cutsF, if_pos HP.out, hmin, ← hdd, HM.out] at h; rw [HM.out]; exact h)
   rotate_left
   focus
    have d2 : (x.2.1 - p < x.2.1) = False := eq_false hs
    have d3 : (0 < p) = False := eq_false (by omega)
    obtain ⟨dd, hdd⟩ : ∃ dd, dd = Pl.part x.2.2.1 x.2.2.2.2 p (p + x.2.1) := ⟨_, rfl⟩
    have hmin : min (Pl.mostF x) (x.2.1 - p) = x.2.1 := by rw [HM.out]; omega
    have HCt := Aside0.mk (show extent_Cut.f x.1 x.2.1 x.2.2.1 x.2.2.2.1 x.2.2.2.2 (x.1 + p) x.2.1 = some (x.1 + p, x.2.1, x.2.2.1, x.2.2.2.1, dd, true) from by have h := Pl.cut_here EX.out (i := p) PB.out.1 HP.out; rw [hmin, ← hdd] at h; exact congrArg some h)
    have EXG := Aside0.mk (show Pl.exF x = done ++ ((4 - x.2.2.1, x.1 + p, x.2.1, dd, 0, 0, 0) :: Pl.cutsF x (Pl.mostF x) kf (p + x.2.1)) from by have h := EXF.out; rw [Pl.cutsF, if_pos HP.out, hmin, ← hdd, HM.out] at h; rw [HM.out]; exact h)
   rotate_left
   all_goals
    have w4 : wrap64 (p + x.2.1) = p + x.2.1 := by have := PB.out; have := XO.out; unfold wrap64; omega
    have HIr := Aside0.mk (Kd.C_below HIx.out (HXB.out.trans (HB.out.mono HW0.out)))
    have MB := Aside0.mk (show (1 : Int) ≤ x.2.1 from by have := XO.out; have := HP.out; omega)
    clear hdd hmin EXF
    go_wp2_with fail
   focus refine (extent_Cut.calls x.1 x.2.1 x.2.2.1 x.2.2.2.1 _ _ x.2.2.2.2 _ _ (x.1 + p) (x.2.1 - p) x.2.2.1 x.2.2.2.1 dd true _ HIr.out HLx.out HCt.out).mono ?_
   rotate_left
   focus refine (extent_Cut.calls x.1 x.2.1 x.2.2.1 x.2.2.2.1 _ _ x.2.2.2.2 _ _ (x.1 + p) x.2.1 x.2.2.1 x.2.2.2.1 dd true _ HIr.out HLx.out HCt.out).mono ?_
   rotate_left
   all_goals
    rintro e' w4_ ⟨vy, rfl, ho, hb⟩
    obtain ⟨Ay, cy, ey⟩ := Kd.R_slice ho
    subst ey
    have BD := Aside0.mk (Kd.R_lower ho (Nat.le_trans B2.out HB.out.size))
    have m_GS := Aside0.mk (blk_below GS.out hb)
    have m_BX := Aside0.mk (blk_below BX.out hb)
    have m_HB := Aside0.mk (below_then HB.out (Nat.le_trans B2.out HB.out.size) hb)
    have m_JJ := Aside0.mk (HJ.out _ _ _ JJ.out (itKeeps.below hb))
    clear GS BX HB JJ
    have GS := m_GS
    have BX := m_BX
    have HB := m_HB
    have JJ := m_JJ
    clear m_GS m_BX m_HB m_JJ
    clear ho hb HIr HCt hcx0 hfx0 hcx1 hfx1 hcx2 hfx2 hcx3 hfx3 hcx4 hfx4
    go_upto_region 11 with (((with_reducible refine gate_dst (N := 7) rfl ?_); refine Cz.bx (N := 7) #[.int .i64 0, .int .i64 0, .int .i64 0, .int .i64 0, .slice none 0 0] 36 ?_; intro gy hg w5 hbox hb; have GYs := Aside0.mk (show b0 ≤ gy from Nat.le_trans (Nat.le_trans B2.out HB.out.size) (Nat.le_of_eq hg.symm)); have NXY := Aside0.mk (show gx ≠ gy from Nat.ne_of_lt (Nat.lt_of_lt_of_le (blk_lt BX.out) (Nat.le_of_eq hg.symm))); clear hg; have m_GS := Aside0.mk (blk_below GS.out hb); have m_BX := Aside0.mk (blk_below BX.out hb); have m_BD := Aside0.mk (Kd.R_below BD.out hb); have m_HB := Aside0.mk (below_then HB.out (Nat.le_trans B2.out HB.out.size) hb); have m_JJ := Aside0.mk (HJ.out _ _ _ JJ.out (itKeeps.below hb)); clear GS BX BD HB JJ; have GS := m_GS; have BX := m_BX; have BD := m_BD; have HB := m_HB; have JJ := m_JJ; clear m_GS m_BX m_BD m_HB m_JJ; have BY := Aside0.mk hbox; clear hbox hb; obtain ⟨hcy0, hcy1, hcy2, hcy3, hcy4, hfy0, hfy1, hfy2, hfy3, hfy4⟩ := Cz.d5 BY))
   focus
    have q_ : ∀ k_, k_ ≠ gy → (((((w5.setCell ⟨gy, 0, none⟩ (.int .i64 (x.1 + p))).setCell ⟨gy, 1, none⟩ (.int .i64 (x.2.1 - p))).setCell ⟨gy, 2, none⟩ (.int .i64 x.2.2.1)).setCell ⟨gy, 3, none⟩ (.int .i64 x.2.2.2.1)).setCell ⟨gy, 4, none⟩ (.slice Ay dd.length cy)).heap[k_]? = w5.heap[k_]? := fun k_ hk => (Below.heap_setCell _ ⟨gy, 4, none⟩ _ k_ hk).trans ((Below.heap_setCell _ ⟨gy, 3, none⟩ _ k_ hk).trans ((Below.heap_setCell _ ⟨gy, 2, none⟩ _ k_ hk).trans ((Below.heap_setCell _ ⟨gy, 1, none⟩ _ k_ hk).trans ((Below.heap_setCell _ ⟨gy, 0, none⟩ _ k_ hk).trans (rfl)))))
    have m1 : Aside0 ((((((w5.setCell ⟨gy, 0, none⟩ (.int .i64 (x.1 + p))).setCell ⟨gy, 1, none⟩ (.int .i64 (x.2.1 - p))).setCell ⟨gy, 2, none⟩ (.int .i64 x.2.2.1)).setCell ⟨gy, 3, none⟩ (.int .i64 x.2.2.2.1)).setCell ⟨gy, 4, none⟩ (.slice Ay dd.length cy)).heap[gy]? = some (.cells #[.int .i64 (x.1 + p), .int .i64 (x.2.1 - p), .int .i64 x.2.2.1, .int .i64 x.2.2.2.1, .slice Ay dd.length cy] 36 (0, 0))) := ⟨blk_put (blk_put (blk_put (blk_put (blk_put BY.out 0 _ rfl) 1 _ rfl) 2 _ rfl) 3 _ rfl) 4 _ rfl⟩
    have m2 : Aside0 ((((((w5.setCell ⟨gy, 0, none⟩ (.int .i64 (x.1 + p))).setCell ⟨gy, 1, none⟩ (.int .i64 (x.2.1 - p))).setCell ⟨gy, 2, none⟩ (.int .i64 x.2.2.1)).setCell ⟨gy, 3, none⟩ (.int .i64 x.2.2.2.1)).setCell ⟨gy, 4, none⟩ (.slice Ay dd.length cy)).heap[gs]? = _) := ⟨(q_ _ (blk_ne GS.out BY.out (by decide))).trans GS.out⟩
    have m3 : Aside0 ((((((w5.setCell ⟨gy, 0, none⟩ (.int .i64 (x.1 + p))).setCell ⟨gy, 1, none⟩ (.int .i64 (x.2.1 - p))).setCell ⟨gy, 2, none⟩ (.int .i64 x.2.2.1)).setCell ⟨gy, 3, none⟩ (.int .i64 x.2.2.2.1)).setCell ⟨gy, 4, none⟩ (.slice Ay dd.length cy)).heap[gx]? = _) := ⟨(q_ _ NXY.out).trans BX.out⟩
    have m4 := Aside0.mk (show J (Pl.stH B P T :: (Pl.exsF (L.take j) ++ done)) (((((w5.setCell ⟨gy, 0, none⟩ (.int .i64 (x.1 + p))).setCell ⟨gy, 1, none⟩ (.int .i64 (x.2.1 - p))).setCell ⟨gy, 2, none⟩ (.int .i64 x.2.2.1)).setCell ⟨gy, 3, none⟩ (.int .i64 x.2.2.2.1)).setCell ⟨gy, 4, none⟩ (.slice Ay dd.length cy)) from HJ.out _ _ _ JJ.out (itKeeps.trans (itKeeps.trans (itKeeps.trans (itKeeps.trans (itKeeps.set BY.out _) (itKeeps.set (blk_put BY.out 0 _ rfl) _)) (itKeeps.set (blk_put (blk_put BY.out 0 _ rfl) 1 _ rfl) _)) (itKeeps.set (blk_put (blk_put (blk_put BY.out 0 _ rfl) 1 _ rfl) 2 _ rfl) _)) (itKeeps.set (blk_put (blk_put (blk_put (blk_put BY.out 0 _ rfl) 1 _ rfl) 2 _ rfl) 3 _ rfl) _)))
    have m5 := Aside0.mk (show Kd.R (Kd.int .u8) 5 (((((w5.setCell ⟨gy, 0, none⟩ (.int .i64 (x.1 + p))).setCell ⟨gy, 1, none⟩ (.int .i64 (x.2.1 - p))).setCell ⟨gy, 2, none⟩ (.int .i64 x.2.2.1)).setCell ⟨gy, 3, none⟩ (.int .i64 x.2.2.2.1)).setCell ⟨gy, 4, none⟩ (.slice Ay dd.length cy)) b0 (fun _ => True) _ _ from Kd.R_mono (Kd.R_step (Kd.R_types BD.out BY.out (by decide)) (fun k_ hk _ => q_ k_ hk.2)) (fun _ _ => trivial))
    have m6 : Aside0 (Below b0 w (((((w5.setCell ⟨gy, 0, none⟩ (.int .i64 (x.1 + p))).setCell ⟨gy, 1, none⟩ (.int .i64 (x.2.1 - p))).setCell ⟨gy, 2, none⟩ (.int .i64 x.2.2.1)).setCell ⟨gy, 3, none⟩ (.int .i64 x.2.2.2.1)).setCell ⟨gy, 4, none⟩ (.slice Ay dd.length cy))) := ⟨((((HB.out.setCell (p := ⟨gy, 0, none⟩) GYs.out _).setCell (p := ⟨gy, 1, none⟩) GYs.out _).setCell (p := ⟨gy, 2, none⟩) GYs.out _).setCell (p := ⟨gy, 3, none⟩) GYs.out _).setCell (p := ⟨gy, 4, none⟩) GYs.out _⟩
    generalize (((((w5.setCell ⟨gy, 0, none⟩ (.int .i64 (x.1 + p))).setCell ⟨gy, 1, none⟩ (.int .i64 (x.2.1 - p))).setCell ⟨gy, 2, none⟩ (.int .i64 x.2.2.1)).setCell ⟨gy, 3, none⟩ (.int .i64 x.2.2.2.1)).setCell ⟨gy, 4, none⟩ (.slice Ay dd.length cy)) = w6 at m1 m2 m3 m4 m5 m6 ⊢
   rotate_left
   focus
    have q_ : ∀ k_, k_ ≠ gy → (((((w5.setCell ⟨gy, 0, none⟩ (.int .i64 (x.1 + p))).setCell ⟨gy, 1, none⟩ (.int .i64 x.2.1)).setCell ⟨gy, 2, none⟩ (.int .i64 x.2.2.1)).setCell ⟨gy, 3, none⟩ (.int .i64 x.2.2.2.1)).setCell ⟨gy, 4, none⟩ (.slice Ay dd.length cy)).heap[k_]? = w5.heap[k_]? := fun k_ hk => (Below.heap_setCell _ ⟨gy, 4, none⟩ _ k_ hk).trans ((Below.heap_setCell _ ⟨gy, 3, none⟩ _ k_ hk).trans ((Below.heap_setCell _ ⟨gy, 2, none⟩ _ k_ hk).trans ((Below.heap_setCell _ ⟨gy, 1, none⟩ _ k_ hk).trans ((Below.heap_setCell _ ⟨gy, 0, none⟩ _ k_ hk).trans (rfl)))))
    have m1 : Aside0 ((((((w5.setCell ⟨gy, 0, none⟩ (.int .i64 (x.1 + p))).setCell ⟨gy, 1, none⟩ (.int .i64 x.2.1)).setCell ⟨gy, 2, none⟩ (.int .i64 x.2.2.1)).setCell ⟨gy, 3, none⟩ (.int .i64 x.2.2.2.1)).setCell ⟨gy, 4, none⟩ (.slice Ay dd.length cy)).heap[gy]? = some (.cells #[.int .i64 (x.1 + p), .int .i64 x.2.1, .int .i64 x.2.2.1, .int .i64 x.2.2.2.1, .slice Ay dd.length cy] 36 (0, 0))) := ⟨blk_put (blk_put (blk_put (blk_put (blk_put BY.out 0 _ rfl) 1 _ rfl) 2 _ rfl) 3 _ rfl) 4 _ rfl⟩
    have m2 : Aside0 ((((((w5.setCell ⟨gy, 0, none⟩ (.int .i64 (x.1 + p))).setCell ⟨gy, 1, none⟩ (.int .i64 x.2.1)).setCell ⟨gy, 2, none⟩ (.int .i64 x.2.2.1)).setCell ⟨gy, 3, none⟩ (.int .i64 x.2.2.2.1)).setCell ⟨gy, 4, none⟩ (.slice Ay dd.length cy)).heap[gs]? = _) := ⟨(q_ _ (blk_ne GS.out BY.out (by decide))).trans GS.out⟩
    have m3 : Aside0 ((((((w5.setCell ⟨gy, 0, none⟩ (.int .i64 (x.1 + p))).setCell ⟨gy, 1, none⟩ (.int .i64 x.2.1)).setCell ⟨gy, 2, none⟩ (.int .i64 x.2.2.1)).setCell ⟨gy, 3, none⟩ (.int .i64 x.2.2.2.1)).setCell ⟨gy, 4, none⟩ (.slice Ay dd.length cy)).heap[gx]? = _) := ⟨(q_ _ NXY.out).trans BX.out⟩
    have m4 := Aside0.mk (show J (Pl.stH B P T :: (Pl.exsF (L.take j) ++ done)) (((((w5.setCell ⟨gy, 0, none⟩ (.int .i64 (x.1 + p))).setCell ⟨gy, 1, none⟩ (.int .i64 x.2.1)).setCell ⟨gy, 2, none⟩ (.int .i64 x.2.2.1)).setCell ⟨gy, 3, none⟩ (.int .i64 x.2.2.2.1)).setCell ⟨gy, 4, none⟩ (.slice Ay dd.length cy)) from HJ.out _ _ _ JJ.out (itKeeps.trans (itKeeps.trans (itKeeps.trans (itKeeps.trans (itKeeps.set BY.out _) (itKeeps.set (blk_put BY.out 0 _ rfl) _)) (itKeeps.set (blk_put (blk_put BY.out 0 _ rfl) 1 _ rfl) _)) (itKeeps.set (blk_put (blk_put (blk_put BY.out 0 _ rfl) 1 _ rfl) 2 _ rfl) _)) (itKeeps.set (blk_put (blk_put (blk_put (blk_put BY.out 0 _ rfl) 1 _ rfl) 2 _ rfl) 3 _ rfl) _)))
    have m5 := Aside0.mk (show Kd.R (Kd.int .u8) 5 (((((w5.setCell ⟨gy, 0, none⟩ (.int .i64 (x.1 + p))).setCell ⟨gy, 1, none⟩ (.int .i64 x.2.1)).setCell ⟨gy, 2, none⟩ (.int .i64 x.2.2.1)).setCell ⟨gy, 3, none⟩ (.int .i64 x.2.2.2.1)).setCell ⟨gy, 4, none⟩ (.slice Ay dd.length cy)) b0 (fun _ => True) _ _ from Kd.R_mono (Kd.R_step (Kd.R_types BD.out BY.out (by decide)) (fun k_ hk _ => q_ k_ hk.2)) (fun _ _ => trivial))
    have m6 : Aside0 (Below b0 w (((((w5.setCell ⟨gy, 0, none⟩ (.int .i64 (x.1 + p))).setCell ⟨gy, 1, none⟩ (.int .i64 x.2.1)).setCell ⟨gy, 2, none⟩ (.int .i64 x.2.2.1)).setCell ⟨gy, 3, none⟩ (.int .i64 x.2.2.2.1)).setCell ⟨gy, 4, none⟩ (.slice Ay dd.length cy))) := ⟨((((HB.out.setCell (p := ⟨gy, 0, none⟩) GYs.out _).setCell (p := ⟨gy, 1, none⟩) GYs.out _).setCell (p := ⟨gy, 2, none⟩) GYs.out _).setCell (p := ⟨gy, 3, none⟩) GYs.out _).setCell (p := ⟨gy, 4, none⟩) GYs.out _⟩
    generalize (((((w5.setCell ⟨gy, 0, none⟩ (.int .i64 (x.1 + p))).setCell ⟨gy, 1, none⟩ (.int .i64 x.2.1)).setCell ⟨gy, 2, none⟩ (.int .i64 x.2.2.1)).setCell ⟨gy, 3, none⟩ (.int .i64 x.2.2.2.1)).setCell ⟨gy, 4, none⟩ (.slice Ay dd.length cy)) = w6 at m1 m2 m3 m4 m5 m6 ⊢
   rotate_left
   all_goals
    clear q_ GS BX BY JJ BD HB hcy0 hfy0 hcy1 hfy1 hcy2 hfy2 hcy3 hfy3 hcy4 hfy4
    have BY := m1
    have GS := m2
    have BX := m3
    have JJ := m4
    have BD := m5
    have HB := m6
    clear m1 m2 m3 m4 m5 m6
    have m_GS := Aside0.mk (blk_drew GS.out)
    have m_BX := Aside0.mk (blk_drew BX.out)
    have m_BY := Aside0.mk (blk_drew BY.out)
    have m_BD := Aside0.mk (Kd.R_drew BD.out)
    have m_HB := Aside0.mk (below_drew HB.out)
    have m_JJ := Aside0.mk (HJ.out _ _ _ JJ.out (itKeeps.drew _))
    clear GS BX BY BD HB JJ
    have GS := m_GS
    have BX := m_BX
    have BY := m_BY
    have BD := m_BD
    have HB := m_HB
    have JJ := m_JJ
    clear m_GS m_BX m_BY m_BD m_HB m_JJ
   focus refine Kx.region_split (pre := frPre) (S := fun w' => w'.cell? ⟨gx, 2, none⟩ = some (.int .i64 x.2.2.1) ∧ w'.cell? ⟨gy, 0, none⟩ = some (.int .i64 (x.1 + p)) ∧ w'.cell? ⟨gy, 1, none⟩ = some (.int .i64 (x.2.1 - p)) ∧ w'.cell? ⟨gy, 4, none⟩ = some (.slice Ay dd.length cy)) (ds := []) 3 12 #[false, false, false, false, false, false, false, false, false, false, false, false] (by kernel_rfl) (by kernel_rfl) (by kernel_rfl) rfl ⟨((blk_cell BX.out 2).trans rfl), ((blk_cell BY.out 0).trans rfl), ((blk_cell BY.out 1).trans rfl), ((blk_cell BY.out 4).trans rfl)⟩ (fun hHeld => ?_)
   rotate_left
   focus refine Kx.region_split (pre := frPre) (S := fun w' => w'.cell? ⟨gx, 2, none⟩ = some (.int .i64 x.2.2.1) ∧ w'.cell? ⟨gy, 0, none⟩ = some (.int .i64 (x.1 + p)) ∧ w'.cell? ⟨gy, 1, none⟩ = some (.int .i64 x.2.1) ∧ w'.cell? ⟨gy, 4, none⟩ = some (.slice Ay dd.length cy)) (ds := []) 3 12 #[false, false, false, false, false, false, false, false, false, false, false, false] (by kernel_rfl) (by kernel_rfl) (by kernel_rfl) rfl ⟨((blk_cell BX.out 2).trans rfl), ((blk_cell BY.out 0).trans rfl), ((blk_cell BY.out 1).trans rfl), ((blk_cell BY.out 4).trans rfl)⟩ (fun hHeld => ?_)
   rotate_left
   all_goals
    generalize w6.drew = w7 at GS BX BY BD HB JJ hHeld ⊢
    refine Cz.rP 0 53 ?_
    refine Cz.rP 2 55 ?_
    refine Cz.rP 5 58 ?_
    refine Cz.rP 7 60 ?_
    refine Cz.rP 9 62 ?_
    refine Cz.rT 3 56 hHeld ?_
    refine Cz.rT 6 59 hHeld ?_
    refine Cz.rT 8 61 hHeld ?_
    refine Cz.rT 10 63 hHeld ?_
    refine Cz.rO (N := some 54) 1 (fun K hK => ?_)
    refine goes_ Try.func63 (by kernel_rfl) rfl #[] (by rfl) rfl rfl (by simp only [List.map_toArray, List.map_cons, List.map_nil]) ?_
    with_reducible refine ((stream_kinds.calls _)).mono ?_
    rintro e' w8 ⟨rfl, hb⟩
    refine ⟨_, rfl, ?_⟩
    have m_GS := Aside0.mk (blk_below GS.out hb)
    have m_BX := Aside0.mk (blk_below BX.out hb)
    have m_BY := Aside0.mk (blk_below BY.out hb)
    have m_BD := Aside0.mk (Kd.R_below BD.out hb)
    have m_HB := Aside0.mk (below_then HB.out (Nat.le_trans B2.out HB.out.size) hb)
    have m_JJ := Aside0.mk (HJ.out _ _ _ JJ.out (itKeeps.below hb))
    clear GS BX BY BD HB JJ
    have GS := m_GS
    have BX := m_BX
    have BY := m_BY
    have BD := m_BD
    have HB := m_HB
    have JJ := m_JJ
    clear m_GS m_BX m_BY m_BD m_HB m_JJ
    clear hb
    refine hK.out _ _ ⟨((blk_cell BX.out 2).trans rfl), ((blk_cell BY.out 0).trans rfl), ((blk_cell BY.out 1).trans rfl), ((blk_cell BY.out 4).trans rfl)⟩ (fun hHeld => ?_)
    clear hK K
    refine Cz.nm (some 54) ?_
    refine Cz.rT 4 57 hHeld ?_
    refine Cz.rP 11 64 ?_
    refine done_ (by kernel_rfl) ?_
   focus obtain ⟨fn, tm, asg, bd, hy, hR⟩ := HY.out (Pl.stH B P T :: (Pl.exsF (L.take j) ++ done)) (4 - x.2.2.1, x.1 + p, (x.2.1 - p), dd, 0, 0, 0) Ay cy _ JJ.out ⟨Pl.cutsF x (Pl.mostF x) kf (p + x.2.1) ++ Pl.exsF (L.drop (j + 1)), by rw [Pl.stF, List.cons_append]; congr 1; have h := congrArg Pl.exsF DX.out; rw [Pl.exsF_append, Pl.exsF, EXG.out] at h; rw [h]; simp only [List.append_assoc, List.cons_append]⟩ (Kd.R_reads' BD.out).2.2 (Kd.R_reads' BD.out).2.1
   rotate_left
   focus obtain ⟨fn, tm, asg, bd, hy, hR⟩ := HY.out (Pl.stH B P T :: (Pl.exsF (L.take j) ++ done)) (4 - x.2.2.1, x.1 + p, x.2.1, dd, 0, 0, 0) Ay cy _ JJ.out ⟨Pl.cutsF x (Pl.mostF x) kf (p + x.2.1) ++ Pl.exsF (L.drop (j + 1)), by rw [Pl.stF, List.cons_append]; congr 1; have h := congrArg Pl.exsF DX.out; rw [Pl.exsF_append, Pl.exsF, EXG.out] at h; rw [h]; simp only [List.append_assoc, List.cons_append]⟩ (Kd.R_reads' BD.out).2.2 (Kd.R_reads' BD.out).2.1
   rotate_left
   all_goals
    have HR := Aside0.mk hR
    clear hR
    simp only [frV] at hy
    refine (show wpAnyIn Fence.wide 3 _ _ _ _ (1 + 1) #[true, true, true, true, true, true, true, true, true, true, true, true, false, false] _ _ from ?_)
    refine wpAnyIn_ready (rs := [12]) (by kernel_rfl) (by simp) (AllReadyIn.cons rfl (fun K hK => ?_) AllReadyIn.nil)
    refine yield_op rfl rfl rfl rfl hy (RoundIn.mono HR.out (fun e W2 h => ?_))
    obtain ⟨rfl, hj, hk⟩ := h
    refine ⟨_, rfl, hK _ _ ?_⟩
    clear hK K
    have m1 : Aside0 (W2.heap[gs]? = _) := ⟨hk.2.2.trans GS.out⟩
    have m2 : Aside0 (W2.heap[gx]? = _) := ⟨hk.2.1 gx _ BX.out⟩
   focus have m3 : Aside0 (J (Pl.stH B P T :: (Pl.exsF (L.take j) ++ (done ++ [(4 - x.2.2.1, x.1 + p, (x.2.1 - p), dd, 0, 0, 0)]))) W2) := ⟨by rw [← List.append_assoc]; exact hj⟩
   rotate_left
   focus have m3 : Aside0 (J (Pl.stH B P T :: (Pl.exsF (L.take j) ++ (done ++ [(4 - x.2.2.1, x.1 + p, x.2.1, dd, 0, 0, 0)]))) W2) := ⟨by rw [← List.append_assoc]; exact hj⟩
   rotate_left
   all_goals
    have m4 := Aside0.mk (HB.out.trans hk.1)
    clear GS BX BY JJ BD HB hj hk hy HR hHeld
    have GS := m1
    have BX := m2
    have JJ := m3
    have HB := m4
    clear m1 m2 m3 m4
    refine wpAnyIn_ready (rs := [13]) (by kernel_rfl) (by simp) (AllReadyIn.cons rfl (fun K hK => ?_) AllReadyIn.nil)
    refine value_op (v := .bool false) rfl (by rfl) (hK _ _ ?_)
    clear hK K
    refine wpAnyIn_done (by kernel_rfl) ?_ _
    simp only [Act.put, Kx.sb, Kx.sz, Kx.ss]
    go_wp2
   ·go_roundw
    case rel => exact ⟨p + x.2.1, kf, done ++ [(4 - x.2.2.1, x.1 + p, (x.2.1 - p), dd, 0, 0, 0)], by rw [w4], ⟨by have := PB.out; have := XO.out; have := HP.out; have := MB.out; omega⟩, ⟨by rw [EXG.out, HM.out, List.append_assoc]; rfl⟩, JJ, HB, GS, BX⟩
    case measure => rw [w4, intOf_i64, intOf_i64]; exact meas_in HP.out MB.out
   ·go_roundw
    case rel => exact ⟨p + x.2.1, kf, done ++ [(4 - x.2.2.1, x.1 + p, x.2.1, dd, 0, 0, 0)], by rw [w4], ⟨by have := PB.out; have := XO.out; have := HP.out; have := MB.out; omega⟩, ⟨by rw [EXG.out, HM.out, List.append_assoc]; rfl⟩, JJ, HB, GS, BX⟩
    case measure => rw [w4, intOf_i64, intOf_i64]; exact meas_in HP.out MB.out
def ofV (k a n : Int) (A3 : Option Addr) (m c3 : Nat) (A B C : Int) : Value :=
 if k = 1 then .iface 93 (.agg #[.int .i64 A, .int .i64 B, .int .i64 C])
 else if k = 2 ∨ k = 3 ∨ k = 4 then .iface 95 (.agg #[.int .i64 k, .int .i64 a, .int .i64 n, .slice A3 m c3])
 else if k = 5 then .iface 97 (.agg #[.int .i64 A, .int .i64 B])
 else .nilIface
set_option maxHeartbeats 1000000 in
theorem frame_of.calls (k a n : Int) (A3 : Option Addr) (m c3 : Nat) (A B C : Int) (w : World) : Calls Try.prog 38 #[.agg #[.int .i64 k, .int .i64 a, .int .i64 n, .slice A3 m c3, .int .i64 A, .int .i64 B, .int .i64 C]] w fun e w' => e = .returned (ofV k a n A3 m c3 A B C) ∧ Below w.heap.size w w' := by
 have hu0 := Try.underlying38
 have hu1 := Try.underlying93
 have hu2 := Try.underlying95
 have hu3 := Try.underlying97
 by_cases h1 : k = 1
 rotate_left
 focus
  by_cases h2 : k = 2
  rotate_left
  focus
   by_cases h3 : k = 3
   rotate_left
   focus
    by_cases h4 : k = 4
    rotate_left
    focus by_cases h5 : k = 5
    rotate_left 2
   rotate_left 3
  rotate_left 4
 rotate_left 5
 focus subst h1
 rotate_left
 focus subst h2
 rotate_left
 focus subst h3
 rotate_left
 focus subst h4
 rotate_left
 focus subst h5
 rotate_left
 focus
  have b1 : (k == 1) = false := beq_eq_false_iff_ne.mpr h1
  have b2 : (k == 2) = false := beq_eq_false_iff_ne.mpr h2
  have b3 : (k == 3) = false := beq_eq_false_iff_ne.mpr h3
  have b4 : (k == 4) = false := beq_eq_false_iff_ne.mpr h4
  have b5 : (k == 5) = false := beq_eq_false_iff_ne.mpr h5
  have hv : ofV k a n A3 m c3 A B C = .nilIface := by unfold ofV; rw [if_neg h1, if_neg (by omega), if_neg h5]
  rw [hv]
  clear h1 h2 h3 h4 h5 hv
 rotate_left
 all_goals
  go_enter Try.func38, Try.ntmps38
  go_wp2
  go_ret
  exact ⟨rfl, below_alloc (Below.refl _ _) _⟩
theorem ta_blocks_head (x : Value) (w : World) : (Instr.typeAssert (.iface 95 x) 64 93 true).run Try.prog w = .ok (.tuple #[.agg #[.int .i64 0, .int .i64 0, .int .i64 0], .bool false]) w := by kernel_rfl
theorem ta_end_head (x : Value) (w : World) : (Instr.typeAssert (.iface 97 x) 64 93 true).run Try.prog w = .ok (.tuple #[.agg #[.int .i64 0, .int .i64 0, .int .i64 0], .bool false]) w := by kernel_rfl
theorem ta_end_blocks (x : Value) (w : World) : (Instr.typeAssert (.iface 97 x) 64 95 true).run Try.prog w = .ok (.tuple #[.agg #[.int .i64 0, .int .i64 0, .int .i64 0, .slice none 0 0], .bool false]) w := by kernel_rfl
theorem ta_head_head (x : Value) (w : World) : (Instr.typeAssert (.iface 93 x) 64 93 true).run Try.prog w = .ok (.tuple #[x, .bool true]) w := by kernel_rfl
theorem ta_blocks_blocks (x : Value) (w : World) : (Instr.typeAssert (.iface 95 x) 64 95 true).run Try.prog w = .ok (.tuple #[x, .bool true]) w := by kernel_rfl
theorem ta_end_end (x : Value) (w : World) : (Instr.typeAssert (.iface 97 x) 64 97 true).run Try.prog w = .ok (.tuple #[x, .bool true]) w := by kernel_rfl
set_option maxRecDepth 100000 in
set_option maxHeartbeats 2000000 in
theorem frame_framed.head (k : Int) (A B C : Int) (w : World) : Calls Try.prog 47 #[.int .i64 k, .iface 93 (.agg #[.int .i64 A, .int .i64 B, .int .i64 C])] w fun e w' => e = .returned (.agg #[.int .i64 k, .int .i64 0, .int .i64 0, .slice none 0 0, .int .i64 A, .int .i64 B, .int .i64 C]) ∧ Below w.heap.size w w' := by
 have hu0 := Try.underlying38
 have hu1 := Try.underlying93
 have ta_head_head_ := ta_head_head
 go_enter Try.func47, Try.ntmps47
 go_wp2_with fail
 obtain ⟨w3, hw3⟩ : ∃ x, x = ((w.alloc (.cells #[.int .i64 0, .int .i64 0, .int .i64 0, .slice none 0 0, .int .i64 0, .int .i64 0, .int .i64 0] 38)).alloc (.cells #[.int .i64 k, .int .i64 0, .int .i64 0, .slice none 0 0, .int .i64 0, .int .i64 0, .int .i64 0] 38)).alloc (.cells #[.int .i64 A, .int .i64 B, .int .i64 C] 93) := ⟨_, rfl⟩
 have BK0 : Aside0 (w3.heap[w.heap.size]? = some (.cells #[.int .i64 0, .int .i64 0, .int .i64 0, .slice none 0 0, .int .i64 0, .int .i64 0, .int .i64 0] 38 (0, 0))) := ⟨by rw [hw3]; exact blk_alloc (blk_alloc (heap_alloc_new w _) _) _⟩
 have BK1 : Aside0 (w3.heap[w.heap.size + 1]? = some (.cells #[.int .i64 k, .int .i64 0, .int .i64 0, .slice none 0 0, .int .i64 0, .int .i64 0, .int .i64 0] 38 (0, 0))) := ⟨by rw [hw3]; exact blk_alloc (by have := heap_alloc_new (w.alloc (.cells #[.int .i64 0, .int .i64 0, .int .i64 0, .slice none 0 0, .int .i64 0, .int .i64 0, .int .i64 0] 38)) (.cells #[.int .i64 k, .int .i64 0, .int .i64 0, .slice none 0 0, .int .i64 0, .int .i64 0, .int .i64 0] 38); rwa [show (w.alloc (.cells #[.int .i64 0, .int .i64 0, .int .i64 0, .slice none 0 0, .int .i64 0, .int .i64 0, .int .i64 0] 38)).heap.size = w.heap.size + 1 by simp only [World.alloc, Array.size_push]] at this) _⟩
 have BK2 : Aside0 (w3.heap[w.heap.size + 1 + 1]? = some (.cells #[.int .i64 A, .int .i64 B, .int .i64 C] 93 (0, 0))) := ⟨by rw [hw3]; have := heap_alloc_new ((w.alloc (.cells #[.int .i64 0, .int .i64 0, .int .i64 0, .slice none 0 0, .int .i64 0, .int .i64 0, .int .i64 0] 38)).alloc (.cells #[.int .i64 k, .int .i64 0, .int .i64 0, .slice none 0 0, .int .i64 0, .int .i64 0, .int .i64 0] 38)) (.cells #[.int .i64 A, .int .i64 B, .int .i64 C] 93); rwa [show ((w.alloc (.cells #[.int .i64 0, .int .i64 0, .int .i64 0, .slice none 0 0, .int .i64 0, .int .i64 0, .int .i64 0] 38)).alloc (.cells #[.int .i64 k, .int .i64 0, .int .i64 0, .slice none 0 0, .int .i64 0, .int .i64 0, .int .i64 0] 38)).heap.size = w.heap.size + 1 + 1 by simp only [World.alloc, Array.size_push]] at this⟩
 have HB : Aside0 (Below w.heap.size w w3) := ⟨by rw [hw3]; exact below_alloc (below_alloc (below_alloc (Below.refl _ _) _) _) _⟩
 rw [← hw3]
 clear hw3
 obtain ⟨g0, hg0⟩ : ∃ g, g = w.heap.size := ⟨_, rfl⟩
 obtain ⟨g1, hg1⟩ : ∃ g, g = w.heap.size + 1 := ⟨_, rfl⟩
 obtain ⟨g2, hg2⟩ : ∃ g, g = w.heap.size + 1 + 1 := ⟨_, rfl⟩
 rw [← hg2] at BK2
 rw [← hg1] at BK1
 rw [← hg0] at BK0
 rw [← hg2, ← hg1, ← hg0]
 have G0 := Aside0.mk (show w.heap.size ≤ g0 by omega)
 have G1 := Aside0.mk (show w.heap.size ≤ g1 by omega)
 have N0 := Aside0.mk (show g1 ≠ g2 by omega)
 have N1 := Aside0.mk (show g0 ≠ g1 by omega)
 clear hg0 hg1 hg2
 have n0 := Aside0.mk (blk_drew BK0.out)
 have n1 := Aside0.mk (blk_drew BK1.out)
 have n2 := Aside0.mk (blk_drew BK2.out)
 have nb := Aside0.mk (below_drew HB.out)
 clear BK0 BK1 BK2 HB
 have BK0 := n0
 have BK1 := n1
 have BK2 := n2
 have HB := nb
 clear n0 n1 n2 nb
 have hcz : w3.drew.cell? ⟨g1, 4, none⟩ = some (.int .i64 0) := (blk_cell BK1.out 4).trans rfl
 have hfz := blk_frozen BK1.out 4
 refine start_ (n := 12) (S := fun w' => w'.cell? ⟨g2, 0, none⟩ = some (.int .i64 A) ∧ w'.cell? ⟨g2, 1, none⟩ = some (.int .i64 B) ∧ w'.cell? ⟨g2, 2, none⟩ = some (.int .i64 C)) (ds := []) #[false, false, false, false, false, false, false, false, false, false, false, false] (by kernel_rfl) rfl rfl ⟨((blk_cell BK2.out 0).trans rfl), ((blk_cell BK2.out 1).trans rfl), ((blk_cell BK2.out 2).trans rfl)⟩ (fun hHeld => ?_)
 generalize w3.drew = w4 at BK0 BK1 BK2 HB hcz hfz hHeld ⊢
 refine Cz.rP 0 15 ?_
 refine Cz.rP 2 17 ?_
 refine Cz.rP 4 19 ?_
 refine Cz.rT 1 16 hHeld ?_
 refine Cz.rP 6 21 ?_
 refine Cz.rT 3 18 hHeld ?_
 refine Cz.rT 5 20 hHeld ?_
 refine Cz.rO (N := none) 7 (fun K hK => ?_)
 refine skip_ (w1 := ?_) (by rfl) rfl ?_ ?_
 rotate_left
 ·go_simp
  rfl
 have n0 := Aside0.mk (blk_far BK0.out (p := ⟨g1, 4, none⟩) N1.out (.int .i64 A))
 have n1 := Aside0.mk (blk_put BK1.out 4 (.int .i64 A) rfl)
 have n2 := Aside0.mk (blk_far BK2.out (p := ⟨g1, 4, none⟩) (Ne.symm N0.out) (.int .i64 A))
 have nb := Aside0.mk (show Below w.heap.size w (w4.setCell ⟨g1, 4, none⟩ (.int .i64 A)) from below_set HB.out G1.out)
 generalize w4.setCell ⟨g1, 4, none⟩ (.int .i64 A) = w5 at n0 n1 n2 nb ⊢
 clear BK0 BK1 BK2 HB hcz hfz
 have BK0 := n0
 have BK1 : Aside0 (w5.heap[g1]? = some (.cells #[.int .i64 k, .int .i64 0, .int .i64 0, .slice none 0 0, .int .i64 A, .int .i64 0, .int .i64 0] 38 (0, 0))) := ⟨n1.out⟩
 have BK2 := n2
 have HB := nb
 clear n0 n1 n2 nb
 have hcz : w5.cell? ⟨g1, 5, none⟩ = some (.int .i64 0) := (blk_cell BK1.out 5).trans rfl
 have hfz := blk_frozen BK1.out 5
 refine hK.out _ _ ⟨((blk_cell BK2.out 0).trans rfl), ((blk_cell BK2.out 1).trans rfl), ((blk_cell BK2.out 2).trans rfl)⟩ (fun hHeld => ?_)
 clear hK K
 refine Cz.rP 8 22 ?_
 refine Cz.rO (N := none) 9 (fun K hK => ?_)
 refine skip_ (w1 := ?_) (by rfl) rfl ?_ ?_
 rotate_left
 ·go_simp
  rfl
 have n0 := Aside0.mk (blk_far BK0.out (p := ⟨g1, 5, none⟩) N1.out (.int .i64 B))
 have n1 := Aside0.mk (blk_put BK1.out 5 (.int .i64 B) rfl)
 have n2 := Aside0.mk (blk_far BK2.out (p := ⟨g1, 5, none⟩) (Ne.symm N0.out) (.int .i64 B))
 have nb := Aside0.mk (show Below w.heap.size w (w5.setCell ⟨g1, 5, none⟩ (.int .i64 B)) from below_set HB.out G1.out)
 generalize w5.setCell ⟨g1, 5, none⟩ (.int .i64 B) = w0 at n0 n1 n2 nb ⊢
 clear BK0 BK1 BK2 HB hcz hfz
 have BK0 := n0
 have BK1 : Aside0 (w0.heap[g1]? = some (.cells #[.int .i64 k, .int .i64 0, .int .i64 0, .slice none 0 0, .int .i64 A, .int .i64 B, .int .i64 0] 38 (0, 0))) := ⟨n1.out⟩
 have BK2 := n2
 have HB := nb
 clear n0 n1 n2 nb
 have hcz : w0.cell? ⟨g1, 6, none⟩ = some (.int .i64 0) := (blk_cell BK1.out 6).trans rfl
 have hfz := blk_frozen BK1.out 6
 refine hK.out _ _ ⟨((blk_cell BK2.out 0).trans rfl), ((blk_cell BK2.out 1).trans rfl), ((blk_cell BK2.out 2).trans rfl)⟩ (fun hHeld => ?_)
 clear hK K
 refine Cz.rP 10 23 ?_
 refine Cz.rO (N := none) 11 (fun K hK => ?_)
 refine skip_ (w1 := ?_) (by rfl) rfl ?_ ?_
 rotate_left
 ·go_simp
  rfl
 have n0 := Aside0.mk (blk_far BK0.out (p := ⟨g1, 6, none⟩) N1.out (.int .i64 C))
 have n1 := Aside0.mk (blk_put BK1.out 6 (.int .i64 C) rfl)
 have n2 := Aside0.mk (blk_far BK2.out (p := ⟨g1, 6, none⟩) (Ne.symm N0.out) (.int .i64 C))
 have nb := Aside0.mk (show Below w.heap.size w (w0.setCell ⟨g1, 6, none⟩ (.int .i64 C)) from below_set HB.out G1.out)
 generalize w0.setCell ⟨g1, 6, none⟩ (.int .i64 C) = w7 at n0 n1 n2 nb ⊢
 clear BK0 BK1 BK2 HB hcz hfz
 have BK0 := n0
 have BK1 : Aside0 (w7.heap[g1]? = some (.cells #[.int .i64 k, .int .i64 0, .int .i64 0, .slice none 0 0, .int .i64 A, .int .i64 B, .int .i64 C] 38 (0, 0))) := ⟨n1.out⟩
 have BK2 := n2
 have HB := nb
 clear n0 n1 n2 nb
 refine hK.out _ _ ⟨((blk_cell BK2.out 0).trans rfl), ((blk_cell BK2.out 1).trans rfl), ((blk_cell BK2.out 2).trans rfl)⟩ (fun hHeld => ?_)
 clear hK K
 refine done_ (by kernel_rfl) ?_
 clear hHeld
 obtain ⟨hcz0, hcz1, hcz2, hcz3, hcz4, hcz5, hcz6⟩ := Cz.c7 BK1
 obtain ⟨hcy0, hcy1, hcy2, hcy3, hcy4, hcy5, hcy6, hfy0, hfy1, hfy2, hfy3, hfy4, hfy5, hfy6⟩ := Cz.d7 BK0
 go_wp2
 refine bodyPost_ret (results_cell_row rfl _ _ g0 38 #[.int .i64 k, .int .i64 0, .int .i64 0, .slice none 0 0, .int .i64 A, .int .i64 B, .int .i64 C] (0, 0) _ rfl (by apply Cz.a7; exact BK0.out) Try.underlying38 rfl (by kernel_rfl)) rfl ?_
 exact ⟨rfl, below_set (below_set (below_set (below_set (below_set (below_set (below_set (HB.out) G0.out) G0.out) G0.out) G0.out) G0.out) G0.out) G0.out⟩
set_option maxRecDepth 100000 in
set_option maxHeartbeats 2000000 in
theorem frame_framed.blocks (k : Int) (k2 a n : Int) (A3 : Option Addr) (m c3 : Nat) (w : World) : Calls Try.prog 47 #[.int .i64 k, .iface 95 (.agg #[.int .i64 k2, .int .i64 a, .int .i64 n, .slice A3 m c3])] w fun e w' => e = .returned (.agg #[.int .i64 k, .int .i64 a, .int .i64 n, .slice A3 m c3, .int .i64 0, .int .i64 0, .int .i64 0]) ∧ Below w.heap.size w w' := by
 have hu0 := Try.underlying38
 have hu1 := Try.underlying95
 have ta_blocks_head_ := ta_blocks_head
 have ta_blocks_blocks_ := ta_blocks_blocks
 go_enter Try.func47, Try.ntmps47
 go_wp2_with fail
 obtain ⟨w3, hw3⟩ : ∃ x, x = ((w.alloc (.cells #[.int .i64 0, .int .i64 0, .int .i64 0, .slice none 0 0, .int .i64 0, .int .i64 0, .int .i64 0] 38)).alloc (.cells #[.int .i64 k, .int .i64 0, .int .i64 0, .slice none 0 0, .int .i64 0, .int .i64 0, .int .i64 0] 38)).alloc (.cells #[.int .i64 k2, .int .i64 a, .int .i64 n, .slice A3 m c3] 95) := ⟨_, rfl⟩
 have BK0 : Aside0 (w3.heap[w.heap.size]? = some (.cells #[.int .i64 0, .int .i64 0, .int .i64 0, .slice none 0 0, .int .i64 0, .int .i64 0, .int .i64 0] 38 (0, 0))) := ⟨by rw [hw3]; exact blk_alloc (blk_alloc (heap_alloc_new w _) _) _⟩
 have BK1 : Aside0 (w3.heap[w.heap.size + 1]? = some (.cells #[.int .i64 k, .int .i64 0, .int .i64 0, .slice none 0 0, .int .i64 0, .int .i64 0, .int .i64 0] 38 (0, 0))) := ⟨by rw [hw3]; exact blk_alloc (by have := heap_alloc_new (w.alloc (.cells #[.int .i64 0, .int .i64 0, .int .i64 0, .slice none 0 0, .int .i64 0, .int .i64 0, .int .i64 0] 38)) (.cells #[.int .i64 k, .int .i64 0, .int .i64 0, .slice none 0 0, .int .i64 0, .int .i64 0, .int .i64 0] 38); rwa [show (w.alloc (.cells #[.int .i64 0, .int .i64 0, .int .i64 0, .slice none 0 0, .int .i64 0, .int .i64 0, .int .i64 0] 38)).heap.size = w.heap.size + 1 by simp only [World.alloc, Array.size_push]] at this) _⟩
 have BK2 : Aside0 (w3.heap[w.heap.size + 1 + 1]? = some (.cells #[.int .i64 k2, .int .i64 a, .int .i64 n, .slice A3 m c3] 95 (0, 0))) := ⟨by rw [hw3]; have := heap_alloc_new ((w.alloc (.cells #[.int .i64 0, .int .i64 0, .int .i64 0, .slice none 0 0, .int .i64 0, .int .i64 0, .int .i64 0] 38)).alloc (.cells #[.int .i64 k, .int .i64 0, .int .i64 0, .slice none 0 0, .int .i64 0, .int .i64 0, .int .i64 0] 38)) (.cells #[.int .i64 k2, .int .i64 a, .int .i64 n, .slice A3 m c3] 95); rwa [show ((w.alloc (.cells #[.int .i64 0, .int .i64 0, .int .i64 0, .slice none 0 0, .int .i64 0, .int .i64 0, .int .i64 0] 38)).alloc (.cells #[.int .i64 k, .int .i64 0, .int .i64 0, .slice none 0 0, .int .i64 0, .int .i64 0, .int .i64 0] 38)).heap.size = w.heap.size + 1 + 1 by simp only [World.alloc, Array.size_push]] at this⟩
 have HB : Aside0 (Below w.heap.size w w3) := ⟨by rw [hw3]; exact below_alloc (below_alloc (below_alloc (Below.refl _ _) _) _) _⟩
 rw [← hw3]
 clear hw3
 obtain ⟨g0, hg0⟩ : ∃ g, g = w.heap.size := ⟨_, rfl⟩
 obtain ⟨g1, hg1⟩ : ∃ g, g = w.heap.size + 1 := ⟨_, rfl⟩
 obtain ⟨g2, hg2⟩ : ∃ g, g = w.heap.size + 1 + 1 := ⟨_, rfl⟩
 rw [← hg2] at BK2
 rw [← hg1] at BK1
 rw [← hg0] at BK0
 rw [← hg2, ← hg1, ← hg0]
 have G0 := Aside0.mk (show w.heap.size ≤ g0 by omega)
 have G1 := Aside0.mk (show w.heap.size ≤ g1 by omega)
 have N0 := Aside0.mk (show g1 ≠ g2 by omega)
 have N1 := Aside0.mk (show g0 ≠ g1 by omega)
 clear hg0 hg1 hg2
 have n0 := Aside0.mk (blk_drew BK0.out)
 have n1 := Aside0.mk (blk_drew BK1.out)
 have n2 := Aside0.mk (blk_drew BK2.out)
 have nb := Aside0.mk (below_drew HB.out)
 clear BK0 BK1 BK2 HB
 have BK0 := n0
 have BK1 := n1
 have BK2 := n2
 have HB := nb
 clear n0 n1 n2 nb
 have hcz : w3.drew.cell? ⟨g1, 1, none⟩ = some (.int .i64 0) := (blk_cell BK1.out 1).trans rfl
 have hfz := blk_frozen BK1.out 1
 refine start_ (n := 12) (S := fun w' => w'.cell? ⟨g2, 1, none⟩ = some (.int .i64 a) ∧ w'.cell? ⟨g2, 2, none⟩ = some (.int .i64 n) ∧ w'.cell? ⟨g2, 3, none⟩ = some (.slice A3 m c3)) (ds := []) #[false, false, false, false, false, false, false, false, false, false, false, false] (by kernel_rfl) rfl rfl ⟨((blk_cell BK2.out 1).trans rfl), ((blk_cell BK2.out 2).trans rfl), ((blk_cell BK2.out 3).trans rfl)⟩ (fun hHeld => ?_)
 generalize w3.drew = w4 at BK0 BK1 BK2 HB hcz hfz hHeld ⊢
 refine Cz.rP 0 27 ?_
 refine Cz.rP 2 29 ?_
 refine Cz.rP 4 31 ?_
 refine Cz.rT 1 28 hHeld ?_
 refine Cz.rP 6 33 ?_
 refine Cz.rT 3 30 hHeld ?_
 refine Cz.rT 5 32 hHeld ?_
 refine Cz.rO (N := none) 7 (fun K hK => ?_)
 refine skip_ (w1 := ?_) (by rfl) rfl ?_ ?_
 rotate_left
 ·go_simp
  rfl
 have n0 := Aside0.mk (blk_far BK0.out (p := ⟨g1, 1, none⟩) N1.out (.int .i64 a))
 have n1 := Aside0.mk (blk_put BK1.out 1 (.int .i64 a) rfl)
 have n2 := Aside0.mk (blk_far BK2.out (p := ⟨g1, 1, none⟩) (Ne.symm N0.out) (.int .i64 a))
 have nb := Aside0.mk (show Below w.heap.size w (w4.setCell ⟨g1, 1, none⟩ (.int .i64 a)) from below_set HB.out G1.out)
 generalize w4.setCell ⟨g1, 1, none⟩ (.int .i64 a) = w5 at n0 n1 n2 nb ⊢
 clear BK0 BK1 BK2 HB hcz hfz
 have BK0 := n0
 have BK1 : Aside0 (w5.heap[g1]? = some (.cells #[.int .i64 k, .int .i64 a, .int .i64 0, .slice none 0 0, .int .i64 0, .int .i64 0, .int .i64 0] 38 (0, 0))) := ⟨n1.out⟩
 have BK2 := n2
 have HB := nb
 clear n0 n1 n2 nb
 have hcz : w5.cell? ⟨g1, 2, none⟩ = some (.int .i64 0) := (blk_cell BK1.out 2).trans rfl
 have hfz := blk_frozen BK1.out 2
 refine hK.out _ _ ⟨((blk_cell BK2.out 1).trans rfl), ((blk_cell BK2.out 2).trans rfl), ((blk_cell BK2.out 3).trans rfl)⟩ (fun hHeld => ?_)
 clear hK K
 refine Cz.rP 8 34 ?_
 refine Cz.rO (N := none) 9 (fun K hK => ?_)
 refine skip_ (w1 := ?_) (by rfl) rfl ?_ ?_
 rotate_left
 ·go_simp
  rfl
 have n0 := Aside0.mk (blk_far BK0.out (p := ⟨g1, 2, none⟩) N1.out (.int .i64 n))
 have n1 := Aside0.mk (blk_put BK1.out 2 (.int .i64 n) rfl)
 have n2 := Aside0.mk (blk_far BK2.out (p := ⟨g1, 2, none⟩) (Ne.symm N0.out) (.int .i64 n))
 have nb := Aside0.mk (show Below w.heap.size w (w5.setCell ⟨g1, 2, none⟩ (.int .i64 n)) from below_set HB.out G1.out)
 generalize w5.setCell ⟨g1, 2, none⟩ (.int .i64 n) = w0 at n0 n1 n2 nb ⊢
 clear BK0 BK1 BK2 HB hcz hfz
 have BK0 := n0
 have BK1 : Aside0 (w0.heap[g1]? = some (.cells #[.int .i64 k, .int .i64 a, .int .i64 n, .slice none 0 0, .int .i64 0, .int .i64 0, .int .i64 0] 38 (0, 0))) := ⟨n1.out⟩
 have BK2 := n2
 have HB := nb
 clear n0 n1 n2 nb
 have hcz : w0.cell? ⟨g1, 3, none⟩ = some (.slice none 0 0) := (blk_cell BK1.out 3).trans rfl
 have hfz := blk_frozen BK1.out 3
 refine hK.out _ _ ⟨((blk_cell BK2.out 1).trans rfl), ((blk_cell BK2.out 2).trans rfl), ((blk_cell BK2.out 3).trans rfl)⟩ (fun hHeld => ?_)
 clear hK K
 refine Cz.rP 10 35 ?_
 refine Cz.rO (N := none) 11 (fun K hK => ?_)
 refine skip_ (w1 := ?_) (by rfl) rfl ?_ ?_
 rotate_left
 ·go_simp
  rfl
 have n0 := Aside0.mk (blk_far BK0.out (p := ⟨g1, 3, none⟩) N1.out (.slice A3 m c3))
 have n1 := Aside0.mk (blk_put BK1.out 3 (.slice A3 m c3) rfl)
 have n2 := Aside0.mk (blk_far BK2.out (p := ⟨g1, 3, none⟩) (Ne.symm N0.out) (.slice A3 m c3))
 have nb := Aside0.mk (show Below w.heap.size w (w0.setCell ⟨g1, 3, none⟩ (.slice A3 m c3)) from below_set HB.out G1.out)
 generalize w0.setCell ⟨g1, 3, none⟩ (.slice A3 m c3) = w7 at n0 n1 n2 nb ⊢
 clear BK0 BK1 BK2 HB hcz hfz
 have BK0 := n0
 have BK1 : Aside0 (w7.heap[g1]? = some (.cells #[.int .i64 k, .int .i64 a, .int .i64 n, .slice A3 m c3, .int .i64 0, .int .i64 0, .int .i64 0] 38 (0, 0))) := ⟨n1.out⟩
 have BK2 := n2
 have HB := nb
 clear n0 n1 n2 nb
 refine hK.out _ _ ⟨((blk_cell BK2.out 1).trans rfl), ((blk_cell BK2.out 2).trans rfl), ((blk_cell BK2.out 3).trans rfl)⟩ (fun hHeld => ?_)
 clear hK K
 refine done_ (by kernel_rfl) ?_
 clear hHeld
 obtain ⟨hcz0, hcz1, hcz2, hcz3, hcz4, hcz5, hcz6⟩ := Cz.c7 BK1
 obtain ⟨hcy0, hcy1, hcy2, hcy3, hcy4, hcy5, hcy6, hfy0, hfy1, hfy2, hfy3, hfy4, hfy5, hfy6⟩ := Cz.d7 BK0
 go_wp2
 refine bodyPost_ret (results_cell_row rfl _ _ g0 38 #[.int .i64 k, .int .i64 a, .int .i64 n, .slice A3 m c3, .int .i64 0, .int .i64 0, .int .i64 0] (0, 0) _ rfl (by apply Cz.a7; exact BK0.out) Try.underlying38 rfl (by kernel_rfl)) rfl ?_
 exact ⟨rfl, below_set (below_set (below_set (below_set (below_set (below_set (below_set (HB.out) G0.out) G0.out) G0.out) G0.out) G0.out) G0.out) G0.out⟩
set_option maxRecDepth 100000 in
set_option maxHeartbeats 2000000 in
theorem frame_framed.end (k : Int) (A B : Int) (w : World) : Calls Try.prog 47 #[.int .i64 k, .iface 97 (.agg #[.int .i64 A, .int .i64 B])] w fun e w' => e = .returned (.agg #[.int .i64 k, .int .i64 0, .int .i64 0, .slice none 0 0, .int .i64 A, .int .i64 B, .int .i64 0]) ∧ Below w.heap.size w w' := by
 have hu0 := Try.underlying38
 have hu1 := Try.underlying97
 have ta_end_head_ := ta_end_head
 have ta_end_blocks_ := ta_end_blocks
 have ta_end_end_ := ta_end_end
 go_enter Try.func47, Try.ntmps47
 go_wp2_with fail
 obtain ⟨w3, hw3⟩ : ∃ x, x = ((w.alloc (.cells #[.int .i64 0, .int .i64 0, .int .i64 0, .slice none 0 0, .int .i64 0, .int .i64 0, .int .i64 0] 38)).alloc (.cells #[.int .i64 k, .int .i64 0, .int .i64 0, .slice none 0 0, .int .i64 0, .int .i64 0, .int .i64 0] 38)).alloc (.cells #[.int .i64 A, .int .i64 B] 97) := ⟨_, rfl⟩
 have BK0 : Aside0 (w3.heap[w.heap.size]? = some (.cells #[.int .i64 0, .int .i64 0, .int .i64 0, .slice none 0 0, .int .i64 0, .int .i64 0, .int .i64 0] 38 (0, 0))) := ⟨by rw [hw3]; exact blk_alloc (blk_alloc (heap_alloc_new w _) _) _⟩
 have BK1 : Aside0 (w3.heap[w.heap.size + 1]? = some (.cells #[.int .i64 k, .int .i64 0, .int .i64 0, .slice none 0 0, .int .i64 0, .int .i64 0, .int .i64 0] 38 (0, 0))) := ⟨by rw [hw3]; exact blk_alloc (by have := heap_alloc_new (w.alloc (.cells #[.int .i64 0, .int .i64 0, .int .i64 0, .slice none 0 0, .int .i64 0, .int .i64 0, .int .i64 0] 38)) (.cells #[.int .i64 k, .int .i64 0, .int .i64 0, .slice none 0 0, .int .i64 0, .int .i64 0, .int .i64 0] 38); rwa [show (w.alloc (.cells #[.int .i64 0, .int .i64 0, .int .i64 0, .slice none 0 0, .int .i64 0, .int .i64 0, .int .i64 0] 38)).heap.size = w.heap.size + 1 by simp only [World.alloc, Array.size_push]] at this) _⟩
 have BK2 : Aside0 (w3.heap[w.heap.size + 1 + 1]? = some (.cells #[.int .i64 A, .int .i64 B] 97 (0, 0))) := ⟨by rw [hw3]; have := heap_alloc_new ((w.alloc (.cells #[.int .i64 0, .int .i64 0, .int .i64 0, .slice none 0 0, .int .i64 0, .int .i64 0, .int .i64 0] 38)).alloc (.cells #[.int .i64 k, .int .i64 0, .int .i64 0, .slice none 0 0, .int .i64 0, .int .i64 0, .int .i64 0] 38)) (.cells #[.int .i64 A, .int .i64 B] 97); rwa [show ((w.alloc (.cells #[.int .i64 0, .int .i64 0, .int .i64 0, .slice none 0 0, .int .i64 0, .int .i64 0, .int .i64 0] 38)).alloc (.cells #[.int .i64 k, .int .i64 0, .int .i64 0, .slice none 0 0, .int .i64 0, .int .i64 0, .int .i64 0] 38)).heap.size = w.heap.size + 1 + 1 by simp only [World.alloc, Array.size_push]] at this⟩
 have HB : Aside0 (Below w.heap.size w w3) := ⟨by rw [hw3]; exact below_alloc (below_alloc (below_alloc (Below.refl _ _) _) _) _⟩
 rw [← hw3]
 clear hw3
 obtain ⟨g0, hg0⟩ : ∃ g, g = w.heap.size := ⟨_, rfl⟩
 obtain ⟨g1, hg1⟩ : ∃ g, g = w.heap.size + 1 := ⟨_, rfl⟩
 obtain ⟨g2, hg2⟩ : ∃ g, g = w.heap.size + 1 + 1 := ⟨_, rfl⟩
 rw [← hg2] at BK2
 rw [← hg1] at BK1
 rw [← hg0] at BK0
 rw [← hg2, ← hg1, ← hg0]
 have G0 := Aside0.mk (show w.heap.size ≤ g0 by omega)
 have G1 := Aside0.mk (show w.heap.size ≤ g1 by omega)
 have N0 := Aside0.mk (show g1 ≠ g2 by omega)
 have N1 := Aside0.mk (show g0 ≠ g1 by omega)
 clear hg0 hg1 hg2
 have n0 := Aside0.mk (blk_drew BK0.out)
 have n1 := Aside0.mk (blk_drew BK1.out)
 have n2 := Aside0.mk (blk_drew BK2.out)
 have nb := Aside0.mk (below_drew HB.out)
 clear BK0 BK1 BK2 HB
 have BK0 := n0
 have BK1 := n1
 have BK2 := n2
 have HB := nb
 clear n0 n1 n2 nb
 have hcz : w3.drew.cell? ⟨g1, 4, none⟩ = some (.int .i64 0) := (blk_cell BK1.out 4).trans rfl
 have hfz := blk_frozen BK1.out 4
 refine start_ (n := 8) (S := fun w' => w'.cell? ⟨g2, 0, none⟩ = some (.int .i64 A) ∧ w'.cell? ⟨g2, 1, none⟩ = some (.int .i64 B)) (ds := []) #[false, false, false, false, false, false, false, false] (by kernel_rfl) rfl rfl ⟨((blk_cell BK2.out 0).trans rfl), ((blk_cell BK2.out 1).trans rfl)⟩ (fun hHeld => ?_)
 generalize w3.drew = w4 at BK0 BK1 BK2 HB hcz hfz hHeld ⊢
 refine Cz.rP 0 39 ?_
 refine Cz.rP 2 41 ?_
 refine Cz.rT 1 40 hHeld ?_
 refine Cz.rP 4 43 ?_
 refine Cz.rT 3 42 hHeld ?_
 refine Cz.rO (N := none) 5 (fun K hK => ?_)
 refine skip_ (w1 := ?_) (by rfl) rfl ?_ ?_
 rotate_left
 ·go_simp
  rfl
 have n0 := Aside0.mk (blk_far BK0.out (p := ⟨g1, 4, none⟩) N1.out (.int .i64 A))
 have n1 := Aside0.mk (blk_put BK1.out 4 (.int .i64 A) rfl)
 have n2 := Aside0.mk (blk_far BK2.out (p := ⟨g1, 4, none⟩) (Ne.symm N0.out) (.int .i64 A))
 have nb := Aside0.mk (show Below w.heap.size w (w4.setCell ⟨g1, 4, none⟩ (.int .i64 A)) from below_set HB.out G1.out)
 generalize w4.setCell ⟨g1, 4, none⟩ (.int .i64 A) = w5 at n0 n1 n2 nb ⊢
 clear BK0 BK1 BK2 HB hcz hfz
 have BK0 := n0
 have BK1 : Aside0 (w5.heap[g1]? = some (.cells #[.int .i64 k, .int .i64 0, .int .i64 0, .slice none 0 0, .int .i64 A, .int .i64 0, .int .i64 0] 38 (0, 0))) := ⟨n1.out⟩
 have BK2 := n2
 have HB := nb
 clear n0 n1 n2 nb
 have hcz : w5.cell? ⟨g1, 5, none⟩ = some (.int .i64 0) := (blk_cell BK1.out 5).trans rfl
 have hfz := blk_frozen BK1.out 5
 refine hK.out _ _ ⟨((blk_cell BK2.out 0).trans rfl), ((blk_cell BK2.out 1).trans rfl)⟩ (fun hHeld => ?_)
 clear hK K
 refine Cz.rP 6 44 ?_
 refine Cz.rO (N := none) 7 (fun K hK => ?_)
 refine skip_ (w1 := ?_) (by rfl) rfl ?_ ?_
 rotate_left
 ·go_simp
  rfl
 have n0 := Aside0.mk (blk_far BK0.out (p := ⟨g1, 5, none⟩) N1.out (.int .i64 B))
 have n1 := Aside0.mk (blk_put BK1.out 5 (.int .i64 B) rfl)
 have n2 := Aside0.mk (blk_far BK2.out (p := ⟨g1, 5, none⟩) (Ne.symm N0.out) (.int .i64 B))
 have nb := Aside0.mk (show Below w.heap.size w (w5.setCell ⟨g1, 5, none⟩ (.int .i64 B)) from below_set HB.out G1.out)
 generalize w5.setCell ⟨g1, 5, none⟩ (.int .i64 B) = w0 at n0 n1 n2 nb ⊢
 clear BK0 BK1 BK2 HB hcz hfz
 have BK0 := n0
 have BK1 : Aside0 (w0.heap[g1]? = some (.cells #[.int .i64 k, .int .i64 0, .int .i64 0, .slice none 0 0, .int .i64 A, .int .i64 B, .int .i64 0] 38 (0, 0))) := ⟨n1.out⟩
 have BK2 := n2
 have HB := nb
 clear n0 n1 n2 nb
 refine hK.out _ _ ⟨((blk_cell BK2.out 0).trans rfl), ((blk_cell BK2.out 1).trans rfl)⟩ (fun hHeld => ?_)
 clear hK K
 refine done_ (by kernel_rfl) ?_
 clear hHeld
 obtain ⟨hcz0, hcz1, hcz2, hcz3, hcz4, hcz5, hcz6⟩ := Cz.c7 BK1
 obtain ⟨hcy0, hcy1, hcy2, hcy3, hcy4, hcy5, hcy6, hfy0, hfy1, hfy2, hfy3, hfy4, hfy5, hfy6⟩ := Cz.d7 BK0
 go_wp2
 refine bodyPost_ret (results_cell_row rfl _ _ g0 38 #[.int .i64 k, .int .i64 0, .int .i64 0, .slice none 0 0, .int .i64 A, .int .i64 B, .int .i64 0] (0, 0) _ rfl (by apply Cz.a7; exact BK0.out) Try.underlying38 rfl (by kernel_rfl)) rfl ?_
 exact ⟨rfl, below_set (below_set (below_set (below_set (below_set (below_set (below_set (HB.out) G0.out) G0.out) G0.out) G0.out) G0.out) G0.out) G0.out⟩
def bytes_Equal_p.f (l0 : List Int) (l1 : List Int) : Option (Bool) := some ((strOfNums l0).toList == (strOfNums l1).toList)
set_option maxHeartbeats 8000000 in
set_option maxRecDepth 100000 in
theorem bytes_Equal_p.calls (A0 : Option Addr) (c0 : Nat) (l0 : List Int) (A1 : Option Addr) (c1 : Nat) (l1 : List Int) (r : Bool) (w : World) (hr0 : Kd.C (Kd.int .u8) w A0 l0.length l0) (hc0 : l0.length ≤ c0) (hr1 : Kd.C (Kd.int .u8) w A1 l1.length l1) (hc1 : l1.length ≤ c1) (h : bytes_Equal_p.f l0 l1 = some r) :
  Calls Try.prog 71 #[.slice A0 l0.length c0, .slice A1 l1.length c1] w fun e w' => e = .returned (.bool r) ∧ Drawn0 w w' := by
 have HR0 := Aside0.mk hr0
 have HC0 := Aside0.mk hc0
 clear hr0 hc0
 have HR1 := Aside0.mk hr1
 have HC1 := Aside0.mk hc1
 clear hr1 hc1
 have H : (some ((strOfNums l0).toList == (strOfNums l1).toList)) = some r := h
 clear h
 obtain rfl := Option.some.inj H
 have hcv3 := Kd.C_string (P := Try.prog) (A := A0) (c := c0) Try.underlying27 Try.underlying5 Try.underlying9 HR0.out
 (try have hcvd4 := fun (n_ : Nat) => Kd.C_string (P := Try.prog) (A := A0) (c := c0) Try.underlying27 Try.underlying5 Try.underlying9 (Kd.C_drewN HR0.out n_))
 have hcv5 := Kd.C_string (P := Try.prog) (A := A1) (c := c1) Try.underlying27 Try.underlying5 Try.underlying9 HR1.out
 (try have hcvd6 := fun (n_ : Nat) => Kd.C_string (P := Try.prog) (A := A1) (c := c1) Try.underlying27 Try.underlying5 Try.underlying9 (Kd.C_drewN HR1.out n_))
 go_enter Try.func71, Try.ntmps71
 go_wp2
 go_ret
 exact ⟨by first | rfl | (simp; done) | (simp [*]; done), by repeat (first | exact Drawn0.refl _ | apply Drawn0.step)⟩
def bytes_Equal.f (l0 : List Int) (l1 : List Int) : Option (Bool) := if Pl.byteB l0 = true ∧ Pl.byteB l1 = true then some (l0 == l1) else none
theorem bytes_Equal.calls (A0 : Option Addr) (c0 : Nat) (l0 : List Int) (A1 : Option Addr) (c1 : Nat) (l1 : List Int) (r : Bool) (w : World) (hr0 : Kd.C (Kd.int .u8) w A0 l0.length l0) (hc0 : l0.length ≤ c0) (hr1 : Kd.C (Kd.int .u8) w A1 l1.length l1) (hc1 : l1.length ≤ c1) (h : bytes_Equal.f l0 l1 = some r) :
  Calls Try.prog 71 #[.slice A0 l0.length c0, .slice A1 l1.length c1] w fun e w' => e = .returned (.bool r) ∧ Drawn0 w w' := by
 refine bytes_Equal_p.calls A0 c0 l0 A1 c1 l1 r w hr0 hc0 hr1 hc1 ?_
 unfold bytes_Equal.f at h
 split at h
 case isFalse => cases h
 rename_i hh
 unfold bytes_Equal_p.f
 rw [Pl.str_eq hh.1 hh.2]
 exact h
end Go.Proofs.Ytohkmmbmfhficaa.PT
