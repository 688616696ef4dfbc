/- Words and walks that this claim names, of those that the kit's print and programs of this workplace have printed. -/
import Derived.Test.YtohkmmbmfhficaaZTPTx74
import Derived.Test.YtohkmmbmfhficaaZTStmm
import Derived.Test.YtohkmmbmfhficaaZTStr
namespace Go.Proofs.Ytohkmmbmfhficaa.Pure
open Go Go.RowKit Go.Proofs.Ytohkmmbmfhficaa.PT Go.Proofs.YtohkmmbmfhficaaW.PrintWords Go.Proofs.YtohkmmbmfhficaaW.PrintLast Go.Proofs.YtohkmmbmfhficaaW.PrintMore
set_option linter.unusedVariables false
structure FInv (q : List Int) (fr k : Nat) (u : List Int) (e : Nat) (t : Bool) : Prop where
  len : u.length = q.length
  byte : Pl.byteB u = true
  num : Pl.leN (Pl.nats u) = Pl.leN (Pl.nats q) ^^^ 2 ^ fr * e
  lt : e < 2 ^ k
  turned : t = decide (e ≠ 0)
  one : u.getD 1 0 = q.getD 1 0
  two : u.getD 2 0 = q.getD 2 0
theorem FInv.next {q : List Int} {fr k : Nat} {u : List Int} {e : Nat} {t : Bool} (h : FInv q fr k u e t) : FInv q fr (k + 1) u e t := ⟨h.len, h.byte, h.num, Nat.lt_trans h.lt (Nat.pow_lt_pow_right (by decide) (Nat.lt_succ_self k)), h.turned, h.one, h.two⟩
theorem xor_bit {e k : Nat} (h : e < 2 ^ k) : e ^^^ 2 ^ k = 2 ^ k + e := by
  have := Pl.add_eq_xor h 1
  rw [Nat.mul_one] at this
  rw [this, Nat.xor_comm]
theorem getD_set_ne (u : List Int) (j i : Nat) (v : Int) (h : j ≠ i) : (u.set j v).getD i 0 = u.getD i 0 := by
  rw [List.getD_eq_getElem?_getD, List.getD_eq_getElem?_getD, List.getElem?_set_ne h]
theorem shl8 : ∀ r : Fin 8, shl .u8 1 ((r : Nat) : Int) = ((2 ^ (r : Nat) : Nat) : Int) ∧ 2 ^ (r : Nat) < 256 := by decide
theorem bit_of (b i : Nat) (h : i < 32) : shr .u32 (b : Int) (i : Int) = ((b / 2 ^ i : Nat) : Int) := by
  unfold shr
  rw [Int.toNat_natCast, show min i (IntKind.bits .u32) = i from Nat.min_eq_left (by show i ≤ 32; omega)]
  push_cast
  rfl
theorem par_of (z : Nat) : Int.tmod (z : Int) 2 = ((z % 2 : Nat) : Int) := by rw [Int.tmod_eq_emod_of_nonneg (Int.natCast_nonneg _)]; omega
theorem FInv.set {q : List Int} {fr i : Nat} {u : List Int} {e : Nat} {t : Bool} (hI : FInv q fr i u e t) {j r : Nat} (hr8 : r < 8) (hjr : 8 * j + r = fr + i) (j1 : j ≠ 1) (j2 : j ≠ 2) (hjn : j < (Pl.nats u).length) (hbm8 : 2 ^ r < 256) (hy8 : (Pl.nats u)[j]'hjn ^^^ 2 ^ r < 256) : FInv q fr (i + 1) (u.set j (((Pl.nats u)[j]'hjn ^^^ 2 ^ r : Nat) : Int)) (e ^^^ 2 ^ i) true := by
  have hn : e ^^^ 2 ^ i = 2 ^ i + e := xor_bit hI.lt
  have hp : 0 < 2 ^ i := Nat.pow_pos (by decide)
  refine ⟨by rw [List.length_set]; exact hI.len, Pl.byteB_set hI.byte _ _ hy8, ?_, ?_, ?_, ?_, ?_⟩
  ·rw [Pl.nats_set, Pl.leN_set _ j (2 ^ r) (Pl.byteB_bytes hI.byte) hbm8 hjn, hI.num, Nat.xor_assoc]
   congr 1
   rw [← Nat.pow_add, hjr, Nat.pow_add, ← Pl.mul_xor]
  ·rw [hn, Nat.pow_succ, Nat.mul_two]; exact Nat.add_lt_add_left hI.lt _
  ·rw [hn, decide_eq_true (Nat.ne_of_gt (Nat.lt_of_lt_of_le hp (Nat.le_add_right _ _)))]
  ·rw [getD_set_ne _ _ _ _ j1]; exact hI.one
  ·rw [getD_set_ne _ _ _ _ j2]; exact hI.two
theorem byN_12 {u : List Int} (h : Pl.byteB u = true) (hl : 3 ≤ u.length) : Pl.byN u 1 2 = u.getD 1 0 + 256 * u.getD 2 0 := by
  match u, h, hl with
  | a :: b :: c :: r, h, _ =>
    have mb := Pl.byteB_iff.1 h b (by simp)
    have mc := Pl.byteB_iff.1 h c (by simp)
    have e : Pl.byN (a :: b :: c :: r) 1 2 = ((256 * (256 * 0 + c.toNat) + b.toNat : Nat) : Int) := rfl
    have e1 : (a :: b :: c :: r).getD 1 0 = b := rfl
    have e2 : (a :: b :: c :: r).getD 2 0 = c := rfl
    rw [e, e1, e2]
    omega
theorem stm_begin {b : List Int} (hb : Pl.byteB b = true) (hl : b.length < 1000000000) {B P T e : Int} {L : List Pl.Ext} (h : Pl.beginS b = ((B, P, T, L), e)) : stream_Begin.f b = some (B, P, T, L.map ofE, e) := by
  rw [stream_Begin.tells hb hl, h]
theorem stm_awake : waggonerlaw17_awake.f = some true := rfl
theorem stm_few (B P T : Int) (l : List S36) : waggonerlaw17_few.f B P T l = some (decide (l.length ≤ 70) && l.all fun s => decide (s.f4.length ≤ 3000)) := by
  unfold waggonerlaw17_few.f waggonerlaw07_Few.f
  rw [Option.bind_some]
theorem stm_data {l : List S36} (h : ∀ s ∈ l, Pl.byteB s.f4 = true) : ∀ e ∈ l.map toE, Pl.byteB e.2.2.2.2 = true := by
  intro e he
  obtain ⟨s, hs, rfl⟩ := List.mem_map.1 he
  exact h s hs
theorem stm_read {b : List Int} (hb : Pl.byteB b = true) (hl : b.length < 1000000000) {B P T e : Int} {L : List Pl.Ext} (h : Pl.sreadS b = ((B, P, T, L), e)) : stream_Read.f b = some (B, P, T, L.map ofE, e) := by
  unfold stream_Read.f
  rw [stream_Begin.tells hb hl, Option.bind_some]
  unfold Pl.sreadS at h
  dsimp only
  split at h
  ·rename_i h0
   rw [if_pos h0, h]
   dsimp only
   rw [h] at h0
   rw [show e = 0 from h0]
  rename_i h0
  rw [if_neg h0]
  simp only [Pl.stZ, Prod.mk.injEq] at h
  obtain ⟨⟨rfl, rfl, rfl, rfl⟩, rfl⟩ := h
  rfl
def tfin (x : List Int) (t : Bool) : Option Bool := (stream_Read.f x).bind fun bt342 => ((stream_Begin.f x).bind fun bt350 => (if true = true then (if ((bt342.2.2.2.2 == 0) == (!t)) = true then (if t = true then (some (bt350.2.2.2.2 == 170)) else (some true)) else (some false)) else (some false)))
theorem rd_mid (p u s : List Int) (j : Nat) (hj : j < u.length) : rd (p ++ (u ++ s)) ((p.length + j : Nat) : Int) = rd u (j : Int) := by
  unfold rd
  rw [Int.toNat_natCast, Int.toNat_natCast]
  rw [List.getD_eq_getElem?_getD, List.getD_eq_getElem?_getD, List.getElem?_append_right (by omega), Nat.add_sub_cancel_left, List.getElem?_append_left hj]
theorem set_mid (p u s : List Int) (j : Nat) (v : Int) (hj : j < u.length) : (p ++ (u ++ s)).set (p.length + j) v = p ++ (u.set j v ++ s) := by
  rw [List.set_append_right _ _ (by omega), Nat.add_sub_cancel_left, List.set_append_left _ _ hj]
theorem wr_nat (z : Nat) (h : z < 1000000) : wrap64 (z : Int) = (z : Int) := by unfold wrap64; omega
theorem wr_add (a b : Nat) (h : a + b < 1000000) : wrap64 ((a : Int) + (b : Int)) = ((a + b : Nat) : Int) := by unfold wrap64; omega
theorem wr_succ (a : Nat) (h : a < 1000000) : wrap64 ((a : Int) + 1) = ((a + 1 : Nat) : Int) := by unfold wrap64; omega
theorem wr_u (z : Nat) (h : z < 1000000) : IntKind.u64.wrap (z : Int) = (z : Int) := by rw [IntKind.wrap_u64]; omega
theorem td_8 (z : Nat) : Int.tdiv (z : Int) 8 = ((z / 8 : Nat) : Int) := by rw [Int.tdiv_eq_ediv_of_nonneg (Int.natCast_nonneg _)]; omega
theorem tm_8 (z : Nat) : Int.tmod (z : Int) 8 = ((z % 8 : Nat) : Int) := by rw [Int.tmod_eq_emod_of_nonneg (Int.natCast_nonneg _)]; omega
theorem burst_loop {p q s : List Int} {fr b : Nat} (hb : b < 4294967296) (hfr : fr + 32 ≤ 8 * q.length) (hq : q.length < 1000) (hp : p.length < 10000) : ∀ (d k i : Nat) (u : List Int) (e : Nat) (t : Bool), 32 - i = d → i ≤ 32 → d < k → FInv q fr i u e t → ∃ u' e' t', FInv q fr 32 u' e' t' ∧ waggonerlaw17_StreamTurns.l1 k (b : Int) true (p ++ (u ++ s)) (p.length : Int) (fr : Int) t (i : Int) = tfin (p ++ (u' ++ s)) t'
  | 0, k, i, u, e, t, hd, hi, hk, hI => by
    obtain ⟨k, rfl⟩ : ∃ m, k = m + 1 := ⟨k - 1, by omega⟩
    obtain rfl : i = 32 := by omega
    refine ⟨u, e, t, hI, ?_⟩
    rw [waggonerlaw17_StreamTurns.l1, if_neg (by omega)]
    unfold tfin
    with_reducible rfl
  | d + 1, k, i, u, e, t, hd, hi, hk, hI => by
    obtain ⟨k, rfl⟩ : ∃ m, k = m + 1 := ⟨k - 1, by omega⟩
    have hi32 : i < 32 := by omega
    have go := fun u e t hI => burst_loop (s := s) hb hfr hq hp d k (i + 1) u e t (by omega) (by omega) (by omega) hI
    have hi33 : (i : Int) < 32 := by omega
    have hb8 : (fr + i) / 8 < 1000 := by omega
    have hb9 : p.length + (fr + i) / 8 < 1000000 := by omega
    have hb7 : fr + i < 1000000 := by omega
    have w1 := wr_u i (by omega)
    have w2 := wr_succ i (by omega)
    have w3 := wr_add fr i hb7
    have w4 := td_8 (fr + i)
    have w5 := wr_nat ((fr + i) / 8) (Nat.lt_trans hb8 (by decide))
    have w6 := tm_8 (fr + i)
    have w7 := wr_u ((fr + i) % 8) (Nat.lt_trans (Nat.mod_lt _ (by decide)) (by decide))
    have w8 := wr_add p.length ((fr + i) / 8) hb9
    obtain ⟨j, hj⟩ : ∃ j, j = (fr + i) / 8 := ⟨_, rfl⟩
    obtain ⟨r, hr⟩ : ∃ r, r = (fr + i) % 8 := ⟨_, rfl⟩
    rw [waggonerlaw17_StreamTurns.l1, if_pos hi33, w1, if_pos (Int.natCast_nonneg i), bit_of b i hi32, par_of, w2, w3, w4, w5, w6, w7, w8, ← hj, ← hr]
    generalize b / 2 ^ i % 2 = z
    clear w1 w2 w3 w4 w5 w6 w7 w8
    by_cases hbit : z = 1
    rotate_left
    ·rw [if_neg (by omega)]
     exact go u e t hI.next
    rw [if_pos (by omega)]
    by_cases j1 : j = 1
    ·rw [if_pos (by omega)]
     exact go u e t hI.next
    rw [if_neg (by omega)]
    by_cases j2 : j = 2
    ·rw [if_pos (by omega)]
     exact go u e t hI.next
    have hul := hI.len
    have hju : j < u.length := by omega
    have hjn : j < (Pl.nats u).length := by rw [Pl.nats_length]; exact hju
    have hr8 : r < 8 := by omega
    have hxr : rd u (j : Int) = (((Pl.nats u)[j]'hjn : Nat) : Int) := Kx.rd_nats hI.byte j hjn
    have hpl : p.length + j < (p ++ (u ++ s)).length := by rw [List.length_append, List.length_append]; omega
    rw [if_neg (by omega), if_pos (Int.natCast_nonneg _), if_pos (Int.ofNat_lt.2 hpl), if_pos (by omega), rd_mid p u s j hju, hxr]
    have hjr : 8 * j + r = fr + i := by omega
    have hx8 : (Pl.nats u)[j]'hjn < 256 := Pl.byteB_bytes hI.byte _ (List.getElem_mem _)
    obtain ⟨q1, hbm8⟩ := shl8 ⟨r, hr8⟩
    dsimp only at q1 hbm8
    have hy8 : (Pl.nats u)[j]'hjn ^^^ 2 ^ r < 256 := Nat.xor_lt_two_pow (n := 8) hx8 hbm8
    rw [q1, u8_xor_nat _ _ hx8 hbm8, Int.toNat_natCast, set_mid p u s j _ hju]
    exact go _ _ true (hI.set hr8 hjr j1 j2 hjn hbm8 hy8)
theorem fsB_at (G : List Pl.Frm) (i : Nat) (h : i < G.length) : Pl.fsB G = Pl.fsB (G.take i) ++ (Pl.frWT G[i] ++ Pl.fsB (G.drop (i + 1))) := by
  conv => lhs; rw [← List.take_append_drop i G, Pl.fsB_append, List.drop_eq_getElem_cons h, Pl.fsB]
theorem fsB_next (G : List Pl.Frm) (i : Nat) (h : i < G.length) : (Pl.fsB (G.take (i + 1))).length = (Pl.fsB (G.take i)).length + (Pl.frWT G[i]).length := by
  rw [List.take_succ_eq_append_getElem h, Pl.fsB_snoc, List.length_append]
theorem frWT_le {f : Pl.Frm} (h : Pl.frOkT f = true) : 9 ≤ (Pl.frWT f).length ∧ (Pl.frWT f).length ≤ 521 := Pl.frW_le h
theorem read_at {G : List Pl.Frm} (hG : ∀ f ∈ G, Pl.frOkT f = true) (hby : Pl.byteB (Pl.fsB G) = true) (hlen : (Pl.fsB G).length ≤ 4000) (i : Nat) (h : i < G.length) : frame_Read.f ((Pl.fsB G).drop (Pl.fsB (G.take i)).length) = some (G[i].1, G[i].2.1, G[i].2.2.1, G[i].2.2.2.1, G[i].2.2.2.2.1, G[i].2.2.2.2.2.1, G[i].2.2.2.2.2.2, ((Pl.frWT G[i]).length : Int), 0) := by
  have e := fsB_at G i h
  have hd : (Pl.fsB G).drop (Pl.fsB (G.take i)).length = Pl.frWT G[i] ++ Pl.fsB (G.drop (i + 1)) := by rw [e, List.drop_left]
  rw [hd]
  refine frame_Read.tells ?_ ?_ (Pl.freadS_write _ (hG _ (List.getElem_mem h)))
  ·rw [e, Pl.byteB_append, Bool.and_eq_true] at hby; exact hby.2
  ·have := congrArg List.length e
   rw [List.length_append] at this
   omega
theorem walk_loop {G : List Pl.Frm} (hG : ∀ f ∈ G, Pl.frOkT f = true) (hby : Pl.byteB (Pl.fsB G) = true) (hlen : (Pl.fsB G).length ≤ 4000) (x1 x2 x3 : Int) (t : List Int) : ∀ (d k i : Nat) (x14 : Int), G.length - i = d → i < G.length → d + 40 < k → ∃ i' k', i' < G.length ∧ 39 < k' ∧ waggonerlaw17_StreamTurns.l0 k x1 x2 x3 true (Pl.fsB G) t ((Pl.fsB (G.take i)).length : Int) x14 = waggonerlaw17_StreamTurns.j2 k' x2 x3 true (Pl.fsB G) t ((Pl.fsB (G.take i')).length : Int)
  | 0, k, i, x14, hd, hi, hk => by omega
  | d + 1, k, i, x14, hd, hi, hk => by
    obtain ⟨k, rfl⟩ : ∃ m, k = m + 1 := ⟨k - 1, by omega⟩
    rw [waggonerlaw17_StreamTurns.l0]
    by_cases c : x14 < wrap64 x1
    rotate_left
    ·rw [if_neg c]; exact ⟨i, k, hi, by omega, rfl⟩
    have hl := congrArg List.length (fsB_at G i hi)
    rw [List.length_append, List.length_append] at hl
    have hf := frWT_le (hG _ (List.getElem_mem hi))
    have hn := fsB_next G i hi
    rw [if_pos c, if_pos (Int.natCast_nonneg _), if_pos (Int.ofNat_le.2 (by omega)), Int.toNat_natCast, read_at hG hby hlen i hi, Option.bind_some]
    dsimp only
    rw [if_pos rfl]
    have w : wrap64 (((Pl.fsB (G.take i)).length : Int) + ((Pl.frWT G[i]).length : Int)) = (((Pl.fsB (G.take (i + 1))).length : Nat) : Int) := by
      rw [hn]
      have h1 : (Pl.fsB (G.take i)).length + (Pl.frWT G[i]).length ≤ 4000 := by omega
      clear hn hl
      generalize (Pl.fsB (G.take i)).length = a at *
      generalize (Pl.frWT G[i]).length = b at *
      unfold wrap64; omega
    rw [w]
    by_cases c2 : ((Pl.fsB (G.take (i + 1))).length : Int) ≥ ((Pl.fsB G).length : Int)
    ·rw [if_pos c2]; exact ⟨i, k, hi, by omega, rfl⟩
    rw [if_neg c2]
    have hi1 : i + 1 < G.length := by
      rcases Nat.lt_or_ge (i + 1) G.length with h | h
      ·exact h
      rw [List.take_of_length_le h] at c2; omega
    exact walk_loop hG hby hlen x1 x2 x3 t d k (i + 1) (wrap64 (x14 + 1)) (by omega) hi1 (by omega)
theorem turn_one {B P T : Int} {L : List Pl.Ext} (h : Pl.stOk B P T L = true) (hb : ∀ x ∈ L, Pl.byteB x.2.2.2.2 = true) {G : List Pl.Frm} {E : Pl.Frm} (hGE : G = Pl.stF B P T L ++ [E]) (hW : Pl.stW B P T L = Pl.fsB G) (hG : ∀ f ∈ G, Pl.frOkT f = true) (k i : Nat) (hi : i < G.length) (hk : 39 < k) (x2 : Int) (hx : 0 ≤ x2 ∧ x2 < 65536) (b : Nat) (hb4 : b < 4294967296) : waggonerlaw17_StreamTurns.j2 k x2 (b : Int) true (Pl.fsB G) (Pl.fsB G) ((Pl.fsB (G.take i)).length : Int) = some true := by
  obtain ⟨k, rfl⟩ : ∃ m, k = m + 3 := ⟨k - 3, by omega⟩
  have hlen : (Pl.fsB G).length ≤ 4000 := by rw [← hW]; exact (Pl.stW_length h).2
  have hby : Pl.byteB (Pl.fsB G) = true := by rw [← hW]; exact Pl.stW_byte hb
  have hcl := fsB_at G i hi
  have hl := congrArg List.length hcl
  rw [List.length_append, List.length_append] at hl
  have hfo := hG _ (List.getElem_mem hi)
  have hle := frWT_le hfo
  rw [waggonerlaw17_StreamTurns.j2, if_pos (Int.natCast_nonneg _), if_pos (Int.ofNat_le.2 (by omega)), Int.toNat_natCast, read_at hG hby hlen i hi, Option.bind_some]
  dsimp only
  rw [if_pos rfl, decide_eq_false (show ¬ (((Pl.frWT G[i]).length : Int) < 9) by omega), waggonerlaw17_StreamTurns.j3, if_neg (by decide)]
  have hrd := Pl.sreadS_write h hb
  have htk : G.take i = (Pl.stF B P T L).take i := by
    rw [hGE, List.length_append, List.length_singleton] at hi
    rw [hGE, List.take_append_of_le_length (by omega)]
  have hil : i ≤ (Pl.stF B P T L).length := by rw [hGE, List.length_append, List.length_singleton] at hi; omega
  have htn := fun z hz hl => Pl.beginS_turned h hil (z := z) hz hl
  rw [← htk] at htn
  rw [hW] at hrd
  have hrs := Pl.freadS_write (Pl.fsB (G.drop (i + 1))) hfo
  change Pl.freadS (Pl.frWT G[i] ++ Pl.fsB (G.drop (i + 1))) = (G[i], ((Pl.frWT G[i]).length : Int), 0) at hrs
  have hop : Pl.openB (Pl.frWT G[i]) = true := Pl.openB_seal _
  have hbs := hby
  rw [hcl, Pl.byteB_append, Pl.byteB_append, Bool.and_eq_true, Bool.and_eq_true] at hbs
  obtain ⟨hbp, hbq, hbr⟩ := hbs
  have hrdq := Pl.freadS_write [] hfo
  rw [List.append_nil] at hrdq
  change Pl.freadS (Pl.frWT G[i]) = (G[i], ((Pl.frWT G[i]).length : Int), 0) at hrdq
  have hnm : ¬ (Pl.freadS (Pl.frWT G[i]) = (Pl.frZ, 0, 161)) := by
    rw [hrdq]; intro e; exact absurd (congrArg (fun p : Pl.Frm × Int × Int => p.2.2) e) (show ¬ ((0 : Int) = 161) by decide)
  rw [Pl.freadS_more] at hnm
  have hm7 : (Pl.byN (Pl.frWT G[i]) 1 2).toNat + 7 = (Pl.frWT G[i]).length := by
    have h3 : ¬ (Pl.frWT G[i]).length < 3 := fun e => hnm (.inl e)
    have h7 : ¬ (Pl.frWT G[i]).length < (Pl.byN (Pl.frWT G[i]) 1 2).toNat + 7 := fun e => hnm (.inr e)
    have ho2 := Pl.freadS_open hbq h3 h7
    rw [hrdq] at ho2
    split at ho2
    ·have e1 := congrArg (fun p : Pl.Frm × Int × Int => p.2.1) ho2
     dsimp only at e1
     have := (Pl.byN_lt hbq 1 2).1
     omega
    have e1 := congrArg (fun p : Pl.Frm × Int × Int => p.2.2) ho2
    dsimp only at e1
    exact absurd e1 (by decide)
  have hbeg : ∃ B' P' T' L' e', Pl.beginS (Pl.fsB G) = ((B', P', T', L'), e') := ⟨_, _, _, _, _, rfl⟩
  obtain ⟨B1, P1, T1, L1, e1, hbeg⟩ := hbeg
  rw [hcl] at hlen hrd hbeg hby ⊢
  clear hcl hW hGE hG hrs hrdq hnm hfo htk hil
  generalize Pl.fsB (G.take i) = p at *
  generalize Pl.frWT G[i] = q at *
  generalize Pl.fsB (G.drop (i + 1)) = s at *
  clear hl
  have hlp : p.length + (q.length + s.length) ≤ 4000 := by rw [List.length_append, List.length_append] at hlen; exact hlen
  have s1 : wrap64 (8 * (q.length : Int)) = 8 * (q.length : Int) := by unfold wrap64; omega
  have s2 : wrap64 (8 * (q.length : Int) - 31) = 8 * (q.length : Int) - 31 := by unfold wrap64; omega
  have s3 : Int.tmod (wrap64 x2) (8 * (q.length : Int) - 31) = x2 % (8 * (q.length : Int) - 31) := by rw [show wrap64 x2 = x2 by unfold wrap64; omega]; exact Int.tmod_eq_emod_of_nonneg hx.1
  have s4 := Int.emod_nonneg x2 (show 8 * (q.length : Int) - 31 ≠ 0 by omega)
  have s5 := Int.emod_lt_of_pos x2 (show (0 : Int) < 8 * (q.length : Int) - 31 by omega)
  rw [s1, s2, if_neg (by omega), s3]
  obtain ⟨fr, hfr⟩ := Int.eq_ofNat_of_zero_le s4
  rw [hfr] at s5 ⊢
  clear s1 s2 s3 s4 hfr
  obtain ⟨u, e, t, hI, hL⟩ := burst_loop (p := p) (s := s) (q := q) (fr := fr) (b := b) hb4 (by omega) (by omega) (by omega) 32 (k + 1) 0 q 0 false (by omega) (by omega) (by omega) ⟨rfl, hbq, by rw [Nat.mul_zero, Nat.xor_zero], by decide, by decide, rfl, rfl⟩
  rw [show (0 : Int) = ((0 : Nat) : Int) from rfl, hL]
  have hul := hI.len
  have hsum := Pl.sum_flip (Pl.nats q) (Pl.nats u) (Pl.byteB_bytes hbq) (Pl.byteB_bytes hI.byte) (by rw [Pl.nats_length, Pl.nats_length]; exact hul) fr e (by have := hI.lt; omega) (by rw [Pl.nats_length]; omega) hI.num
  have hq1 := (Pl.openB_iff q hbq (by omega)).1 hop
  have hu1 := Pl.openB_iff u hI.byte (by omega)
  have hz : Pl.byN u 1 2 = Pl.byN q 1 2 := by rw [byN_12 hI.byte (by omega), byN_12 hbq (by omega), hI.one, hI.two]
  unfold tfin
  by_cases he : e = 0
  ·have huq : u = q := by
     have h1 := Pl.leB_leN u hI.byte
     have h2 := Pl.leB_leN q hbq
     rw [← h1, ← h2, hI.num, he, Nat.mul_zero, Nat.xor_zero, hul]
   have ht : t = false := by rw [hI.turned, he]; rfl
   rw [huq, ht, stm_read hby (by omega) hrd, Option.bind_some, stm_begin hby (by omega) hbeg, Option.bind_some]
   rfl
  have ht : t = true := by rw [hI.turned, decide_eq_true he]
  have hno : ¬ Pl.openB u = true := fun h => he (hsum.1 ((hu1.1 h).trans hq1.symm))
  have hus : Pl.byteB (u ++ s) = true := by rw [Pl.byteB_append, hI.byte, hbr]; rfl
  have hy : Pl.byN (u ++ s) 1 2 = Pl.byN q 1 2 := by
    rw [← hz, byN_12 hus (by rw [List.length_append]; omega), byN_12 hI.byte (by omega)]
    rw [List.getD_eq_getElem?_getD, List.getD_eq_getElem?_getD, List.getD_eq_getElem?_getD, List.getD_eq_getElem?_getD, List.getElem?_append_left (by omega), List.getElem?_append_left (by omega)]
  have hr : Pl.freadS (u ++ s) = (Pl.frZ, 0, 160) := by
    rw [Pl.freadS_open hus (by rw [List.length_append]; omega) (by rw [hy, hm7, List.length_append]; omega), hy, hm7, List.take_append_of_le_length (by omega), ← hul, List.take_length, if_neg (fun e => hno e.1)]
  have hbt := htn (u ++ s) hr (by rw [List.length_append, List.length_append]; omega)
  have hby2 : Pl.byteB (p ++ (u ++ s)) = true := by rw [Pl.byteB_append, hbp, hus]; rfl
  have hl2 : (p ++ (u ++ s)).length < 1000000000 := by rw [List.length_append, List.length_append]; omega
  have hrt : Pl.sreadS (p ++ (u ++ s)) = (Pl.stZ, 170) := by rw [Pl.sreadS, hbt, if_neg (by decide)]
  rw [ht, stm_read hby2 hl2 hrt, Option.bind_some, stm_begin hby2 hl2 hbt, Option.bind_some]
  rfl
theorem StreamTurns (B P T : Int) (l : List S36) (x y z : Int) (w0 : (Lit.int .i64 B).wf = true) (w1 : (Lit.int .i64 P).wf = true) (w2 : (Lit.int .i64 T).wf = true) (wl : ∀ s ∈ l, (Lit.int .i64 s.f0).wf = true ∧ (Lit.int .i64 s.f1).wf = true ∧ (Lit.int .i64 s.f2).wf = true ∧ (Lit.int .i64 s.f3).wf = true ∧ (∀ x ∈ s.f4, (Lit.int .u8 x).wf = true)) (wx : (Lit.int .u8 x).wf = true) (wy : (Lit.int .u16 y).wf = true) (wz : (Lit.int .u32 z).wf = true) : ∃ kk, waggonerlaw17_StreamTurns.f kk B P T l x y z = some true := by
  have hld : ∀ s ∈ l, Pl.byteB s.f4 = true := fun s hs => Pl.wf_u8 (wl s hs).2.2.2.2
  have hy := Pl.wf_u16 wy
  have hz := Pl.wf_u32 wz
  obtain ⟨K, hK⟩ : ∃ K, K = 200 := ⟨_, rfl⟩
  refine ⟨K + 1, ?_⟩
  unfold waggonerlaw17_StreamTurns.f
  rw [stm_awake, Option.bind_some, stream_Write.tells hld, Option.bind_some]
  by_cases hok : Pl.stOk B P T (l.map toE) = true
  rotate_left
  ·rw [Pl.swriteS, if_neg hok]
   dsimp only
   rw [if_neg (by decide), waggonerlaw17_StreamTurns.j0, if_pos rfl]
  rw [Pl.swriteS, if_pos hok]
  dsimp only
  rw [if_pos rfl, stm_few, Option.bind_some]
  generalize (decide (l.length ≤ 70) && l.all fun s => decide (s.f4.length ≤ 3000)) = few
  cases few
  ·rw [waggonerlaw17_StreamTurns.j0, if_pos (show (!false) = true from rfl)]
  obtain ⟨G, hGE⟩ : ∃ G, G = Pl.stF B P T (l.map toE) ++ [Pl.stE (Pl.stF B P T (l.map toE)).length (Pl.fsB (Pl.stF B P T (l.map toE)))] := ⟨_, rfl⟩
  have hW : Pl.stW B P T (l.map toE) = Pl.fsB G := by rw [hGE, Pl.fsB_snoc]; rfl
  have hG : ∀ f ∈ G, Pl.frOkT f = true := by
    intro f hf
    rw [hGE] at hf
    rcases List.mem_append.1 hf with hf | hf
    ·exact (Pl.stF_ok hok f hf).1
    rw [List.mem_singleton.1 hf]; exact Pl.stE_ok hok (stm_data hld)
  have hGl : 0 < G.length ∧ G.length ≤ 66 := by
    have := Pl.stF_length hok
    rw [hGE, List.length_append, List.length_singleton]; omega
  have h4 : (Pl.fsB G).length ≤ 4000 := by rw [← hW]; exact (Pl.stW_length hok).2
  have hby : Pl.byteB (Pl.fsB G) = true := by rw [← hW]; exact Pl.stW_byte (stm_data hld)
  obtain ⟨c, rfl⟩ := Int.eq_ofNat_of_zero_le hz.1
  rw [waggonerlaw17_StreamTurns.j0, if_neg (show ¬(!true) = true by decide), Option.bind_some, hW, if_pos (by rw [List.length_nil]; omega), List.nil_append]
  obtain ⟨i', k', hi', hk', hL⟩ := walk_loop hG hby h4 x y (c : Int) (Pl.fsB G) G.length K 0 0 (Nat.sub_zero _) hGl.1 (by omega)
  rw [List.take_zero, Pl.fsB] at hL
  rw [show (0 : Int) = (([] : List Int).length : Int) from rfl]
  refine (Eq.trans ?_ (turn_one hok (stm_data hld) hGE hW hG k' i' hi' hk' y hy c (by omega)))
  exact hL
end Go.Proofs.Ytohkmmbmfhficaa.Pure
