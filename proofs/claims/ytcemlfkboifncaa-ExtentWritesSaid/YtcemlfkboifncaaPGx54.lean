/- Functions of the program as Lean functions, and that the Go code comes to just their answers: no condition but that the function says so. (Written by a program of this workplace over the kit's print, with contracts by hand.) -/
import Derived.Test.YtcemlfkboifncaaCz
import Derived.Test.YtcemlfkboifncaaPGx14
import Derived.Test.YtcemlfkboifncaaPGx47
import Derived.Test.YtcemlfkboifncaaPGx51
import Derived.Test.YtcemlfkboifncaaPGx52
import Derived.Test.YtcemlfkboifncaaPGx30
import Derived.Test.YtcemlfkboifncaaPGx31
import Derived.Test.YtcemlfkboifncaaPGx33
import Derived.Test.YtcemlfkboifncaaPGx43
namespace Go.Proofs.Ytcemlfkboifncaa.PG
open Go.Proofs.Ytcemlfkboifncaa Go.RowKit Go.Proofs.YtcemlfkboifncaaW.PrintWords Go.Proofs.YtcemlfkboifncaaW.PrintLast Go.Proofs.YtcemlfkboifncaaW.PrintMore
attribute [local go_sem] max2_int min2_int max_two min_two max_three min_three max_four min_four   -- for this text's walks alone
set_option linter.unusedVariables false
set_option linter.unusedSimpArgs false

/-! ### waggonerref07_Read: function 48 -/
def waggonerref07_Read.f (l0 : List Int) : Option (List S46 × Int) := if Pl.byteB l0 = true ∧ l0.length < 1000000000 then some ((Pl.ereadS l0).1.map ofE, (Pl.ereadS l0).2) else none
theorem waggonerref07_Read.w64 {x : Int} (h0 : 0 ≤ x) (h1 : x < 9223372036854775808) : wrap64 x = x := by unfold wrap64; omega
theorem waggonerref07_Read.stop {b : List Int} {acc : List S46} {b0 t i : Int} (hb : Pl.byteB b = true) (h0 : 0 < b.length) (hr : wrap64 (rd b 0) = b0) (hi : ¬ i < b0) (ha : ∀ s ∈ acc, Pl.byteB s.f4 = true) (k : Nat) :
  waggonerref07_Read_p.l0 (k + 1) b acc t i = some (if Pl.eAll (acc.map toE) = true ∧ Pl.extsW (acc.map toE) = b then (acc, 0) else ([], 70)) := by
 rw [waggonerref07_Read_p.l0, if_pos (by omega), hr, if_neg hi, waggonerref07_Write.f, Option.bind_some, Pl.ewriteS]
 by_cases he : Pl.eAll (acc.map toE) = true
 ·rw [if_pos he]
  dsimp only
  have hw : Pl.byteB (Pl.extsW (acc.map toE)) = true := by
   have h64 := (Pl.eAll_iff.1 he).1
   refine Pl.byteB_iff.2 fun x hx => ?_
   rcases List.mem_cons.1 hx with rfl | hx
   ·omega
   ·refine Pl.byteB_iff.1 (Pl.extsB_byte fun e hm => ?_) x hx
    obtain ⟨s, hs, rfl⟩ := List.mem_map.1 hm
    exact ha s hs
  have hs : (strOfNums (Pl.extsW (acc.map toE))).toList = (strOfNums b).toList ↔ Pl.extsW (acc.map toE) = b := by
   have := Pl.str_eq hw hb
   rw [Bool.eq_iff_iff, beq_iff_eq, beq_iff_eq] at this
   exact this
  by_cases hq : Pl.extsW (acc.map toE) = b
  ·rw [if_pos rfl, if_pos (hs.2 hq), if_pos ⟨he, hq⟩]
  ·rw [if_pos rfl, if_neg (fun h => hq (hs.1 h)), if_neg (fun h => hq h.2)]
 ·rw [if_neg he]
  dsimp only
  rw [if_neg (by decide), if_neg (fun h => he h.1)]
theorem waggonerref07_Read.few {b : List Int} {acc : List S46} {b0 i : Int} {t : Nat} (h0 : 0 < b.length) (hl : b.length < 1000000000) (hr : wrap64 (rd b 0) = b0) (hi : i < b0) (ht : t ≤ b.length) (h7 : b.length < t + 7) (k : Nat) :
  waggonerref07_Read_p.l0 (k + 1) b acc (t : Int) i = some ([], 70) := by
 rw [waggonerref07_Read_p.l0, if_pos (by omega), hr, if_pos hi, if_pos (by unfold wrap64; omega)]
theorem waggonerref07_Read.head {b : List Int} {t : Nat} (hb : Pl.byteB b = true) (h7 : t + 7 ≤ b.length) (hl : b.length < 1000000000) {ns : List Int} (hu : Pl.unpackS Pl.extForm ((b.drop t).take 7) = (ns, 0)) :
  waggonerref01_Unpack.f (⟨#[98, 98, 98, 119]⟩ : ByteArray) ((b.take ((wrap64 ((t : Int) + 7)) : Int).toNat).drop ((t : Int) : Int).toNat) = some (ns, 0) := by
 rw [waggonerref07_Read.w64 (by omega) (by omega), show ((t : Int) + 7).toNat = t + 7 by omega, Int.toNat_natCast, List.drop_take, show t + 7 - t = 7 by omega]
 unfold waggonerref01_Unpack.f
 rw [if_pos ⟨Pl.byteB_take (Pl.byteB_drop hb t) 7, by rw [List.length_take]; omega, by decide⟩, show Pl.fb (⟨#[98, 98, 98, 119]⟩ : ByteArray) = Pl.extForm from by kernel_rfl, hu]
set_option maxHeartbeats 1000000 in
theorem waggonerref07_Read.open_ {b : List Int} {acc : List S46} {b0 i : Int} {t : Nat} (hb : Pl.byteB b = true) (h0 : 0 < b.length) (hl : b.length < 1000000000) (hr : wrap64 (rd b 0) = b0) (hi : i < b0) (hi0 : 0 ≤ i) (hi1 : i < 1000) (h7 : t + 7 ≤ b.length) (hac : acc.length < 1000) {n0 n1 n2 n3 : Int} (hu : Pl.unpackS Pl.extForm ((b.drop t).take 7) = ([n0, n1, n2, n3], 0))
  (w0 : 0 ≤ n0 ∧ n0 < 256) (w1 : 0 ≤ n1 ∧ n1 < 256) (w2 : 0 ≤ n2 ∧ n2 < 256) (w3 : 0 ≤ n3 ∧ n3 < 4294967296) (k : Nat) :
  waggonerref07_Read_p.l0 (k + 1) b acc (t : Int) i = if n2 = 2 then (if b.length < t + 7 + (32 * n1).toNat then some ([], 70) else waggonerref07_Read_p.l0 k b (acc ++ [⟨n0, n1, n2, n3, (b.drop (t + 7)).take (32 * n1).toNat⟩]) ((t + 7 + (32 * n1).toNat : Nat) : Int) (i + 1)) else waggonerref07_Read_p.l0 k b (acc ++ [⟨n0, n1, n2, n3, []⟩]) ((t + 7 : Nat) : Int) (i + 1) := by
 have HR := Aside0.mk hr
 have HU := Aside0.mk hu
 clear hr hu
 have f7 : wrap64 ((t : Int) + 7) = ((t + 7 : Nat) : Int) := by unfold wrap64; omega
 have q0 : (0 : Int) < (b.length : Int) := by omega
 have q1 : ¬ wrap64 ((b.length : Int) - (t : Int)) < 7 := by unfold wrap64; omega
 have q2 : (0 : Int) ≤ (t : Int) := by omega
 have q3 : (t : Int) ≤ ((t + 7 : Nat) : Int) := by omega
 have q4 : ((t + 7 : Nat) : Int) ≤ (b.length : Int) := by omega
 have v0 : wrap64 n0 = n0 := by unfold wrap64; omega
 have v1 : wrap64 n1 = n1 := by unfold wrap64; omega
 have v2 : wrap64 n2 = n2 := by unfold wrap64; omega
 have v3 : wrap64 n3 = n3 := by unfold wrap64; omega
 have v4 : wrap64 (i + 1) = i + 1 := by unfold wrap64; omega
 have v5 : wrap64 (32 * n1) = 32 * n1 := by unfold wrap64; omega
 have v6 : wrap64 ((b.length : Int) - ((t + 7 : Nat) : Int)) = (b.length : Int) - ((t + 7 : Nat) : Int) := by unfold wrap64; omega
 have v7 : wrap64 (((t + 7 : Nat) : Int) + 32 * n1) = ((t + 7 + (32 * n1).toNat : Nat) : Int) := by unfold wrap64; omega
 have q5 : acc.length < 2513169434916 := by omega
 have q6 : ((t + 7 : Nat) : Int) ≤ ((t + 7 + (32 * n1).toNat : Nat) : Int) := by omega
 have q7 : (0 : Int) ≤ ((t + 7 : Nat) : Int) := by omega
 have q8 : (([] : List Int).length + ((b.drop (t + 7)).take (32 * n1).toNat).length) < 140737488355328 := by rw [List.length_nil, List.length_take, List.length_drop]; omega
 have q9 : t + 7 + (32 * n1).toNat - (t + 7) = (32 * n1).toNat := by omega
 have q10 : ¬ b.length < t + 7 + (32 * n1).toNat → ((t + 7 + (32 * n1).toNat : Nat) : Int) ≤ (b.length : Int) := fun h => by omega
 have q11 : b.length < t + 7 + (32 * n1).toNat → (b.length : Int) - ((t + 7 : Nat) : Int) < 32 * n1 := fun h => by omega
 have q12 : ¬ b.length < t + 7 + (32 * n1).toNat → ¬ (b.length : Int) - ((t + 7 : Nat) : Int) < 32 * n1 := fun h => by omega
 have e0 : rd [n0, n1, n2, n3] 0 = n0 := rfl
 have e1 : rd [n0, n1, n2, n3] 1 = n1 := rfl
 have e2 : rd [n0, n1, n2, n3] 2 = n2 := rfl
 have e3 : rd [n0, n1, n2, n3] 3 = n3 := rfl
 have hU := waggonerref07_Read.head hb h7 hl HU.out
 rw [f7] at hU
 rw [waggonerref07_Read_p.l0, if_pos q0, HR.out, if_pos hi, if_neg q1, if_pos q2, f7, if_pos q3, if_pos q4, hU, Option.bind_some]
 dsimp only
 rw [e0, e1, e2, e3, if_pos (by simp), if_pos (by simp), if_pos (by simp), if_pos (by simp), v0, v1, v2, v3, v4, v5, v6, v7]
 by_cases hk : n2 = 2
 ·rw [if_pos hk, if_pos hk]
  by_cases hs : b.length < t + 7 + (32 * n1).toNat
  ·rw [if_pos (q11 hs), if_pos hs]
  ·rw [if_neg (q12 hs), if_neg hs, Option.bind_some, if_pos q7, if_pos q6, if_pos (q10 hs), Int.toNat_natCast, Int.toNat_natCast, List.drop_take, q9, List.nil_append, if_pos q8, if_pos q5]
 ·rw [if_neg hk, if_neg hk, if_pos q5]
theorem waggonerref07_Read.byte_snoc {acc : List S46} {s : S46} (ha : ∀ s ∈ acc, Pl.byteB s.f4 = true) (hs : Pl.byteB s.f4 = true) : ∀ x ∈ acc ++ [s], Pl.byteB x.f4 = true := by
 intro x hx
 rcases List.mem_append.1 hx with hx | hx
 ·exact ha x hx
 ·rw [List.mem_singleton.1 hx]; exact hs
theorem waggonerref07_Read.sound {b : List Int} {b0 : Int} (hb : Pl.byteB b = true) (h0 : 0 < b.length) (hl : b.length < 1000000000) (hr : wrap64 (rd b 0) = b0) (hb0 : b0 < 256) : ∀ (d k : Nat) (i : Int) (t : Nat) (acc : List S46), (b0 - i).toNat = d → 0 ≤ i → i ≤ 300 → d < k → t ≤ b.length → (acc.length : Int) = i → (∀ s ∈ acc, Pl.byteB s.f4 = true) →
  ∃ r, waggonerref07_Read_p.l0 k b acc (t : Int) i = some r ∧ (r = ([], 70) ∨ ∃ m, Pl.eAll m = true ∧ Pl.extsW m = b ∧ r.2 = 0)
 | 0, k, i, t, acc, hd, hi, hi3, hk, ht, hac, ha => by
  obtain ⟨k, rfl⟩ : ∃ m, k = m + 1 := ⟨k - 1, by omega⟩
  rw [waggonerref07_Read.stop hb h0 hr (by omega) ha]
  refine ⟨_, rfl, ?_⟩
  by_cases hc : Pl.eAll (acc.map toE) = true ∧ Pl.extsW (acc.map toE) = b
  ·rw [if_pos hc]; exact .inr ⟨_, hc.1, hc.2, rfl⟩
  ·rw [if_neg hc]; exact .inl rfl
 | d + 1, k, i, t, acc, hd, hi, hi3, hk, ht, hac, ha => by
  obtain ⟨k, rfl⟩ : ∃ m, k = m + 1 := ⟨k - 1, by omega⟩
  by_cases h7 : b.length < t + 7
  ·rw [waggonerref07_Read.few h0 hl hr (by omega) ht h7]
   exact ⟨_, rfl, .inl rfl⟩
  obtain ⟨n0, n1, n2, n3, hu, hu64, hp⟩ := Pl.unpack_ext (Pl.byteB_drop hb t) (by rw [List.length_drop]; omega)
  obtain ⟨p0, p1, p2, p3⟩ := Pl.ext_bounds hp
  have m0 := (Pl.u64B_iff.1 hu64 n0 (by simp)).1
  have m1 := (Pl.u64B_iff.1 hu64 n1 (by simp)).1
  have m2 := (Pl.u64B_iff.1 hu64 n2 (by simp)).1
  have m3 := (Pl.u64B_iff.1 hu64 n3 (by simp)).1
  rw [waggonerref07_Read.open_ hb h0 hl hr (by omega) hi (by omega) (by omega) (by omega) hu ⟨m0, p0⟩ ⟨m1, p1⟩ ⟨m2, p2⟩ ⟨m3, p3⟩]
  by_cases hk2 : n2 = 2
  ·rw [if_pos hk2]
   by_cases hs : b.length < t + 7 + (32 * n1).toNat
   ·rw [if_pos hs]; exact ⟨_, rfl, .inl rfl⟩
   ·rw [if_neg hs]
    exact waggonerref07_Read.sound hb h0 hl hr hb0 d k (i + 1) _ _ (by omega) (by omega) (by omega) (by omega) (by omega) (by rw [List.length_append, List.length_singleton]; omega) (waggonerref07_Read.byte_snoc ha (Pl.byteB_take (Pl.byteB_drop hb _) _))
  ·rw [if_neg hk2]
   exact waggonerref07_Read.sound hb h0 hl hr hb0 d k (i + 1) _ _ (by omega) (by omega) (by omega) (by omega) (by omega) (by rw [List.length_append, List.length_singleton]; omega) (waggonerref07_Read.byte_snoc ha rfl)
theorem waggonerref07_Read.whole {b : List Int} {l : List Pl.Ext} (hb : Pl.byteB b = true) (hl : b.length < 1000000000) (he : Pl.eAll l = true) (hw : b = Pl.extsW l) : ∀ (q p : List Pl.Ext) (k : Nat), l = p ++ q → q.length < k → waggonerref07_Read_p.l0 k b (p.map ofE) ((1 + (Pl.extsB p).length : Nat) : Int) (p.length : Int) = some (l.map ofE, 0)
 | [], p, k, hpq, hk => by
  obtain ⟨k, rfl⟩ : ∃ m, k = m + 1 := ⟨k - 1, by omega⟩
  rw [List.append_nil] at hpq
  subst hpq
  have h64 := (Pl.eAll_iff.1 he).1
  have hbd : ∀ s ∈ l.map ofE, Pl.byteB s.f4 = true := by
   intro s hs
   obtain ⟨e, hm, rfl⟩ := List.mem_map.1 hs
   rw [hw, Pl.extsW] at hb
   have hb' : Pl.byteB (Pl.extsB l) = true := Pl.byteB_iff.2 fun x hx => Pl.byteB_iff.1 hb x (List.mem_cons_of_mem _ hx)
   exact Pl.extsB_data hb' e hm
  rw [waggonerref07_Read.stop (b0 := (l.length : Int)) hb (by rw [hw]; simp [Pl.extsW]) (by rw [hw]; show wrap64 ((l.length : Int)) = _; exact waggonerref07_Read.w64 (by omega) (by omega)) (by omega) hbd, map_toE_ofE, if_pos ⟨he, hw.symm⟩]
 | e :: q, p, k, hpq, hk => by
  obtain ⟨k, rfl⟩ : ∃ m, k = m + 1 := ⟨k - 1, by omega⟩
  obtain ⟨h64, hall⟩ := Pl.eAll_iff.1 he
  obtain ⟨a, n, kd, g, d⟩ := e
  have hok : Pl.extOk a n kd g d = true := hall (a, n, kd, g, d) (by rw [hpq]; simp)
  obtain ⟨p0, p1, p2, p3, q0, q1, q2, q3⟩ := Pl.ext_lt hok
  obtain ⟨o1, o2, o3, o4, o5, o6, o7, o8, o9⟩ := Pl.extOk_iff.1 hok
  have hlen : l.length = p.length + (q.length + 1) := by rw [hpq, List.length_append, List.length_cons]
  have hbb : b = (l.length : Int) :: (Pl.extsB p ++ (Pl.extW (a, n, kd, g, d) ++ Pl.extsB q)) := by rw [hw, Pl.extsW, hpq, Pl.extsB_append, Pl.extsB]
  have hdr : b.drop (1 + (Pl.extsB p).length) = Pl.extHead a n kd g ++ (d ++ Pl.extsB q) := by
   rw [hbb, Nat.add_comm, List.drop_succ_cons, List.drop_left, Pl.extW, List.append_assoc]
  have hblen := congrArg List.length hbb
  rw [List.length_cons, List.length_append, List.length_append, Pl.extW_length] at hblen
  dsimp only at hblen
  have hu : Pl.unpackS Pl.extForm ((b.drop (1 + (Pl.extsB p).length)).take 7) = ([a, n, kd, g], 0) := by
   rw [hdr, List.take_left' (Pl.extHead_length _ _ _ _)]
   exact Pl.unpackS_ext ⟨q0, p0⟩ ⟨q1, p1⟩ ⟨q2, p2⟩ ⟨q3, p3⟩
  rw [waggonerref07_Read.open_ (b0 := (l.length : Int)) hb (by rw [hbb]; simp) hl (by rw [hbb]; show wrap64 ((l.length : Int)) = _; exact waggonerref07_Read.w64 (by omega) (by omega)) (by omega) (by omega) (by omega) (by omega) (by rw [List.length_map]; omega) hu ⟨q0, p0⟩ ⟨q1, p1⟩ ⟨q2, p2⟩ ⟨q3, p3⟩]
  have ih := waggonerref07_Read.whole hb hl he hw q (p ++ [(a, n, kd, g, d)]) k (by rw [hpq, List.append_assoc]; rfl) (by rw [List.length_cons] at hk; omega)
  rw [List.map_append, Pl.extsB_snoc, List.length_append, List.length_append, Pl.extW_length, List.length_singleton] at ih
  dsimp only at ih
  by_cases hk2 : kd = 2
  ·rw [if_pos hk2] at o9
   rw [if_pos hk2, if_neg (by omega), show b.drop (1 + (Pl.extsB p).length + 7) = d ++ Pl.extsB q by rw [← List.drop_drop, hdr, List.drop_left' (Pl.extHead_length _ _ _ _)], List.take_left' (by omega)]
   rw [show 1 + (Pl.extsB p).length + 7 + (32 * n).toNat = 1 + ((Pl.extsB p).length + (d.length + 7)) by omega, show (p.length : Int) + 1 = ((p.length + 1 : Nat) : Int) by omega]
   exact ih
  ·rw [if_neg hk2] at o9
   obtain rfl : d = [] := List.eq_nil_of_length_eq_zero (by omega)
   rw [if_neg hk2, show 1 + (Pl.extsB p).length + 7 = 1 + ((Pl.extsB p).length + (([] : List Int).length + 7)) by rw [List.length_nil]; omega, show (p.length : Int) + 1 = ((p.length + 1 : Nat) : Int) by omega]
   exact ih
theorem waggonerref07_Read.closes {l0 : List Int} {r : List S46 × Int} (h : waggonerref07_Read.f l0 = some r) : waggonerref07_Read_p.f 300 l0 = some r := by
 unfold waggonerref07_Read.f at h
 split at h
 case isFalse => cases h
 rename_i hh
 obtain ⟨hb, hl⟩ := hh
 rw [← h]
 unfold waggonerref07_Read_p.f
 by_cases hz : l0.length = 0
 ·obtain rfl : l0 = [] := List.eq_nil_of_length_eq_zero hz
  exact (if_pos rfl).trans rfl
 rw [if_neg (by omega)]
 rcases Pl.ereadS_cases hb with ⟨l, he, hw, hr⟩ | ⟨hno, hr⟩
 ·rw [hr]
  have h64 := (Pl.eAll_iff.1 he).1
  exact waggonerref07_Read.whole hb hl he hw l [] 300 rfl (by omega)
 ·rw [hr]
  have hc : 0 ≤ rd l0 0 ∧ rd l0 0 < 256 := by
   cases l0 with
   | nil => simp at hz
   | cons c t => exact Pl.byteB_iff.1 hb c List.mem_cons_self
  obtain ⟨r', hr', hcase⟩ := waggonerref07_Read.sound (b0 := rd l0 0) hb (by omega) hl (waggonerref07_Read.w64 hc.1 (by omega)) hc.2 (rd l0 0).toNat 300 0 1 [] (by omega) (by omega) (by omega) (by omega) (by omega) rfl (fun _ h => absurd h List.not_mem_nil)
  rw [show ((1 : Nat) : Int) = 1 from rfl] at hr'
  rw [hr']
  rcases hcase with rfl | ⟨m, h1, h2, -⟩
  ·rfl
  ·exact absurd h2.symm (hno m h1)
theorem waggonerref07_Read.calls (A0 : Option Addr) (c0 : Nat) (l0 : List Int) (r1 : List (S46)) (r2 : Int) (w : World) (hr0 : Kd.C (Kd.int .u8) w A0 l0.length l0) (hc0 : l0.length ≤ c0) (h : waggonerref07_Read.f l0 = some (r1, r2)) :
  Calls Try.prog 48 #[.slice A0 l0.length c0] w fun e w' => ∃ v0_ : Value, e = .returned (.tuple #[v0_, .int .i64 r2]) ∧ Kd.S k46 46 w' w.heap.size (fun _ => True) v0_ r1 ∧ Below w.heap.size w w' :=
 waggonerref07_Read_p.calls 300 A0 c0 l0 r1 r2 w hr0 hc0 (waggonerref07_Read.closes h)
/-! ### waggonerlaw07_ExtentWrites: function 11 -/
def waggonerlaw07_ExtentWrites.j0 : Nat → List (S46) → List Int → Bool → Bool → Option (Bool)
 | 0, _, _, _, _ => none
 | k + 1, x0, x1, x5, x23 => if x23 = true then (some x5) else ((extent_Write.f x0).bind fun bt323 => ((waggonerref07_Write.f x0).bind fun bt327 => ((extent_Read.f x1).bind fun bt331 => ((waggonerref07_Read.f x1).bind fun bt335 => ((waggonerref07_All.f bt331.1 bt335.1).bind fun t339 => (if x5 = true then (if (strOfNums bt323.1).toList = (strOfNums bt327.1).toList then (if bt323.2 = bt327.2 then (if t339 = true then (some (bt331.2 == bt335.2)) else (some false)) else (some false)) else (some false)) else (some false)))))))
def waggonerlaw07_ExtentWrites.f (k : Nat) (l0 : List (S46)) (l1 : List Int) : Option (Bool) := (waggonerlaw07_awake.f).bind fun t321 => ((waggonerlaw07_Few.f l0).bind fun t322 => (if t322 = true then (waggonerlaw07_ExtentWrites.j0 k l0 l1 t321 (decide ((l1.length : Int) > 5000))) else (waggonerlaw07_ExtentWrites.j0 k l0 l1 t321 true)))
theorem waggonerlaw07_ExtentWrites.mono_l : ∀ k, (∀ y0 y1 y2 y3, LeO (waggonerlaw07_ExtentWrites.j0 k y0 y1 y2 y3) (waggonerlaw07_ExtentWrites.j0 (k + 1) y0 y1 y2 y3))
 | 0 => fun _ _ _ _ r h => by simp [waggonerlaw07_ExtentWrites.j0] at h
 | k + 1 => by
  have ih0 := waggonerlaw07_ExtentWrites.mono_l k
  ·intro y0 y1 y2 y3
   unfold waggonerlaw07_ExtentWrites.j0
   repeat' first
   | (with_reducible exact ih0 _ _ _ _)
   | (with_reducible exact LeO.refl _)
   | (with_reducible exact LeO.none _)
   | (with_reducible refine LeO.ite ?_ ?_)
   | (with_reducible refine LeO.bind ?_ (fun _ => ?_))
   | exact ih0 _ _ _ _
   | exact LeO.none _
   | refine LeO.ite ?_ ?_
   | refine LeO.bind ?_ (fun _ => ?_)
theorem waggonerlaw07_ExtentWrites.mono : ∀ a0 a1 k, LeO (waggonerlaw07_ExtentWrites.f k a0 a1) (waggonerlaw07_ExtentWrites.f (k + 1) a0 a1) := by
 intro a0 a1 k
 have ih0 := waggonerlaw07_ExtentWrites.mono_l k
 unfold waggonerlaw07_ExtentWrites.f
 repeat' first
   | (with_reducible exact ih0 _ _ _ _)
   | (with_reducible exact LeO.refl _)
   | (with_reducible exact LeO.none _)
   | (with_reducible refine LeO.ite ?_ ?_)
   | (with_reducible refine LeO.bind ?_ (fun _ => ?_))
   | exact ih0 _ _ _ _
   | exact LeO.none _
   | refine LeO.ite ?_ ?_
   | refine LeO.bind ?_ (fun _ => ?_)
set_option maxHeartbeats 8000000 in
set_option maxRecDepth 100000 in
theorem waggonerlaw07_ExtentWrites.calls (k : Nat) (A0 : Option Addr) (c0 : Nat) (l0 : List (S46)) (A1 : Option Addr) (c1 : Nat) (l1 : List Int) (r : Bool) (hT : r = true) (w : World) (hr0 : Kd.C k46 w A0 l0.length l0) (hc0 : l0.length ≤ c0) (hr1 : Kd.C (Kd.int .u8) w A1 l1.length l1) (hc1 : l1.length ≤ c1) (h : waggonerlaw07_ExtentWrites.f k l0 l1 = some r) :
  Calls Try.prog 11 #[.slice A0 l0.length c0, .slice A1 l1.length c1] w fun e w' => e = .returned (.bool r) ∧ Below w.heap.size w w' := by
 subst hT
 have HR0 := Aside0.mk hr0
 have HC0 := Aside0.mk hc0
 clear hr0 hc0
 have HR1 := Aside0.mk hr1
 have HC1 := Aside0.mk hc1
 clear hr1 hc1
 have HB := Aside0.mk (Below.refl w.heap.size w)
 have H : ((waggonerlaw07_awake.f).bind fun t321 => ((waggonerlaw07_Few.f l0).bind fun t322 => (if t322 = true then (waggonerlaw07_ExtentWrites.j0 k l0 l1 t321 (decide ((l1.length : Int) > 5000))) else (waggonerlaw07_ExtentWrites.j0 k l0 l1 t321 true)))) = some true := h
 clear h
 replace H := Option.bind_eq_some_iff.mp H
 obtain ⟨t321, A30, H⟩ := H
 (try dsimp only at H)
 have A3 := Aside0.mk A30
 clear A30
 have HC4 := Aside0.mk H
 clear H
 go_enter Try.func11, Try.ntmps11
 go_upto_region 2 with (first | ((with_reducible refine gate_callee (f := 32) rfl ?_); refine Cz.gL (N := (some 15)) Try.func32 #[] ?_; (with_reducible refine (waggonerlaw07_awake.calls  t321 _ A3.out).mono ?_); rintro e w5 ⟨rfl, hb⟩; refine ⟨_, rfl, ?_⟩; have n0_ := Cz.bs (w := w) hb; clear HB; have HB := n0_; clear n0_; (try clear hb); (try clear hb2); (try clear hk); (try clear hi)))
 (try simp only [Act.put, Kx.sb, Kx.sz, Kx.ss])
 go_cut [23] (fun v23 wc => ∃ (kq : Nat) (x23_3 : Bool), v23 = .bool x23_3 ∧ Aside0 (waggonerlaw07_ExtentWrites.j0 kq l0 l1 t321 x23_3 = some true) ∧ Aside0 (kq ≤ k) ∧ Aside0 (Below w.heap.size w wc))
 case first =>
  have H := HC4.out
  clear HC4
  replace H := Option.bind_eq_some_iff.mp H
  obtain ⟨t322, A60, H⟩ := H
  (try dsimp only at H)
  have A6 := Aside0.mk A60
  clear A60
  by_cases c7 : t322 = true
  ·subst c7
   rw [if_pos rfl] at H
   have H' := Aside0.mk H
   clear H
   go_wp2_with (first | ((with_reducible refine gate_callee (f := 44) rfl ?_); refine Cz.gL (N := (some 17)) Try.func44 #[.slice A0 l0.length c0] ?_; (with_reducible refine (waggonerlaw07_Few.calls _ _ l0 true _ ?side1 ?side2 A6.out).mono ?_); (case side1 => exact Cz.cb HR0); (case side2 => exact HC0.out); rintro e w' ⟨rfl, ⟨nd, rfl⟩⟩; refine ⟨_, rfl, ?_⟩))
   go_meet
   case rel => exact ⟨_, (decide ((l1.length : Int) > 5000)), (by first | rfl | (simp; done) | (simp [*]; done)), H', ⟨by first | omega | exact Nat.le_refl _⟩, ⟨by repeat (first | (with_reducible first | exact HB.out | apply below_alloc | apply pw_below_drewN | apply below_drew1) | exact HB.out)⟩⟩
  ·replace c7 := Bool.eq_false_iff.mpr c7
   subst c7
   rw [if_neg (show ¬ (false = true) by decide)] at H
   have H' := Aside0.mk H
   clear H
   go_wp2_with (first | ((with_reducible refine gate_callee (f := 44) rfl ?_); refine Cz.gL (N := (some 17)) Try.func44 #[.slice A0 l0.length c0] ?_; (with_reducible refine (waggonerlaw07_Few.calls _ _ l0 false _ ?side1 ?side2 A6.out).mono ?_); (case side1 => exact Cz.cb HR0); (case side2 => exact HC0.out); rintro e w' ⟨rfl, ⟨nd, rfl⟩⟩; refine ⟨_, rfl, ?_⟩))
   go_meet
   case rel => exact ⟨_, (true), (by first | rfl | (simp; done) | (simp [*]; done)), H', ⟨by first | omega | exact Nat.le_refl _⟩, ⟨by repeat (first | (with_reducible first | exact HB.out | apply below_alloc | apply pw_below_drewN | apply below_drew1) | exact HB.out)⟩⟩
 case rest =>
  clear HC4
  try clear c1
  try clear p2
  try clear c3
  try clear c4
  try clear c7
  obtain ⟨kq, x23_3, rfl, HA, HJ3, HB⟩ := hcut
  cases kq with
  | zero => exact absurd HA.out (by simp [waggonerlaw07_ExtentWrites.j0])
  | succ kj3 =>
   have H := HA.out
   clear HA
   simp only [waggonerlaw07_ExtentWrites.j0] at H
   by_cases c8 : x23_3 = true
   ·subst c8
    rw [if_pos rfl] at H
    (have HRT := Aside0.mk (Option.some.inj H); clear H)
    go_wp2
    go_ret
    exact ⟨by first | rfl | (exact congrArg (fun z_ => Ending.returned (Value.bool z_)) HRT.out) | (rw [HRT.out]; done) | (simp [errW_none, errW_some] <;> rfl) | (simp [*, errW_none, errW_some] <;> rfl), by repeat (first | (with_reducible first | exact HB.out | apply below_alloc | apply pw_below_drewN | apply below_drew1) | exact HB.out)⟩
   ·replace c8 := Bool.eq_false_iff.mpr c8
    subst c8
    rw [if_neg (show ¬ (false = true) by decide)] at H
    replace H := Option.bind_eq_some_iff.mp H
    obtain ⟨⟨t323, t324⟩, A90, H⟩ := H
    (try dsimp only at H)
    have A9 := Aside0.mk A90
    clear A90
    replace H := Option.bind_eq_some_iff.mp H
    obtain ⟨⟨t327, t328⟩, A100, H⟩ := H
    (try dsimp only at H)
    have A10 := Aside0.mk A100
    clear A100
    replace H := Option.bind_eq_some_iff.mp H
    obtain ⟨⟨t331, t332⟩, A110, H⟩ := H
    (try dsimp only at H)
    have A11 := Aside0.mk A110
    clear A110
    replace H := Option.bind_eq_some_iff.mp H
    obtain ⟨⟨t335, t336⟩, A120, H⟩ := H
    (try dsimp only at H)
    have A12 := Aside0.mk A120
    clear A120
    replace H := Option.bind_eq_some_iff.mp H
    obtain ⟨t339, A130, H⟩ := H
    (try dsimp only at H)
    have A13 := Aside0.mk A130
    clear A130
    by_cases c14 : t321 = true
    ·subst c14
     rw [if_pos rfl] at H
     by_cases c15 : (strOfNums t323).toList = (strOfNums t327).toList
     ·rw [if_pos c15] at H
      have c15b0 : ((strOfNums t323).toList == (strOfNums t327).toList) = true := beq_iff_eq.mpr c15
      have c15b1 : ((strOfNums t323).toList != (strOfNums t327).toList) = false := bne_eq_false_iff_eq.mpr c15
      clear c15
      by_cases c16 : t324 = t328
      ·rw [if_pos c16] at H
       have c16b0 : (t324 == t328) = true := beq_iff_eq.mpr c16
       have c16b1 : (t324 != t328) = false := bne_eq_false_iff_eq.mpr c16
       clear c16
       by_cases c17 : t339 = true
       ·subst c17
        rw [if_pos rfl] at H
        (have HRT := Aside0.mk (Option.some.inj H); clear H)
        go_wp2_with (first | ((with_reducible refine gate_callee (f := 45) rfl ?_); refine Cz.gL (N := (some 27)) Try.func45 #[.slice A0 l0.length c0] ?_; (with_reducible refine (extent_Write.calls _ _ l0 t323 t324 _ ?side1 ?side2 A9.out).mono ?_); (case side1 => exact Cz.cb HR0); (case side2 => exact HC0.out); rintro e w18 ⟨v325, rfl, ho0, hb⟩; refine ⟨_, rfl, ?_⟩; have n0_ := Aside0.mk (Kd.R_lower ho0 (below_size (by repeat (first | (with_reducible first | exact HB.out | apply below_alloc | apply pw_below_drewN | apply below_drew1) | exact HB.out)))); have n1_ := Cz.bs (w := w) hb; clear HB; have HO326 := n0_; have HB := n1_; clear n0_ n1_; (try clear hb); (try clear hb2); (try clear hk); (try clear hi); (try clear ho0)) | ((with_reducible refine gate_callee (f := 46) rfl ?_); refine Cz.gL (N := (some 32)) Try.func46 #[.slice A0 l0.length c0] ?_; (with_reducible refine (waggonerref07_Write.calls _ _ l0 t327 t328 _ ?side1 ?side2 A10.out).mono ?_); (case side1 => exact Cz.cb HR0); (case side2 => exact HC0.out); rintro e w19 ⟨v329, rfl, ho0, hb⟩; refine ⟨_, rfl, ?_⟩; have n0_ := Aside0.mk (Kd.R_elder' (by (with_reducible repeat (first | apply Kd.R_alloc | apply Kd.R_drewN | apply Kd.R_drew)); exact HO326.out) (Kd.R_base ho0) hb); have n1_ := Aside0.mk (Kd.R_lower (Kd.R_new' ho0 (Kd.R_lt (by (with_reducible repeat (first | apply Kd.R_alloc | apply Kd.R_drewN | apply Kd.R_drew)); exact HO326.out))) (below_size (by repeat (first | (with_reducible first | exact HB.out | apply below_alloc | apply pw_below_drewN | apply below_drew1) | exact HB.out)))); have n2_ := Cz.bs (w := w) hb; clear HO326; clear HB; have HO326 := n0_; have HO330 := n1_; have HB := n2_; clear n0_ n1_ n2_; (try clear hb); (try clear hb2); (try clear hk); (try clear hi); (try clear ho0)) | ((with_reducible refine gate_callee (f := 47) rfl ?_); refine Cz.gL (N := (some 37)) Try.func47 #[.slice A1 l1.length c1] ?_; (with_reducible refine (extent_Read.calls _ _ l1 t331 t332 _ ?side1 ?side2 A11.out).mono ?_); (case side1 => exact Cz.cb HR1); (case side2 => exact HC1.out); rintro e w20 ⟨v333, rfl, ho0, hb⟩; refine ⟨_, rfl, ?_⟩; have n0_ := Cz.rb HO326 hb; have n1_ := Cz.rb HO330 hb; have n2_ := Aside0.mk (Kd.S_lower (Kd.S_new' (Kd.S_new' ho0 (Kd.R_lt (by (with_reducible repeat (first | apply Kd.R_alloc | apply Kd.R_drewN | apply Kd.R_drew)); exact HO326.out))) (Kd.R_lt (by (with_reducible repeat (first | apply Kd.R_alloc | apply Kd.R_drewN | apply Kd.R_drew)); exact HO330.out))) (below_size (by repeat (first | (with_reducible first | exact HB.out | apply below_alloc | apply pw_below_drewN | apply below_drew1) | exact HB.out)))); have n3_ := Cz.bs (w := w) hb; clear HO326; clear HO330; clear HB; have HO326 := n0_; have HO330 := n1_; have HO334 := n2_; have HB := n3_; clear n0_ n1_ n2_ n3_; (try clear hb); (try clear hb2); (try clear hk); (try clear hi); (try clear ho0)) | ((with_reducible refine gate_callee (f := 48) rfl ?_); refine Cz.gL (N := (some 42)) Try.func48 #[.slice A1 l1.length c1] ?_; (with_reducible refine (waggonerref07_Read.calls _ _ l1 t335 t336 _ ?side1 ?side2 A12.out).mono ?_); (case side1 => exact Cz.cb HR1); (case side2 => exact HC1.out); rintro e w21 ⟨v337, rfl, ho0, hb⟩; refine ⟨_, rfl, ?_⟩; have n0_ := Cz.rb HO326 hb; have n1_ := Cz.rb HO330 hb; have n2_ := Aside0.mk (Kd.S_elder' (by (with_reducible repeat (first | apply Kd.S_alloc | apply Kd.S_drewN | apply Kd.S_drew)); exact HO334.out) (Kd.S_base ho0) hb); have n3_ := Aside0.mk (Kd.S_lower (Kd.S_new' (Kd.S_new' (Kd.S_new' ho0 (Kd.R_lt (by (with_reducible repeat (first | apply Kd.R_alloc | apply Kd.R_drewN | apply Kd.R_drew)); exact HO326.out))) (Kd.R_lt (by (with_reducible repeat (first | apply Kd.R_alloc | apply Kd.R_drewN | apply Kd.R_drew)); exact HO330.out))) (Kd.S_lt (by (with_reducible repeat (first | apply Kd.S_alloc | apply Kd.S_drewN | apply Kd.S_drew)); exact HO334.out))) (below_size (by repeat (first | (with_reducible first | exact HB.out | apply below_alloc | apply pw_below_drewN | apply below_drew1) | exact HB.out)))); have n4_ := Cz.bs (w := w) hb; clear HO326; clear HO330; clear HO334; clear HB; have HO326 := n0_; have HO330 := n1_; have HO334 := n2_; have HO338 := n3_; have HB := n4_; clear n0_ n1_ n2_ n3_ n4_; (try clear hb); (try clear hb2); (try clear hk); (try clear hi); (try clear ho0); obtain ⟨Ao22, co22, eo22⟩ := Kd.S_slice HO334.out; subst eo22; obtain ⟨Ao23, co23, eo23⟩ := Kd.S_slice HO338.out; subst eo23) | ((with_reducible refine gate_callee (f := 49) rfl ?_); refine Cz.gL (N := (some 47)) Try.func49 #[.slice Ao22 t331.length co22, .slice Ao23 t335.length co23] ?_; (with_reducible refine (waggonerref07_All.calls _ _ t331 _ _ t335 true _ ?side1 ?side2 ?side3 ?side4 A13.out).mono ?_); (case side1 => repeat (first | exact (Kd.S_reads' HO334.out).2.2 | (with_reducible refine Kd.C_alloc ?_ _) | (with_reducible refine Kd.C_drewN ?_ _) | (with_reducible refine Kd.C_drew ?_))); (case side2 => exact (Kd.S_reads' HO334.out).2.1); (case side3 => repeat (first | exact (Kd.S_reads' HO338.out).2.2 | (with_reducible refine Kd.C_alloc ?_ _) | (with_reducible refine Kd.C_drewN ?_ _) | (with_reducible refine Kd.C_drew ?_))); (case side4 => exact (Kd.S_reads' HO338.out).2.1); rintro e w24 ⟨rfl, hb⟩; refine ⟨_, rfl, ?_⟩; have n0_ := Cz.rb HO326 hb; have n1_ := Cz.rb HO330 hb; have n2_ := Aside0.mk (Kd.S_below (by (with_reducible repeat (first | apply Kd.S_alloc | apply Kd.S_drewN | apply Kd.S_drew)); exact HO334.out) hb); have n3_ := Aside0.mk (Kd.S_below (by (with_reducible repeat (first | apply Kd.S_alloc | apply Kd.S_drewN | apply Kd.S_drew)); exact HO338.out) hb); have n4_ := Cz.bs (w := w) hb; clear HO326; clear HO330; clear HO334; clear HO338; clear HB; have HO326 := n0_; have HO330 := n1_; have HO334 := n2_; have HO338 := n3_; have HB := n4_; clear n0_ n1_ n2_ n3_ n4_; (try clear hb); (try clear hb2); (try clear hk); (try clear hi); have hcv25 := own_string (P := Try.prog) Try.underlying23 Try.underlying5 Try.underlying9 (Kd.own_of_R HO326.out); (try have hcvd26 := fun (n_ : Nat) => own_string (P := Try.prog) Try.underlying23 Try.underlying5 Try.underlying9 (Kd.own_of_R (Kd.R_drewN HO326.out n_))); have hcv27 := own_string (P := Try.prog) Try.underlying23 Try.underlying5 Try.underlying9 (Kd.own_of_R HO330.out); (try have hcvd28 := fun (n_ : Nat) => own_string (P := Try.prog) Try.underlying23 Try.underlying5 Try.underlying9 (Kd.own_of_R (Kd.R_drewN HO330.out n_)))))
        go_ret
        exact ⟨by first | rfl | (exact congrArg (fun z_ => Ending.returned (Value.bool z_)) HRT.out) | (rw [HRT.out]; done) | (simp [errW_none, errW_some] <;> rfl) | (simp [*, errW_none, errW_some] <;> rfl), by repeat (first | (with_reducible first | exact HB.out | apply below_alloc | apply pw_below_drewN | apply below_drew1) | exact HB.out)⟩
       ·replace c17 := Bool.eq_false_iff.mpr c17
        subst c17
        have H1 : (some false) = some true := by rw [if_neg (show ¬ (false = true) by decide)] at H <;> exact H
        exact absurd H1 (by simp)
      ·rw [if_neg c16] at H
       first | exact absurd H (by simp; done) | skip
     ·rw [if_neg c15] at H
      first | exact absurd H (by simp; done) | skip
    ·replace c14 := Bool.eq_false_iff.mpr c14
     subst c14
     have H1 : (some false) = some true := by rw [if_neg (show ¬ (false = true) by decide)] at H <;> exact H
     exact absurd H1 (by simp)
end Go.Proofs.Ytcemlfkboifncaa.PG
