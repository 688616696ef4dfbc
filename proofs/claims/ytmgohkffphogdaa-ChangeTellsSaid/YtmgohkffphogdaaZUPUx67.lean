/- Words and walks that this claim names, of those that the kit's print and programs of this workplace have printed. -/
import Derived.Test.YtmgohkffphogdaaZUCz
import Derived.Test.YtmgohkffphogdaaZUPUx15
import Derived.Test.YtmgohkffphogdaaZUPUx59
import Derived.Test.YtmgohkffphogdaaZUPUx65
import Derived.Test.YtmgohkffphogdaaZUPUx66
namespace Go.Proofs.Ytmgohkffphogdaa.PU
open Go.Proofs.Ytmgohkffphogdaa Go.RowKit Go.Proofs.YtmgohkffphogdaaW.PrintWords Go.Proofs.YtmgohkffphogdaaW.PrintLast Go.Proofs.YtmgohkffphogdaaW.PrintMore
attribute [local go_sem] max2_int min2_int max_two min_two max_three min_three max_four min_four
set_option linter.unusedVariables false
set_option linter.unusedSimpArgs false
def waggonerref07_Read.f (l0 : List Int) : Option (List S39 × Int) := if Pl.byteB l0 = true ∧ l0.length < 1000000000 then some ((Pl.ereadS l0).1.map ofE, (Pl.ereadS l0).2) else none
theorem waggonerref07_Read.w64 {x : Int} (h0 : 0 ≤ x) (h1 : x < 9223372036854775808) : wrap64 x = x := by unfold wrap64; omega
theorem waggonerref07_Read.stop {b : List Int} {acc : List S39} {b0 t i : Int} (hb : Pl.byteB b = true) (h0 : 0 < b.length) (hr : wrap64 (rd b 0) = b0) (hi : ¬ i < b0) (ha : ∀ s ∈ acc, Pl.byteB s.f4 = true) (k : Nat) :
  waggonerref07_Read_p.l0 (k + 1) b acc t i = some (if Pl.eAll (acc.map toE) = true ∧ Pl.extsW (acc.map toE) = b then (acc, 0) else ([], 70)) := by
 rw [waggonerref07_Read_p.l0, if_pos (by omega), hr, if_neg hi, waggonerref07_Write.f, Option.bind_some, Pl.ewriteS]
 by_cases he : Pl.eAll (acc.map toE) = true
 ·rw [if_pos he]
  dsimp only
  have hw : Pl.byteB (Pl.extsW (acc.map toE)) = true := by
   have h64 := (Pl.eAll_iff.1 he).1
   refine Pl.byteB_iff.2 fun x hx => ?_
   rcases List.mem_cons.1 hx with rfl | hx
   ·omega
   ·refine Pl.byteB_iff.1 (Pl.extsB_byte fun e hm => ?_) x hx
    obtain ⟨s, hs, rfl⟩ := List.mem_map.1 hm
    exact ha s hs
  have hs : (strOfNums (Pl.extsW (acc.map toE))).toList = (strOfNums b).toList ↔ Pl.extsW (acc.map toE) = b := by
   have := Pl.str_eq hw hb
   rw [Bool.eq_iff_iff, beq_iff_eq, beq_iff_eq] at this
   exact this
  by_cases hq : Pl.extsW (acc.map toE) = b
  ·rw [if_pos rfl, if_pos (hs.2 hq), if_pos ⟨he, hq⟩]
  ·rw [if_pos rfl, if_neg (fun h => hq (hs.1 h)), if_neg (fun h => hq h.2)]
 ·rw [if_neg he]
  dsimp only
  rw [if_neg (by decide), if_neg (fun h => he h.1)]
theorem waggonerref07_Read.few {b : List Int} {acc : List S39} {b0 i : Int} {t : Nat} (h0 : 0 < b.length) (hl : b.length < 1000000000) (hr : wrap64 (rd b 0) = b0) (hi : i < b0) (ht : t ≤ b.length) (h7 : b.length < t + 7) (k : Nat) :
  waggonerref07_Read_p.l0 (k + 1) b acc (t : Int) i = some ([], 70) := by
 rw [waggonerref07_Read_p.l0, if_pos (by omega), hr, if_pos hi, if_pos (by unfold wrap64; omega)]
theorem waggonerref07_Read.head {b : List Int} {t : Nat} (hb : Pl.byteB b = true) (h7 : t + 7 ≤ b.length) (hl : b.length < 1000000000) {ns : List Int} (hu : Pl.unpackS Pl.extForm ((b.drop t).take 7) = (ns, 0)) :
  waggonerref01_Unpack.f (⟨#[98, 98, 98, 119]⟩ : ByteArray) ((b.take ((wrap64 ((t : Int) + 7)) : Int).toNat).drop ((t : Int) : Int).toNat) = some (ns, 0) := by
 rw [waggonerref07_Read.w64 (by omega) (by omega), show ((t : Int) + 7).toNat = t + 7 by omega, Int.toNat_natCast, List.drop_take, show t + 7 - t = 7 by omega]
 unfold waggonerref01_Unpack.f
 rw [if_pos ⟨Pl.byteB_take (Pl.byteB_drop hb t) 7, by rw [List.length_take]; omega, by decide⟩, show Pl.fb (⟨#[98, 98, 98, 119]⟩ : ByteArray) = Pl.extForm from by kernel_rfl, hu]
set_option maxHeartbeats 1000000 in
theorem waggonerref07_Read.open_ {b : List Int} {acc : List S39} {b0 i : Int} {t : Nat} (hb : Pl.byteB b = true) (h0 : 0 < b.length) (hl : b.length < 1000000000) (hr : wrap64 (rd b 0) = b0) (hi : i < b0) (hi0 : 0 ≤ i) (hi1 : i < 1000) (h7 : t + 7 ≤ b.length) (hac : acc.length < 1000) {n0 n1 n2 n3 : Int} (hu : Pl.unpackS Pl.extForm ((b.drop t).take 7) = ([n0, n1, n2, n3], 0))
  (w0 : 0 ≤ n0 ∧ n0 < 256) (w1 : 0 ≤ n1 ∧ n1 < 256) (w2 : 0 ≤ n2 ∧ n2 < 256) (w3 : 0 ≤ n3 ∧ n3 < 4294967296) (k : Nat) :
  waggonerref07_Read_p.l0 (k + 1) b acc (t : Int) i = if n2 = 2 then (if b.length < t + 7 + (32 * n1).toNat then some ([], 70) else waggonerref07_Read_p.l0 k b (acc ++ [⟨n0, n1, n2, n3, (b.drop (t + 7)).take (32 * n1).toNat⟩]) ((t + 7 + (32 * n1).toNat : Nat) : Int) (i + 1)) else waggonerref07_Read_p.l0 k b (acc ++ [⟨n0, n1, n2, n3, []⟩]) ((t + 7 : Nat) : Int) (i + 1) := by
 have HR := Aside0.mk hr
 have HU := Aside0.mk hu
 clear hr hu
 have f7 : wrap64 ((t : Int) + 7) = ((t + 7 : Nat) : Int) := by unfold wrap64; omega
 have q0 : (0 : Int) < (b.length : Int) := by omega
 have q1 : ¬ wrap64 ((b.length : Int) - (t : Int)) < 7 := by unfold wrap64; omega
 have q2 : (0 : Int) ≤ (t : Int) := by omega
 have q3 : (t : Int) ≤ ((t + 7 : Nat) : Int) := by omega
 have q4 : ((t + 7 : Nat) : Int) ≤ (b.length : Int) := by omega
 have v0 : wrap64 n0 = n0 := by unfold wrap64; omega
 have v1 : wrap64 n1 = n1 := by unfold wrap64; omega
 have v2 : wrap64 n2 = n2 := by unfold wrap64; omega
 have v3 : wrap64 n3 = n3 := by unfold wrap64; omega
 have v4 : wrap64 (i + 1) = i + 1 := by unfold wrap64; omega
 have v5 : wrap64 (32 * n1) = 32 * n1 := by unfold wrap64; omega
 have v6 : wrap64 ((b.length : Int) - ((t + 7 : Nat) : Int)) = (b.length : Int) - ((t + 7 : Nat) : Int) := by unfold wrap64; omega
 have v7 : wrap64 (((t + 7 : Nat) : Int) + 32 * n1) = ((t + 7 + (32 * n1).toNat : Nat) : Int) := by unfold wrap64; omega
 have q5 : acc.length < 2513169434916 := by omega
 have q6 : ((t + 7 : Nat) : Int) ≤ ((t + 7 + (32 * n1).toNat : Nat) : Int) := by omega
 have q7 : (0 : Int) ≤ ((t + 7 : Nat) : Int) := by omega
 have q8 : (([] : List Int).length + ((b.drop (t + 7)).take (32 * n1).toNat).length) < 140737488355328 := by rw [List.length_nil, List.length_take, List.length_drop]; omega
 have q9 : t + 7 + (32 * n1).toNat - (t + 7) = (32 * n1).toNat := by omega
 have q10 : ¬ b.length < t + 7 + (32 * n1).toNat → ((t + 7 + (32 * n1).toNat : Nat) : Int) ≤ (b.length : Int) := fun h => by omega
 have q11 : b.length < t + 7 + (32 * n1).toNat → (b.length : Int) - ((t + 7 : Nat) : Int) < 32 * n1 := fun h => by omega
 have q12 : ¬ b.length < t + 7 + (32 * n1).toNat → ¬ (b.length : Int) - ((t + 7 : Nat) : Int) < 32 * n1 := fun h => by omega
 have e0 : rd [n0, n1, n2, n3] 0 = n0 := rfl
 have e1 : rd [n0, n1, n2, n3] 1 = n1 := rfl
 have e2 : rd [n0, n1, n2, n3] 2 = n2 := rfl
 have e3 : rd [n0, n1, n2, n3] 3 = n3 := rfl
 have hU := waggonerref07_Read.head hb h7 hl HU.out
 rw [f7] at hU
 rw [waggonerref07_Read_p.l0, if_pos q0, HR.out, if_pos hi, if_neg q1, if_pos q2, f7, if_pos q3, if_pos q4, hU, Option.bind_some]
 dsimp only
 rw [e0, e1, e2, e3, if_pos (by simp), if_pos (by simp), if_pos (by simp), if_pos (by simp), v0, v1, v2, v3, v4, v5, v6, v7]
 by_cases hk : n2 = 2
 ·rw [if_pos hk, if_pos hk]
  by_cases hs : b.length < t + 7 + (32 * n1).toNat
  ·rw [if_pos (q11 hs), if_pos hs]
  ·rw [if_neg (q12 hs), if_neg hs, Option.bind_some, if_pos q7, if_pos q6, if_pos (q10 hs), Int.toNat_natCast, Int.toNat_natCast, List.drop_take, q9, List.nil_append, if_pos q8, if_pos q5]
 ·rw [if_neg hk, if_neg hk, if_pos q5]
theorem waggonerref07_Read.byte_snoc {acc : List S39} {s : S39} (ha : ∀ s ∈ acc, Pl.byteB s.f4 = true) (hs : Pl.byteB s.f4 = true) : ∀ x ∈ acc ++ [s], Pl.byteB x.f4 = true := by
 intro x hx
 rcases List.mem_append.1 hx with hx | hx
 ·exact ha x hx
 ·rw [List.mem_singleton.1 hx]; exact hs
theorem waggonerref07_Read.sound {b : List Int} {b0 : Int} (hb : Pl.byteB b = true) (h0 : 0 < b.length) (hl : b.length < 1000000000) (hr : wrap64 (rd b 0) = b0) (hb0 : b0 < 256) : ∀ (d k : Nat) (i : Int) (t : Nat) (acc : List S39), (b0 - i).toNat = d → 0 ≤ i → i ≤ 300 → d < k → t ≤ b.length → (acc.length : Int) = i → (∀ s ∈ acc, Pl.byteB s.f4 = true) →
  ∃ r, waggonerref07_Read_p.l0 k b acc (t : Int) i = some r ∧ (r = ([], 70) ∨ ∃ m, Pl.eAll m = true ∧ Pl.extsW m = b ∧ r.2 = 0)
 | 0, k, i, t, acc, hd, hi, hi3, hk, ht, hac, ha => by
  obtain ⟨k, rfl⟩ : ∃ m, k = m + 1 := ⟨k - 1, by omega⟩
  rw [waggonerref07_Read.stop hb h0 hr (by omega) ha]
  refine ⟨_, rfl, ?_⟩
  by_cases hc : Pl.eAll (acc.map toE) = true ∧ Pl.extsW (acc.map toE) = b
  ·rw [if_pos hc]; exact .inr ⟨_, hc.1, hc.2, rfl⟩
  ·rw [if_neg hc]; exact .inl rfl
 | d + 1, k, i, t, acc, hd, hi, hi3, hk, ht, hac, ha => by
  obtain ⟨k, rfl⟩ : ∃ m, k = m + 1 := ⟨k - 1, by omega⟩
  by_cases h7 : b.length < t + 7
  ·rw [waggonerref07_Read.few h0 hl hr (by omega) ht h7]
   exact ⟨_, rfl, .inl rfl⟩
  obtain ⟨n0, n1, n2, n3, hu, hu64, hp⟩ := Pl.unpack_ext (Pl.byteB_drop hb t) (by rw [List.length_drop]; omega)
  obtain ⟨p0, p1, p2, p3⟩ := Pl.ext_bounds hp
  have m0 := (Pl.u64B_iff.1 hu64 n0 (by simp)).1
  have m1 := (Pl.u64B_iff.1 hu64 n1 (by simp)).1
  have m2 := (Pl.u64B_iff.1 hu64 n2 (by simp)).1
  have m3 := (Pl.u64B_iff.1 hu64 n3 (by simp)).1
  rw [waggonerref07_Read.open_ hb h0 hl hr (by omega) hi (by omega) (by omega) (by omega) hu ⟨m0, p0⟩ ⟨m1, p1⟩ ⟨m2, p2⟩ ⟨m3, p3⟩]
  by_cases hk2 : n2 = 2
  ·rw [if_pos hk2]
   by_cases hs : b.length < t + 7 + (32 * n1).toNat
   ·rw [if_pos hs]; exact ⟨_, rfl, .inl rfl⟩
   ·rw [if_neg hs]
    exact waggonerref07_Read.sound hb h0 hl hr hb0 d k (i + 1) _ _ (by omega) (by omega) (by omega) (by omega) (by omega) (by rw [List.length_append, List.length_singleton]; omega) (waggonerref07_Read.byte_snoc ha (Pl.byteB_take (Pl.byteB_drop hb _) _))
  ·rw [if_neg hk2]
   exact waggonerref07_Read.sound hb h0 hl hr hb0 d k (i + 1) _ _ (by omega) (by omega) (by omega) (by omega) (by omega) (by rw [List.length_append, List.length_singleton]; omega) (waggonerref07_Read.byte_snoc ha rfl)
theorem waggonerref07_Read.whole {b : List Int} {l : List Pl.Ext} (hb : Pl.byteB b = true) (hl : b.length < 1000000000) (he : Pl.eAll l = true) (hw : b = Pl.extsW l) : ∀ (q p : List Pl.Ext) (k : Nat), l = p ++ q → q.length < k → waggonerref07_Read_p.l0 k b (p.map ofE) ((1 + (Pl.extsB p).length : Nat) : Int) (p.length : Int) = some (l.map ofE, 0)
 | [], p, k, hpq, hk => by
  obtain ⟨k, rfl⟩ : ∃ m, k = m + 1 := ⟨k - 1, by omega⟩
  rw [List.append_nil] at hpq
  subst hpq
  have h64 := (Pl.eAll_iff.1 he).1
  have hbd : ∀ s ∈ l.map ofE, Pl.byteB s.f4 = true := by
   intro s hs
   obtain ⟨e, hm, rfl⟩ := List.mem_map.1 hs
   rw [hw, Pl.extsW] at hb
   have hb' : Pl.byteB (Pl.extsB l) = true := Pl.byteB_iff.2 fun x hx => Pl.byteB_iff.1 hb x (List.mem_cons_of_mem _ hx)
   exact Pl.extsB_data hb' e hm
  rw [waggonerref07_Read.stop (b0 := (l.length : Int)) hb (by rw [hw]; simp [Pl.extsW]) (by rw [hw]; show wrap64 ((l.length : Int)) = _; exact waggonerref07_Read.w64 (by omega) (by omega)) (by omega) hbd, map_toE_ofE, if_pos ⟨he, hw.symm⟩]
 | e :: q, p, k, hpq, hk => by
  obtain ⟨k, rfl⟩ : ∃ m, k = m + 1 := ⟨k - 1, by omega⟩
  obtain ⟨h64, hall⟩ := Pl.eAll_iff.1 he
  obtain ⟨a, n, kd, g, d⟩ := e
  have hok : Pl.extOk a n kd g d = true := hall (a, n, kd, g, d) (by rw [hpq]; simp)
  obtain ⟨p0, p1, p2, p3, q0, q1, q2, q3⟩ := Pl.ext_lt hok
  obtain ⟨o1, o2, o3, o4, o5, o6, o7, o8, o9⟩ := Pl.extOk_iff.1 hok
  have hlen : l.length = p.length + (q.length + 1) := by rw [hpq, List.length_append, List.length_cons]
  have hbb : b = (l.length : Int) :: (Pl.extsB p ++ (Pl.extW (a, n, kd, g, d) ++ Pl.extsB q)) := by rw [hw, Pl.extsW, hpq, Pl.extsB_append, Pl.extsB]
  have hdr : b.drop (1 + (Pl.extsB p).length) = Pl.extHead a n kd g ++ (d ++ Pl.extsB q) := by
   rw [hbb, Nat.add_comm, List.drop_succ_cons, List.drop_left, Pl.extW, List.append_assoc]
  have hblen := congrArg List.length hbb
  rw [List.length_cons, List.length_append, List.length_append, Pl.extW_length] at hblen
  dsimp only at hblen
  have hu : Pl.unpackS Pl.extForm ((b.drop (1 + (Pl.extsB p).length)).take 7) = ([a, n, kd, g], 0) := by
   rw [hdr, List.take_left' (Pl.extHead_length _ _ _ _)]
   exact Pl.unpackS_ext ⟨q0, p0⟩ ⟨q1, p1⟩ ⟨q2, p2⟩ ⟨q3, p3⟩
  rw [waggonerref07_Read.open_ (b0 := (l.length : Int)) hb (by rw [hbb]; simp) hl (by rw [hbb]; show wrap64 ((l.length : Int)) = _; exact waggonerref07_Read.w64 (by omega) (by omega)) (by omega) (by omega) (by omega) (by omega) (by rw [List.length_map]; omega) hu ⟨q0, p0⟩ ⟨q1, p1⟩ ⟨q2, p2⟩ ⟨q3, p3⟩]
  have ih := waggonerref07_Read.whole hb hl he hw q (p ++ [(a, n, kd, g, d)]) k (by rw [hpq, List.append_assoc]; rfl) (by rw [List.length_cons] at hk; omega)
  rw [List.map_append, Pl.extsB_snoc, List.length_append, List.length_append, Pl.extW_length, List.length_singleton] at ih
  dsimp only at ih
  by_cases hk2 : kd = 2
  ·rw [if_pos hk2] at o9
   rw [if_pos hk2, if_neg (by omega), show b.drop (1 + (Pl.extsB p).length + 7) = d ++ Pl.extsB q by rw [← List.drop_drop, hdr, List.drop_left' (Pl.extHead_length _ _ _ _)], List.take_left' (by omega)]
   rw [show 1 + (Pl.extsB p).length + 7 + (32 * n).toNat = 1 + ((Pl.extsB p).length + (d.length + 7)) by omega, show (p.length : Int) + 1 = ((p.length + 1 : Nat) : Int) by omega]
   exact ih
  ·rw [if_neg hk2] at o9
   obtain rfl : d = [] := List.eq_nil_of_length_eq_zero (by omega)
   rw [if_neg hk2, show 1 + (Pl.extsB p).length + 7 = 1 + ((Pl.extsB p).length + (([] : List Int).length + 7)) by rw [List.length_nil]; omega, show (p.length : Int) + 1 = ((p.length + 1 : Nat) : Int) by omega]
   exact ih
theorem waggonerref07_Read.closes {l0 : List Int} {r : List S39 × Int} (h : waggonerref07_Read.f l0 = some r) : waggonerref07_Read_p.f 300 l0 = some r := by
 unfold waggonerref07_Read.f at h
 split at h
 case isFalse => cases h
 rename_i hh
 obtain ⟨hb, hl⟩ := hh
 rw [← h]
 unfold waggonerref07_Read_p.f
 by_cases hz : l0.length = 0
 ·obtain rfl : l0 = [] := List.eq_nil_of_length_eq_zero hz
  exact (if_pos rfl).trans rfl
 rw [if_neg (by omega)]
 rcases Pl.ereadS_cases hb with ⟨l, he, hw, hr⟩ | ⟨hno, hr⟩
 ·rw [hr]
  have h64 := (Pl.eAll_iff.1 he).1
  exact waggonerref07_Read.whole hb hl he hw l [] 300 rfl (by omega)
 ·rw [hr]
  have hc : 0 ≤ rd l0 0 ∧ rd l0 0 < 256 := by
   cases l0 with
   | nil => simp at hz
   | cons c t => exact Pl.byteB_iff.1 hb c List.mem_cons_self
  obtain ⟨r', hr', hcase⟩ := waggonerref07_Read.sound (b0 := rd l0 0) hb (by omega) hl (waggonerref07_Read.w64 hc.1 (by omega)) hc.2 (rd l0 0).toNat 300 0 1 [] (by omega) (by omega) (by omega) (by omega) (by omega) rfl (fun _ h => absurd h List.not_mem_nil)
  rw [show ((1 : Nat) : Int) = 1 from rfl] at hr'
  rw [hr']
  rcases hcase with rfl | ⟨m, h1, h2, -⟩
  ·rfl
  ·exact absurd h2.symm (hno m h1)
theorem waggonerref07_Read.calls (A0 : Option Addr) (c0 : Nat) (l0 : List Int) (r1 : List (S39)) (r2 : Int) (w : World) (hr0 : Kd.C (Kd.int .u8) w A0 l0.length l0) (hc0 : l0.length ≤ c0) (h : waggonerref07_Read.f l0 = some (r1, r2)) :
  Calls Try.prog 28 #[.slice A0 l0.length c0] w fun e w' => ∃ v0_ : Value, e = .returned (.tuple #[v0_, .int .i64 r2]) ∧ Kd.S k39 39 w' w.heap.size (fun _ => True) v0_ r1 ∧ Below w.heap.size w w' :=
 waggonerref07_Read_p.calls 300 A0 c0 l0 r1 r2 w hr0 hc0 (waggonerref07_Read.closes h)
end Go.Proofs.Ytmgohkffphogdaa.PU
