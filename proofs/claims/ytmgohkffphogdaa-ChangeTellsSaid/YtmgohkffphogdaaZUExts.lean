/- Words and walks that this claim names, of those that the kit's print and programs of this workplace have printed. -/
import Derived.Test.YtmgohkffphogdaaZUExt
set_option linter.unusedVariables false
namespace Go.Proofs.Ytmgohkffphogdaa.Pl
abbrev Ext := Int × Int × Int × Int × List Int
def eOk (e : Ext) : Bool := extOk e.1 e.2.1 e.2.2.1 e.2.2.2.1 e.2.2.2.2
def extHead (a n k g : Int) : List Int := leB 1 a.toNat ++ (leB 1 n.toNat ++ (leB 1 k.toNat ++ (leB 4 g.toNat ++ [])))
theorem extHead_length (a n k g : Int) : (extHead a n k g).length = 7 := by simp [extHead, leB_length]
theorem extHead_byte (a n k g : Int) : byteB (extHead a n k g) = true := by
  unfold extHead
  rw [byteB_append, byteB_append, byteB_append, byteB_append, leB_byte, leB_byte, leB_byte, leB_byte]
  rfl
theorem packP_ext {a n k g : Int} (ha : a < 256) (hn : n < 256) (hk : k < 256) (hg : g < 4294967296) : packP extForm [a, n, k, g] = some (extHead a n k g) := by
  rw [extForm, packP, packP, packP, packP, packP]
  rw [show letS 98 = 1 from by decide, show letS 119 = 4 from by decide]
  rw [if_pos (by rw [fits_1]; exact decide_eq_true ha), if_pos (by rw [fits_1]; exact decide_eq_true hn), if_pos (by rw [fits_1]; exact decide_eq_true hk), if_pos (by rw [fits_4]; exact decide_eq_true hg)]
  rfl
def extW (e : Ext) : List Int := extHead e.1 e.2.1 e.2.2.1 e.2.2.2.1 ++ e.2.2.2.2
theorem extW_length (e : Ext) : (extW e).length = e.2.2.2.2.length + 7 := by rw [extW, List.length_append, extHead_length, Nat.add_comm]
theorem ext_lt {a n k g : Int} {d : List Int} (h : extOk a n k g d = true) : a < 256 ∧ n < 256 ∧ k < 256 ∧ g < 4294967296 ∧ 0 ≤ a ∧ 0 ≤ n ∧ 0 ≤ k ∧ 0 ≤ g := by
  obtain ⟨h1, h2, h3, h4, h5, h6, h7, h8, h9⟩ := extOk_iff.1 h
  omega
theorem unpackP_ext {a n k g : Int} (t : List Int) (ha : 0 ≤ a ∧ a < 256) (hn : 0 ≤ n ∧ n < 256) (hk : 0 ≤ k ∧ k < 256) (hg : 0 ≤ g ∧ g < 4294967296) : unpackP extForm (extHead a n k g ++ t) = some ([a, n, k, g], t) :=
  unpack_pack t (u64B_iff.2 (by
    intro x hx
    simp only [List.mem_cons, List.not_mem_nil, or_false] at hx
    omega)) (packP_ext ha.2 hn.2 hk.2 hg.2)
theorem unpackS_ext {a n k g : Int} (ha : 0 ≤ a ∧ a < 256) (hn : 0 ≤ n ∧ n < 256) (hk : 0 ≤ k ∧ k < 256) (hg : 0 ≤ g ∧ g < 4294967296) : unpackS extForm (extHead a n k g) = ([a, n, k, g], 0) := by
  have := unpackP_ext [] ha hn hk hg
  rw [List.append_nil] at this
  exact unpackS_some this
theorem extStep_write {a n k g : Int} {d : List Int} (t : List Int) (h : extOk a n k g d = true) : extStep (extHead a n k g ++ d ++ t) = some ((a, n, k, g, d), t) := by
  obtain ⟨h1, h2, h3, h4, h5, h6, h7, h8, h9⟩ := extOk_iff.1 h
  have hl : (extHead a n k g ++ d ++ t).length = 7 + d.length + t.length := by rw [List.length_append, List.length_append, extHead_length]
  unfold extStep
  rw [if_neg (by omega), List.append_assoc, List.take_left' (extHead_length _ _ _ _), List.drop_left' (extHead_length _ _ _ _), unpackS_ext ⟨h1, by omega⟩ ⟨by omega, by omega⟩ ⟨h5, by omega⟩ ⟨h7, by omega⟩]
  dsimp only
  by_cases hk : k = 2
  · rw [if_pos hk] at h9 ⊢
    have hlen : (d ++ t).length = d.length + t.length := List.length_append
    have hc : 0 < (n * 32).toNat ∧ (n * 32).toNat ≤ (d ++ t).length := ⟨by omega, by omega⟩
    simp only [if_pos hc]
    rw [List.take_left' (by omega), List.drop_left' (by omega), if_pos h]
  · rw [if_neg hk] at h9 ⊢
    obtain rfl : d = [] := List.eq_nil_of_length_eq_zero (by omega)
    have hc : ¬ (0 < 0 ∧ 0 ≤ ([] ++ t).length) := fun hh => absurd hh.1 (by decide)
    simp only [if_neg hc]
    rw [if_pos h, List.nil_append]
theorem extStep_some {b : List Int} {e : Ext} {r : List Int} (hb : byteB b = true) (h : extStep b = some (e, r)) : eOk e = true ∧ b = extW e ++ r := by
  unfold extStep at h
  by_cases h7 : b.length < 7
  · rw [if_pos h7] at h; cases h
  rw [if_neg h7] at h
  obtain ⟨n0, n1, n2, n3, hu, hu64, hp⟩ := unpack_ext hb (by omega)
  obtain ⟨p0, p1, p2, p3⟩ := ext_bounds hp
  rw [hu] at h
  dsimp only at h
  generalize (if n2 = 2 then (n1 * 32).toNat else 0) = k at h
  obtain ⟨d, hd⟩ : ∃ d, d = if 0 < k ∧ k ≤ (b.drop 7).length then (b.drop 7).take k else [] := ⟨_, rfl⟩
  obtain ⟨z, hz⟩ : ∃ z, z = if 0 < k ∧ k ≤ (b.drop 7).length then (b.drop 7).drop k else b.drop 7 := ⟨_, rfl⟩
  rw [← hd, ← hz] at h
  by_cases hok : extOk n0 n1 n2 n3 d = true
  rotate_left
  · rw [if_neg hok] at h; cases h
  rw [if_pos hok] at h
  injection h with h
  injection h with he hr
  subst he
  subst hr
  refine ⟨hok, ?_⟩
  have hh : extHead n0 n1 n2 n3 = b.take 7 := by
    rw [packP_ext p0 p1 p2 p3] at hp
    injection hp
  show b = (extHead n0 n1 n2 n3 ++ d) ++ z
  rw [hh, hd, hz, List.append_assoc]
  by_cases hc : 0 < k ∧ k ≤ (b.drop 7).length
  · rw [if_pos hc, if_pos hc, List.take_append_drop, List.take_append_drop]
  · rw [if_neg hc, if_neg hc, List.nil_append, List.take_append_drop]
theorem extStep_extW {e : Ext} (t : List Int) (h : eOk e = true) : extStep (extW e ++ t) = some (e, t) := extStep_write t h
def extsB : List Ext → List Int
  | [] => []
  | e :: l => extW e ++ extsB l
theorem extsB_append : ∀ (l m : List Ext), extsB (l ++ m) = extsB l ++ extsB m
  | [], m => rfl
  | e :: l, m => by rw [List.cons_append, extsB, extsB, extsB_append l m, List.append_assoc]
theorem extsB_snoc (l : List Ext) (e : Ext) : extsB (l ++ [e]) = extsB l ++ extW e := by rw [extsB_append, extsB, extsB, List.append_nil]
def eloop : Nat → List Int → Option (List Ext)
  | 0, b => if b.length = 0 then some [] else none
  | n + 1, b => match extStep b with
    | some (e, r) => (eloop n r).map (e :: ·)
    | none => none
theorem eloop_write : ∀ (l : List Ext), (∀ e ∈ l, eOk e = true) → eloop l.length (extsB l) = some l
  | [], _ => rfl
  | e :: l, h => by
    rw [List.length_cons, extsB, eloop, extStep_extW _ (h e List.mem_cons_self)]
    dsimp only
    rw [eloop_write l fun x hx => h x (List.mem_cons_of_mem _ hx)]
    rfl
theorem extW_byte {b : List Int} {e : Ext} {r : List Int} (hb : byteB b = true) (h : b = extW e ++ r) : byteB r = true ∧ byteB e.2.2.2.2 = true := by
  rw [h, byteB_append, extW, byteB_append, Bool.and_eq_true, Bool.and_eq_true] at hb
  exact ⟨hb.2, hb.1.2⟩
theorem eloop_some : ∀ (n : Nat) (b : List Int) (l : List Ext), byteB b = true → eloop n b = some l → l.length = n ∧ (∀ e ∈ l, eOk e = true) ∧ b = extsB l
  | 0, b, l, hb, h => by
    rw [eloop] at h
    split at h
    case isFalse => cases h
    rename_i hl
    injection h with h
    subst h
    exact ⟨rfl, fun e he => absurd he List.not_mem_nil, List.eq_nil_of_length_eq_zero hl⟩
  | n + 1, b, l, hb, h => by
    rw [eloop] at h
    cases hs : extStep b with
    | none => rw [hs] at h; cases h
    | some p =>
      obtain ⟨e, r⟩ := p
      rw [hs] at h
      dsimp only at h
      obtain ⟨ho, hbe⟩ := extStep_some hb hs
      cases hr : eloop n r with
      | none => rw [hr] at h; cases h
      | some m =>
        rw [hr] at h
        injection h with h
        subst h
        obtain ⟨h1, h2, h3⟩ := eloop_some n r m (extW_byte hb hbe).1 hr
        refine ⟨by rw [List.length_cons, h1], fun x hx => ?_, by rw [extsB, ← h3]; exact hbe⟩
        rcases List.mem_cons.1 hx with rfl | hx
        · exact ho
        · exact h2 x hx
def eAll (l : List Ext) : Bool := decide (l.length ≤ 64) && l.all eOk
theorem eAll_iff {l : List Ext} : eAll l = true ↔ l.length ≤ 64 ∧ ∀ e ∈ l, eOk e = true := by
  rw [eAll, Bool.and_eq_true, decide_eq_true_eq, List.all_eq_true]
def extsW (l : List Ext) : List Int := (l.length : Int) :: extsB l
def ewriteS (l : List Ext) : List Int × Int := if eAll l = true then (extsW l, 0) else ([], 70)
def ereadS (b : List Int) : List Ext × Int :=
  match b with
  | [] => ([], 70)
  | c :: r => if c > 64 then ([], 70) else match eloop c.toNat r with
    | some l => (l, 0)
    | none => ([], 70)
theorem ereadS_write {l : List Ext} (h : eAll l = true) : ereadS (extsW l) = (l, 0) := by
  obtain ⟨h1, h2⟩ := eAll_iff.1 h
  rw [extsW, ereadS]
  rw [if_neg (by omega), Int.toNat_natCast, eloop_write l h2]
theorem ereadS_cases {b : List Int} (hb : byteB b = true) : (∃ l, eAll l = true ∧ b = extsW l ∧ ereadS b = (l, 0)) ∨ ((∀ l, eAll l = true → b ≠ extsW l) ∧ ereadS b = ([], 70)) := by
  by_cases hx : ∃ l, eAll l = true ∧ b = extsW l
  · obtain ⟨l, h, rfl⟩ := hx
    exact .inl ⟨l, h, rfl, ereadS_write h⟩
  · refine .inr ⟨fun l h e => hx ⟨l, h, e⟩, ?_⟩
    cases b with
    | nil => rfl
    | cons c r =>
      rw [ereadS]
      by_cases hc : c > 64
      · rw [if_pos hc]
      rw [if_neg hc]
      have hc0 := (byteB_iff.1 hb c List.mem_cons_self).1
      have hbr : byteB r = true := byteB_iff.2 fun x h => byteB_iff.1 hb x (List.mem_cons_of_mem _ h)
      cases he : eloop c.toNat r with
      | none => rfl
      | some l =>
        obtain ⟨h1, h2, h3⟩ := eloop_some _ r l hbr he
        exact absurd ⟨l, eAll_iff.2 ⟨by omega, h2⟩, by rw [extsW, h1, ← h3, Int.toNat_of_nonneg hc0]⟩ hx
theorem extW_byte_mk {e : Ext} (h : byteB e.2.2.2.2 = true) : byteB (extW e) = true := by
  rw [extW, byteB_append, extHead_byte, h]; rfl
theorem extsB_byte : ∀ {l : List Ext}, (∀ e ∈ l, byteB e.2.2.2.2 = true) → byteB (extsB l) = true
  | [], _ => rfl
  | e :: l, h => by
    rw [extsB, byteB_append, extW_byte_mk (h e List.mem_cons_self), extsB_byte fun x hx => h x (List.mem_cons_of_mem _ hx)]; rfl
theorem extsB_data {l : List Ext} (h : byteB (extsB l) = true) (e : Ext) (he : e ∈ l) : byteB e.2.2.2.2 = true := by
  induction l with
  | nil => cases he
  | cons x l ih =>
    rw [extsB, extW, byteB_append, byteB_append, Bool.and_eq_true, Bool.and_eq_true] at h
    rcases List.mem_cons.1 he with rfl | he
    · exact h.1.2
    · exact ih h.2 he
theorem extOk_len {a n k g : Int} {l : List Int} (h : extOk a n k g l = true) : l.length ≤ 2048 := by
  obtain ⟨h1, h2, h3, h4, h5, h6, h7, h8, h9⟩ := extOk_iff.1 h
  by_cases hk : k = 2
  · rw [if_pos hk] at h9; omega
  · rw [if_neg hk] at h9; omega
end Go.Proofs.Ytmgohkffphogdaa.Pl
