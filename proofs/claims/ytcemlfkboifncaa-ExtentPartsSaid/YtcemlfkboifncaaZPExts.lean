/- Words and walks that this claim names, of those that the kit's print and programs of this workplace have printed. -/
import Derived.Test.YtcemlfkboifncaaZPExt
set_option linter.unusedVariables false
namespace Go.Proofs.Ytcemlfkboifncaa.Pl
abbrev Ext := Int × Int × Int × Int × List Int
def eOk (e : Ext) : Bool := extOk e.1 e.2.1 e.2.2.1 e.2.2.2.1 e.2.2.2.2
def extHead (a n k g : Int) : List Int := leB 1 a.toNat ++ (leB 1 n.toNat ++ (leB 1 k.toNat ++ (leB 4 g.toNat ++ [])))
theorem extHead_length (a n k g : Int) : (extHead a n k g).length = 7 := by simp [extHead, leB_length]
theorem packP_ext {a n k g : Int} (ha : a < 256) (hn : n < 256) (hk : k < 256) (hg : g < 4294967296) : packP extForm [a, n, k, g] = some (extHead a n k g) := by
  rw [extForm, packP, packP, packP, packP, packP]
  rw [show letS 98 = 1 from by decide, show letS 119 = 4 from by decide]
  rw [if_pos (by rw [fits_1]; exact decide_eq_true ha), if_pos (by rw [fits_1]; exact decide_eq_true hn), if_pos (by rw [fits_1]; exact decide_eq_true hk), if_pos (by rw [fits_4]; exact decide_eq_true hg)]
  rfl
def extW (e : Ext) : List Int := extHead e.1 e.2.1 e.2.2.1 e.2.2.2.1 ++ e.2.2.2.2
theorem ext_lt {a n k g : Int} {d : List Int} (h : extOk a n k g d = true) : a < 256 ∧ n < 256 ∧ k < 256 ∧ g < 4294967296 ∧ 0 ≤ a ∧ 0 ≤ n ∧ 0 ≤ k ∧ 0 ≤ g := by
  obtain ⟨h1, h2, h3, h4, h5, h6, h7, h8, h9⟩ := extOk_iff.1 h
  omega
theorem extStep_some {b : List Int} {e : Ext} {r : List Int} (hb : byteB b = true) (h : extStep b = some (e, r)) : eOk e = true ∧ b = extW e ++ r := by
  unfold extStep at h
  by_cases h7 : b.length < 7
  · rw [if_pos h7] at h; cases h
  rw [if_neg h7] at h
  obtain ⟨n0, n1, n2, n3, hu, hu64, hp⟩ := unpack_ext hb (by omega)
  obtain ⟨p0, p1, p2, p3⟩ := ext_bounds hp
  rw [hu] at h
  dsimp only at h
  generalize (if n2 = 2 then (n1 * 32).toNat else 0) = k at h
  obtain ⟨d, hd⟩ : ∃ d, d = if 0 < k ∧ k ≤ (b.drop 7).length then (b.drop 7).take k else [] := ⟨_, rfl⟩
  obtain ⟨z, hz⟩ : ∃ z, z = if 0 < k ∧ k ≤ (b.drop 7).length then (b.drop 7).drop k else b.drop 7 := ⟨_, rfl⟩
  rw [← hd, ← hz] at h
  by_cases hok : extOk n0 n1 n2 n3 d = true
  rotate_left
  · rw [if_neg hok] at h; cases h
  rw [if_pos hok] at h
  injection h with h
  injection h with he hr
  subst he
  subst hr
  refine ⟨hok, ?_⟩
  have hh : extHead n0 n1 n2 n3 = b.take 7 := by
    rw [packP_ext p0 p1 p2 p3] at hp
    injection hp
  show b = (extHead n0 n1 n2 n3 ++ d) ++ z
  rw [hh, hd, hz, List.append_assoc]
  by_cases hc : 0 < k ∧ k ≤ (b.drop 7).length
  · rw [if_pos hc, if_pos hc, List.take_append_drop, List.take_append_drop]
  · rw [if_neg hc, if_neg hc, List.nil_append, List.take_append_drop]
def extsB : List Ext → List Int
  | [] => []
  | e :: l => extW e ++ extsB l
def eloop : Nat → List Int → Option (List Ext)
  | 0, b => if b.length = 0 then some [] else none
  | n + 1, b => match extStep b with
    | some (e, r) => (eloop n r).map (e :: ·)
    | none => none
theorem extW_byte {b : List Int} {e : Ext} {r : List Int} (hb : byteB b = true) (h : b = extW e ++ r) : byteB r = true ∧ byteB e.2.2.2.2 = true := by
  rw [h, byteB_append, extW, byteB_append, Bool.and_eq_true, Bool.and_eq_true] at hb
  exact ⟨hb.2, hb.1.2⟩
def eAll (l : List Ext) : Bool := decide (l.length ≤ 64) && l.all eOk
def extsW (l : List Ext) : List Int := (l.length : Int) :: extsB l
def ewriteS (l : List Ext) : List Int × Int := if eAll l = true then (extsW l, 0) else ([], 70)
def ereadS (b : List Int) : List Ext × Int :=
  match b with
  | [] => ([], 70)
  | c :: r => if c > 64 then ([], 70) else match eloop c.toNat r with
    | some l => (l, 0)
    | none => ([], 70)
theorem extOk_len {a n k g : Int} {l : List Int} (h : extOk a n k g l = true) : l.length ≤ 2048 := by
  obtain ⟨h1, h2, h3, h4, h5, h6, h7, h8, h9⟩ := extOk_iff.1 h
  by_cases hk : k = 2
  · rw [if_pos hk] at h9; omega
  · rw [if_neg hk] at h9; omega
def joinsB (a n k g : Int) (l : List Int) (a' n' k' g' : Int) (l' : List Int) : Bool := extOk a n k g l && (extOk a' n' k' g' l' && decide (a + n = a' ∧ k = k' ∧ g = g'))
theorem joinsB_iff {a n k g : Int} {l : List Int} {a' n' k' g' : Int} {l' : List Int} : joinsB a n k g l a' n' k' g' l' = true ↔ extOk a n k g l = true ∧ extOk a' n' k' g' l' = true ∧ a + n = a' ∧ k = k' ∧ g = g' := by
  rw [joinsB, Bool.and_eq_true, Bool.and_eq_true, decide_eq_true_eq]
def joinS (a n k g : Int) (l : List Int) (a' n' k' g' : Int) (l' : List Int) : Int × Int × Int × Int × List Int × Int := if joinsB a n k g l a' n' k' g' l' = true then (a, n + n', k, g, l ++ l', 0) else (0, 0, 0, 0, [], 70)
def cutS (a n k g : Int) (l : List Int) (b m : Int) : Int × Int × Int × Int × List Int × Bool :=
  if extOk a n k g l = true ∧ 0 ≤ b ∧ b ≤ 64 ∧ 0 ≤ m ∧ m ≤ 64 ∧ max a b < min (a + n) (b + m) then
    (max a b, min (a + n) (b + m) - max a b, k, g, if k = 2 then (l.take ((min (a + n) (b + m) - a) * 32).toNat).drop ((max a b - a) * 32).toNat else [], true)
  else (0, 0, 0, 0, [], false)
end Go.Proofs.Ytcemlfkboifncaa.Pl
