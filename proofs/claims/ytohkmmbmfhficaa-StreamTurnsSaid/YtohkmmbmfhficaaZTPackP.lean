/- Words and walks that this claim names, of those that the kit's print and programs of this workplace have printed. -/
import Derived.Test.YtohkmmbmfhficaaZTForm
set_option linter.unusedVariables false
namespace Go.Proofs.Ytohkmmbmfhficaa.Pl
def packP : List Int → List Int → Option (List Int)
  | [], [] => some []
  | c :: f, n :: l => if fits n (letS c) = true then (packP f l).map (leB (letS c).toNat n.toNat ++ ·) else none
  | [], _ :: _ => none
  | _ :: _, [] => none
def unpackP : List Int → List Int → Option (List Int × List Int)
  | [], b => some ([], b)
  | c :: f, b => if okS (letS c) = true ∧ letS c ≤ b.length then (unpackP f (b.drop (letS c).toNat)).map fun p => (((leN (nats (b.take (letS c).toNat)) : Nat) : Int) :: p.1, p.2) else none
theorem packGo_eq : ∀ (f l out : List Int), packGo out f l = match packP f l with | some r => (out ++ r, 0) | none => ([], 10)
  | [], [], out => by simp [packGo, packP]
  | [], _ :: _, _ => rfl
  | _ :: _, [], _ => rfl
  | c :: f, n :: l, out => by
    rw [packGo, packP]
    split
    ·rw [packGo_eq f l]
     cases packP f l <;> simp
    rfl
theorem packS_some {f l r : List Int} (h : packP f l = some r) : packS f l = (r, 0) := by rw [packS, packGo_eq, h]; rfl
theorem unpackGo_eq : ∀ (f b out : List Int), unpackGo out f b = match unpackP f b with | some (l, []) => (out ++ l, 0) | _ => ([], 10)
  | [], b, out => by
    rw [unpackGo, unpackP]
    cases b <;> simp
  | c :: f, b, out => by
    rw [unpackGo, unpackP]
    split
    ·rw [unpackGo_eq f]
     rcases unpackP f (b.drop (letS c).toNat) with _ | p
     ·rfl
     obtain ⟨l, t⟩ := p; cases t <;> simp
    rfl
theorem unpackS_some {f b l : List Int} (h : unpackP f b = some (l, [])) : unpackS f b = (l, 0) := by rw [unpackS, unpackGo_eq, h]; rfl
theorem unpackS_not {f b : List Int} (h : ∀ l, unpackP f b ≠ some (l, [])) : unpackS f b = ([], 10) := by
  rw [unpackS, unpackGo_eq]
  split
  ·rename_i l hl; exact absurd hl (h l)
  rfl
theorem unpackS_cases (f b : List Int) : (∃ l, unpackP f b = some (l, []) ∧ unpackS f b = (l, 0)) ∨ unpackS f b = ([], 10) := by
  by_cases h : ∃ l, unpackP f b = some (l, [])
  · obtain ⟨l, hl⟩ := h; exact .inl ⟨l, hl, unpackS_some hl⟩
  · exact .inr (unpackS_not fun l hl => h ⟨l, hl⟩)
def formL : List Int → Nat
  | [] => 0
  | c :: f => (letS c).toNat + formL f
theorem packP_size : ∀ {f l r : List Int}, packP f l = some r → r.length = formL f
  | [], [], _, h => by rw [packP] at h; cases h; rfl
  | [], _ :: _, _, h => by cases h
  | _ :: _, [], _, h => by cases h
  | c :: f, n :: l, r, h => by
    rw [packP] at h
    split at h
    ·rcases hp : packP f l with _ | q
     ·rw [hp] at h; cases h
     rw [hp] at h
     injection h with h
     rw [← h, List.length_append, leB_length, packP_size hp, formL]
    cases h
theorem fits_mk {n s : Int} (ho : okS s = true) (h : n < ((256 ^ s.toNat : Nat) : Int)) : fits n s = true := by
  unfold fits
  rw [Bool.and_eq_true]
  exact ⟨ho, decide_eq_true h⟩
theorem okS_le {s : Int} (h : okS s = true) : 1 ≤ s ∧ s ≤ 8 := by rcases okS_iff.1 h with h | h | h | h <;> omega
theorem pack_unpack : ∀ {f b l t : List Int}, byteB b = true → unpackP f b = some (l, t) → ∃ r, packP f l = some r ∧ b = r ++ t ∧ u64B l = true
  | [], b, l, t, _, h => by rw [unpackP] at h; injection h with h; injection h with h1 h2; subst h1 h2; exact ⟨[], rfl, rfl, rfl⟩
  | c :: f, b, l, t, hb, h => by
    rw [unpackP] at h
    split at h
    case isFalse => cases h
    rename_i hh
    obtain ⟨ho, hl⟩ := hh
    rcases hp : unpackP f (b.drop (letS c).toNat) with _ | p
    ·rw [hp] at h; cases h
    obtain ⟨l', t'⟩ := p
    rw [hp] at h
    injection h with h
    injection h with h1 h2
    dsimp only at h1 h2
    subst h2
    have hk := okS_le ho
    have htb : byteB (b.take (letS c).toNat) = true := byteB_iff.2 fun x hx => byteB_iff.1 hb x (List.mem_of_mem_take hx)
    have hdb : byteB (b.drop (letS c).toNat) = true := byteB_iff.2 fun x hx => byteB_iff.1 hb x (List.mem_of_mem_drop hx)
    obtain ⟨r, hr, he, hu⟩ := pack_unpack hdb hp
    have htl : (b.take (letS c).toNat).length = (letS c).toNat := by rw [List.length_take]; omega
    have hlt : leN (nats (b.take (letS c).toNat)) < 256 ^ (letS c).toNat := by
      have := leN_lt _ (byteB_bytes htb)
      rw [nats_length, htl, Nat.pow_mul] at this
      exact this
    have hle : leB (letS c).toNat (leN (nats (b.take (letS c).toNat))) = b.take (letS c).toNat := by
      have := leB_leN _ htb
      rw [htl] at this
      exact this
    have h64 : 256 ^ (letS c).toNat ≤ 256 ^ 8 := Nat.pow_le_pow_right (by decide) (by omega)
    subst h1
    refine ⟨leB (letS c).toNat (leN (nats (b.take (letS c).toNat))) ++ r, ?_, ?_, ?_⟩
    ·rw [packP, if_pos (fits_mk ho (by exact_mod_cast hlt)), hr, Option.map_some, Int.toNat_natCast]
    ·rw [hle, List.append_assoc, ← he, List.take_append_drop]
    ·rw [u64B_iff]
     intro x hx
     rcases List.mem_cons.1 hx with rfl | hx
     ·omega
     exact u64B_iff.1 hu x hx
end Go.Proofs.Ytohkmmbmfhficaa.Pl
