/- Numbers by a form without what stands ahead: what is packed is unpacked. No program in sight. -/
import Derived.Test.YtohkmmbmfhficaaForm
set_option linter.unusedVariables false
namespace Go.Proofs.Ytohkmmbmfhficaa.Pl
/-- Numbers by a form; none: they do not fit. -/
def packP : List Int → List Int → Option (List Int)
  | [], [] => some []
  | c :: f, n :: l => if fits n (letS c) = true then (packP f l).map (leB (letS c).toNat n.toNat ++ ·) else none
  | [], _ :: _ => none
  | _ :: _, [] => none
/-- Numbers that bytes begin with by a form, and what is behind them. -/
def unpackP : List Int → List Int → Option (List Int × List Int)
  | [], b => some ([], b)
  | c :: f, b => if okS (letS c) = true ∧ letS c ≤ b.length then (unpackP f (b.drop (letS c).toNat)).map fun p => (((leN (nats (b.take (letS c).toNat)) : Nat) : Int) :: p.1, p.2) else none
theorem packGo_eq : ∀ (f l out : List Int), packGo out f l = match packP f l with | some r => (out ++ r, 0) | none => ([], 10)
  | [], [], out => by simp [packGo, packP]
  | [], _ :: _, _ => rfl
  | _ :: _, [], _ => rfl
  | c :: f, n :: l, out => by
    rw [packGo, packP]
    split
    · rw [packGo_eq f l]
      cases packP f l <;> simp
    · rfl
theorem packS_some {f l r : List Int} (h : packP f l = some r) : packS f l = (r, 0) := by rw [packS, packGo_eq, h]; rfl
theorem packS_none {f l : List Int} (h : packP f l = none) : packS f l = ([], 10) := by rw [packS, packGo_eq, h]
theorem packS_ok {f l r : List Int} (h : packS f l = (r, 0)) : packP f l = some r := by
  cases hp : packP f l with
  | none => rw [packS_none hp] at h; injection h with _ h; exact absurd h (by decide)
  | some q => rw [packS_some hp] at h; injection h with h _; rw [h]
theorem unpackGo_eq : ∀ (f b out : List Int), unpackGo out f b = match unpackP f b with | some (l, []) => (out ++ l, 0) | _ => ([], 10)
  | [], b, out => by
    rw [unpackGo, unpackP]
    cases b <;> simp
  | c :: f, b, out => by
    rw [unpackGo, unpackP]
    split
    · rw [unpackGo_eq f]
      cases unpackP f (b.drop (letS c).toNat) with
      | none => rfl
      | some p => obtain ⟨l, t⟩ := p; cases t <;> simp
    · rfl
theorem unpackS_some {f b l : List Int} (h : unpackP f b = some (l, [])) : unpackS f b = (l, 0) := by rw [unpackS, unpackGo_eq, h]; rfl
theorem unpackS_not {f b : List Int} (h : ∀ l, unpackP f b ≠ some (l, [])) : unpackS f b = ([], 10) := by
  rw [unpackS, unpackGo_eq]
  split
  · rename_i l hl; exact absurd hl (h l)
  · rfl
theorem unpackS_cases (f b : List Int) : (∃ l, unpackP f b = some (l, []) ∧ unpackS f b = (l, 0)) ∨ unpackS f b = ([], 10) := by
  by_cases h : ∃ l, unpackP f b = some (l, [])
  · obtain ⟨l, hl⟩ := h; exact .inl ⟨l, hl, unpackS_some hl⟩
  · exact .inr (unpackS_not fun l hl => h ⟨l, hl⟩)
theorem packP_length : ∀ {f l r : List Int}, packP f l = some r → f.length = l.length
  | [], [], _, _ => rfl
  | [], _ :: _, _, h => by cases h
  | _ :: _, [], _, h => by cases h
  | c :: f, n :: l, r, h => by
    rw [packP] at h
    split at h
    · cases hp : packP f l with
      | none => rw [hp] at h; cases h
      | some q => rw [List.length_cons, List.length_cons, packP_length hp]
    · cases h
/-- How many bytes a form has. -/
def formL : List Int → Nat
  | [] => 0
  | c :: f => (letS c).toNat + formL f
theorem packP_size : ∀ {f l r : List Int}, packP f l = some r → r.length = formL f
  | [], [], _, h => by rw [packP] at h; cases h; rfl
  | [], _ :: _, _, h => by cases h
  | _ :: _, [], _, h => by cases h
  | c :: f, n :: l, r, h => by
    rw [packP] at h
    split at h
    · cases hp : packP f l with
      | none => rw [hp] at h; cases h
      | some q =>
        rw [hp] at h
        injection h with h
        rw [← h, List.length_append, leB_length, packP_size hp, formL]
    · cases h
theorem packP_byte : ∀ {f l r : List Int}, packP f l = some r → byteB r = true
  | [], [], _, h => by rw [packP] at h; cases h; rfl
  | [], _ :: _, _, h => by cases h
  | _ :: _, [], _, h => by cases h
  | c :: f, n :: l, r, h => by
    rw [packP] at h
    split at h
    · cases hp : packP f l with
      | none => rw [hp] at h; cases h
      | some q =>
        rw [hp] at h
        injection h with h
        rw [← h, byteB_append, leB_byte, packP_byte hp]
        rfl
    · cases h
theorem fits_lt {n s : Int} (h0 : 0 ≤ n) (h : fits n s = true) : n.toNat < 256 ^ s.toNat := by
  unfold fits at h
  rw [Bool.and_eq_true, decide_eq_true_eq] at h
  obtain ⟨x, rfl⟩ := Int.eq_ofNat_of_zero_le h0
  rw [Int.toNat_natCast]
  exact Int.ofNat_lt.1 h.2
theorem fits_ok {n s : Int} (h : fits n s = true) : okS s = true := by
  unfold fits at h
  rw [Bool.and_eq_true] at h
  exact h.1
theorem fits_mk {n s : Int} (ho : okS s = true) (h : n < ((256 ^ s.toNat : Nat) : Int)) : fits n s = true := by
  unfold fits
  rw [Bool.and_eq_true]
  exact ⟨ho, decide_eq_true h⟩
theorem okS_le {s : Int} (h : okS s = true) : 1 ≤ s ∧ s ≤ 8 := by rcases okS_iff.1 h with h | h | h | h <;> omega
/-- What is packed is unpacked, whatever stands behind. -/
theorem unpack_pack : ∀ {f l r : List Int} (t : List Int), u64B l = true → packP f l = some r → unpackP f (r ++ t) = some (l, t)
  | [], [], _, t, _, h => by rw [packP] at h; cases h; rfl
  | [], _ :: _, _, _, _, h => by cases h
  | _ :: _, [], _, _, _, h => by cases h
  | c :: f, n :: l, r, t, hu, h => by
    have hn := u64B_iff.1 hu n List.mem_cons_self
    have hl : u64B l = true := u64B_iff.2 fun x hx => u64B_iff.1 hu x (List.mem_cons_of_mem _ hx)
    rw [packP] at h
    split at h
    case isFalse => cases h
    rename_i hf
    cases hp : packP f l with
    | none => rw [hp] at h; cases h
    | some q =>
      rw [hp] at h
      injection h with h
      have hk := okS_le (fits_ok hf)
      have hd : (leB (letS c).toNat n.toNat).length = (letS c).toNat := leB_length _ _
      rw [unpackP, ← h, List.append_assoc, if_pos ⟨fits_ok hf, by rw [List.length_append, hd]; omega⟩, List.drop_left' hd, List.take_left' hd, unpack_pack t hl hp, leN_leB, Nat.mod_eq_of_lt (fits_lt hn.1 hf)]
      simp only [Option.map_some, Option.some.injEq, Prod.mk.injEq, List.cons.injEq, and_true]
      omega
/-- Bytes that are read are just those that are written. -/
theorem pack_unpack : ∀ {f b l t : List Int}, byteB b = true → unpackP f b = some (l, t) → ∃ r, packP f l = some r ∧ b = r ++ t ∧ u64B l = true
  | [], b, l, t, _, h => by rw [unpackP] at h; injection h with h; injection h with h1 h2; subst h1 h2; exact ⟨[], rfl, rfl, rfl⟩
  | c :: f, b, l, t, hb, h => by
    rw [unpackP] at h
    split at h
    case isFalse => cases h
    rename_i hh
    obtain ⟨ho, hl⟩ := hh
    cases hp : unpackP f (b.drop (letS c).toNat) with
    | none => rw [hp] at h; cases h
    | some p =>
      obtain ⟨l', t'⟩ := p
      rw [hp] at h
      injection h with h
      injection h with h1 h2
      dsimp only at h1 h2
      subst h2
      have hk := okS_le ho
      have htb : byteB (b.take (letS c).toNat) = true := byteB_iff.2 fun x hx => byteB_iff.1 hb x (List.mem_of_mem_take hx)
      have hdb : byteB (b.drop (letS c).toNat) = true := byteB_iff.2 fun x hx => byteB_iff.1 hb x (List.mem_of_mem_drop hx)
      obtain ⟨r, hr, he, hu⟩ := pack_unpack hdb hp
      have htl : (b.take (letS c).toNat).length = (letS c).toNat := by rw [List.length_take]; omega
      have hlt : leN (nats (b.take (letS c).toNat)) < 256 ^ (letS c).toNat := by
        have := leN_lt _ (byteB_bytes htb)
        rw [nats_length, htl, Nat.pow_mul] at this
        exact this
      have hle : leB (letS c).toNat (leN (nats (b.take (letS c).toNat))) = b.take (letS c).toNat := by
        have := leB_leN _ htb
        rw [htl] at this
        exact this
      have h64 : 256 ^ (letS c).toNat ≤ 256 ^ 8 := Nat.pow_le_pow_right (by decide) (by omega)
      subst h1
      refine ⟨leB (letS c).toNat (leN (nats (b.take (letS c).toNat))) ++ r, ?_, ?_, ?_⟩
      · rw [packP, if_pos (fits_mk ho (by exact_mod_cast hlt)), hr, Option.map_some, Int.toNat_natCast]
      · rw [hle, List.append_assoc, ← he, List.take_append_drop]
      · rw [u64B_iff]
        intro x hx
        rcases List.mem_cons.1 hx with rfl | hx
        · omega
        · exact u64B_iff.1 hu x hx
theorem packP_append : ∀ {a x p b y q : List Int}, packP a x = some p → packP b y = some q → packP (a ++ b) (x ++ y) = some (p ++ q)
  | [], [], p, b, y, q, h, k => by rw [packP] at h; cases h; exact k
  | [], _ :: _, _, _, _, _, h, _ => by cases h
  | _ :: _, [], _, _, _, _, h, _ => by cases h
  | c :: a, n :: x, p, b, y, q, h, k => by
    rw [packP] at h
    split at h
    case isFalse => cases h
    rename_i hf
    cases hp : packP a x with
    | none => rw [hp] at h; cases h
    | some p' =>
      rw [hp] at h
      injection h with h
      rw [List.cons_append, List.cons_append, packP, if_pos hf, packP_append hp k, Option.map_some, ← h, List.append_assoc]
theorem unpackP_length : ∀ {f b l t : List Int}, unpackP f b = some (l, t) → l.length = f.length
  | [], b, l, t, h => by rw [unpackP] at h; injection h with h; injection h with h1 h2; rw [← h1]
  | c :: f, b, l, t, h => by
    rw [unpackP] at h
    split at h
    case isFalse => cases h
    cases hp : unpackP f (b.drop (letS c).toNat) with
    | none => rw [hp] at h; cases h
    | some p =>
      obtain ⟨l', t'⟩ := p
      rw [hp] at h
      injection h with h
      injection h with h1 h2
      rw [← h1, List.length_cons, List.length_cons, unpackP_length hp]
theorem fb_append (a b : ByteArray) : fb (a ++ b) = fb a ++ fb b := by simp [fb]
theorem packS_byte (f l : List Int) : byteB (packS f l).1 = true := by
  cases h : packP f l with
  | none => rw [packS_none h]; rfl
  | some r => rw [packS_some h]; exact packP_byte h
theorem formL_le : ∀ f : List Int, formL f ≤ 8 * f.length
  | [] => Nat.zero_le _
  | c :: f => by
    have := formL_le f
    have := letS_le c
    rw [formL, List.length_cons]
    omega
theorem unpackS_length (f b : List Int) : (unpackS f b).1.length ≤ f.length := by
  rcases unpackS_cases f b with ⟨l, h, e⟩ | e
  · rw [e, unpackP_length h]; exact Nat.le_refl _
  · rw [e]; exact Nat.zero_le _
theorem leB_take : ∀ (k j n : Nat), j ≤ k → (leB k n).take j = leB j n
  | _, 0, n, _ => by rw [leB]; rfl
  | 0, j + 1, _, h => absurd h (by omega)
  | k + 1, j + 1, n, h => by rw [leB, leB, List.take_succ_cons, leB_take k j _ (by omega)]
theorem leB_get : ∀ (k n i : Nat), i < k → (leB k n).getD i 0 = ((n / 256 ^ i % 256 : Nat) : Int)
  | 0, _, _, h => absurd h (Nat.not_lt_zero _)
  | k + 1, n, 0, _ => by rw [leB, Nat.pow_zero, Nat.div_one]; rfl
  | k + 1, n, i + 1, h => by
    rw [leB, List.getD_cons_succ, leB_get k (n / 256) i (by omega), Nat.div_div_eq_div_mul, Nat.pow_succ, Nat.mul_comm 256]
end Go.Proofs.Ytohkmmbmfhficaa.Pl
