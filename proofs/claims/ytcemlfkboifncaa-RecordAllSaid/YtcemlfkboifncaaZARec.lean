/- Words and walks that this claim names, of those that the kit's print and programs of this workplace have printed. -/
import Derived.Test.YtcemlfkboifncaaZAPackP
set_option linter.unusedVariables false
namespace Go.Proofs.Ytcemlfkboifncaa.Pl
def recForm : List Int := [119, 104, 104, 113]
def recOk (k s : Int) (l : List Int) : Bool := decide (1 ≤ k) && decide (k ≤ 5) && decide (0 ≤ s) && decide (s ≤ 4611686018427387903) && decide (l.length ≤ 4096)
theorem recOk_iff {k s : Int} {l : List Int} : recOk k s l = true ↔ 1 ≤ k ∧ k ≤ 5 ∧ 0 ≤ s ∧ s ≤ 4611686018427387903 ∧ l.length ≤ 4096 := by simp [recOk, and_assoc]
def recHead (k s n : Int) : List Int := leB 4 1196184151 ++ (leB 2 k.toNat ++ (leB 2 n.toNat ++ (leB 8 s.toNat ++ [])))
theorem recHead_length (k s n : Int) : (recHead k s n).length = 16 := by simp [recHead, leB_length]
theorem recHead_byte (k s n : Int) : byteB (recHead k s n) = true := by
  unfold recHead
  rw [byteB_append, byteB_append, byteB_append, byteB_append, leB_byte, leB_byte, leB_byte, leB_byte]
  rfl
theorem recHead_pack {n0 k n s : Int} (h : ∃ r, packP recForm [n0, k, n, s] = some r) : 0 ≤ n0 → n0 < 4294967296 ∧ k < 65536 ∧ n < 65536 := by
  intro h0
  obtain ⟨r, h⟩ := h
  rw [recForm, packP, packP, packP] at h
  split at h
  case isFalse => cases h
  rename_i h1
  split at h
  case isFalse => cases h
  rename_i h2
  split at h
  case isFalse => cases h
  rename_i h3
  rw [show letS 119 = 4 from by decide, fits_4] at h1
  rw [show letS 104 = 2 from by decide, fits_2] at h2 h3
  exact ⟨of_decide_eq_true h1, of_decide_eq_true h2, of_decide_eq_true h3⟩
theorem packP_rec {n0 k n s : Int} (h0 : n0 < 4294967296) (hk : k < 65536) (hn : n < 65536) (hs : s < 18446744073709551616) : packP recForm [n0, k, n, s] = some (leB 4 n0.toNat ++ (leB 2 k.toNat ++ (leB 2 n.toNat ++ (leB 8 s.toNat ++ [])))) := by
  rw [recForm, packP, packP, packP, packP, packP]
  rw [show letS 119 = 4 from by decide, show letS 104 = 2 from by decide, show letS 113 = 8 from by decide]
  rw [if_pos (by rw [fits_4]; exact decide_eq_true h0), if_pos (by rw [fits_2]; exact decide_eq_true hk), if_pos (by rw [fits_2]; exact decide_eq_true hn), if_pos (fits_8 hs)]
  rfl
def recB (k s : Int) (l : List Int) : List Int := seal4 (recHead k s (l.length : Int) ++ l)
theorem recB_length (k s : Int) (l : List Int) : (recB k s l).length = l.length + 20 := by rw [recB, seal4_length, List.length_append, recHead_length]; omega
theorem recB_byte {k s : Int} {l : List Int} (h : byteB l = true) : byteB (recB k s l) = true := by
  rw [recB]
  exact seal4_byte (by rw [byteB_append, recHead_byte, h]; rfl)
def rwriteS (k s : Int) (l : List Int) : List Int × Int := if recOk k s l = true then (recB k s l, 0) else ([], 50)
def byN (b : List Int) (i k : Nat) : Int := ((leN (nats ((b.drop i).take k)) : Nat) : Int)
theorem byN_at (p r : List Int) (k n : Nat) : byN (p ++ (leB k n ++ r)) p.length k = ((n % 256 ^ k : Nat) : Int) := by
  rw [byN, List.drop_left, List.take_left' (leB_length k n), leN_leB]
def rreadS (b : List Int) : Int × Int × List Int × Int × Int :=
  if recOk (byN b 4 2) (byN b 8 8) ((b.drop 16).take (byN b 6 2).toNat) = true ∧ b.take ((byN b 6 2).toNat + 20) = recB (byN b 4 2) (byN b 8 8) ((b.drop 16).take (byN b 6 2).toNat) then (byN b 4 2, byN b 8 8, (b.drop 16).take (byN b 6 2).toNat, (((b.drop 16).take (byN b 6 2).toNat).length : Int) + 20, 0) else (0, 0, [], 0, 50)
theorem recB_parts (k s : Int) (l t : List Int) : recB k s l ++ t = leB 4 1196184151 ++ (leB 2 k.toNat ++ (leB 2 l.length ++ (leB 8 s.toNat ++ (l ++ (leB 4 (sum (nats (recHead k s (l.length : Int) ++ l))) ++ t))))) := by
  rw [recB, seal4, recHead, Int.toNat_natCast]
  simp only [List.append_assoc, List.append_nil]
theorem rreadS_write {k s : Int} {l : List Int} (t : List Int) (h : recOk k s l = true) : rreadS (recB k s l ++ t) = (k, s, l, (l.length : Int) + 20, 0) := by
  obtain ⟨h1, h2, h3, h4, h5⟩ := recOk_iff.1 h
  have e4 : byN (recB k s l ++ t) 4 2 = k := by
    rw [recB_parts]
    have := byN_at (leB 4 1196184151) (leB 2 l.length ++ (leB 8 s.toNat ++ (l ++ (leB 4 (sum (nats (recHead k s (l.length : Int) ++ l))) ++ t)))) 2 k.toNat
    rw [leB_length] at this
    rw [this]
    omega
  have e6 : byN (recB k s l ++ t) 6 2 = (l.length : Int) := by
    rw [recB_parts]
    have := byN_at (leB 4 1196184151 ++ leB 2 k.toNat) (leB 8 s.toNat ++ (l ++ (leB 4 (sum (nats (recHead k s (l.length : Int) ++ l))) ++ t))) 2 l.length
    rw [List.length_append, leB_length, leB_length, List.append_assoc] at this
    rw [this]
    omega
  have e8 : byN (recB k s l ++ t) 8 8 = s := by
    rw [recB_parts]
    have := byN_at (leB 4 1196184151 ++ leB 2 k.toNat ++ leB 2 l.length) (l ++ (leB 4 (sum (nats (recHead k s (l.length : Int) ++ l))) ++ t)) 8 s.toNat
    rw [List.length_append, List.length_append, leB_length, leB_length, leB_length, List.append_assoc, List.append_assoc] at this
    rw [this]
    omega
  have e16 : ((recB k s l ++ t).drop 16).take l.length = l := by
    rw [recB, seal4]
    rw [List.append_assoc, List.append_assoc, List.drop_left' (recHead_length _ _ _), List.take_left]
  unfold rreadS
  rw [e4, e6, e8, Int.toNat_natCast, e16, if_pos ⟨h, by rw [show l.length + 20 = (recB k s l).length from (recB_length k s l).symm, List.take_left]⟩]
theorem rreadS_ok {b l : List Int} {k s n : Int} (h : rreadS b = (k, s, l, n, 0)) : recOk k s l = true ∧ b = recB k s l ++ b.drop (l.length + 20) ∧ n = (l.length : Int) + 20 := by
  unfold rreadS at h
  split at h
  case isFalse => simp at h
  rename_i hh
  obtain ⟨ho, hb⟩ := hh
  simp only [Prod.mk.injEq, and_true] at h
  obtain ⟨e1, e2, e3, e4⟩ := h
  obtain ⟨m, hm⟩ : ∃ m, m = (byN b 6 2).toNat := ⟨_, rfl⟩
  rw [← hm] at ho hb e3 e4
  rw [e1, e2] at ho hb
  have hl := congrArg List.length hb
  rw [recB_length, List.length_take, List.length_take, List.length_drop] at hl
  have hlen : l.length = m := by rw [← e3, List.length_take, List.length_drop]; omega
  rw [e3] at ho hb e4
  refine ⟨ho, ?_, e4.symm⟩
  rw [hlen, ← hb, List.take_append_drop]
theorem rreadS_cases (b : List Int) : (∃ k s l t, recOk k s l = true ∧ b = recB k s l ++ t ∧ rreadS b = (k, s, l, (l.length : Int) + 20, 0)) ∨ ((∀ k s l t, recOk k s l = true → b ≠ recB k s l ++ t) ∧ rreadS b = (0, 0, [], 0, 50)) := by
  by_cases hh : ∃ k s l t, recOk k s l = true ∧ b = recB k s l ++ t
  · obtain ⟨k, s, l, t, h, rfl⟩ := hh
    exact .inl ⟨k, s, l, t, h, rfl, rreadS_write t h⟩
  · refine .inr ⟨fun k s l t h e => hh ⟨k, s, l, t, h, e⟩, ?_⟩
    have hn : ∀ k s l n, rreadS b ≠ (k, s, l, n, 0) := fun k s l n h => by
      obtain ⟨ho, hb, _⟩ := rreadS_ok h
      exact hh ⟨k, s, l, _, ho, hb⟩
    unfold rreadS at hn ⊢
    split
    · rename_i hc
      rw [if_pos hc] at hn
      exact absurd rfl (hn _ _ _ _)
    · rfl
theorem byteB_take {b : List Int} (h : byteB b = true) (n : Nat) : byteB (b.take n) = true := byteB_iff.2 fun x hx => byteB_iff.1 h x (List.mem_of_mem_take hx)
theorem byteB_drop {b : List Int} (h : byteB b = true) (n : Nat) : byteB (b.drop n) = true := byteB_iff.2 fun x hx => byteB_iff.1 h x (List.mem_of_mem_drop hx)
theorem unpackP_total : ∀ (f b : List Int), (∀ c ∈ f, okS (letS c) = true) → formL f ≤ b.length → ∃ l, unpackP f b = some (l, b.drop (formL f))
  | [], b, _, _ => ⟨[], rfl⟩
  | c :: f, b, hf, hl => by
    have ho := hf c List.mem_cons_self
    have hk := okS_le ho
    rw [formL] at hl
    obtain ⟨l, h⟩ := unpackP_total f (b.drop (letS c).toNat) (fun x hx => hf x (List.mem_cons_of_mem _ hx)) (by rw [List.length_drop]; omega)
    refine ⟨((leN (nats (b.take (letS c).toNat)) : Nat) : Int) :: l, ?_⟩
    rw [unpackP, if_pos ⟨ho, by omega⟩, h, Option.map_some, List.drop_drop, formL]
theorem unpack_head {b : List Int} (hb : byteB b = true) (h16 : 16 ≤ b.length) : ∃ n0 n1 n2 n3, unpackS recForm (b.take 16) = ([n0, n1, n2, n3], 0) ∧ 0 ≤ n0 ∧ 0 ≤ n1 ∧ n1 < 65536 ∧ 0 ≤ n2 ∧ n2 < 65536 ∧ 0 ≤ n3 ∧ n3 < 18446744073709551616 ∧ (n0 = 1196184151 → recHead n1 n3 n2 = b.take 16) := by
  have hz : formL recForm = 16 := by decide
  have hlen : (b.take 16).length = 16 := by rw [List.length_take]; omega
  obtain ⟨l, hl⟩ := unpackP_total recForm (b.take 16) (by decide) (by rw [hz, hlen]; exact Nat.le_refl _)
  rw [hz, List.drop_eq_nil_of_le (by rw [hlen]; exact Nat.le_refl _)] at hl
  have h4 := unpackP_length hl
  obtain ⟨n0, n1, n2, n3, rfl⟩ : ∃ n0 n1 n2 n3, l = [n0, n1, n2, n3] := by
    match l, h4 with
    | [a, b, c, d], _ => exact ⟨a, b, c, d, rfl⟩
  obtain ⟨r, hr, hbr, hu⟩ := pack_unpack (byteB_take hb 16) hl
  rw [List.append_nil] at hbr
  have q0 := u64B_iff.1 hu n0 (by simp)
  have q1 := u64B_iff.1 hu n1 (by simp)
  have q2 := u64B_iff.1 hu n2 (by simp)
  have q3 := u64B_iff.1 hu n3 (by simp)
  obtain ⟨p0, p1, p2⟩ := recHead_pack ⟨r, hr⟩ q0.1
  refine ⟨n0, n1, n2, n3, unpackS_some hl, q0.1, q1.1, p1, q2.1, p2, q3.1, q3.2, ?_⟩
  rintro rfl
  rw [packP_rec p0 p1 p2 q3.2] at hr
  injection hr with hr
  rw [hbr, ← hr]
  rfl
theorem unpack_rec {k s : Int} {l : List Int} (t : List Int) (h : recOk k s l = true) : unpackS recForm ((recB k s l ++ t).take 16) = ([1196184151, k, (l.length : Int), s], 0) := by
  obtain ⟨h1, h2, h3, h4, h5⟩ := recOk_iff.1 h
  have e : (recB k s l ++ t).take 16 = recHead k s (l.length : Int) := by
    rw [recB, seal4, List.append_assoc, List.append_assoc, List.take_left' (recHead_length _ _ _)]
  have hp := packP_rec (n0 := 1196184151) (k := k) (n := (l.length : Int)) (s := s) (by decide) (by omega) (by omega) (by omega)
  have hu : u64B [1196184151, k, (l.length : Int), s] = true := u64B_iff.2 (by
    intro x hx
    simp only [List.mem_cons, List.not_mem_nil, or_false] at hx
    omega)
  have := unpack_pack [] hu hp
  rw [List.append_nil] at this
  rw [e]
  exact unpackS_some this
def scanG : Nat → List Int → Nat → List (Int × Int × List Int) × List Int
  | 0, _, _ => ([], [])
  | d + 1, b, i => if (rreadS b).2.2.2.2 = 0 then (((rreadS b).1, (rreadS b).2.1, (rreadS b).2.2.1) :: (scanG d (b.drop (rreadS b).2.2.2.1.toNat) (i + ((rreadS b).2.2.1.length + 20))).1, (i : Int) :: (scanG d (b.drop (rreadS b).2.2.2.1.toNat) (i + ((rreadS b).2.2.1.length + 20))).2) else ([], [])
def scanS (b : List Int) : List (Int × Int × List Int) × List Int := scanG (b.length + 1) b 0
end Go.Proofs.Ytcemlfkboifncaa.Pl
