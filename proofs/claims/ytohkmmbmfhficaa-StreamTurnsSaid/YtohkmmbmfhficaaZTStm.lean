/- Words and walks that this claim names, of those that the kit's print and programs of this workplace have printed. -/
import Derived.Test.YtohkmmbmfhficaaZTFrm
import Derived.Test.YtohkmmbmfhficaaZTExtc
set_option linter.unusedVariables false
namespace Go.Proofs.Ytohkmmbmfhficaa.Pl
abbrev Stm := Int × Int × Int × List Ext
def stZ : Stm := (0, 0, 0, [])
def behind (p : Option Ext) (x : Ext) : Bool := match p with
  | none => decide (0 ≤ x.1)
  | some w => decide (w.1 + w.2.1 ≤ x.1) && !joinsB w.1 w.2.1 w.2.2.1 w.2.2.2.1 w.2.2.2.2 x.1 x.2.1 x.2.2.1 x.2.2.2.1 x.2.2.2.2
def stOne (p : Option Ext) (x : Ext) : Bool := eOk x && (decide (x.2.2.2.1 = 0) && (behind p x && !zerS x.2.2.2.2))
def stGo (B : Int) : Option Ext → List Ext → Bool
  | none, [] => true
  | some w, [] => decide (w.1 + w.2.1 ≤ B)
  | p, x :: l => stOne p x && stGo B (some x) l
def stOk (B P T : Int) (L : List Ext) : Bool := decide (1 ≤ B ∧ B ≤ 64 ∧ 1 ≤ T ∧ T ≤ 2147483647 ∧ 0 ≤ P ∧ P < T ∧ L.length ≤ 64) && stGo B none L
theorem stGo_nil (B : Int) (p : Option Ext) : stGo B p [] = match p with | none => true | some w => decide (w.1 + w.2.1 ≤ B) := by cases p <;> rfl
theorem stGo_cons (B : Int) (p : Option Ext) (x : Ext) (l : List Ext) : stGo B p (x :: l) = (stOne p x && stGo B (some x) l) := by cases p <;> rfl
def chunks (a n : Int) (d : List Int) : List Frm := if 16 < n then (2, a, 16, d.take 512, 0, 0, 0) :: chunks (a + 16) (n - 16) (d.drop 512) else [(2, a, n, d, 0, 0, 0)]
termination_by n.toNat
decreasing_by omega
theorem chunks_far {a n : Int} {d : List Int} (h : 16 < n) : chunks a n d = (2, a, 16, d.take 512, 0, 0, 0) :: chunks (a + 16) (n - 16) (d.drop 512) := by rw [chunks, if_pos h]
theorem chunks_last {a n : Int} {d : List Int} (h : ¬ 16 < n) : chunks a n d = [(2, a, n, d, 0, 0, 0)] := by rw [chunks, if_neg h]
def exF (x : Ext) : List Frm := if x.2.2.1 = 2 then chunks x.1 x.2.1 x.2.2.2.2 else [(4 - x.2.2.1, x.1, x.2.1, x.2.2.2.2, 0, 0, 0)]
def exsF : List Ext → List Frm
  | [] => []
  | x :: l => exF x ++ exsF l
theorem exsF_append : ∀ (l m : List Ext), exsF (l ++ m) = exsF l ++ exsF m
  | [], m => rfl
  | x :: l, m => by rw [List.cons_append, exsF, exsF, exsF_append l m, List.append_assoc]
theorem exsF_snoc (l : List Ext) (x : Ext) : exsF (l ++ [x]) = exsF l ++ exF x := by rw [exsF_append, exsF, exsF, List.append_nil]
def fsB : List Frm → List Int
  | [] => []
  | f :: l => frWT f ++ fsB l
theorem fsB_append : ∀ (l m : List Frm), fsB (l ++ m) = fsB l ++ fsB m
  | [], m => rfl
  | f :: l, m => by rw [List.cons_append, fsB, fsB, fsB_append l m, List.append_assoc]
theorem fsB_snoc (l : List Frm) (f : Frm) : fsB (l ++ [f]) = fsB l ++ frWT f := by rw [fsB_append, fsB, fsB, List.append_nil]
theorem fsB_byte : ∀ {l : List Frm}, (∀ f ∈ l, byteB f.2.2.2.1 = true) → byteB (fsB l) = true
  | [], _ => rfl
  | f :: l, h => by rw [fsB, byteB_append, frWT, frW_byte (h f List.mem_cons_self), fsB_byte fun x hx => h x (List.mem_cons_of_mem _ hx)]; rfl
def stH (B P T : Int) : Frm := (1, 0, 0, [], B, P, T)
def stE (many : Nat) (b : List Int) : Frm := (5, 0, 0, [], (many : Int), ((sum (nats b) : Nat) : Int), 0)
def stF (B P T : Int) (L : List Ext) : List Frm := stH B P T :: exsF L
def stW (B P T : Int) (L : List Ext) : List Int := fsB (stF B P T L) ++ frWT (stE (stF B P T L).length (fsB (stF B P T L)))
def swriteS (B P T : Int) (L : List Ext) : List Int × Int := if stOk B P T L = true then (stW B P T L, 0) else ([], 170)
def exOf (f : Frm) : Ext := (f.2.1, f.2.2.1, 4 - f.1, 0, f.2.2.2.1)
def stepS (B : Int) (L : List Ext) (f : Frm) : Option (List Ext) :=
  if f.2.1 + f.2.2.1 > B then none else match L.getLast? with
    | none => some [exOf f]
    | some w => if joinsB w.1 w.2.1 w.2.2.1 w.2.2.2.1 w.2.2.2.2 f.2.1 f.2.2.1 (4 - f.1) 0 f.2.2.2.1 = true then
        (if f.1 = 2 ∧ w.2.1 % 16 = 0 then some (L.dropLast ++ [(w.1, w.2.1 + f.2.2.1, w.2.2.1, w.2.2.2.1, w.2.2.2.2 ++ f.2.2.2.1)]) else none)
      else if w.1 + w.2.1 ≤ f.2.1 then some (L ++ [exOf f]) else none
theorem stepS_nil (B : Int) (f : Frm) : stepS B [] f = if f.2.1 + f.2.2.1 > B then none else some [exOf f] := rfl
theorem stepS_snoc (B : Int) (L : List Ext) (w : Ext) (f : Frm) : stepS B (L ++ [w]) f = if f.2.1 + f.2.2.1 > B then none else
    if joinsB w.1 w.2.1 w.2.2.1 w.2.2.2.1 w.2.2.2.2 f.2.1 f.2.2.1 (4 - f.1) 0 f.2.2.2.1 = true then
      (if f.1 = 2 ∧ w.2.1 % 16 = 0 then some (L ++ [(w.1, w.2.1 + f.2.2.1, w.2.2.1, w.2.2.2.1, w.2.2.2.2 ++ f.2.2.2.1)]) else none)
    else if w.1 + w.2.1 ≤ f.2.1 then some (L ++ [w] ++ [exOf f]) else none := by
  rw [stepS, List.getLast?_append, List.getLast?_singleton, Option.some_or, List.dropLast_concat]
def begL : Nat → Stm → Nat → List Int → List Int → Stm × Int
  | 0, _, _, _, _ => (stZ, 170)
  | k + 1, s, many, pre, b =>
    if (freadS b).2.2 = 161 then (s, 161)
    else if ¬ (freadS b).2.2 = 0 then (stZ, 170)
    else if ¬ ((freadS b).1.1 = 1 ↔ many = 0) then (stZ, 170)
    else if (freadS b).1.1 = 1 then begL k ((freadS b).1.2.2.2.2.1, (freadS b).1.2.2.2.2.2.1, (freadS b).1.2.2.2.2.2.2, []) (many + 1) (pre ++ b.take (freadS b).2.1.toNat) (b.drop (freadS b).2.1.toNat)
    else if (freadS b).1.1 = 5 then (if (freadS b).1.2.2.2.2.1 = (many : Int) ∧ (freadS b).1.2.2.2.2.2.1 = ((sum (nats pre) : Nat) : Int) ∧ (freadS b).2.1 = (b.length : Int) then (s, 0) else (stZ, 170))
    else match stepS s.1 s.2.2.2 (freadS b).1 with
      | none => (stZ, 170)
      | some L => begL k (s.1, s.2.1, s.2.2.1, L) (many + 1) (pre ++ b.take (freadS b).2.1.toNat) (b.drop (freadS b).2.1.toNat)
def beginS (b : List Int) : Stm × Int := if b.length > 4000 then (stZ, 170) else begL (b.length + 1) stZ 0 [] b
def sreadS (b : List Int) : Stm × Int := if (beginS b).2 = 0 then beginS b else (stZ, 170)
def adv (s : Stm) (many : Nat) (f : Frm) : Option Stm :=
  if ¬ (f.1 = 1 ↔ many = 0) then none else if f.1 = 1 then some (f.2.2.2.2.1, f.2.2.2.2.2.1, f.2.2.2.2.2.2, [])
  else (stepS s.1 s.2.2.2 f).map fun L => (s.1, s.2.1, s.2.2.1, L)
theorem begL_frame {k : Nat} {s : Stm} {many : Nat} {pre : List Int} {f : Frm} (r : List Int) (h : frOkT f = true) (h5 : f.1 ≠ 5) :
    begL (k + 1) s many pre (frWT f ++ r) = match adv s many f with | none => (stZ, 170) | some t => begL k t (many + 1) (pre ++ frWT f) r := by
  obtain ⟨k0, a, n, d, A, B, C⟩ := f
  have hr := freadS_write r (show frOk k0 a n d A B C = true from h)
  rw [begL, show frWT (k0, a, n, d, A, B, C) ++ r = frW k0 a n d A B C ++ r from rfl, hr]
  dsimp only
  rw [if_neg (by decide), if_neg (by decide), Int.toNat_natCast, List.take_left, List.drop_left, adv]
  dsimp only at h5 ⊢
  by_cases h1 : k0 = 1 ↔ many = 0
  ·rw [if_neg (show ¬¬(k0 = 1 ↔ many = 0) from fun e => e h1), if_neg (show ¬¬(k0 = 1 ↔ many = 0) from fun e => e h1)]
   by_cases e1 : k0 = 1
   ·rw [if_pos e1, if_pos e1]; rfl
   rw [if_neg e1, if_neg e1, if_neg h5]
   cases stepS s.1 s.2.2.2 (k0, a, n, d, A, B, C) <;> rfl
  rw [if_pos h1, if_pos h1]
theorem begL_end {k : Nat} {s : Stm} {many : Nat} {pre : List Int} {A C : Int} (r : List Int) (h : frOk 5 0 0 [] A C 0 = true) :
    begL (k + 1) s many pre (frW 5 0 0 [] A C 0 ++ r) = if ¬ many = 0 ∧ A = (many : Int) ∧ C = ((sum (nats pre) : Nat) : Int) ∧ r = [] then (s, 0) else (stZ, 170) := by
  have hr := freadS_write r h
  rw [begL, hr]
  dsimp only
  rw [if_neg (by decide), if_neg (by decide)]
  by_cases hm : many = 0
  ·rw [if_pos (by simp [hm]), if_neg (fun e => e.1 hm)]
  rw [if_neg (by simp [hm]), if_neg (by decide), if_pos rfl, List.length_append]
  by_cases hrn : r = []
  ·subst hrn
   by_cases hh : A = (many : Int) ∧ C = ((sum (nats pre) : Nat) : Int)
   ·rw [if_pos ⟨hh.1, hh.2, by simp⟩, if_pos ⟨hm, hh.1, hh.2, rfl⟩]
   rw [if_neg (fun e => hh ⟨e.1, e.2.1⟩), if_neg (fun e => hh ⟨e.2.1, e.2.2.1⟩)]
  have : r.length ≠ 0 := fun e => hrn (List.eq_nil_of_length_eq_zero e)
  rw [if_neg (fun e => by have := e.2.2; omega), if_neg (fun e => hrn e.2.2.2)]
def advs : Stm → Nat → List Frm → Option Stm
  | s, _, [] => some s
  | s, many, f :: l => (adv s many f).bind fun t => advs t (many + 1) l
theorem advs_append : ∀ (l m : List Frm) (s : Stm) (many : Nat), advs s many (l ++ m) = (advs s many l).bind fun t => advs t (many + l.length) m
  | [], m, s, many => rfl
  | f :: l, m, s, many => by
    rw [List.cons_append, advs, advs]
    rcases adv s many f with _ | t
    ·rfl
    rw [Option.bind_some, Option.bind_some, advs_append l m t (many + 1), List.length_cons, show many + 1 + l.length = many + (l.length + 1) by omega]
theorem begL_frames : ∀ (l : List Frm) (k : Nat) (s : Stm) (many : Nat) (pre r : List Int), (∀ f ∈ l, frOkT f = true ∧ f.1 ≠ 5) →
    begL (k + l.length) s many pre (fsB l ++ r) = match advs s many l with | none => (stZ, 170) | some t => begL k t (many + l.length) (pre ++ fsB l) r
  | [], k, s, many, pre, r, _ => by rw [fsB, List.nil_append, List.append_nil]; rfl
  | f :: l, k, s, many, pre, r, h => by
    obtain ⟨h1, h2⟩ := h f List.mem_cons_self
    rw [fsB, List.append_assoc, List.length_cons, ← Nat.add_assoc, begL_frame _ h1 h2, advs]
    rcases adv s many f with _ | t
    ·rfl
    rw [Option.bind_some]
    dsimp only
    rw [begL_frames l k t (many + 1) (pre ++ frWT f) r fun x hx => h x (List.mem_cons_of_mem _ hx), show many + 1 + l.length = many + (l.length + 1) by omega, List.append_assoc]
theorem begL_fuel : ∀ (k j : Nat) (s : Stm) (many : Nat) (pre b : List Int), b.length < k → b.length < j → begL k s many pre b = begL j s many pre b
  | 0, _, _, _, _, _, h, _ => absurd h (Nat.not_lt_zero _)
  | _ + 1, 0, _, _, _, _, _, h => absurd h (Nat.not_lt_zero _)
  | k + 1, j + 1, s, many, pre, b, hk, hj => by
    rcases freadS_cases b with ⟨k0, a, n, d, A, B, C, r, ho, hb, hr⟩ | ⟨-, hr | hr⟩
    ·have h9 := frW_le ho
     have hl : r.length + 9 ≤ b.length := by rw [hb, List.length_append]; omega
     by_cases h5 : k0 = 5
     ·subst h5
      obtain ⟨-, rfl, rfl, rfl, -, -, -, -, rfl⟩ : 5 = 5 ∧ a = 0 ∧ n = 0 ∧ d = [] ∧ 1 ≤ A ∧ A ≤ 65535 ∧ 0 ≤ B ∧ B ≤ 4294967295 ∧ C = 0 := by
        rcases frOk_iff.1 ho with q | q | q | q
        ·omega
        ·omega
        ·omega
        ·exact ⟨rfl, by omega, by omega, q.2.2.2.1, by omega, by omega, by omega, by omega, by omega⟩
      rw [hb, begL_end r ho, begL_end r ho]
     rw [hb]
     have e := begL_frame (k := k) (s := s) (many := many) (pre := pre) (f := (k0, a, n, d, A, B, C)) r ho h5
     have e' := begL_frame (k := j) (s := s) (many := many) (pre := pre) (f := (k0, a, n, d, A, B, C)) r ho h5
     rw [show frWT (k0, a, n, d, A, B, C) = frW k0 a n d A B C from rfl] at e e'
     rw [e, e']
     rcases adv s many (k0, a, n, d, A, B, C) with _ | t
     ·rfl
     exact begL_fuel k j t _ _ r (by omega) (by omega)
    ·rw [begL, begL, hr]; rfl
    ·rw [begL, begL, hr]; rfl
end Go.Proofs.Ytohkmmbmfhficaa.Pl
