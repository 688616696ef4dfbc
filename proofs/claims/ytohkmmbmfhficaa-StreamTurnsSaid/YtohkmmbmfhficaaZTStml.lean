/- Words and walks that this claim names, of those that the kit's print and programs of this workplace have printed. -/
import Derived.Test.YtohkmmbmfhficaaZTStm
set_option linter.unusedVariables false
namespace Go.Proofs.Ytohkmmbmfhficaa.Pl
theorem nil_or_snoc {α : Type} (l : List α) : l = [] ∨ ∃ m x, l = m ++ [x] := by
  cases h : l.reverse with
  | nil => exact .inl (List.reverse_eq_nil_iff.1 h)
  | cons x m => exact .inr ⟨m.reverse, x, by rw [← List.reverse_reverse l, h, List.reverse_cons]⟩
def lastO (p : Option Ext) (L : List Ext) : Option Ext := match L.getLast? with | some w => some w | none => p
theorem lastO_nil (p : Option Ext) : lastO p [] = p := rfl
theorem lastO_snoc (p : Option Ext) (L : List Ext) (w : Ext) : lastO p (L ++ [w]) = some w := by
  rw [lastO, List.getLast?_append, List.getLast?_singleton, Option.some_or]
theorem lastO_cons (p : Option Ext) (x : Ext) (L : List Ext) : lastO p (x :: L) = lastO (some x) L := by
  rcases nil_or_snoc L with rfl | ⟨m, y, rfl⟩
  · rfl
  · rw [← List.cons_append, lastO_snoc, lastO_snoc]
theorem stOne_iff {p : Option Ext} {x : Ext} : stOne p x = true ↔ eOk x = true ∧ x.2.2.2.1 = 0 ∧ behind p x = true ∧ zerS x.2.2.2.2 = false := by
  rw [stOne, Bool.and_eq_true, Bool.and_eq_true, Bool.and_eq_true, decide_eq_true_eq, Bool.not_eq_true']
theorem stOne_len {p : Option Ext} {x : Ext} (h : stOne p x = true) : 0 ≤ x.1 ∧ x.1 ≤ 64 ∧ 1 ≤ x.2.1 ∧ x.2.1 ≤ 64 - x.1 := by
  have := extOk_iff.1 (show extOk x.1 x.2.1 x.2.2.1 x.2.2.2.1 x.2.2.2.2 = true from (stOne_iff.1 h).1)
  omega
theorem behind_end {w x : Ext} (h : behind (some w) x = true) : w.1 + w.2.1 ≤ x.1 := by
  rw [behind, Bool.and_eq_true, decide_eq_true_eq] at h
  exact h.1
theorem stGo_snoc (B : Int) : ∀ (L : List Ext) (p : Option Ext) (x : Ext), stGo B p (L ++ [x]) = true ↔ stGo B p L = true ∧ stOne (lastO p L) x = true ∧ x.1 + x.2.1 ≤ B
  | [], p, x => by
    rw [List.nil_append, stGo_cons, stGo_nil, stGo_nil, lastO_nil, Bool.and_eq_true, decide_eq_true_eq]
    constructor
    ·rintro ⟨h1, h2⟩
     refine ⟨?_, h1, h2⟩
     rcases p with _ | w
     ·rfl
     have := behind_end (stOne_iff.1 h1).2.2.1
     have := stOne_len h1
     exact decide_eq_true (by omega)
    ·rintro ⟨-, h1, h2⟩; exact ⟨h1, h2⟩
  | y :: L, p, x => by
    rw [List.cons_append, stGo_cons, stGo_cons, Bool.and_eq_true, Bool.and_eq_true, stGo_snoc B L (some y) x, lastO_cons, and_assoc]
theorem stGo_count (B : Int) : ∀ (L : List Ext) (p : Option Ext), stGo B p L = true → 0 ≤ B → (match p with | none => 0 | some w => w.1 + w.2.1) + (L.map fun x => x.2.1).sum ≤ B ∧ (L.length : Int) ≤ (L.map fun x => x.2.1).sum
  | [], p, h, hB => by
    rw [stGo_nil] at h
    rcases p with _ | w
    ·exact ⟨by simpa using hB, by simp⟩
    exact ⟨by simpa using h, by simp⟩
  | x :: L, p, h, hB => by
    rw [stGo_cons, Bool.and_eq_true] at h
    obtain ⟨i1, i2⟩ := stGo_count B L (some x) h.2 hB
    have hx := stOne_len h.1
    have hb := (stOne_iff.1 h.1).2.2.1
    dsimp only at i1
    rw [List.map_cons, List.sum_cons, List.length_cons]
    refine ⟨?_, by push_cast; omega⟩
    rcases p with _ | w
    ·show 0 + _ ≤ B; omega
    have := behind_end hb; show w.1 + w.2.1 + _ ≤ B; omega
theorem stOk_iff {B P T : Int} {L : List Ext} : stOk B P T L = true ↔ (1 ≤ B ∧ B ≤ 64 ∧ 1 ≤ T ∧ T ≤ 2147483647 ∧ 0 ≤ P ∧ P < T) ∧ stGo B none L = true := by
  rw [stOk, Bool.and_eq_true, decide_eq_true_eq]
  constructor
  ·rintro ⟨h1, h2⟩; exact ⟨by omega, h2⟩
  ·rintro ⟨h1, h2⟩
   obtain ⟨i1, i2⟩ := stGo_count B L none h2 (by omega)
   dsimp only at i1
   exact ⟨by omega, h2⟩
theorem zerS_append : ∀ (n : Nat) (l m : List Int), l.length = 32 * n → zerS (l ++ m) = (zerS l || zerS m)
  | 0, l, m, h => by
    obtain rfl : l = [] := List.eq_nil_of_length_eq_zero (by omega)
    rw [List.nil_append, zerS_nil, Bool.false_or]
  | n + 1, l, m, h => by
    have hl : (l ++ m).length = l.length + m.length := List.length_append
    rw [zerS_long (by omega), zerS_long (show ¬ l.length < 32 by omega), List.take_append_of_le_length (by omega), List.drop_append_of_le_length (by omega), zerS_append n (l.drop 32) m (by rw [List.length_drop]; omega), Bool.or_assoc]
theorem chunks_snoc : ∀ (k : Nat) (a n : Int) (d : List Int) (m : Int) (e : List Int), n = 16 * ((k : Int) + 1) → (d.length : Int) = 32 * n → 1 ≤ m → m ≤ 16 → chunks a (n + m) (d ++ e) = chunks a n d ++ [(2, a + n, m, e, 0, 0, 0)]
  | 0, a, n, d, m, e, hn, hd, h1, h2 => by
    rw [chunks_far (by omega), chunks_last (show ¬ 16 < n by omega), chunks_last (show ¬ 16 < n + m - 16 by omega), List.take_left' (by omega), List.drop_left' (by omega), show n + m - 16 = m by omega, show n = 16 by omega]
    rfl
  | k + 1, a, n, d, m, e, hn, hd, h1, h2 => by
    push_cast at hn
    rw [chunks_far (show 16 < n + m by omega), chunks_far (show 16 < n by omega), List.take_append_of_le_length (by omega), List.drop_append_of_le_length (by omega), show n + m - 16 = (n - 16) + m by omega,
      chunks_snoc k (a + 16) (n - 16) (d.drop 512) m e (by omega) (by rw [List.length_drop]; omega) h1 h2, show a + 16 + (n - 16) = a + n by omega]
    rfl
theorem chunks_length : ∀ (k : Nat) (a n : Int) (d : List Int), n.toNat ≤ k → 1 ≤ n → ((chunks a n d).length : Int) = (n + 15) / 16
  | 0, a, n, d, hk, h1 => by omega
  | k + 1, a, n, d, hk, h1 => by
    by_cases h : 16 < n
    ·rw [chunks_far h, List.length_cons]
     have := chunks_length k (a + 16) (n - 16) (d.drop 512) (by omega) (by omega)
     push_cast
     omega
    rw [chunks_last h, List.length_singleton]; omega
theorem chunks_bytes : ∀ (k : Nat) (a n : Int) (d : List Int), n.toNat ≤ k → 1 ≤ n → (d.length : Int) = 32 * n → ((fsB (chunks a n d)).length : Int) = 9 * ((n + 15) / 16) + 32 * n
  | 0, a, n, d, hk, h1, hd => by omega
  | k + 1, a, n, d, hk, h1, hd => by
    have one : ∀ (a n : Int) (d : List Int), (frWT (2, a, n, d, 0, 0, 0)).length = d.length + 9 := fun a n d => by
      rw [frWT]; dsimp only; rw [frW_length, frT_length, if_neg (by decide), if_neg (by decide)]; omega
    by_cases h : 16 < n
    ·rw [chunks_far h, fsB, List.length_append, one, List.length_take]
     have := chunks_bytes k (a + 16) (n - 16) (d.drop 512) (by omega) (by omega) (by rw [List.length_drop]; omega)
     push_cast
     omega
    rw [chunks_last h, fsB, fsB, List.append_nil, one]; push_cast; omega
theorem chunks_ok : ∀ (k : Nat) (a n : Int) (d : List Int), n.toNat ≤ k → extOk a n 2 0 d = true → zerS d = false → ∀ f ∈ chunks a n d, frOkT f = true ∧ f.1 = 2
  | 0, a, n, d, hk, ho, hz => by have := extOk_iff.1 ho; omega
  | k + 1, a, n, d, hk, ho, hz => by
    have q := extOk_iff.1 ho
    rw [if_pos rfl] at q
    by_cases h : 16 < n
    ·have hs := zerS_append 16 (d.take 512) (d.drop 512) (by rw [List.length_take]; omega)
     rw [List.take_append_drop, hz, eq_comm, Bool.or_eq_false_iff] at hs
     rw [chunks_far h]
     intro f hf
     rcases List.mem_cons.1 hf with rfl | hf
     ·refine ⟨?_, rfl⟩
      show frOk 2 a 16 (d.take 512) 0 0 0 = true
      rw [frOk_2, Bool.and_eq_true, decide_eq_true_eq, Bool.not_eq_true']
      refine ⟨?_, hs.1⟩
      rw [List.length_take]
      omega
     refine chunks_ok k (a + 16) (n - 16) (d.drop 512) (by omega) (extOk_iff.2 ?_) hs.2 f hf
     rw [if_pos rfl, List.length_drop]
     omega
    rw [chunks_last h]
    intro f hf
    obtain rfl := List.mem_singleton.1 hf
    refine ⟨?_, rfl⟩
    show frOk 2 a n d 0 0 0 = true
    rw [frOk_2, Bool.and_eq_true, decide_eq_true_eq, Bool.not_eq_true']
    exact ⟨by omega, hz⟩
theorem exF_ok {p : Option Ext} {x : Ext} (h : stOne p x = true) : ∀ f ∈ exF x, frOkT f = true ∧ 2 ≤ f.1 ∧ f.1 ≤ 4 := by
  obtain ⟨a, n, k, g, d⟩ := x
  obtain ⟨ho, hg, -, hz⟩ := stOne_iff.1 h
  dsimp only at hg hz
  subst hg
  have q := extOk_iff.1 (show extOk a n k 0 d = true from ho)
  intro f hf
  rw [exF] at hf
  dsimp only at hf
  by_cases hk : k = 2
  ·subst hk
   rw [if_pos rfl] at hf
   obtain ⟨h1, h2⟩ := chunks_ok n.toNat a n d (Nat.le_refl _) ho hz f hf
   exact ⟨h1, by omega, by omega⟩
  rw [if_neg hk] at hf q
  obtain rfl := List.mem_singleton.1 hf
  refine ⟨?_, show 2 ≤ 4 - k by omega, show 4 - k ≤ 4 by omega⟩
  show frOk (4 - k) a n d 0 0 0 = true
  rw [frOk_3 (show 4 - k = 3 ∨ 4 - k = 4 by omega), decide_eq_true_eq]
  omega
theorem exsF_ok (B : Int) : ∀ (L : List Ext) (p : Option Ext), stGo B p L = true → ∀ f ∈ exsF L, frOkT f = true ∧ 2 ≤ f.1 ∧ f.1 ≤ 4
  | [], p, h => fun f hf => absurd hf List.not_mem_nil
  | x :: L, p, h => by
    rw [stGo_cons, Bool.and_eq_true] at h
    intro f hf
    rw [exsF] at hf
    rcases List.mem_append.1 hf with hf | hf
    ·exact exF_ok h.1 f hf
    exact exsF_ok B L (some x) h.2 f hf
def steps (B : Int) : List Ext → List Frm → Option (List Ext)
  | L, [] => some L
  | L, f :: l => (stepS B L f).bind fun M => steps B M l
theorem steps_one (B : Int) (L : List Ext) (f : Frm) : steps B L [f] = stepS B L f := by
  rw [steps]
  cases stepS B L f <;> rfl
theorem steps_append (B : Int) : ∀ (l m : List Frm) (L : List Ext), steps B L (l ++ m) = (steps B L l).bind fun M => steps B M m
  | [], m, L => rfl
  | f :: l, m, L => by
    rw [List.cons_append, steps, steps]
    rcases stepS B L f with _ | M
    ·rfl
    rw [Option.bind_some, Option.bind_some, steps_append B l m M]
theorem advs_steps : ∀ (l : List Frm) (s : Stm) (many : Nat), 0 < many → (∀ f ∈ l, f.1 ≠ 1) → advs s many l = (steps s.1 s.2.2.2 l).map fun L => (s.1, s.2.1, s.2.2.1, L)
  | [], s, many, _, _ => rfl
  | f :: l, s, many, h0, h => by
    have h1 := h f List.mem_cons_self
    rw [advs, adv, if_neg (fun e => e ⟨fun x => absurd x h1, fun x => by omega⟩), if_neg h1, steps]
    rcases stepS s.1 s.2.2.2 f with _ | M
    ·rfl
    rw [Option.map_some, Option.bind_some, Option.bind_some, advs_steps l _ (many + 1) (by omega) fun x hx => h x (List.mem_cons_of_mem _ hx)]
theorem joinsB_head {w x y : Ext} (hx : eOk x = true) (hy : eOk y = true) (h1 : x.1 = y.1) (h2 : x.2.2.1 = y.2.2.1) (h3 : x.2.2.2.1 = y.2.2.2.1) : joinsB w.1 w.2.1 w.2.2.1 w.2.2.2.1 w.2.2.2.2 x.1 x.2.1 x.2.2.1 x.2.2.2.1 x.2.2.2.2 = joinsB w.1 w.2.1 w.2.2.1 w.2.2.2.1 w.2.2.2.2 y.1 y.2.1 y.2.2.1 y.2.2.2.1 y.2.2.2.2 := by
  have hx' : extOk x.1 x.2.1 x.2.2.1 x.2.2.2.1 x.2.2.2.2 = true := hx
  have hy' : extOk y.1 y.2.1 y.2.2.1 y.2.2.2.1 y.2.2.2.2 = true := hy
  rw [joinsB, joinsB, hx', hy', h1, h2, h3]
theorem behind_head {p : Option Ext} {x y : Ext} (hx : eOk x = true) (hy : eOk y = true) (h1 : x.1 = y.1) (h2 : x.2.2.1 = y.2.2.1) (h3 : x.2.2.2.1 = y.2.2.2.1) : behind p x = behind p y := by
  cases p with
  | none => rw [behind, behind, h1]
  | some w => rw [behind, behind, joinsB_head hx hy h1 h2 h3, h1]
theorem stepS_new {B : Int} {L : List Ext} {f : Frm} (hb : behind (lastO none L) (exOf f) = true) (hB : f.2.1 + f.2.2.1 ≤ B) : stepS B L f = some (L ++ [exOf f]) := by
  rcases nil_or_snoc L with rfl | ⟨L, w, rfl⟩
  ·rw [stepS_nil, if_neg (by omega)]; rfl
  rw [lastO_snoc, behind, Bool.and_eq_true, decide_eq_true_eq, Bool.not_eq_true'] at hb
  rw [stepS_snoc, if_neg (by omega), if_neg (by rw [show joinsB w.1 w.2.1 w.2.2.1 w.2.2.2.1 w.2.2.2.2 f.2.1 f.2.2.1 (4 - f.1) 0 f.2.2.2.1 = false from hb.2]; decide), if_pos (show w.1 + w.2.1 ≤ f.2.1 from hb.1)]
theorem steps_chunks {B : Int} (L : List Ext) : ∀ (k : Nat) (a0 m : Int) (e : List Int) (n : Int) (d : List Int), n.toNat ≤ k → extOk a0 m 2 0 e = true → m % 16 = 0 → 1 ≤ n → extOk a0 (m + n) 2 0 (e ++ d) = true → a0 + m + n ≤ B →
    steps B (L ++ [(a0, m, 2, 0, e)]) (chunks (a0 + m) n d) = some (L ++ [(a0, m + n, 2, 0, e ++ d)])
  | 0, a0, m, e, n, d, hk, ho, hm, hn, hf, hB => by omega
  | k + 1, a0, m, e, n, d, hk, ho, hm, hn, hf, hB => by
    have q := extOk_iff.1 ho
    have q' := extOk_iff.1 hf
    rw [if_pos rfl] at q q'
    rw [List.length_append] at q'
    by_cases h : 16 < n
    ·have hj : joinsB a0 m 2 0 e (a0 + m) 16 (4 - 2) 0 (d.take 512) = true := joinsB_iff.2 ⟨ho, extOk_iff.2 (by rw [if_pos (by decide), List.length_take]; omega), rfl, by decide, rfl⟩
     rw [chunks_far h, steps, stepS_snoc, if_neg (by dsimp only; omega)]
     dsimp only
     rw [if_pos hj, if_pos ⟨rfl, hm⟩, Option.bind_some, show a0 + m + 16 = a0 + (m + 16) by omega,
       steps_chunks L k a0 (m + 16) (e ++ d.take 512) (n - 16) (d.drop 512) (by omega) (extOk_iff.2 (by rw [if_pos rfl, List.length_append, List.length_take]; omega)) (by omega) (by omega) (by
         rw [List.append_assoc, List.take_append_drop, show m + 16 + (n - 16) = m + n by omega]; exact hf) (by omega),
       List.append_assoc, List.take_append_drop, show m + 16 + (n - 16) = m + n by omega]
    have hj : joinsB a0 m 2 0 e (a0 + m) n (4 - 2) 0 d = true := joinsB_iff.2 ⟨ho, extOk_iff.2 (by rw [if_pos (by decide)]; omega), rfl, by decide, rfl⟩
    rw [chunks_last h, steps_one, stepS_snoc, if_neg (by dsimp only; omega)]
    dsimp only
    rw [if_pos hj, if_pos ⟨rfl, hm⟩]
theorem steps_exF {B : Int} {L : List Ext} {x : Ext} (h : stOne (lastO none L) x = true) (hB : x.1 + x.2.1 ≤ B) : steps B L (exF x) = some (L ++ [x]) := by
  obtain ⟨a, n, k, g, d⟩ := x
  obtain ⟨ho, hg, hb, hz⟩ := stOne_iff.1 h
  dsimp only at hg hz hB
  subst hg
  have ho' : extOk a n k 0 d = true := ho
  have q := extOk_iff.1 ho'
  rw [exF]
  dsimp only
  by_cases hk : k = 2
  ·subst hk
   rw [if_pos rfl] at q ⊢
   by_cases h16 : 16 < n
   ·have h1 : extOk a 16 2 0 (d.take 512) = true := extOk_iff.2 (by rw [if_pos rfl, List.length_take]; omega)
    rw [chunks_far h16, steps, stepS_new (f := (2, a, 16, d.take 512, 0, 0, 0)) (by rw [← hb]; exact behind_head h1 ho rfl rfl rfl) (by dsimp only; omega), Option.bind_some]
    have := steps_chunks (B := B) L n.toNat a 16 (d.take 512) (n - 16) (d.drop 512) (by omega) h1 rfl (by omega) (by rw [List.take_append_drop, show 16 + (n - 16) = n by omega]; exact ho') (by omega)
    rw [List.take_append_drop, show 16 + (n - 16) = n by omega] at this
    exact this
   rw [chunks_last h16, steps_one, stepS_new (f := (2, a, n, d, 0, 0, 0)) hb (by dsimp only; omega)]
   rfl
  rw [if_neg hk]
  have e : exOf (4 - k, a, n, d, 0, 0, 0) = (a, n, k, 0, d) := by rw [exOf, show 4 - (4 - k) = k by omega]
  rw [steps_one, stepS_new (f := (4 - k, a, n, d, 0, 0, 0)) (by rw [e]; exact hb) (by dsimp only; omega), e]
theorem steps_exsF {B : Int} : ∀ (l L : List Ext), stGo B none (L ++ l) = true → steps B L (exsF l) = some (L ++ l)
  | [], L, h => by rw [exsF, steps, List.append_nil]
  | x :: l, L, h => by
    have hs : stGo B none (L ++ [x]) = true ∧ True := by
      refine ⟨?_, trivial⟩
      have : ∀ (l : List Ext) (K : List Ext), stGo B none (K ++ l) = true → stGo B none K = true := by
        intro l
        induction l with
        | nil => intro K hK; rwa [List.append_nil] at hK
        | cons y l ih =>
          intro K hK
          rw [show K ++ y :: l = (K ++ [y]) ++ l by simp] at hK
          exact ((stGo_snoc B K none y).1 (ih _ hK)).1
      exact this l (L ++ [x]) (by rwa [List.append_assoc])
    obtain ⟨-, h1, h2⟩ := (stGo_snoc B L none x).1 hs.1
    rw [exsF, steps_append, steps_exF h1 h2, Option.bind_some, steps_exsF l (L ++ [x]) (by rwa [List.append_assoc]), List.append_assoc]
    rfl
theorem stepS_back {B : Int} {L M : List Ext} {f : Frm} (hf : frOkT f = true) (hk : 2 ≤ f.1 ∧ f.1 ≤ 4) (hL : stGo B none L = true) (h : stepS B L f = some M) : stGo B none M = true ∧ exsF M = exsF L ++ [f] := by
  obtain ⟨k, a, n, d, A, B', C⟩ := f
  dsimp only at hk
  have q := frOk_iff.1 (show frOk k a n d A B' C = true from hf)
  have q0 : 0 ≤ a ∧ a ≤ 64 ∧ 1 ≤ n ∧ n ≤ 64 - a ∧ A = 0 ∧ B' = 0 ∧ C = 0 := by omega
  obtain ⟨-, -, -, -, rfl, rfl, rfl⟩ := q0
  have hz : zerS d = false := by
    rcases q with q | q | q | q
    ·omega
    ·exact q.2.2.2.2.2.2.2.2.2.2
    ·rw [q.2.2.2.2.2.2.2.2, zerS_nil]
    ·omega
  have hx : eOk (exOf (k, a, n, d, 0, 0, 0)) = true := by
    show extOk a n (4 - k) 0 d = true
    refine extOk_iff.2 ?_
    rcases q with q | q | q | q
    ·omega
    ·rw [if_pos (by omega)]; omega
    ·rw [if_neg (by omega), q.2.2.2.2.2.2.2.2]; exact ⟨by omega, by omega, by omega, by omega, by omega, by omega, by omega, by omega, rfl⟩
    ·omega
  have h16 : k = 2 → n ≤ 16 ∧ (d.length : Int) = 32 * n := by intro e; omega
  have hone : exF (exOf (k, a, n, d, 0, 0, 0)) = [(k, a, n, d, 0, 0, 0)] := by
    rw [exF, exOf]
    dsimp only
    by_cases h2 : k = 2
    ·rw [if_pos (by omega), chunks_last (by have := h16 h2; omega), h2]
    rw [if_neg (by omega), show 4 - (4 - k) = k by omega]
  have new : a + n ≤ B → behind (lastO none L) (exOf (k, a, n, d, 0, 0, 0)) = true → stGo B none (L ++ [exOf (k, a, n, d, 0, 0, 0)]) = true ∧ exsF (L ++ [exOf (k, a, n, d, 0, 0, 0)]) = exsF L ++ [(k, a, n, d, 0, 0, 0)] := by
    intro hB hb
    refine ⟨(stGo_snoc B L none _).2 ⟨hL, stOne_iff.2 ⟨hx, rfl, hb, hz⟩, hB⟩, ?_⟩
    rw [exsF_snoc, hone]
  rcases nil_or_snoc L with rfl | ⟨L, w, rfl⟩
  ·rw [stepS_nil] at h
   dsimp only at h
   split at h
   ·cases h
   injection h with h
   rw [← h]
   exact new (by omega) (decide_eq_true (show (0 : Int) ≤ a by omega))
  rw [stepS_snoc] at h
  dsimp only at h
  split at h
  ·cases h
  rename_i hB
  split at h
  all_goals
   rename_i hj
   split at h
   case isFalse => cases h
   rename_i hc
  ·obtain ⟨rfl, hm⟩ := hc
   injection h with h
   obtain ⟨h1, h2, h3⟩ := (stGo_snoc B L none w).1 hL
   obtain ⟨a0, m, k0, g0, e⟩ := w
   obtain ⟨o1, o2, o3, o4⟩ := stOne_iff.1 h2
   obtain ⟨j1, j2, j3, j4, j5⟩ := joinsB_iff.1 hj
   dsimp only at o2 o4 hm j1 j2 j3 j4 j5 h
   obtain rfl : k0 = 2 := by omega
   subst o2
   have hok := join_ok hj
   dsimp only at hok
   have q1 := extOk_iff.1 j1
   rw [if_pos rfl] at q1
   obtain ⟨n16, nd⟩ := h16 rfl
   rw [← h]
   refine ⟨(stGo_snoc B L none _).2 ⟨h1, stOne_iff.2 ⟨hok, rfl, ?_, ?_⟩, by dsimp only; omega⟩, ?_⟩
   ·rw [← o3]; exact behind_head hok o1 rfl rfl rfl
   ·dsimp only
    rw [zerS_append m.toNat e d (by omega), o4, hz]; rfl
   ·rw [exsF_snoc, exsF_snoc, List.append_assoc]
    congr 1
    rw [exF, exF]
    dsimp only
    rw [if_pos rfl, if_pos rfl, chunks_snoc (m / 16 - 1).toNat a0 m e n d (by omega) (by omega) (by omega) n16, j3]
  ·injection h with h
   rw [← h]
   refine new (by omega) ?_
   rw [lastO_snoc, behind, Bool.and_eq_true, decide_eq_true_eq, Bool.not_eq_true']
   exact ⟨hc, by rw [Bool.not_eq_true] at hj; exact hj⟩
end Go.Proofs.Ytohkmmbmfhficaa.Pl
