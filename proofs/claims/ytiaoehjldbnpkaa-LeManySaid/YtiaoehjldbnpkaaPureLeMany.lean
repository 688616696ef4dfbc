/- For any numbers the law's answer is true: numbers that are packed behind one another are taken one by one. -/
import Derived.Test.YtiaoehjldbnpkaaPBx36
import Derived.Test.YtiaoehjldbnpkaaPackP
import Derived.Test.YtiaoehjldbnpkaaStr
namespace Go.Proofs.Ytiaoehjldbnpkaa.Pure
open Go.RowKit Go.Proofs.Ytiaoehjldbnpkaa.PB Go.Proofs.YtiaoehjldbnpkaaW.PrintWords Go.Proofs.YtiaoehjldbnpkaaW.PrintLast
set_option linter.unusedVariables false

def many8 : List Int → List Int
  | [] => []
  | n :: l => Pl.leB 8 n.toNat ++ many8 l
theorem many8_length : ∀ l, (many8 l).length = 8 * l.length
  | [] => rfl
  | n :: l => by rw [many8, List.length_append, Pl.leB_length, many8_length l, List.length_cons]; omega
theorem many8_byte : ∀ l, Pl.byteB (many8 l) = true
  | [] => rfl
  | n :: l => by rw [many8, Pl.byteB_append, Pl.leB_byte, many8_byte l]; rfl
theorem many_packP : ∀ l : List Int, Pl.u64B l = true → Pl.packP (List.replicate l.length 113) l = some (many8 l)
  | [], _ => rfl
  | n :: l, h => by
    have hn := Pl.u64B_iff.1 h n List.mem_cons_self
    have hl : Pl.u64B l = true := Pl.u64B_iff.2 fun x hx => Pl.u64B_iff.1 h x (List.mem_cons_of_mem _ hx)
    have hf : Pl.fits n (Pl.letS 113) = true := by rw [show Pl.letS 113 = 8 from by decide]; exact Pl.fits_8 hn.2
    rw [List.length_cons, List.replicate_succ, Pl.packP, if_pos hf, many_packP l hl, show Pl.letS 113 = 8 from by decide]
    rfl
theorem many_take (l : List Int) (hu : Pl.u64B l = true) (i : Nat) (hi : i < l.length) : Pl.takeS (many8 (l.drop i)) 8 = (rd l (i : Int), many8 (l.drop (i + 1)), 0) := by
  have hn := Pl.u64B_iff.1 hu l[i] (List.getElem_mem hi)
  unfold Pl.takeS
  have hd : (Pl.leB 8 (l[i]).toNat).length = (8 : Int).toNat := Pl.leB_length _ _
  rw [if_pos ⟨by decide, by rw [many8_length, List.length_drop]; omega⟩, List.drop_eq_getElem_cons hi, many8, List.take_left' hd, List.drop_left' hd, Pl.leN_leB, Nat.mod_eq_of_lt (by omega)]
  unfold rd
  rw [Int.toNat_natCast, List.getD_eq_getElem?_getD, List.getElem?_eq_getElem hi, Option.getD_some]
  simp only [Prod.mk.injEq, and_true]
  omega
theorem many_loop1 (l : List Int) (hu : Pl.u64B l = true) (hl : l.length ≤ 40) : ∀ (d k i : Nat), i + d = l.length → d < k → waggonerlaw01_LeMany.l1 k l true (many8 (l.drop i)) (i : Int) = some true
  | 0, k, i, hi, hk => by
    obtain ⟨k, rfl⟩ : ∃ m, k = m + 1 := ⟨k - 1, by omega⟩
    obtain rfl : i = l.length := by omega
    simp only [waggonerlaw01_LeMany.l1]
    rw [if_neg (by omega), List.drop_length, show many8 [] = [] from rfl, show le_Take.f [] 8 = some (0, [], 10) from by kernel_rfl]
    rfl
  | d + 1, k, i, hi, hk => by
    obtain ⟨k, rfl⟩ : ∃ m, k = m + 1 := ⟨k - 1, by omega⟩
    have ht : le_Take.f (many8 (l.drop i)) 8 = some (rd l (i : Int), many8 (l.drop (i + 1)), 0) := by
      unfold le_Take.f
      rw [if_pos ⟨many8_byte _, by rw [many8_length, List.length_drop]; omega⟩, many_take l hu i (by omega)]
    simp only [waggonerlaw01_LeMany.l1]
    rw [if_pos (by omega), ht, Option.bind_some, if_pos rfl, if_pos (by omega), if_pos rfl, if_pos (by rw [many8_length, many8_length, List.length_drop, List.length_drop]; unfold wrap64; omega),
      show wrap64 ((i : Int) + 1) = ((i + 1 : Nat) : Int) from by unfold wrap64; omega]
    exact many_loop1 l hu hl d k (i + 1) (by omega) (by omega)
theorem many_loop0 (l : List Int) (hu : Pl.u64B l = true) (hl : l.length ≤ 40) : ∀ (d k i : Nat) (s : ByteArray), i + d = l.length → d + 50 < k → Pl.fb s = List.replicate i 113 → waggonerlaw01_LeMany.l0 k l true s (i : Int) = some true
  | 0, k, i, s, hi, hk, hs => by
    obtain ⟨k, rfl⟩ : ∃ m, k = m + 1 := ⟨k - 1, by omega⟩
    obtain rfl : i = l.length := by omega
    have hz : s.size = l.length := by rw [← Pl.fb_length, hs, List.length_replicate]
    have hp : le_Pack.f s l = some (many8 l, 0) := by
      unfold le_Pack.f
      rw [if_pos ⟨hu, by omega⟩, hs, Pl.packS_some (many_packP l hu)]
    simp only [waggonerlaw01_LeMany.l0]
    rw [if_neg (by omega), hp, Option.bind_some, if_pos rfl, show (((many8 l).length : Int) != wrap64 (8 * (l.length : Int))) = false from by rw [many8_length]; simp only [bne_eq_false_iff_eq]; unfold wrap64; omega]
    obtain ⟨k, rfl⟩ : ∃ m, k = m + 1 := ⟨k - 1, by omega⟩
    simp only [waggonerlaw01_LeMany.j1]
    rw [if_neg (by decide)]
    exact many_loop1 l hu hl l.length k 0 (by omega) (by omega)
  | d + 1, k, i, s, hi, hk, hs => by
    obtain ⟨k, rfl⟩ : ∃ m, k = m + 1 := ⟨k - 1, by omega⟩
    have hz : s.size = i := by rw [← Pl.fb_length, hs, List.length_replicate]
    simp only [waggonerlaw01_LeMany.l0]
    rw [if_pos (by omega), if_pos (by omega), show wrap64 ((i : Int) + 1) = ((i + 1 : Nat) : Int) from by unfold wrap64; omega]
    refine many_loop0 l hu hl d k (i + 1) _ (by omega) (by omega) ?_
    rw [Pl.fb_append, hs, List.replicate_succ']
    rfl
theorem LeMany : waggonerlaw01_LeMany.Pure := by
  intro l _ _ w0
  have hu : Pl.u64B l = true := Pl.u64B_iff.2 fun x hx => Pl.wf_u64 (w0 x hx)
  refine ⟨200, ?_⟩
  unfold waggonerlaw01_LeMany.f waggonerlaw01_awake.f
  rw [Option.bind_some]
  by_cases c : (l.length : Int) > 40
  · rw [if_pos c]
  · rw [if_neg c]
    exact many_loop0 l hu (by omega) l.length 200 0 _ (by omega) (by omega) (by kernel_rfl)
end Go.Proofs.Ytiaoehjldbnpkaa.Pure
