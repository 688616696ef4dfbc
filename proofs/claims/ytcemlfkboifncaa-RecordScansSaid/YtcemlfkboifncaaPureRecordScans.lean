/- For any bytes the law's answer is true: both texts find the same records at the same places. -/
import Derived.Test.YtcemlfkboifncaaPSx58
import Derived.Test.YtcemlfkboifncaaRec
import Derived.Test.YtcemlfkboifncaaStr
namespace Go.Proofs.Ytcemlfkboifncaa.Pure
open Go.RowKit Go.Proofs.Ytcemlfkboifncaa.PS Go.Proofs.YtcemlfkboifncaaW.PrintWords Go.Proofs.YtcemlfkboifncaaW.PrintLast
set_option linter.unusedVariables false
theorem scan_ref (l0 : List Int) (hb : Pl.byteB l0 = true) (hl : l0.length < 1000000000) : ∀ (d k : Nat) (x4 : List S25) (x5 : List Int) (i : Nat), l0.length - i < d → i ≤ l0.length → d < k → x4.length ≤ i → x5.length ≤ i →
    waggonerref05_Scan.l0 k l0 x4 x5 (i : Int) = some (x4 ++ (Pl.scanG d (l0.drop i) i).1.map (fun p => (⟨p.1, p.2.1, p.2.2⟩ : S25)), x5 ++ (Pl.scanG d (l0.drop i) i).2)
  | 0, k, x4, x5, i, h0, hi, hk, h4, h5 => absurd h0 (Nat.not_lt_zero _)
  | d + 1, k, x4, x5, i, h0, hi, hk, h4, h5 => by
    obtain ⟨k, rfl⟩ : ∃ m, k = m + 1 := ⟨k - 1, by omega⟩
    have hbd := Pl.byteB_drop hb i
    simp only [waggonerref05_Scan.l0]
    rw [if_pos (by omega), if_pos (by omega), Int.toNat_natCast, show waggonerref05_Read.f (l0.drop i) = some (Pl.rreadS (l0.drop i)) from by unfold waggonerref05_Read.f; rw [if_pos ⟨hbd, by rw [List.length_drop]; omega⟩], Option.bind_some, Pl.scanG]
    rcases Pl.rreadS_cases (l0.drop i) with ⟨kk, s, l, t, ho, hbe, he⟩ | ⟨hno, he⟩
    · have hlen := congrArg List.length hbe
      rw [List.length_drop, List.length_append, Pl.recB_length] at hlen
      rw [he]
      dsimp only
      rw [if_pos rfl, if_pos (by omega), if_pos (by omega), if_pos rfl, show wrap64 ((i : Int) + ((l.length : Int) + 20)) = ((i + (l.length + 20) : Nat) : Int) from by unfold wrap64; omega,
        scan_ref l0 hb hl d k _ _ (i + (l.length + 20)) (by omega) (by omega) (by omega) (by rw [List.length_append, List.length_singleton]; omega) (by rw [List.length_append, List.length_singleton]; omega)]
      rw [List.drop_drop, show ((l.length : Int) + 20).toNat = l.length + 20 from by omega, List.map_cons, List.append_assoc, List.append_assoc, List.singleton_append, List.singleton_append]
    · rw [he]
      dsimp only
      rw [if_neg (by decide), if_neg (by decide)]
      simp
theorem same_self (k s : Int) (l : List Int) : waggonerref05_Same.f k s l k s l = some true := by
  unfold waggonerref05_Same.f
  rw [if_pos rfl, if_pos rfl]
  simp
theorem all_self (l : List S25) (hl : l.length < 4611686018427387904) : ∀ (d k i : Nat), i + d = l.length → d < k → waggonerref05_All.l0 k l l (i : Int) = some true
  | 0, k, i, hi, hk => by
    obtain ⟨k, rfl⟩ : ∃ m, k = m + 1 := ⟨k - 1, by omega⟩
    simp only [waggonerref05_All.l0]
    rw [if_neg (by omega)]
  | d + 1, k, i, hi, hk => by
    obtain ⟨k, rfl⟩ : ∃ m, k = m + 1 := ⟨k - 1, by omega⟩
    simp only [waggonerref05_All.l0]
    rw [if_pos (by omega), if_pos (by omega), if_pos (by omega), same_self, Option.bind_some, if_pos rfl, show wrap64 ((i : Int) + 1) = ((i + 1 : Nat) : Int) from by unfold wrap64; omega]
    exact all_self l hl d k (i + 1) (by omega) (by omega)
theorem numbers_self (l : List Int) (hl : l.length < 4611686018427387904) : ∀ (d k i : Nat), i + d = l.length → d < k → waggonerref05_Numbers.l0 k l l (i : Int) = some true
  | 0, k, i, hi, hk => by
    obtain ⟨k, rfl⟩ : ∃ m, k = m + 1 := ⟨k - 1, by omega⟩
    simp only [waggonerref05_Numbers.l0]
    rw [if_neg (by omega)]
  | d + 1, k, i, hi, hk => by
    obtain ⟨k, rfl⟩ : ∃ m, k = m + 1 := ⟨k - 1, by omega⟩
    simp only [waggonerref05_Numbers.l0]
    rw [if_pos (by omega), if_pos (by omega), if_pos (by omega), if_pos trivial, show wrap64 ((i : Int) + 1) = ((i + 1 : Nat) : Int) from by unfold wrap64; omega]
    exact numbers_self l hl d k (i + 1) (by omega) (by omega)
theorem RecordScans : waggonerlaw05_RecordScans.Pure := by
  intro l0 _ _ w0
  have hb := Pl.wf_u8 w0
  refine ⟨2000, ?_⟩
  unfold waggonerlaw05_RecordScans.f waggonerlaw05_awake.f
  rw [Option.bind_some]
  by_cases c : (l0.length : Int) > 1000
  · rw [if_pos c]
  have hn := Pl.scanG_length (l0.length + 1) l0 0
  have hr := scan_ref l0 hb (by omega) (l0.length + 1) 2000 [] [] 0 (by omega) (by omega) (by omega) (Nat.le_refl _) (Nat.le_refl _)
  rw [List.drop_zero, List.nil_append, List.nil_append] at hr
  rw [if_neg c, show record_Scan.f l0 = some ((Pl.scanS l0).1.map (fun p => (⟨p.1, p.2.1, p.2.2⟩ : S25)), (Pl.scanS l0).2) from by unfold record_Scan.f; rw [if_pos ⟨hb, by omega⟩], Option.bind_some, show waggonerref05_Scan.f 2000 l0 = _ from hr, Option.bind_some, if_pos rfl]
  dsimp only
  have h1 : ((Pl.scanG (l0.length + 1) l0 0).1.map (fun p => (⟨p.1, p.2.1, p.2.2⟩ : S25))).length < 2000 := by rw [List.length_map]; omega
  rw [show waggonerref05_All.f 2000 ((Pl.scanS l0).1.map (fun p => (⟨p.1, p.2.1, p.2.2⟩ : S25))) ((Pl.scanG (l0.length + 1) l0 0).1.map (fun p => (⟨p.1, p.2.1, p.2.2⟩ : S25))) = some true from by
    unfold waggonerref05_All.f Pl.scanS
    rw [if_pos rfl]
    exact all_self _ (by omega) _ 2000 0 (Nat.zero_add _) (by omega), Option.bind_some, if_pos rfl]
  rw [show waggonerref05_Numbers.f 2000 (Pl.scanS l0).2 (Pl.scanG (l0.length + 1) l0 0).2 = some true from by
    unfold waggonerref05_Numbers.f Pl.scanS
    rw [if_pos rfl]
    exact numbers_self _ (by omega) _ 2000 0 (Nat.zero_add _) (by omega), Option.bind_some]
end Go.Proofs.Ytcemlfkboifncaa.Pure
