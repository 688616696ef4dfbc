/- Functions of the program as Lean functions, and that the Go code comes to just their answers: no condition but that the function says so. (Written by a program of this workplace over the kit's print, with contracts by hand.) -/
import Derived.Test.YtcemlfkboifncaaPTx12
import Derived.Test.YtcemlfkboifncaaPTx49
import Derived.Test.YtcemlfkboifncaaPTx53
import Derived.Test.YtcemlfkboifncaaPTx54
namespace Go.Proofs.Ytcemlfkboifncaa.PT
open Go.RowKit Go.Proofs.YtcemlfkboifncaaW.PrintWords Go.Proofs.YtcemlfkboifncaaW.PrintLast Go.Proofs.YtcemlfkboifncaaW.PrintMore
attribute [local go_sem] max2_int min2_int max_two min_two max_three min_three max_four min_four   -- for this text's walks alone
set_option linter.unusedVariables false
set_option linter.unusedSimpArgs false

/-! ### waggonerref05_Read: function 22 -/
def waggonerref05_Read.f (l0 : List Int) : Option (Int × Int × List Int × Int × Int) := if Pl.byteB l0 = true ∧ l0.length < 70368744177664 then some (Pl.rreadS l0) else none
theorem waggonerref05_Size.tells {n : Int} (h0 : 0 ≤ n) (h1 : n < 70000) : waggonerref05_Size.f n = some (if n ≤ 4096 then n + 20 else 0) := by
 unfold waggonerref05_Size.f
 rw [if_neg (by omega)]
 by_cases h : n > 4096
 ·rw [if_pos h, if_neg (by omega)]
 ·rw [if_neg h, if_pos (by omega), show wrap64 (n + 20) = n + 20 from by unfold wrap64; omega]
theorem waggonerref05_Read.tells {b : List Int} {r : Int × Int × List Int × Int × Int} (h : waggonerref05_Read.f b = some r) : waggonerref05_Read_p.f 4 b = some r := by
 unfold waggonerref05_Read.f at h
 split at h
 case isFalse => cases h
 rename_i hh
 obtain ⟨hb, hl⟩ := hh
 obtain rfl := Option.some.inj h
 have e1 : ∀ a b c d : Int, rd [a, b, c, d] 1 = b := fun _ _ _ _ => rfl
 have e2 : ∀ a b c d : Int, rd [a, b, c, d] 2 = c := fun _ _ _ _ => rfl
 have e3 : ∀ a b c d : Int, rd [a, b, c, d] 3 = d := fun _ _ _ _ => rfl
 have hform : Pl.fb (⟨#[119, 104, 104, 113]⟩ : ByteArray) = Pl.recForm := by kernel_rfl
 have hun : waggonerref01_Unpack.f (⟨#[119, 104, 104, 113]⟩ : ByteArray) (b.take 16) = some (Pl.unpackS Pl.recForm (b.take 16)) := by
  unfold waggonerref01_Unpack.f
  rw [if_pos ⟨Pl.byteB_take hb 16, by rw [List.length_take]; omega, by decide⟩, hform]
 have err0 : ∀ k x y, waggonerref05_Read_p.j0 (k + 1) b x y true = some (0, 0, [], 0, 50) := fun k x y => by
  simp only [waggonerref05_Read_p.j0]
  rw [if_pos trivial]
 have w64 : ∀ x : Int, 0 ≤ x → x < 9223372036854775808 → wrap64 x = x := fun x h0 h1 => by unfold wrap64; omega
 have hwr : ∀ (k s : Int) (l : List Int), Pl.byteB l = true → l.length < 70368744177664 → waggonerref05_Write.f k s l = some (Pl.rwriteS k s l) := fun k s l h1 h2 => by unfold waggonerref05_Write.f; rw [if_pos h1]
 unfold waggonerref05_Read_p.f
 rcases Pl.rreadS_cases b with ⟨k, s, l, t, ho, hbe, he⟩ | ⟨hno, he⟩
 ·obtain ⟨h1, h2, h3, h4, h5⟩ := Pl.recOk_iff.1 ho
  have hlen : b.length = l.length + 20 + t.length := by rw [hbe, List.length_append, Pl.recB_length]
  have hlb : Pl.byteB l = true := by
   rw [hbe, Pl.byteB_append, Pl.recB, Pl.seal4, Pl.byteB_append, Pl.byteB_append] at hb
   simp only [Bool.and_eq_true] at hb
   exact hb.1.1.2
  have hu := Pl.unpack_rec t ho
  rw [← hbe] at hu
  have hbd : (b.take ((l.length : Int) + 20 - 4).toNat).drop 16 = l := by
   rw [hbe, Pl.recB, Pl.seal4, List.append_assoc, List.append_assoc, show ((l.length : Int) + 20 - 4).toNat = 16 + l.length from by omega, List.take_append, Pl.recHead_length, List.take_of_length_le (by rw [Pl.recHead_length]; omega), show 16 + l.length - 16 = l.length from by omega, List.take_left, List.drop_left' (Pl.recHead_length _ _ _)]
  have htk : b.take ((l.length : Int) + 20).toNat = Pl.recB k s l := by
   rw [hbe, show ((l.length : Int) + 20).toNat = (Pl.recB k s l).length from by rw [Pl.recB_length]; omega, List.take_left]
  rw [he, if_neg (by omega), if_pos (by omega), hun, hu, Option.bind_some]
  simp only [e2, e3]
  rw [if_pos (by simp), w64 _ (by omega) (by omega), waggonerref05_Size.tells (by omega) (by omega), Option.bind_some, if_pos (show ((l.length : Int)) ≤ 4096 from by omega), if_neg (by omega), if_neg (by omega), if_pos (by simp), decide_eq_false (by omega)]
  simp only [waggonerref05_Read_p.j0, e1, e3]
  rw [w64 ((l.length : Int) + 20 - 4) (by omega) (by omega)]
  rw [if_neg (by decide), if_pos (by simp), if_pos (by simp), Option.bind_some, if_pos (by omega), if_pos (by omega), hbd, if_pos (by rw [List.length_nil]; omega), Option.bind_some, List.nil_append, w64 _ (by omega) (by omega), w64 _ (by omega) (by omega), hwr _ _ _ hlb (by omega), Option.bind_some, Pl.rwriteS, if_pos ho,
   if_pos rfl, if_pos (by omega), if_pos (by omega), htk, if_pos rfl]
 ·rw [he]
  by_cases c20 : (b.length : Int) < 20
  ·rw [if_pos c20]
  obtain ⟨n0, n1, n2, n3, hu, q0, q1, p1, q2, p2, q3, p3, hhead⟩ := Pl.unpack_head hb (by omega)
  rw [if_neg c20, if_pos (by omega), hun, hu, Option.bind_some]
  simp only [e2, e3]
  rw [if_pos (by simp), w64 _ (by omega) (by omega), waggonerref05_Size.tells (by omega) (by omega), Option.bind_some]
  by_cases cn : n2 ≤ 4096
  ·rw [if_pos cn, if_neg (by omega)]
   by_cases cl : (b.length : Int) < n2 + 20
   ·rw [if_pos cl]; exact err0 _ _ _
   rw [if_neg cl, if_pos (by simp)]
   by_cases cs : n3 ≥ 4611686018427387904
   ·rw [decide_eq_true cs]; exact err0 _ _ _
   rw [decide_eq_false cs]
   simp only [waggonerref05_Read_p.j0, e1, e3]
   obtain ⟨m, hm⟩ := Int.eq_ofNat_of_zero_le q2
   rw [w64 (n2 + 20 - 4) (by omega) (by omega)]
   have hbl : ((b.take (n2 + 20 - 4).toNat).drop 16).length = m := by rw [List.length_drop, List.length_take]; omega
   rw [if_neg (by decide), if_pos (by simp), if_pos (by simp), Option.bind_some, if_pos (by omega), if_pos (by omega), if_pos (by rw [hbl, List.length_nil]; omega), Option.bind_some, List.nil_append, w64 _ (by omega) (by omega), w64 _ (by omega) (by omega), hwr _ _ _ (Pl.byteB_drop (Pl.byteB_take hb _) _) (by rw [hbl]; omega), Option.bind_some, Pl.rwriteS]
   by_cases ck : Pl.recOk n1 n3 ((b.take (n2 + 20 - 4).toNat).drop 16) = true
   ·rw [if_pos ck, if_pos rfl, if_pos (by omega), if_pos (by omega), if_neg]
    intro hc
    have hc' := (Pl.str_inj (Pl.recB_byte (Pl.byteB_drop (Pl.byteB_take hb _) _)) (Pl.byteB_take hb _)).1 (Pl.toList_inj hc)
    exact hno n1 n3 _ (b.drop (n2 + 20).toNat) ck (by rw [hc', List.take_append_drop])
   ·rw [if_neg ck, if_neg (by decide)]
  ·rw [if_neg cn, if_pos rfl]; exact err0 _ _ _
theorem waggonerref05_Read.calls (A0 : Option Addr) (c0 : Nat) (l0 : List Int) (r1 : Int) (r2 : Int) (r3 : List Int) (r4 : Int) (r5 : Int) (w : World) (hr0 : Kd.C (Kd.int .u8) w A0 l0.length l0) (hc0 : l0.length ≤ c0) (h : waggonerref05_Read.f l0 = some (r1, r2, r3, r4, r5)) :
  Calls Try.prog 22 #[.slice A0 l0.length c0] w fun e w' => ∃ v2_ : Value, e = .returned (.tuple #[.agg #[.int .i64 r1, .int .i64 r2, v2_], .int .i64 r4, .int .i64 r5]) ∧ Kd.R (Kd.int .u8) 5 w' w.heap.size (fun _ => True) v2_ r3 ∧ Below w.heap.size w w' :=
 waggonerref05_Read_p.calls 4 A0 c0 l0 r1 r2 r3 r4 r5 w hr0 hc0 (waggonerref05_Read.tells h)
end Go.Proofs.Ytcemlfkboifncaa.PT
