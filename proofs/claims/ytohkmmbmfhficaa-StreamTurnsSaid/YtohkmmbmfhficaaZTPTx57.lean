/- Words and walks that this claim names, of those that the kit's print and programs of this workplace have printed. -/
import Derived.Test.YtohkmmbmfhficaaZTCz
import Derived.Test.YtohkmmbmfhficaaZTPTx5
import Derived.Test.YtohkmmbmfhficaaZTPTx13
import Derived.Test.YtohkmmbmfhficaaZTPTx36
import Derived.Test.YtohkmmbmfhficaaZTPTx38
import Derived.Test.YtohkmmbmfhficaaZTPTx45
import Derived.Test.YtohkmmbmfhficaaZTPTx55
import Derived.Test.YtohkmmbmfhficaaZTPTx56
namespace Go.Proofs.Ytohkmmbmfhficaa.PT
open Go.Proofs.Ytohkmmbmfhficaa Go.RowKit Go.Proofs.YtohkmmbmfhficaaW.PrintWords Go.Proofs.YtohkmmbmfhficaaW.PrintLast Go.Proofs.YtohkmmbmfhficaaW.PrintMore
attribute [local go_sem] max2_int min2_int max_two min_two max_three min_three max_four min_four
set_option linter.unusedVariables false
set_option linter.unusedSimpArgs false
set_option maxRecDepth 100000 in
set_option maxHeartbeats 4000000 in
theorem frame_Read.w1 (A0 : Option Addr) (c0 : Nat) (l : List Int) (w : World) (hr : Kd.C (Kd.int .u8) w A0 l.length l) (hc : l.length ≤ c0) (h3 : l.length < 3) : Calls Try.prog 21 #[.slice A0 l.length c0] w fun e w' => ∃ v3_ : Value, e = .returned (.tuple #[.agg #[.int .i64 0, .int .i64 0, .int .i64 0, v3_, .int .i64 0, .int .i64 0, .int .i64 0], .int .i64 0, .int .i64 161]) ∧ Kd.R (Kd.int .u8) 5 w' w.heap.size (fun _ => True) v3_ [] ∧ Below w.heap.size w w' := by
 have hu0 := Try.underlying38
 have HR := Aside0.mk hr
 have HC := Aside0.mk hc
 have HB := Aside0.mk (Below.refl w.heap.size w)
 have b3 : decide ((l.length : Int) < 3) = true := decide_eq_true (by omega)
 have b3n : decide (l.length < 3) = true := decide_eq_true h3
 clear hr hc h3
 go_enter Try.func21, Try.ntmps21
 go_wp2_with (((with_reducible refine gate_dst (N := 2) rfl ?_); refine Cz.bx (N := 2) #[.int .i64 0, .int .i64 0, .int .i64 0, .slice none 0 0, .int .i64 0, .int .i64 0, .int .i64 0] 38 ?_; intro g2 hg w1 hbox hb; have BK2 := Aside0.mk hbox; have GE := Aside0.mk (show w.heap.size ≤ g2 by rw [hg]; exact Nat.le_refl _); replace HB := Cz.bs (w := w) hb; clear hb hbox hg; obtain ⟨hcz0, hcz1, hcz2, hcz3, hcz4, hcz5, hcz6, hfz0, hfz1, hfz2, hfz3, hfz4, hfz5, hfz6⟩ := Cz.d7 BK2))
 refine bodyPost_ret (results_ctt rfl _ _ g2 38 #[.int .i64 0, .int .i64 0, .int .i64 0, .slice none 0 0, .int .i64 0, .int .i64 0, .int .i64 0] (0, 0) _ rfl (by apply Cz.a7; exact BK2.out) Try.underlying38 rfl (by kernel_rfl)) rfl ?_
 exact ⟨.slice none 0 0, rfl, Kd.R_nil _ _ _ _ _, below_set (below_set (below_set (below_set (below_set (below_set (below_set (HB.out) GE.out) GE.out) GE.out) GE.out) GE.out) GE.out) GE.out⟩
set_option maxRecDepth 100000 in
set_option maxHeartbeats 4000000 in
theorem frame_Read.w2 (A0 : Option Addr) (c0 : Nat) (l : List Int) (n0 n1 s : Int) (w : World) (hr : Kd.C (Kd.int .u8) w A0 l.length l) (hc : l.length ≤ c0) (hl3 : 3 ≤ l.length) (hu : le_Unpack.f (⟨#[98, 104]⟩ : ByteArray) (l.take 3) = some ([n0, n1], 0)) (e1 : wrap64 n1 = n1) (hs : wrap64 (n1 + 7) = s) (h7 : (l.length : Int) < s) : Calls Try.prog 21 #[.slice A0 l.length c0] w fun e w' => ∃ v3_ : Value, e = .returned (.tuple #[.agg #[.int .i64 0, .int .i64 0, .int .i64 0, v3_, .int .i64 0, .int .i64 0, .int .i64 0], .int .i64 0, .int .i64 161]) ∧ Kd.R (Kd.int .u8) 5 w' w.heap.size (fun _ => True) v3_ [] ∧ Below w.heap.size w w' := by
 have hu0 := Try.underlying38
 have HR := Aside0.mk hr
 have HC := Aside0.mk hc
 have HB := Aside0.mk (Below.refl w.heap.size w)
 have b3 : decide ((l.length : Int) < 3) = false := decide_eq_false (by omega)
 have b3n : decide (l.length < 3) = false := decide_eq_false (by omega)
 have e1w : IntKind.i64.wrap n1 = n1 := (i64_w _).trans e1
 have hsw : IntKind.i64.wrap (n1 + 7) = s := (i64_w _).trans hs
 obtain ⟨i0_, hi0_, _, hsz_, _⟩ := info_parts info5
 obtain ⟨hcut3, hA3, hC3⟩ := print_take_of (P := Try.prog) (Value.int .u8) 0 27 5 .i64 Try.underlying27 hi0_ hsz_ A0 c0 l 3 (by omega) (by omega) hc
 have hr3 := Kd.C_of_reads (h1 := fun _ => rfl) (hA3 _ (Kd.reads_of_C hr))
 clear hA3
 rw [show (3 : Int).toNat = 3 from rfl] at hcut3 hr3 hC3
 obtain ⟨m3, hm3⟩ : ∃ m, m = l.take 3 := ⟨_, rfl⟩
 rw [← hm3] at hcut3 hr3 hC3 hu
 have HR3 := Aside0.mk hr3
 have HC3 := Aside0.mk hC3
 have HU := Aside0.mk hu
 clear hr3 hC3 hm3 hu
 have b7 : decide ((l.length : Int) < s) = true := decide_eq_true h7
 clear hr hc hl3 hi0_ hsz_ h7
 go_enter Try.func21, Try.ntmps21
 go_wp2_with (first | ((with_reducible refine gate_dst (N := 2) rfl ?_); refine Cz.bx (N := 2) #[.int .i64 0, .int .i64 0, .int .i64 0, .slice none 0 0, .int .i64 0, .int .i64 0, .int .i64 0] 38 ?_; intro g2 hg w1 hbox hb; have BK2 := Aside0.mk hbox; have GE := Aside0.mk (show w.heap.size ≤ g2 by rw [hg]; exact Nat.le_refl _); replace HB := Cz.bs (w := w) hb; clear hb hbox hg) | (go_at_call 44; refine (le_Unpack.calls (⟨#[98, 104]⟩ : ByteArray) A0 c0 m3 [n0, n1] 0 _ (Kd.C_below HR3.out HB.out) HC3.out HU.out).mono ?_; rintro e w2 ⟨v, rfl, ho, hb⟩; have HN := Aside0.mk (Kd.R_lower ho (below_size HB.out)); replace BK2 := Cz.bk BK2 hb; replace HB := Cz.bs (w := w) hb; clear hb; clear ho; obtain ⟨An, cn, rfl⟩ := Kd.R_slice HN.out; have hro := (Kd.R_reads' HN.out).2.2; obtain ⟨ad, ea, hx0⟩ := Kd.at_int hro 0 (by decide) (by simp); cases ea; obtain ⟨ad1, ea, hx1⟩ := Kd.at_int hro 1 (by decide) (by simp); obtain rfl : ad = ad1 := (by injection ea); clear ea hro; simp only [show (0 : Int).toNat = 0 from rfl, Addr.add_zero', show rd ([n0, n1] : List Int) 0 = n0 from rfl] at hx0; simp only [show (1 : Int).toNat = 1 from rfl, Nat.reduceMul, Nat.reduceEqDiff, Go.Addr.add, ↓reduceIte, show rd ([n0, n1] : List Int) 1 = n1 from rfl] at hx1; obtain ⟨hcz0, hcz1, hcz2, hcz3, hcz4, hcz5, hcz6, hfz0, hfz1, hfz2, hfz3, hfz4, hfz5, hfz6⟩ := Cz.d7 BK2))
 refine bodyPost_ret (results_ctt rfl _ _ g2 38 #[.int .i64 0, .int .i64 0, .int .i64 0, .slice none 0 0, .int .i64 0, .int .i64 0, .int .i64 0] (0, 0) _ rfl (by apply Cz.a7; exact BK2.out) Try.underlying38 rfl (by kernel_rfl)) rfl ?_
 exact ⟨.slice none 0 0, rfl, Kd.R_nil _ _ _ _ _, below_set (below_set (below_set (below_set (below_set (below_set (below_set (HB.out) GE.out) GE.out) GE.out) GE.out) GE.out) GE.out) GE.out⟩
set_option maxRecDepth 100000 in
set_option maxHeartbeats 4000000 in
theorem frame_Read.w3 (A0 : Option Addr) (c0 : Nat) (l : List Int) (n0 n1 s : Int) (w : World) (hr : Kd.C (Kd.int .u8) w A0 l.length l) (hc : l.length ≤ c0) (hl3 : 3 ≤ l.length) (hu : le_Unpack.f (⟨#[98, 104]⟩ : ByteArray) (l.take 3) = some ([n0, n1], 0)) (e1 : wrap64 n1 = n1) (hs : wrap64 (n1 + 7) = s) (h7 : s ≤ (l.length : Int)) (h70 : 0 ≤ s) (hp : crc_Open.f (l.take s.toNat) = some ([], 20)) : Calls Try.prog 21 #[.slice A0 l.length c0] w fun e w' => ∃ v3_ : Value, e = .returned (.tuple #[.agg #[.int .i64 0, .int .i64 0, .int .i64 0, v3_, .int .i64 0, .int .i64 0, .int .i64 0], .int .i64 0, .int .i64 160]) ∧ Kd.R (Kd.int .u8) 5 w' w.heap.size (fun _ => True) v3_ [] ∧ Below w.heap.size w w' := by
 have hu0 := Try.underlying38
 have HR := Aside0.mk hr
 have HC := Aside0.mk hc
 have HB := Aside0.mk (Below.refl w.heap.size w)
 have b3 : decide ((l.length : Int) < 3) = false := decide_eq_false (by omega)
 have b3n : decide (l.length < 3) = false := decide_eq_false (by omega)
 have e1w : IntKind.i64.wrap n1 = n1 := (i64_w _).trans e1
 have hsw : IntKind.i64.wrap (n1 + 7) = s := (i64_w _).trans hs
 obtain ⟨i0_, hi0_, _, hsz_, _⟩ := info_parts info5
 obtain ⟨hcut3, hA3, hC3⟩ := print_take_of (P := Try.prog) (Value.int .u8) 0 27 5 .i64 Try.underlying27 hi0_ hsz_ A0 c0 l 3 (by omega) (by omega) hc
 have hr3 := Kd.C_of_reads (h1 := fun _ => rfl) (hA3 _ (Kd.reads_of_C hr))
 clear hA3
 rw [show (3 : Int).toNat = 3 from rfl] at hcut3 hr3 hC3
 obtain ⟨m3, hm3⟩ : ∃ m, m = l.take 3 := ⟨_, rfl⟩
 rw [← hm3] at hcut3 hr3 hC3 hu
 have HR3 := Aside0.mk hr3
 have HC3 := Aside0.mk hC3
 have HU := Aside0.mk hu
 clear hr3 hC3 hm3 hu
 obtain ⟨hcut7, hA7, hC7⟩ := print_take_of (P := Try.prog) (Value.int .u8) 0 27 5 .i64 Try.underlying27 hi0_ hsz_ A0 c0 l s (by omega) (by omega) hc
 have hr7 := Kd.C_of_reads (h1 := fun _ => rfl) (hA7 _ (Kd.reads_of_C hr))
 clear hA7
 obtain ⟨m7, hm7⟩ : ∃ m, m = l.take s.toNat := ⟨_, rfl⟩
 rw [← hm7] at hcut7 hr7 hC7 hp
 have HR7 := Aside0.mk hr7
 have HC7 := Aside0.mk hC7
 have HP := Aside0.mk hp
 clear hr7 hC7 hm7 hp
 have b7 : decide ((l.length : Int) < s) = false := decide_eq_false (by omega)
 clear hr hc hl3 hi0_ hsz_ h7 h70
 go_enter Try.func21, Try.ntmps21
 go_wp2_with (first | ((with_reducible refine gate_dst (N := 2) rfl ?_); refine Cz.bx (N := 2) #[.int .i64 0, .int .i64 0, .int .i64 0, .slice none 0 0, .int .i64 0, .int .i64 0, .int .i64 0] 38 ?_; intro g2 hg w1 hbox hb; have BK2 := Aside0.mk hbox; have GE := Aside0.mk (show w.heap.size ≤ g2 by rw [hg]; exact Nat.le_refl _); replace HB := Cz.bs (w := w) hb; clear hb hbox hg) | (go_at_call 44; refine (le_Unpack.calls (⟨#[98, 104]⟩ : ByteArray) A0 c0 m3 [n0, n1] 0 _ (Kd.C_below HR3.out HB.out) HC3.out HU.out).mono ?_; rintro e w2 ⟨v, rfl, ho, hb⟩; have HN := Aside0.mk (Kd.R_lower ho (below_size HB.out)); replace BK2 := Cz.bk BK2 hb; replace HB := Cz.bs (w := w) hb; clear hb; clear ho; obtain ⟨An, cn, rfl⟩ := Kd.R_slice HN.out; have hro := (Kd.R_reads' HN.out).2.2; obtain ⟨ad, ea, hx0⟩ := Kd.at_int hro 0 (by decide) (by simp); cases ea; obtain ⟨ad1, ea, hx1⟩ := Kd.at_int hro 1 (by decide) (by simp); obtain rfl : ad = ad1 := (by injection ea); clear ea hro; simp only [show (0 : Int).toNat = 0 from rfl, Addr.add_zero', show rd ([n0, n1] : List Int) 0 = n0 from rfl] at hx0; simp only [show (1 : Int).toNat = 1 from rfl, Nat.reduceMul, Nat.reduceEqDiff, Go.Addr.add, ↓reduceIte, show rd ([n0, n1] : List Int) 1 = n1 from rfl] at hx1) | (go_at_call 45; refine (crc_Open.calls A0 c0 m7 [] 20 _ (Kd.C_below HR7.out HB.out) HC7.out HP.out).mono ?_; rintro e w3 ⟨v, rfl, ho, hb⟩; have HT := Aside0.mk (Kd.R_lower ho (below_size HB.out)); replace BK2 := Cz.bk BK2 hb; replace HB := Cz.bs (w := w) hb; clear hb; clear ho; obtain ⟨At, ct, rfl⟩ := Kd.R_slice HT.out; obtain ⟨hcz0, hcz1, hcz2, hcz3, hcz4, hcz5, hcz6, hfz0, hfz1, hfz2, hfz3, hfz4, hfz5, hfz6⟩ := Cz.d7 BK2))
 refine bodyPost_ret (results_ctt rfl _ _ g2 38 #[.int .i64 0, .int .i64 0, .int .i64 0, .slice none 0 0, .int .i64 0, .int .i64 0, .int .i64 0] (0, 0) _ rfl (by apply Cz.a7; exact BK2.out) Try.underlying38 rfl (by kernel_rfl)) rfl ?_
 exact ⟨.slice none 0 0, rfl, Kd.R_nil _ _ _ _ _, below_set (below_set (below_set (below_set (below_set (below_set (below_set (HB.out) GE.out) GE.out) GE.out) GE.out) GE.out) GE.out) GE.out⟩
set_option maxRecDepth 100000 in
set_option maxHeartbeats 4000000 in
theorem frame_Read.nil_no (A0 : Option Addr) (c0 : Nat) (l : List Int) (t : List Int) (n0 n1 s : Int) (w : World) (hr : Kd.C (Kd.int .u8) w A0 l.length l) (hc : l.length ≤ c0) (hl3 : 3 ≤ l.length) (hu : le_Unpack.f (⟨#[98, 104]⟩ : ByteArray) (l.take 3) = some ([n0, n1], 0)) (e1 : wrap64 n1 = n1) (hs : wrap64 (n1 + 7) = s) (h7 : s ≤ (l.length : Int)) (h70 : 0 ≤ s) (hp : crc_Open.f (l.take s.toNat) = some (t, 0)) (ht3 : 3 ≤ t.length) (e0 : wrap64 n0 = n0) (hd : frame_Rd.f n0 (t.drop 3) = some (0, 0, 0, [], 0, 0, 0)) : Calls Try.prog 21 #[.slice A0 l.length c0] w fun e w' => ∃ v3_ : Value, e = .returned (.tuple #[.agg #[.int .i64 0, .int .i64 0, .int .i64 0, v3_, .int .i64 0, .int .i64 0, .int .i64 0], .int .i64 0, .int .i64 160]) ∧ Kd.R (Kd.int .u8) 5 w' w.heap.size (fun _ => True) v3_ [] ∧ Below w.heap.size w w' := by
 have hu0 := Try.underlying38
 have HR := Aside0.mk hr
 have HC := Aside0.mk hc
 have HB := Aside0.mk (Below.refl w.heap.size w)
 have b3 : decide ((l.length : Int) < 3) = false := decide_eq_false (by omega)
 have b3n : decide (l.length < 3) = false := decide_eq_false (by omega)
 have e1w : IntKind.i64.wrap n1 = n1 := (i64_w _).trans e1
 have hsw : IntKind.i64.wrap (n1 + 7) = s := (i64_w _).trans hs
 obtain ⟨i0_, hi0_, _, hsz_, _⟩ := info_parts info5
 obtain ⟨hcut3, hA3, hC3⟩ := print_take_of (P := Try.prog) (Value.int .u8) 0 27 5 .i64 Try.underlying27 hi0_ hsz_ A0 c0 l 3 (by omega) (by omega) hc
 have hr3 := Kd.C_of_reads (h1 := fun _ => rfl) (hA3 _ (Kd.reads_of_C hr))
 clear hA3
 rw [show (3 : Int).toNat = 3 from rfl] at hcut3 hr3 hC3
 obtain ⟨m3, hm3⟩ : ∃ m, m = l.take 3 := ⟨_, rfl⟩
 rw [← hm3] at hcut3 hr3 hC3 hu
 have HR3 := Aside0.mk hr3
 have HC3 := Aside0.mk hC3
 have HU := Aside0.mk hu
 clear hr3 hC3 hm3 hu
 obtain ⟨hcut7, hA7, hC7⟩ := print_take_of (P := Try.prog) (Value.int .u8) 0 27 5 .i64 Try.underlying27 hi0_ hsz_ A0 c0 l s (by omega) (by omega) hc
 have hr7 := Kd.C_of_reads (h1 := fun _ => rfl) (hA7 _ (Kd.reads_of_C hr))
 clear hA7
 obtain ⟨m7, hm7⟩ : ∃ m, m = l.take s.toNat := ⟨_, rfl⟩
 rw [← hm7] at hcut7 hr7 hC7 hp
 have HR7 := Aside0.mk hr7
 have HC7 := Aside0.mk hC7
 have HP := Aside0.mk hp
 clear hr7 hC7 hm7 hp
 have e0w : IntKind.i64.wrap n0 = n0 := (i64_w _).trans e0
 have HD := Aside0.mk hd
 have b7 : decide ((l.length : Int) < s) = false := decide_eq_false (by omega)
 have T3 := Aside0.mk ht3
 clear hr hc hl3 h7 h70 hd ht3
 go_enter Try.func21, Try.ntmps21
 go_upto_region 12 with (first | ((with_reducible refine gate_dst (N := 2) rfl ?_); refine Cz.bx (N := 2) #[.int .i64 0, .int .i64 0, .int .i64 0, .slice none 0 0, .int .i64 0, .int .i64 0, .int .i64 0] 38 ?_; intro g2 hg w1 hbox hb; have BK2 := Aside0.mk hbox; have GE := Aside0.mk (show w.heap.size ≤ g2 by rw [hg]; exact Nat.le_refl _); replace HB := Cz.bs (w := w) hb; clear hb hbox hg) | (go_at_call 44; refine (le_Unpack.calls (⟨#[98, 104]⟩ : ByteArray) A0 c0 m3 [n0, n1] 0 _ (Kd.C_below HR3.out HB.out) HC3.out HU.out).mono ?_; rintro e w2 ⟨v, rfl, ho, hb⟩; have HN := Aside0.mk (Kd.R_lower ho (below_size HB.out)); replace BK2 := Cz.bk BK2 hb; replace HB := Cz.bs (w := w) hb; clear hb; clear ho; obtain ⟨An, cn, rfl⟩ := Kd.R_slice HN.out; have hro := (Kd.R_reads' HN.out).2.2; obtain ⟨ad, ea, hx0⟩ := Kd.at_int hro 0 (by decide) (by simp); cases ea; obtain ⟨ad1, ea, hx1⟩ := Kd.at_int hro 1 (by decide) (by simp); obtain rfl : ad = ad1 := (by injection ea); clear ea hro; simp only [show (0 : Int).toNat = 0 from rfl, Addr.add_zero', show rd ([n0, n1] : List Int) 0 = n0 from rfl] at hx0; simp only [show (1 : Int).toNat = 1 from rfl, Nat.reduceMul, Nat.reduceEqDiff, Go.Addr.add, ↓reduceIte, show rd ([n0, n1] : List Int) 1 = n1 from rfl] at hx1) | (go_at_call 45; refine (crc_Open.calls A0 c0 m7 t 0 _ (Kd.C_below HR7.out HB.out) HC7.out HP.out).mono ?_; rintro e w3 ⟨v, rfl, ho, hb⟩; have HT := Aside0.mk (Kd.R_lower ho (below_size HB.out)); replace BK2 := Cz.bk BK2 hb; replace HN := Aside0.mk (Kd.R_below HN.out hb); replace hx0 := (hb.cell (World.block_lt_of_cell? _ _ hx0)).trans hx0; replace HB := Cz.bs (w := w) hb; clear hb; clear ho; obtain ⟨At, ct, rfl⟩ := Kd.R_slice HT.out; clear hx1))
 obtain ⟨A8, hcut8, hA8, hC8⟩ := print_drop_of (P := Try.prog) (Value.int .u8) 0 27 5 .i64 Try.underlying27 hi0_ hsz_ At ct t 3 (by omega) (by have := T3.out; omega) (Kd.R_reads' HT.out).2.1
 have hr8 := Kd.C_of_reads (h1 := fun _ => rfl) (hA8 _ (Kd.reads_of_C (Kd.R_reads' HT.out).2.2))
 clear hA8
 rw [show (3 : Int).toNat = 3 from rfl] at hcut8 hr8 hC8
 obtain ⟨m8, hm8⟩ : ∃ m, m = t.drop 3 := ⟨_, rfl⟩
 rw [← hm8] at hcut8 hr8 hC8
 have HD8 : Aside0 (frame_Rd.f n0 m8 = some (0, 0, 0, [], 0, 0, 0)) := ⟨by rw [hm8]; exact HD.out⟩
 have HR8 := Aside0.mk hr8
 have HC8 := Aside0.mk hC8
 clear hr8 hC8 hm8 hi0_ hsz_ HD
 have T4 : (3 : Int) ≤ (t.length : Int) := by have := T3.out; omega
 have b8 : decide ((3 : Int) ≤ (t.length : Int)) = true := decide_eq_true T4
 clear T4
 replace BK2 := Aside0.mk (blk_drew BK2.out)
 replace HR8 := Aside0.mk (Kd.C_drew HR8.out)
 replace HB := Aside0.mk (below_drew HB.out)
 refine start_ (n := 8) (S := fun w' => w'.cell? ad = some (.int .u64 n0)) (ds := []) #[false, false, false, false, false, false, false, false] (by kernel_rfl) rfl rfl (hx0) (fun hHeld => ?_)
 generalize w3.drew = wd at HB BK2 HR8 hHeld ⊢
 clear hx0
 refine Cz.rP 0 43 ?_
 refine Cz.rP 1 44 ?_
 refine Cz.rP 4 47 ?_
 refine Cz.rP 5 48 ?_
 refine Cz.rT 2 45 hHeld ?_
 refine Cz.rP 3 46 ?_
 refine Cz.rO (N := some 49) 6 (fun K hK => ?_)
 refine goes_ Try.func46 (by kernel_rfl) rfl #[.int .i64 n0, .slice A8 m8.length (ct - 3)] (by rfl) rfl rfl (by simp only [List.map_toArray, List.map_cons, List.map_nil]; rfl) ?_
 refine (frame_Rd.calls n0 A8 (ct - 3) m8 0 0 0 [] 0 0 0 _ HR8.out HC8.out HD8.out).mono ?_
 rintro e w5 ⟨v3, rfl, ho, hb⟩
 refine ⟨_, rfl, ?_⟩
 obtain ⟨Av, cv, rfl⟩ := Kd.R_slice ho
 have HO3 := Aside0.mk (Kd.R_lower ho (below_size HB.out))
 have hx0 := (hb.cell (World.block_lt_of_cell? _ _ hHeld)).trans hHeld
 replace BK2 := Cz.bk BK2 hb
 replace HB := Cz.bs (w := w) hb
 clear ho hb
 rw [show bodyV 0 0 0 (.slice Av ([] : List Int).length cv) 0 0 0 = .nilIface from rfl]
 refine hK.out _ _ (hx0) (fun hHeld => ?_)
 clear hK K
 refine Cz.nm (some 49) ?_
 refine Cz.rP 7 9 ?_
 refine done_ (by kernel_rfl) ?_
 have hx0 := hHeld
 clear hHeld
 obtain ⟨hcz0, hcz1, hcz2, hcz3, hcz4, hcz5, hcz6, hfz0, hfz1, hfz2, hfz3, hfz4, hfz5, hfz6⟩ := Cz.d7 BK2
 go_wp2_with fail
 refine bodyPost_ret (results_ctt rfl _ _ g2 38 #[.int .i64 0, .int .i64 0, .int .i64 0, .slice none 0 0, .int .i64 0, .int .i64 0, .int .i64 0] (0, 0) _ rfl (by apply Cz.a7; exact BK2.out) Try.underlying38 rfl (by kernel_rfl)) rfl ?_
 exact ⟨.slice none 0 0, rfl, Kd.R_nil _ _ _ _ _, below_set (below_set (below_set (below_set (below_set (below_set (below_set (HB.out) GE.out) GE.out) GE.out) GE.out) GE.out) GE.out) GE.out⟩
set_option maxRecDepth 100000 in
set_option maxHeartbeats 4000000 in
theorem frame_Read.head_no (A0 : Option Addr) (c0 : Nat) (l : List Int) (t : List Int) (n1 s A B C : Int) (w : World) (hr : Kd.C (Kd.int .u8) w A0 l.length l) (hc : l.length ≤ c0) (hl3 : 3 ≤ l.length) (hu : le_Unpack.f (⟨#[98, 104]⟩ : ByteArray) (l.take 3) = some ([1, n1], 0)) (e1 : wrap64 n1 = n1) (hs : wrap64 (n1 + 7) = s) (h7 : s ≤ (l.length : Int)) (h70 : 0 ≤ s) (hp : crc_Open.f (l.take s.toNat) = some (t, 0)) (ht3 : 3 ≤ t.length) (e0 : wrap64 1 = 1) (hd : frame_Rd.f 1 (t.drop 3) = some (1, 0, 0, [], A, B, C)) (hm : frame_head_may.f A B C = some false) : Calls Try.prog 21 #[.slice A0 l.length c0] w fun e w' => ∃ v3_ : Value, e = .returned (.tuple #[.agg #[.int .i64 0, .int .i64 0, .int .i64 0, v3_, .int .i64 0, .int .i64 0, .int .i64 0], .int .i64 0, .int .i64 160]) ∧ Kd.R (Kd.int .u8) 5 w' w.heap.size (fun _ => True) v3_ [] ∧ Below w.heap.size w w' := by
 have hu0 := Try.underlying38
 have HR := Aside0.mk hr
 have HC := Aside0.mk hc
 have HB := Aside0.mk (Below.refl w.heap.size w)
 have b3 : decide ((l.length : Int) < 3) = false := decide_eq_false (by omega)
 have b3n : decide (l.length < 3) = false := decide_eq_false (by omega)
 have e1w : IntKind.i64.wrap n1 = n1 := (i64_w _).trans e1
 have hsw : IntKind.i64.wrap (n1 + 7) = s := (i64_w _).trans hs
 obtain ⟨i0_, hi0_, _, hsz_, _⟩ := info_parts info5
 obtain ⟨hcut3, hA3, hC3⟩ := print_take_of (P := Try.prog) (Value.int .u8) 0 27 5 .i64 Try.underlying27 hi0_ hsz_ A0 c0 l 3 (by omega) (by omega) hc
 have hr3 := Kd.C_of_reads (h1 := fun _ => rfl) (hA3 _ (Kd.reads_of_C hr))
 clear hA3
 rw [show (3 : Int).toNat = 3 from rfl] at hcut3 hr3 hC3
 obtain ⟨m3, hm3⟩ : ∃ m, m = l.take 3 := ⟨_, rfl⟩
 rw [← hm3] at hcut3 hr3 hC3 hu
 have HR3 := Aside0.mk hr3
 have HC3 := Aside0.mk hC3
 have HU := Aside0.mk hu
 clear hr3 hC3 hm3 hu
 obtain ⟨hcut7, hA7, hC7⟩ := print_take_of (P := Try.prog) (Value.int .u8) 0 27 5 .i64 Try.underlying27 hi0_ hsz_ A0 c0 l s (by omega) (by omega) hc
 have hr7 := Kd.C_of_reads (h1 := fun _ => rfl) (hA7 _ (Kd.reads_of_C hr))
 clear hA7
 obtain ⟨m7, hm7⟩ : ∃ m, m = l.take s.toNat := ⟨_, rfl⟩
 rw [← hm7] at hcut7 hr7 hC7 hp
 have HR7 := Aside0.mk hr7
 have HC7 := Aside0.mk hC7
 have HP := Aside0.mk hp
 clear hr7 hC7 hm7 hp
 have e0w : IntKind.i64.wrap 1 = 1 := (i64_w _).trans e0
 have HD := Aside0.mk hd
 have b7 : decide ((l.length : Int) < s) = false := decide_eq_false (by omega)
 have HM := Aside0.mk hm
 clear hm
 have T3 := Aside0.mk ht3
 clear hr hc hl3 h7 h70 hd ht3
 go_enter Try.func21, Try.ntmps21
 go_upto_region 12 with (first | ((with_reducible refine gate_dst (N := 2) rfl ?_); refine Cz.bx (N := 2) #[.int .i64 0, .int .i64 0, .int .i64 0, .slice none 0 0, .int .i64 0, .int .i64 0, .int .i64 0] 38 ?_; intro g2 hg w1 hbox hb; have BK2 := Aside0.mk hbox; have GE := Aside0.mk (show w.heap.size ≤ g2 by rw [hg]; exact Nat.le_refl _); replace HB := Cz.bs (w := w) hb; clear hb hbox hg) | (go_at_call 44; refine (le_Unpack.calls (⟨#[98, 104]⟩ : ByteArray) A0 c0 m3 [1, n1] 0 _ (Kd.C_below HR3.out HB.out) HC3.out HU.out).mono ?_; rintro e w2 ⟨v, rfl, ho, hb⟩; have HN := Aside0.mk (Kd.R_lower ho (below_size HB.out)); replace BK2 := Cz.bk BK2 hb; replace HB := Cz.bs (w := w) hb; clear hb; clear ho; obtain ⟨An, cn, rfl⟩ := Kd.R_slice HN.out; have hro := (Kd.R_reads' HN.out).2.2; obtain ⟨ad, ea, hx0⟩ := Kd.at_int hro 0 (by decide) (by simp); cases ea; obtain ⟨ad1, ea, hx1⟩ := Kd.at_int hro 1 (by decide) (by simp); obtain rfl : ad = ad1 := (by injection ea); clear ea hro; simp only [show (0 : Int).toNat = 0 from rfl, Addr.add_zero', show rd ([1, n1] : List Int) 0 = 1 from rfl] at hx0; simp only [show (1 : Int).toNat = 1 from rfl, Nat.reduceMul, Nat.reduceEqDiff, Go.Addr.add, ↓reduceIte, show rd ([1, n1] : List Int) 1 = n1 from rfl] at hx1) | (go_at_call 45; refine (crc_Open.calls A0 c0 m7 t 0 _ (Kd.C_below HR7.out HB.out) HC7.out HP.out).mono ?_; rintro e w3 ⟨v, rfl, ho, hb⟩; have HT := Aside0.mk (Kd.R_lower ho (below_size HB.out)); replace BK2 := Cz.bk BK2 hb; replace HN := Aside0.mk (Kd.R_below HN.out hb); replace hx0 := (hb.cell (World.block_lt_of_cell? _ _ hx0)).trans hx0; replace HB := Cz.bs (w := w) hb; clear hb; clear ho; obtain ⟨At, ct, rfl⟩ := Kd.R_slice HT.out; clear hx1))
 obtain ⟨A8, hcut8, hA8, hC8⟩ := print_drop_of (P := Try.prog) (Value.int .u8) 0 27 5 .i64 Try.underlying27 hi0_ hsz_ At ct t 3 (by omega) (by have := T3.out; omega) (Kd.R_reads' HT.out).2.1
 have hr8 := Kd.C_of_reads (h1 := fun _ => rfl) (hA8 _ (Kd.reads_of_C (Kd.R_reads' HT.out).2.2))
 clear hA8
 rw [show (3 : Int).toNat = 3 from rfl] at hcut8 hr8 hC8
 obtain ⟨m8, hm8⟩ : ∃ m, m = t.drop 3 := ⟨_, rfl⟩
 rw [← hm8] at hcut8 hr8 hC8
 have HD8 : Aside0 (frame_Rd.f 1 m8 = some (1, 0, 0, [], A, B, C)) := ⟨by rw [hm8]; exact HD.out⟩
 have HR8 := Aside0.mk hr8
 have HC8 := Aside0.mk hC8
 clear hr8 hC8 hm8 hi0_ hsz_ HD
 have T4 : (3 : Int) ≤ (t.length : Int) := by have := T3.out; omega
 have b8 : decide ((3 : Int) ≤ (t.length : Int)) = true := decide_eq_true T4
 clear T4
 replace BK2 := Aside0.mk (blk_drew BK2.out)
 replace HR8 := Aside0.mk (Kd.C_drew HR8.out)
 replace HB := Aside0.mk (below_drew HB.out)
 refine start_ (n := 8) (S := fun w' => w'.cell? ad = some (.int .u64 1)) (ds := []) #[false, false, false, false, false, false, false, false] (by kernel_rfl) rfl rfl (hx0) (fun hHeld => ?_)
 generalize w3.drew = wd at HB BK2 HR8 hHeld ⊢
 clear hx0
 refine Cz.rP 0 43 ?_
 refine Cz.rP 1 44 ?_
 refine Cz.rP 4 47 ?_
 refine Cz.rP 5 48 ?_
 refine Cz.rT 2 45 hHeld ?_
 refine Cz.rP 3 46 ?_
 refine Cz.rO (N := some 49) 6 (fun K hK => ?_)
 refine goes_ Try.func46 (by kernel_rfl) rfl #[.int .i64 1, .slice A8 m8.length (ct - 3)] (by rfl) rfl rfl (by simp only [List.map_toArray, List.map_cons, List.map_nil]; rfl) ?_
 refine (frame_Rd.calls 1 A8 (ct - 3) m8 1 0 0 [] A B C _ HR8.out HC8.out HD8.out).mono ?_
 rintro e w5 ⟨v3, rfl, ho, hb⟩
 refine ⟨_, rfl, ?_⟩
 obtain ⟨Av, cv, rfl⟩ := Kd.R_slice ho
 have HO3 := Aside0.mk (Kd.R_lower ho (below_size HB.out))
 have hx0 := (hb.cell (World.block_lt_of_cell? _ _ hHeld)).trans hHeld
 replace BK2 := Cz.bk BK2 hb
 replace HB := Cz.bs (w := w) hb
 clear ho hb
 rw [show bodyV 1 0 0 (.slice Av ([] : List Int).length cv) A B C = .iface 93 (.agg #[.int .i64 A, .int .i64 B, .int .i64 C]) from rfl]
 refine hK.out _ _ (hx0) (fun hHeld => ?_)
 clear hK K
 refine Cz.nm (some 49) ?_
 refine Cz.rP 7 9 ?_
 refine done_ (by kernel_rfl) ?_
 have hx0 := hHeld
 clear hHeld
 go_wp2_with ((go_at_call 109; refine (frame_head_may.calls _ _ _ _ _ HM.out).mono ?_; rintro e w6 ⟨rfl, hb⟩; replace BK2 := Cz.bk BK2 hb; replace HO3 := Aside0.mk (Kd.R_below HO3.out hb); replace hx0 := (hb.cell (World.block_lt_of_cell? _ _ hx0)).trans hx0; replace HB := Cz.bs (w := w) hb; clear hb; obtain ⟨hcz0, hcz1, hcz2, hcz3, hcz4, hcz5, hcz6, hfz0, hfz1, hfz2, hfz3, hfz4, hfz5, hfz6⟩ := Cz.d7 BK2))
 refine bodyPost_ret (results_ctt rfl _ _ g2 38 #[.int .i64 0, .int .i64 0, .int .i64 0, .slice none 0 0, .int .i64 0, .int .i64 0, .int .i64 0] (0, 0) _ rfl (by apply Cz.a7; exact BK2.out) Try.underlying38 rfl (by kernel_rfl)) rfl ?_
 exact ⟨.slice none 0 0, rfl, Kd.R_nil _ _ _ _ _, below_set (below_set (below_set (below_set (below_set (below_set (below_set (HB.out) GE.out) GE.out) GE.out) GE.out) GE.out) GE.out) GE.out⟩
set_option maxRecDepth 100000 in
set_option maxHeartbeats 4000000 in
theorem frame_Read.head (A0 : Option Addr) (c0 : Nat) (l : List Int) (t : List Int) (n1 s A B C : Int) (w : World) (hr : Kd.C (Kd.int .u8) w A0 l.length l) (hc : l.length ≤ c0) (hl3 : 3 ≤ l.length) (hu : le_Unpack.f (⟨#[98, 104]⟩ : ByteArray) (l.take 3) = some ([1, n1], 0)) (e1 : wrap64 n1 = n1) (hs : wrap64 (n1 + 7) = s) (h7 : s ≤ (l.length : Int)) (h70 : 0 ≤ s) (hp : crc_Open.f (l.take s.toNat) = some (t, 0)) (ht3 : 3 ≤ t.length) (e0 : wrap64 1 = 1) (hd : frame_Rd.f 1 (t.drop 3) = some (1, 0, 0, [], A, B, C)) (hm : frame_head_may.f A B C = some true) : Calls Try.prog 21 #[.slice A0 l.length c0] w fun e w' => ∃ v3_ : Value, e = .returned (.tuple #[.agg #[.int .i64 1, .int .i64 0, .int .i64 0, v3_, .int .i64 A, .int .i64 B, .int .i64 C], .int .i64 s, .int .i64 0]) ∧ Kd.R (Kd.int .u8) 5 w' w.heap.size (fun _ => True) v3_ [] ∧ Below w.heap.size w w' := by
 have hu0 := Try.underlying38
 have HR := Aside0.mk hr
 have HC := Aside0.mk hc
 have HB := Aside0.mk (Below.refl w.heap.size w)
 have b3 : decide ((l.length : Int) < 3) = false := decide_eq_false (by omega)
 have b3n : decide (l.length < 3) = false := decide_eq_false (by omega)
 have e1w : IntKind.i64.wrap n1 = n1 := (i64_w _).trans e1
 have hsw : IntKind.i64.wrap (n1 + 7) = s := (i64_w _).trans hs
 obtain ⟨i0_, hi0_, _, hsz_, _⟩ := info_parts info5
 obtain ⟨hcut3, hA3, hC3⟩ := print_take_of (P := Try.prog) (Value.int .u8) 0 27 5 .i64 Try.underlying27 hi0_ hsz_ A0 c0 l 3 (by omega) (by omega) hc
 have hr3 := Kd.C_of_reads (h1 := fun _ => rfl) (hA3 _ (Kd.reads_of_C hr))
 clear hA3
 rw [show (3 : Int).toNat = 3 from rfl] at hcut3 hr3 hC3
 obtain ⟨m3, hm3⟩ : ∃ m, m = l.take 3 := ⟨_, rfl⟩
 rw [← hm3] at hcut3 hr3 hC3 hu
 have HR3 := Aside0.mk hr3
 have HC3 := Aside0.mk hC3
 have HU := Aside0.mk hu
 clear hr3 hC3 hm3 hu
 obtain ⟨hcut7, hA7, hC7⟩ := print_take_of (P := Try.prog) (Value.int .u8) 0 27 5 .i64 Try.underlying27 hi0_ hsz_ A0 c0 l s (by omega) (by omega) hc
 have hr7 := Kd.C_of_reads (h1 := fun _ => rfl) (hA7 _ (Kd.reads_of_C hr))
 clear hA7
 obtain ⟨m7, hm7⟩ : ∃ m, m = l.take s.toNat := ⟨_, rfl⟩
 rw [← hm7] at hcut7 hr7 hC7 hp
 have HR7 := Aside0.mk hr7
 have HC7 := Aside0.mk hC7
 have HP := Aside0.mk hp
 clear hr7 hC7 hm7 hp
 have e0w : IntKind.i64.wrap 1 = 1 := (i64_w _).trans e0
 have HD := Aside0.mk hd
 have b7 : decide ((l.length : Int) < s) = false := decide_eq_false (by omega)
 have HM := Aside0.mk hm
 clear hm
 have T3 := Aside0.mk ht3
 clear hr hc hl3 h7 h70 hd ht3
 go_enter Try.func21, Try.ntmps21
 go_upto_region 12 with (first | ((with_reducible refine gate_dst (N := 2) rfl ?_); refine Cz.bx (N := 2) #[.int .i64 0, .int .i64 0, .int .i64 0, .slice none 0 0, .int .i64 0, .int .i64 0, .int .i64 0] 38 ?_; intro g2 hg w1 hbox hb; have BK2 := Aside0.mk hbox; have GE := Aside0.mk (show w.heap.size ≤ g2 by rw [hg]; exact Nat.le_refl _); replace HB := Cz.bs (w := w) hb; clear hb hbox hg) | (go_at_call 44; refine (le_Unpack.calls (⟨#[98, 104]⟩ : ByteArray) A0 c0 m3 [1, n1] 0 _ (Kd.C_below HR3.out HB.out) HC3.out HU.out).mono ?_; rintro e w2 ⟨v, rfl, ho, hb⟩; have HN := Aside0.mk (Kd.R_lower ho (below_size HB.out)); replace BK2 := Cz.bk BK2 hb; replace HB := Cz.bs (w := w) hb; clear hb; clear ho; obtain ⟨An, cn, rfl⟩ := Kd.R_slice HN.out; have hro := (Kd.R_reads' HN.out).2.2; obtain ⟨ad, ea, hx0⟩ := Kd.at_int hro 0 (by decide) (by simp); cases ea; obtain ⟨ad1, ea, hx1⟩ := Kd.at_int hro 1 (by decide) (by simp); obtain rfl : ad = ad1 := (by injection ea); clear ea hro; simp only [show (0 : Int).toNat = 0 from rfl, Addr.add_zero', show rd ([1, n1] : List Int) 0 = 1 from rfl] at hx0; simp only [show (1 : Int).toNat = 1 from rfl, Nat.reduceMul, Nat.reduceEqDiff, Go.Addr.add, ↓reduceIte, show rd ([1, n1] : List Int) 1 = n1 from rfl] at hx1) | (go_at_call 45; refine (crc_Open.calls A0 c0 m7 t 0 _ (Kd.C_below HR7.out HB.out) HC7.out HP.out).mono ?_; rintro e w3 ⟨v, rfl, ho, hb⟩; have HT := Aside0.mk (Kd.R_lower ho (below_size HB.out)); replace BK2 := Cz.bk BK2 hb; replace HN := Aside0.mk (Kd.R_below HN.out hb); replace hx0 := (hb.cell (World.block_lt_of_cell? _ _ hx0)).trans hx0; replace HB := Cz.bs (w := w) hb; clear hb; clear ho; obtain ⟨At, ct, rfl⟩ := Kd.R_slice HT.out; clear hx1))
 obtain ⟨A8, hcut8, hA8, hC8⟩ := print_drop_of (P := Try.prog) (Value.int .u8) 0 27 5 .i64 Try.underlying27 hi0_ hsz_ At ct t 3 (by omega) (by have := T3.out; omega) (Kd.R_reads' HT.out).2.1
 have hr8 := Kd.C_of_reads (h1 := fun _ => rfl) (hA8 _ (Kd.reads_of_C (Kd.R_reads' HT.out).2.2))
 clear hA8
 rw [show (3 : Int).toNat = 3 from rfl] at hcut8 hr8 hC8
 obtain ⟨m8, hm8⟩ : ∃ m, m = t.drop 3 := ⟨_, rfl⟩
 rw [← hm8] at hcut8 hr8 hC8
 have HD8 : Aside0 (frame_Rd.f 1 m8 = some (1, 0, 0, [], A, B, C)) := ⟨by rw [hm8]; exact HD.out⟩
 have HR8 := Aside0.mk hr8
 have HC8 := Aside0.mk hC8
 clear hr8 hC8 hm8 hi0_ hsz_ HD
 have T4 : (3 : Int) ≤ (t.length : Int) := by have := T3.out; omega
 have b8 : decide ((3 : Int) ≤ (t.length : Int)) = true := decide_eq_true T4
 clear T4
 replace BK2 := Aside0.mk (blk_drew BK2.out)
 replace HR8 := Aside0.mk (Kd.C_drew HR8.out)
 replace HB := Aside0.mk (below_drew HB.out)
 refine start_ (n := 8) (S := fun w' => w'.cell? ad = some (.int .u64 1)) (ds := []) #[false, false, false, false, false, false, false, false] (by kernel_rfl) rfl rfl (hx0) (fun hHeld => ?_)
 generalize w3.drew = wd at HB BK2 HR8 hHeld ⊢
 clear hx0
 refine Cz.rP 0 43 ?_
 refine Cz.rP 1 44 ?_
 refine Cz.rP 4 47 ?_
 refine Cz.rP 5 48 ?_
 refine Cz.rT 2 45 hHeld ?_
 refine Cz.rP 3 46 ?_
 refine Cz.rO (N := some 49) 6 (fun K hK => ?_)
 refine goes_ Try.func46 (by kernel_rfl) rfl #[.int .i64 1, .slice A8 m8.length (ct - 3)] (by rfl) rfl rfl (by simp only [List.map_toArray, List.map_cons, List.map_nil]; rfl) ?_
 refine (frame_Rd.calls 1 A8 (ct - 3) m8 1 0 0 [] A B C _ HR8.out HC8.out HD8.out).mono ?_
 rintro e w5 ⟨v3, rfl, ho, hb⟩
 refine ⟨_, rfl, ?_⟩
 obtain ⟨Av, cv, rfl⟩ := Kd.R_slice ho
 have HO3 := Aside0.mk (Kd.R_lower ho (below_size HB.out))
 have hx0 := (hb.cell (World.block_lt_of_cell? _ _ hHeld)).trans hHeld
 replace BK2 := Cz.bk BK2 hb
 replace HB := Cz.bs (w := w) hb
 clear ho hb
 rw [show bodyV 1 0 0 (.slice Av ([] : List Int).length cv) A B C = .iface 93 (.agg #[.int .i64 A, .int .i64 B, .int .i64 C]) from rfl]
 refine hK.out _ _ (hx0) (fun hHeld => ?_)
 clear hK K
 refine Cz.nm (some 49) ?_
 refine Cz.rP 7 9 ?_
 refine done_ (by kernel_rfl) ?_
 have hx0 := hHeld
 clear hHeld
 go_wp2_with (first | (go_at_call 109; refine (frame_head_may.calls _ _ _ _ _ HM.out).mono ?_; rintro e w6 ⟨rfl, hb⟩; replace BK2 := Cz.bk BK2 hb; replace HO3 := Aside0.mk (Kd.R_below HO3.out hb); replace hx0 := (hb.cell (World.block_lt_of_cell? _ _ hx0)).trans hx0; replace HB := Cz.bs (w := w) hb; clear hb) | (go_at_call 47; refine (frame_framed.head _ _ _ _ _).mono ?_; rintro e w7 ⟨rfl, hb⟩; replace BK2 := Cz.bk BK2 hb; replace HO3 := Aside0.mk (Kd.R_below HO3.out hb); replace HB := Cz.bs (w := w) hb; clear hb; obtain ⟨hcz0, hcz1, hcz2, hcz3, hcz4, hcz5, hcz6, hfz0, hfz1, hfz2, hfz3, hfz4, hfz5, hfz6⟩ := Cz.d7 BK2))
 refine bodyPost_ret (results_ctt rfl _ _ g2 38 #[.int .i64 1, .int .i64 0, .int .i64 0, .slice none 0 0, .int .i64 A, .int .i64 B, .int .i64 C] (0, 0) _ rfl (by apply Cz.a7; exact BK2.out) Try.underlying38 rfl (by kernel_rfl)) rfl ?_
 exact ⟨.slice none 0 0, rfl, Kd.R_nil _ _ _ _ _, below_set (below_set (below_set (below_set (below_set (below_set (below_set (HB.out) GE.out) GE.out) GE.out) GE.out) GE.out) GE.out) GE.out⟩
set_option maxRecDepth 100000 in
set_option maxHeartbeats 4000000 in
theorem frame_Read.blocks_no (A0 : Option Addr) (c0 : Nat) (l : List Int) (t : List Int) (k a n n1 s : Int) (d : List Int) (kk_ : Nat) (w : World) (hr : Kd.C (Kd.int .u8) w A0 l.length l) (hc : l.length ≤ c0) (hl3 : 3 ≤ l.length) (hu : le_Unpack.f (⟨#[98, 104]⟩ : ByteArray) (l.take 3) = some ([k, n1], 0)) (e1 : wrap64 n1 = n1) (hs : wrap64 (n1 + 7) = s) (h7 : s ≤ (l.length : Int)) (h70 : 0 ≤ s) (hp : crc_Open.f (l.take s.toNat) = some (t, 0)) (ht3 : 3 ≤ t.length) (e0 : wrap64 k = k) (hd : frame_Rd.f k (t.drop 3) = some (k, a, n, d, 0, 0, 0)) (hm : frame_blocks_may.f kk_ k a n d = some false) (hk : k = 2 ∨ k = 3 ∨ k = 4) : Calls Try.prog 21 #[.slice A0 l.length c0] w fun e w' => ∃ v3_ : Value, e = .returned (.tuple #[.agg #[.int .i64 0, .int .i64 0, .int .i64 0, v3_, .int .i64 0, .int .i64 0, .int .i64 0], .int .i64 0, .int .i64 160]) ∧ Kd.R (Kd.int .u8) 5 w' w.heap.size (fun _ => True) v3_ [] ∧ Below w.heap.size w w' := by
 have hu0 := Try.underlying38
 have HR := Aside0.mk hr
 have HC := Aside0.mk hc
 have HB := Aside0.mk (Below.refl w.heap.size w)
 have b3 : decide ((l.length : Int) < 3) = false := decide_eq_false (by omega)
 have b3n : decide (l.length < 3) = false := decide_eq_false (by omega)
 have e1w : IntKind.i64.wrap n1 = n1 := (i64_w _).trans e1
 have hsw : IntKind.i64.wrap (n1 + 7) = s := (i64_w _).trans hs
 obtain ⟨i0_, hi0_, _, hsz_, _⟩ := info_parts info5
 obtain ⟨hcut3, hA3, hC3⟩ := print_take_of (P := Try.prog) (Value.int .u8) 0 27 5 .i64 Try.underlying27 hi0_ hsz_ A0 c0 l 3 (by omega) (by omega) hc
 have hr3 := Kd.C_of_reads (h1 := fun _ => rfl) (hA3 _ (Kd.reads_of_C hr))
 clear hA3
 rw [show (3 : Int).toNat = 3 from rfl] at hcut3 hr3 hC3
 obtain ⟨m3, hm3⟩ : ∃ m, m = l.take 3 := ⟨_, rfl⟩
 rw [← hm3] at hcut3 hr3 hC3 hu
 have HR3 := Aside0.mk hr3
 have HC3 := Aside0.mk hC3
 have HU := Aside0.mk hu
 clear hr3 hC3 hm3 hu
 obtain ⟨hcut7, hA7, hC7⟩ := print_take_of (P := Try.prog) (Value.int .u8) 0 27 5 .i64 Try.underlying27 hi0_ hsz_ A0 c0 l s (by omega) (by omega) hc
 have hr7 := Kd.C_of_reads (h1 := fun _ => rfl) (hA7 _ (Kd.reads_of_C hr))
 clear hA7
 obtain ⟨m7, hm7⟩ : ∃ m, m = l.take s.toNat := ⟨_, rfl⟩
 rw [← hm7] at hcut7 hr7 hC7 hp
 have HR7 := Aside0.mk hr7
 have HC7 := Aside0.mk hC7
 have HP := Aside0.mk hp
 clear hr7 hC7 hm7 hp
 have e0w : IntKind.i64.wrap k = k := (i64_w _).trans e0
 have HD := Aside0.mk hd
 have b7 : decide ((l.length : Int) < s) = false := decide_eq_false (by omega)
 have HM := Aside0.mk hm
 clear hm
 have HV := Aside0.mk (fun v : Value => bodyV_blocks hk a n v 0 0 0)
 clear hk
 have T3 := Aside0.mk ht3
 clear hr hc hl3 h7 h70 hd ht3
 go_enter Try.func21, Try.ntmps21
 go_upto_region 12 with (first | ((with_reducible refine gate_dst (N := 2) rfl ?_); refine Cz.bx (N := 2) #[.int .i64 0, .int .i64 0, .int .i64 0, .slice none 0 0, .int .i64 0, .int .i64 0, .int .i64 0] 38 ?_; intro g2 hg w1 hbox hb; have BK2 := Aside0.mk hbox; have GE := Aside0.mk (show w.heap.size ≤ g2 by rw [hg]; exact Nat.le_refl _); replace HB := Cz.bs (w := w) hb; clear hb hbox hg) | (go_at_call 44; refine (le_Unpack.calls (⟨#[98, 104]⟩ : ByteArray) A0 c0 m3 [k, n1] 0 _ (Kd.C_below HR3.out HB.out) HC3.out HU.out).mono ?_; rintro e w2 ⟨v, rfl, ho, hb⟩; have HN := Aside0.mk (Kd.R_lower ho (below_size HB.out)); replace BK2 := Cz.bk BK2 hb; replace HB := Cz.bs (w := w) hb; clear hb; clear ho; obtain ⟨An, cn, rfl⟩ := Kd.R_slice HN.out; have hro := (Kd.R_reads' HN.out).2.2; obtain ⟨ad, ea, hx0⟩ := Kd.at_int hro 0 (by decide) (by simp); cases ea; obtain ⟨ad1, ea, hx1⟩ := Kd.at_int hro 1 (by decide) (by simp); obtain rfl : ad = ad1 := (by injection ea); clear ea hro; simp only [show (0 : Int).toNat = 0 from rfl, Addr.add_zero', show rd ([k, n1] : List Int) 0 = k from rfl] at hx0; simp only [show (1 : Int).toNat = 1 from rfl, Nat.reduceMul, Nat.reduceEqDiff, Go.Addr.add, ↓reduceIte, show rd ([k, n1] : List Int) 1 = n1 from rfl] at hx1) | (go_at_call 45; refine (crc_Open.calls A0 c0 m7 t 0 _ (Kd.C_below HR7.out HB.out) HC7.out HP.out).mono ?_; rintro e w3 ⟨v, rfl, ho, hb⟩; have HT := Aside0.mk (Kd.R_lower ho (below_size HB.out)); replace BK2 := Cz.bk BK2 hb; replace HN := Aside0.mk (Kd.R_below HN.out hb); replace hx0 := (hb.cell (World.block_lt_of_cell? _ _ hx0)).trans hx0; replace HB := Cz.bs (w := w) hb; clear hb; clear ho; obtain ⟨At, ct, rfl⟩ := Kd.R_slice HT.out; clear hx1))
 obtain ⟨A8, hcut8, hA8, hC8⟩ := print_drop_of (P := Try.prog) (Value.int .u8) 0 27 5 .i64 Try.underlying27 hi0_ hsz_ At ct t 3 (by omega) (by have := T3.out; omega) (Kd.R_reads' HT.out).2.1
 have hr8 := Kd.C_of_reads (h1 := fun _ => rfl) (hA8 _ (Kd.reads_of_C (Kd.R_reads' HT.out).2.2))
 clear hA8
 rw [show (3 : Int).toNat = 3 from rfl] at hcut8 hr8 hC8
 obtain ⟨m8, hm8⟩ : ∃ m, m = t.drop 3 := ⟨_, rfl⟩
 rw [← hm8] at hcut8 hr8 hC8
 have HD8 : Aside0 (frame_Rd.f k m8 = some (k, a, n, d, 0, 0, 0)) := ⟨by rw [hm8]; exact HD.out⟩
 have HR8 := Aside0.mk hr8
 have HC8 := Aside0.mk hC8
 clear hr8 hC8 hm8 hi0_ hsz_ HD
 have T4 : (3 : Int) ≤ (t.length : Int) := by have := T3.out; omega
 have b8 : decide ((3 : Int) ≤ (t.length : Int)) = true := decide_eq_true T4
 clear T4
 replace BK2 := Aside0.mk (blk_drew BK2.out)
 replace HR8 := Aside0.mk (Kd.C_drew HR8.out)
 replace HB := Aside0.mk (below_drew HB.out)
 refine start_ (n := 8) (S := fun w' => w'.cell? ad = some (.int .u64 k)) (ds := []) #[false, false, false, false, false, false, false, false] (by kernel_rfl) rfl rfl (hx0) (fun hHeld => ?_)
 generalize w3.drew = wd at HB BK2 HR8 hHeld ⊢
 clear hx0
 refine Cz.rP 0 43 ?_
 refine Cz.rP 1 44 ?_
 refine Cz.rP 4 47 ?_
 refine Cz.rP 5 48 ?_
 refine Cz.rT 2 45 hHeld ?_
 refine Cz.rP 3 46 ?_
 refine Cz.rO (N := some 49) 6 (fun K hK => ?_)
 refine goes_ Try.func46 (by kernel_rfl) rfl #[.int .i64 k, .slice A8 m8.length (ct - 3)] (by rfl) rfl rfl (by simp only [List.map_toArray, List.map_cons, List.map_nil]; rfl) ?_
 refine (frame_Rd.calls k A8 (ct - 3) m8 k a n d 0 0 0 _ HR8.out HC8.out HD8.out).mono ?_
 rintro e w5 ⟨v3, rfl, ho, hb⟩
 refine ⟨_, rfl, ?_⟩
 obtain ⟨Av, cv, rfl⟩ := Kd.R_slice ho
 have HO3 := Aside0.mk (Kd.R_lower ho (below_size HB.out))
 have hx0 := (hb.cell (World.block_lt_of_cell? _ _ hHeld)).trans hHeld
 replace BK2 := Cz.bk BK2 hb
 replace HB := Cz.bs (w := w) hb
 clear ho hb
 rw [HV.out]
 refine hK.out _ _ (hx0) (fun hHeld => ?_)
 clear hK K
 refine Cz.nm (some 49) ?_
 refine Cz.rP 7 9 ?_
 refine done_ (by kernel_rfl) ?_
 have hx0 := hHeld
 clear hHeld
 go_wp2_with ((go_at_call 112; refine (frame_blocks_may.calls kk_ _ _ _ (fun k_ => k_ < _) _ _ d _ _ (Kx.V_of_C _ _ (Kd.R_reads' HO3.out).2.1 (Kd.R_reads' HO3.out).2.2) HM.out).mono ?_; rintro e w6 ⟨rfl, hb⟩; replace BK2 := Cz.bk BK2 hb; replace HO3 := Aside0.mk (Kd.R_below HO3.out hb); replace hx0 := (hb.cell (World.block_lt_of_cell? _ _ hx0)).trans hx0; replace HB := Cz.bs (w := w) hb; clear hb; obtain ⟨hcz0, hcz1, hcz2, hcz3, hcz4, hcz5, hcz6, hfz0, hfz1, hfz2, hfz3, hfz4, hfz5, hfz6⟩ := Cz.d7 BK2))
 refine bodyPost_ret (results_ctt rfl _ _ g2 38 #[.int .i64 0, .int .i64 0, .int .i64 0, .slice none 0 0, .int .i64 0, .int .i64 0, .int .i64 0] (0, 0) _ rfl (by apply Cz.a7; exact BK2.out) Try.underlying38 rfl (by kernel_rfl)) rfl ?_
 exact ⟨.slice none 0 0, rfl, Kd.R_nil _ _ _ _ _, below_set (below_set (below_set (below_set (below_set (below_set (below_set (HB.out) GE.out) GE.out) GE.out) GE.out) GE.out) GE.out) GE.out⟩
set_option maxRecDepth 100000 in
set_option maxHeartbeats 4000000 in
theorem frame_Read.blocks (A0 : Option Addr) (c0 : Nat) (l : List Int) (t : List Int) (k a n n1 s : Int) (d : List Int) (kk_ : Nat) (w : World) (hr : Kd.C (Kd.int .u8) w A0 l.length l) (hc : l.length ≤ c0) (hl3 : 3 ≤ l.length) (hu : le_Unpack.f (⟨#[98, 104]⟩ : ByteArray) (l.take 3) = some ([k, n1], 0)) (e1 : wrap64 n1 = n1) (hs : wrap64 (n1 + 7) = s) (h7 : s ≤ (l.length : Int)) (h70 : 0 ≤ s) (hp : crc_Open.f (l.take s.toNat) = some (t, 0)) (ht3 : 3 ≤ t.length) (e0 : wrap64 k = k) (hd : frame_Rd.f k (t.drop 3) = some (k, a, n, d, 0, 0, 0)) (hm : frame_blocks_may.f kk_ k a n d = some true) (hk : k = 2 ∨ k = 3 ∨ k = 4) : Calls Try.prog 21 #[.slice A0 l.length c0] w fun e w' => ∃ v3_ : Value, e = .returned (.tuple #[.agg #[.int .i64 k, .int .i64 a, .int .i64 n, v3_, .int .i64 0, .int .i64 0, .int .i64 0], .int .i64 s, .int .i64 0]) ∧ Kd.R (Kd.int .u8) 5 w' w.heap.size (fun _ => True) v3_ d ∧ Below w.heap.size w w' := by
 have hu0 := Try.underlying38
 have HR := Aside0.mk hr
 have HC := Aside0.mk hc
 have HB := Aside0.mk (Below.refl w.heap.size w)
 have b3 : decide ((l.length : Int) < 3) = false := decide_eq_false (by omega)
 have b3n : decide (l.length < 3) = false := decide_eq_false (by omega)
 have e1w : IntKind.i64.wrap n1 = n1 := (i64_w _).trans e1
 have hsw : IntKind.i64.wrap (n1 + 7) = s := (i64_w _).trans hs
 obtain ⟨i0_, hi0_, _, hsz_, _⟩ := info_parts info5
 obtain ⟨hcut3, hA3, hC3⟩ := print_take_of (P := Try.prog) (Value.int .u8) 0 27 5 .i64 Try.underlying27 hi0_ hsz_ A0 c0 l 3 (by omega) (by omega) hc
 have hr3 := Kd.C_of_reads (h1 := fun _ => rfl) (hA3 _ (Kd.reads_of_C hr))
 clear hA3
 rw [show (3 : Int).toNat = 3 from rfl] at hcut3 hr3 hC3
 obtain ⟨m3, hm3⟩ : ∃ m, m = l.take 3 := ⟨_, rfl⟩
 rw [← hm3] at hcut3 hr3 hC3 hu
 have HR3 := Aside0.mk hr3
 have HC3 := Aside0.mk hC3
 have HU := Aside0.mk hu
 clear hr3 hC3 hm3 hu
 obtain ⟨hcut7, hA7, hC7⟩ := print_take_of (P := Try.prog) (Value.int .u8) 0 27 5 .i64 Try.underlying27 hi0_ hsz_ A0 c0 l s (by omega) (by omega) hc
 have hr7 := Kd.C_of_reads (h1 := fun _ => rfl) (hA7 _ (Kd.reads_of_C hr))
 clear hA7
 obtain ⟨m7, hm7⟩ : ∃ m, m = l.take s.toNat := ⟨_, rfl⟩
 rw [← hm7] at hcut7 hr7 hC7 hp
 have HR7 := Aside0.mk hr7
 have HC7 := Aside0.mk hC7
 have HP := Aside0.mk hp
 clear hr7 hC7 hm7 hp
 have e0w : IntKind.i64.wrap k = k := (i64_w _).trans e0
 have HD := Aside0.mk hd
 have b7 : decide ((l.length : Int) < s) = false := decide_eq_false (by omega)
 have HM := Aside0.mk hm
 clear hm
 have HV := Aside0.mk (fun v : Value => bodyV_blocks hk a n v 0 0 0)
 clear hk
 have T3 := Aside0.mk ht3
 clear hr hc hl3 h7 h70 hd ht3
 go_enter Try.func21, Try.ntmps21
 go_upto_region 12 with (first | ((with_reducible refine gate_dst (N := 2) rfl ?_); refine Cz.bx (N := 2) #[.int .i64 0, .int .i64 0, .int .i64 0, .slice none 0 0, .int .i64 0, .int .i64 0, .int .i64 0] 38 ?_; intro g2 hg w1 hbox hb; have BK2 := Aside0.mk hbox; have GE := Aside0.mk (show w.heap.size ≤ g2 by rw [hg]; exact Nat.le_refl _); replace HB := Cz.bs (w := w) hb; clear hb hbox hg) | (go_at_call 44; refine (le_Unpack.calls (⟨#[98, 104]⟩ : ByteArray) A0 c0 m3 [k, n1] 0 _ (Kd.C_below HR3.out HB.out) HC3.out HU.out).mono ?_; rintro e w2 ⟨v, rfl, ho, hb⟩; have HN := Aside0.mk (Kd.R_lower ho (below_size HB.out)); replace BK2 := Cz.bk BK2 hb; replace HB := Cz.bs (w := w) hb; clear hb; clear ho; obtain ⟨An, cn, rfl⟩ := Kd.R_slice HN.out; have hro := (Kd.R_reads' HN.out).2.2; obtain ⟨ad, ea, hx0⟩ := Kd.at_int hro 0 (by decide) (by simp); cases ea; obtain ⟨ad1, ea, hx1⟩ := Kd.at_int hro 1 (by decide) (by simp); obtain rfl : ad = ad1 := (by injection ea); clear ea hro; simp only [show (0 : Int).toNat = 0 from rfl, Addr.add_zero', show rd ([k, n1] : List Int) 0 = k from rfl] at hx0; simp only [show (1 : Int).toNat = 1 from rfl, Nat.reduceMul, Nat.reduceEqDiff, Go.Addr.add, ↓reduceIte, show rd ([k, n1] : List Int) 1 = n1 from rfl] at hx1) | (go_at_call 45; refine (crc_Open.calls A0 c0 m7 t 0 _ (Kd.C_below HR7.out HB.out) HC7.out HP.out).mono ?_; rintro e w3 ⟨v, rfl, ho, hb⟩; have HT := Aside0.mk (Kd.R_lower ho (below_size HB.out)); replace BK2 := Cz.bk BK2 hb; replace HN := Aside0.mk (Kd.R_below HN.out hb); replace hx0 := (hb.cell (World.block_lt_of_cell? _ _ hx0)).trans hx0; replace HB := Cz.bs (w := w) hb; clear hb; clear ho; obtain ⟨At, ct, rfl⟩ := Kd.R_slice HT.out; clear hx1))
 obtain ⟨A8, hcut8, hA8, hC8⟩ := print_drop_of (P := Try.prog) (Value.int .u8) 0 27 5 .i64 Try.underlying27 hi0_ hsz_ At ct t 3 (by omega) (by have := T3.out; omega) (Kd.R_reads' HT.out).2.1
 have hr8 := Kd.C_of_reads (h1 := fun _ => rfl) (hA8 _ (Kd.reads_of_C (Kd.R_reads' HT.out).2.2))
 clear hA8
 rw [show (3 : Int).toNat = 3 from rfl] at hcut8 hr8 hC8
 obtain ⟨m8, hm8⟩ : ∃ m, m = t.drop 3 := ⟨_, rfl⟩
 rw [← hm8] at hcut8 hr8 hC8
 have HD8 : Aside0 (frame_Rd.f k m8 = some (k, a, n, d, 0, 0, 0)) := ⟨by rw [hm8]; exact HD.out⟩
 have HR8 := Aside0.mk hr8
 have HC8 := Aside0.mk hC8
 clear hr8 hC8 hm8 hi0_ hsz_ HD
 have T4 : (3 : Int) ≤ (t.length : Int) := by have := T3.out; omega
 have b8 : decide ((3 : Int) ≤ (t.length : Int)) = true := decide_eq_true T4
 clear T4
 replace BK2 := Aside0.mk (blk_drew BK2.out)
 replace HR8 := Aside0.mk (Kd.C_drew HR8.out)
 replace HB := Aside0.mk (below_drew HB.out)
 refine start_ (n := 8) (S := fun w' => w'.cell? ad = some (.int .u64 k)) (ds := []) #[false, false, false, false, false, false, false, false] (by kernel_rfl) rfl rfl (hx0) (fun hHeld => ?_)
 generalize w3.drew = wd at HB BK2 HR8 hHeld ⊢
 clear hx0
 refine Cz.rP 0 43 ?_
 refine Cz.rP 1 44 ?_
 refine Cz.rP 4 47 ?_
 refine Cz.rP 5 48 ?_
 refine Cz.rT 2 45 hHeld ?_
 refine Cz.rP 3 46 ?_
 refine Cz.rO (N := some 49) 6 (fun K hK => ?_)
 refine goes_ Try.func46 (by kernel_rfl) rfl #[.int .i64 k, .slice A8 m8.length (ct - 3)] (by rfl) rfl rfl (by simp only [List.map_toArray, List.map_cons, List.map_nil]; rfl) ?_
 refine (frame_Rd.calls k A8 (ct - 3) m8 k a n d 0 0 0 _ HR8.out HC8.out HD8.out).mono ?_
 rintro e w5 ⟨v3, rfl, ho, hb⟩
 refine ⟨_, rfl, ?_⟩
 obtain ⟨Av, cv, rfl⟩ := Kd.R_slice ho
 have HO3 := Aside0.mk (Kd.R_lower ho (below_size HB.out))
 have hx0 := (hb.cell (World.block_lt_of_cell? _ _ hHeld)).trans hHeld
 replace BK2 := Cz.bk BK2 hb
 replace HB := Cz.bs (w := w) hb
 clear ho hb
 rw [HV.out]
 refine hK.out _ _ (hx0) (fun hHeld => ?_)
 clear hK K
 refine Cz.nm (some 49) ?_
 refine Cz.rP 7 9 ?_
 refine done_ (by kernel_rfl) ?_
 have hx0 := hHeld
 clear hHeld
 go_wp2_with (first | (go_at_call 112; refine (frame_blocks_may.calls kk_ _ _ _ (fun k_ => k_ < _) _ _ d _ _ (Kx.V_of_C _ _ (Kd.R_reads' HO3.out).2.1 (Kd.R_reads' HO3.out).2.2) HM.out).mono ?_; rintro e w6 ⟨rfl, hb⟩; replace BK2 := Cz.bk BK2 hb; replace HO3 := Aside0.mk (Kd.R_below HO3.out hb); replace hx0 := (hb.cell (World.block_lt_of_cell? _ _ hx0)).trans hx0; replace HB := Cz.bs (w := w) hb; clear hb) | (go_at_call 47; refine (frame_framed.blocks _ _ _ _ _ _ _ _).mono ?_; rintro e w7 ⟨rfl, hb⟩; replace BK2 := Cz.bk BK2 hb; replace HO3 := Aside0.mk (Kd.R_below HO3.out hb); replace HB := Cz.bs (w := w) hb; clear hb; obtain ⟨hcz0, hcz1, hcz2, hcz3, hcz4, hcz5, hcz6, hfz0, hfz1, hfz2, hfz3, hfz4, hfz5, hfz6⟩ := Cz.d7 BK2))
 refine bodyPost_ret (results_ctt rfl _ _ g2 38 #[.int .i64 k, .int .i64 a, .int .i64 n, .slice Av d.length cv, .int .i64 0, .int .i64 0, .int .i64 0] (0, 0) _ rfl (by apply Cz.a7; exact BK2.out) Try.underlying38 rfl (by kernel_rfl)) rfl ?_
 exact ⟨.slice Av d.length cv, rfl, Kd.R_mono (Cz.rf (Cz.rf (Cz.rf (Cz.rf (Cz.rf (Cz.rf (Cz.rf (Kd.R_types HO3.out BK2.out (by decide))))))))) (fun _ _ => trivial), below_set (below_set (below_set (below_set (below_set (below_set (below_set (HB.out) GE.out) GE.out) GE.out) GE.out) GE.out) GE.out) GE.out⟩
set_option maxRecDepth 100000 in
set_option maxHeartbeats 4000000 in
theorem frame_Read.endB_no (A0 : Option Addr) (c0 : Nat) (l : List Int) (t : List Int) (n1 s A B : Int) (w : World) (hr : Kd.C (Kd.int .u8) w A0 l.length l) (hc : l.length ≤ c0) (hl3 : 3 ≤ l.length) (hu : le_Unpack.f (⟨#[98, 104]⟩ : ByteArray) (l.take 3) = some ([5, n1], 0)) (e1 : wrap64 n1 = n1) (hs : wrap64 (n1 + 7) = s) (h7 : s ≤ (l.length : Int)) (h70 : 0 ≤ s) (hp : crc_Open.f (l.take s.toNat) = some (t, 0)) (ht3 : 3 ≤ t.length) (e0 : wrap64 5 = 5) (hd : frame_Rd.f 5 (t.drop 3) = some (5, 0, 0, [], A, B, 0)) (hm : frame_end_may.f A B = some false) : Calls Try.prog 21 #[.slice A0 l.length c0] w fun e w' => ∃ v3_ : Value, e = .returned (.tuple #[.agg #[.int .i64 0, .int .i64 0, .int .i64 0, v3_, .int .i64 0, .int .i64 0, .int .i64 0], .int .i64 0, .int .i64 160]) ∧ Kd.R (Kd.int .u8) 5 w' w.heap.size (fun _ => True) v3_ [] ∧ Below w.heap.size w w' := by
 have hu0 := Try.underlying38
 have HR := Aside0.mk hr
 have HC := Aside0.mk hc
 have HB := Aside0.mk (Below.refl w.heap.size w)
 have b3 : decide ((l.length : Int) < 3) = false := decide_eq_false (by omega)
 have b3n : decide (l.length < 3) = false := decide_eq_false (by omega)
 have e1w : IntKind.i64.wrap n1 = n1 := (i64_w _).trans e1
 have hsw : IntKind.i64.wrap (n1 + 7) = s := (i64_w _).trans hs
 obtain ⟨i0_, hi0_, _, hsz_, _⟩ := info_parts info5
 obtain ⟨hcut3, hA3, hC3⟩ := print_take_of (P := Try.prog) (Value.int .u8) 0 27 5 .i64 Try.underlying27 hi0_ hsz_ A0 c0 l 3 (by omega) (by omega) hc
 have hr3 := Kd.C_of_reads (h1 := fun _ => rfl) (hA3 _ (Kd.reads_of_C hr))
 clear hA3
 rw [show (3 : Int).toNat = 3 from rfl] at hcut3 hr3 hC3
 obtain ⟨m3, hm3⟩ : ∃ m, m = l.take 3 := ⟨_, rfl⟩
 rw [← hm3] at hcut3 hr3 hC3 hu
 have HR3 := Aside0.mk hr3
 have HC3 := Aside0.mk hC3
 have HU := Aside0.mk hu
 clear hr3 hC3 hm3 hu
 obtain ⟨hcut7, hA7, hC7⟩ := print_take_of (P := Try.prog) (Value.int .u8) 0 27 5 .i64 Try.underlying27 hi0_ hsz_ A0 c0 l s (by omega) (by omega) hc
 have hr7 := Kd.C_of_reads (h1 := fun _ => rfl) (hA7 _ (Kd.reads_of_C hr))
 clear hA7
 obtain ⟨m7, hm7⟩ : ∃ m, m = l.take s.toNat := ⟨_, rfl⟩
 rw [← hm7] at hcut7 hr7 hC7 hp
 have HR7 := Aside0.mk hr7
 have HC7 := Aside0.mk hC7
 have HP := Aside0.mk hp
 clear hr7 hC7 hm7 hp
 have e0w : IntKind.i64.wrap 5 = 5 := (i64_w _).trans e0
 have HD := Aside0.mk hd
 have b7 : decide ((l.length : Int) < s) = false := decide_eq_false (by omega)
 have HM := Aside0.mk hm
 clear hm
 have T3 := Aside0.mk ht3
 clear hr hc hl3 h7 h70 hd ht3
 go_enter Try.func21, Try.ntmps21
 go_upto_region 12 with (first | ((with_reducible refine gate_dst (N := 2) rfl ?_); refine Cz.bx (N := 2) #[.int .i64 0, .int .i64 0, .int .i64 0, .slice none 0 0, .int .i64 0, .int .i64 0, .int .i64 0] 38 ?_; intro g2 hg w1 hbox hb; have BK2 := Aside0.mk hbox; have GE := Aside0.mk (show w.heap.size ≤ g2 by rw [hg]; exact Nat.le_refl _); replace HB := Cz.bs (w := w) hb; clear hb hbox hg) | (go_at_call 44; refine (le_Unpack.calls (⟨#[98, 104]⟩ : ByteArray) A0 c0 m3 [5, n1] 0 _ (Kd.C_below HR3.out HB.out) HC3.out HU.out).mono ?_; rintro e w2 ⟨v, rfl, ho, hb⟩; have HN := Aside0.mk (Kd.R_lower ho (below_size HB.out)); replace BK2 := Cz.bk BK2 hb; replace HB := Cz.bs (w := w) hb; clear hb; clear ho; obtain ⟨An, cn, rfl⟩ := Kd.R_slice HN.out; have hro := (Kd.R_reads' HN.out).2.2; obtain ⟨ad, ea, hx0⟩ := Kd.at_int hro 0 (by decide) (by simp); cases ea; obtain ⟨ad1, ea, hx1⟩ := Kd.at_int hro 1 (by decide) (by simp); obtain rfl : ad = ad1 := (by injection ea); clear ea hro; simp only [show (0 : Int).toNat = 0 from rfl, Addr.add_zero', show rd ([5, n1] : List Int) 0 = 5 from rfl] at hx0; simp only [show (1 : Int).toNat = 1 from rfl, Nat.reduceMul, Nat.reduceEqDiff, Go.Addr.add, ↓reduceIte, show rd ([5, n1] : List Int) 1 = n1 from rfl] at hx1) | (go_at_call 45; refine (crc_Open.calls A0 c0 m7 t 0 _ (Kd.C_below HR7.out HB.out) HC7.out HP.out).mono ?_; rintro e w3 ⟨v, rfl, ho, hb⟩; have HT := Aside0.mk (Kd.R_lower ho (below_size HB.out)); replace BK2 := Cz.bk BK2 hb; replace HN := Aside0.mk (Kd.R_below HN.out hb); replace hx0 := (hb.cell (World.block_lt_of_cell? _ _ hx0)).trans hx0; replace HB := Cz.bs (w := w) hb; clear hb; clear ho; obtain ⟨At, ct, rfl⟩ := Kd.R_slice HT.out; clear hx1))
 obtain ⟨A8, hcut8, hA8, hC8⟩ := print_drop_of (P := Try.prog) (Value.int .u8) 0 27 5 .i64 Try.underlying27 hi0_ hsz_ At ct t 3 (by omega) (by have := T3.out; omega) (Kd.R_reads' HT.out).2.1
 have hr8 := Kd.C_of_reads (h1 := fun _ => rfl) (hA8 _ (Kd.reads_of_C (Kd.R_reads' HT.out).2.2))
 clear hA8
 rw [show (3 : Int).toNat = 3 from rfl] at hcut8 hr8 hC8
 obtain ⟨m8, hm8⟩ : ∃ m, m = t.drop 3 := ⟨_, rfl⟩
 rw [← hm8] at hcut8 hr8 hC8
 have HD8 : Aside0 (frame_Rd.f 5 m8 = some (5, 0, 0, [], A, B, 0)) := ⟨by rw [hm8]; exact HD.out⟩
 have HR8 := Aside0.mk hr8
 have HC8 := Aside0.mk hC8
 clear hr8 hC8 hm8 hi0_ hsz_ HD
 have T4 : (3 : Int) ≤ (t.length : Int) := by have := T3.out; omega
 have b8 : decide ((3 : Int) ≤ (t.length : Int)) = true := decide_eq_true T4
 clear T4
 replace BK2 := Aside0.mk (blk_drew BK2.out)
 replace HR8 := Aside0.mk (Kd.C_drew HR8.out)
 replace HB := Aside0.mk (below_drew HB.out)
 refine start_ (n := 8) (S := fun w' => w'.cell? ad = some (.int .u64 5)) (ds := []) #[false, false, false, false, false, false, false, false] (by kernel_rfl) rfl rfl (hx0) (fun hHeld => ?_)
 generalize w3.drew = wd at HB BK2 HR8 hHeld ⊢
 clear hx0
 refine Cz.rP 0 43 ?_
 refine Cz.rP 1 44 ?_
 refine Cz.rP 4 47 ?_
 refine Cz.rP 5 48 ?_
 refine Cz.rT 2 45 hHeld ?_
 refine Cz.rP 3 46 ?_
 refine Cz.rO (N := some 49) 6 (fun K hK => ?_)
 refine goes_ Try.func46 (by kernel_rfl) rfl #[.int .i64 5, .slice A8 m8.length (ct - 3)] (by rfl) rfl rfl (by simp only [List.map_toArray, List.map_cons, List.map_nil]; rfl) ?_
 refine (frame_Rd.calls 5 A8 (ct - 3) m8 5 0 0 [] A B 0 _ HR8.out HC8.out HD8.out).mono ?_
 rintro e w5 ⟨v3, rfl, ho, hb⟩
 refine ⟨_, rfl, ?_⟩
 obtain ⟨Av, cv, rfl⟩ := Kd.R_slice ho
 have HO3 := Aside0.mk (Kd.R_lower ho (below_size HB.out))
 have hx0 := (hb.cell (World.block_lt_of_cell? _ _ hHeld)).trans hHeld
 replace BK2 := Cz.bk BK2 hb
 replace HB := Cz.bs (w := w) hb
 clear ho hb
 rw [show bodyV 5 0 0 (.slice Av ([] : List Int).length cv) A B 0 = .iface 97 (.agg #[.int .i64 A, .int .i64 B]) from rfl]
 refine hK.out _ _ (hx0) (fun hHeld => ?_)
 clear hK K
 refine Cz.nm (some 49) ?_
 refine Cz.rP 7 9 ?_
 refine done_ (by kernel_rfl) ?_
 have hx0 := hHeld
 clear hHeld
 go_wp2_with ((go_at_call 114; refine (frame_end_may.calls _ _ _ _ HM.out).mono ?_; rintro e w6 ⟨rfl, hb⟩; replace BK2 := Cz.bk BK2 hb; replace HO3 := Aside0.mk (Kd.R_below HO3.out hb); replace hx0 := (hb.cell (World.block_lt_of_cell? _ _ hx0)).trans hx0; replace HB := Cz.bs (w := w) hb; clear hb; obtain ⟨hcz0, hcz1, hcz2, hcz3, hcz4, hcz5, hcz6, hfz0, hfz1, hfz2, hfz3, hfz4, hfz5, hfz6⟩ := Cz.d7 BK2))
 refine bodyPost_ret (results_ctt rfl _ _ g2 38 #[.int .i64 0, .int .i64 0, .int .i64 0, .slice none 0 0, .int .i64 0, .int .i64 0, .int .i64 0] (0, 0) _ rfl (by apply Cz.a7; exact BK2.out) Try.underlying38 rfl (by kernel_rfl)) rfl ?_
 exact ⟨.slice none 0 0, rfl, Kd.R_nil _ _ _ _ _, below_set (below_set (below_set (below_set (below_set (below_set (below_set (HB.out) GE.out) GE.out) GE.out) GE.out) GE.out) GE.out) GE.out⟩
set_option maxRecDepth 100000 in
set_option maxHeartbeats 4000000 in
theorem frame_Read.endB (A0 : Option Addr) (c0 : Nat) (l : List Int) (t : List Int) (n1 s A B : Int) (w : World) (hr : Kd.C (Kd.int .u8) w A0 l.length l) (hc : l.length ≤ c0) (hl3 : 3 ≤ l.length) (hu : le_Unpack.f (⟨#[98, 104]⟩ : ByteArray) (l.take 3) = some ([5, n1], 0)) (e1 : wrap64 n1 = n1) (hs : wrap64 (n1 + 7) = s) (h7 : s ≤ (l.length : Int)) (h70 : 0 ≤ s) (hp : crc_Open.f (l.take s.toNat) = some (t, 0)) (ht3 : 3 ≤ t.length) (e0 : wrap64 5 = 5) (hd : frame_Rd.f 5 (t.drop 3) = some (5, 0, 0, [], A, B, 0)) (hm : frame_end_may.f A B = some true) : Calls Try.prog 21 #[.slice A0 l.length c0] w fun e w' => ∃ v3_ : Value, e = .returned (.tuple #[.agg #[.int .i64 5, .int .i64 0, .int .i64 0, v3_, .int .i64 A, .int .i64 B, .int .i64 0], .int .i64 s, .int .i64 0]) ∧ Kd.R (Kd.int .u8) 5 w' w.heap.size (fun _ => True) v3_ [] ∧ Below w.heap.size w w' := by
 have hu0 := Try.underlying38
 have HR := Aside0.mk hr
 have HC := Aside0.mk hc
 have HB := Aside0.mk (Below.refl w.heap.size w)
 have b3 : decide ((l.length : Int) < 3) = false := decide_eq_false (by omega)
 have b3n : decide (l.length < 3) = false := decide_eq_false (by omega)
 have e1w : IntKind.i64.wrap n1 = n1 := (i64_w _).trans e1
 have hsw : IntKind.i64.wrap (n1 + 7) = s := (i64_w _).trans hs
 obtain ⟨i0_, hi0_, _, hsz_, _⟩ := info_parts info5
 obtain ⟨hcut3, hA3, hC3⟩ := print_take_of (P := Try.prog) (Value.int .u8) 0 27 5 .i64 Try.underlying27 hi0_ hsz_ A0 c0 l 3 (by omega) (by omega) hc
 have hr3 := Kd.C_of_reads (h1 := fun _ => rfl) (hA3 _ (Kd.reads_of_C hr))
 clear hA3
 rw [show (3 : Int).toNat = 3 from rfl] at hcut3 hr3 hC3
 obtain ⟨m3, hm3⟩ : ∃ m, m = l.take 3 := ⟨_, rfl⟩
 rw [← hm3] at hcut3 hr3 hC3 hu
 have HR3 := Aside0.mk hr3
 have HC3 := Aside0.mk hC3
 have HU := Aside0.mk hu
 clear hr3 hC3 hm3 hu
 obtain ⟨hcut7, hA7, hC7⟩ := print_take_of (P := Try.prog) (Value.int .u8) 0 27 5 .i64 Try.underlying27 hi0_ hsz_ A0 c0 l s (by omega) (by omega) hc
 have hr7 := Kd.C_of_reads (h1 := fun _ => rfl) (hA7 _ (Kd.reads_of_C hr))
 clear hA7
 obtain ⟨m7, hm7⟩ : ∃ m, m = l.take s.toNat := ⟨_, rfl⟩
 rw [← hm7] at hcut7 hr7 hC7 hp
 have HR7 := Aside0.mk hr7
 have HC7 := Aside0.mk hC7
 have HP := Aside0.mk hp
 clear hr7 hC7 hm7 hp
 have e0w : IntKind.i64.wrap 5 = 5 := (i64_w _).trans e0
 have HD := Aside0.mk hd
 have b7 : decide ((l.length : Int) < s) = false := decide_eq_false (by omega)
 have HM := Aside0.mk hm
 clear hm
 have T3 := Aside0.mk ht3
 clear hr hc hl3 h7 h70 hd ht3
 go_enter Try.func21, Try.ntmps21
 go_upto_region 12 with (first | ((with_reducible refine gate_dst (N := 2) rfl ?_); refine Cz.bx (N := 2) #[.int .i64 0, .int .i64 0, .int .i64 0, .slice none 0 0, .int .i64 0, .int .i64 0, .int .i64 0] 38 ?_; intro g2 hg w1 hbox hb; have BK2 := Aside0.mk hbox; have GE := Aside0.mk (show w.heap.size ≤ g2 by rw [hg]; exact Nat.le_refl _); replace HB := Cz.bs (w := w) hb; clear hb hbox hg) | (go_at_call 44; refine (le_Unpack.calls (⟨#[98, 104]⟩ : ByteArray) A0 c0 m3 [5, n1] 0 _ (Kd.C_below HR3.out HB.out) HC3.out HU.out).mono ?_; rintro e w2 ⟨v, rfl, ho, hb⟩; have HN := Aside0.mk (Kd.R_lower ho (below_size HB.out)); replace BK2 := Cz.bk BK2 hb; replace HB := Cz.bs (w := w) hb; clear hb; clear ho; obtain ⟨An, cn, rfl⟩ := Kd.R_slice HN.out; have hro := (Kd.R_reads' HN.out).2.2; obtain ⟨ad, ea, hx0⟩ := Kd.at_int hro 0 (by decide) (by simp); cases ea; obtain ⟨ad1, ea, hx1⟩ := Kd.at_int hro 1 (by decide) (by simp); obtain rfl : ad = ad1 := (by injection ea); clear ea hro; simp only [show (0 : Int).toNat = 0 from rfl, Addr.add_zero', show rd ([5, n1] : List Int) 0 = 5 from rfl] at hx0; simp only [show (1 : Int).toNat = 1 from rfl, Nat.reduceMul, Nat.reduceEqDiff, Go.Addr.add, ↓reduceIte, show rd ([5, n1] : List Int) 1 = n1 from rfl] at hx1) | (go_at_call 45; refine (crc_Open.calls A0 c0 m7 t 0 _ (Kd.C_below HR7.out HB.out) HC7.out HP.out).mono ?_; rintro e w3 ⟨v, rfl, ho, hb⟩; have HT := Aside0.mk (Kd.R_lower ho (below_size HB.out)); replace BK2 := Cz.bk BK2 hb; replace HN := Aside0.mk (Kd.R_below HN.out hb); replace hx0 := (hb.cell (World.block_lt_of_cell? _ _ hx0)).trans hx0; replace HB := Cz.bs (w := w) hb; clear hb; clear ho; obtain ⟨At, ct, rfl⟩ := Kd.R_slice HT.out; clear hx1))
 obtain ⟨A8, hcut8, hA8, hC8⟩ := print_drop_of (P := Try.prog) (Value.int .u8) 0 27 5 .i64 Try.underlying27 hi0_ hsz_ At ct t 3 (by omega) (by have := T3.out; omega) (Kd.R_reads' HT.out).2.1
 have hr8 := Kd.C_of_reads (h1 := fun _ => rfl) (hA8 _ (Kd.reads_of_C (Kd.R_reads' HT.out).2.2))
 clear hA8
 rw [show (3 : Int).toNat = 3 from rfl] at hcut8 hr8 hC8
 obtain ⟨m8, hm8⟩ : ∃ m, m = t.drop 3 := ⟨_, rfl⟩
 rw [← hm8] at hcut8 hr8 hC8
 have HD8 : Aside0 (frame_Rd.f 5 m8 = some (5, 0, 0, [], A, B, 0)) := ⟨by rw [hm8]; exact HD.out⟩
 have HR8 := Aside0.mk hr8
 have HC8 := Aside0.mk hC8
 clear hr8 hC8 hm8 hi0_ hsz_ HD
 have T4 : (3 : Int) ≤ (t.length : Int) := by have := T3.out; omega
 have b8 : decide ((3 : Int) ≤ (t.length : Int)) = true := decide_eq_true T4
 clear T4
 replace BK2 := Aside0.mk (blk_drew BK2.out)
 replace HR8 := Aside0.mk (Kd.C_drew HR8.out)
 replace HB := Aside0.mk (below_drew HB.out)
 refine start_ (n := 8) (S := fun w' => w'.cell? ad = some (.int .u64 5)) (ds := []) #[false, false, false, false, false, false, false, false] (by kernel_rfl) rfl rfl (hx0) (fun hHeld => ?_)
 generalize w3.drew = wd at HB BK2 HR8 hHeld ⊢
 clear hx0
 refine Cz.rP 0 43 ?_
 refine Cz.rP 1 44 ?_
 refine Cz.rP 4 47 ?_
 refine Cz.rP 5 48 ?_
 refine Cz.rT 2 45 hHeld ?_
 refine Cz.rP 3 46 ?_
 refine Cz.rO (N := some 49) 6 (fun K hK => ?_)
 refine goes_ Try.func46 (by kernel_rfl) rfl #[.int .i64 5, .slice A8 m8.length (ct - 3)] (by rfl) rfl rfl (by simp only [List.map_toArray, List.map_cons, List.map_nil]; rfl) ?_
 refine (frame_Rd.calls 5 A8 (ct - 3) m8 5 0 0 [] A B 0 _ HR8.out HC8.out HD8.out).mono ?_
 rintro e w5 ⟨v3, rfl, ho, hb⟩
 refine ⟨_, rfl, ?_⟩
 obtain ⟨Av, cv, rfl⟩ := Kd.R_slice ho
 have HO3 := Aside0.mk (Kd.R_lower ho (below_size HB.out))
 have hx0 := (hb.cell (World.block_lt_of_cell? _ _ hHeld)).trans hHeld
 replace BK2 := Cz.bk BK2 hb
 replace HB := Cz.bs (w := w) hb
 clear ho hb
 rw [show bodyV 5 0 0 (.slice Av ([] : List Int).length cv) A B 0 = .iface 97 (.agg #[.int .i64 A, .int .i64 B]) from rfl]
 refine hK.out _ _ (hx0) (fun hHeld => ?_)
 clear hK K
 refine Cz.nm (some 49) ?_
 refine Cz.rP 7 9 ?_
 refine done_ (by kernel_rfl) ?_
 have hx0 := hHeld
 clear hHeld
 go_wp2_with (first | (go_at_call 114; refine (frame_end_may.calls _ _ _ _ HM.out).mono ?_; rintro e w6 ⟨rfl, hb⟩; replace BK2 := Cz.bk BK2 hb; replace HO3 := Aside0.mk (Kd.R_below HO3.out hb); replace hx0 := (hb.cell (World.block_lt_of_cell? _ _ hx0)).trans hx0; replace HB := Cz.bs (w := w) hb; clear hb) | (go_at_call 47; refine (frame_framed.end _ _ _ _).mono ?_; rintro e w7 ⟨rfl, hb⟩; replace BK2 := Cz.bk BK2 hb; replace HO3 := Aside0.mk (Kd.R_below HO3.out hb); replace HB := Cz.bs (w := w) hb; clear hb; obtain ⟨hcz0, hcz1, hcz2, hcz3, hcz4, hcz5, hcz6, hfz0, hfz1, hfz2, hfz3, hfz4, hfz5, hfz6⟩ := Cz.d7 BK2))
 refine bodyPost_ret (results_ctt rfl _ _ g2 38 #[.int .i64 5, .int .i64 0, .int .i64 0, .slice none 0 0, .int .i64 A, .int .i64 B, .int .i64 0] (0, 0) _ rfl (by apply Cz.a7; exact BK2.out) Try.underlying38 rfl (by kernel_rfl)) rfl ?_
 exact ⟨.slice none 0 0, rfl, Kd.R_nil _ _ _ _ _, below_set (below_set (below_set (below_set (below_set (below_set (below_set (HB.out) GE.out) GE.out) GE.out) GE.out) GE.out) GE.out) GE.out⟩
def frame_Read.f (l0 : List Int) : Option (Int × Int × Int × List Int × Int × Int × Int × Int × Int) := if Pl.byteB l0 = true ∧ l0.length < 1073741824 then some ((Pl.freadS l0).1.1, (Pl.freadS l0).1.2.1, (Pl.freadS l0).1.2.2.1, (Pl.freadS l0).1.2.2.2.1, (Pl.freadS l0).1.2.2.2.2.1, (Pl.freadS l0).1.2.2.2.2.2.1, (Pl.freadS l0).1.2.2.2.2.2.2, (Pl.freadS l0).2.1, (Pl.freadS l0).2.2) else none
theorem frame_Read.tells {l0 : List Int} (hb : Pl.byteB l0 = true) (hl : l0.length < 1073741824) {k a n : Int} {d : List Int} {A B C m e : Int} (h : Pl.freadS l0 = ((k, a, n, d, A, B, C), m, e)) : frame_Read.f l0 = some (k, a, n, d, A, B, C, m, e) := by
 unfold frame_Read.f
 rw [if_pos ⟨hb, hl⟩, h]
theorem frame_Read.unp {l : List Int} (hb : Pl.byteB l = true) (h3 : 3 ≤ l.length) (hl : l.length < 1073741824) : le_Unpack.f (⟨#[98, 104]⟩ : ByteArray) (l.take 3) = some ([Pl.byN l 0 1, Pl.byN l 1 2], 0) := by
 unfold le_Unpack.f
 rw [if_pos ⟨Pl.byteB_take hb 3, by rw [List.length_take]; omega, by decide⟩, show Pl.fb (⟨#[98, 104]⟩ : ByteArray) = [98, 104] from by kernel_rfl, Pl.unpack_bh h3]
theorem frame_Read.calls (A0 : Option Addr) (c0 : Nat) (l0 : List Int) (r1 r2 r3 : Int) (r4 : List Int) (r5 r6 r7 r8 r9 : Int) (w : World) (hr0 : Kd.C (Kd.int .u8) w A0 l0.length l0) (hc0 : l0.length ≤ c0) (h : frame_Read.f l0 = some (r1, r2, r3, r4, r5, r6, r7, r8, r9)) :
  Calls Try.prog 21 #[.slice A0 l0.length c0] w fun e w' => ∃ v3_ : Value, e = .returned (.tuple #[.agg #[.int .i64 r1, .int .i64 r2, .int .i64 r3, v3_, .int .i64 r5, .int .i64 r6, .int .i64 r7], .int .i64 r8, .int .i64 r9]) ∧ Kd.R (Kd.int .u8) 5 w' w.heap.size (fun _ => True) v3_ r4 ∧ Below w.heap.size w w' := by
 unfold frame_Read.f at h
 split at h
 case isFalse => cases h
 rename_i hh
 obtain ⟨hb, hl⟩ := hh
 have q0 := Pl.byN_lt hb 0 1
 have q1 := Pl.byN_lt hb 1 2
 rw [show (256 ^ 1 : Nat) = 256 from rfl] at q0
 rw [show (256 ^ 2 : Nat) = 65536 from rfl] at q1
 by_cases h3 : l0.length < 3
 ·rw [show Pl.freadS l0 = (Pl.frZ, 0, 161) by rw [Pl.freadS, if_pos h3]] at h
  simp only [Pl.frZ, Option.some.injEq, Prod.mk.injEq] at h
  obtain ⟨rfl, rfl, rfl, rfl, rfl, rfl, rfl, rfl, rfl⟩ := h
  exact frame_Read.w1 A0 c0 l0 w hr0 hc0 h3
 have hu := frame_Read.unp hb (by omega) hl
 have hs : wrap64 (Pl.byN l0 1 2 + 7) = Pl.byN l0 1 2 + 7 := by unfold wrap64; omega
 have e1 : wrap64 (Pl.byN l0 1 2) = Pl.byN l0 1 2 := by unfold wrap64; omega
 have e0 : wrap64 (Pl.byN l0 0 1) = Pl.byN l0 0 1 := by unfold wrap64; omega
 by_cases h7 : l0.length < (Pl.byN l0 1 2).toNat + 7
 ·rw [show Pl.freadS l0 = (Pl.frZ, 0, 161) by rw [Pl.freadS, if_neg h3, if_pos h7]] at h
  simp only [Pl.frZ, Option.some.injEq, Prod.mk.injEq] at h
  obtain ⟨rfl, rfl, rfl, rfl, rfl, rfl, rfl, rfl, rfl⟩ := h
  exact frame_Read.w2 A0 c0 l0 _ _ _ w hr0 hc0 (by omega) hu e1 hs (by omega)
 have ho := Pl.freadS_open hb h3 h7
 obtain ⟨m, hm⟩ : ∃ m, m = (Pl.byN l0 1 2).toNat := ⟨_, rfl⟩
 have hsn : (Pl.byN l0 1 2 + 7).toNat = m + 7 := by omega
 rw [← hm] at ho h7
 have hlen : (l0.take (m + 7)).length = m + 7 := by rw [List.length_take]; omega
 have hop : crc_Open.f (l0.take (Pl.byN l0 1 2 + 7).toNat) = some (Pl.openS (l0.take (m + 7))) := by
  unfold crc_Open.f
  rw [hsn, if_pos ⟨Pl.byteB_take hb _, by rw [hlen]; omega⟩]
 by_cases hB : Pl.openB (l0.take (m + 7)) = true
 rotate_left
 ·rw [if_neg (fun e => hB e.1)] at ho
  rw [ho] at h
  simp only [Pl.frZ, Option.some.injEq, Prod.mk.injEq] at h
  obtain ⟨rfl, rfl, rfl, rfl, rfl, rfl, rfl, rfl, rfl⟩ := h
  rw [Pl.openS, if_neg hB] at hop
  exact frame_Read.w3 A0 c0 l0 _ _ _ w hr0 hc0 (by omega) hu e1 hs (by omega) (by omega) hop
 rw [Pl.openS, if_pos hB, hlen, show m + 7 - 4 = m + 3 by omega, List.take_take, show min (m + 3) (m + 7) = m + 3 by omega] at hop
 have htd : (l0.take (m + 3)).drop 3 = (l0.drop 3).take m := by rw [List.drop_take, show m + 3 - 3 = m by omega]
 have htl : (l0.take (m + 3)).length = m + 3 := by rw [List.length_take]; omega
 obtain ⟨T, hT⟩ : ∃ T, T = (l0.drop 3).take m := ⟨_, rfl⟩
 have hTb : Pl.byteB T = true := by rw [hT]; exact Pl.byteB_take (Pl.byteB_drop hb 3) m
 have hTl : T.length = m := by rw [hT, List.length_take, List.length_drop]; omega
 rw [← hT] at ho
 obtain ⟨hr1, hr2⟩ := Pl.rdS_may (Pl.byN l0 0 1) T
 rw [← hr1] at ho
 have hd : ∀ {r : Int × Int × Int × List Int × Int × Int × Int}, Pl.rdS (Pl.byN l0 0 1) T = r → frame_Rd.f (Pl.byN l0 0 1) ((l0.take (m + 3)).drop 3) = some r := fun e => by
  unfold frame_Rd.f
  rw [htd, ← hT, if_pos ⟨hTb, by omega⟩, e]
 have hok : Pl.frOkT (Pl.rdS (Pl.byN l0 0 1) T) = true → Pl.freadS l0 = (Pl.rdS (Pl.byN l0 0 1) T, Pl.byN l0 1 2 + 7, 0) := fun e => by rw [ho, if_pos ⟨hB, e⟩, hr2 (hr1 ▸ e)]
 have hno : Pl.frOkT (Pl.rdS (Pl.byN l0 0 1) T) = false → Pl.freadS l0 = (Pl.frZ, 0, 160) := fun e => by rw [ho, if_neg (fun x => by rw [e] at x; exact absurd x.2 (by decide))]
 have zz : Pl.freadS l0 = (Pl.frZ, 0, 160) → (0 = r1 ∧ 0 = r2 ∧ 0 = r3 ∧ [] = r4 ∧ 0 = r5 ∧ 0 = r6 ∧ 0 = r7 ∧ 0 = r8 ∧ 160 = r9) := fun e => by
  rw [e] at h
  simp only [Pl.frZ, Option.some.injEq, Prod.mk.injEq] at h
  exact h
 have yy : ∀ {k a n : Int} {d : List Int} {A B C : Int}, Pl.freadS l0 = ((k, a, n, d, A, B, C), Pl.byN l0 1 2 + 7, 0) → (k = r1 ∧ a = r2 ∧ n = r3 ∧ d = r4 ∧ A = r5 ∧ B = r6 ∧ C = r7 ∧ Pl.byN l0 1 2 + 7 = r8 ∧ 0 = r9) := fun e => by
  rw [e] at h
  simp only [Option.some.injEq, Prod.mk.injEq] at h
  exact h
 clear h ho hr1 hr2
 have s7 : Pl.byN l0 1 2 + 7 ≤ (l0.length : Int) := by omega
 have s0 : 0 ≤ Pl.byN l0 1 2 + 7 := by omega
 generalize hK : Pl.byN l0 0 1 = K at *
 by_cases k1 : K = 1
 rotate_left
 focus
  by_cases k2 : K = 2 ∨ K = 3 ∨ K = 4
  rotate_left
  focus by_cases k5 : K = 5
  rotate_left 2
 rotate_left 3
 focus
  subst k1
  by_cases h9 : T.length = 9
  ·have hrd : Pl.rdS 1 T = (1, 0, 0, [], Pl.byN T 0 1, Pl.byN T 1 4, Pl.byN T 5 4) := by rw [Pl.rdS, if_pos rfl, if_pos h9]
   by_cases hmay : 1 ≤ Pl.byN T 0 1 ∧ Pl.byN T 0 1 ≤ 64 ∧ 0 ≤ Pl.byN T 1 4 ∧ Pl.byN T 1 4 < Pl.byN T 5 4 ∧ Pl.byN T 5 4 ≤ 2147483647
   ·obtain ⟨rfl, rfl, rfl, rfl, rfl, rfl, rfl, rfl, rfl⟩ := yy ((hok (by rw [hrd, Pl.frOkT, Pl.frOk_1]; exact decide_eq_true (by simp only [List.length_nil, true_and]; exact hmay))).trans (by rw [hrd]))
    exact frame_Read.head A0 c0 l0 _ _ _ _ _ _ w hr0 hc0 (by omega) hu e1 hs s7 s0 hop (by omega) e0 (hd hrd) ((frame_head_may.tells _ _ _).trans (by rw [decide_eq_true hmay]))
   obtain ⟨rfl, rfl, rfl, rfl, rfl, rfl, rfl, rfl, rfl⟩ := zz (hno (by rw [hrd, Pl.frOkT, Pl.frOk_1]; exact decide_eq_false (fun e => hmay e.2.2.2)))
   exact frame_Read.head_no A0 c0 l0 _ _ _ _ _ _ w hr0 hc0 (by omega) hu e1 hs s7 s0 hop (by omega) e0 (hd hrd) ((frame_head_may.tells _ _ _).trans (by rw [decide_eq_false hmay]))
  have hrd : Pl.rdS 1 T = (0, 0, 0, [], 0, 0, 0) := by rw [Pl.rdS, if_pos rfl, if_neg h9]; rfl
 rotate_left
 focus
  by_cases h2 : 2 ≤ T.length
  ·have hrd : Pl.rdS K T = (K, T.getD 0 0, T.getD 1 0, T.drop 2, 0, 0, 0) := by rw [Pl.rdS, if_neg k1, if_pos k2, if_pos h2]
   have hfb : Pl.frOk K (T.getD 0 0) (T.getD 1 0) (T.drop 2) 0 0 0 = frame_blocks_may.S K (T.getD 0 0) (T.getD 1 0) (T.drop 2) := by
    unfold frame_blocks_may.S
    rcases k2 with rfl | k3
    ·rw [Pl.frOk_2, if_pos rfl]
     cases Pl.zerS (T.drop 2)
     ·rw [Bool.not_false, Bool.and_true, Bool.true_and, ← Bool.decide_and, decide_eq_decide]; omega
     rw [Bool.not_true, Bool.and_false, Bool.false_and, Bool.and_false]
    rw [Pl.frOk_3 k3, if_neg (by omega), ← Bool.decide_and, decide_eq_decide]; omega
   have hmt := frame_blocks_may.tells K (T.getD 0 0) (T.getD 1 0) (T.drop 2)
   cases hS : frame_blocks_may.S K (T.getD 0 0) (T.getD 1 0) (T.drop 2)
   ·obtain ⟨rfl, rfl, rfl, rfl, rfl, rfl, rfl, rfl, rfl⟩ := zz (hno (by rw [hrd, Pl.frOkT]; exact hfb.trans hS))
    exact frame_Read.blocks_no A0 c0 l0 _ K _ _ _ _ _ _ w hr0 hc0 (by omega) hu e1 hs s7 s0 hop (by omega) e0 (hd hrd) (hmt.trans (by rw [hS])) k2
   obtain ⟨rfl, rfl, rfl, rfl, rfl, rfl, rfl, rfl, rfl⟩ := yy ((hok (by rw [hrd, Pl.frOkT]; exact hfb.trans hS)).trans (by rw [hrd]))
   exact frame_Read.blocks A0 c0 l0 _ K _ _ _ _ _ _ w hr0 hc0 (by omega) hu e1 hs s7 s0 hop (by omega) e0 (hd hrd) (hmt.trans (by rw [hS])) k2
  have hrd : Pl.rdS K T = (0, 0, 0, [], 0, 0, 0) := by rw [Pl.rdS, if_neg k1, if_pos k2, if_neg h2]; rfl
 rotate_left
 focus
  subst k5
  by_cases h6 : T.length = 6
  ·have hrd : Pl.rdS 5 T = (5, 0, 0, [], Pl.byN T 0 2, Pl.byN T 2 4, 0) := by rw [Pl.rdS, if_neg (by decide), if_neg (by decide), if_pos rfl, if_pos h6]
   by_cases hmay : 1 ≤ Pl.byN T 0 2 ∧ Pl.byN T 0 2 ≤ 65535 ∧ 0 ≤ Pl.byN T 2 4 ∧ Pl.byN T 2 4 ≤ 4294967295
   ·obtain ⟨rfl, rfl, rfl, rfl, rfl, rfl, rfl, rfl, rfl⟩ := yy ((hok (by rw [hrd, Pl.frOkT, Pl.frOk_5]; exact decide_eq_true (by simp only [List.length_nil, true_and, and_true]; exact hmay))).trans (by rw [hrd]))
    exact frame_Read.endB A0 c0 l0 _ _ _ _ _ w hr0 hc0 (by omega) hu e1 hs s7 s0 hop (by omega) e0 (hd hrd) ((frame_end_may.tells _ _).trans (by rw [decide_eq_true hmay]))
   obtain ⟨rfl, rfl, rfl, rfl, rfl, rfl, rfl, rfl, rfl⟩ := zz (hno (by rw [hrd, Pl.frOkT, Pl.frOk_5]; exact decide_eq_false (fun e => hmay ⟨e.2.2.2.1, e.2.2.2.2.1, e.2.2.2.2.2.1, e.2.2.2.2.2.2.1⟩)))
   exact frame_Read.endB_no A0 c0 l0 _ _ _ _ _ w hr0 hc0 (by omega) hu e1 hs s7 s0 hop (by omega) e0 (hd hrd) ((frame_end_may.tells _ _).trans (by rw [decide_eq_false hmay]))
  have hrd : Pl.rdS 5 T = (0, 0, 0, [], 0, 0, 0) := by rw [Pl.rdS, if_neg (by decide), if_neg (by decide), if_pos rfl, if_neg h6]; rfl
 rotate_left
 focus have hrd : Pl.rdS K T = (0, 0, 0, [], 0, 0, 0) := by rw [Pl.rdS, if_neg k1, if_neg k2, if_neg k5]; rfl
 rotate_left
 all_goals
  obtain ⟨rfl, rfl, rfl, rfl, rfl, rfl, rfl, rfl, rfl⟩ := zz (hno (by rw [hrd]; decide))
  exact frame_Read.nil_no A0 c0 l0 _ _ _ _ w hr0 hc0 (by omega) hu e1 hs s7 s0 hop (by omega) e0 (hd hrd)
end Go.Proofs.Ytohkmmbmfhficaa.PT
