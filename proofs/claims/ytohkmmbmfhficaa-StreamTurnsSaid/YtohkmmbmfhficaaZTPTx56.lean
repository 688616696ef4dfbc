/- Words and walks that this claim names, of those that the kit's print and programs of this workplace have printed. -/
import Derived.Test.YtohkmmbmfhficaaZTCz
import Derived.Test.YtohkmmbmfhficaaZTPTx5
import Derived.Test.YtohkmmbmfhficaaZTPTx55
namespace Go.Proofs.Ytohkmmbmfhficaa.PT
open Go.Proofs.Ytohkmmbmfhficaa Go.RowKit Go.Proofs.YtohkmmbmfhficaaW.PrintWords Go.Proofs.YtohkmmbmfhficaaW.PrintLast Go.Proofs.YtohkmmbmfhficaaW.PrintMore
attribute [local go_sem] max2_int min2_int max_two min_two max_three min_three max_four min_four
set_option linter.unusedVariables false
set_option linter.unusedSimpArgs false
def bodyV (k a n : Int) (v : Value) (A B C : Int) : Value :=
 if k = 1 then .iface 93 (.agg #[.int .i64 A, .int .i64 B, .int .i64 C])
 else if k = 2 ∨ k = 3 ∨ k = 4 then .iface 95 (.agg #[.int .i64 k, .int .i64 a, .int .i64 n, v])
 else if k = 5 then .iface 97 (.agg #[.int .i64 A, .int .i64 B])
 else .nilIface
theorem bodyV_blocks {k : Int} (h : k = 2 ∨ k = 3 ∨ k = 4) (a n : Int) (v : Value) (A B C : Int) : bodyV k a n v A B C = .iface 95 (.agg #[.int .i64 k, .int .i64 a, .int .i64 n, v]) := by unfold bodyV; rw [if_neg (by omega), if_pos h]
theorem frame_Rd.byte {t : List Int} (hb : Pl.byteB t = true) (i : Nat) (h : i < t.length) : 0 ≤ rd t (i : Int) ∧ rd t (i : Int) < 256 := by
 have := Pl.byteB_iff.1 hb t[i] (List.getElem_mem h)
 simpa [rd, h] using this
set_option maxRecDepth 100000 in
set_option maxHeartbeats 2000000 in
theorem frame_Rd.head (A1 : Option Addr) (c1 : Nat) (t : List Int) (n0 n1 n2 : Int) (w : World) (hr : Kd.C (Kd.int .u8) w A1 t.length t) (hc : t.length ≤ c1) (hu : le_Unpack.f (⟨#[98, 119, 119]⟩ : ByteArray) t = some ([n0, n1, n2], 0)) (en0 : wrap64 n0 = n0) (en1 : wrap64 n1 = n1) (en2 : wrap64 n2 = n2) : Calls Try.prog 46 #[.int .i64 1, .slice A1 t.length c1] w fun e w' => ∃ v3_ : Value, e = .returned (.iface 93 (.agg #[.int .i64 n0, .int .i64 n1, .int .i64 n2])) ∧ Kd.R (Kd.int .u8) 5 w' w.heap.size (fun _ => True) v3_ [] ∧ Below w.heap.size w w' := by
 have HR := Aside0.mk hr
 have HC := Aside0.mk hc
 have HB := Aside0.mk (Below.refl w.heap.size w)
 clear hr hc
 have HU := Aside0.mk hu
 have En0 := Aside0.mk en0
 have En1 := Aside0.mk en1
 have En2 := Aside0.mk en2
 clear hu en0 en1 en2
 have hu1 := Try.underlying93
 go_enter Try.func46, Try.ntmps46
 go_upto_region 5 with (go_at_call 44; refine (le_Unpack.calls (⟨#[98, 119, 119]⟩ : ByteArray) A1 c1 t [n0, n1, n2] 0 _ HR.out HC.out HU.out).mono ?_; rintro e w2 ⟨v, rfl, ho, hb⟩; have HO := Aside0.mk ho; replace HB := Cz.bs (w := w) hb; clear ho hb; obtain ⟨Ao, co, rfl⟩ := Kd.R_slice HO.out)
 have hro := (Kd.R_reads' HO.out).2.2
 obtain ⟨ad, ea, hx0⟩ := Kd.at_int hro 0 (by decide) (by simp)
 cases ea
 obtain ⟨ad1, ea, hx1⟩ := Kd.at_int hro 1 (by decide) (by simp)
 obtain rfl : ad = ad1 := (by injection ea)
 clear ea
 obtain ⟨ad1, ea, hx2⟩ := Kd.at_int hro 2 (by decide) (by simp)
 obtain rfl : ad = ad1 := (by injection ea)
 clear ea
 simp only [show (0 : Int).toNat = 0 from rfl, Addr.add_zero', show rd ([n0, n1, n2] : List Int) 0 = n0 from rfl] at hx0
 simp only [show (1 : Int).toNat = 1 from rfl, Nat.reduceMul, Nat.reduceEqDiff, Go.Addr.add, ↓reduceIte, show rd ([n0, n1, n2] : List Int) 1 = n1 from rfl] at hx1
 simp only [show (2 : Int).toNat = 2 from rfl, Nat.reduceMul, Nat.reduceEqDiff, Go.Addr.add, ↓reduceIte, show rd ([n0, n1, n2] : List Int) 2 = n2 from rfl] at hx2
 clear hro
 replace HO := Aside0.mk (Kd.R_drew HO.out)
 replace HB := Aside0.mk (below_drew HB.out)
 refine start_ (n := 15) (S := fun w' => w'.cell? ad = some (.int .u64 n0) ∧ w'.cell? ⟨ad.block, ad.off + 1, none⟩ = some (.int .u64 n1) ∧ w'.cell? ⟨ad.block, ad.off + 2, none⟩ = some (.int .u64 n2)) (ds := []) #[false, false, false, false, false, false, false, false, false, false, false, false, false, false, false] (by kernel_rfl) rfl rfl ⟨hx0, hx1, hx2⟩ (fun hHeld => ?_)
 generalize w2.drew = wd at HB HO hHeld ⊢
 refine Cz.rP 0 19 ?_
 refine Cz.rP 1 20 ?_
 refine Cz.rP 4 23 ?_
 refine Cz.rP 5 24 ?_
 refine Cz.rP 8 27 ?_
 refine Cz.rP 9 28 ?_
 refine Cz.rT 2 21 hHeld ?_
 refine Cz.rP 3 22 ?_
 refine Cz.rT 6 25 hHeld ?_
 refine Cz.rP 7 26 ?_
 refine Cz.rT 10 29 hHeld ?_
 refine Cz.rP 11 30 ?_
 refine Cz.rP 12 31 ?_
 refine Cz.rP 13 32 ?_
 refine Cz.rP 14 4 ?_
 refine done_ (by kernel_rfl) ?_
 clear hHeld
 go_wp2_with fail
 go_ret
 exact ⟨.slice none 0 0, by rw [En0.out, En1.out, En2.out]; rfl, Kd.R_nil _ _ _ _ _, HB.out⟩
set_option maxRecDepth 100000 in
set_option maxHeartbeats 2000000 in
theorem frame_Rd.head_no (A1 : Option Addr) (c1 : Nat) (t : List Int) (w : World) (hr : Kd.C (Kd.int .u8) w A1 t.length t) (hc : t.length ≤ c1) (hu : le_Unpack.f (⟨#[98, 119, 119]⟩ : ByteArray) t = some ([], 10)) : Calls Try.prog 46 #[.int .i64 1, .slice A1 t.length c1] w fun e w' => ∃ v3_ : Value, e = .returned (.nilIface) ∧ Kd.R (Kd.int .u8) 5 w' w.heap.size (fun _ => True) v3_ [] ∧ Below w.heap.size w w' := by
 have HR := Aside0.mk hr
 have HC := Aside0.mk hc
 have HB := Aside0.mk (Below.refl w.heap.size w)
 clear hr hc
 have HU := Aside0.mk hu
 clear hu
 go_enter Try.func46, Try.ntmps46
 go_wp2_with (go_at_call 44; refine (le_Unpack.calls (⟨#[98, 119, 119]⟩ : ByteArray) A1 c1 t [] 10 _ HR.out HC.out HU.out).mono ?_; rintro e w2 ⟨v, rfl, ho, hb⟩; replace HB := Cz.bs (w := w) hb; clear ho hb)
 go_ret
 exact ⟨.slice none 0 0, rfl, Kd.R_nil _ _ _ _ _, HB.out⟩
set_option maxRecDepth 100000 in
set_option maxHeartbeats 2000000 in
theorem frame_Rd.endB (A1 : Option Addr) (c1 : Nat) (t : List Int) (n0 n1 : Int) (w : World) (hr : Kd.C (Kd.int .u8) w A1 t.length t) (hc : t.length ≤ c1) (hu : le_Unpack.f (⟨#[104, 119]⟩ : ByteArray) t = some ([n0, n1], 0)) (en0 : wrap64 n0 = n0) (en1 : wrap64 n1 = n1) : Calls Try.prog 46 #[.int .i64 5, .slice A1 t.length c1] w fun e w' => ∃ v3_ : Value, e = .returned (.iface 97 (.agg #[.int .i64 n0, .int .i64 n1])) ∧ Kd.R (Kd.int .u8) 5 w' w.heap.size (fun _ => True) v3_ [] ∧ Below w.heap.size w w' := by
 have HR := Aside0.mk hr
 have HC := Aside0.mk hc
 have HB := Aside0.mk (Below.refl w.heap.size w)
 clear hr hc
 have HU := Aside0.mk hu
 have En0 := Aside0.mk en0
 have En1 := Aside0.mk en1
 clear hu en0 en1
 have hu1 := Try.underlying97
 go_enter Try.func46, Try.ntmps46
 go_upto_region 14 with (go_at_call 44; refine (le_Unpack.calls (⟨#[104, 119]⟩ : ByteArray) A1 c1 t [n0, n1] 0 _ HR.out HC.out HU.out).mono ?_; rintro e w2 ⟨v, rfl, ho, hb⟩; have HO := Aside0.mk ho; replace HB := Cz.bs (w := w) hb; clear ho hb; obtain ⟨Ao, co, rfl⟩ := Kd.R_slice HO.out)
 have hro := (Kd.R_reads' HO.out).2.2
 obtain ⟨ad, ea, hx0⟩ := Kd.at_int hro 0 (by decide) (by simp)
 cases ea
 obtain ⟨ad1, ea, hx1⟩ := Kd.at_int hro 1 (by decide) (by simp)
 obtain rfl : ad = ad1 := (by injection ea)
 clear ea
 simp only [show (0 : Int).toNat = 0 from rfl, Addr.add_zero', show rd ([n0, n1] : List Int) 0 = n0 from rfl] at hx0
 simp only [show (1 : Int).toNat = 1 from rfl, Nat.reduceMul, Nat.reduceEqDiff, Go.Addr.add, ↓reduceIte, show rd ([n0, n1] : List Int) 1 = n1 from rfl] at hx1
 clear hro
 replace HO := Aside0.mk (Kd.R_drew HO.out)
 replace HB := Aside0.mk (below_drew HB.out)
 refine start_ (n := 11) (S := fun w' => w'.cell? ad = some (.int .u64 n0) ∧ w'.cell? ⟨ad.block, ad.off + 1, none⟩ = some (.int .u64 n1)) (ds := []) #[false, false, false, false, false, false, false, false, false, false, false] (by kernel_rfl) rfl rfl ⟨hx0, hx1⟩ (fun hHeld => ?_)
 generalize w2.drew = wd at HB HO hHeld ⊢
 refine Cz.rP 0 63 ?_
 refine Cz.rP 1 64 ?_
 refine Cz.rP 4 67 ?_
 refine Cz.rP 5 68 ?_
 refine Cz.rT 2 65 hHeld ?_
 refine Cz.rP 3 66 ?_
 refine Cz.rT 6 69 hHeld ?_
 refine Cz.rP 7 70 ?_
 refine Cz.rP 8 71 ?_
 refine Cz.rP 9 72 ?_
 refine Cz.rP 10 4 ?_
 refine done_ (by kernel_rfl) ?_
 clear hHeld
 go_wp2_with fail
 go_ret
 exact ⟨.slice none 0 0, by rw [En0.out, En1.out]; rfl, Kd.R_nil _ _ _ _ _, HB.out⟩
set_option maxRecDepth 100000 in
set_option maxHeartbeats 2000000 in
theorem frame_Rd.endB_no (A1 : Option Addr) (c1 : Nat) (t : List Int) (w : World) (hr : Kd.C (Kd.int .u8) w A1 t.length t) (hc : t.length ≤ c1) (hu : le_Unpack.f (⟨#[104, 119]⟩ : ByteArray) t = some ([], 10)) : Calls Try.prog 46 #[.int .i64 5, .slice A1 t.length c1] w fun e w' => ∃ v3_ : Value, e = .returned (.nilIface) ∧ Kd.R (Kd.int .u8) 5 w' w.heap.size (fun _ => True) v3_ [] ∧ Below w.heap.size w w' := by
 have HR := Aside0.mk hr
 have HC := Aside0.mk hc
 have HB := Aside0.mk (Below.refl w.heap.size w)
 clear hr hc
 have HU := Aside0.mk hu
 clear hu
 go_enter Try.func46, Try.ntmps46
 go_wp2_with (go_at_call 44; refine (le_Unpack.calls (⟨#[104, 119]⟩ : ByteArray) A1 c1 t [] 10 _ HR.out HC.out HU.out).mono ?_; rintro e w2 ⟨v, rfl, ho, hb⟩; replace HB := Cz.bs (w := w) hb; clear ho hb)
 go_ret
 exact ⟨.slice none 0 0, rfl, Kd.R_nil _ _ _ _ _, HB.out⟩
set_option maxRecDepth 100000 in
set_option maxHeartbeats 2000000 in
theorem frame_Rd.blocks2 (A1 : Option Addr) (c1 : Nat) (t : List Int) (w : World) (hr : Kd.C (Kd.int .u8) w A1 t.length t) (hc : t.length ≤ c1) (hl : 2 ≤ t.length) (hm : t.length < 1073741824) (e0 : wrap64 (rd t 0) = rd t 0) (e1 : wrap64 (rd t 1) = rd t 1) : Calls Try.prog 46 #[.int .i64 2, .slice A1 t.length c1] w fun e w' => ∃ v3_ : Value, e = .returned (.iface 95 (.agg #[.int .i64 2, .int .i64 (rd t 0), .int .i64 (rd t 1), v3_])) ∧ Kd.R (Kd.int .u8) 5 w' w.heap.size (fun _ => True) v3_ (t.drop 2) ∧ Below w.heap.size w w' := by
 have hu1 := Try.underlying95
 have E0 := Aside0.mk e0
 have E1 := Aside0.mk e1
 have HL := Aside0.mk hl
 have HM := Aside0.mk hm
 obtain ⟨ad, ea, hx0⟩ := Kd.at_int hr 0 (by decide) (by omega)
 cases ea
 obtain ⟨ad1, ea, hx1⟩ := Kd.at_int hr 1 (by decide) (by omega)
 obtain rfl : ad = ad1 := (by injection ea)
 clear ea
 simp only [show (0 : Int).toNat = 0 from rfl, Addr.add_zero'] at hx0
 simp only [show (1 : Int).toNat = 1 from rfl, Nat.reduceMul, Nat.reduceEqDiff, Go.Addr.add, ↓reduceIte] at hx1
 obtain ⟨i0_, hi0_, _, hsz_, _⟩ := info_parts info5
 obtain ⟨A2, hcut2, hA2, hC2⟩ := print_drop_of (P := Try.prog) (Value.int .u8) 0 27 5 .i64 Try.underlying27 hi0_ hsz_ (some ad) c1 t 2 (by omega) (by omega) hc
 have hr2 := Kd.C_of_reads (h1 := fun _ => rfl) (hA2 _ (Kd.reads_of_C hr))
 clear hA2
 rw [show (2 : Int).toNat = 2 from rfl] at hcut2 hr2 hC2
 obtain ⟨m, hm2⟩ : ∃ m, m = t.drop 2 := ⟨_, rfl⟩
 rw [← hm2] at hcut2 hr2 hC2 ⊢
 have HML := Aside0.mk (show m.length < 140737488355328 by rw [hm2, List.length_drop]; omega)
 have HR2 := Aside0.mk hr2
 have HC2 := Aside0.mk hC2
 clear hr2 hC2 hi0_ hsz_ e0 e1 hm2
 have b0 : (0 < t.length) = True := eq_true (by omega)
 have b1 : (1 < t.length) = True := eq_true (by omega)
 have b4 : (0 < (t.length : Int)) = True := eq_true (by omega)
 have b5 : (1 < (t.length : Int)) = True := eq_true (by omega)
 have b2 : decide (2 ≤ t.length) = true := decide_eq_true hl
 have b3 : decide (2 ≤ (t.length : Int)) = true := decide_eq_true (by omega)
 clear hl hm
 have HR := Aside0.mk hr
 have HC := Aside0.mk hc
 have HB := Aside0.mk (Below.refl w.heap.size w)
 clear hr hc
 go_enter Try.func46, Try.ntmps46
 go_upto_region 10 with (fail)
 replace HB := Aside0.mk (below_drew HB.out)
 refine start_ (n := 15) (S := fun w' => w'.cell? ad = some (.int .u8 (rd t 0)) ∧ w'.cell? ⟨ad.block, ad.off + 1, none⟩ = some (.int .u8 (rd t 1))) (ds := []) #[false, false, false, false, false, false, false, false, false, false, false, false, false, false, false] (by kernel_rfl) rfl rfl ⟨hx0, hx1⟩ (fun hHeld => ?_)
 generalize w.drew = wd at HB hHeld ⊢
 refine Cz.rP 0 40 ?_
 refine Cz.rP 1 41 ?_
 refine Cz.rP 2 42 ?_
 refine Cz.rP 5 45 ?_
 refine Cz.rP 6 46 ?_
 refine Cz.rP 9 49 ?_
 refine Cz.rP 10 50 ?_
 refine Cz.rT 3 43 hHeld ?_
 refine Cz.rP 4 44 ?_
 refine Cz.rT 7 47 hHeld ?_
 refine Cz.rP 8 48 ?_
 refine Cz.rO (N := some 51) 11 (fun K hK => ?_)
 refine goes_ Try.func72 (by kernel_rfl) rfl #[.slice A2 m.length (c1 - 2)] (by rfl) rfl rfl (by simp only [List.map_toArray, List.map_cons, List.map_nil]; rfl) ?_
 refine (bytes_Clone.calls _ _ m m _ (Kd.C_below HR2.out HB.out) HC2.out (by unfold bytes_Clone.f; rw [if_pos HML.out])).mono ?_
 rintro e w3 ⟨v, rfl, ho, hb⟩
 obtain ⟨Av, cv, rfl⟩ := Kd.R_slice ho
 refine ⟨_, rfl, ?_⟩
 have n_HB := Aside0.mk (below_step HB.out hb)
 have HO := Aside0.mk (Kd.R_lower ho (below_size HB.out))
 have y0 := (hb.cell (World.block_lt_of_cell? _ _ hHeld.1)).trans hHeld.1
 have y1 := (hb.cell (World.block_lt_of_cell? _ _ hHeld.2)).trans hHeld.2
 clear HB ho hb
 have HB := n_HB
 clear n_HB
 refine hK.out _ _ ⟨y0, y1⟩ (fun hHeld => ?_)
 clear hK K
 refine Cz.nm (some 51) ?_
 refine Cz.rP 12 52 ?_
 refine Cz.rP 13 53 ?_
 refine Cz.rP 14 4 ?_
 refine done_ (by kernel_rfl) ?_
 clear hHeld
 go_wp2_with fail
 go_ret
 exact ⟨.slice Av m.length cv, by rw [E0.out, E1.out]; rfl, HO.out, HB.out⟩
set_option maxRecDepth 100000 in
set_option maxHeartbeats 2000000 in
theorem frame_Rd.blocks2_no (A1 : Option Addr) (c1 : Nat) (t : List Int) (w : World) (hr : Kd.C (Kd.int .u8) w A1 t.length t) (hc : t.length ≤ c1) (hl : t.length < 2) : Calls Try.prog 46 #[.int .i64 2, .slice A1 t.length c1] w fun e w' => ∃ v3_ : Value, e = .returned (.nilIface) ∧ Kd.R (Kd.int .u8) 5 w' w.heap.size (fun _ => True) v3_ [] ∧ Below w.heap.size w w' := by
 have b2 : decide (2 ≤ t.length) = false := decide_eq_false (by omega)
 have b3 : decide (2 ≤ (t.length : Int)) = false := decide_eq_false (by omega)
 clear hl
 have HR := Aside0.mk hr
 have HC := Aside0.mk hc
 have HB := Aside0.mk (Below.refl w.heap.size w)
 clear hr hc
 go_enter Try.func46, Try.ntmps46
 go_wp2
 go_ret
 exact ⟨.slice none 0 0, rfl, Kd.R_nil _ _ _ _ _, HB.out⟩
set_option maxRecDepth 100000 in
set_option maxHeartbeats 2000000 in
theorem frame_Rd.blocks3 (A1 : Option Addr) (c1 : Nat) (t : List Int) (w : World) (hr : Kd.C (Kd.int .u8) w A1 t.length t) (hc : t.length ≤ c1) (hl : 2 ≤ t.length) (hm : t.length < 1073741824) (e0 : wrap64 (rd t 0) = rd t 0) (e1 : wrap64 (rd t 1) = rd t 1) : Calls Try.prog 46 #[.int .i64 3, .slice A1 t.length c1] w fun e w' => ∃ v3_ : Value, e = .returned (.iface 95 (.agg #[.int .i64 3, .int .i64 (rd t 0), .int .i64 (rd t 1), v3_])) ∧ Kd.R (Kd.int .u8) 5 w' w.heap.size (fun _ => True) v3_ (t.drop 2) ∧ Below w.heap.size w w' := by
 have hu1 := Try.underlying95
 have E0 := Aside0.mk e0
 have E1 := Aside0.mk e1
 have HL := Aside0.mk hl
 have HM := Aside0.mk hm
 obtain ⟨ad, ea, hx0⟩ := Kd.at_int hr 0 (by decide) (by omega)
 cases ea
 obtain ⟨ad1, ea, hx1⟩ := Kd.at_int hr 1 (by decide) (by omega)
 obtain rfl : ad = ad1 := (by injection ea)
 clear ea
 simp only [show (0 : Int).toNat = 0 from rfl, Addr.add_zero'] at hx0
 simp only [show (1 : Int).toNat = 1 from rfl, Nat.reduceMul, Nat.reduceEqDiff, Go.Addr.add, ↓reduceIte] at hx1
 obtain ⟨i0_, hi0_, _, hsz_, _⟩ := info_parts info5
 obtain ⟨A2, hcut2, hA2, hC2⟩ := print_drop_of (P := Try.prog) (Value.int .u8) 0 27 5 .i64 Try.underlying27 hi0_ hsz_ (some ad) c1 t 2 (by omega) (by omega) hc
 have hr2 := Kd.C_of_reads (h1 := fun _ => rfl) (hA2 _ (Kd.reads_of_C hr))
 clear hA2
 rw [show (2 : Int).toNat = 2 from rfl] at hcut2 hr2 hC2
 obtain ⟨m, hm2⟩ : ∃ m, m = t.drop 2 := ⟨_, rfl⟩
 rw [← hm2] at hcut2 hr2 hC2 ⊢
 have HML := Aside0.mk (show m.length < 140737488355328 by rw [hm2, List.length_drop]; omega)
 have HR2 := Aside0.mk hr2
 have HC2 := Aside0.mk hC2
 clear hr2 hC2 hi0_ hsz_ e0 e1 hm2
 have b0 : (0 < t.length) = True := eq_true (by omega)
 have b1 : (1 < t.length) = True := eq_true (by omega)
 have b4 : (0 < (t.length : Int)) = True := eq_true (by omega)
 have b5 : (1 < (t.length : Int)) = True := eq_true (by omega)
 have b2 : decide (2 ≤ t.length) = true := decide_eq_true hl
 have b3 : decide (2 ≤ (t.length : Int)) = true := decide_eq_true (by omega)
 clear hl hm
 have HR := Aside0.mk hr
 have HC := Aside0.mk hc
 have HB := Aside0.mk (Below.refl w.heap.size w)
 clear hr hc
 go_enter Try.func46, Try.ntmps46
 go_upto_region 10 with (fail)
 replace HB := Aside0.mk (below_drew HB.out)
 refine start_ (n := 15) (S := fun w' => w'.cell? ad = some (.int .u8 (rd t 0)) ∧ w'.cell? ⟨ad.block, ad.off + 1, none⟩ = some (.int .u8 (rd t 1))) (ds := []) #[false, false, false, false, false, false, false, false, false, false, false, false, false, false, false] (by kernel_rfl) rfl rfl ⟨hx0, hx1⟩ (fun hHeld => ?_)
 generalize w.drew = wd at HB hHeld ⊢
 refine Cz.rP 0 40 ?_
 refine Cz.rP 1 41 ?_
 refine Cz.rP 2 42 ?_
 refine Cz.rP 5 45 ?_
 refine Cz.rP 6 46 ?_
 refine Cz.rP 9 49 ?_
 refine Cz.rP 10 50 ?_
 refine Cz.rT 3 43 hHeld ?_
 refine Cz.rP 4 44 ?_
 refine Cz.rT 7 47 hHeld ?_
 refine Cz.rP 8 48 ?_
 refine Cz.rO (N := some 51) 11 (fun K hK => ?_)
 refine goes_ Try.func72 (by kernel_rfl) rfl #[.slice A2 m.length (c1 - 2)] (by rfl) rfl rfl (by simp only [List.map_toArray, List.map_cons, List.map_nil]; rfl) ?_
 refine (bytes_Clone.calls _ _ m m _ (Kd.C_below HR2.out HB.out) HC2.out (by unfold bytes_Clone.f; rw [if_pos HML.out])).mono ?_
 rintro e w3 ⟨v, rfl, ho, hb⟩
 obtain ⟨Av, cv, rfl⟩ := Kd.R_slice ho
 refine ⟨_, rfl, ?_⟩
 have n_HB := Aside0.mk (below_step HB.out hb)
 have HO := Aside0.mk (Kd.R_lower ho (below_size HB.out))
 have y0 := (hb.cell (World.block_lt_of_cell? _ _ hHeld.1)).trans hHeld.1
 have y1 := (hb.cell (World.block_lt_of_cell? _ _ hHeld.2)).trans hHeld.2
 clear HB ho hb
 have HB := n_HB
 clear n_HB
 refine hK.out _ _ ⟨y0, y1⟩ (fun hHeld => ?_)
 clear hK K
 refine Cz.nm (some 51) ?_
 refine Cz.rP 12 52 ?_
 refine Cz.rP 13 53 ?_
 refine Cz.rP 14 4 ?_
 refine done_ (by kernel_rfl) ?_
 clear hHeld
 go_wp2_with fail
 go_ret
 exact ⟨.slice Av m.length cv, by rw [E0.out, E1.out]; rfl, HO.out, HB.out⟩
set_option maxRecDepth 100000 in
set_option maxHeartbeats 2000000 in
theorem frame_Rd.blocks3_no (A1 : Option Addr) (c1 : Nat) (t : List Int) (w : World) (hr : Kd.C (Kd.int .u8) w A1 t.length t) (hc : t.length ≤ c1) (hl : t.length < 2) : Calls Try.prog 46 #[.int .i64 3, .slice A1 t.length c1] w fun e w' => ∃ v3_ : Value, e = .returned (.nilIface) ∧ Kd.R (Kd.int .u8) 5 w' w.heap.size (fun _ => True) v3_ [] ∧ Below w.heap.size w w' := by
 have b2 : decide (2 ≤ t.length) = false := decide_eq_false (by omega)
 have b3 : decide (2 ≤ (t.length : Int)) = false := decide_eq_false (by omega)
 clear hl
 have HR := Aside0.mk hr
 have HC := Aside0.mk hc
 have HB := Aside0.mk (Below.refl w.heap.size w)
 clear hr hc
 go_enter Try.func46, Try.ntmps46
 go_wp2
 go_ret
 exact ⟨.slice none 0 0, rfl, Kd.R_nil _ _ _ _ _, HB.out⟩
set_option maxRecDepth 100000 in
set_option maxHeartbeats 2000000 in
theorem frame_Rd.blocks4 (A1 : Option Addr) (c1 : Nat) (t : List Int) (w : World) (hr : Kd.C (Kd.int .u8) w A1 t.length t) (hc : t.length ≤ c1) (hl : 2 ≤ t.length) (hm : t.length < 1073741824) (e0 : wrap64 (rd t 0) = rd t 0) (e1 : wrap64 (rd t 1) = rd t 1) : Calls Try.prog 46 #[.int .i64 4, .slice A1 t.length c1] w fun e w' => ∃ v3_ : Value, e = .returned (.iface 95 (.agg #[.int .i64 4, .int .i64 (rd t 0), .int .i64 (rd t 1), v3_])) ∧ Kd.R (Kd.int .u8) 5 w' w.heap.size (fun _ => True) v3_ (t.drop 2) ∧ Below w.heap.size w w' := by
 have hu1 := Try.underlying95
 have E0 := Aside0.mk e0
 have E1 := Aside0.mk e1
 have HL := Aside0.mk hl
 have HM := Aside0.mk hm
 obtain ⟨ad, ea, hx0⟩ := Kd.at_int hr 0 (by decide) (by omega)
 cases ea
 obtain ⟨ad1, ea, hx1⟩ := Kd.at_int hr 1 (by decide) (by omega)
 obtain rfl : ad = ad1 := (by injection ea)
 clear ea
 simp only [show (0 : Int).toNat = 0 from rfl, Addr.add_zero'] at hx0
 simp only [show (1 : Int).toNat = 1 from rfl, Nat.reduceMul, Nat.reduceEqDiff, Go.Addr.add, ↓reduceIte] at hx1
 obtain ⟨i0_, hi0_, _, hsz_, _⟩ := info_parts info5
 obtain ⟨A2, hcut2, hA2, hC2⟩ := print_drop_of (P := Try.prog) (Value.int .u8) 0 27 5 .i64 Try.underlying27 hi0_ hsz_ (some ad) c1 t 2 (by omega) (by omega) hc
 have hr2 := Kd.C_of_reads (h1 := fun _ => rfl) (hA2 _ (Kd.reads_of_C hr))
 clear hA2
 rw [show (2 : Int).toNat = 2 from rfl] at hcut2 hr2 hC2
 obtain ⟨m, hm2⟩ : ∃ m, m = t.drop 2 := ⟨_, rfl⟩
 rw [← hm2] at hcut2 hr2 hC2 ⊢
 have HML := Aside0.mk (show m.length < 140737488355328 by rw [hm2, List.length_drop]; omega)
 have HR2 := Aside0.mk hr2
 have HC2 := Aside0.mk hC2
 clear hr2 hC2 hi0_ hsz_ e0 e1 hm2
 have b0 : (0 < t.length) = True := eq_true (by omega)
 have b1 : (1 < t.length) = True := eq_true (by omega)
 have b4 : (0 < (t.length : Int)) = True := eq_true (by omega)
 have b5 : (1 < (t.length : Int)) = True := eq_true (by omega)
 have b2 : decide (2 ≤ t.length) = true := decide_eq_true hl
 have b3 : decide (2 ≤ (t.length : Int)) = true := decide_eq_true (by omega)
 clear hl hm
 have HR := Aside0.mk hr
 have HC := Aside0.mk hc
 have HB := Aside0.mk (Below.refl w.heap.size w)
 clear hr hc
 go_enter Try.func46, Try.ntmps46
 go_upto_region 10 with (fail)
 replace HB := Aside0.mk (below_drew HB.out)
 refine start_ (n := 15) (S := fun w' => w'.cell? ad = some (.int .u8 (rd t 0)) ∧ w'.cell? ⟨ad.block, ad.off + 1, none⟩ = some (.int .u8 (rd t 1))) (ds := []) #[false, false, false, false, false, false, false, false, false, false, false, false, false, false, false] (by kernel_rfl) rfl rfl ⟨hx0, hx1⟩ (fun hHeld => ?_)
 generalize w.drew = wd at HB hHeld ⊢
 refine Cz.rP 0 40 ?_
 refine Cz.rP 1 41 ?_
 refine Cz.rP 2 42 ?_
 refine Cz.rP 5 45 ?_
 refine Cz.rP 6 46 ?_
 refine Cz.rP 9 49 ?_
 refine Cz.rP 10 50 ?_
 refine Cz.rT 3 43 hHeld ?_
 refine Cz.rP 4 44 ?_
 refine Cz.rT 7 47 hHeld ?_
 refine Cz.rP 8 48 ?_
 refine Cz.rO (N := some 51) 11 (fun K hK => ?_)
 refine goes_ Try.func72 (by kernel_rfl) rfl #[.slice A2 m.length (c1 - 2)] (by rfl) rfl rfl (by simp only [List.map_toArray, List.map_cons, List.map_nil]; rfl) ?_
 refine (bytes_Clone.calls _ _ m m _ (Kd.C_below HR2.out HB.out) HC2.out (by unfold bytes_Clone.f; rw [if_pos HML.out])).mono ?_
 rintro e w3 ⟨v, rfl, ho, hb⟩
 obtain ⟨Av, cv, rfl⟩ := Kd.R_slice ho
 refine ⟨_, rfl, ?_⟩
 have n_HB := Aside0.mk (below_step HB.out hb)
 have HO := Aside0.mk (Kd.R_lower ho (below_size HB.out))
 have y0 := (hb.cell (World.block_lt_of_cell? _ _ hHeld.1)).trans hHeld.1
 have y1 := (hb.cell (World.block_lt_of_cell? _ _ hHeld.2)).trans hHeld.2
 clear HB ho hb
 have HB := n_HB
 clear n_HB
 refine hK.out _ _ ⟨y0, y1⟩ (fun hHeld => ?_)
 clear hK K
 refine Cz.nm (some 51) ?_
 refine Cz.rP 12 52 ?_
 refine Cz.rP 13 53 ?_
 refine Cz.rP 14 4 ?_
 refine done_ (by kernel_rfl) ?_
 clear hHeld
 go_wp2_with fail
 go_ret
 exact ⟨.slice Av m.length cv, by rw [E0.out, E1.out]; rfl, HO.out, HB.out⟩
set_option maxRecDepth 100000 in
set_option maxHeartbeats 2000000 in
theorem frame_Rd.blocks4_no (A1 : Option Addr) (c1 : Nat) (t : List Int) (w : World) (hr : Kd.C (Kd.int .u8) w A1 t.length t) (hc : t.length ≤ c1) (hl : t.length < 2) : Calls Try.prog 46 #[.int .i64 4, .slice A1 t.length c1] w fun e w' => ∃ v3_ : Value, e = .returned (.nilIface) ∧ Kd.R (Kd.int .u8) 5 w' w.heap.size (fun _ => True) v3_ [] ∧ Below w.heap.size w w' := by
 have b2 : decide (2 ≤ t.length) = false := decide_eq_false (by omega)
 have b3 : decide (2 ≤ (t.length : Int)) = false := decide_eq_false (by omega)
 clear hl
 have HR := Aside0.mk hr
 have HC := Aside0.mk hc
 have HB := Aside0.mk (Below.refl w.heap.size w)
 clear hr hc
 go_enter Try.func46, Try.ntmps46
 go_wp2
 go_ret
 exact ⟨.slice none 0 0, rfl, Kd.R_nil _ _ _ _ _, HB.out⟩
set_option maxRecDepth 100000 in
set_option maxHeartbeats 2000000 in
theorem frame_Rd.noneB (k : Int) (A1 : Option Addr) (c1 : Nat) (t : List Int) (w : World) (hr : Kd.C (Kd.int .u8) w A1 t.length t) (hc : t.length ≤ c1) (hk : ¬ (1 ≤ k ∧ k ≤ 5)) : Calls Try.prog 46 #[.int .i64 k, .slice A1 t.length c1] w fun e w' => ∃ v3_ : Value, e = .returned (.nilIface) ∧ Kd.R (Kd.int .u8) 5 w' w.heap.size (fun _ => True) v3_ [] ∧ Below w.heap.size w w' := by
 have b1 : (k == 1) = false := beq_eq_false_iff_ne.mpr (by omega)
 have b2 : (k == 2) = false := beq_eq_false_iff_ne.mpr (by omega)
 have b3 : (k == 3) = false := beq_eq_false_iff_ne.mpr (by omega)
 have b4 : (k == 4) = false := beq_eq_false_iff_ne.mpr (by omega)
 have b5 : (k == 5) = false := beq_eq_false_iff_ne.mpr (by omega)
 clear hk
 have HR := Aside0.mk hr
 have HC := Aside0.mk hc
 have HB := Aside0.mk (Below.refl w.heap.size w)
 clear hr hc
 go_enter Try.func46, Try.ntmps46
 go_wp2
 go_ret
 exact ⟨.slice none 0 0, rfl, Kd.R_nil _ _ _ _ _, HB.out⟩
def frame_Rd.f (k : Int) (t : List Int) : Option (Int × Int × Int × List Int × Int × Int × Int) := if Pl.byteB t = true ∧ t.length < 1073741824 then some (Pl.rdS k t) else none
theorem frame_Rd.calls (a0 : Int) (A1 : Option Addr) (c1 : Nat) (l1 : List Int) (r1 r2 r3 : Int) (r4 : List Int) (r5 r6 r7 : Int) (w : World) (hr1 : Kd.C (Kd.int .u8) w A1 l1.length l1) (hc1 : l1.length ≤ c1) (h : frame_Rd.f a0 l1 = some (r1, r2, r3, r4, r5, r6, r7)) :
  Calls Try.prog 46 #[.int .i64 a0, .slice A1 l1.length c1] w fun e w' => ∃ v3_ : Value, e = .returned (bodyV r1 r2 r3 v3_ r5 r6 r7) ∧ Kd.R (Kd.int .u8) 5 w' w.heap.size (fun _ => True) v3_ r4 ∧ Below w.heap.size w w' := by
 unfold frame_Rd.f at h
 split at h
 case isFalse => cases h
 rename_i hh
 obtain ⟨hb, hl⟩ := hh
 replace h := Option.some.inj h
 have key : ∀ f : ByteArray, f.size < 2147483648 → le_Unpack.f f l1 = some (Pl.unpackS (Pl.fb f) l1) := fun f hf => by
  unfold le_Unpack.f
  rw [if_pos ⟨hb, by omega, hf⟩]
 by_cases k1 : a0 = 1
 ·subst k1
  rw [Pl.rdS, if_pos rfl] at h
  have ku := key (⟨#[98, 119, 119]⟩ : ByteArray) (by decide)
  rw [show Pl.fb (⟨#[98, 119, 119]⟩ : ByteArray) = [98, 119, 119] from by kernel_rfl] at ku
  by_cases h9 : l1.length = 9
  ·rw [if_pos h9] at h
   simp only [Prod.mk.injEq] at h
   obtain ⟨rfl, rfl, rfl, rfl, rfl, rfl, rfl⟩ := h
   rw [Pl.unpack_bww h9] at ku
   have q0 := Pl.byN_lt hb 0 1
   have q1 := Pl.byN_lt hb 1 4
   have q2 := Pl.byN_lt hb 5 4
   exact frame_Rd.head A1 c1 l1 _ _ _ w hr1 hc1 ku (by unfold wrap64; omega) (by unfold wrap64; omega) (by unfold wrap64; omega)
  rw [if_neg h9] at h
  simp only [Pl.frZ, Prod.mk.injEq] at h
  obtain ⟨rfl, rfl, rfl, rfl, rfl, rfl, rfl⟩ := h
  rw [Pl.unpack_len hb (by rw [show Pl.formL [98, 119, 119] = 9 from by decide]; exact h9)] at ku
  exact frame_Rd.head_no A1 c1 l1 w hr1 hc1 ku
 rw [Pl.rdS, if_neg k1] at h
 by_cases k2 : a0 = 2 ∨ a0 = 3 ∨ a0 = 4
 ·rw [if_pos k2] at h
  by_cases h2 : 2 ≤ l1.length
  ·rw [if_pos h2] at h
   simp only [Prod.mk.injEq] at h
   obtain ⟨rfl, rfl, rfl, rfl, rfl, rfl, rfl⟩ := h
   have q0 := frame_Rd.byte hb 0 (by omega)
   have q1 := frame_Rd.byte hb 1 (by omega)
   have e0 : wrap64 (rd l1 0) = rd l1 0 := by have : rd l1 ((0 : Nat) : Int) = rd l1 0 := rfl; unfold wrap64; omega
   have e1 : wrap64 (rd l1 1) = rd l1 1 := by have : rd l1 ((1 : Nat) : Int) = rd l1 1 := rfl; unfold wrap64; omega
   have g0 : l1.getD 0 0 = rd l1 0 := by simp [rd]
   have g1 : l1.getD 1 0 = rd l1 1 := by simp [rd]
   rw [g0, g1]
   rcases k2 with rfl | rfl | rfl
   ·exact frame_Rd.blocks2 A1 c1 l1 w hr1 hc1 h2 hl e0 e1
   ·exact frame_Rd.blocks3 A1 c1 l1 w hr1 hc1 h2 hl e0 e1
   ·exact frame_Rd.blocks4 A1 c1 l1 w hr1 hc1 h2 hl e0 e1
  rw [if_neg h2] at h
  simp only [Pl.frZ, Prod.mk.injEq] at h
  obtain ⟨rfl, rfl, rfl, rfl, rfl, rfl, rfl⟩ := h
  rcases k2 with rfl | rfl | rfl
  ·exact frame_Rd.blocks2_no A1 c1 l1 w hr1 hc1 (by omega)
  ·exact frame_Rd.blocks3_no A1 c1 l1 w hr1 hc1 (by omega)
  ·exact frame_Rd.blocks4_no A1 c1 l1 w hr1 hc1 (by omega)
 rw [if_neg k2] at h
 by_cases k5 : a0 = 5
 focus
  subst k5
  rw [if_pos rfl] at h
  have ku := key (⟨#[104, 119]⟩ : ByteArray) (by decide)
  rw [show Pl.fb (⟨#[104, 119]⟩ : ByteArray) = [104, 119] from by kernel_rfl] at ku
  by_cases h6 : l1.length = 6
  ·rw [if_pos h6] at h
   simp only [Prod.mk.injEq] at h
   obtain ⟨rfl, rfl, rfl, rfl, rfl, rfl, rfl⟩ := h
   rw [Pl.unpack_hw h6] at ku
   have q0 := Pl.byN_lt hb 0 2
   have q1 := Pl.byN_lt hb 2 4
   exact frame_Rd.endB A1 c1 l1 _ _ w hr1 hc1 ku (by unfold wrap64; omega) (by unfold wrap64; omega)
  rw [if_neg h6] at h
 rotate_left
 focus rw [if_neg k5] at h
 rotate_left
 all_goals
  simp only [Pl.frZ, Prod.mk.injEq] at h
  obtain ⟨rfl, rfl, rfl, rfl, rfl, rfl, rfl⟩ := h
 ·rw [Pl.unpack_len hb (by rw [show Pl.formL [104, 119] = 6 from by decide]; exact h6)] at ku
  exact frame_Rd.endB_no A1 c1 l1 w hr1 hc1 ku
 ·exact frame_Rd.noneB a0 A1 c1 l1 w hr1 hc1 (by omega)
end Go.Proofs.Ytohkmmbmfhficaa.PT
