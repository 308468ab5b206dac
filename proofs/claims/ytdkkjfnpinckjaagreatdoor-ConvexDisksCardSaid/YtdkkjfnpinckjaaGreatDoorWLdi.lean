/-
 The law ConvexDisks: the walk.
-/
import Derived.Test.YtdkkjfnpinckjaaGreatDoorWKnw
import Derived.Test.YtdkkjfnpinckjaaGreatDoorWMr
import Derived.Test.YtdkkjfnpinckjaaGreatDoorWLw1
import Derived.Test.YtdkkjfnpinckjaaGreatDoorWSml
import Derived.Test.YtdkkjfnpinckjaaGreatDoorWDw3
set_option maxRecDepth 100000
set_option linter.unusedSimpArgs false
set_option linter.unusedVariables false
namespace Go.Proofs.YtdkkjfnpinckjaaGreatDoor
open Go Go.RowKit

theorem rad_mul {a c : Int} (hc : 0 < c) : Rat.divInt a c * (c : Rat) = (a : Rat) := by
 have h : (c : Rat) ≠ 0 := fun e => by have := Pl.pos_cast hc; grind
 rw [Rat.divInt_eq_div, Rat.div_def, Rat.mul_assoc, Rat.inv_mul_cancel _ h, Rat.mul_one]
theorem rad_pos {a b : Int} (ha : 0 < a) (hb : 0 ≤ b) : 0 < Rat.divInt a (b + 1) := by
 have hc : 0 < b + 1 := by omega
 exact Pl.lt_of_mul (Pl.pos_cast hc) (by rw [rad_mul hc, Rat.zero_mul]; exact Pl.pos_cast ha)
theorem rad_nonpos {a b : Int} (ha : a ≤ 0) (hb : 0 ≤ b) : Rat.divInt a (b + 1) ≤ 0 := by
 have hc : 0 < b + 1 := by omega
 exact Pl.le_of_mul (Pl.pos_cast hc) (by rw [rad_mul hc, Rat.zero_mul]; exact Pl.cast_le ha)
theorem sq_div1 (n : Nat) : Rat.divInt ((n : Int) * n) 1 = (n : Rat) * n := by
 have h := rad_mul (a := (n : Int) * n) (c := 1) (by decide)
 simp only [Rat.intCast_one, Rat.mul_one, Rat.intCast_mul, Rat.intCast_natCast] at h
 exact h
theorem sq_div1_sz {n : Nat} (hn : n ≤ 16) : Pl.Sz 2 (Rat.divInt ((n : Int) * n) 1) := by
 have h := (sq_bd (n := n) (k := n) hn (Nat.le_refl n))
 rw [show (1 : Int) = ((1 : Nat) : Int) from rfl, Rat.divInt_ofNat]
 exact Pl.sz_mkRat (by omega) ((Pl.L_le_iff _ _).2 (by omega)) ((Pl.L_le_iff _ _).2 (by omega))
theorem cmp_one {a b : Rat} (h : b < a) : Pl.cmpQ a b = 1 := (Pl.sgn_pos_iff _).2 (by grind)

theorem cdisk_neg (r : Rat) (l : Int) (w : World) (hr : r ≤ 0) :
 Calls Tryz.prog 37 #[qv r, .int .i64 l] w fun e w' => e = .returned (.tuple #[.slice none 0 0, .slice none 0 0, .int .i64 2]) ∧ Below w.heap.size w w' := by
 obtain ⟨t, ht⟩ : ∃ t, Pl.sgn r = t := ⟨_, rfl⟩
 have hs : t ≤ 0 := ht ▸ (Pl.sgn_nonpos_iff r).2 hr
 have HSG := Lib.hid ht
 clear ht
 go_enter Tryz.func37, Tryz.ntmps37
 have K1 := Lib.hid (fun W => HSG.out ▸ qsign_any r W)
 go_wp2_with (fail)
 refine calls_named ?_
 intro W1 hW1
 have hL1 : Below w.heap.size w W1 := by
  rw [hW1]
  exact bB
 have c2 : Own W1 (w.heap.size) 0 [.bool (ng r.num), .string (mg r.num.natAbs), .bool false, .string (mg (dn r))] := by
  rw [hW1]
  first
  | (repeat (first | (with_reducible refine own_new (l := [.bool (ng r.num), .string (mg r.num.natAbs), .bool false, .string (mg (dn r))]) ?_; (simp; done)) | with_reducible refine Own.alloc ?_ _ | refine Own.far _ _ (by first | (simp; done) | (simp [*]; done) | (simp; omega)) ?_)); done
  | simp [Own, go_sem]
 have hB3 : Below w.heap.size w W1 := by
  rw [hW1]
  exact bB
 clear hW1 hL1
 with_reducible refine (K1.out _).mono ?_
 rintro e w1 ⟨rfl, hb1⟩
 have c4 := c2.up hb1
 have hB5 : Below w.heap.size w w1 := bel_up hB3 hb1
 clear c2
 have uc4 := c4
 simp only [At, Own, Nat.reduceAdd, and_true] at uc4
 go_wp2
 go_ret3
 refine ⟨rfl, ?_⟩
 exact bB

theorem cdisk_low (r : Rat) (l : Int) (w : World) (hr : 0 < r) (hl : l < 1) :
 Calls Tryz.prog 37 #[qv r, .int .i64 l] w fun e w' => e = .returned (.tuple #[.slice none 0 0, .slice none 0 0, .int .i64 2]) ∧ Below w.heap.size w w' := by
 have HSG : Hid (Pl.sgn r = 1) := Lib.hid ((Pl.sgn_pos_iff r).2 hr)
 go_enter Tryz.func37, Tryz.ntmps37
 have K1 := Lib.hid (fun W => HSG.out ▸ qsign_any r W)
 go_wp2_with (fail)
 refine calls_named ?_
 intro W1 hW1
 have hL1 : Below w.heap.size w W1 := by
  rw [hW1]
  exact bB
 have c2 : Own W1 (w.heap.size) 0 [.bool (ng r.num), .string (mg r.num.natAbs), .bool false, .string (mg (dn r))] := by
  rw [hW1]
  first
  | (repeat (first | (with_reducible refine own_new (l := [.bool (ng r.num), .string (mg r.num.natAbs), .bool false, .string (mg (dn r))]) ?_; (simp; done)) | with_reducible refine Own.alloc ?_ _ | refine Own.far _ _ (by first | (simp; done) | (simp [*]; done) | (simp; omega)) ?_)); done
  | simp [Own, go_sem]
 have hB3 : Below w.heap.size w W1 := by
  rw [hW1]
  exact bB
 clear hW1 hL1
 with_reducible refine (K1.out _).mono ?_
 rintro e w1 ⟨rfl, hb1⟩
 have c4 := c2.up hb1
 have hB5 : Below w.heap.size w w1 := bel_up hB3 hb1
 clear c2
 have uc4 := c4
 simp only [At, Own, Nat.reduceAdd, and_true] at uc4
 go_wp2
 go_ret3
 refine ⟨rfl, ?_⟩
 exact bB

theorem cdisk_high (r : Rat) (l : Int) (w : World) (hr : 0 < r) (hl : 1 ≤ l) (hl2 : 16 < l) :
 Calls Tryz.prog 37 #[qv r, .int .i64 l] w fun e w' => e = .returned (.tuple #[.slice none 0 0, .slice none 0 0, .int .i64 2]) ∧ Below w.heap.size w w' := by
 have HSG : Hid (Pl.sgn r = 1) := Lib.hid ((Pl.sgn_pos_iff r).2 hr)
 go_enter Tryz.func37, Tryz.ntmps37
 have K1 := Lib.hid (fun W => HSG.out ▸ qsign_any r W)
 go_wp2_with (fail)
 refine calls_named ?_
 intro W1 hW1
 have hL1 : Below w.heap.size w W1 := by
  rw [hW1]
  exact bB
 have c2 : Own W1 (w.heap.size) 0 [.bool (ng r.num), .string (mg r.num.natAbs), .bool false, .string (mg (dn r))] := by
  rw [hW1]
  first
  | (repeat (first | (with_reducible refine own_new (l := [.bool (ng r.num), .string (mg r.num.natAbs), .bool false, .string (mg (dn r))]) ?_; (simp; done)) | with_reducible refine Own.alloc ?_ _ | refine Own.far _ _ (by first | (simp; done) | (simp [*]; done) | (simp; omega)) ?_)); done
  | simp [Own, go_sem]
 have hB3 : Below w.heap.size w W1 := by
  rw [hW1]
  exact bB
 clear hW1 hL1
 with_reducible refine (K1.out _).mono ?_
 rintro e w1 ⟨rfl, hb1⟩
 have c4 := c2.up hb1
 have hB5 : Below w.heap.size w w1 := bel_up hB3 hb1
 clear c2
 have uc4 := c4
 simp only [At, Own, Nat.reduceAdd, and_true] at uc4
 go_wp2
 go_ret3
 refine ⟨rfl, ?_⟩
 exact bB

theorem cdisk_range (r : Rat) (l : Int) (w : World) (h : r ≤ 0 ∨ l < 1 ∨ 16 < l) :
 Calls Tryz.prog 37 #[qv r, .int .i64 l] w fun e w' => e = .returned (.tuple #[.slice none 0 0, .slice none 0 0, .int .i64 2]) ∧ Below w.heap.size w w' := by
 by_cases h1 : r ≤ 0
 ·exact cdisk_neg r l w h1
 ·have h2 : 0 < r := by grind
  by_cases h3 : l < 1
  ·exact cdisk_low r l w h2 h3
  ·exact cdisk_high r l w h2 (by omega) (by rcases h with h | h | h <;> first | (exfalso; exact h1 h) | omega)
set_option maxHeartbeats 2000000 in
theorem disks_wrong (a b l : Int) (w : World) (h1 : -32768 ≤ a) (h2 : a ≤ 32767) (h3 : 0 ≤ b) (h4 : b ≤ 255) (hw : a ≤ 0 ∨ l < 1 ∨ 16 < l) :
 Calls Tryz.prog 8 #[.agg #[.int .i16 a, .int .u8 b, .int .i64 l]] w fun e w' => e = .returned (.bool true) ∧ Below w.heap.size w w' := by
 obtain ⟨r, hr⟩ : ∃ r, Rat.divInt a (b + 1) = r := ⟨_, rfl⟩
 have HRA := Lib.hid hr
 have HRZ : Hid (Pl.Sz 2 r) := Lib.hid (hr ▸ rad_sz h1 h2 h3 h4)
 have HBAD : Hid (r ≤ 0 ∨ l < 1 ∨ 16 < l) := Lib.hid (by rcases hw with h | h | h; exact .inl (hr ▸ rad_nonpos h h3); exact .inr (.inl h); exact .inr (.inr h))
 have HWR : Hid (decide (a ≤ 0 ∨ l < 1 ∨ 16 < l) = true) := Lib.hid (decide_eq_true hw)
 clear hr hw
 go_enter Tryz.func8, Tryz.ntmps8
 go_upto_region 1 with fail
 refine wp_named ?_
 intro W1 hW1
 have hL1 : Below w.heap.size w W1 := by
  rw [hW1]
  exact bB
 have c1 : Own W1 (w.heap.size) 0 [.int .i16 a, .int .u8 b, .int .i64 l] := by
  rw [hW1]
  first
  | (repeat (first | (with_reducible refine own_new (l := [.int .i16 a, .int .u8 b, .int .i64 l]) ?_; (simp; done)) | with_reducible refine Own.alloc ?_ _ | refine Own.far _ _ (by first | (simp; done) | (simp [*]; done) | (simp; omega)) ?_)); done
  | simp [Own, go_sem]
 have hB2 : Below w.heap.size w W1 := by
  rw [hW1]
  exact bB
 clear hW1 hL1
 have K3 := Lib.hid (fun W => HRA.out ▸ radius_any a b l W h1 h2 h3 h4)
 have K5 := Lib.hid (fun W => cdisk_range r l W HBAD.out)
 have HSS7 : ∀ w' : World, Below W1.heap.size W1 w' → (w'.cell? ⟨w.heap.size, 0, none⟩ = some (.int .i16 a) ∧ w'.cell? ⟨w.heap.size, 1, none⟩ = some (.int .u8 b) ∧ w'.cell? ⟨w.heap.size, 2, none⟩ = some (.int .i64 l)) := fun w' hb => by
  have qc1 := c1.up hb
  simp only [At, Own, CE, CS, Nat.reduceAdd, Nat.reduceMul, Nat.zero_mul, Nat.add_zero, Nat.add_assoc, and_true] at qc1
  try simp only [Nat.add_assoc, Nat.reduceAdd]
  simp [*]
 go_cut [3, 4, 5] (fun x3 x4 x5 wx => x3 = .slice none 0 0 ∧ x4 = .slice none 0 0 ∧ x5 = .int .i64 2 ∧ Below W1.heap.size W1 wx)
 case first =>
  have hu := HSS7 W1 (Below.refl _ _)
  go_region_held3 (fun w' => w'.cell? ⟨w.heap.size, 0, none⟩ = some (.int .i16 a) ∧ w'.cell? ⟨w.heap.size, 1, none⟩ = some (.int .u8 b) ∧ w'.cell? ⟨w.heap.size, 2, none⟩ = some (.int .i64 l)) (refine HSS7 _ ?_ <;> (repeat (first | with_reducible exact Below.refl _ _ | with_reducible refine bel_alloc ?_ _ | with_reducible refine Below.drew ?_ | (refine Below.setCell ?_ (by first | (simp; done) | (simp; omega) | omega) _) | with_reducible refine bel_up ?_ (by with_reducible assumption)))) (first
   | (go_at_call 38; with_reducible refine (K3.out _).mono ?_; rintro e v_4 ⟨rfl, hbq_4⟩; have hsz_4 := hbq_4.size; (try simp [size_drewK] at hsz_4))
   | (go_at_call 37; with_reducible refine (K5.out _).mono ?_; rintro e v_6 ⟨rfl, hbq_6⟩; have hsz_6 := hbq_6.size; (try simp [size_drewK] at hsz_6)))
  all_goals
   go_wp2_with fail
   go_meet
   refine ⟨rfl, rfl, rfl, ?_⟩
   ·(repeat (first | with_reducible exact Below.refl _ _ | with_reducible refine bel_alloc ?_ _ | with_reducible refine Below.drew ?_ | (refine Below.setCell ?_ (by first | (simp; done) | (simp; omega) | omega) _) | with_reducible refine bel_up ?_ (by with_reducible assumption)))
 case rest =>
  obtain ⟨rfl, rfl, rfl, hbz1⟩ := hcut
  obtain ⟨wz1, hwz1⟩ : ∃ W_, W_ = wc := ⟨_, rfl⟩
  subst hwz1
  clear HSS7
  have c8 := c1.up hbz1
  have hB9 : Below w.heap.size w wz1 := bel_up hB2 hbz1
  clear c1
  have K10 := Lib.hid (fun W => known_any W)
  have uc8 := c8
  simp only [At, Own, Nat.reduceAdd, and_true] at uc8
  go_wp2_with (fail)
  refine calls_named ?_
  intro W2 hW2
  have hL2 : Below wz1.heap.size wz1 W2 := by
   rw [hW2]
   exact bB
  have c11 := c8.up hL2
  have hB12 : Below w.heap.size w W2 := by
   rw [hW2]
   exact bB
  clear hW2 hL2 uc8 c8
  with_reducible refine (K10.out _).mono ?_
  rintro e w2 ⟨rfl, hb2⟩
  have c13 := c11.up hb2
  have hB14 : Below w.heap.size w w2 := bel_up hB12 hb2
  clear c11
  have uc13 := c13
  simp only [At, Own, Nat.reduceAdd, and_true] at uc13
  have K15 := Lib.hid (fun W => HWR.out ▸ wrong_any a b l W)
  go_wp2_with (fail)
  refine calls_named ?_
  intro W3 hW3
  have hL3 : Below w2.heap.size w2 W3 := by
   rw [hW3]
   exact bB
  have c16 := c13.up hL3
  have hB17 : Below w.heap.size w W3 := by
   rw [hW3]
   exact bB
  clear hW3 hL3 uc13 c13
  with_reducible refine (K15.out _).mono ?_
  rintro e w3 ⟨rfl, hb3⟩
  have c18 := c16.up hb3
  have hB19 : Below w.heap.size w w3 := bel_up hB17 hb3
  clear c16
  have uc18 := c18
  simp only [At, Own, Nat.reduceAdd, and_true] at uc18
  go_wp2_with (fail)
  refine calls_named ?_
  intro W4 hW4
  have hL4 : Below w3.heap.size w3 W4 := by
   rw [hW4]
   exact bB
  have c20 := c18.up hL4
  have hB21 : Below w.heap.size w W4 := by
   rw [hW4]
   exact bB
  clear hW4 hL4 uc18 c18
  with_reducible refine (K10.out _).mono ?_
  rintro e w4 ⟨rfl, hb4⟩
  have c22 := c20.up hb4
  have hB23 : Below w.heap.size w w4 := bel_up hB21 hb4
  clear c20
  have uc22 := c22
  simp only [At, Own, Nat.reduceAdd, and_true] at uc22
  go_wp2
  go_ret
  refine ⟨rfl, ?_⟩
  exact bB
set_option maxHeartbeats 4000000 in
theorem disks_right (a b : Int) (n : Nat) (w : World) (h1 : -32768 ≤ a) (h2 : a ≤ 32767) (h3 : 0 ≤ b) (h4 : b ≤ 255) (ha : 0 < a) (hn1 : 1 ≤ n) (hn : n ≤ 16) :
 Calls Tryz.prog 8 #[.agg #[.int .i16 a, .int .u8 b, .int .i64 n]] w fun e w' => e = .returned (.bool true) ∧ Below w.heap.size w w' := by
 obtain ⟨r, hr⟩ : ∃ r, Rat.divInt a (b + 1) = r := ⟨_, rfl⟩
 have HRA := Lib.hid hr
 have HRZ : Hid (Pl.Sz 2 r) := Lib.hid (hr ▸ rad_sz h1 h2 h3 h4)
 have HR0 : Hid (0 < r) := Lib.hid (hr ▸ rad_pos ha h3)
 have HWR : Hid (decide (a ≤ 0 ∨ (n : Int) < 1 ∨ 16 < (n : Int)) = false) := Lib.hid (decide_eq_false (by omega))
 obtain ⟨X, hX⟩ : ∃ X, Pl.wrap (Pl.ringD n r) = X := ⟨_, rfl⟩
 obtain ⟨Y, hY⟩ : ∃ Y, Pl.wrap (Pl.outsD n r) = Y := ⟨_, rfl⟩
 obtain ⟨N, hN4⟩ : ∃ N : Nat, N = 4 * n := ⟨_, rfl⟩
 have HXW := Lib.hid hX
 have HYW := Lib.hid hY
 have HNX : Hid (X.length = N) := Lib.hid (by rw [← hX, Pl.ringD_len hn1 hn HR0.out, hN4])
 have HNY : Hid (Y.length = N) := Lib.hid (by rw [← hY, Pl.outsD_len hn1 hn HR0.out, hN4])
 have HSX : Hid (∀ q ∈ X, Pl.SzP 4 q) := Lib.hid (by rw [← hX]; exact wrap_sz (map_sz (dp_sz hn1 hn HRZ.out) _))
 have HSY : Hid (∀ q ∈ Y, Pl.SzP 40 q) := Lib.hid (by rw [← hY]; exact wrap_sz (map_sz (os_sz hn1 hn HRZ.out) _))
 have HQX : Hid (X.length ≤ 1000000) := Lib.hid (by rw [HNX.out]; omega)
 have HQY : Hid (Y.length ≤ 1000000) := Lib.hid (by rw [HNY.out]; omega)
 have HDX : Hid (∀ q ∈ X, Pl.dotP q q = r * r) := Lib.hid (by rw [← hX]; exact fun q hq => Pl.ringD_on hn1 hn q ((Pl.wrap_isHull _).sub q hq))
 obtain ⟨mo, hmo⟩ : ∃ mo, r * r + r * r / Rat.divInt ((n : Int) * n) 1 = mo := ⟨_, rfl⟩
 have HMO := Lib.hid hmo
 have HDZ := Lib.hid (sq_div1_sz hn)
 have HMZ : Hid (Pl.Sz 40 mo) := Lib.hid (by rw [← hmo]; exact ((HRZ.out.mul HRZ.out).add ((HRZ.out.mul HRZ.out).div HDZ.out)).mono (by omega))
 have HDY : Hid (∀ q ∈ Y, r * r < Pl.dotP q q ∧ Pl.dotP q q ≤ mo) := Lib.hid (by rw [← hY, ← hmo, sq_div1]; exact fun q hq => Pl.outsD_on hn1 hn HR0.out q ((Pl.wrap_isHull _).sub q hq))
 have HNE : Hid (Rat.divInt ((n : Int) * n) 1 ≠ 0) := Lib.hid (by
  rw [sq_div1]
  have h : (0 : Rat) < (n : Rat) := by exact_mod_cast hn1
  have := Rat.mul_pos h h
  grind)
 have hN64 : N ≤ 64 := by omega
 have HM4 : Hid (IntKind.i64.wrap (4 * (n : Int)) = (N : Int) ∧ wrap64 (4 * (n : Int)) = (N : Int)) := Lib.hid (by
  have h := wi64 (4 * (n : Int)) (by omega) (by omega)
  have e : (N : Int) = 4 * (n : Int) := by omega
  rw [e]; exact h)
 obtain ⟨hsqa, hsqb⟩ : -9223372036854775808 ≤ (n : Int) * n ∧ (n : Int) * n ≤ 9223372036854775807 := by
  have h := sq_bd (n := n) (k := n) hn (Nat.le_refl n)
  constructor <;> omega
 obtain ⟨⟨p1, q1⟩, _⟩ := prods (k := n) hn1 hn (Nat.le_refl n)
 have EQR := fun W => eqQ_in (r * r) (r * r) W
 rw [decide_eq_true rfl] at EQR
 obtain ⟨m1, m2⟩ := HM4.out
 clear hr hX hY hmo hN4
 go_enter Tryz.func8, Tryz.ntmps8
 go_upto_region 1 with fail
 refine wp_named ?_
 intro W1 hW1
 have hL1 : Below w.heap.size w W1 := by
  rw [hW1]
  exact bB
 have c1 : Own W1 (w.heap.size) 0 [.int .i16 a, .int .u8 b, .int .i64 n] := by
  rw [hW1]
  first
  | (repeat (first | (with_reducible refine own_new (l := [.int .i16 a, .int .u8 b, .int .i64 n]) ?_; (simp; done)) | with_reducible refine Own.alloc ?_ _ | refine Own.far _ _ (by first | (simp; done) | (simp [*]; done) | (simp; omega)) ?_)); done
  | simp [Own, go_sem]
 have hB2 : Below w.heap.size w W1 := by
  rw [hW1]
  exact bB
 clear hW1 hL1
 have K3 := Lib.hid (fun W => HRA.out ▸ radius_any a b n W h1 h2 h3 h4)
 have K5 := Lib.hid (fun W => HXW.out ▸ HYW.out ▸ cdisk_any n r W hn1 hn HR0.out HRZ.out)
 have HSS7 : ∀ w' : World, Below W1.heap.size W1 w' → (w'.cell? ⟨w.heap.size, 0, none⟩ = some (.int .i16 a) ∧ w'.cell? ⟨w.heap.size, 1, none⟩ = some (.int .u8 b) ∧ w'.cell? ⟨w.heap.size, 2, none⟩ = some (.int .i64 n)) := fun w' hb => by
  have qc1 := c1.up hb
  simp only [At, Own, CE, CS, Nat.reduceAdd, Nat.reduceMul, Nat.zero_mul, Nat.add_zero, Nat.add_assoc, and_true] at qc1
  try simp only [Nat.add_assoc, Nat.reduceAdd]
  simp [*]
 go_cut [3, 4, 5] (fun x3 x4 x5 wx => x5 = .int .i64 0 ∧ PV wx x3 X ∧ PV wx x4 Y ∧ Below W1.heap.size W1 wx)
 case first =>
  have hu := HSS7 W1 (Below.refl _ _)
  go_region_held3 (fun w' => w'.cell? ⟨w.heap.size, 0, none⟩ = some (.int .i16 a) ∧ w'.cell? ⟨w.heap.size, 1, none⟩ = some (.int .u8 b) ∧ w'.cell? ⟨w.heap.size, 2, none⟩ = some (.int .i64 n)) (refine HSS7 _ ?_ <;> (repeat (first | with_reducible exact Below.refl _ _ | with_reducible refine bel_alloc ?_ _ | with_reducible refine Below.drew ?_ | (refine Below.setCell ?_ (by first | (simp; done) | (simp; omega) | omega) _) | with_reducible refine bel_up ?_ (by with_reducible assumption)))) (first
   | (go_at_call 38; with_reducible refine (K3.out _).mono ?_; rintro e v_4 ⟨rfl, hbq_4⟩; have hsz_4 := hbq_4.size; (try simp [size_drewK] at hsz_4))
   | (go_at_call 37; with_reducible refine (K5.out _).mono ?_; rintro e v_6 ⟨vva_6, vvb_6, rfl, hva_6, hvb_6, hbq_6⟩; have hsz_6 := hbq_6.size; (try simp [size_drewK] at hsz_6)))
  all_goals
   go_wp2_with fail
   go_meet
   refine ⟨rfl, (hva_6.up (by repeat (first | with_reducible exact Below.refl _ _ | with_reducible refine bel_alloc ?_ _ | with_reducible refine Below.drew ?_ | (refine Below.setCell ?_ (by first | (simp; done) | (simp; omega) | omega) _) | with_reducible refine bel_up ?_ (by with_reducible assumption)))), (hvb_6.up (by repeat (first | with_reducible exact Below.refl _ _ | with_reducible refine bel_alloc ?_ _ | with_reducible refine Below.drew ?_ | (refine Below.setCell ?_ (by first | (simp; done) | (simp; omega) | omega) _) | with_reducible refine bel_up ?_ (by with_reducible assumption)))), ?_⟩
   ·(repeat (first | with_reducible exact Below.refl _ _ | with_reducible refine bel_alloc ?_ _ | with_reducible refine Below.drew ?_ | (refine Below.setCell ?_ (by first | (simp; done) | (simp; omega) | omega) _) | with_reducible refine bel_up ?_ (by with_reducible assumption)))
 case rest =>
  obtain ⟨rfl, lv8, lv9, hbz1⟩ := hcut
  obtain ⟨wz1, hwz1⟩ : ∃ W_, W_ = wc := ⟨_, rfl⟩
  subst hwz1
  clear HSS7
  have c10 := c1.up hbz1
  have hB11 : Below w.heap.size w wz1 := bel_up hB2 hbz1
  clear c1
  have PV12 := Lib.hid lv8
  clear lv8
  have PV14 := Lib.hid lv9
  clear lv9
  obtain ⟨A3, c3, hv3, hcc3, hmm3, hx3⟩ := PV12.out.open_
  rw [HNX.out] at hv3 hcc3
  subst hv3
  have XX3 := Lib.hid hx3
  clear hx3
  obtain ⟨A4, c4, hv4, hcc4, hmm4, hx4⟩ := PV14.out.open_
  rw [HNY.out] at hv4 hcc4
  subst hv4
  have XX4 := Lib.hid hx4
  clear hx4
  have K16 := Lib.hid (fun W => known_any W)
  have uc10 := c10
  simp only [At, Own, Nat.reduceAdd, and_true] at uc10
  go_wp2_with (fail)
  refine calls_named ?_
  intro W2 hW2
  have hL2 : Below wz1.heap.size wz1 W2 := by
   rw [hW2]
   exact bB
  have c17 := c10.up hL2
  have hA18 := hL2
  have hB19 : Below w.heap.size w W2 := by
   rw [hW2]
   exact bB
  clear hW2 hL2 uc10 c10
  with_reducible refine (K16.out _).mono ?_
  rintro e w2 ⟨rfl, hb2⟩
  have c20 := c17.up hb2
  have hA21 := bel_up hA18 hb2
  have hB22 : Below w.heap.size w w2 := bel_up hB19 hb2
  clear c17 hA18
  have uc20 := c20
  simp only [At, Own, Nat.reduceAdd, and_true] at uc20
  have K23 := Lib.hid (fun W => HWR.out ▸ wrong_any a b n W)
  go_wp2_with (fail)
  refine calls_named ?_
  intro W3 hW3
  have hL3 : Below w2.heap.size w2 W3 := by
   rw [hW3]
   exact bB
  have c24 := c20.up hL3
  have hA25 := bel_up hA21 hL3
  have hB26 : Below w.heap.size w W3 := by
   rw [hW3]
   exact bB
  clear hW3 hL3 uc20 c20 hA21
  with_reducible refine (K23.out _).mono ?_
  rintro e w3 ⟨rfl, hb3⟩
  have c27 := c24.up hb3
  have hA28 := bel_up hA25 hb3
  have hB29 : Below w.heap.size w w3 := bel_up hB26 hb3
  clear c24 hA25
  go_upto_region 4 with fail
  refine wp_named ?_
  intro W4 hW4
  have hL4 : Below w3.heap.size w3 W4 := by
   rw [hW4]
   exact bB
  have c30 := c27.up hL4
  have hA31 := bel_up hA28 hL4
  have hB32 : Below w.heap.size w W4 := by
   rw [hW4]
   exact bB
  clear hW4 hL4 c27 hA28
  have K34 := Lib.hid (fun W => HXW.out ▸ HYW.out ▸ hdisk_any n r W hn1 hn HR0.out HRZ.out)
  have HSS36 : ∀ w' : World, Below W4.heap.size W4 w' → (w'.cell? ⟨w.heap.size, 0, none⟩ = some (.int .i16 a) ∧ w'.cell? ⟨w.heap.size, 1, none⟩ = some (.int .u8 b) ∧ w'.cell? ⟨w.heap.size, 2, none⟩ = some (.int .i64 n)) := fun w' hb => by
   have qc30 := c30.up hb
   simp only [At, Own, CE, CS, Nat.reduceAdd, Nat.reduceMul, Nat.zero_mul, Nat.add_zero, Nat.add_assoc, and_true] at qc30
   try simp only [Nat.add_assoc, Nat.reduceAdd]
   simp [*]
  go_cut [6, 7] (fun x6 x7 wx => PV wx x6 X ∧ PV wx x7 Y ∧ Below W4.heap.size W4 wx)
  case first =>
   have hu := HSS36 W4 (Below.refl _ _)
   go_region_held3 (fun w' => w'.cell? ⟨w.heap.size, 0, none⟩ = some (.int .i16 a) ∧ w'.cell? ⟨w.heap.size, 1, none⟩ = some (.int .u8 b) ∧ w'.cell? ⟨w.heap.size, 2, none⟩ = some (.int .i64 n)) (refine HSS36 _ ?_ <;> (repeat (first | with_reducible exact Below.refl _ _ | with_reducible refine bel_alloc ?_ _ | with_reducible refine Below.drew ?_ | (refine Below.setCell ?_ (by first | (simp; done) | (simp; omega) | omega) _) | with_reducible refine bel_up ?_ (by with_reducible assumption)))) (first
    | (go_at_call 38; with_reducible refine (K3.out _).mono ?_; rintro e v_33 ⟨rfl, hbq_33⟩; have hsz_33 := hbq_33.size; (try simp [size_drewK] at hsz_33))
    | (go_at_call 40; with_reducible refine (K34.out _).mono ?_; rintro e v_35 ⟨vva_35, vvb_35, rfl, hva_35, hvb_35, hbq_35⟩; have hsz_35 := hbq_35.size; (try simp [size_drewK] at hsz_35)))
   all_goals
    go_wp2_with fail
    go_meet
    refine ⟨(hva_35.up (by repeat (first | with_reducible exact Below.refl _ _ | with_reducible refine bel_alloc ?_ _ | with_reducible refine Below.drew ?_ | (refine Below.setCell ?_ (by first | (simp; done) | (simp; omega) | omega) _) | with_reducible refine bel_up ?_ (by with_reducible assumption)))), (hvb_35.up (by repeat (first | with_reducible exact Below.refl _ _ | with_reducible refine bel_alloc ?_ _ | with_reducible refine Below.drew ?_ | (refine Below.setCell ?_ (by first | (simp; done) | (simp; omega) | omega) _) | with_reducible refine bel_up ?_ (by with_reducible assumption)))), ?_⟩
    ·(repeat (first | with_reducible exact Below.refl _ _ | with_reducible refine bel_alloc ?_ _ | with_reducible refine Below.drew ?_ | (refine Below.setCell ?_ (by first | (simp; done) | (simp; omega) | omega) _) | with_reducible refine bel_up ?_ (by with_reducible assumption)))
  case rest =>
   obtain ⟨lv37, lv38, hbz4⟩ := hcut
   obtain ⟨wz4, hwz4⟩ : ∃ W_, W_ = wc := ⟨_, rfl⟩
   subst hwz4
   clear HSS36
   have c39 := c30.up hbz4
   have hA40 := bel_up hA31 hbz4
   have hB41 : Below w.heap.size w wz4 := bel_up hB32 hbz4
   clear c30 hA31
   have PV42 := Lib.hid lv37
   clear lv37
   have PV44 := Lib.hid lv38
   clear lv38
   have K46 := Lib.hid (fun W va vb (ha : PV W va X) (hb : PV W vb X) => same_true va vb X W ha hb HQX.out)
   have uc39 := c39
   simp only [At, Own, Nat.reduceAdd, and_true] at uc39
   go_wp2_with (fail)
   refine calls_named ?_
   intro W5 hW5
   have hL5 : Below wz4.heap.size wz4 W5 := by
    rw [hW5]
    exact bB
   have c47 := c39.up hL5
   have hA48 := bel_up hA40 hL5
   have hA49 := hL5
   have hB50 : Below w.heap.size w W5 := by
    rw [hW5]
    exact bB
   clear hW5 hL5 uc39 c39 hA40
   with_reducible refine (K46.out _ _ _ (PV12.out.up hA48) (PV42.out.up hA49)).mono ?_
   rintro e w5 ⟨rfl, hb5⟩
   have c51 := c47.up hb5
   have hA52 := bel_up hA48 hb5
   have hA53 := bel_up hA49 hb5
   have hB54 : Below w.heap.size w w5 := bel_up hB50 hb5
   clear c47 hA48 hA49
   have K55 := Lib.hid (fun W va vb (ha : PV W va Y) (hb : PV W vb Y) => same_true va vb Y W ha hb HQY.out)
   have uc51 := c51
   simp only [At, Own, Nat.reduceAdd, and_true] at uc51
   go_wp2_with (fail)
   refine calls_named ?_
   intro W6 hW6
   have hL6 : Below w5.heap.size w5 W6 := by
    rw [hW6]
    exact bB
   have c56 := c51.up hL6
   have hA57 := bel_up hA52 hL6
   have hA58 := bel_up hA53 hL6
   have hB59 : Below w.heap.size w W6 := by
    rw [hW6]
    exact bB
   clear hW6 hL6 uc51 c51 hA52 hA53
   with_reducible refine (K55.out _ _ _ (PV14.out.up hA57) (PV44.out.up hA58)).mono ?_
   rintro e w6 ⟨rfl, hb6⟩
   have c60 := c56.up hb6
   have hA61 := bel_up hA57 hb6
   have hA62 := bel_up hA58 hb6
   have hB63 : Below w.heap.size w w6 := bel_up hB59 hb6
   clear c56 hA57 hA58
   have uc60 := c60
   simp only [At, Own, Nat.reduceAdd, and_true] at uc60
   go_upto_region 7 with fail
   refine wp_named ?_
   intro W7 hW7
   have hL7 : Below w6.heap.size w6 W7 := by
    rw [hW7]
    exact bB
   have c64 := c60.up hL7
   have hA65 := bel_up hA61 hL7
   have hA66 := bel_up hA62 hL7
   have hB67 : Below w.heap.size w W7 := by
    rw [hW7]
    exact bB
   clear hW7 hL7 uc60 c60 hA61 hA62
   have K69 := Lib.hid (fun W => rmul_any r r W (HRZ.out.mono (by omega)) (HRZ.out.mono (by omega)))
   refine wp_region_new1 6 5 8 [.bool false, .string ⟨#[]⟩, .bool false, .string ⟨#[]⟩] 33 (by kernel_rfl) (by kernel_rfl) rfl rfl rfl rfl (by intro h_; cases h_) (by simp) (run_alloc_zero Tryz.zeroValue33 rfl) (by kernel_rfl) ?_
   intro V_68 hV_68
   have vc64 := c64.up hV_68; have dc64 := fun p : Bel V_68 => vc64.bel p
   simp only [At, Own, Nat.reduceAdd, and_true] at dc64
   have hBV_68 := bel_up hB67 hV_68
   have hA71 := bel_up hA65 hV_68
   have hA72 := bel_up hA66 hV_68
   simp only [List.map_cons, List.map_nil, maskOp, List.take_succ_cons, List.take_zero]
   repeat (go_big_quiet_step (first | (go_at_call 38; with_reducible exact Calls.bel (K3.out _)) | (go_at_call 41; with_reducible exact Calls.bel (K69.out _))))
   refine wpQuiet_nil ?_
   refine ⟨[.bool (ng ((r * r).num)), .string (mg ((r * r).num).natAbs), .bool false, .string (mg (dn (r * r)))], rfl, rfl, by simp [Value.oneCell'], ?_⟩
   intro bq70 wn_68 hbn_68 lbq70 mbq70 c73
   simp only [Act.put, List.setIfInBounds_toArray, List.set_cons_zero, List.set_cons_succ]
   have ne74 : w.heap.size ≠ bq70 := by have := c64.lt; omega
   have ne74' := ne74.symm
   have wbq70 := Nat.le_trans hB67.size lbq70
   have an75 : wz1.heap.size ≤ bq70 := Nat.le_trans hA65.size lbq70
   have an76 : wz4.heap.size ≤ bq70 := Nat.le_trans hA66.size lbq70
   clear hA72 hA71 hBV_68 dc64 vc64 hV_68 V_68
   have c77 := c64.up hbn_68
   have hA78 := bel_up hA65 hbn_68
   have hA79 := bel_up hA66 hbn_68
   have hB80 : Below w.heap.size w wn_68 := bel_up hB67 hbn_68
   clear c64 hA65 hA66
   go_upto_region 8 with fail
   refine wp_named ?_
   intro W8 hW8
   have hL8 : Below wn_68.heap.size wn_68 W8 := by
    rw [hW8]
    exact bB
   have c81 := c77.up hL8
   have c82 := c73.up hL8
   have hA83 := bel_up hA78 hL8
   have hA84 := bel_up hA79 hL8
   have hB85 : Below w.heap.size w W8 := by
    rw [hW8]
    exact bB
   clear hW8 hL8 c77 c73 hA78 hA79
   have K87 := Lib.hid (fun W => rOf_any ((n : Int) * n) 1 W (by decide) hsqa hsqb (by decide) (by decide))
   have K88 := Lib.hid (fun W => rdiv_any (r * r) (Rat.divInt ((n : Int) * n) 1) W HNE.out ((HRZ.out.mul HRZ.out).mono (by omega)) (HDZ.out.mono (by omega)))
   have K89 := Lib.hid (fun W => HMO.out ▸ radd_any (r * r) ((r * r) / (Rat.divInt ((n : Int) * n) 1)) W ((HRZ.out.mul HRZ.out).mono (by omega)) (((HRZ.out.mul HRZ.out).div HDZ.out).mono (by omega)))
   refine wp_region_new1 11 10 9 [.bool false, .string ⟨#[]⟩, .bool false, .string ⟨#[]⟩] 33 (by kernel_rfl) (by kernel_rfl) rfl rfl rfl rfl (by intro h_; cases h_) (by simp) (run_alloc_zero Tryz.zeroValue33 rfl) (by kernel_rfl) ?_
   intro V_86 hV_86
   have vc81 := c81.up hV_86; have dc81 := fun p : Bel V_86 => vc81.bel p
   have vc82 := c82.up hV_86; have dc82 := fun p : Bel V_86 => vc82.bel p
   simp only [At, Own, Nat.reduceAdd, and_true] at dc81 dc82
   have hBV_86 := bel_up hB85 hV_86
   have hA91 := bel_up hA83 hV_86
   have hA92 := bel_up hA84 hV_86
   simp only [List.map_cons, List.map_nil, maskOp, List.take_succ_cons, List.take_zero]
   repeat (go_big_quiet_step (first | (go_at_call 21; with_reducible exact Calls.bel (K87.out _)) | (go_at_call 42; with_reducible exact Calls.bel (K88.out _)) | (go_at_call 29; with_reducible exact Calls.bel (K89.out _))))
   refine wpQuiet_nil ?_
   refine ⟨[.bool (ng mo.num), .string (mg mo.num.natAbs), .bool false, .string (mg (dn mo))], rfl, rfl, by simp [Value.oneCell'], ?_⟩
   intro bq90 wn_86 hbn_86 lbq90 mbq90 c93
   simp only [Act.put, List.setIfInBounds_toArray, List.set_cons_zero, List.set_cons_succ]
   have ne94 : w.heap.size ≠ bq90 := by have := c81.lt; omega
   have ne94' := ne94.symm
   have ne95 : bq70 ≠ bq90 := by have := c82.lt; omega
   have ne95' := ne95.symm
   have wbq90 := Nat.le_trans hB85.size lbq90
   have an96 : wz1.heap.size ≤ bq90 := Nat.le_trans hA83.size lbq90
   have an97 : wz4.heap.size ≤ bq90 := Nat.le_trans hA84.size lbq90
   clear hA92 hA91 hBV_86 dc82 vc82 dc81 vc81 hV_86 V_86
   have c98 := c81.up hbn_86
   have c99 := c82.up hbn_86
   have hA100 := bel_up hA83 hbn_86
   have hA101 := bel_up hA84 hbn_86
   have hB102 : Below w.heap.size w wn_86 := bel_up hB85 hbn_86
   clear c81 c82 hA83 hA84
   clear p1 q1 m1 m2 hsqa hsqb
   go_wp2_with fail
   go_loopw [10] (fun s10 wr => ∃ (i : Nat), s10 = .int .i64 i ∧ Own wr (bq70) 0 [.bool (ng ((r * r).num)), .string (mg ((r * r).num).natAbs), .bool false, .string (mg (dn (r * r)))] ∧ Own wr (bq90) 0 [.bool (ng mo.num), .string (mg mo.num.natAbs), .bool false, .string (mg (dn mo))] ∧ Below wz1.heap.size wz1 wr ∧ Below wz4.heap.size wz4 wr ∧ Below w.heap.size w wr ∧ i ≤ N) (fun s10 _ => N - (intOf s10).toNat)
   case atStart => exact ⟨0, rfl, c99, c93, hA100, hA101, hB102, (by omega)⟩
   case round =>
    clear c99 c93 hB102 hA100 hA101
    obtain ⟨i, rfl, b103, b104, hA105, hA106, hB107, hi⟩ := hrel
    obtain ⟨wr108, hwr108⟩ : ∃ W_, W_ = wr := ⟨_, rfl⟩
    subst hwr108
    by_cases hlti : i < N
    ·skip
     have i1i : (i : Int) < N := by omega
     obtain ⟨x109, hx110⟩ : ∃ x, X[i]? = some x := ⟨_, List.getElem?_eq_getElem (by rw [HNX.out]; omega)⟩
     have Hhx110 := Lib.hid hx110
     have Zhx110 := Lib.hid (HSX.out _ (List.mem_of_getElem? hx110))
     clear hx110
     obtain ⟨x111, hx112⟩ : ∃ x, Y[i]? = some x := ⟨_, List.getElem?_eq_getElem (by rw [HNY.out]; omega)⟩
     have Hhx112 := Lib.hid hx112
     have Zhx112 := Lib.hid (HSY.out _ (List.mem_of_getElem? hx112))
     clear hx112
     have HXX : Hid (Pl.dotP x109 x109 = r * r) := Lib.hid (HDX.out _ (List.mem_of_getElem? Hhx110.out))
     obtain ⟨d, hd⟩ : ∃ d, Pl.dotP x111 x111 = d := ⟨_, rfl⟩
     have HYD := Lib.hid hd
     have HZD : Hid (Pl.Sz 161 d) := Lib.hid (hd ▸ Zhx112.out.dot Zhx112.out)
     obtain ⟨t2, ht2⟩ : ∃ t, Pl.cmpQ d mo = t := ⟨_, rfl⟩
     have hy2 := HDY.out _ (List.mem_of_getElem? Hhx112.out)
     rw [hd] at hy2
     have HC1 : Hid (Pl.cmpQ d (r * r) = 1) := Lib.hid (cmp_one hy2.1)
     have HC2 := Lib.hid ht2
     have hle2 : t2 ≤ 0 := ht2 ▸ (Pl.cmp_le_iff _ _).2 hy2.2
     clear hd ht2 hy2
     have K113 := Lib.hid (fun W => HXX.out ▸ hdot_any x109 x109 W Zhx110.out Zhx110.out (by omega) (by omega))
     have K114 := Lib.hid (fun W => HYD.out ▸ hdot_any x111 x111 W Zhx112.out Zhx112.out (by omega) (by omega))
     have K115 := Lib.hid (fun W => HC1.out ▸ rcompare_any d (r * r) W (HZD.out.mono (by omega)) ((HRZ.out.mul HRZ.out).mono (by omega)))
     have K116 := Lib.hid (fun W => HC2.out ▸ rcompare_any d mo W (HZD.out.mono (by omega)) (HMZ.out.mono (by omega)))
     go_wp2_with fail
     refine wp_named ?_
     intro W9 hW9
     have hL9 : Below wr108.heap.size wr108 W9 := by
      rw [hW9]
      exact bB
     have c117 := b103.up hL9
     have c118 := b104.up hL9
     have hA119 := bel_up hA105 hL9
     have hA120 := bel_up hA106 hL9
     have hB121 : Below w.heap.size w W9 := by
      rw [hW9]
      exact bB
     clear hW9 hL9 b103 b104 hA105 hA106
     have dc117 := fun p : Bel W9 => c117.bel p; have dc118 := fun p : Bel W9 => c118.bel p
     simp only [At, Own, Nat.reduceAdd, and_true] at dc117 dc118
     obtain ⟨g123, o124, ha125, -⟩ := (LX.up XX3.out kpP hA119) _ _ Hhx110.out
     subst ha125
     have ce122 := LX.at_ ((LX.up XX3.out kpP hA119)) Hhx110.out
     have ce122_ : g123 < W9.heap.size := World.block_lt_of_cell? _ _ ce122.1
     have dce122 := fun b : Bel W9 => ce122.bel b
     simp only [CE, Nat.reduceMul] at dce122
     obtain ⟨g127, o128, ha129, -⟩ := (LX.up XX4.out kpP hA119) _ _ Hhx112.out
     subst ha129
     have ce126 := LX.at_ ((LX.up XX4.out kpP hA119)) Hhx112.out
     have ce126_ : g127 < W9.heap.size := World.block_lt_of_cell? _ _ ce126.1
     have dce126 := fun b : Bel W9 => ce126.bel b
     simp only [CE, Nat.reduceMul] at dce126
     refine wp_region_all (by kernel_rfl) (by kernel_rfl) ?_
     repeat (go_big_quiet_step (first | (go_at_call 28; with_reducible exact Calls.bel (K113.out _)) | (go_at_call 28; with_reducible exact Calls.bel (K114.out _)) | (go_at_call 31; with_reducible exact Calls.bel (K115.out _)) | (go_at_call 31; with_reducible exact Calls.bel (K116.out _))))
     refine wpQuiet_nil ?_
     intro w9 hb9
     have c130 := c117.up hb9
     have c131 := c118.up hb9
     have hA132 := bel_up hA119 hb9
     have hA133 := bel_up hA120 hb9
     have hB134 : Below w.heap.size w w9 := bel_up hB121 hb9
     clear dc117 dc118 dce122 dce126 c117 c118 hA119 hA120
     have uc130 := c130; have uc131 := c131
     simp only [At, Own, Nat.reduceAdd, and_true] at uc130 uc131
     go_wp2
     go_roundw
     case rel => exact ⟨(i + 1), (by first | rfl | exact congrArg (Value.int .i64) (by omega) | simp [*]), (by repeat (first | with_reducible exact c130 | refine Own.far _ _ (by simp <;> omega) ?_ | with_reducible refine Own.alloc ?_ _)), (by repeat (first | with_reducible exact c131 | refine Own.far _ _ (by simp <;> omega) ?_ | with_reducible refine Own.alloc ?_ _)), (by exact bB), (by exact bB), (by exact bB), (by omega)⟩
     case measure => simp [intOf] <;> omega
    ·skip
     have hkN : N = i := by omega
     subst hkN
     have ub103 := b103; have ub104 := b104
     simp only [At, Own, Nat.reduceAdd, and_true] at ub103 ub104
     go_wp2
     go_ret
     refine ⟨rfl, ?_⟩
     exact bB
theorem disks_any (a b l : Int) (w : World) (h1 : -32768 ≤ a) (h2 : a ≤ 32767) (h3 : 0 ≤ b) (h4 : b ≤ 255) :
 Calls Tryz.prog 8 #[.agg #[.int .i16 a, .int .u8 b, .int .i64 l]] w fun e w' => e = .returned (.bool true) ∧ Below w.heap.size w w' := by
 by_cases hw : a ≤ 0 ∨ l < 1 ∨ 16 < l
 ·exact disks_wrong a b l w h1 h2 h3 h4 hw
 ·obtain ⟨n, rfl⟩ : ∃ n : Nat, l = (n : Int) := ⟨l.toNat, by omega⟩
  exact disks_right a b n w h1 h2 h3 h4 (by omega) (by omega) (by omega)
end Go.Proofs.YtdkkjfnpinckjaaGreatDoor
