/-
  Small sets; fewer spots; equal lists.
  Contracts for convex sets: growing by a disk.
  The law ConvexGrows: the walk.
-/
import Derived.Test.YtdkkjfnpinckjaaGreatDoorYMr
import Derived.Test.YtdkkjfnpinckjaaGreatDoorYMo
import Derived.Test.YtdkkjfnpinckjaaGreatDoorYCsm
import Derived.Test.YtdkkjfnpinckjaaGreatDoorYDw3
import Derived.Test.YtdkkjfnpinckjaaGreatDoorYLw1
import Derived.Test.YtdkkjfnpinckjaaGreatDoorYKnw
import Derived.Test.YtdkkjfnpinckjaaGreatDoorYHsm
import Derived.Test.YtdkkjfnpinckjaaGreatDoorYNea
import Derived.Deep.RegionHeld3
import Derived.Deep.DeepCutAuto
set_option linter.unusedSimpArgs false
set_option linter.unusedVariables false
set_option maxRecDepth 100000
namespace Go.Proofs.YtdkkjfnpinckjaaGreatDoor
open Go Go.RowKit

/-- Fewer spots. -/
theorem TV.take {w : World} {A : Option Addr} {c M : Nat} {l : List (Int × Int × Bool)} (h : TV w (.slice A l.length c) l) (hM : M ≤ l.length) : TV w (.slice A M c) (l.take M) := by
 obtain ⟨A', c', h1, h2, h3, h4⟩ := h
 cases h1
 exact ⟨A, c, by rw [List.length_take, Nat.min_eq_left hM], by rw [List.length_take, Nat.min_eq_left hM]; omega, h3, fun k x hx => h4 k x (by
  rw [List.getElem?_take] at hx
  split at hx
  ·exact hx
  ·cases hx)⟩
theorem same_true (va vb : Value) (l : List (Rat × Rat)) (w : World) (ha : PV w va l) (hb : PV w vb l) (hn : l.length ≤ 1000000) :
 Calls Tryz.prog 25 #[va, vb] w fun e w' => e = .returned (.bool true) ∧ Below w.heap.size w w' := by
 have h := hsame_any va vb l l w ha hb hn
 rwa [Pl.sameB_iff, decide_eq_true rfl] at h
/-- A list of a hull, of few points with short numbers. -/
structure Small (X : List (Rat × Rat)) : Prop where
 wrap : Pl.wrap X = X
 sz : ∀ q ∈ X, Pl.SzP 1 q
 len : X.length ≤ 12
end Go.Proofs.YtdkkjfnpinckjaaGreatDoor
set_option maxRecDepth 100000
namespace Go.Proofs.YtdkkjfnpinckjaaGreatDoor
open Go Go.RowKit

theorem gdisk_neg (r : Rat) (l : Int) (w : World) (hr : r ≤ 0) :
 Calls Tryz.prog 37 #[qv r, .int .i64 l] w fun e w' => e = .returned (.tuple #[.slice none 0 0, .slice none 0 0, .int .i64 2]) ∧ Below w.heap.size w w' := by
 obtain ⟨t, ht⟩ : ∃ t, Pl.sgn r = t := ⟨_, rfl⟩
 have hs : t ≤ 0 := ht ▸ (Pl.sgn_nonpos_iff r).2 hr
 have HSG := Lib.hid ht
 clear ht
 go_enter Tryz.func37, Tryz.ntmps37
 have K1 := Lib.hid (fun W => HSG.out ▸ qsign_any r W)
 go_wp2_with (fail)
 refine calls_named ?_
 intro W1 hW1
 have hL1 : Below w.heap.size w W1 := by
  rw [hW1]
  exact bB
 have c2 : Own W1 (w.heap.size) 0 [.bool (ng r.num), .string (mg r.num.natAbs), .bool false, .string (mg (dn r))] := by
  rw [hW1]
  first
  | (repeat (first | (with_reducible refine own_new (l := [.bool (ng r.num), .string (mg r.num.natAbs), .bool false, .string (mg (dn r))]) ?_; (simp; done)) | with_reducible refine Own.alloc ?_ _ | refine Own.far _ _ (by first | (simp; done) | (simp [*]; done) | (simp; omega)) ?_)); done
  | simp [Own, go_sem]
 have hB3 : Below w.heap.size w W1 := by
  rw [hW1]
  exact bB
 clear hW1 hL1
 with_reducible refine (K1.out _).mono ?_
 rintro e w1 ⟨rfl, hb1⟩
 have c4 := c2.up hb1
 have hB5 : Below w.heap.size w w1 := bel_up hB3 hb1
 clear c2
 have uc4 := c4
 simp only [At, Own, Nat.reduceAdd, and_true] at uc4
 go_wp2
 go_ret3
 refine ⟨rfl, ?_⟩
 exact bB

theorem gdisk_low (r : Rat) (l : Int) (w : World) (hr : 0 < r) (hl : l < 1) :
 Calls Tryz.prog 37 #[qv r, .int .i64 l] w fun e w' => e = .returned (.tuple #[.slice none 0 0, .slice none 0 0, .int .i64 2]) ∧ Below w.heap.size w w' := by
 have HSG : Hid (Pl.sgn r = 1) := Lib.hid ((Pl.sgn_pos_iff r).2 hr)
 go_enter Tryz.func37, Tryz.ntmps37
 have K1 := Lib.hid (fun W => HSG.out ▸ qsign_any r W)
 go_wp2_with (fail)
 refine calls_named ?_
 intro W1 hW1
 have hL1 : Below w.heap.size w W1 := by
  rw [hW1]
  exact bB
 have c2 : Own W1 (w.heap.size) 0 [.bool (ng r.num), .string (mg r.num.natAbs), .bool false, .string (mg (dn r))] := by
  rw [hW1]
  first
  | (repeat (first | (with_reducible refine own_new (l := [.bool (ng r.num), .string (mg r.num.natAbs), .bool false, .string (mg (dn r))]) ?_; (simp; done)) | with_reducible refine Own.alloc ?_ _ | refine Own.far _ _ (by first | (simp; done) | (simp [*]; done) | (simp; omega)) ?_)); done
  | simp [Own, go_sem]
 have hB3 : Below w.heap.size w W1 := by
  rw [hW1]
  exact bB
 clear hW1 hL1
 with_reducible refine (K1.out _).mono ?_
 rintro e w1 ⟨rfl, hb1⟩
 have c4 := c2.up hb1
 have hB5 : Below w.heap.size w w1 := bel_up hB3 hb1
 clear c2
 have uc4 := c4
 simp only [At, Own, Nat.reduceAdd, and_true] at uc4
 go_wp2
 go_ret3
 refine ⟨rfl, ?_⟩
 exact bB

theorem gdisk_high (r : Rat) (l : Int) (w : World) (hr : 0 < r) (hl : 1 ≤ l) (hl2 : 16 < l) :
 Calls Tryz.prog 37 #[qv r, .int .i64 l] w fun e w' => e = .returned (.tuple #[.slice none 0 0, .slice none 0 0, .int .i64 2]) ∧ Below w.heap.size w w' := by
 have HSG : Hid (Pl.sgn r = 1) := Lib.hid ((Pl.sgn_pos_iff r).2 hr)
 go_enter Tryz.func37, Tryz.ntmps37
 have K1 := Lib.hid (fun W => HSG.out ▸ qsign_any r W)
 go_wp2_with (fail)
 refine calls_named ?_
 intro W1 hW1
 have hL1 : Below w.heap.size w W1 := by
  rw [hW1]
  exact bB
 have c2 : Own W1 (w.heap.size) 0 [.bool (ng r.num), .string (mg r.num.natAbs), .bool false, .string (mg (dn r))] := by
  rw [hW1]
  first
  | (repeat (first | (with_reducible refine own_new (l := [.bool (ng r.num), .string (mg r.num.natAbs), .bool false, .string (mg (dn r))]) ?_; (simp; done)) | with_reducible refine Own.alloc ?_ _ | refine Own.far _ _ (by first | (simp; done) | (simp [*]; done) | (simp; omega)) ?_)); done
  | simp [Own, go_sem]
 have hB3 : Below w.heap.size w W1 := by
  rw [hW1]
  exact bB
 clear hW1 hL1
 with_reducible refine (K1.out _).mono ?_
 rintro e w1 ⟨rfl, hb1⟩
 have c4 := c2.up hb1
 have hB5 : Below w.heap.size w w1 := bel_up hB3 hb1
 clear c2
 have uc4 := c4
 simp only [At, Own, Nat.reduceAdd, and_true] at uc4
 go_wp2
 go_ret3
 refine ⟨rfl, ?_⟩
 exact bB

theorem gdisk_range (r : Rat) (l : Int) (w : World) (h : r ≤ 0 ∨ l < 1 ∨ 16 < l) :
 Calls Tryz.prog 37 #[qv r, .int .i64 l] w fun e w' => e = .returned (.tuple #[.slice none 0 0, .slice none 0 0, .int .i64 2]) ∧ Below w.heap.size w w' := by
 by_cases h1 : r ≤ 0
 ·exact gdisk_neg r l w h1
 ·have h2 : 0 < r := by grind
  by_cases h3 : l < 1
  ·exact gdisk_low r l w h2 h3
  ·exact gdisk_high r l w h2 (by omega) (by rcases h with h | h | h <;> first | (exfalso; exact h1 h) | omega)

theorem cgrow_range (v : Value) (r : Rat) (n : Int) (w : World) (h : r ≤ 0 ∨ n < 1 ∨ 16 < n) :
 Calls Tryz.prog 45 #[v, qv r, .int .i64 n] w fun e w' => e = .returned (.tuple #[.slice none 0 0, .slice none 0 0, .int .i64 2]) ∧ Below w.heap.size w w' := by
 go_enter Tryz.func45, Tryz.ntmps45
 have K1 := Lib.hid (fun W => gdisk_range r n W h)
 go_wp2_with (fail)
 refine calls_named ?_
 intro W1 hW1
 have hL1 : Below w.heap.size w W1 := by
  rw [hW1]
  exact bB
 have c2 : Own W1 (w.heap.size) 0 [.bool (ng r.num), .string (mg r.num.natAbs), .bool false, .string (mg (dn r))] := by
  rw [hW1]
  first
  | (repeat (first | (with_reducible refine own_new (l := [.bool (ng r.num), .string (mg r.num.natAbs), .bool false, .string (mg (dn r))]) ?_; (simp; done)) | with_reducible refine Own.alloc ?_ _ | refine Own.far _ _ (by first | (simp; done) | (simp [*]; done) | (simp; omega)) ?_)); done
  | simp [Own, go_sem]
 have hB3 : Below w.heap.size w W1 := by
  rw [hW1]
  exact bB
 clear hW1 hL1
 with_reducible refine (K1.out _).mono ?_
 rintro e w1 ⟨rfl, hb1⟩
 have c4 := c2.up hb1
 have hB5 : Below w.heap.size w w1 := bel_up hB3 hb1
 clear c2
 have uc4 := c4
 simp only [At, Own, Nat.reduceAdd, and_true] at uc4
 go_wp2
 go_ret3
 refine ⟨rfl, ?_⟩
 exact bB
set_option maxHeartbeats 1000000 in
theorem cgrow_any (v : Value) (l X Y : List (Rat × Rat)) (n : Nat) (r : Rat) (w : World) (h : PV w v l) (hs : ∀ q ∈ l, Pl.SzP 1 q) (hn12 : l.length ≤ 12) (h1 : 1 ≤ n) (hn : n ≤ 16) (hr0 : 0 < r) (hr : Pl.Sz 2 r) (hX : Pl.wrap (Pl.ringD n r) = X) (hY : Pl.wrap (Pl.outsD n r) = Y) :
 Calls Tryz.prog 45 #[v, qv r, .int .i64 n] w fun e w' => ∃ v1 v2, e = .returned (.tuple #[v1, v2, .int .i64 0]) ∧ PV w' v1 (Pl.wrap (sumL l X)) ∧ PV w' v2 (Pl.wrap (sumL l Y)) ∧ Below w.heap.size w w' := by
 have HNX : Hid (X.length = 4 * n) := Lib.hid (by rw [← hX, Pl.ringD_len h1 hn hr0])
 have HNY : Hid (Y.length = 4 * n) := Lib.hid (by rw [← hY, Pl.outsD_len h1 hn hr0])
 have HNXX : Hid (X.length ≤ 1000) := Lib.hid (by rw [HNX.out]; omega)
 have HNXY : Hid (Y.length ≤ 1000) := Lib.hid (by rw [HNY.out]; omega)
 have HSXX : Hid (∀ q ∈ X, Pl.SzP 4 q) := Lib.hid (by rw [← hX]; exact wrap_sz (map_sz (dp_sz h1 hn hr) _))
 have HSXY : Hid (∀ q ∈ Y, Pl.SzP 40 q) := Lib.hid (by rw [← hY]; exact wrap_sz (map_sz (os_sz h1 hn hr) _))
 have HSLX : Hid (∀ q ∈ l, Pl.SzP 4 q) := Lib.hid fun q hq => (hs q hq).mono (by decide)
 have HSLY : Hid (∀ q ∈ l, Pl.SzP 40 q) := Lib.hid fun q hq => (hs q hq).mono (by decide)
 have HXW := Lib.hid hX
 have HYW := Lib.hid hY
 obtain ⟨A, c, rfl, hc, hm, hx⟩ := h.open_
 have HV := Lib.hid h
 clear h hx hs hX hY
 generalize hN : l.length = N at *
 have HNL : Hid (l.length ≤ 1000) := Lib.hid (by rw [hN]; omega)
 clear hN
 go_enter Tryz.func45, Tryz.ntmps45
 have K1 := Lib.hid (fun W => HXW.out ▸ HYW.out ▸ cdisk_any n r W h1 hn hr0 hr)
 go_wp2_with (fail)
 refine calls_named ?_
 intro W1 hW1
 have hL1 : Below w.heap.size w W1 := by
  rw [hW1]
  exact bB
 have c2 : Own W1 (w.heap.size) 0 [.bool (ng r.num), .string (mg r.num.natAbs), .bool false, .string (mg (dn r))] := by
  rw [hW1]
  first
  | (repeat (first | (with_reducible refine own_new (l := [.bool (ng r.num), .string (mg r.num.natAbs), .bool false, .string (mg (dn r))]) ?_; (simp; done)) | with_reducible refine Own.alloc ?_ _ | refine Own.far _ _ (by first | (simp; done) | (simp [*]; done) | (simp; omega)) ?_)); done
  | simp [Own, go_sem]
 have hB3 : Below w.heap.size w W1 := by
  rw [hW1]
  exact bB
 clear hW1 hL1
 with_reducible refine (K1.out _).mono ?_
 rintro e w1 ⟨va1, vb1, rfl, ha1, hb_1, hb1⟩
 have c4 := c2.up hb1
 have hB5 : Below w.heap.size w w1 := bel_up hB3 hb1
 clear c2
 have PLva1 := Lib.hid ha1
 clear ha1
 have PLvb1 := Lib.hid hb_1
 clear hb_1
 have K6 := Lib.hid (fun W va vb (ha : PV W va l) (hb : PV W vb X) => csum_any va vb l X W ha hb HSLX.out HSXX.out HNL.out HNXX.out (by decide))
 have uc4 := c4
 simp only [At, Own, Nat.reduceAdd, and_true] at uc4
 go_wp2_with (fail)
 refine calls_named ?_
 intro W2 hW2
 have hL2 : Below w1.heap.size w1 W2 := by
  rw [hW2]
  exact bB
 have c7 := c4.up hL2
 have hA8 := hL2
 have hB9 : Below w.heap.size w W2 := by
  rw [hW2]
  exact bB
 clear hW2 hL2 uc4 c4
 with_reducible refine (K6.out _ _ _ (HV.out.up hB9) (PLva1.out.up hA8)).mono ?_
 rintro e w2 ⟨v2, rfl, hv2, hb2⟩
 have c10 := c7.up hb2
 have hA11 := bel_up hA8 hb2
 have hB12 : Below w.heap.size w w2 := bel_up hB9 hb2
 clear c7 hA8
 have PW2 := Lib.hid hv2
 clear hv2
 have K13 := Lib.hid (fun W va vb (ha : PV W va l) (hb : PV W vb Y) => csum_any va vb l Y W ha hb HSLY.out HSXY.out HNL.out HNXY.out (by decide))
 have uc10 := c10
 simp only [At, Own, Nat.reduceAdd, and_true] at uc10
 go_wp2_with (fail)
 refine calls_named ?_
 intro W3 hW3
 have hL3 : Below w2.heap.size w2 W3 := by
  rw [hW3]
  exact bB
 have c14 := c10.up hL3
 have hA15 := bel_up hA11 hL3
 have hA16 := hL3
 have hB17 : Below w.heap.size w W3 := by
  rw [hW3]
  exact bB
 clear hW3 hL3 uc10 c10 hA11
 with_reducible refine (K13.out _ _ _ (HV.out.up hB17) (PLvb1.out.up hA15)).mono ?_
 rintro e w3 ⟨v3, rfl, hv3, hb3⟩
 have c18 := c14.up hb3
 have hA19 := bel_up hA15 hb3
 have hA20 := bel_up hA16 hb3
 have hB21 : Below w.heap.size w w3 := bel_up hB17 hb3
 clear c14 hA15 hA16
 have PW3 := Lib.hid hv3
 clear hv3
 have uc18 := c18
 simp only [At, Own, Nat.reduceAdd, and_true] at uc18
 go_wp2
 go_ret3
 exact ⟨_, _, rfl, (by skip; exact (PW2.out.up hA20)), (by skip; exact PW3.out), (by exact bB)⟩
end Go.Proofs.YtdkkjfnpinckjaaGreatDoor
set_option maxRecDepth 100000
namespace Go.Proofs.YtdkkjfnpinckjaaGreatDoor
open Go Go.RowKit

theorem rad_mul {a c : Int} (hc : 0 < c) : Rat.divInt a c * (c : Rat) = (a : Rat) := by
 have h : (c : Rat) ≠ 0 := fun e => by have := Pl.pos_cast hc; grind
 rw [Rat.divInt_eq_div, Rat.div_def, Rat.mul_assoc, Rat.inv_mul_cancel _ h, Rat.mul_one]
theorem rad_pos {a b : Int} (ha : 0 < a) (hb : 0 ≤ b) : 0 < Rat.divInt a (b + 1) := by
 have hc : 0 < b + 1 := by omega
 exact Pl.lt_of_mul (Pl.pos_cast hc) (by rw [rad_mul hc, Rat.zero_mul]; exact Pl.pos_cast ha)
theorem rad_nonpos {a b : Int} (ha : a ≤ 0) (hb : 0 ≤ b) : Rat.divInt a (b + 1) ≤ 0 := by
 have hc : 0 < b + 1 := by omega
 exact Pl.le_of_mul (Pl.pos_cast hc) (by rw [rad_mul hc, Rat.zero_mul]; exact Pl.cast_le ha)
theorem sumL_is (X Y : List (Rat × Rat)) : Pl.IsSum X Y (sumL X Y) := fun s => by
 unfold sumL
 simp only [List.mem_flatMap, List.mem_map]
 exact ⟨fun ⟨x, hx, y, hy, h⟩ => ⟨x, hx, y, hy, h.symm⟩, fun ⟨x, hx, y, hy, h⟩ => ⟨x, hx, y, hy, h.symm⟩⟩
/-- The law of growing. -/
theorem grow_law {H X Y P Q : List (Rat × Rat)} {n : Nat} {r nr : Rat} {p : Rat × Rat} {tn tP tQ : Int} (hH : Pl.wrap H = H) (h0 : 0 < H.length) (h1 : 1 ≤ n) (h4 : n ≤ 4) (hr : 0 < r)
 (hX : Pl.wrap (Pl.ringD n r) = X) (hY : Pl.wrap (Pl.outsD n r) = Y) (hP : Pl.wrap (sumL H X) = P) (hQ : Pl.wrap (sumL H Y) = Q) (hnr : Pl.nearR H p = nr)
 (hn : Pl.cmpQ nr (r * r) = tn) (htP : Pl.locR P p = tP) (htQ : Pl.locR Q p = tQ) : (0 ≤ tP → tn ≤ 0) ∧ (tn ≤ 0 → 0 ≤ tQ) := by
 subst hX hY hP hQ hnr hn htP htQ
 have a := Pl.wrap_isHull H
 rw [hH] at a
 refine ⟨fun h => (Pl.cmp_le_iff _ _).2 ?_, fun h => Pl.loc_iff.2 ?_⟩
 ·exact Pl.grow_in a (fun y hy => Pl.ringD_on h1 (by omega) y ((Pl.wrap_isHull _).sub y hy)) (sumL_is H _) (Pl.loc_iff.1 h)
 ·exact Pl.grow_out a (List.length_pos_iff.1 h0) (Pl.outs_wrap h1 h4 hr) (sumL_is H _) ((Pl.cmp_le_iff _ _).1 h)
theorem lev4 {l : Int} {m : Nat} (h0 : 1 ≤ l) (h16 : l ≤ 16) (hm : (m : Int) = l % 4) : l.tmod 4 = m ∧ l % 4 = m ∧ IntKind.i64.wrap (m : Int) = m ∧ wrap64 (m : Int) = m ∧ IntKind.i64.wrap (1 + (m : Int)) = ((m + 1 : Nat) : Int) ∧ wrap64 (1 + (m : Int)) = ((m + 1 : Nat) : Int) := by
 have h1 : l.tmod 4 = l % 4 := Int.tmod_eq_emod_of_nonneg (by omega)
 have h2 : m < 4 := by omega
 have e : (1 : Int) + m = ((m + 1 : Nat) : Int) := by omega
 have a := wi64 (m : Int) (by omega) (by omega)
 have b := wi64 ((m + 1 : Nat) : Int) (by omega) (by omega)
 rw [e]
 exact ⟨h1.trans hm.symm, hm.symm, a.1, a.2, b.1, b.2⟩

theorem pts_noint {k : IntKind} {z : Int} : ∀ {l : List (Rat × Rat)} {u : Value}, u ∈ pts l → u ≠ .int k z
 | [], u, h => by simp [pts] at h
 | p :: l, u, h => by
  rw [show p :: l = [p] ++ l from rfl, pts_append] at h
  rcases List.mem_append.1 h with h | h
  ·simp only [pts, List.flatMap_cons, List.flatMap_nil, List.append_nil, pcells, List.mem_cons, List.not_mem_nil, or_false] at h
   rcases h with rfl | rfl | rfl | rfl | rfl | rfl | rfl | rfl <;> exact fun e => by cases e
  ·exact pts_noint h
/-- A list of points stands behind a store to an integer. -/
theorem pv_setInt {w : World} {v u : Value} {l : List (Rat × Rat)} {p : Addr} {k : IntKind} {z : Int} (h : PV w v l) (hc : w.cell? p = some (.int k z)) : PV (w.setCell p u) v l := by
 refine ⟨h.1, h.2.imp id fun ⟨g, o, c, hv, h1, h2, hx⟩ => ⟨g, o, c, hv, h1, h2, fun j x hj => ?_⟩⟩
 refine (World.cell?_setCell_other w _ _ _ fun e => ?_).trans (hx j x hj)
 have h3 := hx j x hj
 first
 | (rw [← e, hc] at h3; exact pts_noint (List.mem_of_getElem? hj) (Option.some.inj h3).symm)
 | (rw [e, hc] at h3; exact pts_noint (List.mem_of_getElem? hj) (Option.some.inj h3).symm)

set_option maxHeartbeats 2000000 in
theorem grows_wrong (Al : Option Addr) (cl : Nat) (l : List (Int × Int × Bool)) (a b v : Int) (s : Int × Int × Bool) (w : World) (hl' : TV w (.slice Al l.length cl) l) (hil : ∀ s ∈ l, In8 s) (hnl : l.length ≤ 9223372036854775807) (hcl : l.length ≤ cl) (h1 : -32768 ≤ a) (h2 : a ≤ 32767) (h3 : 0 ≤ b) (h4 : b ≤ 255) (hsp : In8 s) (hw : a ≤ 0 ∨ v < 1 ∨ 16 < v) :
 Calls Tryz.prog 10 #[.slice Al l.length cl, .agg #[.int .i16 a, .int .u8 b, .int .i64 v], .agg #[.int .i8 s.1, .int .i8 s.2.1, .bool s.2.2]] w fun e w' => e = .returned (.bool true) ∧ Below w.heap.size w w' := by
 have hltl := TV.take (M := min l.length 5) hl' (Nat.min_le_left _ _)
 obtain ⟨Ml, hMl⟩ : ∃ M, M = min l.length 5 := ⟨_, rfl⟩
 rw [← hMl] at hltl
 have hM8l : Ml ≤ 5 := by omega
 have hMNl : Ml ≤ l.length := by omega
 have HTL := Lib.hid hltl
 have HIL : Hid (∀ s ∈ l.take Ml, In8 s) := Lib.hid fun s hs => hil s (List.mem_of_mem_take hs)
 obtain ⟨H, hSl⟩ : ∃ S, Pl.wrap (ptsOf (l.take Ml)) = S := ⟨_, rfl⟩
 have HSWL := Lib.hid hSl
 have HSH : Hid (∀ q ∈ H, Pl.SzP 1 q) := Lib.hid (hSl ▸ wrap_sz (ptsOf_sz HIL.out))
 have HMH : Hid (H.length ≤ 12) := Lib.hid (by have := wrap_len (ptsOf (l.take Ml)); have := ptsOf_len (l.take Ml); rw [hSl] at *; omega)
 have HNH : Hid (H.length ≤ 1000000) := Lib.hid (by have := HMH.out; omega)
 have HKH : Hid (Small H) := Lib.hid ⟨by rw [← hSl]; exact Pl.wrap_wrap _, HSH.out, HMH.out⟩
 clear hSl hltl
 have hmil : min (l.length : Int) 5 = (Ml : Int) := by omega
 have hifl : (if (5 : Int) < (l.length : Int) then (5 : Int) else (l.length : Int)) = (Ml : Int) := by split <;> omega
 generalize hNl : l.length = Nl at *
 have hmcl : (Ml : Int) ≤ cl := by omega
 have hmnl : (Ml : Int) ≤ Nl := by omega
 clear hl' hil hMl
 obtain ⟨r, hr⟩ : ∃ r, Rat.divInt a (b + 1) = r := ⟨_, rfl⟩
 have HRA := Lib.hid hr
 have HRZ : Hid (Pl.Sz 2 r) := Lib.hid (hr ▸ rad_sz h1 h2 h3 h4)
 have HBAD : Hid (r ≤ 0 ∨ v < 1 ∨ 16 < v) := Lib.hid (by rcases hw with h | h | h; exact .inl (hr ▸ rad_nonpos h h3); exact .inr (.inl h); exact .inr (.inr h))
 have HWR : Hid (decide (a ≤ 0 ∨ v < 1 ∨ 16 < v) = true) := Lib.hid (decide_eq_true hw)
 clear hr hw
 go_enter Tryz.func10, Tryz.ntmps10
 have K1 := Lib.hid (fun W (h : TV W (.slice Al Ml cl) (l.take Ml)) => HSWL.out ▸ set_any (.slice Al Ml cl) (l.take Ml) W h HIL.out (by rw [List.length_take]; omega))
 go_wp2_with (fail)
 refine calls_named ?_
 intro W1 hW1
 have hL1 : Below w.heap.size w W1 := by
  rw [hW1]
  exact bB
 have c2 : Own W1 (w.heap.size) 0 [.int .i16 a, .int .u8 b, .int .i64 v] := by
  rw [hW1]
  first
  | (repeat (first | (with_reducible refine own_new (l := [.int .i16 a, .int .u8 b, .int .i64 v]) ?_; (simp; done)) | with_reducible refine Own.alloc ?_ _ | refine Own.far _ _ (by first | (simp; done) | (simp [*]; done) | (simp; omega)) ?_)); done
  | simp [Own, go_sem]
 have c3 : Own W1 (w.heap.size + 1) 0 [.int .i8 s.1, .int .i8 s.2.1, .bool s.2.2] := by
  rw [hW1]
  first
  | (repeat (first | (with_reducible refine own_new (l := [.int .i8 s.1, .int .i8 s.2.1, .bool s.2.2]) ?_; (simp; done)) | with_reducible refine Own.alloc ?_ _ | refine Own.far _ _ (by first | (simp; done) | (simp [*]; done) | (simp; omega)) ?_)); done
  | simp [Own, go_sem]
 have hB4 : Below w.heap.size w W1 := by
  rw [hW1]
  exact bB
 clear hW1 hL1
 with_reducible refine (K1.out _ (HTL.out.up hB4)).mono ?_
 rintro e w1 ⟨v1, rfl, hv1, hb1⟩
 have c5 := c2.up hb1
 have c6 := c3.up hb1
 have hB7 : Below w.heap.size w w1 := bel_up hB4 hb1
 clear c2 c3
 have PW1 := Lib.hid hv1
 clear hv1
 have uc5 := c5; have uc6 := c6
 simp only [At, Own, Nat.reduceAdd, and_true] at uc5 uc6
 have K8 := Lib.hid (fun W => HWR.out ▸ wrong_any a b v W)
 go_wp2_with (fail)
 refine calls_named ?_
 intro W2 hW2
 have hL2 : Below w1.heap.size w1 W2 := by
  rw [hW2]
  exact bB
 have c9 := c5.up hL2
 have c10 := c6.up hL2
 have hA11 := hL2
 have hB12 : Below w.heap.size w W2 := by
  rw [hW2]
  exact bB
 clear hW2 hL2 uc5 uc6 c5 c6
 with_reducible refine (K8.out _).mono ?_
 rintro e w2 ⟨rfl, hb2⟩
 have c13 := c9.up hb2
 have c14 := c10.up hb2
 have hA15 := bel_up hA11 hb2
 have hB16 : Below w.heap.size w w2 := bel_up hB12 hb2
 clear c9 c10 hA11
 go_upto_region 4 with fail
 refine wp_named ?_
 intro W3 hW3
 have hL3 : Below w2.heap.size w2 W3 := by
  rw [hW3]
  exact bB
 have c17 := c13.up hL3
 have c18 := c14.up hL3
 have hA19 := bel_up hA15 hL3
 have hB20 : Below w.heap.size w W3 := by
  rw [hW3]
  exact bB
 clear hW3 hL3 c13 c14 hA15
 have K21 := Lib.hid (fun W => HRA.out ▸ radius_any a b v W h1 h2 h3 h4)
 have K23 := Lib.hid (fun W va => cgrow_range va r v W HBAD.out)
 have HSS25 : ∀ w' : World, Below W3.heap.size W3 w' → (w'.cell? ⟨w.heap.size, 0, none⟩ = some (.int .i16 a) ∧ w'.cell? ⟨w.heap.size, 1, none⟩ = some (.int .u8 b) ∧ w'.cell? ⟨w.heap.size, 2, none⟩ = some (.int .i64 v) ∧ w'.cell? ⟨w.heap.size + 1, 0, none⟩ = some (.int .i8 s.1) ∧ w'.cell? ⟨w.heap.size + 1, 1, none⟩ = some (.int .i8 s.2.1) ∧ w'.cell? ⟨w.heap.size + 1, 2, none⟩ = some (.bool s.2.2)) := fun w' hb => by
  have qc17 := c17.up hb; have qc18 := c18.up hb
  simp only [At, Own, CE, CS, Nat.reduceAdd, Nat.reduceMul, Nat.zero_mul, Nat.add_zero, Nat.add_assoc, and_true] at qc17 qc18
  try simp only [Nat.add_assoc, Nat.reduceAdd]
  simp [*]
 go_cut [8, 9, 10] (fun x8 x9 x10 wx => x8 = .slice none 0 0 ∧ x9 = .slice none 0 0 ∧ x10 = .int .i64 2 ∧ Below W3.heap.size W3 wx)
 case first =>
  have hu := HSS25 W3 (Below.refl _ _)
  go_region_held3 (fun w' => w'.cell? ⟨w.heap.size, 0, none⟩ = some (.int .i16 a) ∧ w'.cell? ⟨w.heap.size, 1, none⟩ = some (.int .u8 b) ∧ w'.cell? ⟨w.heap.size, 2, none⟩ = some (.int .i64 v) ∧ w'.cell? ⟨w.heap.size + 1, 0, none⟩ = some (.int .i8 s.1) ∧ w'.cell? ⟨w.heap.size + 1, 1, none⟩ = some (.int .i8 s.2.1) ∧ w'.cell? ⟨w.heap.size + 1, 2, none⟩ = some (.bool s.2.2)) (refine HSS25 _ ?_ <;> (repeat (first | with_reducible exact Below.refl _ _ | with_reducible refine bel_alloc ?_ _ | with_reducible refine Below.drew ?_ | (refine Below.setCell ?_ (by first | (simp; done) | (simp; omega) | omega) _) | with_reducible refine bel_up ?_ (by with_reducible assumption)))) (first
   | (go_at_call 38; with_reducible refine (K21.out _).mono ?_; rintro e v_22 ⟨rfl, hbq_22⟩; have hsz_22 := hbq_22.size; (try simp [size_drewK] at hsz_22))
   | (go_at_call 45; with_reducible refine (K23.out _ _).mono ?_; rintro e v_24 ⟨rfl, hbq_24⟩; have hsz_24 := hbq_24.size; (try simp [size_drewK] at hsz_24)))
  all_goals
   go_wp2_with fail
   go_meet
   refine ⟨rfl, rfl, rfl, ?_⟩
   ·(repeat (first | with_reducible exact Below.refl _ _ | with_reducible refine bel_alloc ?_ _ | with_reducible refine Below.drew ?_ | (refine Below.setCell ?_ (by first | (simp; done) | (simp; omega) | omega) _) | with_reducible refine bel_up ?_ (by with_reducible assumption)))
 case rest =>
  obtain ⟨rfl, rfl, rfl, hbz3⟩ := hcut
  obtain ⟨wz3, hwz3⟩ : ∃ W_, W_ = wc := ⟨_, rfl⟩
  subst hwz3
  clear HSS25
  have c26 := c17.up hbz3
  have c27 := c18.up hbz3
  have hA28 := bel_up hA19 hbz3
  have hB29 : Below w.heap.size w wz3 := bel_up hB20 hbz3
  clear c17 c18 hA19
  have K30 := Lib.hid (fun W => known_any W)
  have uc26 := c26; have uc27 := c27
  simp only [At, Own, Nat.reduceAdd, and_true] at uc26 uc27
  go_wp2_with (fail)
  refine calls_named ?_
  intro W4 hW4
  have hL4 : Below wz3.heap.size wz3 W4 := by
   rw [hW4]
   exact bB
  have c31 := c26.up hL4
  have c32 := c27.up hL4
  have hA33 := bel_up hA28 hL4
  have hB34 : Below w.heap.size w W4 := by
   rw [hW4]
   exact bB
  clear hW4 hL4 uc26 uc27 c26 c27 hA28
  with_reducible refine (K30.out _).mono ?_
  rintro e w4 ⟨rfl, hb4⟩
  have c35 := c31.up hb4
  have c36 := c32.up hb4
  have hA37 := bel_up hA33 hb4
  have hB38 : Below w.heap.size w w4 := bel_up hB34 hb4
  clear c31 c32 hA33
  have uc35 := c35; have uc36 := c36
  simp only [At, Own, Nat.reduceAdd, and_true] at uc35 uc36
  go_wp2_with (fail)
  refine calls_named ?_
  intro W5 hW5
  have hL5 : Below w4.heap.size w4 W5 := by
   rw [hW5]
   exact bB
  have c39 := c35.up hL5
  have c40 := c36.up hL5
  have hA41 := bel_up hA37 hL5
  have hB42 : Below w.heap.size w W5 := by
   rw [hW5]
   exact bB
  clear hW5 hL5 uc35 uc36 c35 c36 hA37
  with_reducible refine (K8.out _).mono ?_
  rintro e w5 ⟨rfl, hb5⟩
  have c43 := c39.up hb5
  have c44 := c40.up hb5
  have hA45 := bel_up hA41 hb5
  have hB46 : Below w.heap.size w w5 := bel_up hB42 hb5
  clear c39 c40 hA41
  have uc43 := c43; have uc44 := c44
  simp only [At, Own, Nat.reduceAdd, and_true] at uc43 uc44
  go_wp2_with (fail)
  refine calls_named ?_
  intro W6 hW6
  have hL6 : Below w5.heap.size w5 W6 := by
   rw [hW6]
   exact bB
  have c47 := c43.up hL6
  have c48 := c44.up hL6
  have hA49 := bel_up hA45 hL6
  have hB50 : Below w.heap.size w W6 := by
   rw [hW6]
   exact bB
  clear hW6 hL6 uc43 uc44 c43 c44 hA45
  with_reducible refine (K30.out _).mono ?_
  rintro e w6 ⟨rfl, hb6⟩
  have c51 := c47.up hb6
  have c52 := c48.up hb6
  have hA53 := bel_up hA49 hb6
  have hB54 : Below w.heap.size w w6 := bel_up hB50 hb6
  clear c47 c48 hA49
  have uc51 := c51; have uc52 := c52
  simp only [At, Own, Nat.reduceAdd, and_true] at uc51 uc52
  go_wp2
  go_ret
  refine ⟨rfl, ?_⟩
  exact bB
set_option maxHeartbeats 4000000 in
theorem grows_empty (Al : Option Addr) (cl : Nat) (l : List (Int × Int × Bool)) (a b v : Int) (s : Int × Int × Bool) (w : World) (hl' : TV w (.slice Al l.length cl) l) (hil : ∀ s ∈ l, In8 s) (hnl : l.length ≤ 9223372036854775807) (hcl : l.length ≤ cl) (h1 : -32768 ≤ a) (h2 : a ≤ 32767) (h3 : 0 ≤ b) (h4 : b ≤ 255) (hsp : In8 s) (ha : 0 < a) (hv1 : 1 ≤ v) (hv16 : v ≤ 16) (hl0 : l.length = 0) :
 Calls Tryz.prog 10 #[.slice Al l.length cl, .agg #[.int .i16 a, .int .u8 b, .int .i64 v], .agg #[.int .i8 s.1, .int .i8 s.2.1, .bool s.2.2]] w fun e w' => e = .returned (.bool true) ∧ Below w.heap.size w w' := by
 have HL0 := Lib.hid hl0
 clear hl0
 have hltl := TV.take (M := min l.length 5) hl' (Nat.min_le_left _ _)
 obtain ⟨Ml, hMl⟩ : ∃ M, M = min l.length 5 := ⟨_, rfl⟩
 rw [← hMl] at hltl
 have hM8l : Ml ≤ 5 := by omega
 have hMNl : Ml ≤ l.length := by omega
 have HTL := Lib.hid hltl
 have HIL : Hid (∀ s ∈ l.take Ml, In8 s) := Lib.hid fun s hs => hil s (List.mem_of_mem_take hs)
 obtain ⟨H, hSl⟩ : ∃ S, Pl.wrap (ptsOf (l.take Ml)) = S := ⟨_, rfl⟩
 have HSWL := Lib.hid hSl
 have HSH : Hid (∀ q ∈ H, Pl.SzP 1 q) := Lib.hid (hSl ▸ wrap_sz (ptsOf_sz HIL.out))
 have HMH : Hid (H.length ≤ 12) := Lib.hid (by have := wrap_len (ptsOf (l.take Ml)); have := ptsOf_len (l.take Ml); rw [hSl] at *; omega)
 have HNH : Hid (H.length ≤ 1000000) := Lib.hid (by have := HMH.out; omega)
 have HKH : Hid (Small H) := Lib.hid ⟨by rw [← hSl]; exact Pl.wrap_wrap _, HSH.out, HMH.out⟩
 clear hSl hltl
 have hmil : min (l.length : Int) 5 = (Ml : Int) := by omega
 have hifl : (if (5 : Int) < (l.length : Int) then (5 : Int) else (l.length : Int)) = (Ml : Int) := by split <;> omega
 generalize hNl : l.length = Nl at *
 have hmcl : (Ml : Int) ≤ cl := by omega
 have hmnl : (Ml : Int) ≤ Nl := by omega
 clear hl' hil hMl
 obtain ⟨r, hr⟩ : ∃ r, Rat.divInt a (b + 1) = r := ⟨_, rfl⟩
 have HRA := Lib.hid hr
 have HRZ : Hid (Pl.Sz 2 r) := Lib.hid (hr ▸ rad_sz h1 h2 h3 h4)
 have HR0 : Hid (0 < r) := Lib.hid (hr ▸ rad_pos ha h3)
 have HWR : Hid (decide (a ≤ 0 ∨ v < 1 ∨ 16 < v) = false) := Lib.hid (decide_eq_false (by omega))
 obtain ⟨m, hm⟩ : ∃ m : Nat, (m : Int) = v % 4 := ⟨(v % 4).toNat, by omega⟩
 have HLV := Lib.hid (lev4 hv1 hv16 hm)
 obtain ⟨n, hnm⟩ : ∃ n : Nat, m + 1 = n := ⟨_, rfl⟩
 rw [hnm] at HLV
 have hn1 : 1 ≤ n := by omega
 have hn4 : n ≤ 4 := by omega
 have hn16 : n ≤ 16 := by omega
 have HWN : Hid (decide (a ≤ 0 ∨ (n : Int) < 1 ∨ 16 < (n : Int)) = false) := Lib.hid (decide_eq_false (by omega))
 obtain ⟨X, hX⟩ : ∃ X, Pl.wrap (Pl.ringD n r) = X := ⟨_, rfl⟩
 obtain ⟨Y, hY⟩ : ∃ Y, Pl.wrap (Pl.outsD n r) = Y := ⟨_, rfl⟩
 obtain ⟨P, hP⟩ : ∃ P, Pl.wrap (sumL H X) = P := ⟨_, rfl⟩
 obtain ⟨Q, hQ⟩ : ∃ Q, Pl.wrap (sumL H Y) = Q := ⟨_, rfl⟩
 have HXW := Lib.hid hX
 have HYW := Lib.hid hY
 have HPW := Lib.hid hP
 have HQW := Lib.hid hQ
 have hlX : X.length = 4 * n := by rw [← hX, Pl.ringD_len hn1 hn16 HR0.out]
 have hlY : Y.length = 4 * n := by rw [← hY, Pl.outsD_len hn1 hn16 HR0.out]
 have HNXX : Hid (X.length ≤ 1000) := Lib.hid (by omega)
 have HNXY : Hid (Y.length ≤ 1000) := Lib.hid (by omega)
 have HSXX : Hid (∀ q ∈ X, Pl.SzP 4 q) := Lib.hid (by rw [← hX]; exact wrap_sz (map_sz (dp_sz hn1 hn16 HRZ.out) _))
 have HSXY : Hid (∀ q ∈ Y, Pl.SzP 40 q) := Lib.hid (by rw [← hY]; exact wrap_sz (map_sz (os_sz hn1 hn16 HRZ.out) _))
 have HSHX : Hid (∀ q ∈ H, Pl.SzP 4 q) := Lib.hid fun q hq => (HSH.out q hq).mono (by decide)
 have HSHY : Hid (∀ q ∈ H, Pl.SzP 40 q) := Lib.hid fun q hq => (HSH.out q hq).mono (by decide)
 have HMH1 : Hid (H.length ≤ 1000) := Lib.hid (Nat.le_trans HMH.out (by decide))
 have HQP : Hid (P.length ≤ 1000000) := Lib.hid (by
  have e1 := wrap_len (sumL H X)
  rw [hP, sumL_length] at e1
  have e2 := Nat.mul_le_mul HMH.out (show X.length ≤ 16 by omega)
  omega)
 have HQQ : Hid (Q.length ≤ 1000000) := Lib.hid (by
  have e1 := wrap_len (sumL H Y)
  rw [hQ, sumL_length] at e1
  have e2 := Nat.mul_le_mul HMH.out (show Y.length ≤ 16 by omega)
  omega)
 have hH0 : H = [] := by
  have hM0 : Ml = 0 := by have := HL0.out; omega
  rw [← HSWL.out, hM0]; rfl
 have hP0 : P = [] := by rw [← hP, hH0]; rfl
 have hQ0 : Q = [] := by rw [← hQ, hH0]; rfl
 clear hr hX hY hP hQ hlX hlY hm hnm ha
 go_enter Tryz.func10, Tryz.ntmps10
 have K1 := Lib.hid (fun W (h : TV W (.slice Al Ml cl) (l.take Ml)) => HSWL.out ▸ set_any (.slice Al Ml cl) (l.take Ml) W h HIL.out (by rw [List.length_take]; omega))
 go_wp2_with (fail)
 refine calls_named ?_
 intro W1 hW1
 have hL1 : Below w.heap.size w W1 := by
  rw [hW1]
  exact bB
 have c2 : Own W1 (w.heap.size) 0 [.int .i16 a, .int .u8 b, .int .i64 v] := by
  rw [hW1]
  first
  | (repeat (first | (with_reducible refine own_new (l := [.int .i16 a, .int .u8 b, .int .i64 v]) ?_; (simp; done)) | with_reducible refine Own.alloc ?_ _ | refine Own.far _ _ (by first | (simp; done) | (simp [*]; done) | (simp; omega)) ?_)); done
  | simp [Own, go_sem]
 have c3 : Own W1 (w.heap.size + 1) 0 [.int .i8 s.1, .int .i8 s.2.1, .bool s.2.2] := by
  rw [hW1]
  first
  | (repeat (first | (with_reducible refine own_new (l := [.int .i8 s.1, .int .i8 s.2.1, .bool s.2.2]) ?_; (simp; done)) | with_reducible refine Own.alloc ?_ _ | refine Own.far _ _ (by first | (simp; done) | (simp [*]; done) | (simp; omega)) ?_)); done
  | simp [Own, go_sem]
 have hB4 : Below w.heap.size w W1 := by
  rw [hW1]
  exact bB
 clear hW1 hL1
 with_reducible refine (K1.out _ (HTL.out.up hB4)).mono ?_
 rintro e w1 ⟨v1, rfl, hv1, hb1⟩
 have c5 := c2.up hb1
 have c6 := c3.up hb1
 have hB7 : Below w.heap.size w w1 := bel_up hB4 hb1
 clear c2 c3
 have PW1 := Lib.hid hv1
 clear hv1
 have uc5 := c5; have uc6 := c6
 simp only [At, Own, Nat.reduceAdd, and_true] at uc5 uc6
 have K8 := Lib.hid (fun W => HWR.out ▸ wrong_any a b v W)
 go_wp2_with (fail)
 refine calls_named ?_
 intro W2 hW2
 have hL2 : Below w1.heap.size w1 W2 := by
  rw [hW2]
  exact bB
 have c9 := c5.up hL2
 have c10 := c6.up hL2
 have hA11 := hL2
 have hB12 : Below w.heap.size w W2 := by
  rw [hW2]
  exact bB
 clear hW2 hL2 uc5 uc6 c5 c6
 with_reducible refine (K8.out _).mono ?_
 rintro e w2 ⟨rfl, hb2⟩
 have c13 := c9.up hb2
 have c14 := c10.up hb2
 have hA15 := bel_up hA11 hb2
 have hB16 : Below w.heap.size w w2 := bel_up hB12 hb2
 clear c9 c10 hA11
 obtain ⟨r1, r2, r3, r4, r5, r6⟩ := HLV.out
 have uc13 := c13; have uc14 := c14
 simp only [At, Own, Nat.reduceAdd, and_true] at uc13 uc14
 go_upto_region 4 with fail
 refine wp_named ?_
 intro WN hWN
 have c17 : Own WN (w.heap.size) 0 [.int .i16 a, .int .u8 b, .int .i64 n] := by rw [hWN]; simp [Own, go_sem, uc13, uc14]
 have c18 : Own WN (w.heap.size + 1) 0 [.int .i8 s.1, .int .i8 s.2.1, .bool s.2.2] := by rw [hWN]; simp [Own, go_sem, uc13, uc14]
 have HPN : Hid (PV WN v1 H) := Lib.hid (by rw [hWN]; exact pv_setInt (PW1.out.up hA15) (k := .i64) (z := v) (by simp [*]))
 have hB19 : Below w.heap.size w WN := by
  rw [hWN]
  exact bB
 clear uc13 uc14 hWN c13 c14
 have K20 := Lib.hid (fun W => HRA.out ▸ radius_any a b n W h1 h2 h3 h4)
 have K22 := Lib.hid (fun W va (ha : PV W va H) => HPW.out ▸ HQW.out ▸ cgrow_any va H X Y n r W ha HSH.out HMH.out hn1 hn16 HR0.out HRZ.out HXW.out HYW.out)
 have HSS24 : ∀ w' : World, Below WN.heap.size WN w' → (w'.cell? ⟨w.heap.size, 0, none⟩ = some (.int .i16 a) ∧ w'.cell? ⟨w.heap.size, 1, none⟩ = some (.int .u8 b) ∧ w'.cell? ⟨w.heap.size, 2, none⟩ = some (.int .i64 n) ∧ w'.cell? ⟨w.heap.size + 1, 0, none⟩ = some (.int .i8 s.1) ∧ w'.cell? ⟨w.heap.size + 1, 1, none⟩ = some (.int .i8 s.2.1) ∧ w'.cell? ⟨w.heap.size + 1, 2, none⟩ = some (.bool s.2.2)) := fun w' hb => by
  have qc17 := c17.up hb; have qc18 := c18.up hb
  simp only [At, Own, CE, CS, Nat.reduceAdd, Nat.reduceMul, Nat.zero_mul, Nat.add_zero, Nat.add_assoc, and_true] at qc17 qc18
  try simp only [Nat.add_assoc, Nat.reduceAdd]
  simp [*]
 go_cut [8, 9, 10] (fun x8 x9 x10 wx => x10 = .int .i64 0 ∧ PV wx x8 P ∧ PV wx x9 Q ∧ Below WN.heap.size WN wx)
 case first =>
  have hu := HSS24 WN (Below.refl _ _)
  go_region_held3 (fun w' => w'.cell? ⟨w.heap.size, 0, none⟩ = some (.int .i16 a) ∧ w'.cell? ⟨w.heap.size, 1, none⟩ = some (.int .u8 b) ∧ w'.cell? ⟨w.heap.size, 2, none⟩ = some (.int .i64 n) ∧ w'.cell? ⟨w.heap.size + 1, 0, none⟩ = some (.int .i8 s.1) ∧ w'.cell? ⟨w.heap.size + 1, 1, none⟩ = some (.int .i8 s.2.1) ∧ w'.cell? ⟨w.heap.size + 1, 2, none⟩ = some (.bool s.2.2)) (refine HSS24 _ ?_ <;> (repeat (first | with_reducible exact Below.refl _ _ | with_reducible refine bel_alloc ?_ _ | with_reducible refine Below.drew ?_ | (refine Below.setCell ?_ (by first | (simp; done) | (simp; omega) | omega) _) | with_reducible refine bel_up ?_ (by with_reducible assumption)))) (first
   | (go_at_call 38; with_reducible refine (K20.out _).mono ?_; rintro e v_21 ⟨rfl, hbq_21⟩; have hsz_21 := hbq_21.size; (try simp [size_drewK] at hsz_21))
   | (go_at_call 45; with_reducible refine (K22.out _ _ (HPN.out.up (by (repeat (first | with_reducible exact Below.refl _ _ | with_reducible refine bel_alloc ?_ _ | with_reducible refine Below.drew ?_ | (refine Below.setCell ?_ (by first | (simp; done) | (simp; omega) | omega) _) | with_reducible refine bel_up ?_ (by with_reducible assumption)))))).mono ?_; rintro e v_23 ⟨vva_23, vvb_23, rfl, hva_23, hvb_23, hbq_23⟩; have hsz_23 := hbq_23.size; (try simp [size_drewK] at hsz_23)))
  all_goals
   go_wp2_with fail
   go_meet
   refine ⟨rfl, (hva_23.up (by repeat (first | with_reducible exact Below.refl _ _ | with_reducible refine bel_alloc ?_ _ | with_reducible refine Below.drew ?_ | (refine Below.setCell ?_ (by first | (simp; done) | (simp; omega) | omega) _) | with_reducible refine bel_up ?_ (by with_reducible assumption)))), (hvb_23.up (by repeat (first | with_reducible exact Below.refl _ _ | with_reducible refine bel_alloc ?_ _ | with_reducible refine Below.drew ?_ | (refine Below.setCell ?_ (by first | (simp; done) | (simp; omega) | omega) _) | with_reducible refine bel_up ?_ (by with_reducible assumption)))), ?_⟩
   ·(repeat (first | with_reducible exact Below.refl _ _ | with_reducible refine bel_alloc ?_ _ | with_reducible refine Below.drew ?_ | (refine Below.setCell ?_ (by first | (simp; done) | (simp; omega) | omega) _) | with_reducible refine bel_up ?_ (by with_reducible assumption)))
 case rest =>
  obtain ⟨rfl, lv25, lv26, hbz2⟩ := hcut
  obtain ⟨wz2, hwz2⟩ : ∃ W_, W_ = wc := ⟨_, rfl⟩
  subst hwz2
  clear HSS24
  have c27 := c17.up hbz2
  have c28 := c18.up hbz2
  have hA29 := hbz2
  have hB30 : Below w.heap.size w wz2 := bel_up hB19 hbz2
  clear c17 c18
  have PV31 := Lib.hid lv25
  clear lv25
  have PV33 := Lib.hid lv26
  clear lv26
  clear r1 r2 r3 r4 r5 r6
  have K35 := Lib.hid (fun W => known_any W)
  have uc27 := c27; have uc28 := c28
  simp only [At, Own, Nat.reduceAdd, and_true] at uc27 uc28
  go_wp2_with (fail)
  refine calls_named ?_
  intro W3 hW3
  have hL3 : Below wz2.heap.size wz2 W3 := by
   rw [hW3]
   exact bB
  have c36 := c27.up hL3
  have c37 := c28.up hL3
  have hA38 := bel_up hA29 hL3
  have hA39 := hL3
  have hB40 : Below w.heap.size w W3 := by
   rw [hW3]
   exact bB
  clear hW3 hL3 uc27 uc28 c27 c28 hA29
  with_reducible refine (K35.out _).mono ?_
  rintro e w3 ⟨rfl, hb3⟩
  have c41 := c36.up hb3
  have c42 := c37.up hb3
  have hA43 := bel_up hA38 hb3
  have hA44 := bel_up hA39 hb3
  have hB45 : Below w.heap.size w w3 := bel_up hB40 hb3
  clear c36 c37 hA38 hA39
  have uc41 := c41; have uc42 := c42
  simp only [At, Own, Nat.reduceAdd, and_true] at uc41 uc42
  have K46 := Lib.hid (fun W => HWN.out ▸ wrong_any a b n W)
  go_wp2_with (fail)
  refine calls_named ?_
  intro W4 hW4
  have hL4 : Below w3.heap.size w3 W4 := by
   rw [hW4]
   exact bB
  have c47 := c41.up hL4
  have c48 := c42.up hL4
  have hA49 := bel_up hA43 hL4
  have hA50 := bel_up hA44 hL4
  have hB51 : Below w.heap.size w W4 := by
   rw [hW4]
   exact bB
  clear hW4 hL4 uc41 uc42 c41 c42 hA43 hA44
  with_reducible refine (K46.out _).mono ?_
  rintro e w4 ⟨rfl, hb4⟩
  have c52 := c47.up hb4
  have c53 := c48.up hb4
  have hA54 := bel_up hA49 hb4
  have hA55 := bel_up hA50 hb4
  have hB56 : Below w.heap.size w w4 := bel_up hB51 hb4
  clear c47 c48 hA49 hA50
  go_upto_region 7 with fail
  refine wp_named ?_
  intro W5 hW5
  have hL5 : Below w4.heap.size w4 W5 := by
   rw [hW5]
   exact bB
  have c57 := c52.up hL5
  have c58 := c53.up hL5
  have hA59 := bel_up hA54 hL5
  have hA60 := bel_up hA55 hL5
  have hB61 : Below w.heap.size w W5 := by
   rw [hW5]
   exact bB
  clear hW5 hL5 c52 c53 hA54 hA55
  have K63 := Lib.hid (fun W => HXW.out ▸ HYW.out ▸ hdisk_any n r W hn1 hn16 HR0.out HRZ.out)
  have HSS65 : ∀ w' : World, Below W5.heap.size W5 w' → (w'.cell? ⟨w.heap.size, 0, none⟩ = some (.int .i16 a) ∧ w'.cell? ⟨w.heap.size, 1, none⟩ = some (.int .u8 b) ∧ w'.cell? ⟨w.heap.size, 2, none⟩ = some (.int .i64 n) ∧ w'.cell? ⟨w.heap.size + 1, 0, none⟩ = some (.int .i8 s.1) ∧ w'.cell? ⟨w.heap.size + 1, 1, none⟩ = some (.int .i8 s.2.1) ∧ w'.cell? ⟨w.heap.size + 1, 2, none⟩ = some (.bool s.2.2)) := fun w' hb => by
   have qc57 := c57.up hb; have qc58 := c58.up hb
   simp only [At, Own, CE, CS, Nat.reduceAdd, Nat.reduceMul, Nat.zero_mul, Nat.add_zero, Nat.add_assoc, and_true] at qc57 qc58
   try simp only [Nat.add_assoc, Nat.reduceAdd]
   simp [*]
  go_cut [11, 12] (fun x11 x12 wx => PV wx x11 X ∧ PV wx x12 Y ∧ Below W5.heap.size W5 wx)
  case first =>
   have hu := HSS65 W5 (Below.refl _ _)
   go_region_held3 (fun w' => w'.cell? ⟨w.heap.size, 0, none⟩ = some (.int .i16 a) ∧ w'.cell? ⟨w.heap.size, 1, none⟩ = some (.int .u8 b) ∧ w'.cell? ⟨w.heap.size, 2, none⟩ = some (.int .i64 n) ∧ w'.cell? ⟨w.heap.size + 1, 0, none⟩ = some (.int .i8 s.1) ∧ w'.cell? ⟨w.heap.size + 1, 1, none⟩ = some (.int .i8 s.2.1) ∧ w'.cell? ⟨w.heap.size + 1, 2, none⟩ = some (.bool s.2.2)) (refine HSS65 _ ?_ <;> (repeat (first | with_reducible exact Below.refl _ _ | with_reducible refine bel_alloc ?_ _ | with_reducible refine Below.drew ?_ | (refine Below.setCell ?_ (by first | (simp; done) | (simp; omega) | omega) _) | with_reducible refine bel_up ?_ (by with_reducible assumption)))) (first
    | (go_at_call 38; with_reducible refine (K20.out _).mono ?_; rintro e v_62 ⟨rfl, hbq_62⟩; have hsz_62 := hbq_62.size; (try simp [size_drewK] at hsz_62))
    | (go_at_call 40; with_reducible refine (K63.out _).mono ?_; rintro e v_64 ⟨vva_64, vvb_64, rfl, hva_64, hvb_64, hbq_64⟩; have hsz_64 := hbq_64.size; (try simp [size_drewK] at hsz_64)))
   all_goals
    go_wp2_with fail
    go_meet
    refine ⟨(hva_64.up (by repeat (first | with_reducible exact Below.refl _ _ | with_reducible refine bel_alloc ?_ _ | with_reducible refine Below.drew ?_ | (refine Below.setCell ?_ (by first | (simp; done) | (simp; omega) | omega) _) | with_reducible refine bel_up ?_ (by with_reducible assumption)))), (hvb_64.up (by repeat (first | with_reducible exact Below.refl _ _ | with_reducible refine bel_alloc ?_ _ | with_reducible refine Below.drew ?_ | (refine Below.setCell ?_ (by first | (simp; done) | (simp; omega) | omega) _) | with_reducible refine bel_up ?_ (by with_reducible assumption)))), ?_⟩
    ·(repeat (first | with_reducible exact Below.refl _ _ | with_reducible refine bel_alloc ?_ _ | with_reducible refine Below.drew ?_ | (refine Below.setCell ?_ (by first | (simp; done) | (simp; omega) | omega) _) | with_reducible refine bel_up ?_ (by with_reducible assumption)))
  case rest =>
   obtain ⟨lv66, lv67, hbz5⟩ := hcut
   obtain ⟨wz5, hwz5⟩ : ∃ W_, W_ = wc := ⟨_, rfl⟩
   subst hwz5
   clear HSS65
   have c68 := c57.up hbz5
   have c69 := c58.up hbz5
   have hA70 := bel_up hA59 hbz5
   have hA71 := bel_up hA60 hbz5
   have hB72 : Below w.heap.size w wz5 := bel_up hB61 hbz5
   clear c57 c58 hA59 hA60
   have PV73 := Lib.hid lv66
   clear lv66
   have PV75 := Lib.hid lv67
   clear lv67
   have K77 := Lib.hid (fun W va vb (ha : PV W va H) (hb : PV W vb X) => HPW.out ▸ hsum_any va vb H X W ha hb HSHX.out HSXX.out HMH1.out HNXX.out (by decide))
   have uc68 := c68; have uc69 := c69
   simp only [At, Own, Nat.reduceAdd, and_true] at uc68 uc69
   go_wp2_with (fail)
   refine calls_named ?_
   intro W6 hW6
   have hL6 : Below wz5.heap.size wz5 W6 := by
    rw [hW6]
    exact bB
   have c78 := c68.up hL6
   have c79 := c69.up hL6
   have hA80 := bel_up hA70 hL6
   have hA81 := bel_up hA71 hL6
   have hA82 := hL6
   have hB83 : Below w.heap.size w W6 := by
    rw [hW6]
    exact bB
   clear hW6 hL6 uc68 uc69 c68 c69 hA70 hA71
   with_reducible refine (K77.out _ _ _ (HPN.out.up hA80) (PV73.out.up hA82)).mono ?_
   rintro e w6 ⟨v6, rfl, hv6, hb6⟩
   have c84 := c78.up hb6
   have c85 := c79.up hb6
   have hA86 := bel_up hA80 hb6
   have hA87 := bel_up hA81 hb6
   have hA88 := bel_up hA82 hb6
   have hB89 : Below w.heap.size w w6 := bel_up hB83 hb6
   clear c78 c79 hA80 hA81 hA82
   have PW6 := Lib.hid hv6
   clear hv6
   have K90 := Lib.hid (fun W va vb (ha : PV W va P) (hb : PV W vb P) => same_true va vb P W ha hb HQP.out)
   have uc84 := c84; have uc85 := c85
   simp only [At, Own, Nat.reduceAdd, and_true] at uc84 uc85
   go_wp2_with (fail)
   refine calls_named ?_
   intro W7 hW7
   have hL7 : Below w6.heap.size w6 W7 := by
    rw [hW7]
    exact bB
   have c91 := c84.up hL7
   have c92 := c85.up hL7
   have hA93 := bel_up hA86 hL7
   have hA94 := bel_up hA87 hL7
   have hA95 := bel_up hA88 hL7
   have hA96 := hL7
   have hB97 : Below w.heap.size w W7 := by
    rw [hW7]
    exact bB
   clear hW7 hL7 uc84 uc85 c84 c85 hA86 hA87 hA88
   with_reducible refine (K90.out _ _ _ (PV31.out.up hA94) (PW6.out.up hA96)).mono ?_
   rintro e w7 ⟨rfl, hb7⟩
   have c98 := c91.up hb7
   have c99 := c92.up hb7
   have hA100 := bel_up hA93 hb7
   have hA101 := bel_up hA94 hb7
   have hA102 := bel_up hA95 hb7
   have hA103 := bel_up hA96 hb7
   have hB104 : Below w.heap.size w w7 := bel_up hB97 hb7
   clear c91 c92 hA93 hA94 hA95 hA96
   have K105 := Lib.hid (fun W va vb (ha : PV W va H) (hb : PV W vb Y) => HQW.out ▸ hsum_any va vb H Y W ha hb HSHY.out HSXY.out HMH1.out HNXY.out (by decide))
   have uc98 := c98; have uc99 := c99
   simp only [At, Own, Nat.reduceAdd, and_true] at uc98 uc99
   go_wp2_with (fail)
   refine calls_named ?_
   intro W8 hW8
   have hL8 : Below w7.heap.size w7 W8 := by
    rw [hW8]
    exact bB
   have c106 := c98.up hL8
   have c107 := c99.up hL8
   have hA108 := bel_up hA100 hL8
   have hA109 := bel_up hA101 hL8
   have hA110 := bel_up hA102 hL8
   have hA111 := bel_up hA103 hL8
   have hB112 : Below w.heap.size w W8 := by
    rw [hW8]
    exact bB
   clear hW8 hL8 uc98 uc99 c98 c99 hA100 hA101 hA102 hA103
   with_reducible refine (K105.out _ _ _ (HPN.out.up hA108) (PV75.out.up hA110)).mono ?_
   rintro e w8 ⟨v8, rfl, hv8, hb8⟩
   have c113 := c106.up hb8
   have c114 := c107.up hb8
   have hA115 := bel_up hA108 hb8
   have hA116 := bel_up hA109 hb8
   have hA117 := bel_up hA110 hb8
   have hA118 := bel_up hA111 hb8
   have hB119 : Below w.heap.size w w8 := bel_up hB112 hb8
   clear c106 c107 hA108 hA109 hA110 hA111
   have PW8 := Lib.hid hv8
   clear hv8
   have K120 := Lib.hid (fun W va vb (ha : PV W va Q) (hb : PV W vb Q) => same_true va vb Q W ha hb HQQ.out)
   have uc113 := c113; have uc114 := c114
   simp only [At, Own, Nat.reduceAdd, and_true] at uc113 uc114
   go_wp2_with (fail)
   refine calls_named ?_
   intro W9 hW9
   have hL9 : Below w8.heap.size w8 W9 := by
    rw [hW9]
    exact bB
   have c121 := c113.up hL9
   have c122 := c114.up hL9
   have hA123 := bel_up hA115 hL9
   have hA124 := bel_up hA116 hL9
   have hA125 := bel_up hA117 hL9
   have hA126 := bel_up hA118 hL9
   have hA127 := hL9
   have hB128 : Below w.heap.size w W9 := by
    rw [hW9]
    exact bB
   clear hW9 hL9 uc113 uc114 c113 c114 hA115 hA116 hA117 hA118
   with_reducible refine (K120.out _ _ _ (PV33.out.up hA124) (PW8.out.up hA127)).mono ?_
   rintro e w9 ⟨rfl, hb9⟩
   have c129 := c121.up hb9
   have c130 := c122.up hb9
   have hA131 := bel_up hA123 hb9
   have hA132 := bel_up hA124 hb9
   have hA133 := bel_up hA125 hb9
   have hA134 := bel_up hA126 hb9
   have hA135 := bel_up hA127 hb9
   have hB136 : Below w.heap.size w w9 := bel_up hB128 hb9
   clear c121 c122 hA123 hA124 hA125 hA126 hA127
   obtain ⟨AH, cH, hvH⟩ : ∃ A c, v1 = .slice A 0 c := by
    obtain ⟨A, c, h, _⟩ := ((HPN.out.up hA131)).open_
    exact ⟨A, c, by rw [h, hH0, List.length_nil]⟩
   subst hvH
   obtain ⟨AP, cP, hvP⟩ : ∃ A c, u8 = .slice A 0 c := by
    obtain ⟨A, c, h, _⟩ := ((PV31.out.up hA132)).open_
    exact ⟨A, c, by rw [h, hP0, List.length_nil]⟩
   subst hvP
   obtain ⟨AQ, cQ, hvQ⟩ : ∃ A c, u9 = .slice A 0 c := by
    obtain ⟨A, c, h, _⟩ := ((PV33.out.up hA132)).open_
    exact ⟨A, c, by rw [h, hQ0, List.length_nil]⟩
   subst hvQ
   have uc129 := c129; have uc130 := c130
   simp only [At, Own, Nat.reduceAdd, and_true] at uc129 uc130
   go_wp2
   go_ret
   refine ⟨(by first | rfl | (simp; done) | (simp [*]; done) | (simp; omega) | (exfalso; omega)), ?_⟩
   exact bB
set_option maxHeartbeats 4000000 in
theorem grows_full (Al : Option Addr) (cl : Nat) (l : List (Int × Int × Bool)) (a b v : Int) (s : Int × Int × Bool) (w : World) (hl' : TV w (.slice Al l.length cl) l) (hil : ∀ s ∈ l, In8 s) (hnl : l.length ≤ 9223372036854775807) (hcl : l.length ≤ cl) (h1 : -32768 ≤ a) (h2 : a ≤ 32767) (h3 : 0 ≤ b) (h4 : b ≤ 255) (hsp : In8 s) (ha : 0 < a) (hv1 : 1 ≤ v) (hv16 : v ≤ 16) (hl0 : 0 < l.length) :
 Calls Tryz.prog 10 #[.slice Al l.length cl, .agg #[.int .i16 a, .int .u8 b, .int .i64 v], .agg #[.int .i8 s.1, .int .i8 s.2.1, .bool s.2.2]] w fun e w' => e = .returned (.bool true) ∧ Below w.heap.size w w' := by
 have HL0 := Lib.hid hl0
 clear hl0
 have hltl := TV.take (M := min l.length 5) hl' (Nat.min_le_left _ _)
 obtain ⟨Ml, hMl⟩ : ∃ M, M = min l.length 5 := ⟨_, rfl⟩
 rw [← hMl] at hltl
 have hM8l : Ml ≤ 5 := by omega
 have hMNl : Ml ≤ l.length := by omega
 have HTL := Lib.hid hltl
 have HIL : Hid (∀ s ∈ l.take Ml, In8 s) := Lib.hid fun s hs => hil s (List.mem_of_mem_take hs)
 obtain ⟨H, hSl⟩ : ∃ S, Pl.wrap (ptsOf (l.take Ml)) = S := ⟨_, rfl⟩
 have HSWL := Lib.hid hSl
 have HSH : Hid (∀ q ∈ H, Pl.SzP 1 q) := Lib.hid (hSl ▸ wrap_sz (ptsOf_sz HIL.out))
 have HMH : Hid (H.length ≤ 12) := Lib.hid (by have := wrap_len (ptsOf (l.take Ml)); have := ptsOf_len (l.take Ml); rw [hSl] at *; omega)
 have HNH : Hid (H.length ≤ 1000000) := Lib.hid (by have := HMH.out; omega)
 have HKH : Hid (Small H) := Lib.hid ⟨by rw [← hSl]; exact Pl.wrap_wrap _, HSH.out, HMH.out⟩
 clear hSl hltl
 have hmil : min (l.length : Int) 5 = (Ml : Int) := by omega
 have hifl : (if (5 : Int) < (l.length : Int) then (5 : Int) else (l.length : Int)) = (Ml : Int) := by split <;> omega
 generalize hNl : l.length = Nl at *
 have hmcl : (Ml : Int) ≤ cl := by omega
 have hmnl : (Ml : Int) ≤ Nl := by omega
 clear hl' hil hMl
 obtain ⟨r, hr⟩ : ∃ r, Rat.divInt a (b + 1) = r := ⟨_, rfl⟩
 have HRA := Lib.hid hr
 have HRZ : Hid (Pl.Sz 2 r) := Lib.hid (hr ▸ rad_sz h1 h2 h3 h4)
 have HR0 : Hid (0 < r) := Lib.hid (hr ▸ rad_pos ha h3)
 have HWR : Hid (decide (a ≤ 0 ∨ v < 1 ∨ 16 < v) = false) := Lib.hid (decide_eq_false (by omega))
 obtain ⟨m, hm⟩ : ∃ m : Nat, (m : Int) = v % 4 := ⟨(v % 4).toNat, by omega⟩
 have HLV := Lib.hid (lev4 hv1 hv16 hm)
 obtain ⟨n, hnm⟩ : ∃ n : Nat, m + 1 = n := ⟨_, rfl⟩
 rw [hnm] at HLV
 have hn1 : 1 ≤ n := by omega
 have hn4 : n ≤ 4 := by omega
 have hn16 : n ≤ 16 := by omega
 have HWN : Hid (decide (a ≤ 0 ∨ (n : Int) < 1 ∨ 16 < (n : Int)) = false) := Lib.hid (decide_eq_false (by omega))
 obtain ⟨X, hX⟩ : ∃ X, Pl.wrap (Pl.ringD n r) = X := ⟨_, rfl⟩
 obtain ⟨Y, hY⟩ : ∃ Y, Pl.wrap (Pl.outsD n r) = Y := ⟨_, rfl⟩
 obtain ⟨P, hP⟩ : ∃ P, Pl.wrap (sumL H X) = P := ⟨_, rfl⟩
 obtain ⟨Q, hQ⟩ : ∃ Q, Pl.wrap (sumL H Y) = Q := ⟨_, rfl⟩
 have HXW := Lib.hid hX
 have HYW := Lib.hid hY
 have HPW := Lib.hid hP
 have HQW := Lib.hid hQ
 have hlX : X.length = 4 * n := by rw [← hX, Pl.ringD_len hn1 hn16 HR0.out]
 have hlY : Y.length = 4 * n := by rw [← hY, Pl.outsD_len hn1 hn16 HR0.out]
 have HNXX : Hid (X.length ≤ 1000) := Lib.hid (by omega)
 have HNXY : Hid (Y.length ≤ 1000) := Lib.hid (by omega)
 have HSXX : Hid (∀ q ∈ X, Pl.SzP 4 q) := Lib.hid (by rw [← hX]; exact wrap_sz (map_sz (dp_sz hn1 hn16 HRZ.out) _))
 have HSXY : Hid (∀ q ∈ Y, Pl.SzP 40 q) := Lib.hid (by rw [← hY]; exact wrap_sz (map_sz (os_sz hn1 hn16 HRZ.out) _))
 have HSHX : Hid (∀ q ∈ H, Pl.SzP 4 q) := Lib.hid fun q hq => (HSH.out q hq).mono (by decide)
 have HSHY : Hid (∀ q ∈ H, Pl.SzP 40 q) := Lib.hid fun q hq => (HSH.out q hq).mono (by decide)
 have HMH1 : Hid (H.length ≤ 1000) := Lib.hid (Nat.le_trans HMH.out (by decide))
 have HQP : Hid (P.length ≤ 1000000) := Lib.hid (by
  have e1 := wrap_len (sumL H X)
  rw [hP, sumL_length] at e1
  have e2 := Nat.mul_le_mul HMH.out (show X.length ≤ 16 by omega)
  omega)
 have HQQ : Hid (Q.length ≤ 1000000) := Lib.hid (by
  have e1 := wrap_len (sumL H Y)
  rw [hQ, sumL_length] at e1
  have e2 := Nat.mul_le_mul HMH.out (show Y.length ≤ 16 by omega)
  omega)
 have HH0 : Hid (0 < H.length) := Lib.hid (by
  rw [← HSWL.out]
  exact List.length_pos_iff.2 (Pl.wrap_ne fun e => by
   have e1 := congrArg List.length e
   simp only [ptsOf, List.length_map, List.length_take, List.length_nil] at e1
   have := HL0.out
   omega))
 obtain ⟨nr, hnr⟩ : ∃ z, Pl.nearR H (ptOf s) = z := ⟨_, rfl⟩
 obtain ⟨tn, htn⟩ : ∃ z, Pl.cmpQ nr (r * r) = z := ⟨_, rfl⟩
 obtain ⟨tP, htP⟩ : ∃ z, Pl.locR P (ptOf s) = z := ⟨_, rfl⟩
 obtain ⟨tQ, htQ⟩ : ∃ z, Pl.locR Q (ptOf s) = z := ⟨_, rfl⟩
 have HNR := Lib.hid hnr
 have HTN := Lib.hid htn
 have HTP := Lib.hid htP
 have HTQ := Lib.hid htQ
 have HNZ : Hid (Pl.Sz 16777216 nr) := Lib.hid (by rw [← hnr]; exact nearR_sz HSH.out (ptOf_sz hsp))
 have HZP : Hid (∀ q ∈ P, Pl.SzP 81 q) := Lib.hid (by rw [← hP]; exact fun q hq => (wrap_sz (sumL_sz HSHX.out HSXX.out) q hq).mono (by decide))
 have HZQ : Hid (∀ q ∈ Q, Pl.SzP 81 q) := Lib.hid (by rw [← hQ]; exact wrap_sz (sumL_sz HSHY.out HSXY.out))
 have HLAW := Lib.hid (grow_law HKH.out.wrap HH0.out hn1 hn4 HR0.out hX hY hP hQ hnr htn htP htQ)
 obtain ⟨NH, hNH⟩ : ∃ n, n = H.length := ⟨_, rfl⟩
 have HLH := Lib.hid hNH
 have jh0 : ¬ (NH : Int) = 0 := by have := HH0.out; omega
 have jh1 : ((NH : Int) == 0) = false := by simpa using jh0
 clear hr hX hY hP hQ hlX hlY hm hnm ha hnr htn htP htQ hNH
 go_enter Tryz.func10, Tryz.ntmps10
 have K1 := Lib.hid (fun W (h : TV W (.slice Al Ml cl) (l.take Ml)) => HSWL.out ▸ set_any (.slice Al Ml cl) (l.take Ml) W h HIL.out (by rw [List.length_take]; omega))
 go_wp2_with (fail)
 refine calls_named ?_
 intro W1 hW1
 have hL1 : Below w.heap.size w W1 := by
  rw [hW1]
  exact bB
 have c2 : Own W1 (w.heap.size) 0 [.int .i16 a, .int .u8 b, .int .i64 v] := by
  rw [hW1]
  first
  | (repeat (first | (with_reducible refine own_new (l := [.int .i16 a, .int .u8 b, .int .i64 v]) ?_; (simp; done)) | with_reducible refine Own.alloc ?_ _ | refine Own.far _ _ (by first | (simp; done) | (simp [*]; done) | (simp; omega)) ?_)); done
  | simp [Own, go_sem]
 have c3 : Own W1 (w.heap.size + 1) 0 [.int .i8 s.1, .int .i8 s.2.1, .bool s.2.2] := by
  rw [hW1]
  first
  | (repeat (first | (with_reducible refine own_new (l := [.int .i8 s.1, .int .i8 s.2.1, .bool s.2.2]) ?_; (simp; done)) | with_reducible refine Own.alloc ?_ _ | refine Own.far _ _ (by first | (simp; done) | (simp [*]; done) | (simp; omega)) ?_)); done
  | simp [Own, go_sem]
 have hB4 : Below w.heap.size w W1 := by
  rw [hW1]
  exact bB
 clear hW1 hL1
 with_reducible refine (K1.out _ (HTL.out.up hB4)).mono ?_
 rintro e w1 ⟨v1, rfl, hv1, hb1⟩
 have c5 := c2.up hb1
 have c6 := c3.up hb1
 have hB7 : Below w.heap.size w w1 := bel_up hB4 hb1
 clear c2 c3
 have PW1 := Lib.hid hv1
 clear hv1
 have uc5 := c5; have uc6 := c6
 simp only [At, Own, Nat.reduceAdd, and_true] at uc5 uc6
 have K8 := Lib.hid (fun W => HWR.out ▸ wrong_any a b v W)
 go_wp2_with (fail)
 refine calls_named ?_
 intro W2 hW2
 have hL2 : Below w1.heap.size w1 W2 := by
  rw [hW2]
  exact bB
 have c9 := c5.up hL2
 have c10 := c6.up hL2
 have hA11 := hL2
 have hB12 : Below w.heap.size w W2 := by
  rw [hW2]
  exact bB
 clear hW2 hL2 uc5 uc6 c5 c6
 with_reducible refine (K8.out _).mono ?_
 rintro e w2 ⟨rfl, hb2⟩
 have c13 := c9.up hb2
 have c14 := c10.up hb2
 have hA15 := bel_up hA11 hb2
 have hB16 : Below w.heap.size w w2 := bel_up hB12 hb2
 clear c9 c10 hA11
 obtain ⟨r1, r2, r3, r4, r5, r6⟩ := HLV.out
 have uc13 := c13; have uc14 := c14
 simp only [At, Own, Nat.reduceAdd, and_true] at uc13 uc14
 go_upto_region 4 with fail
 refine wp_named ?_
 intro WN hWN
 have c17 : Own WN (w.heap.size) 0 [.int .i16 a, .int .u8 b, .int .i64 n] := by rw [hWN]; simp [Own, go_sem, uc13, uc14]
 have c18 : Own WN (w.heap.size + 1) 0 [.int .i8 s.1, .int .i8 s.2.1, .bool s.2.2] := by rw [hWN]; simp [Own, go_sem, uc13, uc14]
 have HPN : Hid (PV WN v1 H) := Lib.hid (by rw [hWN]; exact pv_setInt (PW1.out.up hA15) (k := .i64) (z := v) (by simp [*]))
 have hB19 : Below w.heap.size w WN := by
  rw [hWN]
  exact bB
 clear uc13 uc14 hWN c13 c14
 have K20 := Lib.hid (fun W => HRA.out ▸ radius_any a b n W h1 h2 h3 h4)
 have K22 := Lib.hid (fun W va (ha : PV W va H) => HPW.out ▸ HQW.out ▸ cgrow_any va H X Y n r W ha HSH.out HMH.out hn1 hn16 HR0.out HRZ.out HXW.out HYW.out)
 have HSS24 : ∀ w' : World, Below WN.heap.size WN w' → (w'.cell? ⟨w.heap.size, 0, none⟩ = some (.int .i16 a) ∧ w'.cell? ⟨w.heap.size, 1, none⟩ = some (.int .u8 b) ∧ w'.cell? ⟨w.heap.size, 2, none⟩ = some (.int .i64 n) ∧ w'.cell? ⟨w.heap.size + 1, 0, none⟩ = some (.int .i8 s.1) ∧ w'.cell? ⟨w.heap.size + 1, 1, none⟩ = some (.int .i8 s.2.1) ∧ w'.cell? ⟨w.heap.size + 1, 2, none⟩ = some (.bool s.2.2)) := fun w' hb => by
  have qc17 := c17.up hb; have qc18 := c18.up hb
  simp only [At, Own, CE, CS, Nat.reduceAdd, Nat.reduceMul, Nat.zero_mul, Nat.add_zero, Nat.add_assoc, and_true] at qc17 qc18
  try simp only [Nat.add_assoc, Nat.reduceAdd]
  simp [*]
 go_cut [8, 9, 10] (fun x8 x9 x10 wx => x10 = .int .i64 0 ∧ PV wx x8 P ∧ PV wx x9 Q ∧ Below WN.heap.size WN wx)
 case first =>
  have hu := HSS24 WN (Below.refl _ _)
  go_region_held3 (fun w' => w'.cell? ⟨w.heap.size, 0, none⟩ = some (.int .i16 a) ∧ w'.cell? ⟨w.heap.size, 1, none⟩ = some (.int .u8 b) ∧ w'.cell? ⟨w.heap.size, 2, none⟩ = some (.int .i64 n) ∧ w'.cell? ⟨w.heap.size + 1, 0, none⟩ = some (.int .i8 s.1) ∧ w'.cell? ⟨w.heap.size + 1, 1, none⟩ = some (.int .i8 s.2.1) ∧ w'.cell? ⟨w.heap.size + 1, 2, none⟩ = some (.bool s.2.2)) (refine HSS24 _ ?_ <;> (repeat (first | with_reducible exact Below.refl _ _ | with_reducible refine bel_alloc ?_ _ | with_reducible refine Below.drew ?_ | (refine Below.setCell ?_ (by first | (simp; done) | (simp; omega) | omega) _) | with_reducible refine bel_up ?_ (by with_reducible assumption)))) (first
   | (go_at_call 38; with_reducible refine (K20.out _).mono ?_; rintro e v_21 ⟨rfl, hbq_21⟩; have hsz_21 := hbq_21.size; (try simp [size_drewK] at hsz_21))
   | (go_at_call 45; with_reducible refine (K22.out _ _ (HPN.out.up (by (repeat (first | with_reducible exact Below.refl _ _ | with_reducible refine bel_alloc ?_ _ | with_reducible refine Below.drew ?_ | (refine Below.setCell ?_ (by first | (simp; done) | (simp; omega) | omega) _) | with_reducible refine bel_up ?_ (by with_reducible assumption)))))).mono ?_; rintro e v_23 ⟨vva_23, vvb_23, rfl, hva_23, hvb_23, hbq_23⟩; have hsz_23 := hbq_23.size; (try simp [size_drewK] at hsz_23)))
  all_goals
   go_wp2_with fail
   go_meet
   refine ⟨rfl, (hva_23.up (by repeat (first | with_reducible exact Below.refl _ _ | with_reducible refine bel_alloc ?_ _ | with_reducible refine Below.drew ?_ | (refine Below.setCell ?_ (by first | (simp; done) | (simp; omega) | omega) _) | with_reducible refine bel_up ?_ (by with_reducible assumption)))), (hvb_23.up (by repeat (first | with_reducible exact Below.refl _ _ | with_reducible refine bel_alloc ?_ _ | with_reducible refine Below.drew ?_ | (refine Below.setCell ?_ (by first | (simp; done) | (simp; omega) | omega) _) | with_reducible refine bel_up ?_ (by with_reducible assumption)))), ?_⟩
   ·(repeat (first | with_reducible exact Below.refl _ _ | with_reducible refine bel_alloc ?_ _ | with_reducible refine Below.drew ?_ | (refine Below.setCell ?_ (by first | (simp; done) | (simp; omega) | omega) _) | with_reducible refine bel_up ?_ (by with_reducible assumption)))
 case rest =>
  obtain ⟨rfl, lv25, lv26, hbz2⟩ := hcut
  obtain ⟨wz2, hwz2⟩ : ∃ W_, W_ = wc := ⟨_, rfl⟩
  subst hwz2
  clear HSS24
  have c27 := c17.up hbz2
  have c28 := c18.up hbz2
  have hA29 := hbz2
  have hB30 : Below w.heap.size w wz2 := bel_up hB19 hbz2
  clear c17 c18
  have PV31 := Lib.hid lv25
  clear lv25
  have PV33 := Lib.hid lv26
  clear lv26
  clear r1 r2 r3 r4 r5 r6
  have K35 := Lib.hid (fun W => known_any W)
  have uc27 := c27; have uc28 := c28
  simp only [At, Own, Nat.reduceAdd, and_true] at uc27 uc28
  go_wp2_with (fail)
  refine calls_named ?_
  intro W3 hW3
  have hL3 : Below wz2.heap.size wz2 W3 := by
   rw [hW3]
   exact bB
  have c36 := c27.up hL3
  have c37 := c28.up hL3
  have hA38 := bel_up hA29 hL3
  have hA39 := hL3
  have hB40 : Below w.heap.size w W3 := by
   rw [hW3]
   exact bB
  clear hW3 hL3 uc27 uc28 c27 c28 hA29
  with_reducible refine (K35.out _).mono ?_
  rintro e w3 ⟨rfl, hb3⟩
  have c41 := c36.up hb3
  have c42 := c37.up hb3
  have hA43 := bel_up hA38 hb3
  have hA44 := bel_up hA39 hb3
  have hB45 : Below w.heap.size w w3 := bel_up hB40 hb3
  clear c36 c37 hA38 hA39
  have uc41 := c41; have uc42 := c42
  simp only [At, Own, Nat.reduceAdd, and_true] at uc41 uc42
  have K46 := Lib.hid (fun W => HWN.out ▸ wrong_any a b n W)
  go_wp2_with (fail)
  refine calls_named ?_
  intro W4 hW4
  have hL4 : Below w3.heap.size w3 W4 := by
   rw [hW4]
   exact bB
  have c47 := c41.up hL4
  have c48 := c42.up hL4
  have hA49 := bel_up hA43 hL4
  have hA50 := bel_up hA44 hL4
  have hB51 : Below w.heap.size w W4 := by
   rw [hW4]
   exact bB
  clear hW4 hL4 uc41 uc42 c41 c42 hA43 hA44
  with_reducible refine (K46.out _).mono ?_
  rintro e w4 ⟨rfl, hb4⟩
  have c52 := c47.up hb4
  have c53 := c48.up hb4
  have hA54 := bel_up hA49 hb4
  have hA55 := bel_up hA50 hb4
  have hB56 : Below w.heap.size w w4 := bel_up hB51 hb4
  clear c47 c48 hA49 hA50
  go_upto_region 7 with fail
  refine wp_named ?_
  intro W5 hW5
  have hL5 : Below w4.heap.size w4 W5 := by
   rw [hW5]
   exact bB
  have c57 := c52.up hL5
  have c58 := c53.up hL5
  have hA59 := bel_up hA54 hL5
  have hA60 := bel_up hA55 hL5
  have hB61 : Below w.heap.size w W5 := by
   rw [hW5]
   exact bB
  clear hW5 hL5 c52 c53 hA54 hA55
  have K63 := Lib.hid (fun W => HXW.out ▸ HYW.out ▸ hdisk_any n r W hn1 hn16 HR0.out HRZ.out)
  have HSS65 : ∀ w' : World, Below W5.heap.size W5 w' → (w'.cell? ⟨w.heap.size, 0, none⟩ = some (.int .i16 a) ∧ w'.cell? ⟨w.heap.size, 1, none⟩ = some (.int .u8 b) ∧ w'.cell? ⟨w.heap.size, 2, none⟩ = some (.int .i64 n) ∧ w'.cell? ⟨w.heap.size + 1, 0, none⟩ = some (.int .i8 s.1) ∧ w'.cell? ⟨w.heap.size + 1, 1, none⟩ = some (.int .i8 s.2.1) ∧ w'.cell? ⟨w.heap.size + 1, 2, none⟩ = some (.bool s.2.2)) := fun w' hb => by
   have qc57 := c57.up hb; have qc58 := c58.up hb
   simp only [At, Own, CE, CS, Nat.reduceAdd, Nat.reduceMul, Nat.zero_mul, Nat.add_zero, Nat.add_assoc, and_true] at qc57 qc58
   try simp only [Nat.add_assoc, Nat.reduceAdd]
   simp [*]
  go_cut [11, 12] (fun x11 x12 wx => PV wx x11 X ∧ PV wx x12 Y ∧ Below W5.heap.size W5 wx)
  case first =>
   have hu := HSS65 W5 (Below.refl _ _)
   go_region_held3 (fun w' => w'.cell? ⟨w.heap.size, 0, none⟩ = some (.int .i16 a) ∧ w'.cell? ⟨w.heap.size, 1, none⟩ = some (.int .u8 b) ∧ w'.cell? ⟨w.heap.size, 2, none⟩ = some (.int .i64 n) ∧ w'.cell? ⟨w.heap.size + 1, 0, none⟩ = some (.int .i8 s.1) ∧ w'.cell? ⟨w.heap.size + 1, 1, none⟩ = some (.int .i8 s.2.1) ∧ w'.cell? ⟨w.heap.size + 1, 2, none⟩ = some (.bool s.2.2)) (refine HSS65 _ ?_ <;> (repeat (first | with_reducible exact Below.refl _ _ | with_reducible refine bel_alloc ?_ _ | with_reducible refine Below.drew ?_ | (refine Below.setCell ?_ (by first | (simp; done) | (simp; omega) | omega) _) | with_reducible refine bel_up ?_ (by with_reducible assumption)))) (first
    | (go_at_call 38; with_reducible refine (K20.out _).mono ?_; rintro e v_62 ⟨rfl, hbq_62⟩; have hsz_62 := hbq_62.size; (try simp [size_drewK] at hsz_62))
    | (go_at_call 40; with_reducible refine (K63.out _).mono ?_; rintro e v_64 ⟨vva_64, vvb_64, rfl, hva_64, hvb_64, hbq_64⟩; have hsz_64 := hbq_64.size; (try simp [size_drewK] at hsz_64)))
   all_goals
    go_wp2_with fail
    go_meet
    refine ⟨(hva_64.up (by repeat (first | with_reducible exact Below.refl _ _ | with_reducible refine bel_alloc ?_ _ | with_reducible refine Below.drew ?_ | (refine Below.setCell ?_ (by first | (simp; done) | (simp; omega) | omega) _) | with_reducible refine bel_up ?_ (by with_reducible assumption)))), (hvb_64.up (by repeat (first | with_reducible exact Below.refl _ _ | with_reducible refine bel_alloc ?_ _ | with_reducible refine Below.drew ?_ | (refine Below.setCell ?_ (by first | (simp; done) | (simp; omega) | omega) _) | with_reducible refine bel_up ?_ (by with_reducible assumption)))), ?_⟩
    ·(repeat (first | with_reducible exact Below.refl _ _ | with_reducible refine bel_alloc ?_ _ | with_reducible refine Below.drew ?_ | (refine Below.setCell ?_ (by first | (simp; done) | (simp; omega) | omega) _) | with_reducible refine bel_up ?_ (by with_reducible assumption)))
  case rest =>
   obtain ⟨lv66, lv67, hbz5⟩ := hcut
   obtain ⟨wz5, hwz5⟩ : ∃ W_, W_ = wc := ⟨_, rfl⟩
   subst hwz5
   clear HSS65
   have c68 := c57.up hbz5
   have c69 := c58.up hbz5
   have hA70 := bel_up hA59 hbz5
   have hA71 := bel_up hA60 hbz5
   have hB72 : Below w.heap.size w wz5 := bel_up hB61 hbz5
   clear c57 c58 hA59 hA60
   have PV73 := Lib.hid lv66
   clear lv66
   have PV75 := Lib.hid lv67
   clear lv67
   have K77 := Lib.hid (fun W va vb (ha : PV W va H) (hb : PV W vb X) => HPW.out ▸ hsum_any va vb H X W ha hb HSHX.out HSXX.out HMH1.out HNXX.out (by decide))
   have uc68 := c68; have uc69 := c69
   simp only [At, Own, Nat.reduceAdd, and_true] at uc68 uc69
   go_wp2_with (fail)
   refine calls_named ?_
   intro W6 hW6
   have hL6 : Below wz5.heap.size wz5 W6 := by
    rw [hW6]
    exact bB
   have c78 := c68.up hL6
   have c79 := c69.up hL6
   have hA80 := bel_up hA70 hL6
   have hA81 := bel_up hA71 hL6
   have hA82 := hL6
   have hB83 : Below w.heap.size w W6 := by
    rw [hW6]
    exact bB
   clear hW6 hL6 uc68 uc69 c68 c69 hA70 hA71
   with_reducible refine (K77.out _ _ _ (HPN.out.up hA80) (PV73.out.up hA82)).mono ?_
   rintro e w6 ⟨v6, rfl, hv6, hb6⟩
   have c84 := c78.up hb6
   have c85 := c79.up hb6
   have hA86 := bel_up hA80 hb6
   have hA87 := bel_up hA81 hb6
   have hA88 := bel_up hA82 hb6
   have hB89 : Below w.heap.size w w6 := bel_up hB83 hb6
   clear c78 c79 hA80 hA81 hA82
   have PW6 := Lib.hid hv6
   clear hv6
   have K90 := Lib.hid (fun W va vb (ha : PV W va P) (hb : PV W vb P) => same_true va vb P W ha hb HQP.out)
   have uc84 := c84; have uc85 := c85
   simp only [At, Own, Nat.reduceAdd, and_true] at uc84 uc85
   go_wp2_with (fail)
   refine calls_named ?_
   intro W7 hW7
   have hL7 : Below w6.heap.size w6 W7 := by
    rw [hW7]
    exact bB
   have c91 := c84.up hL7
   have c92 := c85.up hL7
   have hA93 := bel_up hA86 hL7
   have hA94 := bel_up hA87 hL7
   have hA95 := bel_up hA88 hL7
   have hA96 := hL7
   have hB97 : Below w.heap.size w W7 := by
    rw [hW7]
    exact bB
   clear hW7 hL7 uc84 uc85 c84 c85 hA86 hA87 hA88
   with_reducible refine (K90.out _ _ _ (PV31.out.up hA94) (PW6.out.up hA96)).mono ?_
   rintro e w7 ⟨rfl, hb7⟩
   have c98 := c91.up hb7
   have c99 := c92.up hb7
   have hA100 := bel_up hA93 hb7
   have hA101 := bel_up hA94 hb7
   have hA102 := bel_up hA95 hb7
   have hA103 := bel_up hA96 hb7
   have hB104 : Below w.heap.size w w7 := bel_up hB97 hb7
   clear c91 c92 hA93 hA94 hA95 hA96
   have K105 := Lib.hid (fun W va vb (ha : PV W va H) (hb : PV W vb Y) => HQW.out ▸ hsum_any va vb H Y W ha hb HSHY.out HSXY.out HMH1.out HNXY.out (by decide))
   have uc98 := c98; have uc99 := c99
   simp only [At, Own, Nat.reduceAdd, and_true] at uc98 uc99
   go_wp2_with (fail)
   refine calls_named ?_
   intro W8 hW8
   have hL8 : Below w7.heap.size w7 W8 := by
    rw [hW8]
    exact bB
   have c106 := c98.up hL8
   have c107 := c99.up hL8
   have hA108 := bel_up hA100 hL8
   have hA109 := bel_up hA101 hL8
   have hA110 := bel_up hA102 hL8
   have hA111 := bel_up hA103 hL8
   have hB112 : Below w.heap.size w W8 := by
    rw [hW8]
    exact bB
   clear hW8 hL8 uc98 uc99 c98 c99 hA100 hA101 hA102 hA103
   with_reducible refine (K105.out _ _ _ (HPN.out.up hA108) (PV75.out.up hA110)).mono ?_
   rintro e w8 ⟨v8, rfl, hv8, hb8⟩
   have c113 := c106.up hb8
   have c114 := c107.up hb8
   have hA115 := bel_up hA108 hb8
   have hA116 := bel_up hA109 hb8
   have hA117 := bel_up hA110 hb8
   have hA118 := bel_up hA111 hb8
   have hB119 : Below w.heap.size w w8 := bel_up hB112 hb8
   clear c106 c107 hA108 hA109 hA110 hA111
   have PW8 := Lib.hid hv8
   clear hv8
   have K120 := Lib.hid (fun W va vb (ha : PV W va Q) (hb : PV W vb Q) => same_true va vb Q W ha hb HQQ.out)
   have uc113 := c113; have uc114 := c114
   simp only [At, Own, Nat.reduceAdd, and_true] at uc113 uc114
   go_wp2_with (fail)
   refine calls_named ?_
   intro W9 hW9
   have hL9 : Below w8.heap.size w8 W9 := by
    rw [hW9]
    exact bB
   have c121 := c113.up hL9
   have c122 := c114.up hL9
   have hA123 := bel_up hA115 hL9
   have hA124 := bel_up hA116 hL9
   have hA125 := bel_up hA117 hL9
   have hA126 := bel_up hA118 hL9
   have hA127 := hL9
   have hB128 : Below w.heap.size w W9 := by
    rw [hW9]
    exact bB
   clear hW9 hL9 uc113 uc114 c113 c114 hA115 hA116 hA117 hA118
   with_reducible refine (K120.out _ _ _ (PV33.out.up hA124) (PW8.out.up hA127)).mono ?_
   rintro e w9 ⟨rfl, hb9⟩
   have c129 := c121.up hb9
   have c130 := c122.up hb9
   have hA131 := bel_up hA123 hb9
   have hA132 := bel_up hA124 hb9
   have hA133 := bel_up hA125 hb9
   have hA134 := bel_up hA126 hb9
   have hA135 := bel_up hA127 hb9
   have hB136 : Below w.heap.size w w9 := bel_up hB128 hb9
   clear c121 c122 hA123 hA124 hA125 hA126 hA127
   obtain ⟨AH, cH, hvH⟩ : ∃ A c, v1 = .slice A NH c := by
    obtain ⟨A, c, h, _⟩ := ((HPN.out.up hA131)).open_
    exact ⟨A, c, by rw [h, HLH.out]⟩
   subst hvH
   have uc129 := c129; have uc130 := c130
   simp only [At, Own, Nat.reduceAdd, and_true] at uc129 uc130
   have K137 := Lib.hid (fun W => point_any s W hsp)
   go_wp2_with (fail)
   refine calls_named ?_
   intro W10 hW10
   have hL10 : Below w9.heap.size w9 W10 := by
    rw [hW10]
    exact bB
   have c138 := c129.up hL10
   have c139 := c130.up hL10
   have hA140 := bel_up hA131 hL10
   have hA141 := bel_up hA132 hL10
   have hA142 := bel_up hA133 hL10
   have hA143 := bel_up hA134 hL10
   have hA144 := bel_up hA135 hL10
   have hB145 : Below w.heap.size w W10 := by
    rw [hW10]
    exact bB
   clear hW10 hL10 uc129 uc130 c129 c130 hA131 hA132 hA133 hA134 hA135
   with_reducible refine (K137.out _).mono ?_
   rintro e w10 ⟨rfl, hb10⟩
   have c146 := c138.up hb10
   have c147 := c139.up hb10
   have hA148 := bel_up hA140 hb10
   have hA149 := bel_up hA141 hb10
   have hA150 := bel_up hA142 hb10
   have hA151 := bel_up hA143 hb10
   have hA152 := bel_up hA144 hb10
   have hB153 : Below w.heap.size w w10 := bel_up hB145 hb10
   clear c138 c139 hA140 hA141 hA142 hA143 hA144
   have an154 : WN.heap.size ≤ w10.heap.size := by have := hA148.size; omega
   have an155 : wz2.heap.size ≤ w10.heap.size := by have := hA149.size; omega
   have an156 : wz5.heap.size ≤ w10.heap.size := by have := hA150.size; omega
   have an157 : w6.heap.size ≤ w10.heap.size := by have := hA151.size; omega
   have an158 : w8.heap.size ≤ w10.heap.size := by have := hA152.size; omega
   have ne159_ : w.heap.size < w10.heap.size := by have := c146.lt; omega
   have ne159 := Nat.ne_of_lt ne159_
   have ne159' := ne159.symm
   have ne160_ : w.heap.size + 1 < w10.heap.size := by have := c147.lt; omega
   have ne160 := Nat.ne_of_lt ne160_
   have ne160' := ne160.symm
   have uc146 := c146; have uc147 := c147
   simp only [At, Own, Nat.reduceAdd, and_true] at uc146 uc147
   have K161 := Lib.hid (fun va W (ha : PV W va H) => HNR.out ▸ near_any va H (ptOf s) W ha HSH.out HNH.out (ptOf_sz hsp) HH0.out)
   have K162 := Lib.hid (fun W => rmul_any r r W (HRZ.out.mono (by omega)) (HRZ.out.mono (by omega)))
   have K163 := Lib.hid (fun W => HTN.out ▸ rcompare_any nr (r * r) W HNZ.out ((HRZ.out.mul HRZ.out).mono (by decide)))
   go_wp2_with fail
   refine wp_named ?_
   intro W11 hW11
   have hL11 : Below w10.heap.size w10 W11 := by
    rw [hW11]
    exact bB
   have c164 := c146.up hL11
   have c165 := c147.up hL11
   have c166 : Own W11 (w10.heap.size) 0 [.bool (ng (((ptOf s).1).num)), .string (mg (((ptOf s).1).num).natAbs), .bool false, .string (mg (dn ((ptOf s).1))), .bool (ng (((ptOf s).2).num)), .string (mg (((ptOf s).2).num).natAbs), .bool false, .string (mg (dn ((ptOf s).2)))] := by
    rw [hW11]
    first
    | (repeat (first | (with_reducible refine own_new (l := [.bool (ng (((ptOf s).1).num)), .string (mg (((ptOf s).1).num).natAbs), .bool false, .string (mg (dn ((ptOf s).1))), .bool (ng (((ptOf s).2).num)), .string (mg (((ptOf s).2).num).natAbs), .bool false, .string (mg (dn ((ptOf s).2)))]) ?_; (simp; done)) | with_reducible refine Own.alloc ?_ _ | refine Own.far _ _ (by first | (simp; done) | (simp [*]; done) | (simp; omega)) ?_)); done
    | simp [Own, go_sem, uc146, uc147, ne159, ne159', ne159_, ne160, ne160', ne160_]
   have hA167 := bel_up hA148 hL11
   have hA168 := bel_up hA149 hL11
   have hA169 := bel_up hA150 hL11
   have hA170 := bel_up hA151 hL11
   have hA171 := bel_up hA152 hL11
   have hB172 : Below w.heap.size w W11 := by
    rw [hW11]
    exact bB
   clear hW11 hL11 uc146 uc147 c146 c147 hA148 hA149 hA150 hA151 hA152
   have dc164 := fun p : Bel W11 => c164.bel p; have dc165 := fun p : Bel W11 => c165.bel p; have dc166 := fun p : Bel W11 => c166.bel p
   simp only [At, Own, Nat.reduceAdd, and_true] at dc164 dc165 dc166
   refine wp_region_tail 10 (by kernel_rfl) (by kernel_rfl) ?_
   simp only [List.take_succ_cons, List.take_zero, List.drop_succ_cons, List.drop_zero]
   repeat (go_big_quiet_step (first | (go_at_call 46; with_reducible exact Calls.bel (K161.out _ _ (PV.up ((HPN.out.up hA167)) (Bel.h _)))) | (go_at_call 38; with_reducible exact Calls.bel (K20.out _)) | (go_at_call 41; with_reducible exact Calls.bel (K162.out _)) | (go_at_call 31; with_reducible exact Calls.bel (K163.out _))))
   refine wpQuiet_nil ?_
   intro w11 hb11
   have c173 := c164.up hb11
   have c174 := c165.up hb11
   have c175 := c166.up hb11
   have hA176 := bel_up hA167 hb11
   have hA177 := bel_up hA168 hb11
   have hA178 := bel_up hA169 hb11
   have hA179 := bel_up hA170 hb11
   have hA180 := bel_up hA171 hb11
   have hB181 : Below w.heap.size w w11 := bel_up hB172 hb11
   clear dc164 dc165 dc166 c164 c165 c166 hA167 hA168 hA169 hA170 hA171
   have uc173 := c173; have uc174 := c174; have uc175 := c175
   simp only [At, Own, Nat.reduceAdd, and_true] at uc173 uc174 uc175
   by_cases hc201 : (tP : Int) < 0
   ·skip
    have hc201_ : ¬ ((0 : Int) ≤ tP) := by omega
    by_cases hn0 : (tn : Int) ≤ 0
    ·skip
     have hn2 : ¬ (0 : Int) < tn := by omega
     have hq1 : (0 : Int) ≤ tQ := HLAW.out.2 hn0
     have hq2 : ¬ (tQ : Int) < 0 := by omega
     have K202 := Lib.hid (fun W va (ha : PV W va P) => HTP.out ▸ cloc_any va P (ptOf s) W ha HZP.out HQP.out (by decide : 81 ≤ 100000) ((ptOf_sz hsp).mono (by decide)))
     go_wp2_with (fail)
     refine calls_named ?_
     intro W13 hW13
     have hL13 : Below w11.heap.size w11 W13 := by
      rw [hW13]
      exact bB
     have c203 := c173.up hL13
     have c204 := c174.up hL13
     have c205 := c175.up hL13
     have hA206 := bel_up hA176 hL13
     have hA207 := bel_up hA177 hL13
     have hA208 := bel_up hA178 hL13
     have hA209 := bel_up hA179 hL13
     have hA210 := bel_up hA180 hL13
     have hB211 : Below w.heap.size w W13 := by
      rw [hW13]
      exact bB
     clear hW13 hL13 uc173 uc174 uc175 c173 c174 c175 hA176 hA177 hA178 hA179 hA180
     with_reducible refine (K202.out _ _ (PV31.out.up hA207)).mono ?_
     rintro e w13 ⟨rfl, hb13⟩
     have c212 := c203.up hb13
     have c213 := c204.up hb13
     have c214 := c205.up hb13
     have hA215 := bel_up hA206 hb13
     have hA216 := bel_up hA207 hb13
     have hA217 := bel_up hA208 hb13
     have hA218 := bel_up hA209 hb13
     have hA219 := bel_up hA210 hb13
     have hB220 : Below w.heap.size w w13 := bel_up hB211 hb13
     clear c203 c204 c205 hA206 hA207 hA208 hA209 hA210
     have uc212 := c212; have uc213 := c213; have uc214 := c214
     simp only [At, Own, Nat.reduceAdd, and_true] at uc212 uc213 uc214
     have K221 := Lib.hid (fun W va (ha : PV W va Q) => HTQ.out ▸ cloc_any va Q (ptOf s) W ha HZQ.out HQQ.out (by decide : 81 ≤ 100000) ((ptOf_sz hsp).mono (by decide)))
     go_wp2_with (fail)
     refine calls_named ?_
     intro W14 hW14
     have hL14 : Below w13.heap.size w13 W14 := by
      rw [hW14]
      exact bB
     have c222 := c212.up hL14
     have c223 := c213.up hL14
     have c224 := c214.up hL14
     have hA225 := bel_up hA215 hL14
     have hA226 := bel_up hA216 hL14
     have hA227 := bel_up hA217 hL14
     have hA228 := bel_up hA218 hL14
     have hA229 := bel_up hA219 hL14
     have hB230 : Below w.heap.size w W14 := by
      rw [hW14]
      exact bB
     clear hW14 hL14 uc212 uc213 uc214 c212 c213 c214 hA215 hA216 hA217 hA218 hA219
     with_reducible refine (K221.out _ _ (PV33.out.up hA226)).mono ?_
     rintro e w14 ⟨rfl, hb14⟩
     have c231 := c222.up hb14
     have c232 := c223.up hb14
     have c233 := c224.up hb14
     have hA234 := bel_up hA225 hb14
     have hA235 := bel_up hA226 hb14
     have hA236 := bel_up hA227 hb14
     have hA237 := bel_up hA228 hb14
     have hA238 := bel_up hA229 hb14
     have hB239 : Below w.heap.size w w14 := bel_up hB230 hb14
     clear c222 c223 c224 hA225 hA226 hA227 hA228 hA229
     have uc231 := c231; have uc232 := c232; have uc233 := c233
     simp only [At, Own, Nat.reduceAdd, and_true] at uc231 uc232 uc233
     go_wp2
     go_ret
     refine ⟨(by first | rfl | (simp; done) | (simp [*]; done) | (simp; omega) | (exfalso; omega)), ?_⟩
     exact bB
    ·skip
     have hn2 : (0 : Int) < tn := by omega
     have hp1 : (tP : Int) < 0 := by have := HLAW.out.1; omega
     have hp2 : ¬ (0 : Int) ≤ tP := by omega
     have K240 := Lib.hid (fun W va (ha : PV W va P) => HTP.out ▸ cloc_any va P (ptOf s) W ha HZP.out HQP.out (by decide : 81 ≤ 100000) ((ptOf_sz hsp).mono (by decide)))
     go_wp2_with (fail)
     refine calls_named ?_
     intro W15 hW15
     have hL15 : Below w11.heap.size w11 W15 := by
      rw [hW15]
      exact bB
     have c241 := c173.up hL15
     have c242 := c174.up hL15
     have c243 := c175.up hL15
     have hA244 := bel_up hA176 hL15
     have hA245 := bel_up hA177 hL15
     have hA246 := bel_up hA178 hL15
     have hA247 := bel_up hA179 hL15
     have hA248 := bel_up hA180 hL15
     have hB249 : Below w.heap.size w W15 := by
      rw [hW15]
      exact bB
     clear hW15 hL15 uc173 uc174 uc175 c173 c174 c175 hA176 hA177 hA178 hA179 hA180
     with_reducible refine (K240.out _ _ (PV31.out.up hA245)).mono ?_
     rintro e w15 ⟨rfl, hb15⟩
     have c250 := c241.up hb15
     have c251 := c242.up hb15
     have c252 := c243.up hb15
     have hA253 := bel_up hA244 hb15
     have hA254 := bel_up hA245 hb15
     have hA255 := bel_up hA246 hb15
     have hA256 := bel_up hA247 hb15
     have hA257 := bel_up hA248 hb15
     have hB258 : Below w.heap.size w w15 := bel_up hB249 hb15
     clear c241 c242 c243 hA244 hA245 hA246 hA247 hA248
     have uc250 := c250; have uc251 := c251; have uc252 := c252
     simp only [At, Own, Nat.reduceAdd, and_true] at uc250 uc251 uc252
     go_wp2
     go_ret
     refine ⟨(by first | rfl | (simp; done) | (simp [*]; done) | (simp; omega) | (exfalso; omega)), ?_⟩
     exact bB
   ·skip
    have hc201_ : ((0 : Int) ≤ tP) := by omega
    by_cases hn0 : (tn : Int) ≤ 0
    ·skip
     have hn2 : ¬ (0 : Int) < tn := by omega
     have hq1 : (0 : Int) ≤ tQ := HLAW.out.2 hn0
     have hq2 : ¬ (tQ : Int) < 0 := by omega
     have K259 := Lib.hid (fun W va (ha : PV W va P) => HTP.out ▸ cloc_any va P (ptOf s) W ha HZP.out HQP.out (by decide : 81 ≤ 100000) ((ptOf_sz hsp).mono (by decide)))
     go_wp2_with (fail)
     refine calls_named ?_
     intro W16 hW16
     have hL16 : Below w11.heap.size w11 W16 := by
      rw [hW16]
      exact bB
     have c260 := c173.up hL16
     have c261 := c174.up hL16
     have c262 := c175.up hL16
     have hA263 := bel_up hA176 hL16
     have hA264 := bel_up hA177 hL16
     have hA265 := bel_up hA178 hL16
     have hA266 := bel_up hA179 hL16
     have hA267 := bel_up hA180 hL16
     have hB268 : Below w.heap.size w W16 := by
      rw [hW16]
      exact bB
     clear hW16 hL16 uc173 uc174 uc175 c173 c174 c175 hA176 hA177 hA178 hA179 hA180
     with_reducible refine (K259.out _ _ (PV31.out.up hA264)).mono ?_
     rintro e w16 ⟨rfl, hb16⟩
     have c269 := c260.up hb16
     have c270 := c261.up hb16
     have c271 := c262.up hb16
     have hA272 := bel_up hA263 hb16
     have hA273 := bel_up hA264 hb16
     have hA274 := bel_up hA265 hb16
     have hA275 := bel_up hA266 hb16
     have hA276 := bel_up hA267 hb16
     have hB277 : Below w.heap.size w w16 := bel_up hB268 hb16
     clear c260 c261 c262 hA263 hA264 hA265 hA266 hA267
     have uc269 := c269; have uc270 := c270; have uc271 := c271
     simp only [At, Own, Nat.reduceAdd, and_true] at uc269 uc270 uc271
     have K278 := Lib.hid (fun W va (ha : PV W va Q) => HTQ.out ▸ cloc_any va Q (ptOf s) W ha HZQ.out HQQ.out (by decide : 81 ≤ 100000) ((ptOf_sz hsp).mono (by decide)))
     go_wp2_with (fail)
     refine calls_named ?_
     intro W17 hW17
     have hL17 : Below w16.heap.size w16 W17 := by
      rw [hW17]
      exact bB
     have c279 := c269.up hL17
     have c280 := c270.up hL17
     have c281 := c271.up hL17
     have hA282 := bel_up hA272 hL17
     have hA283 := bel_up hA273 hL17
     have hA284 := bel_up hA274 hL17
     have hA285 := bel_up hA275 hL17
     have hA286 := bel_up hA276 hL17
     have hB287 : Below w.heap.size w W17 := by
      rw [hW17]
      exact bB
     clear hW17 hL17 uc269 uc270 uc271 c269 c270 c271 hA272 hA273 hA274 hA275 hA276
     with_reducible refine (K278.out _ _ (PV33.out.up hA283)).mono ?_
     rintro e w17 ⟨rfl, hb17⟩
     have c288 := c279.up hb17
     have c289 := c280.up hb17
     have c290 := c281.up hb17
     have hA291 := bel_up hA282 hb17
     have hA292 := bel_up hA283 hb17
     have hA293 := bel_up hA284 hb17
     have hA294 := bel_up hA285 hb17
     have hA295 := bel_up hA286 hb17
     have hB296 : Below w.heap.size w w17 := bel_up hB287 hb17
     clear c279 c280 c281 hA282 hA283 hA284 hA285 hA286
     have uc288 := c288; have uc289 := c289; have uc290 := c290
     simp only [At, Own, Nat.reduceAdd, and_true] at uc288 uc289 uc290
     go_wp2
     go_ret
     refine ⟨(by first | rfl | (simp; done) | (simp [*]; done) | (simp; omega) | (exfalso; omega)), ?_⟩
     exact bB
    ·exfalso
     have := HLAW.out.1
     omega
theorem grows_any (vl : Value) (l : List (Int × Int × Bool)) (a b v : Int) (s : Int × Int × Bool) (w : World) (hl : TV w vl l) (hil : ∀ s ∈ l, In8 s) (hnl : l.length ≤ 9223372036854775807) (h1 : -32768 ≤ a) (h2 : a ≤ 32767) (h3 : 0 ≤ b) (h4 : b ≤ 255) (hsp : In8 s) :
 Calls Tryz.prog 10 #[vl, .agg #[.int .i16 a, .int .u8 b, .int .i64 v], .agg #[.int .i8 s.1, .int .i8 s.2.1, .bool s.2.2]] w fun e w' => e = .returned (.bool true) ∧ Below w.heap.size w w' := by
 obtain ⟨Al, cl, rfl, hcl, hml, hxl⟩ := hl
 have hT : TV w (.slice Al l.length cl) l := ⟨Al, cl, rfl, hcl, hml, hxl⟩
 by_cases hw : a ≤ 0 ∨ v < 1 ∨ 16 < v
 ·exact grows_wrong Al cl l a b v s w hT hil hnl hcl h1 h2 h3 h4 hsp hw
 ·rcases Nat.eq_zero_or_pos l.length with h0 | h0
  ·exact grows_empty Al cl l a b v s w hT hil hnl hcl h1 h2 h3 h4 hsp (by omega) (by omega) (by omega) h0
  ·exact grows_full Al cl l a b v s w hT hil hnl hcl h1 h2 h3 h4 hsp (by omega) (by omega) (by omega) h0
end Go.Proofs.YtdkkjfnpinckjaaGreatDoor
