/-
 Contracts for disks: the reference.
-/
import Derived.Test.YtdkkjfnpinckjaaGreatDoorYDw1
import Derived.Test.YtdkkjfnpinckjaaGreatDoorYMp
import Derived.Test.YtdkkjfnpinckjaaGreatDoorYMl
import Derived.Test.YtdkkjfnpinckjaaGreatDoorYCed
import Derived.Test.YtdkkjfnpinckjaaGreatDoorYReg4
import Derived.Deep.RegionHeld3
import Derived.Deep.DeepCutAuto
set_option maxRecDepth 100000
set_option linter.unusedSimpArgs false
set_option linter.unusedVariables false
namespace Go.Proofs.YtdkkjfnpinckjaaGreatDoor
open Go Go.RowKit

theorem sq_bd {n k : Nat} (hn : n ≤ 16) (hk : k ≤ n) : 0 ≤ (n : Int) * n ∧ (n : Int) * n ≤ 256 ∧ 0 ≤ (k : Int) * k ∧ (k : Int) * k ≤ (n : Int) * n ∧ 0 ≤ 2 * (n : Int) * k ∧ 2 * (n : Int) * k ≤ 512 := by
 have h1 : n * n ≤ 16 * 16 := Nat.mul_le_mul hn hn
 have h2 : k * k ≤ n * n := Nat.mul_le_mul hk hk
 have h3 : n * k ≤ n * n := Nat.mul_le_mul (Nat.le_refl n) hk
 rw [Int.mul_assoc]
 refine ⟨?_, ?_, ?_, ?_, ?_, ?_⟩ <;> simp only [← Int.natCast_mul] <;> omega
theorem prods {n k : Nat} (h1 : 1 ≤ n) (hn : n ≤ 16) (hk : k ≤ n) : (IntKind.i64.wrap ((n : Int) * n) = (n : Int) * n ∧ wrap64 ((n : Int) * n) = (n : Int) * n) ∧ (IntKind.i64.wrap ((k : Int) * k) = (k : Int) * k ∧ wrap64 ((k : Int) * k) = (k : Int) * k) ∧
 (IntKind.i64.wrap ((n : Int) * n - k * k) = (n : Int) * n - k * k ∧ wrap64 ((n : Int) * n - k * k) = (n : Int) * n - k * k) ∧ (IntKind.i64.wrap ((n : Int) * n + k * k) = (n : Int) * n + k * k ∧ wrap64 ((n : Int) * n + k * k) = (n : Int) * n + k * k) ∧
 (IntKind.i64.wrap (2 * (n : Int)) = 2 * (n : Int) ∧ wrap64 (2 * (n : Int)) = 2 * (n : Int)) ∧ (IntKind.i64.wrap (2 * (n : Int) * k) = 2 * (n : Int) * k ∧ wrap64 (2 * (n : Int) * k) = 2 * (n : Int) * k) := by
 obtain ⟨a, b, c, d, e, f⟩ := sq_bd hn hk
 exact ⟨wi64 _ (by omega) (by omega), wi64 _ (by omega) (by omega), wi64 _ (by omega) (by omega), wi64 _ (by omega) (by omega), wi64 _ (by omega) (by omega), wi64 _ (by omega) (by omega)⟩
theorem sq_pos' {n : Nat} (h1 : 1 ≤ n) : 0 < (n : Int) * n := Int.mul_pos (by omega) (by omega)
theorem hof_x (n k : Nat) (w : World) (h1 : 1 ≤ n) (hn : n ≤ 16) (hk : k ≤ n) :
 Calls Tryz.prog 21 #[.int .i64 ((n : Int) * n - k * k), .int .i64 ((n : Int) * n + k * k)] w fun e w' => e = .returned (qv (Pl.tV (Pl.tri n k)).1) ∧ Below w.heap.size w w' := by
 have e : (Pl.tV (Pl.tri n k)).1 = Rat.divInt ((n : Int) * n - k * k) ((n : Int) * n + k * k) := (Rat.divInt_eq_div _ _).symm
 obtain ⟨a, b, c, d, e', f⟩ := sq_bd hn hk
 have g := sq_pos' h1
 rw [e]; exact rOf_any _ _ w (by omega) (by omega) (by omega) (by omega) (by omega)
theorem hof_y (n k : Nat) (w : World) (h1 : 1 ≤ n) (hn : n ≤ 16) (hk : k ≤ n) :
 Calls Tryz.prog 21 #[.int .i64 (2 * (n : Int) * k), .int .i64 ((n : Int) * n + k * k)] w fun e w' => e = .returned (qv (Pl.tV (Pl.tri n k)).2) ∧ Below w.heap.size w w' := by
 have e : (Pl.tV (Pl.tri n k)).2 = Rat.divInt (2 * (n : Int) * k) ((n : Int) * n + k * k) := (Rat.divInt_eq_div _ _).symm
 obtain ⟨a, b, c, d, e', f⟩ := sq_bd hn hk
 have g := sq_pos' h1
 rw [e]; exact rOf_any _ _ w (by omega) (by omega) (by omega) (by omega) (by omega)
theorem div_sz2 {a c : Int} (h1 : a.natAbs ≤ 512) (h2 : 0 < c) (h3 : c ≤ 512) : Pl.Sz 2 ((a : Rat) / (c : Rat)) := by
 rw [← Rat.divInt_eq_div]
 obtain ⟨k, rfl⟩ : ∃ k : Nat, c = (k : Int) := ⟨c.toNat, by omega⟩
 rw [Rat.divInt_ofNat]
 exact Pl.sz_mkRat (by omega) ((Pl.L_le_iff _ _).2 (by omega)) ((Pl.L_le_iff _ _).2 (by omega))
theorem tV_sz {n k : Nat} (h1 : 1 ≤ n) (hn : n ≤ 16) (hk : k ≤ n) : Pl.SzP 2 (Pl.tV (Pl.tri n k)) := by
 obtain ⟨a, b, c, d, e', f⟩ := sq_bd hn hk
 have g := sq_pos' h1
 exact ⟨div_sz2 (by show ((n : Int) * n - k * k).natAbs ≤ 512; omega) (by show 0 < (n : Int) * n + k * k; omega) (by show (n : Int) * n + k * k ≤ 512; omega),
  div_sz2 (by show (2 * (n : Int) * k).natAbs ≤ 512; omega) (by show 0 < (n : Int) * n + k * k; omega) (by show (n : Int) * n + k * k ≤ 512; omega)⟩
theorem rot_sz {S : Nat} {p : Rat × Rat} (h : Pl.SzP S p) : ∀ q, Pl.SzP S (Pl.rotN q p)
 | 0 => h
 | q + 1 => ⟨(rot_sz h q).2.neg, (rot_sz h q).1⟩
theorem dp_at {n : Nat} {r : Rat} {q k d : Nat} (hk : k < n) (hd : d = q * n + k) : Pl.dp n r d = Pl.rotN q (Pl.scaleP (Pl.tV (Pl.tri n k)) r) := by
 unfold Pl.dp
 rw [hd, Nat.add_comm, Nat.add_mul_div_right _ _ (by omega), Nat.add_mul_mod_self_right, Nat.div_eq_of_lt hk, Nat.mod_eq_of_lt hk, Nat.zero_add]
theorem map_snoc {f : Nat → Rat × Rat} {d : Nat} {L : List (Rat × Rat)} {x : Rat × Rat} (hL : L = (List.range d).map f) (hx : f d = x) : L ++ [x] = (List.range (d + 1)).map f := by
 rw [List.range_succ, List.map_append, hL, ← hx]; rfl
theorem map_at {f : Nat → Rat × Rat} {d i : Nat} {L : List (Rat × Rat)} (hL : L = (List.range d).map f) (hi : i < d) : L[i]? = some (f i) := by
 rw [hL, List.getElem?_map, List.getElem?_range hi]; rfl
theorem dp_sz {n : Nat} {r : Rat} (h1 : 1 ≤ n) (hn : n ≤ 16) (hr : Pl.Sz 2 r) (i : Nat) : Pl.SzP 4 (Pl.dp n r i) :=
 rot_sz ((tV_sz h1 hn (Nat.le_of_lt (Nat.mod_lt _ (by omega)))).scale hr) _
theorem os_ne {n i : Nat} {r : Rat} (h1 : 1 ≤ n) (h2 : n ≤ 16) (hr : 0 < r) (hi : i < 4 * n) : r * r + Pl.dotP (Pl.dp n r i) (Pl.dp n r (Pl.nx n i)) ≠ 0 := by
 have h0 := Pl.uD_nonneg (Pl.f_pos h1 h2 hi) (Pl.f_pos h1 h2 (Pl.nx_lt (i := i) h1)) (Pl.okN_spec (Pl.chk_one h1 h2 hi)).2.2.1
 rw [Pl.dp_dot]
 have hrr : 0 < r * r := Rat.mul_pos hr hr
 have := Rat.mul_pos hrr (by grind : 0 < 1 + Pl.uD (Pl.trip n i) (Pl.trip n (Pl.nx n i)))
 grind
theorem os_sz {n : Nat} {r : Rat} (h1 : 1 ≤ n) (hn : n ≤ 16) (hr : Pl.Sz 2 r) (i : Nat) : Pl.SzP 40 (Pl.os n r i) :=
 ((((dp_sz h1 hn hr i).add (dp_sz h1 hn hr (Pl.nx n i))).scale ((hr.mul hr).div ((hr.mul hr).add ((dp_sz h1 hn hr i).dot (dp_sz h1 hn hr (Pl.nx n i))))))).mono (by omega)
theorem map_sz {S : Nat} {f : Nat → Rat × Rat} (h : ∀ i, Pl.SzP S (f i)) (d : Nat) : ∀ q ∈ (List.range d).map f, Pl.SzP S q := fun q hq => by
 obtain ⟨i, _, rfl⟩ := List.mem_map.1 hq; exact h i
theorem ringD_eq {n d : Nat} {r : Rat} {L : List (Rat × Rat)} (hL : L = (List.range d).map (Pl.dp n r)) (hd : d = 4 * n) : L = Pl.ringD n r := by rw [hL, hd]; rfl
theorem outsD_eq {n d : Nat} {r : Rat} {L : List (Rat × Rat)} (hL : L = (List.range d).map (Pl.os n r)) (hd : d = 4 * n) : L = Pl.outsD n r := by rw [hL, hd]; rfl

set_option maxHeartbeats 4000000 in
theorem hdisk_any (n : Nat) (r : Rat) (w : World) (h1 : 1 ≤ n) (hn : n ≤ 16) (hr0 : 0 < r) (hr : Pl.Sz 2 r) :
 Calls Tryz.prog 40 #[qv r, .int .i64 n] w fun e w' => ∃ v1 v2, e = .returned (.tuple #[v1, v2]) ∧ PV w' v1 (Pl.wrap (Pl.ringD n r)) ∧ PV w' v2 (Pl.wrap (Pl.outsD n r)) ∧ Below w.heap.size w w' := by
 have HZHRD := Lib.hid (map_sz (dp_sz h1 hn hr) (4 * n))
 have HZHOD := Lib.hid (map_sz (os_sz h1 hn hr) (4 * n))
 have HNHRD : Hid ((Pl.ringD n r).length ≤ 1000000) := Lib.hid (by simp [Pl.ringD]; omega)
 have HNHOD : Hid ((Pl.outsD n r).length ≤ 1000000) := Lib.hid (by simp [Pl.outsD]; omega)
 go_enter Tryz.func40, Tryz.ntmps40
 go_wp2_with fail
 refine wp_named ?_
 intro W1 hW1
 have hL1 : Below w.heap.size w W1 := by
  rw [hW1]
  exact bB
 have c1 : Own W1 (w.heap.size) 0 [.bool (ng r.num), .string (mg r.num.natAbs), .bool false, .string (mg (dn r))] := by
  rw [hW1]
  first
  | (repeat (first | (with_reducible refine own_new (l := [.bool (ng r.num), .string (mg r.num.natAbs), .bool false, .string (mg (dn r))]) ?_; (simp; done)) | with_reducible refine Own.alloc ?_ _ | refine Own.far _ _ (by first | (simp; done) | (simp [*]; done) | (simp; omega)) ?_)); done
  | simp [Own, go_sem]
 have hB2 : Below w.heap.size w W1 := by
  rw [hW1]
  exact bB
 clear hW1 hL1
 go_loopw [6, 7] (fun s6 s7 wr => ∃ (q : Nat) (c : Nat) (L : List (Rat × Rat)), s7 = .int .i64 q ∧ Own wr (w.heap.size) 0 [.bool (ng r.num), .string (mg r.num.natAbs), .bool false, .string (mg (dn r))] ∧ wr.ownsRow w.heap.size 35 8 s6 c (pts L) ∧ Value.ownBlock s6 ≠ some (w.heap.size) ∧ Below w.heap.size w wr ∧ q ≤ 4 ∧ c ≤ 16 * q ∧ Hid (c = q * n) ∧ Hid (L = (List.range c).map (Pl.dp n r))) (fun _ s7 _ => 4 - (intOf s7).toNat)
 case atStart => exact ⟨0, 0, ([]), rfl, c1, World.ownsRow_nil _ _ _ _, by simp [Value.ownBlock], hB2, (by omega), (by omega), Lib.hid (Nat.zero_mul n).symm, Lib.hid rfl⟩
 case round =>
  clear c1 hB2
  obtain ⟨q, c, L, rfl, b3, o4, f5, hB6, hq, hcq, HC, HE⟩ := hrel
  obtain ⟨wr7, hwr7⟩ : ∃ W_, W_ = wr := ⟨_, rfl⟩
  subst hwr7
  have O8 := Lib.hid o4
  clear o4
  by_cases hltq : q < 4
  ·skip
   have i1q : (q : Int) < 4 := by omega
   go_wp2_with fail
   go_loopw [6, 8] (fun s6 s8 wr => ∃ (k : Nat) (d : Nat) (M : List (Rat × Rat)), s8 = .int .i64 k ∧ Own wr (w.heap.size) 0 [.bool (ng r.num), .string (mg r.num.natAbs), .bool false, .string (mg (dn r))] ∧ wr.ownsRow w.heap.size 35 8 s6 d (pts M) ∧ Value.ownBlock s6 ≠ some (w.heap.size) ∧ Below w.heap.size w wr ∧ k ≤ n ∧ Hid (d = c + k) ∧ d ≤ 16 * q + k ∧ Hid (M = (List.range d).map (Pl.dp n r))) (fun _ s8 _ => n - (intOf s8).toNat)
   case atStart => exact ⟨0, c, L, rfl, b3, O8.out, f5, hB6, (by omega), Lib.hid rfl, (by omega), HE⟩
   case round =>
    clear b3 hB6 O8
    obtain ⟨k, d, M, rfl, b9, o10, f11, hB12, hk, HD, hdq, HM⟩ := hrel
    obtain ⟨wr13, hwr13⟩ : ∃ W_, W_ = wr := ⟨_, rfl⟩
    subst hwr13
    have O14 := Lib.hid o10
    clear o10
    by_cases hltk : k < n
    ·skip
     have i1k : (k : Int) < n := by omega
     obtain ⟨⟨p1, q1⟩, ⟨p2, q2⟩, ⟨p3, q3⟩, ⟨p4, q4⟩, ⟨p5, q5⟩, ⟨p6, q6⟩⟩ := prods (k := k) h1 hn (by omega)
     have K15 := Lib.hid (fun W => hof_x n k W h1 hn (by omega))
     have ub9 := b9
     simp only [At, Own, Nat.reduceAdd, and_true] at ub9
     go_wp2_with (fail)
     refine calls_named ?_
     intro W2 hW2
     have hL2 : Below wr13.heap.size wr13 W2 := by
      rw [hW2]
      exact bB
     have c16 := b9.up hL2
     have O17 := Lib.hid (owns_up O14.out hL2)
     have hB18 : Below w.heap.size w W2 := by
      rw [hW2]
      exact bB
     clear hW2 hL2 ub9 b9
     with_reducible refine (K15.out _).mono ?_
     rintro e w2 ⟨rfl, hb2⟩
     have c19 := c16.up hb2
     have O20 := Lib.hid (owns_up O17.out hb2)
     have hB21 : Below w.heap.size w w2 := bel_up hB18 hb2
     clear c16 O17
     have K22 := Lib.hid (fun W => hof_y n k W h1 hn (by omega))
     have uc19 := c19
     simp only [At, Own, Nat.reduceAdd, and_true] at uc19
     go_wp2_with (fail)
     refine calls_named ?_
     intro W3 hW3
     have hL3 : Below w2.heap.size w2 W3 := by
      rw [hW3]
      exact bB
     have c23 := c19.up hL3
     have O24 := Lib.hid (owns_up O20.out hL3)
     have hB25 : Below w.heap.size w W3 := by
      rw [hW3]
      exact bB
     clear hW3 hL3 uc19 c19
     with_reducible refine (K22.out _).mono ?_
     rintro e w3 ⟨rfl, hb3⟩
     have c26 := c23.up hb3
     have O27 := Lib.hid (owns_up O24.out hb3)
     have hB28 : Below w.heap.size w w3 := bel_up hB25 hb3
     clear c23 O24
     have f29 := owns_new0 O27.out
     have ne30_ : w.heap.size < w3.heap.size := by have := c26.lt; omega
     have ne30 := Nat.ne_of_lt ne30_
     have ne30' := ne30.symm
     have uc26 := c26
     simp only [At, Own, Nat.reduceAdd, and_true] at uc26
     have K31 := Lib.hid (fun W => hscale_any (Pl.tV (Pl.tri n k)) r W (tV_sz h1 hn (by omega : k ≤ n)) hr (by omega) (by omega))
     go_wp2_with (fail)
     refine calls_named ?_
     intro W4 hW4
     have hL4 : Below w3.heap.size w3 W4 := by
      rw [hW4]
      exact bB
     have c32 := c26.up hL4
     have c33 : Own W4 (w3.heap.size) 0 [.bool (ng (((Pl.tV (Pl.tri n k)).1).num)), .string (mg (((Pl.tV (Pl.tri n k)).1).num).natAbs), .bool false, .string (mg (dn ((Pl.tV (Pl.tri n k)).1))), .bool (ng (((Pl.tV (Pl.tri n k)).2).num)), .string (mg (((Pl.tV (Pl.tri n k)).2).num).natAbs), .bool false, .string (mg (dn ((Pl.tV (Pl.tri n k)).2)))] := by
      rw [hW4]
      first
      | (repeat (first | (with_reducible refine own_new (l := [.bool (ng (((Pl.tV (Pl.tri n k)).1).num)), .string (mg (((Pl.tV (Pl.tri n k)).1).num).natAbs), .bool false, .string (mg (dn ((Pl.tV (Pl.tri n k)).1))), .bool (ng (((Pl.tV (Pl.tri n k)).2).num)), .string (mg (((Pl.tV (Pl.tri n k)).2).num).natAbs), .bool false, .string (mg (dn ((Pl.tV (Pl.tri n k)).2)))]) ?_; (simp; done)) | with_reducible refine Own.alloc ?_ _ | refine Own.far _ _ (by first | (simp; done) | (simp [*]; done) | (simp; omega)) ?_)); done
      | simp [Own, go_sem, uc26, ne30, ne30', ne30_]
     have O34 := Lib.hid (owns_up O27.out hL4)
     have hB35 : Below w.heap.size w W4 := by
      rw [hW4]
      exact bB
     clear hW4 hL4 uc26 c26
     with_reducible refine (K31.out _).mono ?_
     rintro e w4 ⟨rfl, hb4⟩
     have c36 := c32.up hb4
     have c37 := c33.up hb4
     have O38 := Lib.hid (owns_up O34.out hb4)
     have hB39 : Below w.heap.size w w4 := bel_up hB35 hb4
     clear c32 c33 O34
     have K40 := Lib.hid (fun W => turned_any (Pl.scaleP (Pl.tV (Pl.tri n k)) r) q W (by omega))
     have uc36 := c36; have uc37 := c37
     simp only [At, Own, Nat.reduceAdd, and_true] at uc36 uc37
     go_wp2_with (fail)
     refine calls_named ?_
     intro W5 hW5
     have hL5 : Below w4.heap.size w4 W5 := by
      rw [hW5]
      exact bB
     have c41 := c36.up hL5
     have c42 := c37.up hL5
     have O43 := Lib.hid (owns_up O38.out hL5)
     have hB44 : Below w.heap.size w W5 := by
      rw [hW5]
      exact bB
     clear hW5 hL5 uc36 uc37 c36 c37
     with_reducible refine (K40.out _).mono ?_
     rintro e w5 ⟨rfl, hb5⟩
     have c45 := c41.up hb5
     have c46 := c42.up hb5
     have O47 := Lib.hid (owns_up O43.out hb5)
     have hB48 : Below w.heap.size w w5 := bel_up hB44 hb5
     clear c41 c42 O43
     have uc45 := c45; have uc46 := c46
     simp only [At, Own, Nat.reduceAdd, and_true] at uc45 uc46
     go_wp2_with (at_builtin; refine wpList_appF rfl _ _ _ rfl ti_pt O47.out (hB48).size rfl rfl rfl rfl (pcells_one (Pl.rotN q (Pl.scaleP (Pl.tV (Pl.tri n k)) r))) (by omega) (by decide) ?_)
     intro v49 w_v49 hown_v49 hst_v49
     have O51 : Hid (w_v49.ownsRow w.heap.size 35 8 v49 ((d + 1)) (pts (M ++ [(Pl.rotN q (Pl.scaleP (Pl.tV (Pl.tri n k)) r))]))) := Lib.hid (by rw [pts_snoc]; exact hown_v49)
     have c52 := Own.step hst_v49 f11 c45
     have f53 := hst_v49.far _ c45.lt f11
     have c54 := Own.step hst_v49 f29 c46
     have f55 := hst_v49.far _ c46.lt f29
     have hB56 : Below w.heap.size w w_v49 := hst_v49.below hB48 (hB48).size (fun r hr => (O47.out.lt r hr).1)
     clear uc45 uc46 hown_v49 c45 c46
     have uc52 := c52; have uc54 := c54
     simp only [At, Own, Nat.reduceAdd, and_true] at uc52 uc54
     go_wp2
     go_roundw
     case rel => exact ⟨(k + 1), (d + 1), (M ++ [(Pl.rotN q (Pl.scaleP (Pl.tV (Pl.tri n k)) r))]), (by first | rfl | exact congrArg (Value.int .i64) (by omega) | simp [*]), (by repeat (first | with_reducible exact c52 | refine Own.far _ _ (by simp <;> omega) ?_ | with_reducible refine Own.alloc ?_ _)), (by repeat (first | with_reducible exact O51.out | refine owns_far ?_ _ (by first | exact f53 | exact f55) _ | with_reducible refine World.ownsRow.alloc ?_ _)), f53, (by exact bB), (by omega), Lib.hid (by have := HD.out; omega), (by omega), Lib.hid (map_snoc HM.out (dp_at hltk (by rw [HD.out, HC.out])))⟩
     case measure => simp [intOf] <;> omega
    ·skip
     have hkN : n = k := by omega
     subst hkN
     have ub9 := b9
     simp only [At, Own, Nat.reduceAdd, and_true] at ub9
     go_wp2
     go_roundw
     case rel => exact ⟨(q + 1), d, M, (by first | rfl | exact congrArg (Value.int .i64) (by omega) | simp [*]), (by repeat (first | with_reducible exact b9 | refine Own.far _ _ (by simp <;> omega) ?_ | with_reducible refine Own.alloc ?_ _)), (by repeat (first | with_reducible exact O14.out | refine owns_far ?_ _ (by first | exact f11) _ | with_reducible refine World.ownsRow.alloc ?_ _)), f11, (by exact bB), (by omega), (by omega), Lib.hid (by rw [HD.out, HC.out, Nat.succ_mul]), HM⟩
     case measure => simp [intOf] <;> omega
  ·skip
   have hkN : 4 = q := by omega
   subst hkN
   have HRD : Hid (L = Pl.ringD n r) := Lib.hid (ringD_eq HE.out HC.out)
   have HC4 : Hid (c = 4 * n) := HC
   have hc4 : 4 * n ≤ c := Nat.le_of_eq HC.out.symm
   obtain ⟨g, cap, hv2, hnc, hcm, hgW, hgb⟩ := owns_form O8.out (by omega : 0 < c)
   subst hv2
   have ub3 := b3
   simp only [At, Own, Nat.reduceAdd, and_true] at ub3
   have K57 := Lib.hid (fun W => rmul_any r r W (hr.mono (by omega)) (hr.mono (by omega)))
   go_wp2_with (fail)
   refine calls_named ?_
   intro W6 hW6
   have hL6 : Below wr7.heap.size wr7 W6 := by
    rw [hW6]
    exact bB
   have c58 := b3.up hL6
   have O59 := Lib.hid (owns_up O8.out hL6)
   have hB60 : Below w.heap.size w W6 := by
    rw [hW6]
    exact bB
   clear hW6 hL6 ub3 b3
   with_reducible refine (K57.out _).mono ?_
   rintro e w6 ⟨rfl, hb6⟩
   have c61 := c58.up hb6
   have O62 := Lib.hid (owns_up O59.out hb6)
   have hB63 : Below w.heap.size w w6 := bel_up hB60 hb6
   clear c58 O59
   have f64 := owns_new0 O62.out
   have ne65_ : w.heap.size < w6.heap.size := by have := c61.lt; omega
   have ne65 := Nat.ne_of_lt ne65_
   have ne65' := ne65.symm
   have uc61 := c61
   simp only [At, Own, Nat.reduceAdd, and_true] at uc61
   go_wp2_with fail
   refine wp_named ?_
   intro W7 hW7
   have hL7 : Below w6.heap.size w6 W7 := by
    rw [hW7]
    exact bB
   have c66 : Own W7 (w6.heap.size) 0 [.bool (ng ((r * r).num)), .string (mg ((r * r).num).natAbs), .bool false, .string (mg (dn (r * r)))] := by
    rw [hW7]
    first
    | (repeat (first | (with_reducible refine own_new (l := [.bool (ng ((r * r).num)), .string (mg ((r * r).num).natAbs), .bool false, .string (mg (dn (r * r)))]) ?_; (simp; done)) | with_reducible refine Own.alloc ?_ _ | refine Own.far _ _ (by first | (simp; done) | (simp [*]; done) | (simp; omega)) ?_)); done
    | simp [Own, go_sem, uc61, ne65, ne65', ne65_]
   have O67 := Lib.hid (owns_up O62.out hL7)
   have hB68 : Below w.heap.size w W7 := by
    rw [hW7]
    exact bB
   clear hW7 hL7 uc61
   go_loopw [10, 12] (fun s10 s12 wr => ∃ (i : Nat) (M : List (Rat × Rat)), s12 = .int .i64 i ∧ Own wr (w6.heap.size) 0 [.bool (ng ((r * r).num)), .string (mg ((r * r).num).natAbs), .bool false, .string (mg (dn (r * r)))] ∧ wr.ownsRow w.heap.size 35 8 s10 i (pts M) ∧ Value.ownBlock s10 ≠ some (w6.heap.size) ∧ wr.ownsRow w.heap.size 35 8 (.slice (some ⟨g, 0, none⟩) c cap) c (pts L) ∧ FarR (.slice (some ⟨g, 0, none⟩) c cap) s10 ∧ Below w.heap.size w wr ∧ i ≤ c ∧ Hid (M = (List.range i).map (Pl.os n r))) (fun _ s12 _ => c - (intOf s12).toNat)
   case atStart => exact ⟨0, ([]), rfl, c66, World.ownsRow_nil _ _ _ _, by simp [Value.ownBlock], O67.out, (fun r_ _ h_ => by cases h_), hB68, (by omega), Lib.hid rfl⟩
   case round =>
    clear c66 hB68 O67
    obtain ⟨i, M, rfl, b69, o70, f71, o72, ff73, hB74, hi, HM⟩ := hrel
    obtain ⟨wr75, hwr75⟩ : ∃ W_, W_ = wr := ⟨_, rfl⟩
    subst hwr75
    have O76 := Lib.hid o70
    clear o70
    have O77 := Lib.hid o72
    clear o72
    have ff73' := FarR.symm ff73
    by_cases hlti : i < c
    ·skip
     have i1i : (i : Int) < c := by omega
     have j0 : ¬ (c : Int) = 0 := by omega
     have j3 : ¬ c = 0 := by omega
     have j1 : ((c : Int) == 0) = false := by simpa using j0
     obtain ⟨m, hm1⟩ : ∃ m, m = (i + 1) % c := ⟨_, rfl⟩
     have hm2 : m < c := hm1 ▸ Nat.mod_lt _ (by omega)
     have i2 : (m : Int) < c := by omega
     have HR := Lib.hid (remS i c m hm1 (by omega) (by omega))
     have HM2 : Hid (m = Pl.nx n i) := Lib.hid (by rw [hm1, HC4.out]; rfl)
     clear hm1
     have HY : Hid (L[m]? = some (Pl.dp n r (Pl.nx n i))) := Lib.hid (by rw [map_at HE.out hm2, HM2.out])
     have HNE := Lib.hid (os_ne (i := i) h1 hn hr0 (HC4.out ▸ hlti))
     go_upto_region 15 with fail
     refine wp_named ?_
     intro W8 hW8
     obtain ⟨r1, r2, r3, r4, r5, r6⟩ := HR.out
     have hL8 : Below wr75.heap.size wr75 W8 := by
      rw [hW8]
      exact bB
     have c78 := b69.up hL8
     have O79 := Lib.hid (owns_up O76.out hL8)
     have O80 := Lib.hid (owns_up O77.out hL8)
     have hB81 : Below w.heap.size w W8 := by
      rw [hW8]
      exact bB
     clear hW8 hL8 b69
     have ce84 := LX.at_ (owns_viewP O80.out) (map_at HE.out hlti)
     have ce85 := LX.at_ (owns_viewP O80.out) HY.out
     have HSS86 : ∀ w' : World, Below W8.heap.size W8 w' → (w'.cell? ⟨g, i * 8, none⟩ = some (.bool (ng (((Pl.dp n r i).1).num))) ∧ w'.cell? ⟨g, i * 8 + 1, none⟩ = some (.string (mg (((Pl.dp n r i).1).num).natAbs)) ∧ w'.cell? ⟨g, i * 8 + 2, none⟩ = some (.bool false) ∧ w'.cell? ⟨g, i * 8 + 3, none⟩ = some (.string (mg (dn ((Pl.dp n r i).1)))) ∧ w'.cell? ⟨g, i * 8 + 4, none⟩ = some (.bool (ng (((Pl.dp n r i).2).num))) ∧ w'.cell? ⟨g, i * 8 + 5, none⟩ = some (.string (mg (((Pl.dp n r i).2).num).natAbs)) ∧ w'.cell? ⟨g, i * 8 + 6, none⟩ = some (.bool false) ∧ w'.cell? ⟨g, i * 8 + 7, none⟩ = some (.string (mg (dn ((Pl.dp n r i).2)))) ∧ w'.cell? ⟨g, m * 8, none⟩ = some (.bool (ng (((Pl.dp n r (Pl.nx n i)).1).num))) ∧ w'.cell? ⟨g, m * 8 + 1, none⟩ = some (.string (mg (((Pl.dp n r (Pl.nx n i)).1).num).natAbs)) ∧ w'.cell? ⟨g, m * 8 + 2, none⟩ = some (.bool false) ∧ w'.cell? ⟨g, m * 8 + 3, none⟩ = some (.string (mg (dn ((Pl.dp n r (Pl.nx n i)).1)))) ∧ w'.cell? ⟨g, m * 8 + 4, none⟩ = some (.bool (ng (((Pl.dp n r (Pl.nx n i)).2).num))) ∧ w'.cell? ⟨g, m * 8 + 5, none⟩ = some (.string (mg (((Pl.dp n r (Pl.nx n i)).2).num).natAbs)) ∧ w'.cell? ⟨g, m * 8 + 6, none⟩ = some (.bool false) ∧ w'.cell? ⟨g, m * 8 + 7, none⟩ = some (.string (mg (dn ((Pl.dp n r (Pl.nx n i)).2))))) := fun w' hb => by
      have qce84 := ce84.up hb; have qce85 := ce85.up hb
      simp only [At, Own, CE, CS, Nat.reduceAdd, Nat.reduceMul, Nat.zero_mul, Nat.add_zero, Nat.zero_add, Nat.add_assoc, and_true] at qce84 qce85
      try simp only [Nat.add_assoc, Nat.reduceAdd]
      simp [*]
     go_cut [13, 14] (fun x13 x14 wx => ∃ bq82 bq83, x13 = .pointer (some ⟨bq82, 0, none⟩) ∧ x14 = .pointer (some ⟨bq83, 0, none⟩) ∧ W8.heap.size ≤ bq82 ∧ W8.heap.size ≤ bq83 ∧ bq82 ≠ bq83 ∧ Own wx bq82 0 [.bool (ng (((Pl.dp n r i).1).num)), .string (mg (((Pl.dp n r i).1).num).natAbs), .bool false, .string (mg (dn ((Pl.dp n r i).1))), .bool (ng (((Pl.dp n r i).2).num)), .string (mg (((Pl.dp n r i).2).num).natAbs), .bool false, .string (mg (dn ((Pl.dp n r i).2)))] ∧ Own wx bq83 0 [.bool (ng (((Pl.dp n r (Pl.nx n i)).1).num)), .string (mg (((Pl.dp n r (Pl.nx n i)).1).num).natAbs), .bool false, .string (mg (dn ((Pl.dp n r (Pl.nx n i)).1))), .bool (ng (((Pl.dp n r (Pl.nx n i)).2).num)), .string (mg (((Pl.dp n r (Pl.nx n i)).2).num).natAbs), .bool false, .string (mg (dn ((Pl.dp n r (Pl.nx n i)).2)))] ∧ Below W8.heap.size W8 wx)
     case first =>
      have hu := HSS86 W8 (Below.refl _ _)
      go_region_held3 (fun w' => w'.cell? ⟨g, i * 8, none⟩ = some (.bool (ng (((Pl.dp n r i).1).num))) ∧ w'.cell? ⟨g, i * 8 + 1, none⟩ = some (.string (mg (((Pl.dp n r i).1).num).natAbs)) ∧ w'.cell? ⟨g, i * 8 + 2, none⟩ = some (.bool false) ∧ w'.cell? ⟨g, i * 8 + 3, none⟩ = some (.string (mg (dn ((Pl.dp n r i).1)))) ∧ w'.cell? ⟨g, i * 8 + 4, none⟩ = some (.bool (ng (((Pl.dp n r i).2).num))) ∧ w'.cell? ⟨g, i * 8 + 5, none⟩ = some (.string (mg (((Pl.dp n r i).2).num).natAbs)) ∧ w'.cell? ⟨g, i * 8 + 6, none⟩ = some (.bool false) ∧ w'.cell? ⟨g, i * 8 + 7, none⟩ = some (.string (mg (dn ((Pl.dp n r i).2)))) ∧ w'.cell? ⟨g, m * 8, none⟩ = some (.bool (ng (((Pl.dp n r (Pl.nx n i)).1).num))) ∧ w'.cell? ⟨g, m * 8 + 1, none⟩ = some (.string (mg (((Pl.dp n r (Pl.nx n i)).1).num).natAbs)) ∧ w'.cell? ⟨g, m * 8 + 2, none⟩ = some (.bool false) ∧ w'.cell? ⟨g, m * 8 + 3, none⟩ = some (.string (mg (dn ((Pl.dp n r (Pl.nx n i)).1)))) ∧ w'.cell? ⟨g, m * 8 + 4, none⟩ = some (.bool (ng (((Pl.dp n r (Pl.nx n i)).2).num))) ∧ w'.cell? ⟨g, m * 8 + 5, none⟩ = some (.string (mg (((Pl.dp n r (Pl.nx n i)).2).num).natAbs)) ∧ w'.cell? ⟨g, m * 8 + 6, none⟩ = some (.bool false) ∧ w'.cell? ⟨g, m * 8 + 7, none⟩ = some (.string (mg (dn ((Pl.dp n r (Pl.nx n i)).2))))) (refine HSS86 _ ?_ <;> (repeat (first | with_reducible exact Below.refl _ _ | with_reducible refine bel_alloc ?_ _ | with_reducible refine Below.drew ?_ | (refine Below.setCell ?_ (by first | (simp; done) | (simp; omega) | omega) _) | with_reducible refine bel_up ?_ (by with_reducible assumption)))) (first
       | fail)
      all_goals
       go_wp2_with fail
       go_meet
       refine ⟨_, _, rfl, rfl, (by first | (simp; done) | (simp; omega) | omega), (by first | (simp; done) | (simp; omega) | omega), (by first | (simp; done) | (simp; omega) | omega), ?_, ?_, ?_⟩
       ·first
        | (repeat (first | (with_reducible refine own_new (l := [.bool (ng (((Pl.dp n r i).1).num)), .string (mg (((Pl.dp n r i).1).num).natAbs), .bool false, .string (mg (dn ((Pl.dp n r i).1))), .bool (ng (((Pl.dp n r i).2).num)), .string (mg (((Pl.dp n r i).2).num).natAbs), .bool false, .string (mg (dn ((Pl.dp n r i).2)))]) ?_; (simp; done)) | with_reducible refine Own.alloc ?_ _ | with_reducible refine Own.drew ?_)); done
        | (refine own_setL (olds := [.bool false, .string ⟨#[]⟩, .bool false, .string ⟨#[]⟩, .bool false, .string ⟨#[]⟩, .bool false, .string ⟨#[]⟩]) ?_ rfl; with_reducible assumption)
        | simp [Own, go_sem, *]
       ·first
        | (repeat (first | (with_reducible refine own_new (l := [.bool (ng (((Pl.dp n r (Pl.nx n i)).1).num)), .string (mg (((Pl.dp n r (Pl.nx n i)).1).num).natAbs), .bool false, .string (mg (dn ((Pl.dp n r (Pl.nx n i)).1))), .bool (ng (((Pl.dp n r (Pl.nx n i)).2).num)), .string (mg (((Pl.dp n r (Pl.nx n i)).2).num).natAbs), .bool false, .string (mg (dn ((Pl.dp n r (Pl.nx n i)).2)))]) ?_; (simp; done)) | with_reducible refine Own.alloc ?_ _ | with_reducible refine Own.drew ?_)); done
        | (refine own_setL (olds := [.bool false, .string ⟨#[]⟩, .bool false, .string ⟨#[]⟩, .bool false, .string ⟨#[]⟩, .bool false, .string ⟨#[]⟩]) ?_ rfl; with_reducible assumption)
        | simp [Own, go_sem, *]
       ·(repeat (first | with_reducible exact Below.refl _ _ | with_reducible refine bel_alloc ?_ _ | with_reducible refine Below.drew ?_ | (refine Below.setCell ?_ (by first | (simp; done) | (simp; omega) | omega) _) | with_reducible refine bel_up ?_ (by with_reducible assumption)))
     case rest =>
      obtain ⟨bq82, bq83, rfl, rfl, hq87, hq88, nq89, c90, c91, hbz8⟩ := hcut
      obtain ⟨wz8, hwz8⟩ : ∃ W_, W_ = wc := ⟨_, rfl⟩
      subst hwz8
      have ne92 : w6.heap.size ≠ bq82 := by have := c78.lt; omega
      have ne92' := ne92.symm
      have ne93 : w6.heap.size ≠ bq83 := by have := c78.lt; omega
      have ne93' := ne93.symm
      have whq87 := Nat.le_trans hB81.size hq87
      have whq88 := Nat.le_trans hB81.size hq88
      have nq89' := nq89.symm
      have f94 : Value.ownBlock u10 ≠ some bq82 := fun e_ => by have := (O79.out.lt _ e_).2; omega
      have f95 : Value.ownBlock u10 ≠ some bq83 := fun e_ => by have := (O79.out.lt _ e_).2; omega
      have f96 : Value.ownBlock (.slice (some ⟨g, 0, none⟩) c cap) ≠ some bq82 := fun e_ => by have := (O80.out.lt _ e_).2; omega
      have f97 : Value.ownBlock (.slice (some ⟨g, 0, none⟩) c cap) ≠ some bq83 := fun e_ => by have := (O80.out.lt _ e_).2; omega
      clear HSS86
      have c98 := c78.up hbz8
      have O99 := Lib.hid (owns_up O79.out hbz8)
      have O100 := Lib.hid (owns_up O80.out hbz8)
      have hB101 : Below w.heap.size w wz8 := bel_up hB81 hbz8
      clear c78 O79 O80
      clear r1 r2 r3 r4 r5 r6
      have K102 := Lib.hid (fun W => hadd_any (Pl.dp n r i) (Pl.dp n r (Pl.nx n i)) W (dp_sz h1 hn hr i) (dp_sz h1 hn hr (Pl.nx n i)) (by omega) (by omega))
      have K103 := Lib.hid (fun W => hdot_any (Pl.dp n r i) (Pl.dp n r (Pl.nx n i)) W (dp_sz h1 hn hr i) (dp_sz h1 hn hr (Pl.nx n i)) (by omega) (by omega))
      have K104 := Lib.hid (fun W => radd_any (r * r) (Pl.dotP (Pl.dp n r i) (Pl.dp n r (Pl.nx n i))) W ((hr.mul hr).mono (by omega)) (((dp_sz h1 hn hr i).dot (dp_sz h1 hn hr (Pl.nx n i))).mono (by omega)))
      have K105 := Lib.hid (fun W => rdiv_any (r * r) ((r * r) + (Pl.dotP (Pl.dp n r i) (Pl.dp n r (Pl.nx n i)))) W HNE.out ((hr.mul hr).mono (by omega)) (((hr.mul hr).add ((dp_sz h1 hn hr i).dot (dp_sz h1 hn hr (Pl.nx n i)))).mono (by omega)))
      have K106 := Lib.hid (fun W => hscale_any (Pl.addP (Pl.dp n r i) (Pl.dp n r (Pl.nx n i))) ((r * r) / ((r * r) + (Pl.dotP (Pl.dp n r i) (Pl.dp n r (Pl.nx n i))))) W ((dp_sz h1 hn hr i).add (dp_sz h1 hn hr (Pl.nx n i))) ((hr.mul hr).div ((hr.mul hr).add ((dp_sz h1 hn hr i).dot (dp_sz h1 hn hr (Pl.nx n i))))) (by omega) (by omega))
      go_wp2_with fail
      refine wp_named ?_
      intro W9 hW9
      have hL9 : Below wz8.heap.size wz8 W9 := by
       rw [hW9]
       exact bB
      have c107 := c98.up hL9
      have c108 := c90.up hL9
      have c109 := c91.up hL9
      have O110 := Lib.hid (owns_up O99.out hL9)
      have O111 := Lib.hid (owns_up O100.out hL9)
      have hB112 : Below w.heap.size w W9 := by
       rw [hW9]
       exact bB
      clear hW9 hL9 c98 c90 c91
      have dc107 := fun p : Bel W9 => c107.bel p; have dc108 := fun p : Bel W9 => c108.bel p; have dc109 := fun p : Bel W9 => c109.bel p
      simp only [At, Own, Nat.reduceAdd, and_true] at dc107 dc108 dc109
      refine wp_region_tail1 12 (.tmp 10) (by kernel_rfl) (by kernel_rfl) rfl rfl (fun _ _ _ h => h) ?_
      simp only [List.take_succ_cons, List.take_zero, List.drop_succ_cons, List.drop_zero]
      go_simp
      repeat (go_big_quiet_step (first | (go_at_call 67; with_reducible exact Calls.bel (K102.out _)) | (go_at_call 28; with_reducible exact Calls.bel (K103.out _)) | (go_at_call 29; with_reducible exact Calls.bel (K104.out _)) | (go_at_call 42; with_reducible exact Calls.bel (K105.out _)) | (go_at_call 82; with_reducible exact Calls.bel (K106.out _))))
      refine wpQuiet_nil ?_
      intro w9 hb9
      have c113 := c107.up hb9
      have c114 := c108.up hb9
      have c115 := c109.up hb9
      have O116 := Lib.hid (owns_up O110.out hb9)
      have O117 := Lib.hid (owns_up O111.out hb9)
      have hB118 : Below w.heap.size w w9 := bel_up hB112 hb9
      clear dc107 dc108 dc109 c107 c108 c109 O110 O111
      have uc113 := c113; have uc114 := c114; have uc115 := c115
      simp only [At, Own, Nat.reduceAdd, and_true] at uc113 uc114 uc115
      go_wp2_with (at_builtin; refine wpList_appF rfl _ _ _ rfl ti_pt O116.out (hB118).size rfl rfl rfl rfl (pcells_one (Pl.scaleP (Pl.addP (Pl.dp n r i) (Pl.dp n r (Pl.nx n i))) ((r * r) / ((r * r) + (Pl.dotP (Pl.dp n r i) (Pl.dp n r (Pl.nx n i))))))) (by omega) (by decide) ?_)
      intro v119 w_v119 hown_v119 hst_v119
      have O121 : Hid (w_v119.ownsRow w.heap.size 35 8 v119 ((i + 1)) (pts (M ++ [(Pl.scaleP (Pl.addP (Pl.dp n r i) (Pl.dp n r (Pl.nx n i))) ((r * r) / ((r * r) + (Pl.dotP (Pl.dp n r i) (Pl.dp n r (Pl.nx n i))))))]))) := Lib.hid (by rw [pts_snoc]; exact hown_v119)
      have c122 := Own.step hst_v119 f71 c113
      have f123 := hst_v119.far _ c113.lt f71
      have c124 := Own.step hst_v119 f94 c114
      have f125 := hst_v119.far _ c114.lt f94
      have c126 := Own.step hst_v119 f95 c115
      have f127 := hst_v119.far _ c115.lt f95
      have O128 := Lib.hid (owns_step hst_v119 O117.out ff73)
      have ff129 : FarR (.slice (some ⟨g, 0, none⟩) c cap) v119 := FarR.step hst_v119 O117.out ff73
      have ff129' := FarR.symm ff129
      have hB130 : Below w.heap.size w w_v119 := hst_v119.below hB118 (hB118).size (fun r hr => (O116.out.lt r hr).1)
      clear uc113 uc114 uc115 hown_v119 c113 c114 c115 O117
      have uc122 := c122; have uc124 := c124; have uc126 := c126
      simp only [At, Own, Nat.reduceAdd, and_true] at uc122 uc124 uc126
      go_wp2
      go_roundw
      case rel => exact ⟨(i + 1), (M ++ [(Pl.scaleP (Pl.addP (Pl.dp n r i) (Pl.dp n r (Pl.nx n i))) ((r * r) / ((r * r) + (Pl.dotP (Pl.dp n r i) (Pl.dp n r (Pl.nx n i))))))]), (by first | rfl | exact congrArg (Value.int .i64) (by omega) | simp [*]), (by repeat (first | with_reducible exact c122 | refine Own.far _ _ (by simp <;> omega) ?_ | with_reducible refine Own.alloc ?_ _)), (by repeat (first | with_reducible exact O121.out | refine owns_far ?_ _ (by first | exact f123 | exact f125 | exact f127) _ | with_reducible refine World.ownsRow.alloc ?_ _)), f123, (by repeat (first | with_reducible exact O128.out | refine owns_far ?_ _ (by first | exact f5 | exact f64 | exact f96 | exact f97) _ | with_reducible refine World.ownsRow.alloc ?_ _)), ff129, (by exact bB), (by omega), Lib.hid (map_snoc HM.out rfl)⟩
      case measure => simp [intOf] <;> omega
    ·skip
     have hkN : c = i := by omega
     subst hkN
     have HOD : Hid (M = Pl.outsD n r) := Lib.hid (outsD_eq HM.out HC4.out)
     have K131 := Lib.hid (fun v W hW => hHull_any v (Pl.ringD n r) W hW HZHRD.out HNHRD.out (by omega : 4 ≤ 100000))
     have ub69 := b69
     simp only [At, Own, Nat.reduceAdd, and_true] at ub69
     go_wp2_with (fail)
     refine calls_named ?_
     intro W10 hW10
     have hL10 : Below wr75.heap.size wr75 W10 := by
      rw [hW10]
      exact bB
     have c132 := b69.up hL10
     have O133 := Lib.hid (owns_up O76.out hL10)
     have O134 := Lib.hid (owns_up O77.out hL10)
     have hB135 : Below w.heap.size w W10 := by
      rw [hW10]
      exact bB
     clear hW10 hL10 ub69 b69
     with_reducible refine (K131.out _ _ (HRD.out ▸ pv_own O134.out)).mono ?_
     rintro e w10 ⟨v10, rfl, hv10, hb10⟩
     have c136 := c132.up hb10
     have O137 := Lib.hid (owns_up O133.out hb10)
     have O138 := Lib.hid (owns_up O134.out hb10)
     have hB139 : Below w.heap.size w w10 := bel_up hB135 hb10
     clear c132 O133 O134
     have PW10 := Lib.hid hv10
     clear hv10
     have K140 := Lib.hid (fun v W hW => hHull_any v (Pl.outsD n r) W hW HZHOD.out HNHOD.out (by omega : 40 ≤ 100000))
     have uc136 := c136
     simp only [At, Own, Nat.reduceAdd, and_true] at uc136
     go_wp2_with (fail)
     refine calls_named ?_
     intro W11 hW11
     have hL11 : Below w10.heap.size w10 W11 := by
      rw [hW11]
      exact bB
     have c141 := c136.up hL11
     have O142 := Lib.hid (owns_up O137.out hL11)
     have O143 := Lib.hid (owns_up O138.out hL11)
     have hA144 := hL11
     have hB145 : Below w.heap.size w W11 := by
      rw [hW11]
      exact bB
     clear hW11 hL11 uc136 c136
     with_reducible refine (K140.out _ _ (HOD.out ▸ pv_own O142.out)).mono ?_
     rintro e w11 ⟨v11, rfl, hv11, hb11⟩
     have c146 := c141.up hb11
     have O147 := Lib.hid (owns_up O142.out hb11)
     have O148 := Lib.hid (owns_up O143.out hb11)
     have hA149 := bel_up hA144 hb11
     have hB150 : Below w.heap.size w w11 := bel_up hB145 hb11
     clear c141 O142 O143 hA144
     have PW11 := Lib.hid hv11
     clear hv11
     have uc146 := c146
     simp only [At, Own, Nat.reduceAdd, and_true] at uc146
     go_wp2
     go_ret2
     exact ⟨_, _, rfl, (by skip; exact (PW10.out.up hA149)), (by skip; exact PW11.out), (by exact bB)⟩
end Go.Proofs.YtdkkjfnpinckjaaGreatDoor
