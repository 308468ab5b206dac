/-
 Contracts for disks: the program.
-/
import Derived.Test.YtdkkjfnpinckjaaGreatDoorYDw2
import Derived.Test.YtdkkjfnpinckjaaGreatDoorYRst
import Derived.Test.YtdkkjfnpinckjaaGreatDoorYHuA
set_option maxRecDepth 100000
set_option linter.unusedSimpArgs false
set_option linter.unusedVariables false
namespace Go.Proofs.YtdkkjfnpinckjaaGreatDoor
open Go Go.RowKit

theorem pts_append (a b : List (Rat × Rat)) : pts (a ++ b) = pts a ++ pts b := by simp [pts]
theorem owns_offR {w : World} {base n size g : Nat} {e : TypeId} {v : Value} {xs : List Value} (h : w.ownsRow base e size v n xs) (hne : v.ownBlock ≠ some g) : ∀ (vs : List Value) (i : Nat), (w.setCells g i vs).ownsRow base e size v n xs
 | [], _ => h
 | u :: r, i => by rw [World.setCells]; exact owns_offR (owns_far h ⟨g, i, none⟩ hne u) hne r (i + 1)
/-- The quarter's points, the first j of them turned once more. -/
def mix (n : Nat) (r : Rat) (q j : Nat) : List (Rat × Rat) := (List.range n).map fun k => Pl.dp n r (if k < j then (q + 1) * n + k else q * n + k)
theorem mix_at {n q j : Nat} {r : Rat} (hj : j < n) : (mix n r q j)[j]? = some (Pl.dp n r (q * n + j)) := by
 rw [mix, List.getElem?_map, List.getElem?_range hj]; simp
theorem dp_next {n q j : Nat} {r : Rat} (hj : j < n) : Pl.dp n r ((q + 1) * n + j) = Pl.rotP (Pl.dp n r (q * n + j)) := by
 rw [dp_at hj rfl, dp_at hj rfl]; rfl
theorem mix_set {n q j : Nat} {r : Rat} (hj : j < n) : (mix n r q j).set j (Pl.rotP (Pl.dp n r (q * n + j))) = mix n r q (j + 1) := by
 apply List.ext_getElem?
 intro i
 rw [List.getElem?_set]
 by_cases hi : i < n
 ·rw [mix, mix, List.getElem?_map, List.getElem?_map, List.getElem?_range hi]
  by_cases e : j = i
  ·subst e
   rw [← dp_next hj]; simp [hi]
  ·rw [if_neg e]
   simp only [Option.map_some, Option.some.injEq]
   congr 1
   by_cases h1 : i < j
   ·rw [if_pos h1, if_pos (by omega)]
   ·rw [if_neg h1, if_neg (by omega)]
 ·have h1 : (mix n r q j)[i]? = none := List.getElem?_eq_none (by simp [mix]; omega)
  have h2 : (mix n r q (j + 1))[i]? = none := List.getElem?_eq_none (by simp [mix]; omega)
  rw [if_neg (by omega), h1, h2]
theorem mix_zero (n q : Nat) (r : Rat) : mix n r q 0 = (List.range n).map fun k => Pl.dp n r (q * n + k) := by simp [mix]
theorem mix_all (n q : Nat) (r : Rat) : mix n r q n = mix n r (q + 1) 0 := by
 rw [mix_zero, mix]
 apply List.map_congr_left
 intro k hk
 rw [if_pos (List.mem_range.1 hk)]
theorem mix_first {n : Nat} {r : Rat} {L : List (Rat × Rat)} (hL : L = (List.range n).map (Pl.dp n r)) : L = mix n r 0 0 := by rw [hL, mix_zero]; simp
theorem ring_more {n q c : Nat} {r : Rat} {L : List (Rat × Rat)} (hL : L = (List.range c).map (Pl.dp n r)) (hc : c = q * n) : L ++ mix n r q 0 = (List.range (c + n)).map (Pl.dp n r) := by
 rw [hL, mix_zero, List.range_add, List.map_append, List.map_map, hc]; rfl
theorem dp_first {n k : Nat} {r : Rat} (hk : k < n) : Pl.dp n r k = ((Pl.tV (Pl.tri n k)).1 * r, (Pl.tV (Pl.tri n k)).2 * r) := dp_at (q := 0) hk (by omega)
theorem hfi_x (n k : Nat) (w : World) (h1 : 1 ≤ n) (hn : n ≤ 16) (hk : k ≤ n) :
 Calls Tryz.prog 84 #[.int .i64 ((n : Int) * n - k * k), .int .i64 ((n : Int) * n + k * k)] w fun e w' => e = .returned (.tuple #[qv (Pl.tV (Pl.tri n k)).1, .int .i64 0]) ∧ Below w.heap.size w w' := by
 have e : (Pl.tV (Pl.tri n k)).1 = Rat.divInt ((n : Int) * n - k * k) ((n : Int) * n + k * k) := (Rat.divInt_eq_div _ _).symm
 obtain ⟨a, b, c, d, e', f⟩ := sq_bd hn hk
 have g := sq_pos' h1
 rw [e]; exact fromInts_any _ _ w (by omega) (by omega) (by omega) (by omega) (by omega)
theorem hfi_y (n k : Nat) (w : World) (h1 : 1 ≤ n) (hn : n ≤ 16) (hk : k ≤ n) :
 Calls Tryz.prog 84 #[.int .i64 (2 * (n : Int) * k), .int .i64 ((n : Int) * n + k * k)] w fun e w' => e = .returned (.tuple #[qv (Pl.tV (Pl.tri n k)).2, .int .i64 0]) ∧ Below w.heap.size w w' := by
 have e : (Pl.tV (Pl.tri n k)).2 = Rat.divInt (2 * (n : Int) * k) ((n : Int) * n + k * k) := (Rat.divInt_eq_div _ _).symm
 obtain ⟨a, b, c, d, e', f⟩ := sq_bd hn hk
 have g := sq_pos' h1
 rw [e]; exact fromInts_any _ _ w (by omega) (by omega) (by omega) (by omega) (by omega)

set_option maxHeartbeats 4000000 in
theorem cdisk_any (n : Nat) (r : Rat) (w : World) (h1 : 1 ≤ n) (hn : n ≤ 16) (hr0 : 0 < r) (hr : Pl.Sz 2 r) :
 Calls Tryz.prog 37 #[qv r, .int .i64 n] w fun e w' => ∃ v1 v2, e = .returned (.tuple #[v1, v2, .int .i64 0]) ∧ PV w' v1 (Pl.wrap (Pl.ringD n r)) ∧ PV w' v2 (Pl.wrap (Pl.outsD n r)) ∧ Below w.heap.size w w' := by
 have HZHRD := Lib.hid (map_sz (dp_sz h1 hn hr) (4 * n))
 have HZHOD := Lib.hid (map_sz (os_sz h1 hn hr) (4 * n))
 have HNHRD : Hid ((Pl.ringD n r).length ≤ 1000000) := Lib.hid (by simp [Pl.ringD]; omega)
 have HNHOD : Hid ((Pl.outsD n r).length ≤ 1000000) := Lib.hid (by simp [Pl.outsD]; omega)
 have HSG : Hid (Pl.sgn r = 1) := Lib.hid ((Pl.sgn_pos_iff r).2 hr0)
 have i1n : ¬ ((n : Int) < 1) := by omega
 have i16n : ¬ ((16 : Int) < n) := by omega
 go_enter Tryz.func37, Tryz.ntmps37
 have K1 := Lib.hid (fun W => HSG.out ▸ qsign_any r W)
 go_wp2_with (fail)
 refine calls_named ?_
 intro W1 hW1
 have hL1 : Below w.heap.size w W1 := by
  rw [hW1]
  exact bB
 have c2 : Own W1 (w.heap.size) 0 [.bool (ng r.num), .string (mg r.num.natAbs), .bool false, .string (mg (dn r))] := by
  rw [hW1]
  first
  | (repeat (first | (with_reducible refine own_new (l := [.bool (ng r.num), .string (mg r.num.natAbs), .bool false, .string (mg (dn r))]) ?_; (simp; done)) | with_reducible refine Own.alloc ?_ _ | refine Own.far _ _ (by first | (simp; done) | (simp [*]; done) | (simp; omega)) ?_)); done
  | simp [Own, go_sem]
 have hB3 : Below w.heap.size w W1 := by
  rw [hW1]
  exact bB
 clear hW1 hL1
 with_reducible refine (K1.out _).mono ?_
 rintro e w1 ⟨rfl, hb1⟩
 have c4 := c2.up hb1
 have hB5 : Below w.heap.size w w1 := bel_up hB3 hb1
 clear c2
 go_wp2_with fail
 go_loopw [7, 35] (fun s7 s35 wr => ∃ (k : Nat) (Q : List (Rat × Rat)), s35 = .int .i64 k ∧ Own wr (w.heap.size) 0 [.bool (ng r.num), .string (mg r.num.natAbs), .bool false, .string (mg (dn r))] ∧ wr.ownsRow w.heap.size 35 8 s7 k (pts Q) ∧ Value.ownBlock s7 ≠ some (w.heap.size) ∧ Below w.heap.size w wr ∧ k ≤ n ∧ Hid (Q = (List.range k).map (Pl.dp n r))) (fun _ s35 _ => n - (intOf s35).toNat)
 case atStart => exact ⟨0, ([]), rfl, c4, World.ownsRow_nil _ _ _ _, by simp [Value.ownBlock], hB5, (by omega), Lib.hid rfl⟩
 case round =>
  clear c4 hB5
  obtain ⟨k, Q, rfl, b6, o7, f8, hB9, hk, HQ⟩ := hrel
  obtain ⟨wr10, hwr10⟩ : ∃ W_, W_ = wr := ⟨_, rfl⟩
  subst hwr10
  have O11 := Lib.hid o7
  clear o7
  by_cases hltk : k < n
  ·skip
   have i1k : (k : Int) < n := by omega
   obtain ⟨⟨p1, q1⟩, ⟨p2, q2⟩, ⟨p3, q3⟩, ⟨p4, q4⟩, ⟨p5, q5⟩, ⟨p6, q6⟩⟩ := prods (k := k) h1 hn (by omega)
   have K12 := Lib.hid (fun W => hfi_x n k W h1 hn (by omega))
   have ub6 := b6
   simp only [At, Own, Nat.reduceAdd, and_true] at ub6
   go_wp2_with (fail)
   refine calls_named ?_
   intro W2 hW2
   have hL2 : Below wr10.heap.size wr10 W2 := by
    rw [hW2]
    exact bB
   have c13 := b6.up hL2
   have O14 := Lib.hid (owns_up O11.out hL2)
   have hB15 : Below w.heap.size w W2 := by
    rw [hW2]
    exact bB
   clear hW2 hL2 ub6 b6
   with_reducible refine (K12.out _).mono ?_
   rintro e w2 ⟨rfl, hb2⟩
   have c16 := c13.up hb2
   have O17 := Lib.hid (owns_up O14.out hb2)
   have hB18 : Below w.heap.size w w2 := bel_up hB15 hb2
   clear c13 O14
   have f19 := owns_new0 O17.out
   have ne20_ : w.heap.size < w2.heap.size := by have := c16.lt; omega
   have ne20 := Nat.ne_of_lt ne20_
   have ne20' := ne20.symm
   have uc16 := c16
   simp only [At, Own, Nat.reduceAdd, and_true] at uc16
   have K21 := Lib.hid (fun W => hfi_y n k W h1 hn (by omega))
   go_wp2_with (fail)
   refine calls_named ?_
   intro W3 hW3
   have hL3 : Below w2.heap.size w2 W3 := by
    rw [hW3]
    exact bB
   have c22 := c16.up hL3
   have c23 : Own W3 (w2.heap.size) 0 [.bool (ng (((Pl.tV (Pl.tri n k)).1).num)), .string (mg (((Pl.tV (Pl.tri n k)).1).num).natAbs), .bool false, .string (mg (dn ((Pl.tV (Pl.tri n k)).1)))] := by
    rw [hW3]
    first
    | (repeat (first | (with_reducible refine own_new (l := [.bool (ng (((Pl.tV (Pl.tri n k)).1).num)), .string (mg (((Pl.tV (Pl.tri n k)).1).num).natAbs), .bool false, .string (mg (dn ((Pl.tV (Pl.tri n k)).1)))]) ?_; (simp; done)) | with_reducible refine Own.alloc ?_ _ | refine Own.far _ _ (by first | (simp; done) | (simp [*]; done) | (simp; omega)) ?_)); done
    | simp [Own, go_sem, uc16, ne20, ne20', ne20_]
   have O24 := Lib.hid (owns_up O17.out hL3)
   have hB25 : Below w.heap.size w W3 := by
    rw [hW3]
    exact bB
   clear hW3 hL3 uc16 c16
   with_reducible refine (K21.out _).mono ?_
   rintro e w3 ⟨rfl, hb3⟩
   have c26 := c22.up hb3
   have c27 := c23.up hb3
   have O28 := Lib.hid (owns_up O24.out hb3)
   have hB29 : Below w.heap.size w w3 := bel_up hB25 hb3
   clear c22 c23 O24
   have f30 := owns_new0 O28.out
   have ne31_ : w.heap.size < w3.heap.size := by have := c26.lt; omega
   have ne31 := Nat.ne_of_lt ne31_
   have ne31' := ne31.symm
   have ne32_ : w2.heap.size < w3.heap.size := by have := c27.lt; omega
   have ne32 := Nat.ne_of_lt ne32_
   have ne32' := ne32.symm
   have uc26 := c26; have uc27 := c27
   simp only [At, Own, Nat.reduceAdd, and_true] at uc26 uc27
   have K33 := Lib.hid (fun W => qmul_any ((Pl.tV (Pl.tri n k)).1) r W ((tV_sz h1 hn (by omega : k ≤ n)).1.mono (by omega)) (hr.mono (by omega)))
   have K34 := Lib.hid (fun W => qmul_any ((Pl.tV (Pl.tri n k)).2) r W ((tV_sz h1 hn (by omega : k ≤ n)).2.mono (by omega)) (hr.mono (by omega)))
   go_wp2_with fail
   refine wp_named ?_
   intro W4 hW4
   have hL4 : Below w3.heap.size w3 W4 := by
    rw [hW4]
    exact bB
   have c35 := c26.up hL4
   have c36 := c27.up hL4
   have c37 : Own W4 (w3.heap.size) 0 [.bool (ng (((Pl.tV (Pl.tri n k)).2).num)), .string (mg (((Pl.tV (Pl.tri n k)).2).num).natAbs), .bool false, .string (mg (dn ((Pl.tV (Pl.tri n k)).2)))] := by
    rw [hW4]
    first
    | (repeat (first | (with_reducible refine own_new (l := [.bool (ng (((Pl.tV (Pl.tri n k)).2).num)), .string (mg (((Pl.tV (Pl.tri n k)).2).num).natAbs), .bool false, .string (mg (dn ((Pl.tV (Pl.tri n k)).2)))]) ?_; (simp; done)) | with_reducible refine Own.alloc ?_ _ | refine Own.far _ _ (by first | (simp; done) | (simp [*]; done) | (simp; omega)) ?_)); done
    | simp [Own, go_sem, uc26, uc27, ne31, ne31', ne31_, ne32, ne32', ne32_]
   have O38 := Lib.hid (owns_up O28.out hL4)
   have hB39 : Below w.heap.size w W4 := by
    rw [hW4]
    exact bB
   clear hW4 hL4 uc26 uc27 c26 c27
   have dc35 := fun p : Bel W4 => c35.bel p; have dc36 := fun p : Bel W4 => c36.bel p; have dc37 := fun p : Bel W4 => c37.bel p
   simp only [At, Own, Nat.reduceAdd, and_true] at dc35 dc36 dc37
   refine wp_region_tail1 7 (.tmp 7) (by kernel_rfl) (by kernel_rfl) rfl rfl (fun _ _ _ h => h) ?_
   simp only [List.take_succ_cons, List.take_zero, List.drop_succ_cons, List.drop_zero]
   go_simp
   repeat (go_big_quiet_step (first | (go_at_call 85; with_reducible exact Calls.bel (K33.out _)) | (go_at_call 85; with_reducible exact Calls.bel (K34.out _))))
   refine wpQuiet_nil ?_
   intro w4 hb4
   have c40 := c35.up hb4
   have c41 := c36.up hb4
   have c42 := c37.up hb4
   have O43 := Lib.hid (owns_up O38.out hb4)
   have hB44 : Below w.heap.size w w4 := bel_up hB39 hb4
   clear dc35 dc36 dc37 c35 c36 c37 O38
   have uc40 := c40; have uc41 := c41; have uc42 := c42
   simp only [At, Own, Nat.reduceAdd, and_true] at uc40 uc41 uc42
   go_wp2_with (at_builtin; refine wpList_appF rfl _ _ _ rfl ti_pt O43.out (hB44).size rfl rfl rfl rfl (pcells_one (((Pl.tV (Pl.tri n k)).1 * r), ((Pl.tV (Pl.tri n k)).2 * r))) (by omega) (by decide) ?_)
   intro v45 w_v45 hown_v45 hst_v45
   have O47 : Hid (w_v45.ownsRow w.heap.size 35 8 v45 ((k + 1)) (pts (Q ++ [(((Pl.tV (Pl.tri n k)).1 * r), ((Pl.tV (Pl.tri n k)).2 * r))]))) := Lib.hid (by rw [pts_snoc]; exact hown_v45)
   have c48 := Own.step hst_v45 f8 c40
   have f49 := hst_v45.far _ c40.lt f8
   have c50 := Own.step hst_v45 f19 c41
   have f51 := hst_v45.far _ c41.lt f19
   have c52 := Own.step hst_v45 f30 c42
   have f53 := hst_v45.far _ c42.lt f30
   have hB54 : Below w.heap.size w w_v45 := hst_v45.below hB44 (hB44).size (fun r hr => (O43.out.lt r hr).1)
   clear uc40 uc41 uc42 hown_v45 c40 c41 c42
   have uc48 := c48; have uc50 := c50; have uc52 := c52
   simp only [At, Own, Nat.reduceAdd, and_true] at uc48 uc50 uc52
   go_wp2
   go_roundw
   case rel => exact ⟨(k + 1), (Q ++ [(((Pl.tV (Pl.tri n k)).1 * r), ((Pl.tV (Pl.tri n k)).2 * r))]), (by first | rfl | exact congrArg (Value.int .i64) (by omega) | simp [*]), (by repeat (first | with_reducible exact c48 | refine Own.far _ _ (by simp <;> omega) ?_ | with_reducible refine Own.alloc ?_ _)), (by repeat (first | with_reducible exact O47.out | refine owns_far ?_ _ (by first | exact f49 | exact f51 | exact f53) _ | with_reducible refine World.ownsRow.alloc ?_ _)), f49, (by exact bB), (by omega), Lib.hid (map_snoc HQ.out (dp_first hltk))⟩
   case measure => simp [intOf] <;> omega
  ·skip
   have hkN : n = k := by omega
   subst hkN
   have HQ0 := Lib.hid (mix_first HQ.out)
   clear HQ
   obtain ⟨g7, cg7, hvg7, hncg7, hcmg7, hgWg7, hgbg7⟩ := owns_form O11.out (h1)
   subst hvg7
   go_wp2_with fail
   go_loopw [14, 83] (fun s14 s83 wr => ∃ (q : Nat) (c : Nat) (L : List (Rat × Rat)) (Q : List (Rat × Rat)), s83 = .int .i64 q ∧ Own wr (w.heap.size) 0 [.bool (ng r.num), .string (mg r.num.natAbs), .bool false, .string (mg (dn r))] ∧ wr.ownsRow w.heap.size 35 8 s14 c (pts L) ∧ Value.ownBlock s14 ≠ some (w.heap.size) ∧ wr.ownsRow w.heap.size 35 8 (.slice (some ⟨g7, 0, none⟩) n cg7) n (pts Q) ∧ FarR (.slice (some ⟨g7, 0, none⟩) n cg7) s14 ∧ Below w.heap.size w wr ∧ q ≤ 4 ∧ c ≤ 16 * q ∧ Hid (c = q * n) ∧ Hid (L = (List.range c).map (Pl.dp n r)) ∧ Hid (Q = mix n r q 0)) (fun _ s83 _ => 4 - (intOf s83).toNat)
   case atStart => exact ⟨0, 0, ([]), Q, rfl, b6, World.ownsRow_nil _ _ _ _, by simp [Value.ownBlock], O11.out, (fun r_ _ h_ => by cases h_), hB9, (by omega), (by omega), Lib.hid (Nat.zero_mul n).symm, Lib.hid rfl, HQ0⟩
   case round =>
    clear b6 hB9 O11
    obtain ⟨q, c, L, Q, rfl, b55, o56, f57, o58, ff59, hB60, hq, hcq, HC, HE, HQ⟩ := hrel
    obtain ⟨wr61, hwr61⟩ : ∃ W_, W_ = wr := ⟨_, rfl⟩
    subst hwr61
    have O62 := Lib.hid o56
    clear o56
    have O63 := Lib.hid o58
    clear o58
    have ff59' := FarR.symm ff59
    by_cases hltq : q < 4
    ·skip
     have i1q : (q : Int) < 4 := by omega
     have ub55 := b55
     simp only [At, Own, Nat.reduceAdd, and_true] at ub55
     go_wp2_with (at_builtin; refine wpList_appX rfl _ _ _ rfl ti_pt O62.out (hB60).size rfl rfl (Sl.of_own O63.out) (pts_one Q) (by omega) (by decide) ?_)
     intro v64 w_v64 hown_v64 hst_v64
     have O66 : Hid (w_v64.ownsRow w.heap.size 35 8 v64 (c + n) (pts (L ++ Q))) := Lib.hid (by rw [pts_append]; exact hown_v64)
     have c67 := Own.step hst_v64 f57 b55
     have f68 := hst_v64.far _ b55.lt f57
     have O69 := Lib.hid (owns_step hst_v64 O63.out ff59)
     have ff70 : FarR (.slice (some ⟨g7, 0, none⟩) n cg7) v64 := FarR.step hst_v64 O63.out ff59
     have ff70' := FarR.symm ff70
     have hB71 : Below w.heap.size w w_v64 := hst_v64.below hB60 (hB60).size (fun r hr => (O62.out.lt r hr).1)
     clear ub55 hown_v64 b55 O63
     go_wp2_with fail
     go_loopw [90] (fun s90 wr => ∃ (j : Nat) (R : List (Rat × Rat)), s90 = .int .i64 j ∧ Own wr (w.heap.size) 0 [.bool (ng r.num), .string (mg r.num.natAbs), .bool false, .string (mg (dn r))] ∧ wr.ownsRow w.heap.size 35 8 (.slice (some ⟨g7, 0, none⟩) n cg7) n (pts R) ∧ wr.ownsRow w.heap.size 35 8 v64 (c + n) (pts (L ++ Q)) ∧ Below w.heap.size w wr ∧ j ≤ n ∧ Hid (R = mix n r q j)) (fun s90 _ => n - (intOf s90).toNat)
     case atStart => exact ⟨0, Q, rfl, c67, O69.out, O66.out, hB71, (by omega), HQ⟩
     case round =>
      clear c67 hB71 O69 O66
      obtain ⟨j, R, rfl, b72, o73, o74, hB75, hj, HR⟩ := hrel
      obtain ⟨wr76, hwr76⟩ : ∃ W_, W_ = wr := ⟨_, rfl⟩
      subst hwr76
      have O77 := Lib.hid o73
      clear o73
      have O78 := Lib.hid o74
      clear o74
      by_cases hltj : j < n
      ·skip
       have i1j : (j : Int) < n := by omega
       have HX := Lib.hid (HR.out ▸ mix_at hltj : R[j]? = some (Pl.dp n r (q * n + j)))
       obtain ⟨x, hx⟩ : ∃ x, Pl.dp n r (q * n + j) = x := ⟨_, rfl⟩
       rw [hx] at HX
       have HXE := Lib.hid hx
       clear hx
       have ce79 := LX.at_ (owns_viewP O77.out) HX.out
       have uce79 := ce79
       simp only [CE, Nat.reduceMul, Nat.zero_add] at uce79
       have f80 := owns_new0 O77.out
       have f81 := owns_new0 O78.out
       have ne82_ : w.heap.size < wr76.heap.size := by have := b72.lt; omega
       have ne82 := Nat.ne_of_lt ne82_
       have ne82' := ne82.symm
       have ub72 := b72
       simp only [At, Own, Nat.reduceAdd, and_true] at ub72
       have kK83 := fun W => qneg_any x.2 W
       generalize hT85 : -x.2 = nd84 at kK83
       have K83 := Lib.hid kK83
       clear kK83
       have HhT85 := Lib.hid hT85
       clear hT85
       go_wp2_with fail
       refine wp_named ?_
       intro W5 hW5
       have hL5 : Below wr76.heap.size wr76 W5 := by
        rw [hW5]
        exact bB
       have c86 := b72.up hL5
       have c87 : Own W5 (wr76.heap.size) 0 [.bool (ng x.1.num), .string (mg x.1.num.natAbs), .bool false, .string (mg (dn x.1)), .bool (ng x.2.num), .string (mg x.2.num.natAbs), .bool false, .string (mg (dn x.2))] := by
        rw [hW5]
        first
        | (repeat (first | (with_reducible refine own_new (l := [.bool (ng x.1.num), .string (mg x.1.num.natAbs), .bool false, .string (mg (dn x.1)), .bool (ng x.2.num), .string (mg x.2.num.natAbs), .bool false, .string (mg (dn x.2))]) ?_; (simp; done)) | with_reducible refine Own.alloc ?_ _ | refine Own.far _ _ (by first | (simp; done) | (simp [*]; done) | (simp; omega)) ?_)); done
        | simp [Own, go_sem, uce79, ub72, ne82, ne82', ne82_]
       have O88 := Lib.hid (owns_up O77.out hL5)
       have O89 := Lib.hid (owns_up O78.out hL5)
       have hB90 : Below w.heap.size w W5 := by
        rw [hW5]
        exact bB
       clear hW5 hL5 uce79 ub72 b72
       have dc86 := fun p : Bel W5 => c86.bel p; have dc87 := fun p : Bel W5 => c87.bel p
       simp only [At, Own, Nat.reduceAdd, and_true] at dc86 dc87
       refine wp_region_tail 9 (by kernel_rfl) (by kernel_rfl) ?_
       simp only [List.take_succ_cons, List.take_zero, List.drop_succ_cons, List.drop_zero]
       repeat (go_big_quiet_step (first | (go_at_call 86; with_reducible exact Calls.bel (K83.out _))))
       refine wpQuiet_nil ?_
       intro w5 hb5
       have c91 := c86.up hb5
       have c92 := c87.up hb5
       have O93 := Lib.hid (owns_up O88.out hb5)
       have O94 := Lib.hid (owns_up O89.out hb5)
       have hB95 : Below w.heap.size w w5 := bel_up hB90 hb5
       clear dc86 dc87 c86 c87 O88 O89
       have uc91 := c91; have uc92 := c92
       simp only [At, Own, Nat.reduceAdd, and_true] at uc91 uc92
       have HTH96 := Lib.hid (own_there (m := 8) O93.out (show j * 8 + 8 ≤ n * 8 by omega))
       go_upto_region 20 with (refine wpList_store_mid rfl 35 _ _ rfl _ _ _ (by rfl) (by rfl) (by simpa using HTH96.out) (by kernel_rfl) (by simp [Value.oneCell']) ?_)
       refine wp_named ?_
       intro WS96 hWS96
       have c97 : Own WS96 (w.heap.size) 0 [.bool (ng r.num), .string (mg r.num.natAbs), .bool false, .string (mg (dn r))] := by rw [hWS96]; exact Own.off (fun e_ => f8 (congrArg some e_.symm)) c91
       have c98 : Own WS96 (wr76.heap.size) 0 [.bool (ng x.1.num), .string (mg x.1.num.natAbs), .bool false, .string (mg (dn x.1)), .bool (ng x.2.num), .string (mg x.2.num.natAbs), .bool false, .string (mg (dn x.2))] := by rw [hWS96]; exact Own.off (fun e_ => f80 (congrArg some e_.symm)) c92
       have O99 : Hid (WS96.ownsRow w.heap.size 35 8 (.slice (some ⟨g7, 0, none⟩) n cg7) n (pts (R.set j (nd84, x.1)))) := Lib.hid (by rw [hWS96]; exact own_setPt O93.out (by omega) (nd84, x.1))
       have O100 : Hid (WS96.ownsRow w.heap.size 35 8 v64 (c + n) (pts (L ++ Q))) := Lib.hid (by rw [hWS96]; exact owns_offR O94.out (fun h_ => ff70' _ h_ rfl) _ _)
       have hB101 : Below w.heap.size w WS96 := by rw [hWS96]; exact below_setCells hgbg7 _ _ _ hB95
       clear uc91 uc92 hWS96 HTH96 c91 c92 O93 O94 hB95
       have uc97 := c97; have uc98 := c98
       simp only [At, Own, Nat.reduceAdd, and_true] at uc97 uc98
       go_wp2
       go_roundw
       case rel => exact ⟨(j + 1), (R.set j (nd84, x.1)), (by first | rfl | exact congrArg (Value.int .i64) (by omega) | simp [*]), (by repeat (first | with_reducible exact c97 | refine Own.far _ _ (by simp <;> omega) ?_ | with_reducible refine Own.alloc ?_ _)), (by repeat (first | with_reducible exact O99.out | refine owns_far ?_ _ (by first | exact f8 | exact f80) _ | with_reducible refine World.ownsRow.alloc ?_ _)), (by repeat (first | with_reducible exact O100.out | refine owns_far ?_ _ (by first | exact f68 | exact f81) _ | with_reducible refine World.ownsRow.alloc ?_ _)), (by exact bB), (by omega), Lib.hid (by rw [HR.out, ← mix_set hltj, HXE.out]; congr 1; rw [← HhT85.out]; rfl)⟩
       case measure => simp [intOf] <;> omega
      ·skip
       have hkN : n = j := by omega
       subst hkN
       have ub72 := b72
       simp only [At, Own, Nat.reduceAdd, and_true] at ub72
       go_wp2
       go_roundw
       case rel => exact ⟨(q + 1), (c + n), (L ++ Q), R, (by first | rfl | exact congrArg (Value.int .i64) (by omega) | simp [*]), (by repeat (first | with_reducible exact b72 | refine Own.far _ _ (by simp <;> omega) ?_ | with_reducible refine Own.alloc ?_ _)), (by repeat (first | with_reducible exact O78.out | refine owns_far ?_ _ (by first | exact f68) _ | with_reducible refine World.ownsRow.alloc ?_ _)), f68, (by repeat (first | with_reducible exact O77.out | refine owns_far ?_ _ (by first | exact f8) _ | with_reducible refine World.ownsRow.alloc ?_ _)), ff70, (by exact bB), (by omega), (by omega), Lib.hid (by rw [HC.out, Nat.succ_mul]), Lib.hid (by rw [HQ.out]; exact ring_more HE.out HC.out), Lib.hid (by rw [HR.out, mix_all])⟩
       case measure => simp [intOf] <;> omega
    ·skip
     have hkN : 4 = q := by omega
     subst hkN
     have HRD : Hid (L = Pl.ringD n r) := Lib.hid (ringD_eq HE.out HC.out)
     have HC4 : Hid (c = 4 * n) := HC
     have hc4 : 4 * n ≤ c := Nat.le_of_eq HC.out.symm
     obtain ⟨g, cg, hvg, hncg, hcmg, hgWg, hgbg⟩ := owns_form O62.out (by omega)
     subst hvg
     have ub55 := b55
     simp only [At, Own, Nat.reduceAdd, and_true] at ub55
     have K102 := Lib.hid (fun W => qmul_any r r W (hr.mono (by omega)) (hr.mono (by omega)))
     go_wp2_with (fail)
     refine calls_named ?_
     intro W6 hW6
     have hL6 : Below wr61.heap.size wr61 W6 := by
      rw [hW6]
      exact bB
     have c103 := b55.up hL6
     have O104 := Lib.hid (owns_up O62.out hL6)
     have O105 := Lib.hid (owns_up O63.out hL6)
     have hB106 : Below w.heap.size w W6 := by
      rw [hW6]
      exact bB
     clear hW6 hL6 ub55 b55
     with_reducible refine (K102.out _).mono ?_
     rintro e w6 ⟨rfl, hb6⟩
     have c107 := c103.up hb6
     have O108 := Lib.hid (owns_up O104.out hb6)
     have O109 := Lib.hid (owns_up O105.out hb6)
     have hB110 : Below w.heap.size w w6 := bel_up hB106 hb6
     clear c103 O104 O105
     have f111 := owns_new0 O108.out
     have f112 := owns_new0 O109.out
     have ne113_ : w.heap.size < w6.heap.size := by have := c107.lt; omega
     have ne113 := Nat.ne_of_lt ne113_
     have ne113' := ne113.symm
     have uc107 := c107
     simp only [At, Own, Nat.reduceAdd, and_true] at uc107
     go_wp2_with fail
     refine wp_named ?_
     intro W7 hW7
     have hL7 : Below w6.heap.size w6 W7 := by
      rw [hW7]
      exact bB
     have c114 : Own W7 (w6.heap.size) 0 [.bool (ng ((r * r).num)), .string (mg ((r * r).num).natAbs), .bool false, .string (mg (dn (r * r)))] := by
      rw [hW7]
      first
      | (repeat (first | (with_reducible refine own_new (l := [.bool (ng ((r * r).num)), .string (mg ((r * r).num).natAbs), .bool false, .string (mg (dn (r * r)))]) ?_; (simp; done)) | with_reducible refine Own.alloc ?_ _ | refine Own.far _ _ (by first | (simp; done) | (simp [*]; done) | (simp; omega)) ?_)); done
      | simp [Own, go_sem, uc107, ne113, ne113', ne113_]
     have O115 := Lib.hid (owns_up O108.out hL7)
     have O116 := Lib.hid (owns_up O109.out hL7)
     have hB117 : Below w.heap.size w W7 := by
      rw [hW7]
      exact bB
     clear hW7 hL7 uc107
     go_loopw [5, 111] (fun s5 s111 wr => ∃ (i : Nat) (M : List (Rat × Rat)), s111 = .int .i64 i ∧ Own wr (w6.heap.size) 0 [.bool (ng ((r * r).num)), .string (mg ((r * r).num).natAbs), .bool false, .string (mg (dn (r * r)))] ∧ wr.ownsRow w.heap.size 35 8 s5 i (pts M) ∧ Value.ownBlock s5 ≠ some (w6.heap.size) ∧ wr.ownsRow w.heap.size 35 8 (.slice (some ⟨g, 0, none⟩) c cg) c (pts L) ∧ FarR (.slice (some ⟨g, 0, none⟩) c cg) s5 ∧ Below w.heap.size w wr ∧ i ≤ c ∧ Hid (M = (List.range i).map (Pl.os n r))) (fun _ s111 _ => c - (intOf s111).toNat)
     case atStart => exact ⟨0, ([]), rfl, c114, World.ownsRow_nil _ _ _ _, by simp [Value.ownBlock], O115.out, (fun r_ _ h_ => by cases h_), hB117, (by omega), Lib.hid rfl⟩
     case round =>
      clear c114 hB117 O115 O116
      obtain ⟨i, M, rfl, b118, o119, f120, o121, ff122, hB123, hi, HM⟩ := hrel
      obtain ⟨wr124, hwr124⟩ : ∃ W_, W_ = wr := ⟨_, rfl⟩
      subst hwr124
      have O125 := Lib.hid o119
      clear o119
      have O126 := Lib.hid o121
      clear o121
      have ff122' := FarR.symm ff122
      by_cases hlti : i < c
      ·skip
       have i1i : (i : Int) < c := by omega
       have j0 : ¬ (c : Int) = 0 := by omega
       have j3 : ¬ c = 0 := by omega
       have j1 : ((c : Int) == 0) = false := by simpa using j0
       obtain ⟨m, hm1⟩ : ∃ m, m = (i + 1) % c := ⟨_, rfl⟩
       have hm2 : m < c := hm1 ▸ Nat.mod_lt _ (by omega)
       have i2 : (m : Int) < c := by omega
       have HRM := Lib.hid (remS i c m hm1 (by omega) (by omega))
       have HM2 : Hid (m = Pl.nx n i) := Lib.hid (by rw [hm1, HC4.out]; rfl)
       clear hm1
       have HY : Hid (L[m]? = some (Pl.dp n r (Pl.nx n i))) := Lib.hid (by rw [map_at HE.out hm2, HM2.out])
       have HNE := Lib.hid (os_ne (i := i) h1 hn hr0 (HC4.out ▸ hlti))
       have ce127 := LX.at_ (owns_viewP O126.out) (map_at HE.out hlti)
       have uce127 := ce127
       simp only [CE, Nat.reduceMul, Nat.zero_add] at uce127
       have f128 := owns_new0 O125.out
       have f129 := owns_new0 O126.out
       have ne130_ : w6.heap.size < wr124.heap.size := by have := b118.lt; omega
       have ne130 := Nat.ne_of_lt ne130_
       have ne130' := ne130.symm
       have ub118 := b118
       simp only [At, Own, Nat.reduceAdd, and_true] at ub118
       go_upto_region 26 with fail
       refine wp_named ?_
       intro W8 hW8
       have hL8 : Below wr124.heap.size wr124 W8 := by
        rw [hW8]
        exact bB
       have c131 := b118.up hL8
       have c132 : Own W8 (wr124.heap.size) 0 [.bool (ng (((Pl.dp n r i).1).num)), .string (mg (((Pl.dp n r i).1).num).natAbs), .bool false, .string (mg (dn ((Pl.dp n r i).1))), .bool (ng (((Pl.dp n r i).2).num)), .string (mg (((Pl.dp n r i).2).num).natAbs), .bool false, .string (mg (dn ((Pl.dp n r i).2)))] := by
        rw [hW8]
        first
        | (repeat (first | (with_reducible refine own_new (l := [.bool (ng (((Pl.dp n r i).1).num)), .string (mg (((Pl.dp n r i).1).num).natAbs), .bool false, .string (mg (dn ((Pl.dp n r i).1))), .bool (ng (((Pl.dp n r i).2).num)), .string (mg (((Pl.dp n r i).2).num).natAbs), .bool false, .string (mg (dn ((Pl.dp n r i).2)))]) ?_; (simp; done)) | with_reducible refine Own.alloc ?_ _ | refine Own.far _ _ (by first | (simp; done) | (simp [*]; done) | (simp; omega)) ?_)); done
        | simp [Own, go_sem, uce127, ub118, ne130, ne130', ne130_]
       have O133 := Lib.hid (owns_up O125.out hL8)
       have O134 := Lib.hid (owns_up O126.out hL8)
       have hB135 : Below w.heap.size w W8 := by
        rw [hW8]
        exact bB
       clear hW8 hL8 uce127 ub118 b118
       obtain ⟨r1, r2, r3, r4, r5, r6⟩ := HRM.out
       have ce136 := LX.at_ (owns_viewP O134.out) HY.out
       have uce136 := ce136
       simp only [CE, Nat.reduceMul, Nat.zero_add] at uce136
       have f137 := owns_new0 O133.out
       have f138 := owns_new0 O134.out
       have ne139_ : w6.heap.size < W8.heap.size := by have := c131.lt; omega
       have ne139 := Nat.ne_of_lt ne139_
       have ne139' := ne139.symm
       have ne140_ : wr124.heap.size < W8.heap.size := by have := c132.lt; omega
       have ne140 := Nat.ne_of_lt ne140_
       have ne140' := ne140.symm
       have uc131 := c131; have uc132 := c132
       simp only [At, Own, Nat.reduceAdd, and_true] at uc131 uc132
       go_upto_region 27 with fail
       refine wp_named ?_
       intro W9 hW9
       have hL9 : Below W8.heap.size W8 W9 := by
        rw [hW9]
        exact bB
       have c141 := c131.up hL9
       have c142 := c132.up hL9
       have c143 : Own W9 (W8.heap.size) 0 [.bool (ng (((Pl.dp n r (Pl.nx n i)).1).num)), .string (mg (((Pl.dp n r (Pl.nx n i)).1).num).natAbs), .bool false, .string (mg (dn ((Pl.dp n r (Pl.nx n i)).1))), .bool (ng (((Pl.dp n r (Pl.nx n i)).2).num)), .string (mg (((Pl.dp n r (Pl.nx n i)).2).num).natAbs), .bool false, .string (mg (dn ((Pl.dp n r (Pl.nx n i)).2)))] := by
        rw [hW9]
        first
        | (repeat (first | (with_reducible refine own_new (l := [.bool (ng (((Pl.dp n r (Pl.nx n i)).1).num)), .string (mg (((Pl.dp n r (Pl.nx n i)).1).num).natAbs), .bool false, .string (mg (dn ((Pl.dp n r (Pl.nx n i)).1))), .bool (ng (((Pl.dp n r (Pl.nx n i)).2).num)), .string (mg (((Pl.dp n r (Pl.nx n i)).2).num).natAbs), .bool false, .string (mg (dn ((Pl.dp n r (Pl.nx n i)).2)))]) ?_; (simp; done)) | with_reducible refine Own.alloc ?_ _ | refine Own.far _ _ (by first | (simp; done) | (simp [*]; done) | (simp; omega)) ?_)); done
        | simp [Own, go_sem, uce136, uc131, uc132, ne139, ne139', ne139_, ne140, ne140', ne140_]
       have O144 := Lib.hid (owns_up O133.out hL9)
       have O145 := Lib.hid (owns_up O134.out hL9)
       have hB146 : Below w.heap.size w W9 := by
        rw [hW9]
        exact bB
       clear hW9 hL9 uce136 uc131 uc132 c131 c132
       clear r1 r2 r3 r4 r5 r6
       have K148 := Lib.hid (fun W => pdot_any (Pl.dp n r i) (Pl.dp n r (Pl.nx n i)) W (dp_sz h1 hn hr i) (dp_sz h1 hn hr (Pl.nx n i)) (by omega) (by omega))
       have K149 := Lib.hid (fun W => qadd_any (r * r) (Pl.dotP (Pl.dp n r i) (Pl.dp n r (Pl.nx n i))) W ((hr.mul hr).mono (by omega)) (((dp_sz h1 hn hr i).dot (dp_sz h1 hn hr (Pl.nx n i))).mono (by omega)))
       have K150 := Lib.hid (fun W => qdiv_any (r * r) ((r * r) + (Pl.dotP (Pl.dp n r i) (Pl.dp n r (Pl.nx n i)))) W HNE.out ((hr.mul hr).mono (by omega)) (((hr.mul hr).add ((dp_sz h1 hn hr i).dot (dp_sz h1 hn hr (Pl.nx n i)))).mono (by omega)))
       refine wp_region_new1l 11 9 10 21 22 [.bool false, .string ⟨#[]⟩, .bool false, .string ⟨#[]⟩] 33 (by kernel_rfl) rfl rfl rfl rfl (by kernel_rfl) (by kernel_rfl) rfl rfl rfl rfl rfl rfl rfl ⟨(by intro h_; cases h_), (by intro h_; cases h_), (by intro h_; cases h_)⟩ (by kernel_rfl) (by simp) (run_alloc_zero Tryz.zeroValue33 rfl) (by kernel_rfl) ?_
       intro V_147 hV_147
       have vc141 := c141.up hV_147; have dc141 := fun p : Bel V_147 => vc141.bel p
       have vc142 := c142.up hV_147; have dc142 := fun p : Bel V_147 => vc142.bel p
       have vc143 := c143.up hV_147; have dc143 := fun p : Bel V_147 => vc143.bel p
       simp only [At, Own, Nat.reduceAdd, and_true] at dc141 dc142 dc143
       have hBV_147 := bel_up hB146 hV_147
       simp only [waitL, List.getElem?_cons_succ, List.getElem?_cons_zero, List.set_cons_succ, List.set_cons_zero, List.map_cons, List.map_nil, maskOp, List.take_succ_cons, List.take_zero]
       repeat (go_big_quiet_step (first | (go_at_call 63; with_reducible exact Calls.bel (K148.out _)) | (go_at_call 88; with_reducible exact Calls.bel (K149.out _)) | (go_at_call 87; with_reducible exact Calls.bel (K150.out _))))
       refine wpQuiet_nil ?_
       refine ⟨[.bool (ng (((r * r) / ((r * r) + (Pl.dotP (Pl.dp n r i) (Pl.dp n r (Pl.nx n i))))).num)), .string (mg (((r * r) / ((r * r) + (Pl.dotP (Pl.dp n r i) (Pl.dp n r (Pl.nx n i))))).num).natAbs), .bool false, .string (mg (dn ((r * r) / ((r * r) + (Pl.dotP (Pl.dp n r i) (Pl.dp n r (Pl.nx n i)))))))], rfl, rfl, by simp [Value.oneCell'], ?_⟩
       intro bq151 wn_147 hbn_147 lbq151 mbq151 c152
       simp only [Act.put, List.setIfInBounds_toArray, List.set_cons_zero, List.set_cons_succ]
       have ne153 : w6.heap.size ≠ bq151 := by have := c141.lt; omega
       have ne153' := ne153.symm
       have ne154 : wr124.heap.size ≠ bq151 := by have := c142.lt; omega
       have ne154' := ne154.symm
       have ne155 : W8.heap.size ≠ bq151 := by have := c143.lt; omega
       have ne155' := ne155.symm
       have wbq151 := Nat.le_trans hB146.size lbq151
       have f156 : Value.ownBlock u5 ≠ some bq151 := fun e_ => by have := (O144.out.lt _ e_).2; omega
       have f157 : Value.ownBlock (.slice (some ⟨g, 0, none⟩) c cg) ≠ some bq151 := fun e_ => by have := (O145.out.lt _ e_).2; omega
       clear hBV_147 dc143 vc143 dc142 vc142 dc141 vc141 hV_147 V_147
       have c158 := c141.up hbn_147
       have c159 := c142.up hbn_147
       have c160 := c143.up hbn_147
       have O161 := Lib.hid (owns_up O144.out hbn_147)
       have O162 := Lib.hid (owns_up O145.out hbn_147)
       have hB163 : Below w.heap.size w wn_147 := bel_up hB146 hbn_147
       clear c141 c142 c143 O144 O145
       have K164 := Lib.hid (fun W => padd_any (Pl.dp n r i) (Pl.dp n r (Pl.nx n i)) W (dp_sz h1 hn hr i) (dp_sz h1 hn hr (Pl.nx n i)) (by omega) (by omega))
       have K165 := Lib.hid (fun W => pscale_any (Pl.addP (Pl.dp n r i) (Pl.dp n r (Pl.nx n i))) ((r * r) / ((r * r) + (Pl.dotP (Pl.dp n r i) (Pl.dp n r (Pl.nx n i))))) W ((dp_sz h1 hn hr i).add (dp_sz h1 hn hr (Pl.nx n i))) ((hr.mul hr).div ((hr.mul hr).add ((dp_sz h1 hn hr i).dot (dp_sz h1 hn hr (Pl.nx n i))))) (by omega) (by omega))
       go_wp2_with fail
       refine wp_named ?_
       intro W10 hW10
       have hL10 : Below wn_147.heap.size wn_147 W10 := by
        rw [hW10]
        exact bB
       have c166 := c158.up hL10
       have c167 := c159.up hL10
       have c168 := c160.up hL10
       have c169 := c152.up hL10
       have O170 := Lib.hid (owns_up O161.out hL10)
       have O171 := Lib.hid (owns_up O162.out hL10)
       have hB172 : Below w.heap.size w W10 := by
        rw [hW10]
        exact bB
       clear hW10 hL10 c158 c159 c160 c152
       have dc166 := fun p : Bel W10 => c166.bel p; have dc167 := fun p : Bel W10 => c167.bel p; have dc168 := fun p : Bel W10 => c168.bel p; have dc169 := fun p : Bel W10 => c169.bel p
       simp only [At, Own, Nat.reduceAdd, and_true] at dc166 dc167 dc168 dc169
       refine wp_region_tail1 6 (.tmp 5) (by kernel_rfl) (by kernel_rfl) rfl rfl (fun _ _ _ h => h) ?_
       simp only [List.take_succ_cons, List.take_zero, List.drop_succ_cons, List.drop_zero]
       go_simp
       repeat (go_big_quiet_step (first | (go_at_call 65; with_reducible exact Calls.bel (K164.out _)) | (go_at_call 89; with_reducible exact Calls.bel (K165.out _))))
       refine wpQuiet_nil ?_
       intro w10 hb10
       have c173 := c166.up hb10
       have c174 := c167.up hb10
       have c175 := c168.up hb10
       have c176 := c169.up hb10
       have O177 := Lib.hid (owns_up O170.out hb10)
       have O178 := Lib.hid (owns_up O171.out hb10)
       have hB179 : Below w.heap.size w w10 := bel_up hB172 hb10
       clear dc166 dc167 dc168 dc169 c166 c167 c168 c169 O170 O171
       have uc173 := c173; have uc174 := c174; have uc175 := c175; have uc176 := c176
       simp only [At, Own, Nat.reduceAdd, and_true] at uc173 uc174 uc175 uc176
       go_wp2_with (at_builtin; refine wpList_appF rfl _ _ _ rfl ti_pt O177.out (hB179).size rfl rfl rfl rfl (pcells_one (Pl.scaleP (Pl.addP (Pl.dp n r i) (Pl.dp n r (Pl.nx n i))) ((r * r) / ((r * r) + (Pl.dotP (Pl.dp n r i) (Pl.dp n r (Pl.nx n i))))))) (by omega) (by decide) ?_)
       intro v180 w_v180 hown_v180 hst_v180
       have O182 : Hid (w_v180.ownsRow w.heap.size 35 8 v180 ((i + 1)) (pts (M ++ [(Pl.scaleP (Pl.addP (Pl.dp n r i) (Pl.dp n r (Pl.nx n i))) ((r * r) / ((r * r) + (Pl.dotP (Pl.dp n r i) (Pl.dp n r (Pl.nx n i))))))]))) := Lib.hid (by rw [pts_snoc]; exact hown_v180)
       have c183 := Own.step hst_v180 f120 c173
       have f184 := hst_v180.far _ c173.lt f120
       have c185 := Own.step hst_v180 f128 c174
       have f186 := hst_v180.far _ c174.lt f128
       have c187 := Own.step hst_v180 f137 c175
       have f188 := hst_v180.far _ c175.lt f137
       have c189 := Own.step hst_v180 f156 c176
       have f190 := hst_v180.far _ c176.lt f156
       have O191 := Lib.hid (owns_step hst_v180 O178.out ff122)
       have ff192 : FarR (.slice (some ⟨g, 0, none⟩) c cg) v180 := FarR.step hst_v180 O178.out ff122
       have ff192' := FarR.symm ff192
       have hB193 : Below w.heap.size w w_v180 := hst_v180.below hB179 (hB179).size (fun r hr => (O177.out.lt r hr).1)
       clear uc173 uc174 uc175 uc176 hown_v180 c173 c174 c175 c176 O178
       have uc183 := c183; have uc185 := c185; have uc187 := c187; have uc189 := c189
       simp only [At, Own, Nat.reduceAdd, and_true] at uc183 uc185 uc187 uc189
       go_wp2
       go_roundw
       case rel => exact ⟨(i + 1), (M ++ [(Pl.scaleP (Pl.addP (Pl.dp n r i) (Pl.dp n r (Pl.nx n i))) ((r * r) / ((r * r) + (Pl.dotP (Pl.dp n r i) (Pl.dp n r (Pl.nx n i))))))]), (by first | rfl | exact congrArg (Value.int .i64) (by omega) | simp [*]), (by repeat (first | with_reducible exact c183 | refine Own.far _ _ (by simp <;> omega) ?_ | with_reducible refine Own.alloc ?_ _)), (by repeat (first | with_reducible exact O182.out | refine owns_far ?_ _ (by first | exact f184 | exact f186 | exact f188 | exact f190) _ | with_reducible refine World.ownsRow.alloc ?_ _)), f184, (by repeat (first | with_reducible exact O191.out | refine owns_far ?_ _ (by first | exact f57 | exact f111 | exact f129 | exact f138 | exact f157) _ | with_reducible refine World.ownsRow.alloc ?_ _)), ff192, (by exact bB), (by omega), Lib.hid (map_snoc HM.out rfl)⟩
       case measure => simp [intOf] <;> omega
      ·skip
       have hkN : c = i := by omega
       subst hkN
       have HOD : Hid (M = Pl.outsD n r) := Lib.hid (outsD_eq HM.out HC4.out)
       have K194 := Lib.hid (fun v W hW => hull_any v (Pl.ringD n r) W hW HZHRD.out HNHRD.out (by omega : 4 ≤ 100000))
       have ub118 := b118
       simp only [At, Own, Nat.reduceAdd, and_true] at ub118
       go_wp2_with (fail)
       refine calls_named ?_
       intro W11 hW11
       have hL11 : Below wr124.heap.size wr124 W11 := by
        rw [hW11]
        exact bB
       have c195 := b118.up hL11
       have O196 := Lib.hid (owns_up O125.out hL11)
       have O197 := Lib.hid (owns_up O126.out hL11)
       have hB198 : Below w.heap.size w W11 := by
        rw [hW11]
        exact bB
       clear hW11 hL11 ub118 b118
       with_reducible refine (K194.out _ _ (HRD.out ▸ pv_own O197.out)).mono ?_
       rintro e w11 ⟨v11, rfl, hv11, hb11⟩
       have c199 := c195.up hb11
       have O200 := Lib.hid (owns_up O196.out hb11)
       have O201 := Lib.hid (owns_up O197.out hb11)
       have hB202 : Below w.heap.size w w11 := bel_up hB198 hb11
       clear c195 O196 O197
       have PW11 := Lib.hid hv11
       clear hv11
       have K203 := Lib.hid (fun v W hW => hull_any v (Pl.outsD n r) W hW HZHOD.out HNHOD.out (by omega : 40 ≤ 100000))
       have uc199 := c199
       simp only [At, Own, Nat.reduceAdd, and_true] at uc199
       go_wp2_with (fail)
       refine calls_named ?_
       intro W12 hW12
       have hL12 : Below w11.heap.size w11 W12 := by
        rw [hW12]
        exact bB
       have c204 := c199.up hL12
       have O205 := Lib.hid (owns_up O200.out hL12)
       have O206 := Lib.hid (owns_up O201.out hL12)
       have hA207 := hL12
       have hB208 : Below w.heap.size w W12 := by
        rw [hW12]
        exact bB
       clear hW12 hL12 uc199 c199
       with_reducible refine (K203.out _ _ (HOD.out ▸ pv_own O205.out)).mono ?_
       rintro e w12 ⟨v12, rfl, hv12, hb12⟩
       have c209 := c204.up hb12
       have O210 := Lib.hid (owns_up O205.out hb12)
       have O211 := Lib.hid (owns_up O206.out hb12)
       have hA212 := bel_up hA207 hb12
       have hB213 : Below w.heap.size w w12 := bel_up hB208 hb12
       clear c204 O205 O206 hA207
       have PW12 := Lib.hid hv12
       clear hv12
       have uc209 := c209
       simp only [At, Own, Nat.reduceAdd, and_true] at uc209
       go_wp2
       go_ret3
       exact ⟨_, _, rfl, (by skip; exact (PW11.out.up hA212)), (by skip; exact PW12.out), (by exact bB)⟩
end Go.Proofs.YtdkkjfnpinckjaaGreatDoor
