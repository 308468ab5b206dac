/-
 The law ConvexCuts: the walk.
-/
import Derived.Test.YtdkkjfnpinckjaaGreatDoorWKnw
import Derived.Test.YtdkkjfnpinckjaaGreatDoorWMr
import Derived.Test.YtdkkjfnpinckjaaGreatDoorWLw1
import Derived.Test.YtdkkjfnpinckjaaGreatDoorWSml
import Derived.Test.YtdkkjfnpinckjaaGreatDoorWCct
import Derived.Test.YtdkkjfnpinckjaaGreatDoorWHcu
import Derived.Test.YtdkkjfnpinckjaaGreatDoorWAre
set_option maxRecDepth 100000
set_option linter.unusedSimpArgs false
set_option linter.unusedVariables false
namespace Go.Proofs.YtdkkjfnpinckjaaGreatDoor
open Go Go.RowKit

theorem cCut_eq {I : Nat} (v : Value) (a b : Rat × Rat) (w : World) (ha : Pl.SzP I a) (hab : a = b) :
 Calls Tryz.prog 34 #[v, .agg #[.bool (ng a.1.num), .string (mg a.1.num.natAbs), .bool false, .string (mg (dn a.1)), .bool (ng a.2.num), .string (mg a.2.num.natAbs), .bool false, .string (mg (dn a.2)), .bool (ng b.1.num), .string (mg b.1.num.natAbs), .bool false, .string (mg (dn b.1)), .bool (ng b.2.num), .string (mg b.2.num.natAbs), .bool false, .string (mg (dn b.2))]] w fun e w' => e = .returned (.tuple #[.slice none 0 0, .int .i64 6]) ∧ Below w.heap.size w w' := by
 subst hab
 exact cCut_zero v a w ha
theorem cutR_cutE {l : List (Rat × Rat)} {a b : Rat × Rat} (hl : Pl.wrap l = l) (hab : a ≠ b) : Pl.wrap (Pl.cutR l a b) = Pl.wrap (Pl.cutE l a b) := Pl.wrap_eq fun p => by rw [Pl.cutR_iff, Pl.cutE_iff hab hl]

set_option maxHeartbeats 4000000 in
theorem cuts_walk (Al : Option Addr) (cl : Nat) (l : List (Int × Int × Bool)) (s t : Int × Int × Bool) (w : World) (hl' : TV w (.slice Al l.length cl) l) (hil : ∀ s ∈ l, In8 s) (hnl : l.length ≤ 9223372036854775807) (hcl : l.length ≤ cl) (hss : In8 s) (hst : In8 t) :
 Calls Tryz.prog 7 #[.slice Al l.length cl, .agg #[.int .i8 s.1, .int .i8 s.2.1, .bool s.2.2], .agg #[.int .i8 t.1, .int .i8 t.2.1, .bool t.2.2]] w fun e w' => e = .returned (.bool true) ∧ Below w.heap.size w w' := by
 have hltl := TV.take (M := min l.length 8) hl' (Nat.min_le_left _ _)
 obtain ⟨Ml, hMl⟩ : ∃ M, M = min l.length 8 := ⟨_, rfl⟩
 rw [← hMl] at hltl
 have hM8l : Ml ≤ 8 := by omega
 have hMNl : Ml ≤ l.length := by omega
 have HTL := Lib.hid hltl
 have HIL : Hid (∀ s ∈ l.take Ml, In8 s) := Lib.hid fun s hs => hil s (List.mem_of_mem_take hs)
 obtain ⟨X, hSl⟩ : ∃ S, Pl.wrap (ptsOf (l.take Ml)) = S := ⟨_, rfl⟩
 have HSWL := Lib.hid hSl
 have HSX : Hid (∀ q ∈ X, Pl.SzP 1 q) := Lib.hid (hSl ▸ wrap_sz (ptsOf_sz HIL.out))
 have HMX : Hid (X.length ≤ 12) := Lib.hid (by have := wrap_len (ptsOf (l.take Ml)); have := ptsOf_len (l.take Ml); rw [hSl] at *; omega)
 have HNX : Hid (X.length ≤ 1000000) := Lib.hid (by have := HMX.out; omega)
 have HKX : Hid (Small X) := Lib.hid ⟨by rw [← hSl]; exact Pl.wrap_wrap _, HSX.out, HMX.out⟩
 clear hSl hltl
 have hmil : min (l.length : Int) 8 = (Ml : Int) := by omega
 have hifl : (if (8 : Int) < (l.length : Int) then (8 : Int) else (l.length : Int)) = (Ml : Int) := by split <;> omega
 generalize hNl : l.length = Nl at *
 have hmcl : (Ml : Int) ≤ cl := by omega
 have hmnl : (Ml : Int) ≤ Nl := by omega
 clear hl' hil hMl
 have HPT := Lib.hid (ptOf_sz hss)
 have HQT := Lib.hid (ptOf_sz hst)
 obtain ⟨L1, hL1⟩ : ∃ L, Pl.wrap (Pl.cutE X (ptOf s) (ptOf t)) = L := ⟨_, rfl⟩
 obtain ⟨L2, hL2⟩ : ∃ L, Pl.wrap (Pl.cutE X (ptOf t) (ptOf s)) = L := ⟨_, rfl⟩
 have HC1 := Lib.hid (cutE_sz1 (l := X) HPT.out HQT.out HSX.out)
 have HC2 := Lib.hid (cutE_sz1 (l := X) HQT.out HPT.out HSX.out)
 have HL1 := Lib.hid hL1
 have HL2 := Lib.hid hL2
 have HZL1 : Hid (∀ q ∈ L1, Pl.SzP 45 q) := Lib.hid (hL1 ▸ wrap_sz HC1.out)
 have HZL2 : Hid (∀ q ∈ L2, Pl.SzP 45 q) := Lib.hid (hL2 ▸ wrap_sz HC2.out)
 have HZX : Hid (∀ q ∈ X, Pl.SzP 45 q) := Lib.hid fun q hq => (HSX.out q hq).mono (by decide)
 have HYL1 : Hid (L1.length ≤ 1000) := Lib.hid (by have h1 := wrap_len (Pl.cutE X (ptOf s) (ptOf t)); have h2 := cutE_len X (ptOf s) (ptOf t); have := HMX.out; rw [hL1] at h1; omega)
 have HYL2 : Hid (L2.length ≤ 1000) := Lib.hid (by have h1 := wrap_len (Pl.cutE X (ptOf t) (ptOf s)); have h2 := cutE_len X (ptOf t) (ptOf s); have := HMX.out; rw [hL2] at h1; omega)
 have HYX : Hid (X.length ≤ 1000) := Lib.hid (Nat.le_trans HMX.out (by decide))
 have HQ1 : Hid (L1.length ≤ 1000000) := Lib.hid (Nat.le_trans HYL1.out (by decide))
 obtain ⟨aL1, haL1⟩ : ∃ a, Pl.area2 L1 = a := ⟨_, rfl⟩
 obtain ⟨aL2, haL2⟩ : ∃ a, Pl.area2 L2 = a := ⟨_, rfl⟩
 obtain ⟨aX, haX⟩ : ∃ a, Pl.area2 X = a := ⟨_, rfl⟩
 have HAL1 := Lib.hid haL1
 have HAL2 := Lib.hid haL2
 have HAX := Lib.hid haX
 have HBL1 : Hid (Pl.Sz 4010001 aL1) := Lib.hid (haL1 ▸ (area_sz (by decide) (by decide) HZL1.out _).mono (by have := HYL1.out; omega))
 have HBL2 : Hid (Pl.Sz 4010001 aL2) := Lib.hid (haL2 ▸ (area_sz (by decide) (by decide) HZL2.out _).mono (by have := HYL2.out; omega))
 have HBX : Hid (Pl.Sz 4010001 aX) := Lib.hid (haX ▸ (area_sz (by decide) (by decide) HZX.out _).mono (by have := HYX.out; omega))
 have HLAW : Hid (ptOf s ≠ ptOf t → aL1 + aL2 = aX ∧ Pl.wrap (Pl.cutR X (ptOf s) (ptOf t)) = L1) := Lib.hid fun hne => by
  have h := Pl.area_cut HKX.out.wrap hne
  rw [cutR_cutE HKX.out.wrap hne, cutR_cutE HKX.out.wrap (Ne.symm hne), hL1, hL2, haL1, haL2, haX] at h
  exact ⟨h, (cutR_cutE HKX.out.wrap hne).trans hL1⟩
 clear hL1 hL2 haL1 haL2 haX
 go_enter Tryz.func7, Tryz.ntmps7
 have K1 := Lib.hid (fun W (h : TV W (.slice Al Ml cl) (l.take Ml)) => HSWL.out ▸ set_any (.slice Al Ml cl) (l.take Ml) W h HIL.out (by rw [List.length_take]; omega))
 go_wp2_with (fail)
 refine calls_named ?_
 intro W1 hW1
 have hL1 : Below w.heap.size w W1 := by
  rw [hW1]
  exact bB
 have c2 : Own W1 (w.heap.size) 0 [.int .i8 s.1, .int .i8 s.2.1, .bool s.2.2] := by
  rw [hW1]
  first
  | (repeat (first | (with_reducible refine own_new (l := [.int .i8 s.1, .int .i8 s.2.1, .bool s.2.2]) ?_; (simp; done)) | with_reducible refine Own.alloc ?_ _ | refine Own.far _ _ (by first | (simp; done) | (simp [*]; done) | (simp; omega)) ?_)); done
  | simp [Own, go_sem]
 have c3 : Own W1 (w.heap.size + 1) 0 [.int .i8 t.1, .int .i8 t.2.1, .bool t.2.2] := by
  rw [hW1]
  first
  | (repeat (first | (with_reducible refine own_new (l := [.int .i8 t.1, .int .i8 t.2.1, .bool t.2.2]) ?_; (simp; done)) | with_reducible refine Own.alloc ?_ _ | refine Own.far _ _ (by first | (simp; done) | (simp [*]; done) | (simp; omega)) ?_)); done
  | simp [Own, go_sem]
 have hB4 : Below w.heap.size w W1 := by
  rw [hW1]
  exact bB
 clear hW1 hL1
 with_reducible refine (K1.out _ (HTL.out.up hB4)).mono ?_
 rintro e w1 ⟨v1, rfl, hv1, hb1⟩
 have c5 := c2.up hb1
 have c6 := c3.up hb1
 have hB7 : Below w.heap.size w w1 := bel_up hB4 hb1
 clear c2 c3
 have PW1 := Lib.hid hv1
 clear hv1
 go_upto_region 2 with fail
 refine wp_named ?_
 intro W2 hW2
 have hL2 : Below w1.heap.size w1 W2 := by
  rw [hW2]
  exact bB
 have c8 := c5.up hL2
 have c9 := c6.up hL2
 have hA10 := hL2
 have hB11 : Below w.heap.size w W2 := by
  rw [hW2]
  exact bB
 clear hW2 hL2 c5 c6
 have K13 := Lib.hid (fun W => point_any s W hss)
 have K14 := Lib.hid (fun W => point_any t W hst)
 refine wp_region_new1 6 5 8 [.bool false, .string ⟨#[]⟩, .bool false, .string ⟨#[]⟩, .bool false, .string ⟨#[]⟩, .bool false, .string ⟨#[]⟩, .bool false, .string ⟨#[]⟩, .bool false, .string ⟨#[]⟩, .bool false, .string ⟨#[]⟩, .bool false, .string ⟨#[]⟩] 59 (by kernel_rfl) (by kernel_rfl) rfl rfl rfl rfl (by intro h_; cases h_) (by simp) (run_alloc_zero Tryz.zeroValue59 rfl) (by kernel_rfl) ?_
 intro V_12 hV_12
 have vc8 := c8.up hV_12; have dc8 := fun p : Bel V_12 => vc8.bel p
 have vc9 := c9.up hV_12; have dc9 := fun p : Bel V_12 => vc9.bel p
 simp only [At, Own, Nat.reduceAdd, and_true] at dc8 dc9
 have hBV_12 := bel_up hB11 hV_12
 have hA16 := bel_up hA10 hV_12
 simp only [List.map_cons, List.map_nil, maskOp, List.take_succ_cons, List.take_zero]
 repeat (go_big_quiet_step (first | (go_at_call 19; with_reducible exact Calls.bel (K13.out _)) | (go_at_call 19; with_reducible exact Calls.bel (K14.out _))))
 refine wpQuiet_nil ?_
 refine ⟨[.bool (ng (((ptOf s).1).num)), .string (mg (((ptOf s).1).num).natAbs), .bool false, .string (mg (dn ((ptOf s).1))), .bool (ng (((ptOf s).2).num)), .string (mg (((ptOf s).2).num).natAbs), .bool false, .string (mg (dn ((ptOf s).2))), .bool (ng (((ptOf t).1).num)), .string (mg (((ptOf t).1).num).natAbs), .bool false, .string (mg (dn ((ptOf t).1))), .bool (ng (((ptOf t).2).num)), .string (mg (((ptOf t).2).num).natAbs), .bool false, .string (mg (dn ((ptOf t).2)))], rfl, rfl, by simp [Value.oneCell'], ?_⟩
 intro bq15 wn_12 hbn_12 lbq15 mbq15 c17
 simp only [Act.put, List.setIfInBounds_toArray, List.set_cons_zero, List.set_cons_succ]
 have ne18 : w.heap.size ≠ bq15 := by have := c8.lt; omega
 have ne18' := ne18.symm
 have ne19 : w.heap.size + 1 ≠ bq15 := by have := c9.lt; omega
 have ne19' := ne19.symm
 have wbq15 := Nat.le_trans hB11.size lbq15
 have an20 : w1.heap.size ≤ bq15 := Nat.le_trans hA10.size lbq15
 clear hA16 hBV_12 dc9 vc9 dc8 vc8 hV_12 V_12
 have c21 := c8.up hbn_12
 have c22 := c9.up hbn_12
 have hA23 := bel_up hA10 hbn_12
 have hB24 : Below w.heap.size w wn_12 := bel_up hB11 hbn_12
 clear c8 c9 hA10
 by_cases hpq : ptOf s = ptOf t
 ·skip
  have EQP := fun W => eqP_in (ptOf s) (ptOf t) W
  rw [decide_eq_true hpq] at EQP
  have HPQ1 := Lib.hid hpq
  have HPQ2 := Lib.hid hpq.symm
  clear hpq
  have uc21 := c21; have uc22 := c22; have uc17 := c17
  simp only [At, Own, Nat.reduceAdd, and_true] at uc21 uc22 uc17
  have K25 := Lib.hid (fun W va => cCut_eq va (ptOf s) (ptOf t) W ((ptOf_sz hss)) HPQ1.out)
  go_wp2_with (fail)
  refine calls_named ?_
  intro W3 hW3
  have hL3 : Below wn_12.heap.size wn_12 W3 := by
   rw [hW3]
   exact bB
  have c26 := c21.up hL3
  have c27 := c22.up hL3
  have c28 := c17.up hL3
  have hA29 := bel_up hA23 hL3
  have hB30 : Below w.heap.size w W3 := by
   rw [hW3]
   exact bB
  clear hW3 hL3 uc21 uc22 uc17 c21 c22 c17 hA23
  with_reducible refine (K25.out _ _).mono ?_
  rintro e w3 ⟨rfl, hb3⟩
  have c31 := c26.up hb3
  have c32 := c27.up hb3
  have c33 := c28.up hb3
  have hA34 := bel_up hA29 hb3
  have hB35 : Below w.heap.size w w3 := bel_up hB30 hb3
  clear c26 c27 c28 hA29
  have uc31 := c31; have uc32 := c32; have uc33 := c33
  simp only [At, Own, Nat.reduceAdd, and_true] at uc31 uc32 uc33
  have K36 := Lib.hid (fun W va => cCut_eq va (ptOf t) (ptOf s) W ((ptOf_sz hst)) HPQ2.out)
  go_wp2_with (fail)
  refine calls_named ?_
  intro W4 hW4
  have hL4 : Below w3.heap.size w3 W4 := by
   rw [hW4]
   exact bB
  have c37 := c31.up hL4
  have c38 := c32.up hL4
  have c39 := c33.up hL4
  have hA40 := bel_up hA34 hL4
  have hB41 : Below w.heap.size w W4 := by
   rw [hW4]
   exact bB
  clear hW4 hL4 uc31 uc32 uc33 c31 c32 c33 hA34
  with_reducible refine (K36.out _ _).mono ?_
  rintro e w4 ⟨rfl, hb4⟩
  have c42 := c37.up hb4
  have c43 := c38.up hb4
  have c44 := c39.up hb4
  have hA45 := bel_up hA40 hb4
  have hB46 : Below w.heap.size w w4 := bel_up hB41 hb4
  clear c37 c38 c39 hA40
  have K47 := Lib.hid (fun W => known_any W)
  have uc42 := c42; have uc43 := c43; have uc44 := c44
  simp only [At, Own, Nat.reduceAdd, and_true] at uc42 uc43 uc44
  go_wp2_with (fail)
  refine calls_named ?_
  intro W5 hW5
  have hL5 : Below w4.heap.size w4 W5 := by
   rw [hW5]
   exact bB
  have c48 := c42.up hL5
  have c49 := c43.up hL5
  have c50 := c44.up hL5
  have hA51 := bel_up hA45 hL5
  have hB52 : Below w.heap.size w W5 := by
   rw [hW5]
   exact bB
  clear hW5 hL5 uc42 uc43 uc44 c42 c43 c44 hA45
  with_reducible refine (K47.out _).mono ?_
  rintro e w5 ⟨rfl, hb5⟩
  have c53 := c48.up hb5
  have c54 := c49.up hb5
  have c55 := c50.up hb5
  have hA56 := bel_up hA51 hb5
  have hB57 : Below w.heap.size w w5 := bel_up hB52 hb5
  clear c48 c49 c50 hA51
  have uc53 := c53; have uc54 := c54; have uc55 := c55
  simp only [At, Own, Nat.reduceAdd, and_true] at uc53 uc54 uc55
  go_wp2_with (fail)
  refine calls_named ?_
  intro W6 hW6
  have hL6 : Below w5.heap.size w5 W6 := by
   rw [hW6]
   exact bB
  have c58 := c53.up hL6
  have c59 := c54.up hL6
  have c60 := c55.up hL6
  have hA61 := bel_up hA56 hL6
  have hB62 : Below w.heap.size w W6 := by
   rw [hW6]
   exact bB
  clear hW6 hL6 uc53 uc54 uc55 c53 c54 c55 hA56
  with_reducible refine (K47.out _).mono ?_
  rintro e w6 ⟨rfl, hb6⟩
  have c63 := c58.up hb6
  have c64 := c59.up hb6
  have c65 := c60.up hb6
  have hA66 := bel_up hA61 hb6
  have hB67 : Below w.heap.size w w6 := bel_up hB62 hb6
  clear c58 c59 c60 hA61
  have uc63 := c63; have uc64 := c64; have uc65 := c65
  simp only [At, Own, Nat.reduceAdd, and_true] at uc63 uc64 uc65
  go_wp2
  go_ret
  refine ⟨rfl, ?_⟩
  exact bB
 ·skip
  obtain ⟨hsum, hre⟩ := HLAW.out hpq
  have HR1 := Lib.hid hre
  have EQP := fun W => eqP_in (ptOf s) (ptOf t) W
  rw [decide_eq_false hpq] at EQP
  have EQA := fun W => eqQ_in (aL1 + aL2) aX W
  rw [decide_eq_true hsum] at EQA
  have HNE1 := Lib.hid hpq
  have HNE2 := Lib.hid (Ne.symm hpq)
  clear hpq hsum hre
  have uc21 := c21; have uc22 := c22; have uc17 := c17
  simp only [At, Own, Nat.reduceAdd, and_true] at uc21 uc22 uc17
  have K68 := Lib.hid (fun W va (ha : PV W va X) => HL1.out ▸ cCut_ok va X (ptOf s) (ptOf t) W ha HSX.out (Nat.le_trans HMX.out (by decide)) (ptOf_sz hss) (ptOf_sz hst) (by decide : 18 * 1 + 6 * 1 + 16 ≤ 100000) HC1.out (by decide : 45 ≤ 100000) HNE1.out)
  go_wp2_with (fail)
  refine calls_named ?_
  intro W7 hW7
  have hL7 : Below wn_12.heap.size wn_12 W7 := by
   rw [hW7]
   exact bB
  have c69 := c21.up hL7
  have c70 := c22.up hL7
  have c71 := c17.up hL7
  have hA72 := bel_up hA23 hL7
  have hB73 : Below w.heap.size w W7 := by
   rw [hW7]
   exact bB
  clear hW7 hL7 uc21 uc22 uc17 c21 c22 c17 hA23
  with_reducible refine (K68.out _ _ (PW1.out.up hA72)).mono ?_
  rintro e w7 ⟨v7, rfl, hv7, hb7⟩
  have c74 := c69.up hb7
  have c75 := c70.up hb7
  have c76 := c71.up hb7
  have hA77 := bel_up hA72 hb7
  have hB78 : Below w.heap.size w w7 := bel_up hB73 hb7
  clear c69 c70 c71 hA72
  have PW7 := Lib.hid hv7
  clear hv7
  have uc74 := c74; have uc75 := c75; have uc76 := c76
  simp only [At, Own, Nat.reduceAdd, and_true] at uc74 uc75 uc76
  have K79 := Lib.hid (fun W va (ha : PV W va X) => HL2.out ▸ cCut_ok va X (ptOf t) (ptOf s) W ha HSX.out (Nat.le_trans HMX.out (by decide)) (ptOf_sz hst) (ptOf_sz hss) (by decide : 18 * 1 + 6 * 1 + 16 ≤ 100000) HC2.out (by decide : 45 ≤ 100000) HNE2.out)
  go_wp2_with (fail)
  refine calls_named ?_
  intro W8 hW8
  have hL8 : Below w7.heap.size w7 W8 := by
   rw [hW8]
   exact bB
  have c80 := c74.up hL8
  have c81 := c75.up hL8
  have c82 := c76.up hL8
  have hA83 := bel_up hA77 hL8
  have hA84 := hL8
  have hB85 : Below w.heap.size w W8 := by
   rw [hW8]
   exact bB
  clear hW8 hL8 uc74 uc75 uc76 c74 c75 c76 hA77
  with_reducible refine (K79.out _ _ (PW1.out.up hA83)).mono ?_
  rintro e w8 ⟨v8, rfl, hv8, hb8⟩
  have c86 := c80.up hb8
  have c87 := c81.up hb8
  have c88 := c82.up hb8
  have hA89 := bel_up hA83 hb8
  have hA90 := bel_up hA84 hb8
  have hB91 : Below w.heap.size w w8 := bel_up hB85 hb8
  clear c80 c81 c82 hA83 hA84
  have PW8 := Lib.hid hv8
  clear hv8
  have K92 := Lib.hid (fun W => known_any W)
  have uc86 := c86; have uc87 := c87; have uc88 := c88
  simp only [At, Own, Nat.reduceAdd, and_true] at uc86 uc87 uc88
  go_wp2_with (fail)
  refine calls_named ?_
  intro W9 hW9
  have hL9 : Below w8.heap.size w8 W9 := by
   rw [hW9]
   exact bB
  have c93 := c86.up hL9
  have c94 := c87.up hL9
  have c95 := c88.up hL9
  have hA96 := bel_up hA89 hL9
  have hA97 := bel_up hA90 hL9
  have hA98 := hL9
  have hB99 : Below w.heap.size w W9 := by
   rw [hW9]
   exact bB
  clear hW9 hL9 uc86 uc87 uc88 c86 c87 c88 hA89 hA90
  with_reducible refine (K92.out _).mono ?_
  rintro e w9 ⟨rfl, hb9⟩
  have c100 := c93.up hb9
  have c101 := c94.up hb9
  have c102 := c95.up hb9
  have hA103 := bel_up hA96 hb9
  have hA104 := bel_up hA97 hb9
  have hA105 := bel_up hA98 hb9
  have hB106 : Below w.heap.size w w9 := bel_up hB99 hb9
  clear c93 c94 c95 hA96 hA97 hA98
  have uc100 := c100; have uc101 := c101; have uc102 := c102
  simp only [At, Own, Nat.reduceAdd, and_true] at uc100 uc101 uc102
  have K107 := Lib.hid (fun W va (ha : PV W va X) => HR1.out ▸ hcut_any va X (ptOf s) (ptOf t) W ha HSX.out (Nat.le_trans HMX.out (by decide)) (ptOf_sz hss) (ptOf_sz hst) (by decide : 18 * 1 + 9 * 1 + 18 ≤ 100000))
  go_wp2_with (fail)
  refine calls_named ?_
  intro W10 hW10
  have hL10 : Below w9.heap.size w9 W10 := by
   rw [hW10]
   exact bB
  have c108 := c100.up hL10
  have c109 := c101.up hL10
  have c110 := c102.up hL10
  have hA111 := bel_up hA103 hL10
  have hA112 := bel_up hA104 hL10
  have hA113 := bel_up hA105 hL10
  have hB114 : Below w.heap.size w W10 := by
   rw [hW10]
   exact bB
  clear hW10 hL10 uc100 uc101 uc102 c100 c101 c102 hA103 hA104 hA105
  with_reducible refine (K107.out _ _ (PW1.out.up hA111)).mono ?_
  rintro e w10 ⟨v10, rfl, hv10, hb10⟩
  have c115 := c108.up hb10
  have c116 := c109.up hb10
  have c117 := c110.up hb10
  have hA118 := bel_up hA111 hb10
  have hA119 := bel_up hA112 hb10
  have hA120 := bel_up hA113 hb10
  have hB121 : Below w.heap.size w w10 := bel_up hB114 hb10
  clear c108 c109 c110 hA111 hA112 hA113
  have PW10 := Lib.hid hv10
  clear hv10
  have K122 := Lib.hid (fun W va vb (ha : PV W va L1) (hb : PV W vb L1) => same_true va vb L1 W ha hb HQ1.out)
  have uc115 := c115; have uc116 := c116; have uc117 := c117
  simp only [At, Own, Nat.reduceAdd, and_true] at uc115 uc116 uc117
  go_wp2_with (fail)
  refine calls_named ?_
  intro W11 hW11
  have hL11 : Below w10.heap.size w10 W11 := by
   rw [hW11]
   exact bB
  have c123 := c115.up hL11
  have c124 := c116.up hL11
  have c125 := c117.up hL11
  have hA126 := bel_up hA118 hL11
  have hA127 := bel_up hA119 hL11
  have hA128 := bel_up hA120 hL11
  have hA129 := hL11
  have hB130 : Below w.heap.size w W11 := by
   rw [hW11]
   exact bB
  clear hW11 hL11 uc115 uc116 uc117 c115 c116 c117 hA118 hA119 hA120
  with_reducible refine (K122.out _ _ _ (PW7.out.up hA127) (PW10.out.up hA129)).mono ?_
  rintro e w11 ⟨rfl, hb11⟩
  have c131 := c123.up hb11
  have c132 := c124.up hb11
  have c133 := c125.up hb11
  have hA134 := bel_up hA126 hb11
  have hA135 := bel_up hA127 hb11
  have hA136 := bel_up hA128 hb11
  have hA137 := bel_up hA129 hb11
  have hB138 : Below w.heap.size w w11 := bel_up hB130 hb11
  clear c123 c124 c125 hA126 hA127 hA128 hA129
  have K139 := Lib.hid (fun W va (ha : PV W va L1) => HAL1.out ▸ harea_any va L1 W ha HZL1.out HYL1.out (by decide : 45 ≤ 1000))
  have uc131 := c131; have uc132 := c132; have uc133 := c133
  simp only [At, Own, Nat.reduceAdd, and_true] at uc131 uc132 uc133
  go_wp2_with (fail)
  refine calls_named ?_
  intro W12 hW12
  have hL12 : Below w11.heap.size w11 W12 := by
   rw [hW12]
   exact bB
  have c140 := c131.up hL12
  have c141 := c132.up hL12
  have c142 := c133.up hL12
  have hA143 := bel_up hA134 hL12
  have hA144 := bel_up hA135 hL12
  have hA145 := bel_up hA136 hL12
  have hA146 := bel_up hA137 hL12
  have hB147 : Below w.heap.size w W12 := by
   rw [hW12]
   exact bB
  clear hW12 hL12 uc131 uc132 uc133 c131 c132 c133 hA134 hA135 hA136 hA137
  with_reducible refine (K139.out _ _ (PW7.out.up hA144)).mono ?_
  rintro e w12 ⟨rfl, hb12⟩
  have c148 := c140.up hb12
  have c149 := c141.up hb12
  have c150 := c142.up hb12
  have hA151 := bel_up hA143 hb12
  have hA152 := bel_up hA144 hb12
  have hA153 := bel_up hA145 hb12
  have hA154 := bel_up hA146 hb12
  have hB155 : Below w.heap.size w w12 := bel_up hB147 hb12
  clear c140 c141 c142 hA143 hA144 hA145 hA146
  have K156 := Lib.hid (fun W va (ha : PV W va L2) => HAL2.out ▸ harea_any va L2 W ha HZL2.out HYL2.out (by decide : 45 ≤ 1000))
  have uc148 := c148; have uc149 := c149; have uc150 := c150
  simp only [At, Own, Nat.reduceAdd, and_true] at uc148 uc149 uc150
  go_wp2_with (fail)
  refine calls_named ?_
  intro W13 hW13
  have hL13 : Below w12.heap.size w12 W13 := by
   rw [hW13]
   exact bB
  have c157 := c148.up hL13
  have c158 := c149.up hL13
  have c159 := c150.up hL13
  have hA160 := bel_up hA151 hL13
  have hA161 := bel_up hA152 hL13
  have hA162 := bel_up hA153 hL13
  have hA163 := bel_up hA154 hL13
  have hB164 : Below w.heap.size w W13 := by
   rw [hW13]
   exact bB
  clear hW13 hL13 uc148 uc149 uc150 c148 c149 c150 hA151 hA152 hA153 hA154
  with_reducible refine (K156.out _ _ (PW8.out.up hA162)).mono ?_
  rintro e w13 ⟨rfl, hb13⟩
  have c165 := c157.up hb13
  have c166 := c158.up hb13
  have c167 := c159.up hb13
  have hA168 := bel_up hA160 hb13
  have hA169 := bel_up hA161 hb13
  have hA170 := bel_up hA162 hb13
  have hA171 := bel_up hA163 hb13
  have hB172 : Below w.heap.size w w13 := bel_up hB164 hb13
  clear c157 c158 c159 hA160 hA161 hA162 hA163
  have K173 := Lib.hid (fun W => radd_any aL1 aL2 W (HBL1.out.mono (by omega)) (HBL2.out.mono (by omega)))
  have uc165 := c165; have uc166 := c166; have uc167 := c167
  simp only [At, Own, Nat.reduceAdd, and_true] at uc165 uc166 uc167
  go_wp2_with (fail)
  refine calls_named ?_
  intro W14 hW14
  have hL14 : Below w13.heap.size w13 W14 := by
   rw [hW14]
   exact bB
  have c174 := c165.up hL14
  have c175 := c166.up hL14
  have c176 := c167.up hL14
  have hA177 := bel_up hA168 hL14
  have hA178 := bel_up hA169 hL14
  have hA179 := bel_up hA170 hL14
  have hA180 := bel_up hA171 hL14
  have hB181 : Below w.heap.size w W14 := by
   rw [hW14]
   exact bB
  clear hW14 hL14 uc165 uc166 uc167 c165 c166 c167 hA168 hA169 hA170 hA171
  with_reducible refine (K173.out _).mono ?_
  rintro e w14 ⟨rfl, hb14⟩
  have c182 := c174.up hb14
  have c183 := c175.up hb14
  have c184 := c176.up hb14
  have hA185 := bel_up hA177 hb14
  have hA186 := bel_up hA178 hb14
  have hA187 := bel_up hA179 hb14
  have hA188 := bel_up hA180 hb14
  have hB189 : Below w.heap.size w w14 := bel_up hB181 hb14
  clear c174 c175 c176 hA177 hA178 hA179 hA180
  have K190 := Lib.hid (fun W va (ha : PV W va X) => HAX.out ▸ harea_any va X W ha HZX.out HYX.out (by decide : 45 ≤ 1000))
  have uc182 := c182; have uc183 := c183; have uc184 := c184
  simp only [At, Own, Nat.reduceAdd, and_true] at uc182 uc183 uc184
  go_wp2_with (fail)
  refine calls_named ?_
  intro W15 hW15
  have hL15 : Below w14.heap.size w14 W15 := by
   rw [hW15]
   exact bB
  have c191 := c182.up hL15
  have c192 := c183.up hL15
  have c193 := c184.up hL15
  have hA194 := bel_up hA185 hL15
  have hA195 := bel_up hA186 hL15
  have hA196 := bel_up hA187 hL15
  have hA197 := bel_up hA188 hL15
  have hB198 : Below w.heap.size w W15 := by
   rw [hW15]
   exact bB
  clear hW15 hL15 uc182 uc183 uc184 c182 c183 c184 hA185 hA186 hA187 hA188
  with_reducible refine (K190.out _ _ (PW1.out.up hA194)).mono ?_
  rintro e w15 ⟨rfl, hb15⟩
  have c199 := c191.up hb15
  have c200 := c192.up hb15
  have c201 := c193.up hb15
  have hA202 := bel_up hA194 hb15
  have hA203 := bel_up hA195 hb15
  have hA204 := bel_up hA196 hb15
  have hA205 := bel_up hA197 hb15
  have hB206 : Below w.heap.size w w15 := bel_up hB198 hb15
  clear c191 c192 c193 hA194 hA195 hA196 hA197
  have uc199 := c199; have uc200 := c200; have uc201 := c201
  simp only [At, Own, Nat.reduceAdd, and_true] at uc199 uc200 uc201
  go_wp2
  go_ret
  refine ⟨rfl, ?_⟩
  exact bB
theorem cuts_any (vl : Value) (l : List (Int × Int × Bool)) (s t : Int × Int × Bool) (w : World) (hl : TV w vl l) (hil : ∀ s ∈ l, In8 s) (hnl : l.length ≤ 9223372036854775807) (hss : In8 s) (hst : In8 t) :
 Calls Tryz.prog 7 #[vl, .agg #[.int .i8 s.1, .int .i8 s.2.1, .bool s.2.2], .agg #[.int .i8 t.1, .int .i8 t.2.1, .bool t.2.2]] w fun e w' => e = .returned (.bool true) ∧ Below w.heap.size w w' := by
 obtain ⟨Al, cl, rfl, hcl, hml, hxl⟩ := hl
 exact cuts_walk Al cl l s t w ⟨Al, cl, rfl, hcl, hml, hxl⟩ hil hnl hcl hss hst
end Go.Proofs.YtdkkjfnpinckjaaGreatDoor
