/-
 The law ConvexMeets: the walk.
-/
import Derived.Test.YtdkkjfnpinckjaaGreatDoorWKnw
import Derived.Test.YtdkkjfnpinckjaaGreatDoorWMr
import Derived.Test.YtdkkjfnpinckjaaGreatDoorWLw1
import Derived.Test.YtdkkjfnpinckjaaGreatDoorWSml
import Derived.Test.YtdkkjfnpinckjaaGreatDoorWCutI
import Derived.Deep.RegionHeld3
import Derived.Deep.DeepCutAuto
set_option maxRecDepth 100000
set_option linter.unusedSimpArgs false
set_option linter.unusedVariables false
namespace Go.Proofs.YtdkkjfnpinckjaaGreatDoor
open Go Go.RowKit

set_option maxHeartbeats 4000000 in
theorem meets_walk (Aa Ab : Option Addr) (ca cb : Nat) (a b : List (Int × Int × Bool)) (s : Int × Int × Bool) (w : World) (ha' : TV w (.slice Aa a.length ca) a) (hia : ∀ s ∈ a, In8 s) (hna : a.length ≤ 9223372036854775807) (hca : a.length ≤ ca) (hb' : TV w (.slice Ab b.length cb) b) (hib : ∀ s ∈ b, In8 s) (hnb : b.length ≤ 9223372036854775807) (hcb : b.length ≤ cb) (hsp : In8 s) :
 Calls Tryz.prog 13 #[.slice Aa a.length ca, .slice Ab b.length cb, .agg #[.int .i8 s.1, .int .i8 s.2.1, .bool s.2.2]] w fun e w' => e = .returned (.bool true) ∧ Below w.heap.size w w' := by
 have hlta := TV.take (M := min a.length 6) ha' (Nat.min_le_left _ _)
 obtain ⟨Ma, hMa⟩ : ∃ M, M = min a.length 6 := ⟨_, rfl⟩
 rw [← hMa] at hlta
 have hM8a : Ma ≤ 6 := by omega
 have hMNa : Ma ≤ a.length := by omega
 have HTA := Lib.hid hlta
 have HIA : Hid (∀ s ∈ a.take Ma, In8 s) := Lib.hid fun s hs => hia s (List.mem_of_mem_take hs)
 obtain ⟨X, hSa⟩ : ∃ S, Pl.wrap (ptsOf (a.take Ma)) = S := ⟨_, rfl⟩
 have HSWA := Lib.hid hSa
 have HSX : Hid (∀ q ∈ X, Pl.SzP 1 q) := Lib.hid (hSa ▸ wrap_sz (ptsOf_sz HIA.out))
 have HMX : Hid (X.length ≤ 12) := Lib.hid (by have := wrap_len (ptsOf (a.take Ma)); have := ptsOf_len (a.take Ma); rw [hSa] at *; omega)
 have HNX : Hid (X.length ≤ 1000000) := Lib.hid (by have := HMX.out; omega)
 have HKX : Hid (Small X) := Lib.hid ⟨by rw [← hSa]; exact Pl.wrap_wrap _, HSX.out, HMX.out⟩
 clear hSa hlta
 have hmia : min (a.length : Int) 6 = (Ma : Int) := by omega
 have hifa : (if (6 : Int) < (a.length : Int) then (6 : Int) else (a.length : Int)) = (Ma : Int) := by split <;> omega
 generalize hNa : a.length = Na at *
 have hmca : (Ma : Int) ≤ ca := by omega
 have hmna : (Ma : Int) ≤ Na := by omega
 clear ha' hia hMa
 have hltb := TV.take (M := min b.length 6) hb' (Nat.min_le_left _ _)
 obtain ⟨Mb, hMb⟩ : ∃ M, M = min b.length 6 := ⟨_, rfl⟩
 rw [← hMb] at hltb
 have hM8b : Mb ≤ 6 := by omega
 have hMNb : Mb ≤ b.length := by omega
 have HTB := Lib.hid hltb
 have HIB : Hid (∀ s ∈ b.take Mb, In8 s) := Lib.hid fun s hs => hib s (List.mem_of_mem_take hs)
 obtain ⟨Y, hSb⟩ : ∃ S, Pl.wrap (ptsOf (b.take Mb)) = S := ⟨_, rfl⟩
 have HSWB := Lib.hid hSb
 have HSY : Hid (∀ q ∈ Y, Pl.SzP 1 q) := Lib.hid (hSb ▸ wrap_sz (ptsOf_sz HIB.out))
 have HMY : Hid (Y.length ≤ 12) := Lib.hid (by have := wrap_len (ptsOf (b.take Mb)); have := ptsOf_len (b.take Mb); rw [hSb] at *; omega)
 have HNY : Hid (Y.length ≤ 1000000) := Lib.hid (by have := HMY.out; omega)
 have HKY : Hid (Small Y) := Lib.hid ⟨by rw [← hSb]; exact Pl.wrap_wrap _, HSY.out, HMY.out⟩
 clear hSb hltb
 have hmib : min (b.length : Int) 6 = (Mb : Int) := by omega
 have hifb : (if (6 : Int) < (b.length : Int) then (6 : Int) else (b.length : Int)) = (Mb : Int) := by split <;> omega
 generalize hNb : b.length = Nb at *
 have hmcb : (Mb : Int) ≤ cb := by omega
 have hmnb : (Mb : Int) ≤ Nb := by omega
 clear hb' hib hMb
 obtain ⟨L, hL⟩ : ∃ L, Pl.interC X Y = L := ⟨_, rfl⟩
 have HL := Lib.hid hL
 have HQX := HNX
 have HQY := HNY
 have HQL : Hid (L.length ≤ 1000000) := Lib.hid (by have := inter_len HKX.out HKY.out; rw [hL] at this; omega)
 have HZX : Hid (∀ q ∈ X, Pl.SzP 153 q) := Lib.hid fun q hq => (HSX.out q hq).mono (by decide)
 have HZY : Hid (∀ q ∈ Y, Pl.SzP 153 q) := Lib.hid fun q hq => (HSY.out q hq).mono (by decide)
 have HZL : Hid (∀ q ∈ L, Pl.SzP 153 q) := Lib.hid (by rw [← hL]; exact (inter_good HKX.out HKY.out).sz)
 have hlaw := inter_loc HKX.out HKY.out (ptOf s)
 rw [hL] at hlaw
 obtain ⟨tX, hTX⟩ : ∃ t, Pl.locR X (ptOf s) = t := ⟨_, rfl⟩
 obtain ⟨tY, hTY⟩ : ∃ t, Pl.locR Y (ptOf s) = t := ⟨_, rfl⟩
 obtain ⟨tL, hTL⟩ : ∃ t, Pl.locR L (ptOf s) = t := ⟨_, rfl⟩
 rw [hTX, hTY, hTL] at hlaw
 have HLAW := Lib.hid hlaw
 have HTX := Lib.hid hTX
 have HTY := Lib.hid hTY
 have HTL := Lib.hid hTL
 clear hL hTX hTY hTL hlaw
 go_enter Tryz.func13, Tryz.ntmps13
 go_upto_region 1 with fail
 refine wp_named ?_
 intro W1 hW1
 have hL1 : Below w.heap.size w W1 := by
  rw [hW1]
  exact bB
 have c1 : Own W1 (w.heap.size) 0 [.int .i8 s.1, .int .i8 s.2.1, .bool s.2.2] := by
  rw [hW1]
  first
  | (repeat (first | (with_reducible refine own_new (l := [.int .i8 s.1, .int .i8 s.2.1, .bool s.2.2]) ?_; (simp; done)) | with_reducible refine Own.alloc ?_ _ | refine Own.far _ _ (by first | (simp; done) | (simp [*]; done) | (simp; omega)) ?_)); done
  | simp [Own, go_sem]
 have hB2 : Below w.heap.size w W1 := by
  rw [hW1]
  exact bB
 clear hW1 hL1
 have K3 := Lib.hid (fun W (h : TV W (.slice Aa Ma ca) (a.take Ma)) => HSWA.out ▸ set_any (.slice Aa Ma ca) (a.take Ma) W h HIA.out (by rw [List.length_take]; omega))
 have K5 := Lib.hid (fun W (h : TV W (.slice Ab Mb cb) (b.take Mb)) => HSWB.out ▸ set_any (.slice Ab Mb cb) (b.take Mb) W h HIB.out (by rw [List.length_take]; omega))
 have HSS7 : ∀ w' : World, Below W1.heap.size W1 w' → (w'.cell? ⟨w.heap.size, 0, none⟩ = some (.int .i8 s.1) ∧ w'.cell? ⟨w.heap.size, 1, none⟩ = some (.int .i8 s.2.1) ∧ w'.cell? ⟨w.heap.size, 2, none⟩ = some (.bool s.2.2)) := fun w' hb => by
  have qc1 := c1.up hb
  simp only [At, Own, CE, CS, Nat.reduceAdd, Nat.reduceMul, Nat.zero_mul, Nat.add_zero, Nat.add_assoc, and_true] at qc1
  try simp only [Nat.add_assoc, Nat.reduceAdd]
  simp [*]
 go_cut [7, 8] (fun x7 x8 wx => PV wx x7 X ∧ PV wx x8 Y ∧ Below W1.heap.size W1 wx)
 case first =>
  have hu := HSS7 W1 (Below.refl _ _)
  go_region_held3 (fun w' => w'.cell? ⟨w.heap.size, 0, none⟩ = some (.int .i8 s.1) ∧ w'.cell? ⟨w.heap.size, 1, none⟩ = some (.int .i8 s.2.1) ∧ w'.cell? ⟨w.heap.size, 2, none⟩ = some (.bool s.2.2)) (refine HSS7 _ ?_ <;> (repeat (first | with_reducible exact Below.refl _ _ | with_reducible refine bel_alloc ?_ _ | with_reducible refine Below.drew ?_ | (refine Below.setCell ?_ (by first | (simp; done) | (simp; omega) | omega) _) | with_reducible refine bel_up ?_ (by with_reducible assumption)))) (first
   | (go_at_call 16; with_reducible refine (K3.out _ (HTA.out.up (bel_up hB2 (by (repeat (first | with_reducible exact Below.refl _ _ | with_reducible refine bel_alloc ?_ _ | with_reducible refine Below.drew ?_ | (refine Below.setCell ?_ (by first | (simp; done) | (simp; omega) | omega) _) | with_reducible refine bel_up ?_ (by with_reducible assumption))))))).mono ?_; rintro e v_4 ⟨vv_4, rfl, hv_4, hbq_4⟩; have hsz_4 := hbq_4.size; (try simp [size_drewC] at hsz_4))
   | (go_at_call 16; with_reducible refine (K5.out _ (HTB.out.up (bel_up hB2 (by (repeat (first | with_reducible exact Below.refl _ _ | with_reducible refine bel_alloc ?_ _ | with_reducible refine Below.drew ?_ | (refine Below.setCell ?_ (by first | (simp; done) | (simp; omega) | omega) _) | with_reducible refine bel_up ?_ (by with_reducible assumption))))))).mono ?_; rintro e v_6 ⟨vv_6, rfl, hv_6, hbq_6⟩; have hsz_6 := hbq_6.size; (try simp [size_drewC] at hsz_6)))
  all_goals
   go_wp2_with fail
   go_meet
   refine ⟨(hv_4.up (by repeat (first | with_reducible exact Below.refl _ _ | with_reducible refine bel_alloc ?_ _ | with_reducible refine Below.drew ?_ | (refine Below.setCell ?_ (by first | (simp; done) | (simp; omega) | omega) _) | with_reducible refine bel_up ?_ (by with_reducible assumption)))), (hv_6.up (by repeat (first | with_reducible exact Below.refl _ _ | with_reducible refine bel_alloc ?_ _ | with_reducible refine Below.drew ?_ | (refine Below.setCell ?_ (by first | (simp; done) | (simp; omega) | omega) _) | with_reducible refine bel_up ?_ (by with_reducible assumption)))), ?_⟩
   ·(repeat (first | with_reducible exact Below.refl _ _ | with_reducible refine bel_alloc ?_ _ | with_reducible refine Below.drew ?_ | (refine Below.setCell ?_ (by first | (simp; done) | (simp; omega) | omega) _) | with_reducible refine bel_up ?_ (by with_reducible assumption)))
 case rest =>
  obtain ⟨lv8, lv9, hbz1⟩ := hcut
  obtain ⟨wz1, hwz1⟩ : ∃ W_, W_ = wc := ⟨_, rfl⟩
  subst hwz1
  clear HSS7
  have c10 := c1.up hbz1
  have hB11 : Below w.heap.size w wz1 := bel_up hB2 hbz1
  clear c1
  have PV12 := Lib.hid lv8
  clear lv8
  have PV14 := Lib.hid lv9
  clear lv9
  have K16 := Lib.hid (fun W va vb (ha : PV W va X) (hb : PV W vb Y) => HL.out ▸ inter_small va vb X Y W ha hb HKX.out HKY.out)
  have uc10 := c10
  simp only [At, Own, Nat.reduceAdd, and_true] at uc10
  go_wp2_with (fail)
  refine calls_named ?_
  intro W2 hW2
  have hL2 : Below wz1.heap.size wz1 W2 := by
   rw [hW2]
   exact bB
  have c17 := c10.up hL2
  have hA18 := hL2
  have hB19 : Below w.heap.size w W2 := by
   rw [hW2]
   exact bB
  clear hW2 hL2 uc10 c10
  with_reducible refine (K16.out _ _ _ (PV12.out.up hA18) (PV14.out.up hA18)).mono ?_
  rintro e w2 ⟨v2, rfl, hv2, hb2⟩
  have c20 := c17.up hb2
  have hA21 := bel_up hA18 hb2
  have hB22 : Below w.heap.size w w2 := bel_up hB19 hb2
  clear c17 hA18
  have PW2 := Lib.hid hv2
  clear hv2
  have uc20 := c20
  simp only [At, Own, Nat.reduceAdd, and_true] at uc20
  have K23 := Lib.hid (fun W => point_any s W hsp)
  go_wp2_with (fail)
  refine calls_named ?_
  intro W3 hW3
  have hL3 : Below w2.heap.size w2 W3 := by
   rw [hW3]
   exact bB
  have c24 := c20.up hL3
  have hA25 := bel_up hA21 hL3
  have hA26 := hL3
  have hB27 : Below w.heap.size w W3 := by
   rw [hW3]
   exact bB
  clear hW3 hL3 uc20 c20 hA21
  with_reducible refine (K23.out _).mono ?_
  rintro e w3 ⟨rfl, hb3⟩
  have c28 := c24.up hb3
  have hA29 := bel_up hA25 hb3
  have hA30 := bel_up hA26 hb3
  have hB31 : Below w.heap.size w w3 := bel_up hB27 hb3
  clear c24 hA25 hA26
  have an32 : wz1.heap.size ≤ w3.heap.size := by have := hA29.size; omega
  have an33 : w2.heap.size ≤ w3.heap.size := by have := hA30.size; omega
  have ne34_ : w.heap.size < w3.heap.size := by have := c28.lt; omega
  have ne34 := Nat.ne_of_lt ne34_
  have ne34' := ne34.symm
  have uc28 := c28
  simp only [At, Own, Nat.reduceAdd, and_true] at uc28
  by_cases hc46 : (tX : Int) < 0
  ·skip
   have hc46_ : ¬ ((0 : Int) ≤ tX) := by omega
   have K47 := Lib.hid (fun W va (ha : PV W va X) => HTX.out ▸ hloc_any va X (ptOf s) W ha HZX.out HQX.out (by decide : 153 ≤ 100000) ((ptOf_sz hsp).mono (by decide)))
   go_wp2_with (fail)
   refine calls_named ?_
   intro W5 hW5
   have hL5 : Below w3.heap.size w3 W5 := by
    rw [hW5]
    exact bB
   have c48 := c28.up hL5
   have c49 : Own W5 (w3.heap.size) 0 [.bool (ng (((ptOf s).1).num)), .string (mg (((ptOf s).1).num).natAbs), .bool false, .string (mg (dn ((ptOf s).1))), .bool (ng (((ptOf s).2).num)), .string (mg (((ptOf s).2).num).natAbs), .bool false, .string (mg (dn ((ptOf s).2)))] := by
    rw [hW5]
    first
    | (repeat (first | (with_reducible refine own_new (l := [.bool (ng (((ptOf s).1).num)), .string (mg (((ptOf s).1).num).natAbs), .bool false, .string (mg (dn ((ptOf s).1))), .bool (ng (((ptOf s).2).num)), .string (mg (((ptOf s).2).num).natAbs), .bool false, .string (mg (dn ((ptOf s).2)))]) ?_; (simp; done)) | with_reducible refine Own.alloc ?_ _ | refine Own.far _ _ (by first | (simp; done) | (simp [*]; done) | (simp; omega)) ?_)); done
    | simp [Own, go_sem, uc28, ne34, ne34', ne34_]
   have hA50 := bel_up hA29 hL5
   have hA51 := bel_up hA30 hL5
   have hB52 : Below w.heap.size w W5 := by
    rw [hW5]
    exact bB
   clear hW5 hL5 uc28 c28 hA29 hA30
   with_reducible refine (K47.out _ _ (PV12.out.up hA50)).mono ?_
   rintro e w5 ⟨rfl, hb5⟩
   have c53 := c48.up hb5
   have c54 := c49.up hb5
   have hA55 := bel_up hA50 hb5
   have hA56 := bel_up hA51 hb5
   have hB57 : Below w.heap.size w w5 := bel_up hB52 hb5
   clear c48 c49 hA50 hA51
   have hL1 : (tL : Int) < 0 := by have := HLAW.out; simp only [decide_eq_false (show ¬ (0 : Int) ≤ tX by omega), Bool.and_true, Bool.true_and, Bool.false_and, Bool.and_false, decide_eq_true_eq, decide_eq_false_iff_not] at this; omega
   have hL2 : ¬ (0 : Int) ≤ tL := by omega
   have K58 := Lib.hid (fun W => known_any W)
   have uc53 := c53; have uc54 := c54
   simp only [At, Own, Nat.reduceAdd, and_true] at uc53 uc54
   go_wp2_with (fail)
   refine calls_named ?_
   intro W6 hW6
   have hL6 : Below w5.heap.size w5 W6 := by
    rw [hW6]
    exact bB
   have c59 := c53.up hL6
   have c60 := c54.up hL6
   have hA61 := bel_up hA55 hL6
   have hA62 := bel_up hA56 hL6
   have hB63 : Below w.heap.size w W6 := by
    rw [hW6]
    exact bB
   clear hW6 hL6 uc53 uc54 c53 c54 hA55 hA56
   with_reducible refine (K58.out _).mono ?_
   rintro e w6 ⟨rfl, hb6⟩
   have c64 := c59.up hb6
   have c65 := c60.up hb6
   have hA66 := bel_up hA61 hb6
   have hA67 := bel_up hA62 hb6
   have hB68 : Below w.heap.size w w6 := bel_up hB63 hb6
   clear c59 c60 hA61 hA62
   have uc64 := c64; have uc65 := c65
   simp only [At, Own, Nat.reduceAdd, and_true] at uc64 uc65
   have K69 := Lib.hid (fun W va (ha : PV W va L) => HTL.out ▸ cloc_any va L (ptOf s) W ha HZL.out HQL.out (by decide : 153 ≤ 100000) ((ptOf_sz hsp).mono (by decide)))
   go_wp2_with (fail)
   refine calls_named ?_
   intro W7 hW7
   have hL7 : Below w6.heap.size w6 W7 := by
    rw [hW7]
    exact bB
   have c70 := c64.up hL7
   have c71 := c65.up hL7
   have hA72 := bel_up hA66 hL7
   have hA73 := bel_up hA67 hL7
   have hB74 : Below w.heap.size w W7 := by
    rw [hW7]
    exact bB
   clear hW7 hL7 uc64 uc65 c64 c65 hA66 hA67
   with_reducible refine (K69.out _ _ (PW2.out.up hA73)).mono ?_
   rintro e w7 ⟨rfl, hb7⟩
   have c75 := c70.up hb7
   have c76 := c71.up hb7
   have hA77 := bel_up hA72 hb7
   have hA78 := bel_up hA73 hb7
   have hB79 : Below w.heap.size w w7 := bel_up hB74 hb7
   clear c70 c71 hA72 hA73
   have uc75 := c75; have uc76 := c76
   simp only [At, Own, Nat.reduceAdd, and_true] at uc75 uc76
   have K80 := Lib.hid (fun W va (ha : PV W va X) => HTX.out ▸ cloc_any va X (ptOf s) W ha HZX.out HQX.out (by decide : 153 ≤ 100000) ((ptOf_sz hsp).mono (by decide)))
   go_wp2_with (fail)
   refine calls_named ?_
   intro W8 hW8
   have hL8 : Below w7.heap.size w7 W8 := by
    rw [hW8]
    exact bB
   have c81 := c75.up hL8
   have c82 := c76.up hL8
   have hA83 := bel_up hA77 hL8
   have hA84 := bel_up hA78 hL8
   have hB85 : Below w.heap.size w W8 := by
    rw [hW8]
    exact bB
   clear hW8 hL8 uc75 uc76 c75 c76 hA77 hA78
   with_reducible refine (K80.out _ _ (PV12.out.up hA83)).mono ?_
   rintro e w8 ⟨rfl, hb8⟩
   have c86 := c81.up hb8
   have c87 := c82.up hb8
   have hA88 := bel_up hA83 hb8
   have hA89 := bel_up hA84 hb8
   have hB90 : Below w.heap.size w w8 := bel_up hB85 hb8
   clear c81 c82 hA83 hA84
   have uc86 := c86; have uc87 := c87
   simp only [At, Own, Nat.reduceAdd, and_true] at uc86 uc87
   go_wp2
   go_ret
   refine ⟨(by first | rfl | (simp; omega)), ?_⟩
   exact bB
  ·skip
   have hc46_ : ((0 : Int) ≤ tX) := by omega
   have K91 := Lib.hid (fun W va (ha : PV W va X) => HTX.out ▸ hloc_any va X (ptOf s) W ha HZX.out HQX.out (by decide : 153 ≤ 100000) ((ptOf_sz hsp).mono (by decide)))
   go_wp2_with (fail)
   refine calls_named ?_
   intro W9 hW9
   have hL9 : Below w3.heap.size w3 W9 := by
    rw [hW9]
    exact bB
   have c92 := c28.up hL9
   have c93 : Own W9 (w3.heap.size) 0 [.bool (ng (((ptOf s).1).num)), .string (mg (((ptOf s).1).num).natAbs), .bool false, .string (mg (dn ((ptOf s).1))), .bool (ng (((ptOf s).2).num)), .string (mg (((ptOf s).2).num).natAbs), .bool false, .string (mg (dn ((ptOf s).2)))] := by
    rw [hW9]
    first
    | (repeat (first | (with_reducible refine own_new (l := [.bool (ng (((ptOf s).1).num)), .string (mg (((ptOf s).1).num).natAbs), .bool false, .string (mg (dn ((ptOf s).1))), .bool (ng (((ptOf s).2).num)), .string (mg (((ptOf s).2).num).natAbs), .bool false, .string (mg (dn ((ptOf s).2)))]) ?_; (simp; done)) | with_reducible refine Own.alloc ?_ _ | refine Own.far _ _ (by first | (simp; done) | (simp [*]; done) | (simp; omega)) ?_)); done
    | simp [Own, go_sem, uc28, ne34, ne34', ne34_]
   have hA94 := bel_up hA29 hL9
   have hA95 := bel_up hA30 hL9
   have hB96 : Below w.heap.size w W9 := by
    rw [hW9]
    exact bB
   clear hW9 hL9 uc28 c28 hA29 hA30
   with_reducible refine (K91.out _ _ (PV12.out.up hA94)).mono ?_
   rintro e w9 ⟨rfl, hb9⟩
   have c97 := c92.up hb9
   have c98 := c93.up hb9
   have hA99 := bel_up hA94 hb9
   have hA100 := bel_up hA95 hb9
   have hB101 : Below w.heap.size w w9 := bel_up hB96 hb9
   clear c92 c93 hA94 hA95
   have uc97 := c97; have uc98 := c98
   simp only [At, Own, Nat.reduceAdd, and_true] at uc97 uc98
   have K102 := Lib.hid (fun W va (ha : PV W va Y) => HTY.out ▸ hloc_any va Y (ptOf s) W ha HZY.out HQY.out (by decide : 153 ≤ 100000) ((ptOf_sz hsp).mono (by decide)))
   go_wp2_with (fail)
   refine calls_named ?_
   intro W10 hW10
   have hL10 : Below w9.heap.size w9 W10 := by
    rw [hW10]
    exact bB
   have c103 := c97.up hL10
   have c104 := c98.up hL10
   have hA105 := bel_up hA99 hL10
   have hA106 := bel_up hA100 hL10
   have hB107 : Below w.heap.size w W10 := by
    rw [hW10]
    exact bB
   clear hW10 hL10 uc97 uc98 c97 c98 hA99 hA100
   with_reducible refine (K102.out _ _ (PV14.out.up hA105)).mono ?_
   rintro e w10 ⟨rfl, hb10⟩
   have c108 := c103.up hb10
   have c109 := c104.up hb10
   have hA110 := bel_up hA105 hb10
   have hA111 := bel_up hA106 hb10
   have hB112 : Below w.heap.size w w10 := bel_up hB107 hb10
   clear c103 c104 hA105 hA106
   by_cases hc135 : (tY : Int) < 0
   ·skip
    have hc135_ : ¬ ((0 : Int) ≤ tY) := by omega
    have hL1 : (tL : Int) < 0 := by have := HLAW.out; simp only [decide_eq_true (show (0 : Int) ≤ tX by omega), decide_eq_false (show ¬ (0 : Int) ≤ tY by omega), Bool.and_true, Bool.true_and, Bool.false_and, Bool.and_false, decide_eq_true_eq, decide_eq_false_iff_not] at this; omega
    have hL2 : ¬ (0 : Int) ≤ tL := by omega
    have K136 := Lib.hid (fun W => known_any W)
    have uc108 := c108; have uc109 := c109
    simp only [At, Own, Nat.reduceAdd, and_true] at uc108 uc109
    go_wp2_with (fail)
    refine calls_named ?_
    intro W13 hW13
    have hL13 : Below w10.heap.size w10 W13 := by
     rw [hW13]
     exact bB
    have c137 := c108.up hL13
    have c138 := c109.up hL13
    have hA139 := bel_up hA110 hL13
    have hA140 := bel_up hA111 hL13
    have hB141 : Below w.heap.size w W13 := by
     rw [hW13]
     exact bB
    clear hW13 hL13 uc108 uc109 c108 c109 hA110 hA111
    with_reducible refine (K136.out _).mono ?_
    rintro e w13 ⟨rfl, hb13⟩
    have c142 := c137.up hb13
    have c143 := c138.up hb13
    have hA144 := bel_up hA139 hb13
    have hA145 := bel_up hA140 hb13
    have hB146 : Below w.heap.size w w13 := bel_up hB141 hb13
    clear c137 c138 hA139 hA140
    have uc142 := c142; have uc143 := c143
    simp only [At, Own, Nat.reduceAdd, and_true] at uc142 uc143
    have K147 := Lib.hid (fun W va (ha : PV W va L) => HTL.out ▸ cloc_any va L (ptOf s) W ha HZL.out HQL.out (by decide : 153 ≤ 100000) ((ptOf_sz hsp).mono (by decide)))
    go_wp2_with (fail)
    refine calls_named ?_
    intro W14 hW14
    have hL14 : Below w13.heap.size w13 W14 := by
     rw [hW14]
     exact bB
    have c148 := c142.up hL14
    have c149 := c143.up hL14
    have hA150 := bel_up hA144 hL14
    have hA151 := bel_up hA145 hL14
    have hB152 : Below w.heap.size w W14 := by
     rw [hW14]
     exact bB
    clear hW14 hL14 uc142 uc143 c142 c143 hA144 hA145
    with_reducible refine (K147.out _ _ (PW2.out.up hA151)).mono ?_
    rintro e w14 ⟨rfl, hb14⟩
    have c153 := c148.up hb14
    have c154 := c149.up hb14
    have hA155 := bel_up hA150 hb14
    have hA156 := bel_up hA151 hb14
    have hB157 : Below w.heap.size w w14 := bel_up hB152 hb14
    clear c148 c149 hA150 hA151
    have uc153 := c153; have uc154 := c154
    simp only [At, Own, Nat.reduceAdd, and_true] at uc153 uc154
    have K158 := Lib.hid (fun W va (ha : PV W va X) => HTX.out ▸ cloc_any va X (ptOf s) W ha HZX.out HQX.out (by decide : 153 ≤ 100000) ((ptOf_sz hsp).mono (by decide)))
    go_wp2_with (fail)
    refine calls_named ?_
    intro W15 hW15
    have hL15 : Below w14.heap.size w14 W15 := by
     rw [hW15]
     exact bB
    have c159 := c153.up hL15
    have c160 := c154.up hL15
    have hA161 := bel_up hA155 hL15
    have hA162 := bel_up hA156 hL15
    have hB163 : Below w.heap.size w W15 := by
     rw [hW15]
     exact bB
    clear hW15 hL15 uc153 uc154 c153 c154 hA155 hA156
    with_reducible refine (K158.out _ _ (PV12.out.up hA161)).mono ?_
    rintro e w15 ⟨rfl, hb15⟩
    have c164 := c159.up hb15
    have c165 := c160.up hb15
    have hA166 := bel_up hA161 hb15
    have hA167 := bel_up hA162 hb15
    have hB168 : Below w.heap.size w w15 := bel_up hB163 hb15
    clear c159 c160 hA161 hA162
    have uc164 := c164; have uc165 := c165
    simp only [At, Own, Nat.reduceAdd, and_true] at uc164 uc165
    have K169 := Lib.hid (fun W va (ha : PV W va Y) => HTY.out ▸ cloc_any va Y (ptOf s) W ha HZY.out HQY.out (by decide : 153 ≤ 100000) ((ptOf_sz hsp).mono (by decide)))
    go_wp2_with (fail)
    refine calls_named ?_
    intro W16 hW16
    have hL16 : Below w15.heap.size w15 W16 := by
     rw [hW16]
     exact bB
    have c170 := c164.up hL16
    have c171 := c165.up hL16
    have hA172 := bel_up hA166 hL16
    have hA173 := bel_up hA167 hL16
    have hB174 : Below w.heap.size w W16 := by
     rw [hW16]
     exact bB
    clear hW16 hL16 uc164 uc165 c164 c165 hA166 hA167
    with_reducible refine (K169.out _ _ (PV14.out.up hA172)).mono ?_
    rintro e w16 ⟨rfl, hb16⟩
    have c175 := c170.up hb16
    have c176 := c171.up hb16
    have hA177 := bel_up hA172 hb16
    have hA178 := bel_up hA173 hb16
    have hB179 : Below w.heap.size w w16 := bel_up hB174 hb16
    clear c170 c171 hA172 hA173
    have uc175 := c175; have uc176 := c176
    simp only [At, Own, Nat.reduceAdd, and_true] at uc175 uc176
    go_wp2
    go_ret
    refine ⟨(by first | rfl | (simp; omega)), ?_⟩
    exact bB
   ·skip
    have hc135_ : ((0 : Int) ≤ tY) := by omega
    have hL1 : (0 : Int) ≤ tL := by have := HLAW.out; simp only [decide_eq_true (show (0 : Int) ≤ tX by omega), decide_eq_true (show (0 : Int) ≤ tY by omega), Bool.and_true, Bool.true_and, Bool.false_and, Bool.and_false, decide_eq_true_eq, decide_eq_false_iff_not] at this; omega
    have hL2 : ¬ (tL : Int) < 0 := by omega
    have K180 := Lib.hid (fun W => known_any W)
    have uc108 := c108; have uc109 := c109
    simp only [At, Own, Nat.reduceAdd, and_true] at uc108 uc109
    go_wp2_with (fail)
    refine calls_named ?_
    intro W17 hW17
    have hL17 : Below w10.heap.size w10 W17 := by
     rw [hW17]
     exact bB
    have c181 := c108.up hL17
    have c182 := c109.up hL17
    have hA183 := bel_up hA110 hL17
    have hA184 := bel_up hA111 hL17
    have hB185 : Below w.heap.size w W17 := by
     rw [hW17]
     exact bB
    clear hW17 hL17 uc108 uc109 c108 c109 hA110 hA111
    with_reducible refine (K180.out _).mono ?_
    rintro e w17 ⟨rfl, hb17⟩
    have c186 := c181.up hb17
    have c187 := c182.up hb17
    have hA188 := bel_up hA183 hb17
    have hA189 := bel_up hA184 hb17
    have hB190 : Below w.heap.size w w17 := bel_up hB185 hb17
    clear c181 c182 hA183 hA184
    have uc186 := c186; have uc187 := c187
    simp only [At, Own, Nat.reduceAdd, and_true] at uc186 uc187
    have K191 := Lib.hid (fun W va (ha : PV W va L) => HTL.out ▸ cloc_any va L (ptOf s) W ha HZL.out HQL.out (by decide : 153 ≤ 100000) ((ptOf_sz hsp).mono (by decide)))
    go_wp2_with (fail)
    refine calls_named ?_
    intro W18 hW18
    have hL18 : Below w17.heap.size w17 W18 := by
     rw [hW18]
     exact bB
    have c192 := c186.up hL18
    have c193 := c187.up hL18
    have hA194 := bel_up hA188 hL18
    have hA195 := bel_up hA189 hL18
    have hB196 : Below w.heap.size w W18 := by
     rw [hW18]
     exact bB
    clear hW18 hL18 uc186 uc187 c186 c187 hA188 hA189
    with_reducible refine (K191.out _ _ (PW2.out.up hA195)).mono ?_
    rintro e w18 ⟨rfl, hb18⟩
    have c197 := c192.up hb18
    have c198 := c193.up hb18
    have hA199 := bel_up hA194 hb18
    have hA200 := bel_up hA195 hb18
    have hB201 : Below w.heap.size w w18 := bel_up hB196 hb18
    clear c192 c193 hA194 hA195
    have uc197 := c197; have uc198 := c198
    simp only [At, Own, Nat.reduceAdd, and_true] at uc197 uc198
    have K202 := Lib.hid (fun W va (ha : PV W va X) => HTX.out ▸ cloc_any va X (ptOf s) W ha HZX.out HQX.out (by decide : 153 ≤ 100000) ((ptOf_sz hsp).mono (by decide)))
    go_wp2_with (fail)
    refine calls_named ?_
    intro W19 hW19
    have hL19 : Below w18.heap.size w18 W19 := by
     rw [hW19]
     exact bB
    have c203 := c197.up hL19
    have c204 := c198.up hL19
    have hA205 := bel_up hA199 hL19
    have hA206 := bel_up hA200 hL19
    have hB207 : Below w.heap.size w W19 := by
     rw [hW19]
     exact bB
    clear hW19 hL19 uc197 uc198 c197 c198 hA199 hA200
    with_reducible refine (K202.out _ _ (PV12.out.up hA205)).mono ?_
    rintro e w19 ⟨rfl, hb19⟩
    have c208 := c203.up hb19
    have c209 := c204.up hb19
    have hA210 := bel_up hA205 hb19
    have hA211 := bel_up hA206 hb19
    have hB212 : Below w.heap.size w w19 := bel_up hB207 hb19
    clear c203 c204 hA205 hA206
    have uc208 := c208; have uc209 := c209
    simp only [At, Own, Nat.reduceAdd, and_true] at uc208 uc209
    have K213 := Lib.hid (fun W va (ha : PV W va Y) => HTY.out ▸ cloc_any va Y (ptOf s) W ha HZY.out HQY.out (by decide : 153 ≤ 100000) ((ptOf_sz hsp).mono (by decide)))
    go_wp2_with (fail)
    refine calls_named ?_
    intro W20 hW20
    have hL20 : Below w19.heap.size w19 W20 := by
     rw [hW20]
     exact bB
    have c214 := c208.up hL20
    have c215 := c209.up hL20
    have hA216 := bel_up hA210 hL20
    have hA217 := bel_up hA211 hL20
    have hB218 : Below w.heap.size w W20 := by
     rw [hW20]
     exact bB
    clear hW20 hL20 uc208 uc209 c208 c209 hA210 hA211
    with_reducible refine (K213.out _ _ (PV14.out.up hA216)).mono ?_
    rintro e w20 ⟨rfl, hb20⟩
    have c219 := c214.up hb20
    have c220 := c215.up hb20
    have hA221 := bel_up hA216 hb20
    have hA222 := bel_up hA217 hb20
    have hB223 : Below w.heap.size w w20 := bel_up hB218 hb20
    clear c214 c215 hA216 hA217
    have uc219 := c219; have uc220 := c220
    simp only [At, Own, Nat.reduceAdd, and_true] at uc219 uc220
    go_wp2
    go_ret
    refine ⟨(by first | rfl | (simp; omega)), ?_⟩
    exact bB
theorem meets_any (va vb : Value) (a b : List (Int × Int × Bool)) (s : Int × Int × Bool) (w : World) (ha : TV w va a) (hia : ∀ s ∈ a, In8 s) (hna : a.length ≤ 9223372036854775807) (hb : TV w vb b) (hib : ∀ s ∈ b, In8 s) (hnb : b.length ≤ 9223372036854775807) (hsp : In8 s) :
 Calls Tryz.prog 13 #[va, vb, .agg #[.int .i8 s.1, .int .i8 s.2.1, .bool s.2.2]] w fun e w' => e = .returned (.bool true) ∧ Below w.heap.size w w' := by
 obtain ⟨Aa, ca, rfl, hca, hma, hxa⟩ := ha
 obtain ⟨Ab, cb, rfl, hcb, hmb, hxb⟩ := hb
 exact meets_walk Aa Ab ca cb a b s w ⟨Aa, ca, rfl, hca, hma, hxa⟩ hia hna hca ⟨Ab, cb, rfl, hcb, hmb, hxb⟩ hib hnb hcb hsp
end Go.Proofs.YtdkkjfnpinckjaaGreatDoor
