/-
 The law ConvexIntersects: the walk.
-/
import Derived.Test.YtdkkjfnpinckjaaGreatDoorWKnw
import Derived.Test.YtdkkjfnpinckjaaGreatDoorWMr
import Derived.Test.YtdkkjfnpinckjaaGreatDoorWLw1
import Derived.Test.YtdkkjfnpinckjaaGreatDoorWCutI
import Derived.Test.YtdkkjfnpinckjaaGreatDoorWHin
import Derived.Deep.RegionHeld3
import Derived.Deep.DeepCutAuto
set_option maxRecDepth 100000
set_option linter.unusedSimpArgs false
set_option linter.unusedVariables false
namespace Go.Proofs.YtdkkjfnpinckjaaGreatDoor
open Go Go.RowKit

def linesH (X Y : List (Rat × Rat)) : List ((Rat × Rat) × (Rat × Rat)) := Pl.edges X ++ (linesR Y Y.length ++ endsR Y)
theorem linesH_sz {X Y : List (Rat × Rat)} (hX : Small X) (hY : Small Y) : ∀ m ∈ linesH X Y, Pl.SzS 5 m := fun m hm => by
 have g := getD_sz (Nat.le_refl _) hY.sz
 rcases List.mem_append.1 hm with h | h
 ·exact (Pl.edges_sz hX.sz m h).mono (by decide)
 ·rcases List.mem_append.1 h with h | h
  ·obtain ⟨i, _, rfl⟩ := lines_mem h
   exact ⟨(g _).mono (by decide), (g _).mono (by decide)⟩
  ·have hd := (g 1).sub (g 0)
   have ht : Pl.SzP 3 (turnedP (Pl.subP (Y.getD 1 (0, 0)) (Y.getD 0 (0, 0)))) := ⟨hd.2.neg, hd.1⟩
   unfold endsR at h
   simp only [List.mem_cons, List.not_mem_nil, or_false] at h
   rcases h with rfl | rfl
   ·exact ⟨(g 0).add ht, (g 0).mono (by decide)⟩
   ·exact ⟨(g 1).mono (by decide), (g 1).add ht⟩
theorem hinter_small (va vb : Value) (X Y : List (Rat × Rat)) (w : World) (ha : PV w va X) (hb : PV w vb Y) (hX : Small X) (hY : Small Y) :
 Calls Tryz.prog 50 #[va, vb] w fun e w' => ∃ v', e = .returned v' ∧ PV w' v' (Pl.interC X Y) ∧ Below w.heap.size w w' :=
 hinter_any (I := 5) (K := 153) va vb X Y (linesH X Y) w ha hb ⟨hX.wrap, (Pl.car_own hX.wrap).mono fun m hm => List.mem_append_left _ hm, fun q hq => (hX.sz q hq).mono (by decide)⟩ hY.wrap hY.sz (Nat.le_trans hX.len (by decide)) (Nat.le_trans hY.len (by decide)) (linesH_sz hX hY)
  (fun i hi => List.mem_append_right _ (List.mem_append_left _ (List.mem_map.2 ⟨i, List.mem_range.2 hi, rfl⟩))) (fun s hs => List.mem_append_right _ (List.mem_append_right _ hs))
  (by
   have h1 := Pl.edges_length X
   have h2 : (linesR Y Y.length).length = Y.length := by unfold linesR; simp
   have h3 : (endsR Y).length = 2 := rfl
   have := hX.len
   have := hY.len
   unfold linesH
   rw [List.length_append, List.length_append, h2, h3]; omega) (by decide) (by decide) (by decide)

set_option maxHeartbeats 4000000 in
theorem inters_walk (Aa Ab Ac : Option Addr) (ca cb cc : Nat) (a b c : List (Int × Int × Bool)) (w : World) (ha' : TV w (.slice Aa a.length ca) a) (hia : ∀ s ∈ a, In8 s) (hna : a.length ≤ 9223372036854775807) (hca : a.length ≤ ca) (hb' : TV w (.slice Ab b.length cb) b) (hib : ∀ s ∈ b, In8 s) (hnb : b.length ≤ 9223372036854775807) (hcb : b.length ≤ cb) (hc' : TV w (.slice Ac c.length cc) c) (hic : ∀ s ∈ c, In8 s) (hnc : c.length ≤ 9223372036854775807) (hcc : c.length ≤ cc) :
 Calls Tryz.prog 12 #[.slice Aa a.length ca, .slice Ab b.length cb, .slice Ac c.length cc] w fun e w' => e = .returned (.bool true) ∧ Below w.heap.size w w' := by
 have hlta := TV.take (M := min a.length 6) ha' (Nat.min_le_left _ _)
 obtain ⟨Ma, hMa⟩ : ∃ M, M = min a.length 6 := ⟨_, rfl⟩
 rw [← hMa] at hlta
 have hM8a : Ma ≤ 6 := by omega
 have hMNa : Ma ≤ a.length := by omega
 have HTA := Lib.hid hlta
 have HIA : Hid (∀ s ∈ a.take Ma, In8 s) := Lib.hid fun s hs => hia s (List.mem_of_mem_take hs)
 obtain ⟨X, hSa⟩ : ∃ S, Pl.wrap (ptsOf (a.take Ma)) = S := ⟨_, rfl⟩
 have HSWA := Lib.hid hSa
 have HSX : Hid (∀ q ∈ X, Pl.SzP 1 q) := Lib.hid (hSa ▸ wrap_sz (ptsOf_sz HIA.out))
 have HMX : Hid (X.length ≤ 12) := Lib.hid (by have := wrap_len (ptsOf (a.take Ma)); have := ptsOf_len (a.take Ma); rw [hSa] at *; omega)
 have HNX : Hid (X.length ≤ 1000000) := Lib.hid (by have := HMX.out; omega)
 have HKX : Hid (Small X) := Lib.hid ⟨by rw [← hSa]; exact Pl.wrap_wrap _, HSX.out, HMX.out⟩
 clear hSa hlta
 have hmia : min (a.length : Int) 6 = (Ma : Int) := by omega
 have hifa : (if (6 : Int) < (a.length : Int) then (6 : Int) else (a.length : Int)) = (Ma : Int) := by split <;> omega
 generalize hNa : a.length = Na at *
 have hmca : (Ma : Int) ≤ ca := by omega
 have hmna : (Ma : Int) ≤ Na := by omega
 clear ha' hia hMa
 have hltb := TV.take (M := min b.length 6) hb' (Nat.min_le_left _ _)
 obtain ⟨Mb, hMb⟩ : ∃ M, M = min b.length 6 := ⟨_, rfl⟩
 rw [← hMb] at hltb
 have hM8b : Mb ≤ 6 := by omega
 have hMNb : Mb ≤ b.length := by omega
 have HTB := Lib.hid hltb
 have HIB : Hid (∀ s ∈ b.take Mb, In8 s) := Lib.hid fun s hs => hib s (List.mem_of_mem_take hs)
 obtain ⟨Y, hSb⟩ : ∃ S, Pl.wrap (ptsOf (b.take Mb)) = S := ⟨_, rfl⟩
 have HSWB := Lib.hid hSb
 have HSY : Hid (∀ q ∈ Y, Pl.SzP 1 q) := Lib.hid (hSb ▸ wrap_sz (ptsOf_sz HIB.out))
 have HMY : Hid (Y.length ≤ 12) := Lib.hid (by have := wrap_len (ptsOf (b.take Mb)); have := ptsOf_len (b.take Mb); rw [hSb] at *; omega)
 have HNY : Hid (Y.length ≤ 1000000) := Lib.hid (by have := HMY.out; omega)
 have HKY : Hid (Small Y) := Lib.hid ⟨by rw [← hSb]; exact Pl.wrap_wrap _, HSY.out, HMY.out⟩
 clear hSb hltb
 have hmib : min (b.length : Int) 6 = (Mb : Int) := by omega
 have hifb : (if (6 : Int) < (b.length : Int) then (6 : Int) else (b.length : Int)) = (Mb : Int) := by split <;> omega
 generalize hNb : b.length = Nb at *
 have hmcb : (Mb : Int) ≤ cb := by omega
 have hmnb : (Mb : Int) ≤ Nb := by omega
 clear hb' hib hMb
 have hltc := TV.take (M := min c.length 6) hc' (Nat.min_le_left _ _)
 obtain ⟨Mc, hMc⟩ : ∃ M, M = min c.length 6 := ⟨_, rfl⟩
 rw [← hMc] at hltc
 have hM8c : Mc ≤ 6 := by omega
 have hMNc : Mc ≤ c.length := by omega
 have HTC := Lib.hid hltc
 have HIC : Hid (∀ s ∈ c.take Mc, In8 s) := Lib.hid fun s hs => hic s (List.mem_of_mem_take hs)
 obtain ⟨Z, hSc⟩ : ∃ S, Pl.wrap (ptsOf (c.take Mc)) = S := ⟨_, rfl⟩
 have HSWC := Lib.hid hSc
 have HSZ : Hid (∀ q ∈ Z, Pl.SzP 1 q) := Lib.hid (hSc ▸ wrap_sz (ptsOf_sz HIC.out))
 have HMZ : Hid (Z.length ≤ 12) := Lib.hid (by have := wrap_len (ptsOf (c.take Mc)); have := ptsOf_len (c.take Mc); rw [hSc] at *; omega)
 have HNZ : Hid (Z.length ≤ 1000000) := Lib.hid (by have := HMZ.out; omega)
 have HKZ : Hid (Small Z) := Lib.hid ⟨by rw [← hSc]; exact Pl.wrap_wrap _, HSZ.out, HMZ.out⟩
 clear hSc hltc
 have hmic : min (c.length : Int) 6 = (Mc : Int) := by omega
 have hifc : (if (6 : Int) < (c.length : Int) then (6 : Int) else (c.length : Int)) = (Mc : Int) := by split <;> omega
 generalize hNc : c.length = Nc at *
 have hmcc : (Mc : Int) ≤ cc := by omega
 have hmnc : (Mc : Int) ≤ Nc := by omega
 clear hc' hic hMc
 obtain ⟨L, hL⟩ : ∃ L, Pl.interC X Y = L := ⟨_, rfl⟩
 obtain ⟨M, hM⟩ : ∃ L, Pl.interC Y Z = L := ⟨_, rfl⟩
 obtain ⟨R, hR⟩ : ∃ L, Pl.interC (Pl.interC X Y) Z = L := ⟨_, rfl⟩
 have HL := Lib.hid hL
 have HM := Lib.hid hM
 have HCM : Hid (Pl.interC Y X = L) := Lib.hid ((Pl.interC_comm HKY.out.wrap HKX.out.wrap).trans hL)
 have HSF : Hid (Pl.interC X X = X) := Lib.hid (Pl.interC_self HKX.out.wrap)
 have HRL : Hid (Pl.interC (Pl.interC X Y) Z = R) := Lib.hid hR
 have HRR : Hid (Pl.interC X (Pl.interC Y Z) = R) := Lib.hid ((Pl.interC_assoc HKX.out.wrap HKY.out.wrap HKZ.out.wrap).symm.trans hR)
 have HQX := HNX
 have HQL : Hid (L.length ≤ 1000000) := Lib.hid (by have := inter_len HKX.out HKY.out; rw [hL] at this; omega)
 have HQR : Hid (R.length ≤ 1000000) := Lib.hid (by
  have g := good_inter (LN := linesOf X Y ++ Pl.sides Z) (I := 5) (K := 153) ((inter_good HKX.out HKY.out).mono (fun m hm => List.mem_append_left _ hm) (Nat.le_refl _)) HKZ.out.wrap (fun q hq => (HKZ.out.sz q hq).mono (by decide))
   (fun m hm => by rcases List.mem_append.1 hm with h | h; exact lines_sz HKX.out HKY.out m h; exact sides_sz (Nat.le_refl _) HKZ.out.sz m h) (fun _ hs => List.mem_append_right _ hs) (by decide)
  have h1 := Pl.car_len g.wrap g.car
  rw [hR] at h1
  have := linesOf_len X Y; have := sides_len Z; have := HKX.out.len; have := HKY.out.len; have := HKZ.out.len
  rw [List.length_append] at h1; omega)
 clear hL hM hR
 go_enter Tryz.func12, Tryz.ntmps12
 go_upto_region 1 with fail
 refine wp_named ?_
 intro W1 hW1
 have hL1 : Below w.heap.size w W1 := by
  rw [hW1]
  exact bB
 have hB1 : Below w.heap.size w W1 := by
  rw [hW1]
  exact bB
 clear hW1 hL1
 have K2 := Lib.hid (fun W (h : TV W (.slice Aa Ma ca) (a.take Ma)) => HSWA.out ▸ set_any (.slice Aa Ma ca) (a.take Ma) W h HIA.out (by rw [List.length_take]; omega))
 have K4 := Lib.hid (fun W (h : TV W (.slice Ab Mb cb) (b.take Mb)) => HSWB.out ▸ set_any (.slice Ab Mb cb) (b.take Mb) W h HIB.out (by rw [List.length_take]; omega))
 have K6 := Lib.hid (fun W (h : TV W (.slice Ac Mc cc) (c.take Mc)) => HSWC.out ▸ set_any (.slice Ac Mc cc) (c.take Mc) W h HIC.out (by rw [List.length_take]; omega))
 have HSS8 := True.intro
 go_cut [7, 8, 9] (fun x7 x8 x9 wx => PV wx x7 X ∧ PV wx x8 Y ∧ PV wx x9 Z ∧ Below W1.heap.size W1 wx)
 case first =>
  go_region_held3 (fun w' => True) (trivial) (first
   | (go_at_call 16; with_reducible refine (K2.out _ (HTA.out.up (bel_up hB1 (by (repeat (first | with_reducible exact Below.refl _ _ | with_reducible refine bel_alloc ?_ _ | with_reducible refine Below.drew ?_ | (refine Below.setCell ?_ (by first | (simp; done) | (simp; omega) | omega) _) | with_reducible refine bel_up ?_ (by with_reducible assumption))))))).mono ?_; rintro e v_3 ⟨vv_3, rfl, hv_3, hbq_3⟩; have hsz_3 := hbq_3.size; (try simp [size_drewC] at hsz_3))
   | (go_at_call 16; with_reducible refine (K4.out _ (HTB.out.up (bel_up hB1 (by (repeat (first | with_reducible exact Below.refl _ _ | with_reducible refine bel_alloc ?_ _ | with_reducible refine Below.drew ?_ | (refine Below.setCell ?_ (by first | (simp; done) | (simp; omega) | omega) _) | with_reducible refine bel_up ?_ (by with_reducible assumption))))))).mono ?_; rintro e v_5 ⟨vv_5, rfl, hv_5, hbq_5⟩; have hsz_5 := hbq_5.size; (try simp [size_drewC] at hsz_5))
   | (go_at_call 16; with_reducible refine (K6.out _ (HTC.out.up (bel_up hB1 (by (repeat (first | with_reducible exact Below.refl _ _ | with_reducible refine bel_alloc ?_ _ | with_reducible refine Below.drew ?_ | (refine Below.setCell ?_ (by first | (simp; done) | (simp; omega) | omega) _) | with_reducible refine bel_up ?_ (by with_reducible assumption))))))).mono ?_; rintro e v_7 ⟨vv_7, rfl, hv_7, hbq_7⟩; have hsz_7 := hbq_7.size; (try simp [size_drewC] at hsz_7)))
  all_goals
   go_wp2_with fail
   go_meet
   refine ⟨(hv_3.up (by repeat (first | with_reducible exact Below.refl _ _ | with_reducible refine bel_alloc ?_ _ | with_reducible refine Below.drew ?_ | (refine Below.setCell ?_ (by first | (simp; done) | (simp; omega) | omega) _) | with_reducible refine bel_up ?_ (by with_reducible assumption)))), (hv_5.up (by repeat (first | with_reducible exact Below.refl _ _ | with_reducible refine bel_alloc ?_ _ | with_reducible refine Below.drew ?_ | (refine Below.setCell ?_ (by first | (simp; done) | (simp; omega) | omega) _) | with_reducible refine bel_up ?_ (by with_reducible assumption)))), (hv_7.up (by repeat (first | with_reducible exact Below.refl _ _ | with_reducible refine bel_alloc ?_ _ | with_reducible refine Below.drew ?_ | (refine Below.setCell ?_ (by first | (simp; done) | (simp; omega) | omega) _) | with_reducible refine bel_up ?_ (by with_reducible assumption)))), ?_⟩
   ·(repeat (first | with_reducible exact Below.refl _ _ | with_reducible refine bel_alloc ?_ _ | with_reducible refine Below.drew ?_ | (refine Below.setCell ?_ (by first | (simp; done) | (simp; omega) | omega) _) | with_reducible refine bel_up ?_ (by with_reducible assumption)))
 case rest =>
  obtain ⟨lv9, lv10, lv11, hbz1⟩ := hcut
  obtain ⟨wz1, hwz1⟩ : ∃ W_, W_ = wc := ⟨_, rfl⟩
  subst hwz1
  clear HSS8
  have hB12 : Below w.heap.size w wz1 := bel_up hB1 hbz1
  have PV13 := Lib.hid lv9
  clear lv9
  have PV15 := Lib.hid lv10
  clear lv10
  have PV17 := Lib.hid lv11
  clear lv11
  have K19 := Lib.hid (fun W va vb (ha : PV W va X) (hb : PV W vb Y) => HL.out ▸ inter_small va vb X Y W ha hb HKX.out HKY.out)
  go_wp2_with (fail)
  refine calls_named ?_
  intro W2 hW2
  have hL2 : Below wz1.heap.size wz1 W2 := by
   rw [hW2]
   exact bB
  have hA20 := hL2
  have hB21 : Below w.heap.size w W2 := by
   rw [hW2]
   exact bB
  clear hW2 hL2
  with_reducible refine (K19.out _ _ _ (PV13.out.up hA20) (PV15.out.up hA20)).mono ?_
  rintro e w2 ⟨v2, rfl, hv2, hb2⟩
  have hA22 := bel_up hA20 hb2
  have hB23 : Below w.heap.size w w2 := bel_up hB21 hb2
  clear hA20
  have PW2 := Lib.hid hv2
  clear hv2
  have K24 := Lib.hid (fun W => known_any W)
  go_wp2_with (fail)
  refine calls_named ?_
  intro W3 hW3
  have hL3 : Below w2.heap.size w2 W3 := by
   rw [hW3]
   exact bB
  have hA25 := bel_up hA22 hL3
  have hA26 := hL3
  have hB27 : Below w.heap.size w W3 := by
   rw [hW3]
   exact bB
  clear hW3 hL3 hA22
  with_reducible refine (K24.out _).mono ?_
  rintro e w3 ⟨rfl, hb3⟩
  have hA28 := bel_up hA25 hb3
  have hA29 := bel_up hA26 hb3
  have hB30 : Below w.heap.size w w3 := bel_up hB27 hb3
  clear hA25 hA26
  have K31 := Lib.hid (fun W va vb (ha : PV W va X) (hb : PV W vb Y) => HL.out ▸ hinter_small va vb X Y W ha hb HKX.out HKY.out)
  go_wp2_with (fail)
  refine calls_named ?_
  intro W4 hW4
  have hL4 : Below w3.heap.size w3 W4 := by
   rw [hW4]
   exact bB
  have hA32 := bel_up hA28 hL4
  have hA33 := bel_up hA29 hL4
  have hB34 : Below w.heap.size w W4 := by
   rw [hW4]
   exact bB
  clear hW4 hL4 hA28 hA29
  with_reducible refine (K31.out _ _ _ (PV13.out.up hA32) (PV15.out.up hA32)).mono ?_
  rintro e w4 ⟨v4, rfl, hv4, hb4⟩
  have hA35 := bel_up hA32 hb4
  have hA36 := bel_up hA33 hb4
  have hB37 : Below w.heap.size w w4 := bel_up hB34 hb4
  clear hA32 hA33
  have PW4 := Lib.hid hv4
  clear hv4
  have K38 := Lib.hid (fun W va vb (ha : PV W va L) (hb : PV W vb L) => same_true va vb L W ha hb HQL.out)
  go_wp2_with (fail)
  refine calls_named ?_
  intro W5 hW5
  have hL5 : Below w4.heap.size w4 W5 := by
   rw [hW5]
   exact bB
  have hA39 := bel_up hA35 hL5
  have hA40 := bel_up hA36 hL5
  have hA41 := hL5
  have hB42 : Below w.heap.size w W5 := by
   rw [hW5]
   exact bB
  clear hW5 hL5 hA35 hA36
  with_reducible refine (K38.out _ _ _ (PW2.out.up hA40) (PW4.out.up hA41)).mono ?_
  rintro e w5 ⟨rfl, hb5⟩
  have hA43 := bel_up hA39 hb5
  have hA44 := bel_up hA40 hb5
  have hA45 := bel_up hA41 hb5
  have hB46 : Below w.heap.size w w5 := bel_up hB42 hb5
  clear hA39 hA40 hA41
  have K47 := Lib.hid (fun W va vb (ha : PV W va Y) (hb : PV W vb X) => HCM.out ▸ inter_small va vb Y X W ha hb HKY.out HKX.out)
  go_wp2_with (fail)
  refine calls_named ?_
  intro W6 hW6
  have hL6 : Below w5.heap.size w5 W6 := by
   rw [hW6]
   exact bB
  have hA48 := bel_up hA43 hL6
  have hA49 := bel_up hA44 hL6
  have hA50 := bel_up hA45 hL6
  have hB51 : Below w.heap.size w W6 := by
   rw [hW6]
   exact bB
  clear hW6 hL6 hA43 hA44 hA45
  with_reducible refine (K47.out _ _ _ (PV15.out.up hA48) (PV13.out.up hA48)).mono ?_
  rintro e w6 ⟨v6, rfl, hv6, hb6⟩
  have hA52 := bel_up hA48 hb6
  have hA53 := bel_up hA49 hb6
  have hA54 := bel_up hA50 hb6
  have hB55 : Below w.heap.size w w6 := bel_up hB51 hb6
  clear hA48 hA49 hA50
  have PW6 := Lib.hid hv6
  clear hv6
  go_wp2_with (fail)
  refine calls_named ?_
  intro W7 hW7
  have hL7 : Below w6.heap.size w6 W7 := by
   rw [hW7]
   exact bB
  have hA56 := bel_up hA52 hL7
  have hA57 := bel_up hA53 hL7
  have hA58 := bel_up hA54 hL7
  have hA59 := hL7
  have hB60 : Below w.heap.size w W7 := by
   rw [hW7]
   exact bB
  clear hW7 hL7 hA52 hA53 hA54
  with_reducible refine (K38.out _ _ _ (PW6.out.up hA59) (PW2.out.up hA57)).mono ?_
  rintro e w7 ⟨rfl, hb7⟩
  have hA61 := bel_up hA56 hb7
  have hA62 := bel_up hA57 hb7
  have hA63 := bel_up hA58 hb7
  have hA64 := bel_up hA59 hb7
  have hB65 : Below w.heap.size w w7 := bel_up hB60 hb7
  clear hA56 hA57 hA58 hA59
  have K66 := Lib.hid (fun W va vb (ha : PV W va X) (hb : PV W vb X) => HSF.out ▸ inter_small va vb X X W ha hb HKX.out HKX.out)
  go_wp2_with (fail)
  refine calls_named ?_
  intro W8 hW8
  have hL8 : Below w7.heap.size w7 W8 := by
   rw [hW8]
   exact bB
  have hA67 := bel_up hA61 hL8
  have hA68 := bel_up hA62 hL8
  have hA69 := bel_up hA63 hL8
  have hA70 := bel_up hA64 hL8
  have hB71 : Below w.heap.size w W8 := by
   rw [hW8]
   exact bB
  clear hW8 hL8 hA61 hA62 hA63 hA64
  with_reducible refine (K66.out _ _ _ (PV13.out.up hA67) (PV13.out.up hA67)).mono ?_
  rintro e w8 ⟨v8, rfl, hv8, hb8⟩
  have hA72 := bel_up hA67 hb8
  have hA73 := bel_up hA68 hb8
  have hA74 := bel_up hA69 hb8
  have hA75 := bel_up hA70 hb8
  have hB76 : Below w.heap.size w w8 := bel_up hB71 hb8
  clear hA67 hA68 hA69 hA70
  have PW8 := Lib.hid hv8
  clear hv8
  have K77 := Lib.hid (fun W va vb (ha : PV W va X) (hb : PV W vb X) => same_true va vb X W ha hb HQX.out)
  go_wp2_with (fail)
  refine calls_named ?_
  intro W9 hW9
  have hL9 : Below w8.heap.size w8 W9 := by
   rw [hW9]
   exact bB
  have hA78 := bel_up hA72 hL9
  have hA79 := bel_up hA73 hL9
  have hA80 := bel_up hA74 hL9
  have hA81 := bel_up hA75 hL9
  have hA82 := hL9
  have hB83 : Below w.heap.size w W9 := by
   rw [hW9]
   exact bB
  clear hW9 hL9 hA72 hA73 hA74 hA75
  with_reducible refine (K77.out _ _ _ (PW8.out.up hA82) (PV13.out.up hA78)).mono ?_
  rintro e w9 ⟨rfl, hb9⟩
  have hA84 := bel_up hA78 hb9
  have hA85 := bel_up hA79 hb9
  have hA86 := bel_up hA80 hb9
  have hA87 := bel_up hA81 hb9
  have hA88 := bel_up hA82 hb9
  have hB89 : Below w.heap.size w w9 := bel_up hB83 hb9
  clear hA78 hA79 hA80 hA81 hA82
  go_wp2_with (fail)
  refine calls_named ?_
  intro W10 hW10
  have hL10 : Below w9.heap.size w9 W10 := by
   rw [hW10]
   exact bB
  have hA90 := bel_up hA84 hL10
  have hA91 := bel_up hA85 hL10
  have hA92 := bel_up hA86 hL10
  have hA93 := bel_up hA87 hL10
  have hA94 := bel_up hA88 hL10
  have hB95 : Below w.heap.size w W10 := by
   rw [hW10]
   exact bB
  clear hW10 hL10 hA84 hA85 hA86 hA87 hA88
  with_reducible refine (K31.out _ _ _ (PV13.out.up hA90) (PV15.out.up hA90)).mono ?_
  rintro e w10 ⟨v10, rfl, hv10, hb10⟩
  have hA96 := bel_up hA90 hb10
  have hA97 := bel_up hA91 hb10
  have hA98 := bel_up hA92 hb10
  have hA99 := bel_up hA93 hb10
  have hA100 := bel_up hA94 hb10
  have hB101 : Below w.heap.size w w10 := bel_up hB95 hb10
  clear hA90 hA91 hA92 hA93 hA94
  have PW10 := Lib.hid hv10
  clear hv10
  have K102 := Lib.hid (fun W va vb (ha : PV W va L) (hb : PV W vb Z) => HRL.out ▸ inter_left va vb X Y Z W (HL.out.symm ▸ ha) hb HKX.out HKY.out HKZ.out)
  go_wp2_with (fail)
  refine calls_named ?_
  intro W11 hW11
  have hL11 : Below w10.heap.size w10 W11 := by
   rw [hW11]
   exact bB
  have hA103 := bel_up hA96 hL11
  have hA104 := bel_up hA97 hL11
  have hA105 := bel_up hA98 hL11
  have hA106 := bel_up hA99 hL11
  have hA107 := bel_up hA100 hL11
  have hA108 := hL11
  have hB109 : Below w.heap.size w W11 := by
   rw [hW11]
   exact bB
  clear hW11 hL11 hA96 hA97 hA98 hA99 hA100
  with_reducible refine (K102.out _ _ _ (PW10.out.up hA108) (PV17.out.up hA103)).mono ?_
  rintro e w11 ⟨v11, rfl, hv11, hb11⟩
  have hA110 := bel_up hA103 hb11
  have hA111 := bel_up hA104 hb11
  have hA112 := bel_up hA105 hb11
  have hA113 := bel_up hA106 hb11
  have hA114 := bel_up hA107 hb11
  have hA115 := bel_up hA108 hb11
  have hB116 : Below w.heap.size w w11 := bel_up hB109 hb11
  clear hA103 hA104 hA105 hA106 hA107 hA108
  have PW11 := Lib.hid hv11
  clear hv11
  have K117 := Lib.hid (fun W va vb (ha : PV W va Y) (hb : PV W vb Z) => HM.out ▸ hinter_small va vb Y Z W ha hb HKY.out HKZ.out)
  go_wp2_with (fail)
  refine calls_named ?_
  intro W12 hW12
  have hL12 : Below w11.heap.size w11 W12 := by
   rw [hW12]
   exact bB
  have hA118 := bel_up hA110 hL12
  have hA119 := bel_up hA111 hL12
  have hA120 := bel_up hA112 hL12
  have hA121 := bel_up hA113 hL12
  have hA122 := bel_up hA114 hL12
  have hA123 := bel_up hA115 hL12
  have hA124 := hL12
  have hB125 : Below w.heap.size w W12 := by
   rw [hW12]
   exact bB
  clear hW12 hL12 hA110 hA111 hA112 hA113 hA114 hA115
  with_reducible refine (K117.out _ _ _ (PV15.out.up hA118) (PV17.out.up hA118)).mono ?_
  rintro e w12 ⟨v12, rfl, hv12, hb12⟩
  have hA126 := bel_up hA118 hb12
  have hA127 := bel_up hA119 hb12
  have hA128 := bel_up hA120 hb12
  have hA129 := bel_up hA121 hb12
  have hA130 := bel_up hA122 hb12
  have hA131 := bel_up hA123 hb12
  have hA132 := bel_up hA124 hb12
  have hB133 : Below w.heap.size w w12 := bel_up hB125 hb12
  clear hA118 hA119 hA120 hA121 hA122 hA123 hA124
  have PW12 := Lib.hid hv12
  clear hv12
  have K134 := Lib.hid (fun W va vb (ha : PV W va X) (hb : PV W vb M) => HRR.out ▸ inter_right va vb X Y Z W ha (HM.out.symm ▸ hb) HKX.out HKY.out HKZ.out)
  go_wp2_with (fail)
  refine calls_named ?_
  intro W13 hW13
  have hL13 : Below w12.heap.size w12 W13 := by
   rw [hW13]
   exact bB
  have hA135 := bel_up hA126 hL13
  have hA136 := bel_up hA127 hL13
  have hA137 := bel_up hA128 hL13
  have hA138 := bel_up hA129 hL13
  have hA139 := bel_up hA130 hL13
  have hA140 := bel_up hA131 hL13
  have hA141 := bel_up hA132 hL13
  have hA142 := hL13
  have hB143 : Below w.heap.size w W13 := by
   rw [hW13]
   exact bB
  clear hW13 hL13 hA126 hA127 hA128 hA129 hA130 hA131 hA132
  with_reducible refine (K134.out _ _ _ (PV13.out.up hA135) (PW12.out.up hA142)).mono ?_
  rintro e w13 ⟨v13, rfl, hv13, hb13⟩
  have hA144 := bel_up hA135 hb13
  have hA145 := bel_up hA136 hb13
  have hA146 := bel_up hA137 hb13
  have hA147 := bel_up hA138 hb13
  have hA148 := bel_up hA139 hb13
  have hA149 := bel_up hA140 hb13
  have hA150 := bel_up hA141 hb13
  have hA151 := bel_up hA142 hb13
  have hB152 : Below w.heap.size w w13 := bel_up hB143 hb13
  clear hA135 hA136 hA137 hA138 hA139 hA140 hA141 hA142
  have PW13 := Lib.hid hv13
  clear hv13
  have K153 := Lib.hid (fun W va vb (ha : PV W va R) (hb : PV W vb R) => same_true va vb R W ha hb HQR.out)
  go_wp2_with (fail)
  refine calls_named ?_
  intro W14 hW14
  have hL14 : Below w13.heap.size w13 W14 := by
   rw [hW14]
   exact bB
  have hA154 := bel_up hA144 hL14
  have hA155 := bel_up hA145 hL14
  have hA156 := bel_up hA146 hL14
  have hA157 := bel_up hA147 hL14
  have hA158 := bel_up hA148 hL14
  have hA159 := bel_up hA149 hL14
  have hA160 := bel_up hA150 hL14
  have hA161 := bel_up hA151 hL14
  have hA162 := hL14
  have hB163 : Below w.heap.size w W14 := by
   rw [hW14]
   exact bB
  clear hW14 hL14 hA144 hA145 hA146 hA147 hA148 hA149 hA150 hA151
  with_reducible refine (K153.out _ _ _ (PW11.out.up hA160) (PW13.out.up hA162)).mono ?_
  rintro e w14 ⟨rfl, hb14⟩
  have hA164 := bel_up hA154 hb14
  have hA165 := bel_up hA155 hb14
  have hA166 := bel_up hA156 hb14
  have hA167 := bel_up hA157 hb14
  have hA168 := bel_up hA158 hb14
  have hA169 := bel_up hA159 hb14
  have hA170 := bel_up hA160 hb14
  have hA171 := bel_up hA161 hb14
  have hA172 := bel_up hA162 hb14
  have hB173 : Below w.heap.size w w14 := bel_up hB163 hb14
  clear hA154 hA155 hA156 hA157 hA158 hA159 hA160 hA161 hA162
  go_wp2
  go_ret
  refine ⟨(by first | rfl | (simp; omega)), ?_⟩
  exact bB
theorem inters_any (va vb vc : Value) (a b c : List (Int × Int × Bool)) (w : World) (ha : TV w va a) (hia : ∀ s ∈ a, In8 s) (hna : a.length ≤ 9223372036854775807) (hb : TV w vb b) (hib : ∀ s ∈ b, In8 s) (hnb : b.length ≤ 9223372036854775807) (hc : TV w vc c) (hic : ∀ s ∈ c, In8 s) (hnc : c.length ≤ 9223372036854775807) :
 Calls Tryz.prog 12 #[va, vb, vc] w fun e w' => e = .returned (.bool true) ∧ Below w.heap.size w w' := by
 obtain ⟨Aa, ca, rfl, hca, hma, hxa⟩ := ha
 obtain ⟨Ab, cb, rfl, hcb, hmb, hxb⟩ := hb
 obtain ⟨Ac, cc, rfl, hcc, hmc, hxc⟩ := hc
 exact inters_walk Aa Ab Ac ca cb cc a b c w ⟨Aa, ca, rfl, hca, hma, hxa⟩ hia hna hca ⟨Ab, cb, rfl, hcb, hmb, hxb⟩ hib hnb hcb ⟨Ac, cc, rfl, hcc, hmc, hxc⟩ hic hnc hcc 
end Go.Proofs.YtdkkjfnpinckjaaGreatDoor
