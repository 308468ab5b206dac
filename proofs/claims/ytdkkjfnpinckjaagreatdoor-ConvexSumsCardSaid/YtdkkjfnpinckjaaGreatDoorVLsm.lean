/-
  The law ConvexSums: the walk.
-/
import Derived.Test.YtdkkjfnpinckjaaGreatDoorVKnw
import Derived.Test.YtdkkjfnpinckjaaGreatDoorVMr
import Derived.Test.YtdkkjfnpinckjaaGreatDoorVLw1
import Derived.Test.YtdkkjfnpinckjaaGreatDoorVLw0
import Derived.Test.YtdkkjfnpinckjaaGreatDoorVCsu
import Derived.Test.YtdkkjfnpinckjaaGreatDoorVCsm
import Derived.Test.YtdkkjfnpinckjaaGreatDoorVHsm
import Derived.Test.YtdkkjfnpinckjaaGreatDoorVSupP
import Derived.Test.YtdkkjfnpinckjaaGreatDoorVReg3
import Derived.Deep.RegionHeld3
import Derived.Deep.DeepCutAuto
set_option linter.unusedSimpArgs false
set_option linter.unusedVariables false
namespace Go.Proofs.YtdkkjfnpinckjaaGreatDoor
open Go Go.RowKit

theorem sumL_iff (X Y : List (Rat × Rat)) (s : Rat × Rat) : s ∈ sumL X Y ↔ ∃ x ∈ X, ∃ y ∈ Y, s = Pl.addP x y := by
  unfold sumL
  simp only [List.mem_flatMap, List.mem_map]
  exact ⟨fun ⟨x, hx, y, hy, h⟩ => ⟨x, hx, y, hy, h.symm⟩, fun ⟨x, hx, y, hy, h⟩ => ⟨x, hx, y, hy, h.symm⟩⟩
theorem sumL_comm (X Y : List (Rat × Rat)) : Pl.wrap (sumL Y X) = Pl.wrap (sumL X Y) := Pl.wrap_congr fun s => by
  rw [sumL_iff, sumL_iff]
  have e : ∀ x y : Rat × Rat, Pl.addP x y = Pl.addP y x := fun x y => by unfold Pl.addP; rw [Rat.add_comm x.1, Rat.add_comm x.2]
  exact ⟨fun ⟨y, hy, x, hx, h⟩ => ⟨x, hx, y, hy, h.trans (e _ _)⟩, fun ⟨x, hx, y, hy, h⟩ => ⟨y, hy, x, hx, h.trans (e _ _)⟩⟩

set_option maxRecDepth 100000 in
set_option maxHeartbeats 4000000 in
theorem sums_walk (Aa Ab : Option Addr) (ca cb : Nat) (a b : List (Int × Int × Bool)) (s : Int × Int × Bool) (w : World) (ha' : TV w (.slice Aa a.length ca) a) (hb' : TV w (.slice Ab b.length cb) b) (hia : ∀ s ∈ a, In8 s) (hib : ∀ s ∈ b, In8 s) (hna : a.length ≤ 9223372036854775807) (hnb : b.length ≤ 9223372036854775807) (hca : a.length ≤ ca) (hcb : b.length ≤ cb) (hsp : In8 s) :
    Calls Tryz.prog 5 #[.slice Aa a.length ca, .slice Ab b.length cb, .agg #[.int .i8 s.1, .int .i8 s.2.1, .bool s.2.2]] w fun e w' => e = .returned (.bool true) ∧ Below w.heap.size w w' := by
  have hlta := TV.take (M := min a.length 6) ha' (Nat.min_le_left _ _)
  obtain ⟨Ma, hMa⟩ : ∃ M, M = min a.length 6 := ⟨_, rfl⟩
  rw [← hMa] at hlta
  have hM8a : Ma ≤ 6 := by omega
  have hMNa : Ma ≤ a.length := by omega
  have HTA := Lib.hid hlta
  have HIA : Hid (∀ s ∈ a.take Ma, In8 s) := Lib.hid fun s hs => hia s (List.mem_of_mem_take hs)
  obtain ⟨X, hSa⟩ : ∃ S, Pl.wrap (ptsOf (a.take Ma)) = S := ⟨_, rfl⟩
  have HSWA := Lib.hid hSa
  have HSX : Hid (∀ q ∈ X, Pl.SzP 1 q) := Lib.hid (hSa ▸ wrap_sz (ptsOf_sz HIA.out))
  have HMX : Hid (X.length ≤ 12) := Lib.hid (by have := wrap_len (ptsOf (a.take Ma)); have := ptsOf_len (a.take Ma); rw [hSa] at *; omega)
  have HNX : Hid (X.length ≤ 1000000) := Lib.hid (by have := HMX.out; omega)
  obtain ⟨NX, hNX⟩ : ∃ n, n = X.length := ⟨_, rfl⟩
  have HLX := Lib.hid hNX
  clear hNX hSa hlta
  have hmia : min (a.length : Int) 6 = (Ma : Int) := by omega
  have hifa : (if (6 : Int) < (a.length : Int) then (6 : Int) else (a.length : Int)) = (Ma : Int) := by split <;> omega
  generalize hNa : a.length = Na at *
  have hmca : (Ma : Int) ≤ ca := by omega
  have hmna : (Ma : Int) ≤ Na := by omega
  clear ha' hia hMa
  have hltb := TV.take (M := min b.length 6) hb' (Nat.min_le_left _ _)
  obtain ⟨Mb, hMb⟩ : ∃ M, M = min b.length 6 := ⟨_, rfl⟩
  rw [← hMb] at hltb
  have hM8b : Mb ≤ 6 := by omega
  have hMNb : Mb ≤ b.length := by omega
  have HTB := Lib.hid hltb
  have HIB : Hid (∀ s ∈ b.take Mb, In8 s) := Lib.hid fun s hs => hib s (List.mem_of_mem_take hs)
  obtain ⟨Y, hSb⟩ : ∃ S, Pl.wrap (ptsOf (b.take Mb)) = S := ⟨_, rfl⟩
  have HSWB := Lib.hid hSb
  have HSY : Hid (∀ q ∈ Y, Pl.SzP 1 q) := Lib.hid (hSb ▸ wrap_sz (ptsOf_sz HIB.out))
  have HMY : Hid (Y.length ≤ 12) := Lib.hid (by have := wrap_len (ptsOf (b.take Mb)); have := ptsOf_len (b.take Mb); rw [hSb] at *; omega)
  have HNY : Hid (Y.length ≤ 1000000) := Lib.hid (by have := HMY.out; omega)
  obtain ⟨NY, hNY⟩ : ∃ n, n = Y.length := ⟨_, rfl⟩
  have HLY := Lib.hid hNY
  clear hNY hSb hltb
  have hmib : min (b.length : Int) 6 = (Mb : Int) := by omega
  have hifb : (if (6 : Int) < (b.length : Int) then (6 : Int) else (b.length : Int)) = (Mb : Int) := by split <;> omega
  generalize hNb : b.length = Nb at *
  have hmcb : (Mb : Int) ≤ cb := by omega
  have hmnb : (Mb : Int) ≤ Nb := by omega
  clear hb' hib hMb
  obtain ⟨L, hLS⟩ : ∃ L, Pl.wrap (sumL X Y) = L := ⟨_, rfl⟩
  have HLS := Lib.hid hLS
  have HCM : Hid (Pl.wrap (sumL Y X) = L) := Lib.hid ((sumL_comm X Y).trans hLS)
  have HSL : Hid (∀ q ∈ L, Pl.SzP (1 + 1 + 1) q) := Lib.hid (hLS ▸ wrap_sz (sumL_sz HSX.out HSY.out))
  have HNL : Hid (L.length ≤ 1000000) := Lib.hid (by
    have h1 := wrap_len (sumL X Y)
    rw [hLS, sumL_length] at h1
    have h2 := Nat.mul_le_mul HMX.out HMY.out
    omega)
  clear hLS
  go_enter Tryz.func5, Tryz.ntmps5
  go_upto_region 1 with fail
  refine wp_named ?_
  intro W1 hW1
  have hL1 : Below w.heap.size w W1 := by
    rw [hW1]
    repeat (first | with_reducible exact Below.refl _ _ | with_reducible refine bel_alloc ?_ _ | refine Below.setCell ?_ (by first | (simp; done) | (simp; omega) | omega) _)
  have c1 : Own W1 (w.heap.size) 0 [.int .i8 s.1, .int .i8 s.2.1, .bool s.2.2] := by
    rw [hW1]
    first
    | (repeat (first | (with_reducible refine own_new (l := [.int .i8 s.1, .int .i8 s.2.1, .bool s.2.2]) ?_; (simp; done)) | with_reducible refine Own.alloc ?_ _ | refine Own.far _ _ (by first | (simp; done) | (simp [*]; done) | (simp; omega)) ?_)); done
    | simp [Own, go_sem]
  have hB2 : Below w.heap.size w W1 := by
    rw [hW1]
    repeat (first | with_reducible exact Below.refl _ _ | with_reducible refine bel_alloc ?_ _ | refine Below.setCell ?_ (by first | (simp; done) | (simp; omega) | omega) _)
  clear hW1 hL1
  have K3 := Lib.hid (fun W (h : TV W (.slice Aa Ma ca) (a.take Ma)) => HSWA.out ▸ set_any (.slice Aa Ma ca) (a.take Ma) W h HIA.out (by rw [List.length_take]; omega))
  have K5 := Lib.hid (fun W (h : TV W (.slice Ab Mb cb) (b.take Mb)) => HSWB.out ▸ set_any (.slice Ab Mb cb) (b.take Mb) W h HIB.out (by rw [List.length_take]; omega))
  have HSS7 : ∀ w' : World, Below W1.heap.size W1 w' → (w'.cell? ⟨w.heap.size, 0, none⟩ = some (.int .i8 s.1) ∧ w'.cell? ⟨w.heap.size, 1, none⟩ = some (.int .i8 s.2.1) ∧ w'.cell? ⟨w.heap.size, 2, none⟩ = some (.bool s.2.2)) := fun w' hb => by
    have qc1 := c1.up hb
    simp only [At, Own, CE, CS, Nat.reduceAdd, Nat.reduceMul, Nat.zero_mul, Nat.add_zero, Nat.add_assoc, and_true] at qc1
    try simp only [Nat.add_assoc, Nat.reduceAdd]
    simp [*]
  go_cut [7, 8] (fun x7 x8 wx => PV wx x7 X ∧ PV wx x8 Y ∧ Below W1.heap.size W1 wx)
  case first =>
    have hu := HSS7 W1 (Below.refl _ _)
    go_region_held3 (fun w' => w'.cell? ⟨w.heap.size, 0, none⟩ = some (.int .i8 s.1) ∧ w'.cell? ⟨w.heap.size, 1, none⟩ = some (.int .i8 s.2.1) ∧ w'.cell? ⟨w.heap.size, 2, none⟩ = some (.bool s.2.2)) (refine HSS7 _ ?_ <;> (repeat (first | with_reducible exact Below.refl _ _ | with_reducible refine bel_alloc ?_ _ | with_reducible refine Below.drew ?_ | (refine Below.setCell ?_ (by first | (simp; done) | (simp; omega) | omega) _) | with_reducible refine bel_up ?_ (by with_reducible assumption)))) (first
      | (go_at_call 16; with_reducible refine (K3.out _ (HTA.out.up (bel_up hB2 (by (repeat (first | with_reducible exact Below.refl _ _ | with_reducible refine bel_alloc ?_ _ | with_reducible refine Below.drew ?_ | (refine Below.setCell ?_ (by first | (simp; done) | (simp; omega) | omega) _) | with_reducible refine bel_up ?_ (by with_reducible assumption))))))).mono ?_; rintro e v_4 ⟨vv_4, rfl, hv_4, hbq_4⟩; have hsz_4 := hbq_4.size; (try simp [size_drewC] at hsz_4))
      | (go_at_call 16; with_reducible refine (K5.out _ (HTB.out.up (bel_up hB2 (by (repeat (first | with_reducible exact Below.refl _ _ | with_reducible refine bel_alloc ?_ _ | with_reducible refine Below.drew ?_ | (refine Below.setCell ?_ (by first | (simp; done) | (simp; omega) | omega) _) | with_reducible refine bel_up ?_ (by with_reducible assumption))))))).mono ?_; rintro e v_6 ⟨vv_6, rfl, hv_6, hbq_6⟩; have hsz_6 := hbq_6.size; (try simp [size_drewC] at hsz_6)))
    all_goals
      go_wp2_with fail
      go_meet
      refine ⟨(hv_4.up (by repeat (first | with_reducible exact Below.refl _ _ | with_reducible refine bel_alloc ?_ _ | with_reducible refine Below.drew ?_ | (refine Below.setCell ?_ (by first | (simp; done) | (simp; omega) | omega) _) | with_reducible refine bel_up ?_ (by with_reducible assumption)))), (hv_6.up (by repeat (first | with_reducible exact Below.refl _ _ | with_reducible refine bel_alloc ?_ _ | with_reducible refine Below.drew ?_ | (refine Below.setCell ?_ (by first | (simp; done) | (simp; omega) | omega) _) | with_reducible refine bel_up ?_ (by with_reducible assumption)))), ?_⟩
      · (repeat (first | with_reducible exact Below.refl _ _ | with_reducible refine bel_alloc ?_ _ | with_reducible refine Below.drew ?_ | (refine Below.setCell ?_ (by first | (simp; done) | (simp; omega) | omega) _) | with_reducible refine bel_up ?_ (by with_reducible assumption)))
  case rest =>
    obtain ⟨lv8, lv9, hbz1⟩ := hcut
    obtain ⟨wz1, hwz1⟩ : ∃ W_, W_ = wc := ⟨_, rfl⟩
    subst hwz1
    clear HSS7
    have c10 := c1.up hbz1
    have hB11 : Below w.heap.size w wz1 := bel_up hB2 hbz1
    clear c1
    have PV12 := Lib.hid lv8
    clear lv8
    have PV14 := Lib.hid lv9
    clear lv9
    have K16 := Lib.hid (fun W va vb (ha : PV W va X) (hb : PV W vb Y) => HLS.out ▸ csum_any va vb X Y W ha hb HSX.out HSY.out (Nat.le_trans HMX.out (by decide)) (Nat.le_trans HMY.out (by decide)) (by decide : 1 ≤ 40000))
    have uc10 := c10
    simp only [At, Own, Nat.reduceAdd, and_true] at uc10
    go_wp2_with (fail)
    refine calls_named ?_
    intro W2 hW2
    have hL2 : Below wz1.heap.size wz1 W2 := by
      rw [hW2]
      repeat (first | with_reducible exact Below.refl _ _ | with_reducible refine bel_alloc ?_ _ | refine Below.setCell ?_ (by first | (simp; done) | (simp; omega) | omega) _)
    have c17 := c10.up hL2
    have hA18 := hL2
    have hB19 : Below w.heap.size w W2 := by
      rw [hW2]
      repeat (first | with_reducible exact hB11 | with_reducible refine bel_alloc ?_ _ | refine Below.setCell ?_ (by first | (simp; done) | (simp; omega) | omega) _)
    clear hW2 hL2 uc10 c10
    with_reducible refine (K16.out _ _ _ (PV12.out.up hA18) (PV14.out.up hA18)).mono ?_
    rintro e w2 ⟨v2, rfl, hv2, hb2⟩
    have c20 := c17.up hb2
    have hA21 := bel_up hA18 hb2
    have hB22 : Below w.heap.size w w2 := bel_up hB19 hb2
    clear c17 hA18
    have PW2 := Lib.hid hv2
    clear hv2
    have K23 := Lib.hid (fun W => known_any W)
    have uc20 := c20
    simp only [At, Own, Nat.reduceAdd, and_true] at uc20
    go_wp2_with (fail)
    refine calls_named ?_
    intro W3 hW3
    have hL3 : Below w2.heap.size w2 W3 := by
      rw [hW3]
      repeat (first | with_reducible exact Below.refl _ _ | with_reducible refine bel_alloc ?_ _ | refine Below.setCell ?_ (by first | (simp; done) | (simp; omega) | omega) _)
    have c24 := c20.up hL3
    have hA25 := bel_up hA21 hL3
    have hA26 := hL3
    have hB27 : Below w.heap.size w W3 := by
      rw [hW3]
      repeat (first | with_reducible exact hB22 | with_reducible refine bel_alloc ?_ _ | refine Below.setCell ?_ (by first | (simp; done) | (simp; omega) | omega) _)
    clear hW3 hL3 uc20 c20 hA21
    with_reducible refine (K23.out _).mono ?_
    rintro e w3 ⟨rfl, hb3⟩
    have c28 := c24.up hb3
    have hA29 := bel_up hA25 hb3
    have hA30 := bel_up hA26 hb3
    have hB31 : Below w.heap.size w w3 := bel_up hB27 hb3
    clear c24 hA25 hA26
    have K32 := Lib.hid (fun W va vb (ha : PV W va X) (hb : PV W vb Y) => HLS.out ▸ hsum_any va vb X Y W ha hb HSX.out HSY.out (Nat.le_trans HMX.out (by decide)) (Nat.le_trans HMY.out (by decide)) (by decide : 1 ≤ 40000))
    have uc28 := c28
    simp only [At, Own, Nat.reduceAdd, and_true] at uc28
    go_wp2_with (fail)
    refine calls_named ?_
    intro W4 hW4
    have hL4 : Below w3.heap.size w3 W4 := by
      rw [hW4]
      repeat (first | with_reducible exact Below.refl _ _ | with_reducible refine bel_alloc ?_ _ | refine Below.setCell ?_ (by first | (simp; done) | (simp; omega) | omega) _)
    have c33 := c28.up hL4
    have hA34 := bel_up hA29 hL4
    have hA35 := bel_up hA30 hL4
    have hB36 : Below w.heap.size w W4 := by
      rw [hW4]
      repeat (first | with_reducible exact hB31 | with_reducible refine bel_alloc ?_ _ | refine Below.setCell ?_ (by first | (simp; done) | (simp; omega) | omega) _)
    clear hW4 hL4 uc28 c28 hA29 hA30
    with_reducible refine (K32.out _ _ _ (PV12.out.up hA34) (PV14.out.up hA34)).mono ?_
    rintro e w4 ⟨v4, rfl, hv4, hb4⟩
    have c37 := c33.up hb4
    have hA38 := bel_up hA34 hb4
    have hA39 := bel_up hA35 hb4
    have hB40 : Below w.heap.size w w4 := bel_up hB36 hb4
    clear c33 hA34 hA35
    have PW4 := Lib.hid hv4
    clear hv4
    have K41 := Lib.hid (fun W va vb (ha : PV W va L) (hb : PV W vb L) => same_true va vb L W ha hb HNL.out)
    have uc37 := c37
    simp only [At, Own, Nat.reduceAdd, and_true] at uc37
    go_wp2_with (fail)
    refine calls_named ?_
    intro W5 hW5
    have hL5 : Below w4.heap.size w4 W5 := by
      rw [hW5]
      repeat (first | with_reducible exact Below.refl _ _ | with_reducible refine bel_alloc ?_ _ | refine Below.setCell ?_ (by first | (simp; done) | (simp; omega) | omega) _)
    have c42 := c37.up hL5
    have hA43 := bel_up hA38 hL5
    have hA44 := bel_up hA39 hL5
    have hA45 := hL5
    have hB46 : Below w.heap.size w W5 := by
      rw [hW5]
      repeat (first | with_reducible exact hB40 | with_reducible refine bel_alloc ?_ _ | refine Below.setCell ?_ (by first | (simp; done) | (simp; omega) | omega) _)
    clear hW5 hL5 uc37 c37 hA38 hA39
    with_reducible refine (K41.out _ _ _ (PW2.out.up hA44) (PW4.out.up hA45)).mono ?_
    rintro e w5 ⟨rfl, hb5⟩
    have c47 := c42.up hb5
    have hA48 := bel_up hA43 hb5
    have hA49 := bel_up hA44 hb5
    have hA50 := bel_up hA45 hb5
    have hB51 : Below w.heap.size w w5 := bel_up hB46 hb5
    clear c42 hA43 hA44 hA45
    have K52 := Lib.hid (fun W va vb (ha : PV W va Y) (hb : PV W vb X) => HCM.out ▸ csum_any va vb Y X W ha hb HSY.out HSX.out (Nat.le_trans HMY.out (by decide)) (Nat.le_trans HMX.out (by decide)) (by decide : 1 ≤ 40000))
    have uc47 := c47
    simp only [At, Own, Nat.reduceAdd, and_true] at uc47
    go_wp2_with (fail)
    refine calls_named ?_
    intro W6 hW6
    have hL6 : Below w5.heap.size w5 W6 := by
      rw [hW6]
      repeat (first | with_reducible exact Below.refl _ _ | with_reducible refine bel_alloc ?_ _ | refine Below.setCell ?_ (by first | (simp; done) | (simp; omega) | omega) _)
    have c53 := c47.up hL6
    have hA54 := bel_up hA48 hL6
    have hA55 := bel_up hA49 hL6
    have hA56 := bel_up hA50 hL6
    have hB57 : Below w.heap.size w W6 := by
      rw [hW6]
      repeat (first | with_reducible exact hB51 | with_reducible refine bel_alloc ?_ _ | refine Below.setCell ?_ (by first | (simp; done) | (simp; omega) | omega) _)
    clear hW6 hL6 uc47 c47 hA48 hA49 hA50
    with_reducible refine (K52.out _ _ _ (PV14.out.up hA54) (PV12.out.up hA54)).mono ?_
    rintro e w6 ⟨v6, rfl, hv6, hb6⟩
    have c58 := c53.up hb6
    have hA59 := bel_up hA54 hb6
    have hA60 := bel_up hA55 hb6
    have hA61 := bel_up hA56 hb6
    have hB62 : Below w.heap.size w w6 := bel_up hB57 hb6
    clear c53 hA54 hA55 hA56
    have PW6 := Lib.hid hv6
    clear hv6
    have uc58 := c58
    simp only [At, Own, Nat.reduceAdd, and_true] at uc58
    go_wp2_with (fail)
    refine calls_named ?_
    intro W7 hW7
    have hL7 : Below w6.heap.size w6 W7 := by
      rw [hW7]
      repeat (first | with_reducible exact Below.refl _ _ | with_reducible refine bel_alloc ?_ _ | refine Below.setCell ?_ (by first | (simp; done) | (simp; omega) | omega) _)
    have c63 := c58.up hL7
    have hA64 := bel_up hA59 hL7
    have hA65 := bel_up hA60 hL7
    have hA66 := bel_up hA61 hL7
    have hA67 := hL7
    have hB68 : Below w.heap.size w W7 := by
      rw [hW7]
      repeat (first | with_reducible exact hB62 | with_reducible refine bel_alloc ?_ _ | refine Below.setCell ?_ (by first | (simp; done) | (simp; omega) | omega) _)
    clear hW7 hL7 uc58 c58 hA59 hA60 hA61
    with_reducible refine (K41.out _ _ _ (PW6.out.up hA67) (PW2.out.up hA65)).mono ?_
    rintro e w7 ⟨rfl, hb7⟩
    have c69 := c63.up hb7
    have hA70 := bel_up hA64 hb7
    have hA71 := bel_up hA65 hb7
    have hA72 := bel_up hA66 hb7
    have hA73 := bel_up hA67 hb7
    have hB74 : Below w.heap.size w w7 := bel_up hB68 hb7
    clear c63 hA64 hA65 hA66 hA67
    have uc69 := c69
    simp only [At, Own, Nat.reduceAdd, and_true] at uc69
    have K75 := Lib.hid (fun W => point_any s W hsp)
    go_wp2_with (fail)
    refine calls_named ?_
    intro W8 hW8
    have hL8 : Below w7.heap.size w7 W8 := by
      rw [hW8]
      repeat (first | with_reducible exact Below.refl _ _ | with_reducible refine bel_alloc ?_ _ | refine Below.setCell ?_ (by first | (simp; done) | (simp; omega) | omega) _)
    have c76 := c69.up hL8
    have hA77 := bel_up hA70 hL8
    have hA78 := bel_up hA71 hL8
    have hA79 := bel_up hA72 hL8
    have hA80 := bel_up hA73 hL8
    have hB81 : Below w.heap.size w W8 := by
      rw [hW8]
      repeat (first | with_reducible exact hB74 | with_reducible refine bel_alloc ?_ _ | refine Below.setCell ?_ (by first | (simp; done) | (simp; omega) | omega) _)
    clear hW8 hL8 uc69 c69 hA70 hA71 hA72 hA73
    with_reducible refine (K75.out _).mono ?_
    rintro e w8 ⟨rfl, hb8⟩
    have c82 := c76.up hb8
    have hA83 := bel_up hA77 hb8
    have hA84 := bel_up hA78 hb8
    have hA85 := bel_up hA79 hb8
    have hA86 := bel_up hA80 hb8
    have hB87 : Below w.heap.size w w8 := bel_up hB81 hb8
    clear c76 hA77 hA78 hA79 hA80
    have K88 := Lib.hid (fun W va (ha : PV W va L) => csupp_v va L (ptOf s) W ha HSL.out HNL.out (by decide : 1 + 1 + 1 ≤ 100000) ((ptOf_sz hsp).mono (by decide)))
    have uc82 := c82
    simp only [At, Own, Nat.reduceAdd, and_true] at uc82
    go_wp2_with (fail)
    refine calls_named ?_
    intro W9 hW9
    have hL9 : Below w8.heap.size w8 W9 := by
      rw [hW9]
      repeat (first | with_reducible exact Below.refl _ _ | with_reducible refine bel_alloc ?_ _ | refine Below.setCell ?_ (by first | (simp; done) | (simp; omega) | omega) _)
    have c89 := c82.up hL9
    have hA90 := bel_up hA83 hL9
    have hA91 := bel_up hA84 hL9
    have hA92 := bel_up hA85 hL9
    have hA93 := bel_up hA86 hL9
    have hB94 : Below w.heap.size w W9 := by
      rw [hW9]
      repeat (first | with_reducible exact hB87 | with_reducible refine bel_alloc ?_ _ | refine Below.setCell ?_ (by first | (simp; done) | (simp; omega) | omega) _)
    clear hW9 hL9 uc82 c82 hA83 hA84 hA85 hA86
    with_reducible refine (K88.out _ _ (PW2.out.up hA91)).mono ?_
    rintro e w9 ⟨rfl, hb9⟩
    have c95 := c89.up hb9
    have hA96 := bel_up hA90 hb9
    have hA97 := bel_up hA91 hb9
    have hA98 := bel_up hA92 hb9
    have hA99 := bel_up hA93 hb9
    have hB100 : Below w.heap.size w w9 := bel_up hB94 hb9
    clear c89 hA90 hA91 hA92 hA93
    have an101 : wz1.heap.size ≤ w9.heap.size := by have := hA96.size; omega
    have an102 : w2.heap.size ≤ w9.heap.size := by have := hA97.size; omega
    have an103 : w4.heap.size ≤ w9.heap.size := by have := hA98.size; omega
    have an104 : w6.heap.size ≤ w9.heap.size := by have := hA99.size; omega
    have ne105_ : w.heap.size < w9.heap.size := by have := c95.lt; omega
    have ne105 := Nat.ne_of_lt ne105_
    have ne105' := ne105.symm
    have uc95 := c95
    simp only [At, Own, Nat.reduceAdd, and_true] at uc95
    obtain ⟨AX, cX, hvX⟩ : ∃ A c, u7 = .slice A NX c := by
      obtain ⟨A, c, h, _⟩ := ((PV12.out.up hA96)).open_
      exact ⟨A, c, by rw [h, HLX.out]⟩
    subst hvX
    obtain ⟨AY, cY, hvY⟩ : ∃ A c, u8 = .slice A NY c := by
      obtain ⟨A, c, h, _⟩ := ((PV14.out.up hA96)).open_
      exact ⟨A, c, by rw [h, HLY.out]⟩
    subst hvY
    rcases Nat.eq_zero_or_pos NX with hx0 | hx0
    · skip
      have hE : suppE L = 10 := by
        have : X = [] := List.eq_nil_of_length_eq_zero (HLX.out ▸ hx0)
        rw [← HLS.out, this]; exact suppE_nil
      subst hx0
      go_wp2
      go_ret
      refine ⟨rfl, ?_⟩
      repeat (first | with_reducible exact hB100 | with_reducible refine bel_alloc ?_ _ | refine Below.setCell ?_ (by first | (simp; done) | (simp; omega) | omega) _)
    · skip
      have jx : ¬ (NX : Int) = 0 := by omega
      have jx2 : ((NX : Int) == 0) = false := by simpa using jx
      rcases Nat.eq_zero_or_pos NY with hy0 | hy0
      · skip
        have hE : suppE L = 10 := by
          have : Y = [] := List.eq_nil_of_length_eq_zero (HLY.out ▸ hy0)
          rw [← HLS.out, this]; rw [sumL_nil]; exact suppE_nil
        subst hy0
        go_wp2
        go_ret
        refine ⟨rfl, ?_⟩
        repeat (first | with_reducible exact hB100 | with_reducible refine bel_alloc ?_ _ | refine Below.setCell ?_ (by first | (simp; done) | (simp; omega) | omega) _)
      · skip
        have jy : ¬ (NY : Int) = 0 := by omega
        have jy2 : ((NY : Int) == 0) = false := by simpa using jy
        obtain ⟨hEX, hEY, hE⟩ := suppE_all HLS.out (show X.length ≠ 0 by rw [← HLX.out]; omega) (show Y.length ≠ 0 by rw [← HLY.out]; omega)
        have HSM := Lib.hid (supp_all (d := ptOf s) HLS.out (show X.length ≠ 0 by rw [← HLX.out]; omega) (show Y.length ≠ 0 by rw [← HLY.out]; omega))
        have EQS := fun W => eqQ_in (Pl.dotP (suppV L (ptOf s)) (ptOf s)) (Pl.dotP (suppV X (ptOf s)) (ptOf s) + Pl.dotP (suppV Y (ptOf s)) (ptOf s)) W
        rw [decide_eq_true HSM.out] at EQS
        go_wp2_with (fail)
        refine calls_named ?_
        intro W10 hW10
        have hL10 : Below w9.heap.size w9 W10 := by
          rw [hW10]
          repeat (first | with_reducible exact Below.refl _ _ | with_reducible refine bel_alloc ?_ _ | refine Below.setCell ?_ (by first | (simp; done) | (simp; omega) | omega) _)
        have c106 := c95.up hL10
        have c107 : Own W10 (w9.heap.size) 0 [.bool (ng (((suppV L (ptOf s)).1).num)), .string (mg (((suppV L (ptOf s)).1).num).natAbs), .bool false, .string (mg (dn ((suppV L (ptOf s)).1))), .bool (ng (((suppV L (ptOf s)).2).num)), .string (mg (((suppV L (ptOf s)).2).num).natAbs), .bool false, .string (mg (dn ((suppV L (ptOf s)).2)))] := by
          rw [hW10]
          first
          | (repeat (first | (with_reducible refine own_new (l := [.bool (ng (((suppV L (ptOf s)).1).num)), .string (mg (((suppV L (ptOf s)).1).num).natAbs), .bool false, .string (mg (dn ((suppV L (ptOf s)).1))), .bool (ng (((suppV L (ptOf s)).2).num)), .string (mg (((suppV L (ptOf s)).2).num).natAbs), .bool false, .string (mg (dn ((suppV L (ptOf s)).2)))]) ?_; (simp; done)) | with_reducible refine Own.alloc ?_ _ | refine Own.far _ _ (by first | (simp; done) | (simp [*]; done) | (simp; omega)) ?_)); done
          | simp [Own, go_sem, uc95, ne105, ne105', ne105_]
        have hA108 := bel_up hA96 hL10
        have hA109 := bel_up hA97 hL10
        have hA110 := bel_up hA98 hL10
        have hA111 := bel_up hA99 hL10
        have hB112 : Below w.heap.size w W10 := by
          rw [hW10]
          repeat (first | with_reducible exact hB100 | with_reducible refine bel_alloc ?_ _ | refine Below.setCell ?_ (by first | (simp; done) | (simp; omega) | omega) _)
        clear hW10 hL10 uc95 c95 hA96 hA97 hA98 hA99
        with_reducible refine (K75.out _).mono ?_
        rintro e w10 ⟨rfl, hb10⟩
        have c113 := c106.up hb10
        have c114 := c107.up hb10
        have hA115 := bel_up hA108 hb10
        have hA116 := bel_up hA109 hb10
        have hA117 := bel_up hA110 hb10
        have hA118 := bel_up hA111 hb10
        have hB119 : Below w.heap.size w w10 := bel_up hB112 hb10
        clear c106 c107 hA108 hA109 hA110 hA111
        have K120 := Lib.hid (fun W va (ha : PV W va X) => csupp_v va X (ptOf s) W ha HSX.out HNX.out (by decide : 1 ≤ 100000) (ptOf_sz hsp))
        have uc113 := c113; have uc114 := c114
        simp only [At, Own, Nat.reduceAdd, and_true] at uc113 uc114
        go_wp2_with (fail)
        refine calls_named ?_
        intro W11 hW11
        have hL11 : Below w10.heap.size w10 W11 := by
          rw [hW11]
          repeat (first | with_reducible exact Below.refl _ _ | with_reducible refine bel_alloc ?_ _ | refine Below.setCell ?_ (by first | (simp; done) | (simp; omega) | omega) _)
        have c121 := c113.up hL11
        have c122 := c114.up hL11
        have hA123 := bel_up hA115 hL11
        have hA124 := bel_up hA116 hL11
        have hA125 := bel_up hA117 hL11
        have hA126 := bel_up hA118 hL11
        have hB127 : Below w.heap.size w W11 := by
          rw [hW11]
          repeat (first | with_reducible exact hB119 | with_reducible refine bel_alloc ?_ _ | refine Below.setCell ?_ (by first | (simp; done) | (simp; omega) | omega) _)
        clear hW11 hL11 uc113 uc114 c113 c114 hA115 hA116 hA117 hA118
        with_reducible refine (K120.out _ _ (PV12.out.up hA123)).mono ?_
        rintro e w11 ⟨rfl, hb11⟩
        have c128 := c121.up hb11
        have c129 := c122.up hb11
        have hA130 := bel_up hA123 hb11
        have hA131 := bel_up hA124 hb11
        have hA132 := bel_up hA125 hb11
        have hA133 := bel_up hA126 hb11
        have hB134 : Below w.heap.size w w11 := bel_up hB127 hb11
        clear c121 c122 hA123 hA124 hA125 hA126
        have an135 : wz1.heap.size ≤ w11.heap.size := by have := hA130.size; omega
        have an136 : w2.heap.size ≤ w11.heap.size := by have := hA131.size; omega
        have an137 : w4.heap.size ≤ w11.heap.size := by have := hA132.size; omega
        have an138 : w6.heap.size ≤ w11.heap.size := by have := hA133.size; omega
        have ne139_ : w.heap.size < w11.heap.size := by have := c128.lt; omega
        have ne139 := Nat.ne_of_lt ne139_
        have ne139' := ne139.symm
        have ne140_ : w9.heap.size < w11.heap.size := by have := c129.lt; omega
        have ne140 := Nat.ne_of_lt ne140_
        have ne140' := ne140.symm
        have uc128 := c128; have uc129 := c129
        simp only [At, Own, Nat.reduceAdd, and_true] at uc128 uc129
        go_wp2_with (fail)
        refine calls_named ?_
        intro W12 hW12
        have hL12 : Below w11.heap.size w11 W12 := by
          rw [hW12]
          repeat (first | with_reducible exact Below.refl _ _ | with_reducible refine bel_alloc ?_ _ | refine Below.setCell ?_ (by first | (simp; done) | (simp; omega) | omega) _)
        have c141 := c128.up hL12
        have c142 := c129.up hL12
        have c143 : Own W12 (w11.heap.size) 0 [.bool (ng (((suppV X (ptOf s)).1).num)), .string (mg (((suppV X (ptOf s)).1).num).natAbs), .bool false, .string (mg (dn ((suppV X (ptOf s)).1))), .bool (ng (((suppV X (ptOf s)).2).num)), .string (mg (((suppV X (ptOf s)).2).num).natAbs), .bool false, .string (mg (dn ((suppV X (ptOf s)).2)))] := by
          rw [hW12]
          first
          | (repeat (first | (with_reducible refine own_new (l := [.bool (ng (((suppV X (ptOf s)).1).num)), .string (mg (((suppV X (ptOf s)).1).num).natAbs), .bool false, .string (mg (dn ((suppV X (ptOf s)).1))), .bool (ng (((suppV X (ptOf s)).2).num)), .string (mg (((suppV X (ptOf s)).2).num).natAbs), .bool false, .string (mg (dn ((suppV X (ptOf s)).2)))]) ?_; (simp; done)) | with_reducible refine Own.alloc ?_ _ | refine Own.far _ _ (by first | (simp; done) | (simp [*]; done) | (simp; omega)) ?_)); done
          | simp [Own, go_sem, uc128, uc129, ne139, ne139', ne139_, ne140, ne140', ne140_]
        have hA144 := bel_up hA130 hL12
        have hA145 := bel_up hA131 hL12
        have hA146 := bel_up hA132 hL12
        have hA147 := bel_up hA133 hL12
        have hB148 : Below w.heap.size w W12 := by
          rw [hW12]
          repeat (first | with_reducible exact hB134 | with_reducible refine bel_alloc ?_ _ | refine Below.setCell ?_ (by first | (simp; done) | (simp; omega) | omega) _)
        clear hW12 hL12 uc128 uc129 c128 c129 hA130 hA131 hA132 hA133
        with_reducible refine (K75.out _).mono ?_
        rintro e w12 ⟨rfl, hb12⟩
        have c149 := c141.up hb12
        have c150 := c142.up hb12
        have c151 := c143.up hb12
        have hA152 := bel_up hA144 hb12
        have hA153 := bel_up hA145 hb12
        have hA154 := bel_up hA146 hb12
        have hA155 := bel_up hA147 hb12
        have hB156 : Below w.heap.size w w12 := bel_up hB148 hb12
        clear c141 c142 c143 hA144 hA145 hA146 hA147
        have K157 := Lib.hid (fun W va (ha : PV W va Y) => csupp_v va Y (ptOf s) W ha HSY.out HNY.out (by decide : 1 ≤ 100000) (ptOf_sz hsp))
        have uc149 := c149; have uc150 := c150; have uc151 := c151
        simp only [At, Own, Nat.reduceAdd, and_true] at uc149 uc150 uc151
        go_wp2_with (fail)
        refine calls_named ?_
        intro W13 hW13
        have hL13 : Below w12.heap.size w12 W13 := by
          rw [hW13]
          repeat (first | with_reducible exact Below.refl _ _ | with_reducible refine bel_alloc ?_ _ | refine Below.setCell ?_ (by first | (simp; done) | (simp; omega) | omega) _)
        have c158 := c149.up hL13
        have c159 := c150.up hL13
        have c160 := c151.up hL13
        have hA161 := bel_up hA152 hL13
        have hA162 := bel_up hA153 hL13
        have hA163 := bel_up hA154 hL13
        have hA164 := bel_up hA155 hL13
        have hB165 : Below w.heap.size w W13 := by
          rw [hW13]
          repeat (first | with_reducible exact hB156 | with_reducible refine bel_alloc ?_ _ | refine Below.setCell ?_ (by first | (simp; done) | (simp; omega) | omega) _)
        clear hW13 hL13 uc149 uc150 uc151 c149 c150 c151 hA152 hA153 hA154 hA155
        with_reducible refine (K157.out _ _ (PV14.out.up hA161)).mono ?_
        rintro e w13 ⟨rfl, hb13⟩
        have c166 := c158.up hb13
        have c167 := c159.up hb13
        have c168 := c160.up hb13
        have hA169 := bel_up hA161 hb13
        have hA170 := bel_up hA162 hb13
        have hA171 := bel_up hA163 hb13
        have hA172 := bel_up hA164 hb13
        have hB173 : Below w.heap.size w w13 := bel_up hB165 hb13
        clear c158 c159 c160 hA161 hA162 hA163 hA164
        have an174 : wz1.heap.size ≤ w13.heap.size := by have := hA169.size; omega
        have an175 : w2.heap.size ≤ w13.heap.size := by have := hA170.size; omega
        have an176 : w4.heap.size ≤ w13.heap.size := by have := hA171.size; omega
        have an177 : w6.heap.size ≤ w13.heap.size := by have := hA172.size; omega
        have ne178_ : w.heap.size < w13.heap.size := by have := c166.lt; omega
        have ne178 := Nat.ne_of_lt ne178_
        have ne178' := ne178.symm
        have ne179_ : w9.heap.size < w13.heap.size := by have := c167.lt; omega
        have ne179 := Nat.ne_of_lt ne179_
        have ne179' := ne179.symm
        have ne180_ : w11.heap.size < w13.heap.size := by have := c168.lt; omega
        have ne180 := Nat.ne_of_lt ne180_
        have ne180' := ne180.symm
        have uc166 := c166; have uc167 := c167; have uc168 := c168
        simp only [At, Own, Nat.reduceAdd, and_true] at uc166 uc167 uc168
        have K181 := Lib.hid (fun W => hdot_any (suppV L (ptOf s)) (ptOf s) W (suppV_sz HSL.out) (ptOf_sz hsp) (by omega) (by omega))
        have K182 := Lib.hid (fun W => hdot_any (suppV X (ptOf s)) (ptOf s) W (suppV_sz HSX.out) (ptOf_sz hsp) (by omega) (by omega))
        have K183 := Lib.hid (fun W => hdot_any (suppV Y (ptOf s)) (ptOf s) W (suppV_sz HSY.out) (ptOf_sz hsp) (by omega) (by omega))
        have K184 := Lib.hid (fun W => radd_any (Pl.dotP (suppV X (ptOf s)) (ptOf s)) (Pl.dotP (suppV Y (ptOf s)) (ptOf s)) W (((suppV_sz HSX.out).dot (ptOf_sz hsp)).mono (by omega)) (((suppV_sz HSY.out).dot (ptOf_sz hsp)).mono (by omega)))
        go_wp2_with fail
        refine wp_named ?_
        intro W14 hW14
        have hL14 : Below w13.heap.size w13 W14 := by
          rw [hW14]
          repeat (first | with_reducible exact Below.refl _ _ | with_reducible refine bel_alloc ?_ _ | refine Below.setCell ?_ (by first | (simp; done) | (simp; omega) | omega) _)
        have c185 := c166.up hL14
        have c186 := c167.up hL14
        have c187 := c168.up hL14
        have c188 : Own W14 (w13.heap.size) 0 [.bool (ng (((suppV Y (ptOf s)).1).num)), .string (mg (((suppV Y (ptOf s)).1).num).natAbs), .bool false, .string (mg (dn ((suppV Y (ptOf s)).1))), .bool (ng (((suppV Y (ptOf s)).2).num)), .string (mg (((suppV Y (ptOf s)).2).num).natAbs), .bool false, .string (mg (dn ((suppV Y (ptOf s)).2)))] := by
          rw [hW14]
          first
          | (repeat (first | (with_reducible refine own_new (l := [.bool (ng (((suppV Y (ptOf s)).1).num)), .string (mg (((suppV Y (ptOf s)).1).num).natAbs), .bool false, .string (mg (dn ((suppV Y (ptOf s)).1))), .bool (ng (((suppV Y (ptOf s)).2).num)), .string (mg (((suppV Y (ptOf s)).2).num).natAbs), .bool false, .string (mg (dn ((suppV Y (ptOf s)).2)))]) ?_; (simp; done)) | with_reducible refine Own.alloc ?_ _ | refine Own.far _ _ (by first | (simp; done) | (simp [*]; done) | (simp; omega)) ?_)); done
          | simp [Own, go_sem, uc166, uc167, uc168, ne178, ne178', ne178_, ne179, ne179', ne179_, ne180, ne180', ne180_]
        have hA189 := bel_up hA169 hL14
        have hA190 := bel_up hA170 hL14
        have hA191 := bel_up hA171 hL14
        have hA192 := bel_up hA172 hL14
        have hB193 : Below w.heap.size w W14 := by
          rw [hW14]
          repeat (first | with_reducible exact hB173 | with_reducible refine bel_alloc ?_ _ | refine Below.setCell ?_ (by first | (simp; done) | (simp; omega) | omega) _)
        clear hW14 hL14 uc166 uc167 uc168 c166 c167 c168 hA169 hA170 hA171 hA172
        have dc185 := fun p : Bel W14 => c185.bel p; have dc186 := fun p : Bel W14 => c186.bel p; have dc187 := fun p : Bel W14 => c187.bel p; have dc188 := fun p : Bel W14 => c188.bel p
        simp only [At, Own, Nat.reduceAdd, and_true] at dc185 dc186 dc187 dc188
        refine wp_region_tail 26 (by kernel_rfl) (by kernel_rfl) ?_
        simp only [List.take_succ_cons, List.take_zero, List.drop_succ_cons, List.drop_zero]
        repeat (go_big_quiet_step (first | (go_at_call 19; with_reducible exact Calls.bel (K75.out _)) | (go_at_call 28; with_reducible exact Calls.bel (K181.out _)) | (go_at_call 28; with_reducible exact Calls.bel (K182.out _)) | (go_at_call 28; with_reducible exact Calls.bel (K183.out _)) | (go_at_call 29; with_reducible exact Calls.bel (K184.out _))))
        refine wpQuiet_nil ?_
        intro w14 hb14
        have c194 := c185.up hb14
        have c195 := c186.up hb14
        have c196 := c187.up hb14
        have c197 := c188.up hb14
        have hA198 := bel_up hA189 hb14
        have hA199 := bel_up hA190 hb14
        have hA200 := bel_up hA191 hb14
        have hA201 := bel_up hA192 hb14
        have hB202 : Below w.heap.size w w14 := bel_up hB193 hb14
        clear dc185 dc186 dc187 dc188 c185 c186 c187 c188 hA189 hA190 hA191 hA192
        have uc194 := c194; have uc195 := c195; have uc196 := c196; have uc197 := c197
        simp only [At, Own, Nat.reduceAdd, and_true] at uc194 uc195 uc196 uc197
        go_wp2
        go_ret
        refine ⟨rfl, ?_⟩
        repeat (first | with_reducible exact hB202 | with_reducible refine bel_alloc ?_ _ | refine Below.setCell ?_ (by first | (simp; done) | (simp; omega) | omega) _)
end Go.Proofs.YtdkkjfnpinckjaaGreatDoor
