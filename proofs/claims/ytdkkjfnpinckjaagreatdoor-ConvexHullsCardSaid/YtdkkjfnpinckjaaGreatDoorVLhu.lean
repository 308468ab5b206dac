/-
  The law ConvexHulls: the walk.
-/
import Derived.Test.YtdkkjfnpinckjaaGreatDoorVKnw
import Derived.Test.YtdkkjfnpinckjaaGreatDoorVMr
import Derived.Test.YtdkkjfnpinckjaaGreatDoorVLw1
import Derived.Test.YtdkkjfnpinckjaaGreatDoorVChl
import Derived.Test.YtdkkjfnpinckjaaGreatDoorVMade
import Derived.Test.YtdkkjfnpinckjaaGreatDoorVConv
set_option linter.unusedSimpArgs false
set_option linter.unusedVariables false
namespace Go.Proofs.YtdkkjfnpinckjaaGreatDoor
open Go Go.RowKit

theorem chull_over {base : Nat} (v : Value) (xs : List Value) (w : World) (h : w.ownsRow base 35 8 v 513 xs) :
    Calls Tryz.prog 47 #[v] w fun e w' => e = .returned (.tuple #[.slice none 0 0, .int .i64 3]) ∧ Below w.heap.size w w' := by
  obtain ⟨g, cap, rfl, _⟩ := owns_form h (by decide)
  exact chull_many _ 513 cap w (by decide)
theorem same_true (va vb : Value) (l : List (Rat × Rat)) (w : World) (ha : PV w va l) (hb : PV w vb l) (hn : l.length ≤ 1000000) :
    Calls Tryz.prog 25 #[va, vb] w fun e w' => e = .returned (.bool true) ∧ Below w.heap.size w w' := by
  have h := hsame_any va vb l l w ha hb hn
  rwa [Pl.sameB_iff, decide_eq_true rfl] at h
theorem zeros_sz (n : Nat) : ∀ q ∈ zerosL n, Pl.SzP 1 q := fun q hq => by
  obtain ⟨_, rfl⟩ := List.mem_replicate.1 hq
  exact ⟨Pl.sz_zero.mono (by omega), Pl.sz_zero.mono (by omega)⟩

set_option maxRecDepth 100000 in
set_option maxHeartbeats 2000000 in
theorem hulls_any (v : Value) (l : List (Int × Int × Bool)) (w : World) (h : TV w v l) (hs : ∀ s ∈ l, In8 s) (hn : l.length ≤ 9223372036854775807) :
    Calls Tryz.prog 11 #[v] w fun e w' => e = .returned (.bool true) ∧ Below w.heap.size w w' := by
  have hpl := ptsOf_len l
  obtain ⟨G, hG⟩ : ∃ G, ptsOf l = G := ⟨_, rfl⟩
  have HG := Lib.hid hG
  have HSG : Hid (∀ q ∈ G, Pl.SzP 1 q) := Lib.hid (hG ▸ ptsOf_sz hs)
  have HNG : Hid (G.length ≤ 512) := Lib.hid (by rw [← hG]; omega)
  obtain ⟨H, hH⟩ : ∃ H, Pl.wrap G = H := ⟨_, rfl⟩
  have HWG := Lib.hid hH
  have HSH : Hid (∀ q ∈ H, Pl.SzP 1 q) := Lib.hid (hH ▸ wrap_sz HSG.out)
  have HNH : Hid (H.length ≤ 512) := Lib.hid (by have := wrap_len G; rw [hH, ← hG] at this; omega)
  have HWH : Hid (Pl.wrap H = H) := Lib.hid (by rw [← hH]; exact Pl.wrap_wrap G)
  have HCK : Hid (ckR (Pl.sameB (Pl.wrap H) H) = 0) := Lib.hid (by rw [HWH.out, Pl.sameB_iff, decide_eq_true rfl]; rfl)
  obtain ⟨Z, hZ⟩ : ∃ Z, zerosL 512 = Z := ⟨_, rfl⟩
  have HZ := Lib.hid hZ
  have HSZ : Hid (∀ q ∈ Z, Pl.SzP 1 q) := Lib.hid (hZ ▸ zeros_sz 512)
  have HNZ : Hid (Z.length ≤ 512) := Lib.hid (by rw [← hZ, zerosL, List.length_replicate]; exact Nat.le_refl _)
  obtain ⟨ONE, hONE⟩ : ∃ O, [((0 : Rat), (0 : Rat))] = O := ⟨_, rfl⟩
  have HONE : Hid (ONE = [((0 : Rat), (0 : Rat))]) := Lib.hid hONE.symm
  have HWZ : Hid (Pl.wrap Z = ONE) := Lib.hid (by rw [← hZ, ← hONE]; exact wrap_zeros 511)
  clear hG hH hZ hONE
  go_enter Tryz.func11, Tryz.ntmps11
  have K1 := Lib.hid (fun W hb => HG.out ▸ points_any v l W (h.up hb) hs hn)
  go_wp2_with (fail)
  refine calls_named ?_
  intro W1 hW1
  have hL1 : Below w.heap.size w W1 := by
    rw [hW1]
    repeat (first | with_reducible exact Below.refl _ _ | with_reducible refine bel_alloc ?_ _ | refine Below.setCell ?_ (by first | (simp; done) | (simp; omega) | omega) _)
  have hB2 : Below w.heap.size w W1 := by
    rw [hW1]
    repeat (first | with_reducible exact Below.refl _ _ | with_reducible refine bel_alloc ?_ _ | refine Below.setCell ?_ (by first | (simp; done) | (simp; omega) | omega) _)
  clear hW1 hL1
  with_reducible refine (K1.out _ hB2).mono ?_
  rintro e w1 ⟨v1, rfl, hv1, hb1⟩
  have hB3 : Below w.heap.size w w1 := bel_up hB2 hb1
  have PW1 := Lib.hid hv1
  clear hv1
  have K4 := Lib.hid (fun W va (ha : PV W va G) => HWG.out ▸ chull_ok va G W ha HSG.out HNG.out (by decide : 1 ≤ 100000))
  go_wp2_with (fail)
  refine calls_named ?_
  intro W2 hW2
  have hL2 : Below w1.heap.size w1 W2 := by
    rw [hW2]
    repeat (first | with_reducible exact Below.refl _ _ | with_reducible refine bel_alloc ?_ _ | refine Below.setCell ?_ (by first | (simp; done) | (simp; omega) | omega) _)
  have hA5 := hL2
  have hB6 : Below w.heap.size w W2 := by
    rw [hW2]
    repeat (first | with_reducible exact hB3 | with_reducible refine bel_alloc ?_ _ | refine Below.setCell ?_ (by first | (simp; done) | (simp; omega) | omega) _)
  clear hW2 hL2
  with_reducible refine (K4.out _ _ (PW1.out.up hA5)).mono ?_
  rintro e w2 ⟨v2, rfl, hv2, hb2⟩
  have hA7 := bel_up hA5 hb2
  have hB8 : Below w.heap.size w w2 := bel_up hB6 hb2
  clear hA5
  have PW2 := Lib.hid hv2
  clear hv2
  have K9 := Lib.hid (fun W va (ha : PV W va H) => HWH.out ▸ chull_ok va H W ha HSH.out HNH.out (by decide : 1 ≤ 100000))
  go_wp2_with (fail)
  refine calls_named ?_
  intro W3 hW3
  have hL3 : Below w2.heap.size w2 W3 := by
    rw [hW3]
    repeat (first | with_reducible exact Below.refl _ _ | with_reducible refine bel_alloc ?_ _ | refine Below.setCell ?_ (by first | (simp; done) | (simp; omega) | omega) _)
  have hA10 := bel_up hA7 hL3
  have hA11 := hL3
  have hB12 : Below w.heap.size w W3 := by
    rw [hW3]
    repeat (first | with_reducible exact hB8 | with_reducible refine bel_alloc ?_ _ | refine Below.setCell ?_ (by first | (simp; done) | (simp; omega) | omega) _)
  clear hW3 hL3 hA7
  with_reducible refine (K9.out _ _ (PW2.out.up hA11)).mono ?_
  rintro e w3 ⟨v3, rfl, hv3, hb3⟩
  have hA13 := bel_up hA10 hb3
  have hA14 := bel_up hA11 hb3
  have hB15 : Below w.heap.size w w3 := bel_up hB12 hb3
  clear hA10 hA11
  have PW3 := Lib.hid hv3
  clear hv3
  go_wp2_with (refine wpList_make rfl _ _ rfl 512 rfl rfl (by decide) (base := w.heap.size) hB15.size ?_)
  intro wm hom hbm
  rw [HZ.out] at hom
  have OM := Lib.hid hom
  clear hom
  have zz_w1 : w1.heap.size ≤ w3.heap.size := hA13.size
  have zz_w2 : w2.heap.size ≤ w3.heap.size := hA14.size
  have zz_w3 : w3.heap.size ≤ w3.heap.size := Nat.le_refl _
  have hA16 := bel_up hA13 hbm
  have hA17 := bel_up hA14 hbm
  have hA18 := hbm
  have hB19 : Below w.heap.size w wm := bel_up hB15 hbm
  clear hA13 hA14
  have K20 := Lib.hid (fun W va (ha : PV W va Z) => HWZ.out ▸ chull_ok va Z W ha HSZ.out HNZ.out (by decide : 1 ≤ 100000))
  go_wp2_with (fail)
  refine calls_named ?_
  intro W4 hW4
  have hL4 : Below wm.heap.size wm W4 := by
    rw [hW4]
    repeat (first | with_reducible exact Below.refl _ _ | with_reducible refine bel_alloc ?_ _ | refine Below.setCell ?_ (by first | (simp; done) | (simp; omega) | omega) _)
  have O21 := Lib.hid (owns_up OM.out hL4)
  have hA22 := bel_up hA16 hL4
  have hA23 := bel_up hA17 hL4
  have hA24 := bel_up hA18 hL4
  have hB25 : Below w.heap.size w W4 := by
    rw [hW4]
    repeat (first | with_reducible exact hB19 | with_reducible refine bel_alloc ?_ _ | refine Below.setCell ?_ (by first | (simp; done) | (simp; omega) | omega) _)
  clear hW4 hL4 hA16 hA17 hA18
  with_reducible refine (K20.out _ _ (pv_own O21.out)).mono ?_
  rintro e w4 ⟨v4, rfl, hv4, hb4⟩
  have O26 := Lib.hid (owns_up O21.out hb4)
  have hA27 := bel_up hA22 hb4
  have hA28 := bel_up hA23 hb4
  have hA29 := bel_up hA24 hb4
  have hB30 : Below w.heap.size w w4 := bel_up hB25 hb4
  clear O21 hA22 hA23 hA24
  have PW4 := Lib.hid hv4
  clear hv4
  have HON : Hid (∃ A c, v4 = .slice A 1 c) := Lib.hid (by obtain ⟨A, c, h, _⟩ := PV.open1 (HONE.out ▸ PW4.out); exact ⟨A, c, h⟩)
  go_wp2_with (at_builtin; refine wpList_appF rfl _ _ _ rfl ti_pt O26.out (hB30).size rfl rfl rfl rfl (pcells_one ((0 : Rat), (0 : Rat))) (by omega) (by decide) ?_)
  intro v31 w_v31 hown_v31 hst_v31
  have O33 : Hid (w_v31.ownsRow w.heap.size 35 8 v31 (512 + 1) (pts (Z ++ [((0 : Rat), (0 : Rat))]))) := Lib.hid (by rw [pts_snoc]; exact hown_v31)
  have hA34 : Below w1.heap.size w1 w_v31 := hst_v31.below hA27 hA27.size (fun r hr => by simp only [Value.ownBlock, Option.some.injEq] at hr; subst hr; assumption)
  have hA35 : Below w2.heap.size w2 w_v31 := hst_v31.below hA28 hA28.size (fun r hr => by simp only [Value.ownBlock, Option.some.injEq] at hr; subst hr; assumption)
  have hA36 : Below w3.heap.size w3 w_v31 := hst_v31.below hA29 hA29.size (fun r hr => by simp only [Value.ownBlock, Option.some.injEq] at hr; subst hr; assumption)
  have hB37 : Below w.heap.size w w_v31 := hst_v31.below hB30 (hB30).size (fun r hr => (O26.out.lt r hr).1)
  clear hown_v31 hA27 hA28 hA29
  have K38 := Lib.hid (fun W va xs (hW : W.ownsRow w.heap.size 35 8 va 513 xs) => chull_over va xs W hW)
  go_wp2_with (fail)
  refine calls_named ?_
  intro W5 hW5
  have hL5 : Below w_v31.heap.size w_v31 W5 := by
    rw [hW5]
    repeat (first | with_reducible exact Below.refl _ _ | with_reducible refine bel_alloc ?_ _ | refine Below.setCell ?_ (by first | (simp; done) | (simp; omega) | omega) _)
  have O39 := Lib.hid (owns_up O33.out hL5)
  have hA40 := bel_up hA34 hL5
  have hA41 := bel_up hA35 hL5
  have hA42 := bel_up hA36 hL5
  have hB43 : Below w.heap.size w W5 := by
    rw [hW5]
    repeat (first | with_reducible exact hB37 | with_reducible refine bel_alloc ?_ _ | refine Below.setCell ?_ (by first | (simp; done) | (simp; omega) | omega) _)
  clear hW5 hL5 hA34 hA35 hA36
  with_reducible refine (K38.out _ _ _ O39.out).mono ?_
  rintro e w5 ⟨rfl, hb5⟩
  have O44 := Lib.hid (owns_up O39.out hb5)
  have hA45 := bel_up hA40 hb5
  have hA46 := bel_up hA41 hb5
  have hA47 := bel_up hA42 hb5
  have hB48 : Below w.heap.size w w5 := bel_up hB43 hb5
  clear O39 hA40 hA41 hA42
  obtain ⟨A1, c1, hv1⟩ := HON.out
  subst hv1
  have K49 := Lib.hid (fun W => known_any W)
  go_wp2_with (fail)
  refine calls_named ?_
  intro W6 hW6
  have hL6 : Below w5.heap.size w5 W6 := by
    rw [hW6]
    repeat (first | with_reducible exact Below.refl _ _ | with_reducible refine bel_alloc ?_ _ | refine Below.setCell ?_ (by first | (simp; done) | (simp; omega) | omega) _)
  have O50 := Lib.hid (owns_up O44.out hL6)
  have hA51 := bel_up hA45 hL6
  have hA52 := bel_up hA46 hL6
  have hA53 := bel_up hA47 hL6
  have hB54 : Below w.heap.size w W6 := by
    rw [hW6]
    repeat (first | with_reducible exact hB48 | with_reducible refine bel_alloc ?_ _ | refine Below.setCell ?_ (by first | (simp; done) | (simp; omega) | omega) _)
  clear hW6 hL6 hA45 hA46 hA47
  with_reducible refine (K49.out _).mono ?_
  rintro e w6 ⟨rfl, hb6⟩
  have O55 := Lib.hid (owns_up O50.out hb6)
  have hA56 := bel_up hA51 hb6
  have hA57 := bel_up hA52 hb6
  have hA58 := bel_up hA53 hb6
  have hB59 : Below w.heap.size w w6 := bel_up hB54 hb6
  clear O50 hA51 hA52 hA53
  have K60 := Lib.hid (fun W va (ha : PV W va G) => HWG.out ▸ hHull_any va G W ha HSG.out (Nat.le_trans HNG.out (by decide)) (by decide : 1 ≤ 100000))
  go_wp2_with (fail)
  refine calls_named ?_
  intro W7 hW7
  have hL7 : Below w6.heap.size w6 W7 := by
    rw [hW7]
    repeat (first | with_reducible exact Below.refl _ _ | with_reducible refine bel_alloc ?_ _ | refine Below.setCell ?_ (by first | (simp; done) | (simp; omega) | omega) _)
  have O61 := Lib.hid (owns_up O55.out hL7)
  have hA62 := bel_up hA56 hL7
  have hA63 := bel_up hA57 hL7
  have hA64 := bel_up hA58 hL7
  have hB65 : Below w.heap.size w W7 := by
    rw [hW7]
    repeat (first | with_reducible exact hB59 | with_reducible refine bel_alloc ?_ _ | refine Below.setCell ?_ (by first | (simp; done) | (simp; omega) | omega) _)
  clear hW7 hL7 hA56 hA57 hA58
  with_reducible refine (K60.out _ _ (PW1.out.up hA62)).mono ?_
  rintro e w7 ⟨v7, rfl, hv7, hb7⟩
  have O66 := Lib.hid (owns_up O61.out hb7)
  have hA67 := bel_up hA62 hb7
  have hA68 := bel_up hA63 hb7
  have hA69 := bel_up hA64 hb7
  have hB70 : Below w.heap.size w w7 := bel_up hB65 hb7
  clear O61 hA62 hA63 hA64
  have PW7 := Lib.hid hv7
  clear hv7
  have K71 := Lib.hid (fun W va vb (ha : PV W va H) (hb : PV W vb H) => same_true va vb H W ha hb (Nat.le_trans HNH.out (by decide)))
  go_wp2_with (fail)
  refine calls_named ?_
  intro W8 hW8
  have hL8 : Below w7.heap.size w7 W8 := by
    rw [hW8]
    repeat (first | with_reducible exact Below.refl _ _ | with_reducible refine bel_alloc ?_ _ | refine Below.setCell ?_ (by first | (simp; done) | (simp; omega) | omega) _)
  have O72 := Lib.hid (owns_up O66.out hL8)
  have hA73 := bel_up hA67 hL8
  have hA74 := bel_up hA68 hL8
  have hA75 := bel_up hA69 hL8
  have hA76 := hL8
  have hB77 : Below w.heap.size w W8 := by
    rw [hW8]
    repeat (first | with_reducible exact hB70 | with_reducible refine bel_alloc ?_ _ | refine Below.setCell ?_ (by first | (simp; done) | (simp; omega) | omega) _)
  clear hW8 hL8 hA67 hA68 hA69
  with_reducible refine (K71.out _ _ _ (PW2.out.up hA74) (PW7.out.up hA76)).mono ?_
  rintro e w8 ⟨rfl, hb8⟩
  have O78 := Lib.hid (owns_up O72.out hb8)
  have hA79 := bel_up hA73 hb8
  have hA80 := bel_up hA74 hb8
  have hA81 := bel_up hA75 hb8
  have hA82 := bel_up hA76 hb8
  have hB83 : Below w.heap.size w w8 := bel_up hB77 hb8
  clear O72 hA73 hA74 hA75 hA76
  go_wp2_with (fail)
  refine calls_named ?_
  intro W9 hW9
  have hL9 : Below w8.heap.size w8 W9 := by
    rw [hW9]
    repeat (first | with_reducible exact Below.refl _ _ | with_reducible refine bel_alloc ?_ _ | refine Below.setCell ?_ (by first | (simp; done) | (simp; omega) | omega) _)
  have O84 := Lib.hid (owns_up O78.out hL9)
  have hA85 := bel_up hA79 hL9
  have hA86 := bel_up hA80 hL9
  have hA87 := bel_up hA81 hL9
  have hA88 := bel_up hA82 hL9
  have hB89 : Below w.heap.size w W9 := by
    rw [hW9]
    repeat (first | with_reducible exact hB83 | with_reducible refine bel_alloc ?_ _ | refine Below.setCell ?_ (by first | (simp; done) | (simp; omega) | omega) _)
  clear hW9 hL9 hA79 hA80 hA81 hA82
  with_reducible refine (K71.out _ _ _ (PW3.out.up hA87) (PW2.out.up hA86)).mono ?_
  rintro e w9 ⟨rfl, hb9⟩
  have O90 := Lib.hid (owns_up O84.out hb9)
  have hA91 := bel_up hA85 hb9
  have hA92 := bel_up hA86 hb9
  have hA93 := bel_up hA87 hb9
  have hA94 := bel_up hA88 hb9
  have hB95 : Below w.heap.size w w9 := bel_up hB89 hb9
  clear O84 hA85 hA86 hA87 hA88
  have K96 := Lib.hid (fun W va (ha : PV W va H) => HCK.out ▸ ccheck_any va H W ha HSH.out (Nat.le_trans HNH.out (by decide)) (by decide : 1 ≤ 100000))
  go_wp2_with (fail)
  refine calls_named ?_
  intro W10 hW10
  have hL10 : Below w9.heap.size w9 W10 := by
    rw [hW10]
    repeat (first | with_reducible exact Below.refl _ _ | with_reducible refine bel_alloc ?_ _ | refine Below.setCell ?_ (by first | (simp; done) | (simp; omega) | omega) _)
  have O97 := Lib.hid (owns_up O90.out hL10)
  have hA98 := bel_up hA91 hL10
  have hA99 := bel_up hA92 hL10
  have hA100 := bel_up hA93 hL10
  have hA101 := bel_up hA94 hL10
  have hB102 : Below w.heap.size w W10 := by
    rw [hW10]
    repeat (first | with_reducible exact hB95 | with_reducible refine bel_alloc ?_ _ | refine Below.setCell ?_ (by first | (simp; done) | (simp; omega) | omega) _)
  clear hW10 hL10 hA91 hA92 hA93 hA94
  with_reducible refine (K96.out _ _ (PW2.out.up hA99)).mono ?_
  rintro e w10 ⟨rfl, hb10⟩
  have O103 := Lib.hid (owns_up O97.out hb10)
  have hA104 := bel_up hA98 hb10
  have hA105 := bel_up hA99 hb10
  have hA106 := bel_up hA100 hb10
  have hA107 := bel_up hA101 hb10
  have hB108 : Below w.heap.size w w10 := bel_up hB102 hb10
  clear O97 hA98 hA99 hA100 hA101
  go_wp2
  go_ret
  refine ⟨rfl, ?_⟩
  repeat (first | with_reducible exact hB108 | with_reducible refine bel_alloc ?_ _ | refine Below.setCell ?_ (by first | (simp; done) | (simp; omega) | omega) _)
end Go.Proofs.YtdkkjfnpinckjaaGreatDoor
