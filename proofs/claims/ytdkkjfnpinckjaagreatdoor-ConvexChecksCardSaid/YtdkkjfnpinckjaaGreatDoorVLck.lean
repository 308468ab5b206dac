/-
  The law ConvexChecks: the walk.
-/
import Derived.Test.YtdkkjfnpinckjaaGreatDoorVKnw
import Derived.Test.YtdkkjfnpinckjaaGreatDoorVLw1
import Derived.Test.YtdkkjfnpinckjaaGreatDoorVChb
import Derived.Test.YtdkkjfnpinckjaaGreatDoorVVal
import Derived.Deep.Onto
set_option linter.unusedSimpArgs false
set_option linter.unusedVariables false
namespace Go.Proofs.YtdkkjfnpinckjaaGreatDoor
open Go Go.RowKit

set_option maxRecDepth 100000 in
theorem points_own (v : Value) (l : List (Int × Int × Bool)) (w : World) (h : TV w v l) (hs : ∀ s ∈ l, In8 s) (hn : l.length ≤ 9223372036854775807) :
    Calls Tryz.prog 15 #[v] w fun e w' => ∃ v' n', e = .returned v' ∧ w'.ownsRow w.heap.size 35 8 v' n' (pts (ptsOf l)) ∧ Below w.heap.size w w' := by
  obtain ⟨A, c, rfl, hc, hm, hx⟩ := h.open_
  have HV := Lib.hid h
  have HX := Lib.hid hx
  have HS := Lib.hid hs
  have HF : Hid (l.take l.length = l) := Lib.hid List.take_length
  generalize hN : l.length = N at *
  have HN := Lib.hid hN
  clear h hx hs hN
  go_enter Tryz.func15, Tryz.ntmps15
  go_wp2_with fail
  go_loopw [3, 4] (fun s3 s4 wr => ∃ (k : Nat) (L : List (Rat × Rat)), s4 = .int .i64 k ∧ wr.ownsRow w.heap.size 35 8 s3 k (pts L) ∧ Below w.heap.size w wr ∧ k ≤ N ∧ k ≤ 10 ∧ Hid (L = (l.take k).map ptOf)) (fun _ s4 _ => N - (intOf s4).toNat)
  case atStart => exact ⟨0, ([]), rfl, World.ownsRow_nil _ _ _ _, Below.refl _ _, (by omega), (by omega), Lib.hid rfl⟩
  case round =>
    obtain ⟨k, L, rfl, o1, hB2, hk, hk10, HE⟩ := hrel
    obtain ⟨wr3, hwr3⟩ : ∃ W_, W_ = wr := ⟨_, rfl⟩
    subst hwr3
    have O4 := Lib.hid o1
    clear o1
    rcases (by omega : (k < N ∧ k < 10) ∨ (k < N ∧ k = 10) ∨ k = N) with ⟨hlt, hl10⟩ | ⟨hlt, hl10⟩ | hlt
    · skip
      have i1 : (k : Int) < N := by omega
      have i2 : (k : Int) < 10 := by omega
      obtain ⟨x5, hx6⟩ : ∃ x, l[k]? = some x := ⟨_, List.getElem?_eq_getElem (by rw [HN.out]; omega)⟩
      have Hhx6 := Lib.hid hx6
      have Zhx6 := Lib.hid (HS.out _ (List.mem_of_getElem? hx6))
      clear hx6
      have HT : Hid ((l.take (k + 1)).map ptOf = (l.take k).map ptOf ++ [ptOf x5]) := Lib.hid (ptsTake_snoc Hhx6.out)
      obtain ⟨g8, o9, ha10, -⟩ := (HX.out).up kpT hB2 _ _ Hhx6.out
      subst ha10
      have ce7 := LX.at_ ((HX.out).up kpT hB2) Hhx6.out
      have ce7_ : g8 < wr3.heap.size := World.block_lt_of_cell? _ _ ce7.1
      have uce7 := ce7
      simp only [CT, Nat.reduceMul] at uce7
      have K11 := Lib.hid (fun W => point_any x5 W Zhx6.out)
      go_wp2_with (fail)
      refine calls_named ?_
      intro W1 hW1
      have hL1 : Below wr3.heap.size wr3 W1 := by
        rw [hW1]
        repeat (first | with_reducible exact Below.refl _ _ | with_reducible refine bel_alloc ?_ _ | refine Below.setCell ?_ (by first | (simp; done) | (simp; omega) | omega) _)
      have O12 := Lib.hid (owns_up O4.out hL1)
      have hB13 : Below w.heap.size w W1 := by
        rw [hW1]
        repeat (first | with_reducible exact hB2 | with_reducible refine bel_alloc ?_ _ | refine Below.setCell ?_ (by first | (simp; done) | (simp; omega) | omega) _)
      clear hW1 hL1 uce7
      with_reducible refine (K11.out _).mono ?_
      rintro e w1 ⟨rfl, hb1⟩
      have O14 := Lib.hid (owns_up O12.out hb1)
      have hB15 : Below w.heap.size w w1 := bel_up hB13 hb1
      clear O12
      go_wp2_with (at_builtin; refine wpList_appF rfl _ _ _ rfl ti_pt O14.out (hB15).size rfl rfl rfl rfl (pcells_one (ptOf x5)) (by omega) (by decide) ?_)
      intro v16 w_v16 hown_v16 hst_v16
      have O18 : Hid (w_v16.ownsRow w.heap.size 35 8 v16 ((k + 1)) (pts (L ++ [(ptOf x5)]))) := Lib.hid (by rw [pts_snoc]; exact hown_v16)
      have hB19 : Below w.heap.size w w_v16 := hst_v16.below hB15 (hB15).size (fun r hr => (O14.out.lt r hr).1)
      clear hown_v16
      go_wp2
      go_roundw
      case rel => exact ⟨(k + 1), (L ++ [(ptOf x5)]), (by first | rfl | exact congrArg (Value.int .i64) (by omega) | simp [*]), (by repeat (first | with_reducible exact O18.out | refine owns_far ?_ _ (by omega) _ | with_reducible refine World.ownsRow.alloc ?_ _)), (by repeat (first | with_reducible exact hB19 | with_reducible refine bel_alloc ?_ _ | refine Below.setCell ?_ (by first | (simp; done) | (simp; omega) | omega) _)), (by omega), (by omega), Lib.hid (by rw [HT.out, HE.out])⟩
      case measure => simp [intOf] <;> omega
    · skip
      have i1 : (k : Int) < N := by omega
      have i2 : ¬ (k : Int) < 10 := by omega
      have HZ : Hid ((l.take k).map ptOf = ptsOf l) := Lib.hid (by rw [hl10]; rfl)
      go_wp2
      go_ret
      first
      | exact ⟨_, _, rfl, (by rw [← HZ.out, ← HE.out]; exact O4.out), (by repeat (first | with_reducible exact hB2 | with_reducible refine bel_alloc ?_ _ | refine Below.setCell ?_ (by first | (simp; done) | (simp; omega) | omega) _))⟩
      | exact ⟨_, rfl, ⟨_, (by rw [← HZ.out, ← HE.out]; exact O4.out)⟩, (by repeat (first | with_reducible exact hB2 | with_reducible refine bel_alloc ?_ _ | refine Below.setCell ?_ (by first | (simp; done) | (simp; omega) | omega) _))⟩
    · skip
      have i1 : ¬ (k : Int) < N := by omega
      have HZ : Hid ((l.take k).map ptOf = ptsOf l) := Lib.hid (by unfold ptsOf; rw [List.take_of_length_le (by rw [HN.out]; omega), List.take_of_length_le (by rw [HN.out]; omega)])
      go_wp2
      go_ret
      first
      | exact ⟨_, _, rfl, (by rw [← HZ.out, ← HE.out]; exact O4.out), (by repeat (first | with_reducible exact hB2 | with_reducible refine bel_alloc ?_ _ | refine Below.setCell ?_ (by first | (simp; done) | (simp; omega) | omega) _))⟩
      | exact ⟨_, rfl, ⟨_, (by rw [← HZ.out, ← HE.out]; exact O4.out)⟩, (by repeat (first | with_reducible exact hB2 | with_reducible refine bel_alloc ?_ _ | refine Below.setCell ?_ (by first | (simp; done) | (simp; omega) | omega) _))⟩
theorem rem_u8 (z N : Nat) (hz : z ≤ 255) (hN : 0 < N) (hN2 : N ≤ 100) : ∃ k : Nat, k < N ∧ ((z : Int)).tmod N = k ∧ (z : Int) % N = k ∧ IntKind.i64.wrap (z : Int) = z ∧ wrap64 (z : Int) = z ∧ IntKind.i64.wrap (k : Int) = k ∧ wrap64 (k : Int) = k := by
  have hm : z % N < N := Nat.mod_lt _ hN
  refine ⟨z % N, hm, rfl, rfl, ?_, ?_, ?_, ?_⟩
  · simp [IntKind.wrap, IntKind.bits, IntKind.signed]; omega
  · unfold wrap64; omega
  · simp [IntKind.wrap, IntKind.bits, IntKind.signed]; omega
  · unfold wrap64; omega
/-- A row, one cell of which was written. -/
theorem row_bad {W : World} {base n g cap k : Nat} {G : List (Rat × Rat)} {x : Rat × Rat} (hO : W.ownsRow base 35 8 (.slice (some ⟨g, 0, none⟩) n cap) n (pts G)) (hx : G[k]? = some x) (m : ByteArray) :
    LX CE 8 (W.setCell ⟨g, k * 8 + 1, none⟩ (.string m)) (some ⟨g, 0, none⟩) (G.take k) ∧ CB (W.setCell ⟨g, k * 8 + 1, none⟩ (.string m)) g (k * 8) (ng x.1.num) m (mg (dn x.1)) x.2 := by
  have hv := owns_viewP hO
  have keep : ∀ j u, j ≠ k * 8 + 1 → W.cell? ⟨g, j, none⟩ = some u → (W.setCell ⟨g, k * 8 + 1, none⟩ (.string m)).cell? ⟨g, j, none⟩ = some u := fun j u hj h =>
    (World.cell?_setCell_other W _ _ _ (fun e => hj (by injection e with _ e2 _; first | exact e2 | exact e2.symm))).trans h
  have hk := LX.at_ hv hx
  rw [Nat.zero_add] at hk
  obtain ⟨c0, c1, c2, c3, c4, c5, c6, c7⟩ := hk
  refine ⟨fun i y hy => ⟨g, 0, rfl, ?_⟩, ?_⟩
  · rw [List.getElem?_take] at hy
    split at hy
    · rename_i hik
      obtain ⟨d0, d1, d2, d3, d4, d5, d6, d7⟩ := LX.at_ hv hy
      exact ⟨keep _ _ (by omega) d0, keep _ _ (by omega) d1, keep _ _ (by omega) d2, keep _ _ (by omega) d3, keep _ _ (by omega) d4, keep _ _ (by omega) d5, keep _ _ (by omega) d6, keep _ _ (by omega) d7⟩
    · cases hy
  · refine ⟨keep _ _ (by omega) c0, ?_, keep _ _ (by omega) c2, keep _ _ (by omega) c3, keep _ _ (by omega) c4, keep _ _ (by omega) c5, keep _ _ (by omega) c6, keep _ _ (by omega) c7⟩
    simp [go_sem, c1]

set_option maxRecDepth 100000 in
set_option maxHeartbeats 2000000 in
theorem checks_any (v : Value) (l : List (Int × Int × Bool)) (z : Nat) (w : World) (h : TV w v l) (hs : ∀ s ∈ l, In8 s) (hn : l.length ≤ 9223372036854775807) (hz : z ≤ 255) :
    Calls Tryz.prog 9 #[v, .int .u8 z] w fun e w' => e = .returned (.bool true) ∧ Below w.heap.size w w' := by
  have hpl := ptsOf_len l
  obtain ⟨G, hG⟩ : ∃ G, ptsOf l = G := ⟨_, rfl⟩
  have HG := Lib.hid hG
  have HSG : Hid (∀ q ∈ G, Pl.SzP 1 q) := Lib.hid (hG ▸ ptsOf_sz hs)
  have HNG : Hid (G.length ≤ 100) := Lib.hid (by rw [← hG]; omega)
  have HN10 : Hid (G.length ≤ 10) := Lib.hid (by rw [← hG]; omega)
  clear hG hpl
  go_enter Tryz.func9, Tryz.ntmps9
  have K1 := Lib.hid (fun W hb => HG.out ▸ points_own v l W (h.up hb) hs hn)
  go_wp2_with (fail)
  refine calls_named ?_
  intro W1 hW1
  have hL1 : Below w.heap.size w W1 := by
    rw [hW1]
    repeat (first | with_reducible exact Below.refl _ _ | with_reducible refine bel_alloc ?_ _ | refine Below.setCell ?_ (by first | (simp; done) | (simp; omega) | omega) _)
  have hB2 : Below w.heap.size w W1 := by
    rw [hW1]
    repeat (first | with_reducible exact Below.refl _ _ | with_reducible refine bel_alloc ?_ _ | refine Below.setCell ?_ (by first | (simp; done) | (simp; omega) | omega) _)
  clear hW1 hL1
  with_reducible refine (K1.out _ hB2).mono ?_
  rintro e w1 ⟨v1, n1, rfl, ho1, hb1⟩
  have OC1 := Lib.hid (ho1.mono (hB2).size)
  clear ho1
  have hB3 : Below w.heap.size w w1 := bel_up hB2 hb1
  by_cases hv0 : Pl.wrap G = G
  · skip
    have HVL : Hid (Pl.sameB (Pl.wrap G) G = true) := Lib.hid (by rw [Pl.sameB_iff]; exact decide_eq_true hv0)
    have HCK : Hid (ckR (Pl.sameB (Pl.wrap G) G) = 0) := Lib.hid (by rw [HVL.out]; rfl)
    clear hv0
    have K4 := Lib.hid (fun W va (ha : PV W va G) => HVL.out ▸ hvalid_any va G W ha HSG.out (Nat.le_trans HNG.out (by decide)) (by decide : 1 ≤ 100000))
    go_wp2_with (fail)
    refine calls_named ?_
    intro W2 hW2
    have hL2 : Below w1.heap.size w1 W2 := by
      rw [hW2]
      repeat (first | with_reducible exact Below.refl _ _ | with_reducible refine bel_alloc ?_ _ | refine Below.setCell ?_ (by first | (simp; done) | (simp; omega) | omega) _)
    have O5 := Lib.hid (owns_up OC1.out hL2)
    have hB6 : Below w.heap.size w W2 := by
      rw [hW2]
      repeat (first | with_reducible exact hB3 | with_reducible refine bel_alloc ?_ _ | refine Below.setCell ?_ (by first | (simp; done) | (simp; omega) | omega) _)
    clear hW2 hL2
    with_reducible refine (K4.out _ _ (pv_own O5.out)).mono ?_
    rintro e w2 ⟨rfl, hb2⟩
    have O7 := Lib.hid (owns_up O5.out hb2)
    have hB8 : Below w.heap.size w w2 := bel_up hB6 hb2
    clear O5
    have K9 := Lib.hid (fun W => known_any W)
    go_wp2_with (fail)
    refine calls_named ?_
    intro W3 hW3
    have hL3 : Below w2.heap.size w2 W3 := by
      rw [hW3]
      repeat (first | with_reducible exact Below.refl _ _ | with_reducible refine bel_alloc ?_ _ | refine Below.setCell ?_ (by first | (simp; done) | (simp; omega) | omega) _)
    have O10 := Lib.hid (owns_up O7.out hL3)
    have hB11 : Below w.heap.size w W3 := by
      rw [hW3]
      repeat (first | with_reducible exact hB8 | with_reducible refine bel_alloc ?_ _ | refine Below.setCell ?_ (by first | (simp; done) | (simp; omega) | omega) _)
    clear hW3 hL3
    with_reducible refine (K9.out _).mono ?_
    rintro e w3 ⟨rfl, hb3⟩
    have O12 := Lib.hid (owns_up O10.out hb3)
    have hB13 : Below w.heap.size w w3 := bel_up hB11 hb3
    clear O10
    have K14 := Lib.hid (fun W va (ha : PV W va G) => HCK.out ▸ ccheck_any va G W ha HSG.out (Nat.le_trans HNG.out (by decide)) (by decide : 1 ≤ 100000))
    go_wp2_with (fail)
    refine calls_named ?_
    intro W4 hW4
    have hL4 : Below w3.heap.size w3 W4 := by
      rw [hW4]
      repeat (first | with_reducible exact Below.refl _ _ | with_reducible refine bel_alloc ?_ _ | refine Below.setCell ?_ (by first | (simp; done) | (simp; omega) | omega) _)
    have O15 := Lib.hid (owns_up O12.out hL4)
    have hB16 : Below w.heap.size w W4 := by
      rw [hW4]
      repeat (first | with_reducible exact hB13 | with_reducible refine bel_alloc ?_ _ | refine Below.setCell ?_ (by first | (simp; done) | (simp; omega) | omega) _)
    clear hW4 hL4
    with_reducible refine (K14.out _ _ (pv_own O15.out)).mono ?_
    rintro e w4 ⟨rfl, hb4⟩
    have O17 := Lib.hid (owns_up O15.out hb4)
    have hB18 : Below w.heap.size w w4 := bel_up hB16 hb4
    clear O15
    obtain ⟨hnG, A1, c1, hv1, hc1, hcm1, _⟩ := owns_open O17.out
    subst hv1
    have HnG := Lib.hid hnG
    clear hnG
    rcases Nat.eq_zero_or_pos n1 with h0 | h0
    · skip
      subst h0
      go_wp2
      go_ret
      refine ⟨rfl, ?_⟩
      repeat (first | with_reducible exact hB18 | with_reducible refine bel_alloc ?_ _ | refine Below.setCell ?_ (by first | (simp; done) | (simp; omega) | omega) _)
    · skip
      have j0 : ¬ (n1 : Int) = 0 := by omega
      have j1 : ((n1 : Int) == 0) = false := by simpa using j0
      have hN10 : n1 ≤ 10 := by rw [HnG.out]; exact HN10.out
      obtain ⟨k, hkN, hrr⟩ := rem_u8 z n1 hz h0 (Nat.le_trans hN10 (by decide))
      have HRR := Lib.hid hrr
      clear hrr
      obtain ⟨g, cap, hv2, hnc, hcm, hgW, hgb⟩ := owns_form O17.out h0
      injection hv2 with e1 _ e3
      subst e1; subst e3
      obtain ⟨x, hx⟩ : ∃ x, G[k]? = some x := ⟨_, List.getElem?_eq_getElem (by rw [← HnG.out]; exact hkN)⟩
      have ce := LX.at_ (owns_viewP O17.out) hx
      have uce := ce
      simp only [CE, Nat.zero_add] at uce
      have hfz := World.ownsRow.frozenAt O17.out (k * 8 + 1)
      have i1 : (k : Int) < n1 := Int.ofNat_lt.2 hkN
      obtain ⟨hLX, hCB⟩ := row_bad O17.out hx ((⟨#[0]⟩ : ByteArray) ++ mg x.1.num.natAbs)
      have hB2 : Below w.heap.size w (w4.setCell ⟨g, k * 8 + 1, none⟩ (.string ((⟨#[0]⟩ : ByteArray) ++ mg x.1.num.natAbs))) := hB18.setCell hgb _
      have K9 := ccheck_bad g c1 k n1 (G.take k) (ng x.1.num) ((⟨#[0]⟩ : ByteArray) ++ mg x.1.num.natAbs) (mg (dn x.1)) x.2 _ (by rw [List.length_take, ← HnG.out]; exact Nat.min_eq_left (Nat.le_of_lt hkN)) hkN (Nat.le_trans hN10 (by decide)) hnc hLX hCB (fun q hq => HSG.out q (List.mem_of_mem_take hq)) (by decide : 1 ≤ 100000) (zeroB_mk _)
      have HK9 := Lib.hid K9
      have HB2 := Lib.hid hB2
      clear hLX hCB hB2 K9
      obtain ⟨r1, r2, r3, r4, r5, r6⟩ := HRR.out
      clear r4
      have HSX : Hid ((mg x.1.num.natAbs).size ≤ 1) := Lib.hid (by rw [mg_size]; exact (HSG.out x (List.mem_of_getElem? hx)).1.1)
      go_wp2_with fail
      · rename_i hq
        exact absurd hq (by have := HSX.out; omega)
      with_reducible refine HK9.out.mono ?_
      rintro e w9 ⟨rfl, hb9⟩
      go_wp2
      go_ret
      refine ⟨rfl, ?_⟩
      exact HB2.out.trans (hb9.mono HB2.out.size)
  · skip
    have HVL : Hid (Pl.sameB (Pl.wrap G) G = false) := Lib.hid (by rw [Pl.sameB_iff]; exact decide_eq_false hv0)
    have HCK : Hid (ckR (Pl.sameB (Pl.wrap G) G) = 13) := Lib.hid (by rw [HVL.out]; rfl)
    clear hv0
    have K19 := Lib.hid (fun W va (ha : PV W va G) => HVL.out ▸ hvalid_any va G W ha HSG.out (Nat.le_trans HNG.out (by decide)) (by decide : 1 ≤ 100000))
    go_wp2_with (fail)
    refine calls_named ?_
    intro W5 hW5
    have hL5 : Below w1.heap.size w1 W5 := by
      rw [hW5]
      repeat (first | with_reducible exact Below.refl _ _ | with_reducible refine bel_alloc ?_ _ | refine Below.setCell ?_ (by first | (simp; done) | (simp; omega) | omega) _)
    have O20 := Lib.hid (owns_up OC1.out hL5)
    have hB21 : Below w.heap.size w W5 := by
      rw [hW5]
      repeat (first | with_reducible exact hB3 | with_reducible refine bel_alloc ?_ _ | refine Below.setCell ?_ (by first | (simp; done) | (simp; omega) | omega) _)
    clear hW5 hL5
    with_reducible refine (K19.out _ _ (pv_own O20.out)).mono ?_
    rintro e w5 ⟨rfl, hb5⟩
    have O22 := Lib.hid (owns_up O20.out hb5)
    have hB23 : Below w.heap.size w w5 := bel_up hB21 hb5
    clear O20
    have K24 := Lib.hid (fun W => known_any W)
    go_wp2_with (fail)
    refine calls_named ?_
    intro W6 hW6
    have hL6 : Below w5.heap.size w5 W6 := by
      rw [hW6]
      repeat (first | with_reducible exact Below.refl _ _ | with_reducible refine bel_alloc ?_ _ | refine Below.setCell ?_ (by first | (simp; done) | (simp; omega) | omega) _)
    have O25 := Lib.hid (owns_up O22.out hL6)
    have hB26 : Below w.heap.size w W6 := by
      rw [hW6]
      repeat (first | with_reducible exact hB23 | with_reducible refine bel_alloc ?_ _ | refine Below.setCell ?_ (by first | (simp; done) | (simp; omega) | omega) _)
    clear hW6 hL6
    with_reducible refine (K24.out _).mono ?_
    rintro e w6 ⟨rfl, hb6⟩
    have O27 := Lib.hid (owns_up O25.out hb6)
    have hB28 : Below w.heap.size w w6 := bel_up hB26 hb6
    clear O25
    have K29 := Lib.hid (fun W va (ha : PV W va G) => HCK.out ▸ ccheck_any va G W ha HSG.out (Nat.le_trans HNG.out (by decide)) (by decide : 1 ≤ 100000))
    go_wp2_with (fail)
    refine calls_named ?_
    intro W7 hW7
    have hL7 : Below w6.heap.size w6 W7 := by
      rw [hW7]
      repeat (first | with_reducible exact Below.refl _ _ | with_reducible refine bel_alloc ?_ _ | refine Below.setCell ?_ (by first | (simp; done) | (simp; omega) | omega) _)
    have O30 := Lib.hid (owns_up O27.out hL7)
    have hB31 : Below w.heap.size w W7 := by
      rw [hW7]
      repeat (first | with_reducible exact hB28 | with_reducible refine bel_alloc ?_ _ | refine Below.setCell ?_ (by first | (simp; done) | (simp; omega) | omega) _)
    clear hW7 hL7
    with_reducible refine (K29.out _ _ (pv_own O30.out)).mono ?_
    rintro e w7 ⟨rfl, hb7⟩
    have O32 := Lib.hid (owns_up O30.out hb7)
    have hB33 : Below w.heap.size w w7 := bel_up hB31 hb7
    clear O30
    obtain ⟨hnG, A1, c1, hv1, hc1, hcm1, _⟩ := owns_open O32.out
    subst hv1
    have HnG := Lib.hid hnG
    clear hnG
    rcases Nat.eq_zero_or_pos n1 with h0 | h0
    · skip
      subst h0
      go_wp2
      go_ret
      refine ⟨rfl, ?_⟩
      repeat (first | with_reducible exact hB33 | with_reducible refine bel_alloc ?_ _ | refine Below.setCell ?_ (by first | (simp; done) | (simp; omega) | omega) _)
    · skip
      have j0 : ¬ (n1 : Int) = 0 := by omega
      have j1 : ((n1 : Int) == 0) = false := by simpa using j0
      have hN10 : n1 ≤ 10 := by rw [HnG.out]; exact HN10.out
      obtain ⟨k, hkN, hrr⟩ := rem_u8 z n1 hz h0 (Nat.le_trans hN10 (by decide))
      have HRR := Lib.hid hrr
      clear hrr
      obtain ⟨g, cap, hv2, hnc, hcm, hgW, hgb⟩ := owns_form O32.out h0
      injection hv2 with e1 _ e3
      subst e1; subst e3
      obtain ⟨x, hx⟩ : ∃ x, G[k]? = some x := ⟨_, List.getElem?_eq_getElem (by rw [← HnG.out]; exact hkN)⟩
      have ce := LX.at_ (owns_viewP O32.out) hx
      have uce := ce
      simp only [CE, Nat.zero_add] at uce
      have hfz := World.ownsRow.frozenAt O32.out (k * 8 + 1)
      have i1 : (k : Int) < n1 := Int.ofNat_lt.2 hkN
      obtain ⟨hLX, hCB⟩ := row_bad O32.out hx ((⟨#[0]⟩ : ByteArray) ++ mg x.1.num.natAbs)
      have hB2 : Below w.heap.size w (w7.setCell ⟨g, k * 8 + 1, none⟩ (.string ((⟨#[0]⟩ : ByteArray) ++ mg x.1.num.natAbs))) := hB33.setCell hgb _
      have K9 := ccheck_bad g c1 k n1 (G.take k) (ng x.1.num) ((⟨#[0]⟩ : ByteArray) ++ mg x.1.num.natAbs) (mg (dn x.1)) x.2 _ (by rw [List.length_take, ← HnG.out]; exact Nat.min_eq_left (Nat.le_of_lt hkN)) hkN (Nat.le_trans hN10 (by decide)) hnc hLX hCB (fun q hq => HSG.out q (List.mem_of_mem_take hq)) (by decide : 1 ≤ 100000) (zeroB_mk _)
      have HK9 := Lib.hid K9
      have HB2 := Lib.hid hB2
      clear hLX hCB hB2 K9
      obtain ⟨r1, r2, r3, r4, r5, r6⟩ := HRR.out
      clear r4
      have HSX : Hid ((mg x.1.num.natAbs).size ≤ 1) := Lib.hid (by rw [mg_size]; exact (HSG.out x (List.mem_of_getElem? hx)).1.1)
      go_wp2_with fail
      · rename_i hq
        exact absurd hq (by have := HSX.out; omega)
      with_reducible refine HK9.out.mono ?_
      rintro e w9 ⟨rfl, hb9⟩
      go_wp2
      go_ret
      refine ⟨rfl, ?_⟩
      exact HB2.out.trans (hb9.mono HB2.out.size)
end Go.Proofs.YtdkkjfnpinckjaaGreatDoor
