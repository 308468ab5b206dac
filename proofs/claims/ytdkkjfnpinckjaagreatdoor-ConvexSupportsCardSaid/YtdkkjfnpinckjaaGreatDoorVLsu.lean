/-
  The law ConvexSupports: the walk.
-/
import Derived.Test.YtdkkjfnpinckjaaGreatDoorVKnw
import Derived.Test.YtdkkjfnpinckjaaGreatDoorVMr
import Derived.Test.YtdkkjfnpinckjaaGreatDoorVLw1
import Derived.Test.YtdkkjfnpinckjaaGreatDoorVCsu
import Derived.Test.YtdkkjfnpinckjaaGreatDoorVDia
import Derived.Test.YtdkkjfnpinckjaaGreatDoorVReg3
set_option linter.unusedSimpArgs false
set_option linter.unusedVariables false
namespace Go.Proofs.YtdkkjfnpinckjaaGreatDoor
open Go Go.RowKit

theorem maxQ_lt {a b : Rat} {t : Int} (h : Pl.cmpQ b a = t) : Pl.maxQ a b = if 0 < t then b else a := by
  subst h
  have e : Pl.cmpQ b a = - Pl.cmpQ a b := by
    unfold Pl.cmpQ
    rw [show b - a = -(a - b) by grind]
    unfold Pl.sgn; simp
  unfold Pl.maxQ
  rw [e]
  split
  · rw [if_neg (by omega)]
  · rw [if_pos (by omega)]
theorem csupp_some {S : Nat} (v : Value) (l : List (Rat × Rat)) (d a : Rat × Rat) (w : World) (h : PV w v l) (hs : ∀ q ∈ l, Pl.SzP S q) (hn : l.length ≤ 1000000) (hS : S ≤ 100000) (hd : Pl.SzP S d) (h0 : l[0]? = some a) :
    Calls Tryz.prog 27 #[v, pv d] w fun e w' => e = .returned (.tuple #[pv (Pl.supp l d a), .int .i64 0]) ∧ Below w.heap.size w w' := by
  cases l with
  | nil => cases h0
  | cons x l => cases h0; exact csupp_any v _ d w h hs hn hS hd
theorem csupp_empty (v : Value) (d : Rat × Rat) (w : World) (h : PV w v []) (hd : Pl.SzP 1 d) :
    Calls Tryz.prog 27 #[v, pv d] w fun e w' => e = .returned (.tuple #[.agg #[.bool false, .string ⟨#[]⟩, .bool false, .string ⟨#[]⟩, .bool false, .string ⟨#[]⟩, .bool false, .string ⟨#[]⟩], .int .i64 10]) ∧ Below w.heap.size w w' :=
  csupp_any (S := 1) v [] d w h (fun _ h => by cases h) (by decide) (by decide) hd
theorem eqP_zz (w : World) : (Op.equalIn 10000 35 (.agg #[.bool false, .string ⟨#[]⟩, .bool false, .string ⟨#[]⟩, .bool false, .string ⟨#[]⟩, .bool false, .string ⟨#[]⟩]) (.agg #[.bool false, .string ⟨#[]⟩, .bool false, .string ⟨#[]⟩, .bool false, .string ⟨#[]⟩, .bool false, .string ⟨#[]⟩])).run Tryz.prog w = .ok true w := (eqP_in (0, 0) (0, 0) w).trans (by rw [decide_eq_true rfl])

set_option maxRecDepth 100000 in
set_option maxHeartbeats 4000000 in
theorem supports_some (v : Value) (l : List (Int × Int × Bool)) (s : Int × Int × Bool) (a : Rat × Rat) (w : World) (h : TV w v l) (hs : ∀ s ∈ l, In8 s) (hn : l.length ≤ 9223372036854775807) (hsp : In8 s) (h0 : (Pl.wrap (ptsOf l))[0]? = some a) :
    Calls Tryz.prog 6 #[v, .agg #[.int .i8 s.1, .int .i8 s.2.1, .bool s.2.2]] w fun e w' => e = .returned (.bool true) ∧ Below w.heap.size w w' := by
  obtain ⟨H, hS⟩ : ∃ S, Pl.wrap (ptsOf l) = S := ⟨_, rfl⟩
  have hpl := ptsOf_len l
  have HSW := Lib.hid hS
  have HSS : Hid (∀ q ∈ H, Pl.SzP 1 q) := Lib.hid (hS ▸ wrap_sz (ptsOf_sz hs))
  have hH11 : H.length ≤ 11 := by have := wrap_len (ptsOf l); rw [hS] at this; omega
  have HNH : Hid (H.length ≤ 1000000) := Lib.hid (by omega)
  have HN12 : Hid (H.length ≤ 12) := Lib.hid (by omega)
  rw [hS] at h0
  have H0 := Lib.hid h0
  have hsu : True := trivial
  have HP0 : Hid (0 < H.length) := Lib.hid (List.getElem?_eq_some_iff.1 h0).1
  clear h0 hS
  go_enter Tryz.func6, Tryz.ntmps6
  have K1 := Lib.hid (fun W hb => HSW.out ▸ set_any v l W (h.up hb) hs hn)
  go_wp2_with (fail)
  refine calls_named ?_
  intro W1 hW1
  have hL1 : Below w.heap.size w W1 := by
    rw [hW1]
    repeat (first | with_reducible exact Below.refl _ _ | with_reducible refine bel_alloc ?_ _ | refine Below.setCell ?_ (by first | (simp; done) | (simp; omega) | omega) _)
  have c2 : Own W1 (w.heap.size) 0 [.int .i8 s.1, .int .i8 s.2.1, .bool s.2.2] := by
    rw [hW1]
    first
    | (repeat (first | (with_reducible refine own_new (l := [.int .i8 s.1, .int .i8 s.2.1, .bool s.2.2]) ?_; (simp; done)) | with_reducible refine Own.alloc ?_ _ | refine Own.far _ _ (by first | (simp; done) | (simp [*]; done) | (simp; omega)) ?_)); done
    | simp [Own, go_sem]
  have hB3 : Below w.heap.size w W1 := by
    rw [hW1]
    repeat (first | with_reducible exact Below.refl _ _ | with_reducible refine bel_alloc ?_ _ | refine Below.setCell ?_ (by first | (simp; done) | (simp; omega) | omega) _)
  clear hW1 hL1
  with_reducible refine (K1.out _ hB3).mono ?_
  rintro e w1 ⟨v1, rfl, hv1, hb1⟩
  have c4 := c2.up hb1
  have hB5 : Below w.heap.size w w1 := bel_up hB3 hb1
  clear c2
  obtain ⟨l1, hl1⟩ : ∃ y_, y_ = H := ⟨_, rfl⟩
  rw [← hl1] at hv1
  obtain ⟨A1, c1, rfl, hcc1, hmm1, hx1⟩ := hv1.open_
  have XX1 := Lib.hid hx1
  have HL1 := Lib.hid hl1
  have PL1 := Lib.hid hv1
  clear hx1 hv1
  have hlen1 : l1.length = H.length := by rw [HL1.out]; done
  have hle1 : l1.length ≤ 1000000 := by rw [hlen1]; omega
  have HLEN1 := Lib.hid hlen1
  clear hl1 hlen1
  generalize hn1 : l1.length = N1 at *
  have HN1 := Lib.hid hn1
  clear hn1
  have HZ := Lib.hid (fun q hq => HSS.out q (by rw [← HL1.out]; exact hq) : ∀ q ∈ l1, Pl.SzP 1 q)
  have hN12 : N1 ≤ 12 := by have := HLEN1.out; have := HN1.out; omega
  have hcc : (N1 : Int) ≤ c1 := by omega
  have uc4 := c4
  simp only [At, Own, Nat.reduceAdd, and_true] at uc4
  have K6 := Lib.hid (fun W => point_any s W hsp)
  go_wp2_with (fail)
  refine calls_named ?_
  intro W2 hW2
  have hL2 : Below w1.heap.size w1 W2 := by
    rw [hW2]
    repeat (first | with_reducible exact Below.refl _ _ | with_reducible refine bel_alloc ?_ _ | refine Below.setCell ?_ (by first | (simp; done) | (simp; omega) | omega) _)
  have c7 := c4.up hL2
  have hA8 := hL2
  have hB9 : Below w.heap.size w W2 := by
    rw [hW2]
    repeat (first | with_reducible exact hB5 | with_reducible refine bel_alloc ?_ _ | refine Below.setCell ?_ (by first | (simp; done) | (simp; omega) | omega) _)
  clear hW2 hL2 uc4 c4
  with_reducible refine (K6.out _).mono ?_
  rintro e w2 ⟨rfl, hb2⟩
  have c10 := c7.up hb2
  have hA11 := bel_up hA8 hb2
  have hB12 : Below w.heap.size w w2 := bel_up hB9 hb2
  clear c7 hA8
  have K13 := Lib.hid (fun va W (ha : PV W va H) => csupp_some va H (ptOf s) a W ha HSS.out HNH.out (by decide : 1 ≤ 100000) (ptOf_sz hsp) H0.out)
  have uc10 := c10
  simp only [At, Own, Nat.reduceAdd, and_true] at uc10
  go_wp2_with (fail)
  refine calls_named ?_
  intro W3 hW3
  have hL3 : Below w2.heap.size w2 W3 := by
    rw [hW3]
    repeat (first | with_reducible exact Below.refl _ _ | with_reducible refine bel_alloc ?_ _ | refine Below.setCell ?_ (by first | (simp; done) | (simp; omega) | omega) _)
  have c14 := c10.up hL3
  have hA15 := bel_up hA11 hL3
  have hB16 : Below w.heap.size w W3 := by
    rw [hW3]
    repeat (first | with_reducible exact hB12 | with_reducible refine bel_alloc ?_ _ | refine Below.setCell ?_ (by first | (simp; done) | (simp; omega) | omega) _)
  clear hW3 hL3 uc10 c10 hA11
  with_reducible refine (K13.out _ _ (HL1.out ▸ (PL1.out.up hA15))).mono ?_
  rintro e w3 ⟨rfl, hb3⟩
  have c17 := c14.up hb3
  have hA18 := bel_up hA15 hb3
  have hB19 : Below w.heap.size w w3 := bel_up hB16 hb3
  clear c14 hA15
  have an20 : w1.heap.size ≤ w3.heap.size := by have := hA18.size; omega
  have ne21_ : w.heap.size < w3.heap.size := by have := c17.lt; omega
  have ne21 := Nat.ne_of_lt ne21_
  have ne21' := ne21.symm
  have uc17 := c17
  simp only [At, Own, Nat.reduceAdd, and_true] at uc17
  have an22 : w1.heap.size ≤ w3.heap.size + 1 := by have := hA18.size; omega
  have ne23_ : w.heap.size < w3.heap.size + 1 := by have := c17.lt; omega
  have ne23 := Nat.ne_of_lt ne23_
  have ne23' := ne23.symm
  go_wp2_with fail
  refine wp_named ?_
  intro W4 hW4
  have hL4 : Below w3.heap.size w3 W4 := by
    rw [hW4]
    repeat (first | with_reducible exact Below.refl _ _ | with_reducible refine bel_alloc ?_ _ | refine Below.setCell ?_ (by first | (simp; done) | (simp; omega) | omega) _)
  have c24 := c17.up hL4
  have c25 : Own W4 (w3.heap.size) 0 [.bool (ng (((Pl.supp H (ptOf s) a).1).num)), .string (mg (((Pl.supp H (ptOf s) a).1).num).natAbs), .bool false, .string (mg (dn ((Pl.supp H (ptOf s) a).1))), .bool (ng (((Pl.supp H (ptOf s) a).2).num)), .string (mg (((Pl.supp H (ptOf s) a).2).num).natAbs), .bool false, .string (mg (dn ((Pl.supp H (ptOf s) a).2)))] := by
    rw [hW4]
    first
    | (repeat (first | (with_reducible refine own_new (l := [.bool (ng (((Pl.supp H (ptOf s) a).1).num)), .string (mg (((Pl.supp H (ptOf s) a).1).num).natAbs), .bool false, .string (mg (dn ((Pl.supp H (ptOf s) a).1))), .bool (ng (((Pl.supp H (ptOf s) a).2).num)), .string (mg (((Pl.supp H (ptOf s) a).2).num).natAbs), .bool false, .string (mg (dn ((Pl.supp H (ptOf s) a).2)))]) ?_; (simp; done)) | with_reducible refine Own.alloc ?_ _ | refine Own.far _ _ (by first | (simp; done) | (simp [*]; done) | (simp; omega)) ?_)); done
    | simp [Own, go_sem, uc17, ne21, ne21', ne21_, ne23, ne23', ne23_]
  have c26 : Own W4 (w3.heap.size + 1) 0 [.bool false, .string ⟨#[]⟩, .bool false, .string ⟨#[]⟩] := by
    rw [hW4]
    first
    | (repeat (first | (with_reducible refine own_new (l := [.bool false, .string ⟨#[]⟩, .bool false, .string ⟨#[]⟩]) ?_; (simp; done)) | with_reducible refine Own.alloc ?_ _ | refine Own.far _ _ (by first | (simp; done) | (simp [*]; done) | (simp; omega)) ?_)); done
    | simp [Own, go_sem, uc17, ne21, ne21', ne21_, ne23, ne23', ne23_]
  have hA27 := bel_up hA18 hL4
  have hB28 : Below w.heap.size w W4 := by
    rw [hW4]
    repeat (first | with_reducible exact hB19 | with_reducible refine bel_alloc ?_ _ | refine Below.setCell ?_ (by first | (simp; done) | (simp; omega) | omega) _)
  clear hW4 hL4 uc17 c17 hA18
  go_loopw [9] (fun s9 wr => ∃ (k : Nat) (D2 : Rat), s9 = .int .i64 k ∧ Own wr (w.heap.size) 0 [.int .i8 s.1, .int .i8 s.2.1, .bool s.2.2] ∧ Own wr (w3.heap.size) 0 [.bool (ng (((Pl.supp H (ptOf s) a).1).num)), .string (mg (((Pl.supp H (ptOf s) a).1).num).natAbs), .bool false, .string (mg (dn ((Pl.supp H (ptOf s) a).1))), .bool (ng (((Pl.supp H (ptOf s) a).2).num)), .string (mg (((Pl.supp H (ptOf s) a).2).num).natAbs), .bool false, .string (mg (dn ((Pl.supp H (ptOf s) a).2)))] ∧ Own wr (w3.heap.size + 1) 0 [.bool (ng D2.num), .string (mg D2.num.natAbs), .bool false, .string (mg (dn D2))] ∧ Below w1.heap.size w1 wr ∧ Below w.heap.size w wr ∧ k ≤ N1 ∧ Pl.Sz 4020 D2 ∧ Hid (D2 = diamF l1 k)) (fun s9 _ => N1 - (intOf s9).toNat)
  case atStart => exact ⟨0, 0, rfl, c24, c25, c26, hA27, hB28, (by omega), (Pl.sz_zero.mono (by omega)), Lib.hid rfl⟩
  case round =>
    clear c24 c25 c26 hB28 hA27
    obtain ⟨k, D2, rfl, b29, b30, b31, hA32, hB33, hk, hD, HE⟩ := hrel
    obtain ⟨wr34, hwr34⟩ : ∃ W_, W_ = wr := ⟨_, rfl⟩
    subst hwr34
    by_cases hltk : k < N1
    · skip
      have i1k : (k : Int) < N1 := by omega
      obtain ⟨x35, hx36⟩ : ∃ x, l1[k]? = some x := ⟨_, List.getElem?_eq_getElem (by rw [HN1.out]; omega)⟩
      have Hhx36 := Lib.hid hx36
      have Zhx36 := Lib.hid (HZ.out _ (List.mem_of_getElem? hx36))
      clear hx36
      have HT : Hid (diamF l1 (k + 1) = diamI x35 (l1.take k) (diamF l1 k)) := Lib.hid (by rw [diamF, Pl.getD_of Hhx36.out])
      go_wp2_with fail
      go_loopw [10] (fun s10 wr => ∃ (j : Nat) (out : Rat), s10 = .int .i64 j ∧ Own wr (w.heap.size) 0 [.int .i8 s.1, .int .i8 s.2.1, .bool s.2.2] ∧ Own wr (w3.heap.size) 0 [.bool (ng (((Pl.supp H (ptOf s) a).1).num)), .string (mg (((Pl.supp H (ptOf s) a).1).num).natAbs), .bool false, .string (mg (dn ((Pl.supp H (ptOf s) a).1))), .bool (ng (((Pl.supp H (ptOf s) a).2).num)), .string (mg (((Pl.supp H (ptOf s) a).2).num).natAbs), .bool false, .string (mg (dn ((Pl.supp H (ptOf s) a).2)))] ∧ Own wr (w3.heap.size + 1) 0 [.bool (ng out.num), .string (mg out.num.natAbs), .bool false, .string (mg (dn out))] ∧ Below w1.heap.size w1 wr ∧ Below w.heap.size w wr ∧ j ≤ k ∧ Pl.Sz 4020 out ∧ Hid (out = diamI x35 (l1.take j) D2)) (fun s10 _ => k - (intOf s10).toNat)
      case atStart => exact ⟨0, D2, rfl, b29, b30, b31, hA32, hB33, (by omega), hD, Lib.hid rfl⟩
      case round =>
        clear b29 b30 b31 hB33 hA32
        obtain ⟨j, out, rfl, b37, b38, b39, hA40, hB41, hj, hout, HO⟩ := hrel
        obtain ⟨wr42, hwr42⟩ : ∃ W_, W_ = wr := ⟨_, rfl⟩
        subst hwr42
        by_cases hltj : j < k
        · skip
          have i1j : (j : Int) < k := by omega
          obtain ⟨x43, hx44⟩ : ∃ x, l1[j]? = some x := ⟨_, List.getElem?_eq_getElem (by rw [HN1.out]; omega)⟩
          have Hhx44 := Lib.hid hx44
          have Zhx44 := Lib.hid (HZ.out _ (List.mem_of_getElem? hx44))
          clear hx44
          have HTI : Hid (diamI x35 (l1.take (j + 1)) D2 = Pl.maxQ (diamI x35 (l1.take j) D2) (Pl.dist2 x35 x43)) := Lib.hid (diamI_snoc Hhx44.out)
          go_upto_region 10 with fail
          refine wp_named ?_
          intro W5 hW5
          have hL5 : Below wr42.heap.size wr42 W5 := by
            rw [hW5]
            repeat (first | with_reducible exact Below.refl _ _ | with_reducible refine bel_alloc ?_ _ | refine Below.setCell ?_ (by first | (simp; done) | (simp; omega) | omega) _)
          have c45 := b37.up hL5
          have c46 := b38.up hL5
          have c47 := b39.up hL5
          have hA48 := bel_up hA40 hL5
          have hB49 : Below w.heap.size w W5 := by
            rw [hW5]
            repeat (first | with_reducible exact hB41 | with_reducible refine bel_alloc ?_ _ | refine Below.setCell ?_ (by first | (simp; done) | (simp; omega) | omega) _)
          clear hW5 hL5 b37 b38 b39 hA40
          have K51 := Lib.hid (fun W => hsub_any x35 x43 W Zhx36.out Zhx44.out (by omega) (by omega))
          have K52 := Lib.hid (fun W => hdot_any (Pl.subP x35 x43) (Pl.subP x35 x43) W (Zhx36.out.sub Zhx44.out) (Zhx36.out.sub Zhx44.out) (by omega) (by omega))
          obtain ⟨g55, o56, ha57, -⟩ := (LX.up XX1.out kpP hA48) _ _ Hhx36.out
          subst ha57
          have ce54 := LX.at_ ((LX.up XX1.out kpP hA48)) Hhx36.out
          have ce54_ : g55 < W5.heap.size := World.block_lt_of_cell? _ _ ce54.1
          have ce58 := LX.at_ ((LX.up XX1.out kpP hA48)) Hhx44.out
          have ce58_ : g55 < W5.heap.size := World.block_lt_of_cell? _ _ ce58.1
          refine wp_region_new1 20 19 11 [.bool false, .string ⟨#[]⟩, .bool false, .string ⟨#[]⟩] 33 (by kernel_rfl) (by kernel_rfl) rfl rfl rfl rfl (by intro h_; cases h_) (by simp) (run_alloc_zero Tryz.zeroValue33 rfl) (by kernel_rfl) ?_
          intro V_50 hV_50
          have vc45 := c45.up hV_50; have dc45 := fun p : Bel V_50 => vc45.bel p
          have vc46 := c46.up hV_50; have dc46 := fun p : Bel V_50 => vc46.bel p
          have vc47 := c47.up hV_50; have dc47 := fun p : Bel V_50 => vc47.bel p
          simp only [At, Own, Nat.reduceAdd, and_true] at dc45 dc46 dc47
          have vce54 := ce54.up hV_50; have dce54 := fun b : Bel V_50 => vce54.bel b
          simp only [CE, Nat.reduceMul] at dce54
          have vce58 := ce58.up hV_50; have dce58 := fun b : Bel V_50 => vce58.bel b
          simp only [CE, Nat.reduceMul] at dce58
          have hBV_50 := bel_up hB49 hV_50
          have hA59 := bel_up hA48 hV_50
          simp only [List.map_cons, List.map_nil, maskOp, List.take_succ_cons, List.take_zero]
          repeat (go_big_quiet_step (first | (go_at_call 30; with_reducible exact Calls.bel (K51.out _)) | (go_at_call 28; with_reducible exact Calls.bel (K52.out _))))
          refine wpQuiet_nil ?_
          refine ⟨[.bool (ng ((Pl.dotP (Pl.subP x35 x43) (Pl.subP x35 x43)).num)), .string (mg ((Pl.dotP (Pl.subP x35 x43) (Pl.subP x35 x43)).num).natAbs), .bool false, .string (mg (dn (Pl.dotP (Pl.subP x35 x43) (Pl.subP x35 x43))))], rfl, rfl, by simp [Value.oneCell'], ?_⟩
          intro bq53 wn_50 hbn_50 lbq53 mbq53 c60
          simp only [Act.put, List.setIfInBounds_toArray, List.set_cons_zero, List.set_cons_succ]
          have ne61 : w.heap.size ≠ bq53 := by have := c45.lt; omega
          have ne61' := ne61.symm
          have ne62 : w3.heap.size ≠ bq53 := by have := c46.lt; omega
          have ne62' := ne62.symm
          have ne63 : w3.heap.size + 1 ≠ bq53 := by have := c47.lt; omega
          have ne63' := ne63.symm
          have ne64 : g55 ≠ bq53 := by omega
          have ne64' := ne64.symm
          have wbq53 := Nat.le_trans hB49.size lbq53
          have an65 : w1.heap.size ≤ bq53 := Nat.le_trans hA48.size lbq53
          clear hA59 hBV_50 dce58 vce58 dce54 vce54 dc47 vc47 dc46 vc46 dc45 vc45 hV_50 V_50
          have c66 := c45.up hbn_50
          have c67 := c46.up hbn_50
          have c68 := c47.up hbn_50
          have hA69 := bel_up hA48 hbn_50
          have hB70 : Below w.heap.size w wn_50 := bel_up hB49 hbn_50
          clear c45 c46 c47 hA48
          have uc66 := c66; have uc67 := c67; have uc68 := c68; have uc60 := c60
          simp only [At, Own, Nat.reduceAdd, and_true] at uc66 uc67 uc68 uc60
          have kK71 := fun W => rcompare_any (Pl.dotP (Pl.subP x35 x43) (Pl.subP x35 x43)) out W (((Zhx36.out.sub Zhx44.out).dot (Zhx36.out.sub Zhx44.out)).mono (by omega)) (hout.mono (by omega))
          generalize hT73 : Pl.cmpQ (Pl.dotP (Pl.subP x35 x43) (Pl.subP x35 x43)) out = t72 at kK71
          have K71 := Lib.hid kK71
          clear kK71
          have T74 := Lib.hid (sgnQ hT73)
          have HhT73 := Lib.hid hT73
          clear hT73
          go_wp2_with (fail)
          refine calls_named ?_
          intro W6 hW6
          have hL6 : Below wn_50.heap.size wn_50 W6 := by
            rw [hW6]
            repeat (first | with_reducible exact Below.refl _ _ | with_reducible refine bel_alloc ?_ _ | refine Below.setCell ?_ (by first | (simp; done) | (simp; omega) | omega) _)
          have c75 := c66.up hL6
          have c76 := c67.up hL6
          have c77 := c68.up hL6
          have c78 := c60.up hL6
          have hA79 := bel_up hA69 hL6
          have hB80 : Below w.heap.size w W6 := by
            rw [hW6]
            repeat (first | with_reducible exact hB70 | with_reducible refine bel_alloc ?_ _ | refine Below.setCell ?_ (by first | (simp; done) | (simp; omega) | omega) _)
          clear hW6 hL6 uc66 uc67 uc68 uc60 c66 c67 c68 c60 hA69
          with_reducible refine (K71.out _).mono ?_
          rintro e w6 ⟨rfl, hb6⟩
          have c81 := c75.up hb6
          have c82 := c76.up hb6
          have c83 := c77.up hb6
          have c84 := c78.up hb6
          have hA85 := bel_up hA79 hb6
          have hB86 : Below w.heap.size w w6 := bel_up hB80 hb6
          clear c75 c76 c77 c78 hA79
          rcases T74.out with rfl | rfl | rfl
          · skip
            have uc81 := c81; have uc82 := c82; have uc83 := c83; have uc84 := c84
            simp only [At, Own, Nat.reduceAdd, and_true] at uc81 uc82 uc83 uc84
            go_wp2
            go_roundw
            case rel => exact ⟨(j + 1), out, (by first | rfl | exact congrArg (Value.int .i64) (by omega) | simp [*]), (by repeat (first | with_reducible exact c81 | refine Own.far _ _ (by simp <;> omega) ?_ | with_reducible refine Own.alloc ?_ _)), (by repeat (first | with_reducible exact c82 | refine Own.far _ _ (by simp <;> omega) ?_ | with_reducible refine Own.alloc ?_ _)), (by repeat (first | with_reducible exact c83 | refine Own.far _ _ (by simp <;> omega) ?_ | with_reducible refine Own.alloc ?_ _)), (by repeat (first | with_reducible exact hA85 | with_reducible refine bel_alloc ?_ _ | refine Below.setCell ?_ (by first | (simp; done) | (simp; omega) | omega) _)), (by repeat (first | with_reducible exact hB86 | with_reducible refine bel_alloc ?_ _ | refine Below.setCell ?_ (by first | (simp; done) | (simp; omega) | omega) _)), (by omega), hout, Lib.hid (by rw [HTI.out, ← HO.out]; unfold Pl.dist2; rw [maxQ_lt HhT73.out]; first | rfl | simp)⟩
            case measure => simp [intOf] <;> omega
          · skip
            have uc81 := c81; have uc82 := c82; have uc83 := c83; have uc84 := c84
            simp only [At, Own, Nat.reduceAdd, and_true] at uc81 uc82 uc83 uc84
            go_wp2
            go_roundw
            case rel => exact ⟨(j + 1), out, (by first | rfl | exact congrArg (Value.int .i64) (by omega) | simp [*]), (by repeat (first | with_reducible exact c81 | refine Own.far _ _ (by simp <;> omega) ?_ | with_reducible refine Own.alloc ?_ _)), (by repeat (first | with_reducible exact c82 | refine Own.far _ _ (by simp <;> omega) ?_ | with_reducible refine Own.alloc ?_ _)), (by repeat (first | with_reducible exact c83 | refine Own.far _ _ (by simp <;> omega) ?_ | with_reducible refine Own.alloc ?_ _)), (by repeat (first | with_reducible exact hA85 | with_reducible refine bel_alloc ?_ _ | refine Below.setCell ?_ (by first | (simp; done) | (simp; omega) | omega) _)), (by repeat (first | with_reducible exact hB86 | with_reducible refine bel_alloc ?_ _ | refine Below.setCell ?_ (by first | (simp; done) | (simp; omega) | omega) _)), (by omega), hout, Lib.hid (by rw [HTI.out, ← HO.out]; unfold Pl.dist2; rw [maxQ_lt HhT73.out]; first | rfl | simp)⟩
            case measure => simp [intOf] <;> omega
          · skip
            have uc81 := c81; have uc82 := c82; have uc83 := c83; have uc84 := c84
            simp only [At, Own, Nat.reduceAdd, and_true] at uc81 uc82 uc83 uc84
            go_wp2
            go_roundw
            case rel => exact ⟨(j + 1), (Pl.dotP (Pl.subP x35 x43) (Pl.subP x35 x43)), (by first | rfl | exact congrArg (Value.int .i64) (by omega) | simp [*]), (by repeat (first | with_reducible exact c81 | refine Own.far _ _ (by simp <;> omega) ?_ | with_reducible refine Own.alloc ?_ _)), (by repeat (first | with_reducible exact c82 | refine Own.far _ _ (by simp <;> omega) ?_ | with_reducible refine Own.alloc ?_ _)), (by simp [Own, go_sem, uc81, uc82, uc83, uc84, ne61, ne61', ne62, ne62', ne63, ne63', ne64, ne64']), (by repeat (first | with_reducible exact hA85 | with_reducible refine bel_alloc ?_ _ | refine Below.setCell ?_ (by first | (simp; done) | (simp; omega) | omega) _)), (by repeat (first | with_reducible exact hB86 | with_reducible refine bel_alloc ?_ _ | refine Below.setCell ?_ (by first | (simp; done) | (simp; omega) | omega) _)), (by omega), (((Zhx36.out.sub Zhx44.out).dot (Zhx36.out.sub Zhx44.out)).mono (by omega)), Lib.hid (by rw [HTI.out, ← HO.out]; unfold Pl.dist2; rw [maxQ_lt HhT73.out]; first | rfl | simp)⟩
            case measure => simp [intOf] <;> omega
        · skip
          have hkN : k = j := by omega
          subst hkN
          have ub37 := b37; have ub38 := b38; have ub39 := b39
          simp only [At, Own, Nat.reduceAdd, and_true] at ub37 ub38 ub39
          go_wp2
          go_roundw
          case rel => exact ⟨(k + 1), out, (by first | rfl | exact congrArg (Value.int .i64) (by omega) | simp [*]), (by repeat (first | with_reducible exact b37 | refine Own.far _ _ (by simp <;> omega) ?_ | with_reducible refine Own.alloc ?_ _)), (by repeat (first | with_reducible exact b38 | refine Own.far _ _ (by simp <;> omega) ?_ | with_reducible refine Own.alloc ?_ _)), (by repeat (first | with_reducible exact b39 | refine Own.far _ _ (by simp <;> omega) ?_ | with_reducible refine Own.alloc ?_ _)), (by repeat (first | with_reducible exact hA40 | with_reducible refine bel_alloc ?_ _ | refine Below.setCell ?_ (by first | (simp; done) | (simp; omega) | omega) _)), (by repeat (first | with_reducible exact hB41 | with_reducible refine bel_alloc ?_ _ | refine Below.setCell ?_ (by first | (simp; done) | (simp; omega) | omega) _)), (by omega), hout, Lib.hid (by rw [HT.out, HO.out, HE.out])⟩
          case measure => simp [intOf] <;> omega
    · skip
      have hkN : N1 = k := by omega
      subst hkN
      have HDI : Hid (diam H = D2) := Lib.hid (by rw [HE.out, ← HL1.out]; unfold diam; rw [HN1.out])
      have EQD := fun W => eqQ_in (diam H) D2 W
      rw [decide_eq_true HDI.out] at EQD
      have K87 := Lib.hid (fun W => known_any W)
      have K88 := Lib.hid (fun va W (ha : PV W va H) => cdiam_any va H W ha HSS.out (Nat.le_trans HN12.out (by decide)) (by decide : 1 ≤ 400))
      go_wp2_with fail
      refine wp_named ?_
      intro W7 hW7
      have hL7 : Below wr34.heap.size wr34 W7 := by
        rw [hW7]
        repeat (first | with_reducible exact Below.refl _ _ | with_reducible refine bel_alloc ?_ _ | refine Below.setCell ?_ (by first | (simp; done) | (simp; omega) | omega) _)
      have c89 := b29.up hL7
      have c90 := b30.up hL7
      have c91 := b31.up hL7
      have hA92 := bel_up hA32 hL7
      have hB93 : Below w.heap.size w W7 := by
        rw [hW7]
        repeat (first | with_reducible exact hB33 | with_reducible refine bel_alloc ?_ _ | refine Below.setCell ?_ (by first | (simp; done) | (simp; omega) | omega) _)
      clear hW7 hL7 b29 b30 b31 hA32
      have dc89 := fun p : Bel W7 => c89.bel p; have dc90 := fun p : Bel W7 => c90.bel p; have dc91 := fun p : Bel W7 => c91.bel p
      simp only [At, Own, Nat.reduceAdd, and_true] at dc89 dc90 dc91
      refine wp_region_all (by kernel_rfl) (by kernel_rfl) ?_
      repeat (go_big_quiet_step (first | (go_at_call 17; with_reducible exact Calls.bel (K87.out _)) | (go_at_call 32; with_reducible exact Calls.bel (K88.out _ _ (PV.up (HL1.out ▸ (PL1.out.up hA92)) (Bel.h _))))))
      refine wpQuiet_nil ?_
      intro w7 hb7
      have c94 := c89.up hb7
      have c95 := c90.up hb7
      have c96 := c91.up hb7
      have hA97 := bel_up hA92 hb7
      have hB98 : Below w.heap.size w w7 := bel_up hB93 hb7
      clear dc89 dc90 dc91 c89 c90 c91 hA92
      have uc94 := c94; have uc95 := c95; have uc96 := c96
      simp only [At, Own, Nat.reduceAdd, and_true] at uc94 uc95 uc96
      have jN : ¬ (N1 : Int) = 0 := by have := HP0.out; have := HN1.out; have := HLEN1.out; omega
      have jN2 : ((N1 : Int) == 0) = false := by simpa using jN
      have EQS := fun W => eqP_in (Pl.supp H (ptOf s) a) (Pl.supp H (ptOf s) a) W
      rw [decide_eq_true rfl] at EQS
      have K99 := Lib.hid (fun W => point_any s W hsp)
      have K100 := Lib.hid (fun va W (ha : PV W va H) => hsupp_any va H (ptOf s) a W ha HSS.out HNH.out (by decide : 1 ≤ 100000) (ptOf_sz hsp) H0.out)
      go_wp2_with fail
      refine wp_named ?_
      intro W8 hW8
      have hL8 : Below w7.heap.size w7 W8 := by
        rw [hW8]
        repeat (first | with_reducible exact Below.refl _ _ | with_reducible refine bel_alloc ?_ _ | refine Below.setCell ?_ (by first | (simp; done) | (simp; omega) | omega) _)
      have c101 := c94.up hL8
      have c102 := c95.up hL8
      have c103 := c96.up hL8
      have hA104 := bel_up hA97 hL8
      have hB105 : Below w.heap.size w W8 := by
        rw [hW8]
        repeat (first | with_reducible exact hB98 | with_reducible refine bel_alloc ?_ _ | refine Below.setCell ?_ (by first | (simp; done) | (simp; omega) | omega) _)
      clear hW8 hL8 uc94 uc95 uc96 c94 c95 c96 hA97
      have dc101 := fun p : Bel W8 => c101.bel p; have dc102 := fun p : Bel W8 => c102.bel p; have dc103 := fun p : Bel W8 => c103.bel p
      simp only [At, Own, Nat.reduceAdd, and_true] at dc101 dc102 dc103
      refine wp_region_tail 10 (by kernel_rfl) (by kernel_rfl) ?_
      simp only [List.take_succ_cons, List.take_zero, List.drop_succ_cons, List.drop_zero]
      repeat (go_big_quiet_step (first | (go_at_call 19; with_reducible exact Calls.bel (K99.out _)) | (go_at_call 33; with_reducible exact Calls.bel (K100.out _ _ (PV.up (HL1.out ▸ (PL1.out.up hA104)) (Bel.h _))))))
      refine wpQuiet_nil ?_
      intro w8 hb8
      have c106 := c101.up hb8
      have c107 := c102.up hb8
      have c108 := c103.up hb8
      have hA109 := bel_up hA104 hb8
      have hB110 : Below w.heap.size w w8 := bel_up hB105 hb8
      clear dc101 dc102 dc103 c101 c102 c103 hA104
      have uc106 := c106; have uc107 := c107; have uc108 := c108
      simp only [At, Own, Nat.reduceAdd, and_true] at uc106 uc107 uc108
      go_wp2
      go_ret
      refine ⟨rfl, ?_⟩
      repeat (first | with_reducible exact hB110 | with_reducible refine bel_alloc ?_ _ | refine Below.setCell ?_ (by first | (simp; done) | (simp; omega) | omega) _)

set_option maxRecDepth 100000 in
set_option maxHeartbeats 4000000 in
theorem supports_none (v : Value) (l : List (Int × Int × Bool)) (s : Int × Int × Bool) (w : World) (h : TV w v l) (hs : ∀ s ∈ l, In8 s) (hn : l.length ≤ 9223372036854775807) (hsp : In8 s) (h0 : Pl.wrap (ptsOf l) = []) :
    Calls Tryz.prog 6 #[v, .agg #[.int .i8 s.1, .int .i8 s.2.1, .bool s.2.2]] w fun e w' => e = .returned (.bool true) ∧ Below w.heap.size w w' := by
  obtain ⟨H, hS⟩ : ∃ S, Pl.wrap (ptsOf l) = S := ⟨_, rfl⟩
  have hpl := ptsOf_len l
  have HSW := Lib.hid hS
  have HSS : Hid (∀ q ∈ H, Pl.SzP 1 q) := Lib.hid (hS ▸ wrap_sz (ptsOf_sz hs))
  have hH11 : H.length ≤ 11 := by have := wrap_len (ptsOf l); rw [hS] at this; omega
  have HNH : Hid (H.length ≤ 1000000) := Lib.hid (by omega)
  have HN12 : Hid (H.length ≤ 12) := Lib.hid (by omega)
  rw [hS] at h0
  have HE0 := Lib.hid h0
  clear h0 hS
  go_enter Tryz.func6, Tryz.ntmps6
  have K1 := Lib.hid (fun W hb => HSW.out ▸ set_any v l W (h.up hb) hs hn)
  go_wp2_with (fail)
  refine calls_named ?_
  intro W1 hW1
  have hL1 : Below w.heap.size w W1 := by
    rw [hW1]
    repeat (first | with_reducible exact Below.refl _ _ | with_reducible refine bel_alloc ?_ _ | refine Below.setCell ?_ (by first | (simp; done) | (simp; omega) | omega) _)
  have c2 : Own W1 (w.heap.size) 0 [.int .i8 s.1, .int .i8 s.2.1, .bool s.2.2] := by
    rw [hW1]
    first
    | (repeat (first | (with_reducible refine own_new (l := [.int .i8 s.1, .int .i8 s.2.1, .bool s.2.2]) ?_; (simp; done)) | with_reducible refine Own.alloc ?_ _ | refine Own.far _ _ (by first | (simp; done) | (simp [*]; done) | (simp; omega)) ?_)); done
    | simp [Own, go_sem]
  have hB3 : Below w.heap.size w W1 := by
    rw [hW1]
    repeat (first | with_reducible exact Below.refl _ _ | with_reducible refine bel_alloc ?_ _ | refine Below.setCell ?_ (by first | (simp; done) | (simp; omega) | omega) _)
  clear hW1 hL1
  with_reducible refine (K1.out _ hB3).mono ?_
  rintro e w1 ⟨v1, rfl, hv1, hb1⟩
  have c4 := c2.up hb1
  have hB5 : Below w.heap.size w w1 := bel_up hB3 hb1
  clear c2
  obtain ⟨l1, hl1⟩ : ∃ y_, y_ = H := ⟨_, rfl⟩
  rw [← hl1] at hv1
  obtain ⟨A1, c1, rfl, hcc1, hmm1, hx1⟩ := hv1.open_
  have XX1 := Lib.hid hx1
  have HL1 := Lib.hid hl1
  have PL1 := Lib.hid hv1
  clear hx1 hv1
  have hlen1 : l1.length = H.length := by rw [HL1.out]; done
  have hle1 : l1.length ≤ 1000000 := by rw [hlen1]; omega
  have HLEN1 := Lib.hid hlen1
  clear hl1 hlen1
  generalize hn1 : l1.length = N1 at *
  have HN1 := Lib.hid hn1
  clear hn1
  have HZ := Lib.hid (fun q hq => HSS.out q (by rw [← HL1.out]; exact hq) : ∀ q ∈ l1, Pl.SzP 1 q)
  have hN12 : N1 ≤ 12 := by have := HLEN1.out; have := HN1.out; omega
  have hcc : (N1 : Int) ≤ c1 := by omega
  have uc4 := c4
  simp only [At, Own, Nat.reduceAdd, and_true] at uc4
  have K6 := Lib.hid (fun W => point_any s W hsp)
  go_wp2_with (fail)
  refine calls_named ?_
  intro W2 hW2
  have hL2 : Below w1.heap.size w1 W2 := by
    rw [hW2]
    repeat (first | with_reducible exact Below.refl _ _ | with_reducible refine bel_alloc ?_ _ | refine Below.setCell ?_ (by first | (simp; done) | (simp; omega) | omega) _)
  have c7 := c4.up hL2
  have hA8 := hL2
  have hB9 : Below w.heap.size w W2 := by
    rw [hW2]
    repeat (first | with_reducible exact hB5 | with_reducible refine bel_alloc ?_ _ | refine Below.setCell ?_ (by first | (simp; done) | (simp; omega) | omega) _)
  clear hW2 hL2 uc4 c4
  with_reducible refine (K6.out _).mono ?_
  rintro e w2 ⟨rfl, hb2⟩
  have c10 := c7.up hb2
  have hA11 := bel_up hA8 hb2
  have hB12 : Below w.heap.size w w2 := bel_up hB9 hb2
  clear c7 hA8
  have K13 := Lib.hid (fun va W (ha : PV W va H) => csupp_empty va (ptOf s) W (HE0.out ▸ ha) (ptOf_sz hsp))
  have uc10 := c10
  simp only [At, Own, Nat.reduceAdd, and_true] at uc10
  go_wp2_with (fail)
  refine calls_named ?_
  intro W3 hW3
  have hL3 : Below w2.heap.size w2 W3 := by
    rw [hW3]
    repeat (first | with_reducible exact Below.refl _ _ | with_reducible refine bel_alloc ?_ _ | refine Below.setCell ?_ (by first | (simp; done) | (simp; omega) | omega) _)
  have c14 := c10.up hL3
  have hA15 := bel_up hA11 hL3
  have hB16 : Below w.heap.size w W3 := by
    rw [hW3]
    repeat (first | with_reducible exact hB12 | with_reducible refine bel_alloc ?_ _ | refine Below.setCell ?_ (by first | (simp; done) | (simp; omega) | omega) _)
  clear hW3 hL3 uc10 c10 hA11
  with_reducible refine (K13.out _ _ (HL1.out ▸ (PL1.out.up hA15))).mono ?_
  rintro e w3 ⟨rfl, hb3⟩
  have c17 := c14.up hb3
  have hA18 := bel_up hA15 hb3
  have hB19 : Below w.heap.size w w3 := bel_up hB16 hb3
  clear c14 hA15
  have an20 : w1.heap.size ≤ w3.heap.size := by have := hA18.size; omega
  have ne21_ : w.heap.size < w3.heap.size := by have := c17.lt; omega
  have ne21 := Nat.ne_of_lt ne21_
  have ne21' := ne21.symm
  have uc17 := c17
  simp only [At, Own, Nat.reduceAdd, and_true] at uc17
  have an22 : w1.heap.size ≤ w3.heap.size + 1 := by have := hA18.size; omega
  have ne23_ : w.heap.size < w3.heap.size + 1 := by have := c17.lt; omega
  have ne23 := Nat.ne_of_lt ne23_
  have ne23' := ne23.symm
  go_wp2_with fail
  refine wp_named ?_
  intro W4 hW4
  have hL4 : Below w3.heap.size w3 W4 := by
    rw [hW4]
    repeat (first | with_reducible exact Below.refl _ _ | with_reducible refine bel_alloc ?_ _ | refine Below.setCell ?_ (by first | (simp; done) | (simp; omega) | omega) _)
  have c24 := c17.up hL4
  have c25 : Own W4 (w3.heap.size) 0 [.bool false, .string ⟨#[]⟩, .bool false, .string ⟨#[]⟩, .bool false, .string ⟨#[]⟩, .bool false, .string ⟨#[]⟩] := by
    rw [hW4]
    first
    | (repeat (first | (with_reducible refine own_new (l := [.bool false, .string ⟨#[]⟩, .bool false, .string ⟨#[]⟩, .bool false, .string ⟨#[]⟩, .bool false, .string ⟨#[]⟩]) ?_; (simp; done)) | with_reducible refine Own.alloc ?_ _ | refine Own.far _ _ (by first | (simp; done) | (simp [*]; done) | (simp; omega)) ?_)); done
    | simp [Own, go_sem, uc17, ne21, ne21', ne21_, ne23, ne23', ne23_]
  have c26 : Own W4 (w3.heap.size + 1) 0 [.bool false, .string ⟨#[]⟩, .bool false, .string ⟨#[]⟩] := by
    rw [hW4]
    first
    | (repeat (first | (with_reducible refine own_new (l := [.bool false, .string ⟨#[]⟩, .bool false, .string ⟨#[]⟩]) ?_; (simp; done)) | with_reducible refine Own.alloc ?_ _ | refine Own.far _ _ (by first | (simp; done) | (simp [*]; done) | (simp; omega)) ?_)); done
    | simp [Own, go_sem, uc17, ne21, ne21', ne21_, ne23, ne23', ne23_]
  have hA27 := bel_up hA18 hL4
  have hB28 : Below w.heap.size w W4 := by
    rw [hW4]
    repeat (first | with_reducible exact hB19 | with_reducible refine bel_alloc ?_ _ | refine Below.setCell ?_ (by first | (simp; done) | (simp; omega) | omega) _)
  clear hW4 hL4 uc17 c17 hA18
  go_loopw [9] (fun s9 wr => ∃ (k : Nat) (D2 : Rat), s9 = .int .i64 k ∧ Own wr (w.heap.size) 0 [.int .i8 s.1, .int .i8 s.2.1, .bool s.2.2] ∧ Own wr (w3.heap.size) 0 [.bool false, .string ⟨#[]⟩, .bool false, .string ⟨#[]⟩, .bool false, .string ⟨#[]⟩, .bool false, .string ⟨#[]⟩] ∧ Own wr (w3.heap.size + 1) 0 [.bool (ng D2.num), .string (mg D2.num.natAbs), .bool false, .string (mg (dn D2))] ∧ Below w1.heap.size w1 wr ∧ Below w.heap.size w wr ∧ k ≤ N1 ∧ Pl.Sz 4020 D2 ∧ Hid (D2 = diamF l1 k)) (fun s9 _ => N1 - (intOf s9).toNat)
  case atStart => exact ⟨0, 0, rfl, c24, c25, c26, hA27, hB28, (by omega), (Pl.sz_zero.mono (by omega)), Lib.hid rfl⟩
  case round =>
    clear c24 c25 c26 hB28 hA27
    obtain ⟨k, D2, rfl, b29, b30, b31, hA32, hB33, hk, hD, HE⟩ := hrel
    obtain ⟨wr34, hwr34⟩ : ∃ W_, W_ = wr := ⟨_, rfl⟩
    subst hwr34
    by_cases hltk : k < N1
    · skip
      have i1k : (k : Int) < N1 := by omega
      obtain ⟨x35, hx36⟩ : ∃ x, l1[k]? = some x := ⟨_, List.getElem?_eq_getElem (by rw [HN1.out]; omega)⟩
      have Hhx36 := Lib.hid hx36
      have Zhx36 := Lib.hid (HZ.out _ (List.mem_of_getElem? hx36))
      clear hx36
      have HT : Hid (diamF l1 (k + 1) = diamI x35 (l1.take k) (diamF l1 k)) := Lib.hid (by rw [diamF, Pl.getD_of Hhx36.out])
      go_wp2_with fail
      go_loopw [10] (fun s10 wr => ∃ (j : Nat) (out : Rat), s10 = .int .i64 j ∧ Own wr (w.heap.size) 0 [.int .i8 s.1, .int .i8 s.2.1, .bool s.2.2] ∧ Own wr (w3.heap.size) 0 [.bool false, .string ⟨#[]⟩, .bool false, .string ⟨#[]⟩, .bool false, .string ⟨#[]⟩, .bool false, .string ⟨#[]⟩] ∧ Own wr (w3.heap.size + 1) 0 [.bool (ng out.num), .string (mg out.num.natAbs), .bool false, .string (mg (dn out))] ∧ Below w1.heap.size w1 wr ∧ Below w.heap.size w wr ∧ j ≤ k ∧ Pl.Sz 4020 out ∧ Hid (out = diamI x35 (l1.take j) D2)) (fun s10 _ => k - (intOf s10).toNat)
      case atStart => exact ⟨0, D2, rfl, b29, b30, b31, hA32, hB33, (by omega), hD, Lib.hid rfl⟩
      case round =>
        clear b29 b30 b31 hB33 hA32
        obtain ⟨j, out, rfl, b37, b38, b39, hA40, hB41, hj, hout, HO⟩ := hrel
        obtain ⟨wr42, hwr42⟩ : ∃ W_, W_ = wr := ⟨_, rfl⟩
        subst hwr42
        by_cases hltj : j < k
        · skip
          have i1j : (j : Int) < k := by omega
          obtain ⟨x43, hx44⟩ : ∃ x, l1[j]? = some x := ⟨_, List.getElem?_eq_getElem (by rw [HN1.out]; omega)⟩
          have Hhx44 := Lib.hid hx44
          have Zhx44 := Lib.hid (HZ.out _ (List.mem_of_getElem? hx44))
          clear hx44
          have HTI : Hid (diamI x35 (l1.take (j + 1)) D2 = Pl.maxQ (diamI x35 (l1.take j) D2) (Pl.dist2 x35 x43)) := Lib.hid (diamI_snoc Hhx44.out)
          go_upto_region 10 with fail
          refine wp_named ?_
          intro W5 hW5
          have hL5 : Below wr42.heap.size wr42 W5 := by
            rw [hW5]
            repeat (first | with_reducible exact Below.refl _ _ | with_reducible refine bel_alloc ?_ _ | refine Below.setCell ?_ (by first | (simp; done) | (simp; omega) | omega) _)
          have c45 := b37.up hL5
          have c46 := b38.up hL5
          have c47 := b39.up hL5
          have hA48 := bel_up hA40 hL5
          have hB49 : Below w.heap.size w W5 := by
            rw [hW5]
            repeat (first | with_reducible exact hB41 | with_reducible refine bel_alloc ?_ _ | refine Below.setCell ?_ (by first | (simp; done) | (simp; omega) | omega) _)
          clear hW5 hL5 b37 b38 b39 hA40
          have K51 := Lib.hid (fun W => hsub_any x35 x43 W Zhx36.out Zhx44.out (by omega) (by omega))
          have K52 := Lib.hid (fun W => hdot_any (Pl.subP x35 x43) (Pl.subP x35 x43) W (Zhx36.out.sub Zhx44.out) (Zhx36.out.sub Zhx44.out) (by omega) (by omega))
          obtain ⟨g55, o56, ha57, -⟩ := (LX.up XX1.out kpP hA48) _ _ Hhx36.out
          subst ha57
          have ce54 := LX.at_ ((LX.up XX1.out kpP hA48)) Hhx36.out
          have ce54_ : g55 < W5.heap.size := World.block_lt_of_cell? _ _ ce54.1
          have ce58 := LX.at_ ((LX.up XX1.out kpP hA48)) Hhx44.out
          have ce58_ : g55 < W5.heap.size := World.block_lt_of_cell? _ _ ce58.1
          refine wp_region_new1 20 19 11 [.bool false, .string ⟨#[]⟩, .bool false, .string ⟨#[]⟩] 33 (by kernel_rfl) (by kernel_rfl) rfl rfl rfl rfl (by intro h_; cases h_) (by simp) (run_alloc_zero Tryz.zeroValue33 rfl) (by kernel_rfl) ?_
          intro V_50 hV_50
          have vc45 := c45.up hV_50; have dc45 := fun p : Bel V_50 => vc45.bel p
          have vc46 := c46.up hV_50; have dc46 := fun p : Bel V_50 => vc46.bel p
          have vc47 := c47.up hV_50; have dc47 := fun p : Bel V_50 => vc47.bel p
          simp only [At, Own, Nat.reduceAdd, and_true] at dc45 dc46 dc47
          have vce54 := ce54.up hV_50; have dce54 := fun b : Bel V_50 => vce54.bel b
          simp only [CE, Nat.reduceMul] at dce54
          have vce58 := ce58.up hV_50; have dce58 := fun b : Bel V_50 => vce58.bel b
          simp only [CE, Nat.reduceMul] at dce58
          have hBV_50 := bel_up hB49 hV_50
          have hA59 := bel_up hA48 hV_50
          simp only [List.map_cons, List.map_nil, maskOp, List.take_succ_cons, List.take_zero]
          repeat (go_big_quiet_step (first | (go_at_call 30; with_reducible exact Calls.bel (K51.out _)) | (go_at_call 28; with_reducible exact Calls.bel (K52.out _))))
          refine wpQuiet_nil ?_
          refine ⟨[.bool (ng ((Pl.dotP (Pl.subP x35 x43) (Pl.subP x35 x43)).num)), .string (mg ((Pl.dotP (Pl.subP x35 x43) (Pl.subP x35 x43)).num).natAbs), .bool false, .string (mg (dn (Pl.dotP (Pl.subP x35 x43) (Pl.subP x35 x43))))], rfl, rfl, by simp [Value.oneCell'], ?_⟩
          intro bq53 wn_50 hbn_50 lbq53 mbq53 c60
          simp only [Act.put, List.setIfInBounds_toArray, List.set_cons_zero, List.set_cons_succ]
          have ne61 : w.heap.size ≠ bq53 := by have := c45.lt; omega
          have ne61' := ne61.symm
          have ne62 : w3.heap.size ≠ bq53 := by have := c46.lt; omega
          have ne62' := ne62.symm
          have ne63 : w3.heap.size + 1 ≠ bq53 := by have := c47.lt; omega
          have ne63' := ne63.symm
          have ne64 : g55 ≠ bq53 := by omega
          have ne64' := ne64.symm
          have wbq53 := Nat.le_trans hB49.size lbq53
          have an65 : w1.heap.size ≤ bq53 := Nat.le_trans hA48.size lbq53
          clear hA59 hBV_50 dce58 vce58 dce54 vce54 dc47 vc47 dc46 vc46 dc45 vc45 hV_50 V_50
          have c66 := c45.up hbn_50
          have c67 := c46.up hbn_50
          have c68 := c47.up hbn_50
          have hA69 := bel_up hA48 hbn_50
          have hB70 : Below w.heap.size w wn_50 := bel_up hB49 hbn_50
          clear c45 c46 c47 hA48
          have uc66 := c66; have uc67 := c67; have uc68 := c68; have uc60 := c60
          simp only [At, Own, Nat.reduceAdd, and_true] at uc66 uc67 uc68 uc60
          have kK71 := fun W => rcompare_any (Pl.dotP (Pl.subP x35 x43) (Pl.subP x35 x43)) out W (((Zhx36.out.sub Zhx44.out).dot (Zhx36.out.sub Zhx44.out)).mono (by omega)) (hout.mono (by omega))
          generalize hT73 : Pl.cmpQ (Pl.dotP (Pl.subP x35 x43) (Pl.subP x35 x43)) out = t72 at kK71
          have K71 := Lib.hid kK71
          clear kK71
          have T74 := Lib.hid (sgnQ hT73)
          have HhT73 := Lib.hid hT73
          clear hT73
          go_wp2_with (fail)
          refine calls_named ?_
          intro W6 hW6
          have hL6 : Below wn_50.heap.size wn_50 W6 := by
            rw [hW6]
            repeat (first | with_reducible exact Below.refl _ _ | with_reducible refine bel_alloc ?_ _ | refine Below.setCell ?_ (by first | (simp; done) | (simp; omega) | omega) _)
          have c75 := c66.up hL6
          have c76 := c67.up hL6
          have c77 := c68.up hL6
          have c78 := c60.up hL6
          have hA79 := bel_up hA69 hL6
          have hB80 : Below w.heap.size w W6 := by
            rw [hW6]
            repeat (first | with_reducible exact hB70 | with_reducible refine bel_alloc ?_ _ | refine Below.setCell ?_ (by first | (simp; done) | (simp; omega) | omega) _)
          clear hW6 hL6 uc66 uc67 uc68 uc60 c66 c67 c68 c60 hA69
          with_reducible refine (K71.out _).mono ?_
          rintro e w6 ⟨rfl, hb6⟩
          have c81 := c75.up hb6
          have c82 := c76.up hb6
          have c83 := c77.up hb6
          have c84 := c78.up hb6
          have hA85 := bel_up hA79 hb6
          have hB86 : Below w.heap.size w w6 := bel_up hB80 hb6
          clear c75 c76 c77 c78 hA79
          rcases T74.out with rfl | rfl | rfl
          · skip
            have uc81 := c81; have uc82 := c82; have uc83 := c83; have uc84 := c84
            simp only [At, Own, Nat.reduceAdd, and_true] at uc81 uc82 uc83 uc84
            go_wp2
            go_roundw
            case rel => exact ⟨(j + 1), out, (by first | rfl | exact congrArg (Value.int .i64) (by omega) | simp [*]), (by repeat (first | with_reducible exact c81 | refine Own.far _ _ (by simp <;> omega) ?_ | with_reducible refine Own.alloc ?_ _)), (by repeat (first | with_reducible exact c82 | refine Own.far _ _ (by simp <;> omega) ?_ | with_reducible refine Own.alloc ?_ _)), (by repeat (first | with_reducible exact c83 | refine Own.far _ _ (by simp <;> omega) ?_ | with_reducible refine Own.alloc ?_ _)), (by repeat (first | with_reducible exact hA85 | with_reducible refine bel_alloc ?_ _ | refine Below.setCell ?_ (by first | (simp; done) | (simp; omega) | omega) _)), (by repeat (first | with_reducible exact hB86 | with_reducible refine bel_alloc ?_ _ | refine Below.setCell ?_ (by first | (simp; done) | (simp; omega) | omega) _)), (by omega), hout, Lib.hid (by rw [HTI.out, ← HO.out]; unfold Pl.dist2; rw [maxQ_lt HhT73.out]; first | rfl | simp)⟩
            case measure => simp [intOf] <;> omega
          · skip
            have uc81 := c81; have uc82 := c82; have uc83 := c83; have uc84 := c84
            simp only [At, Own, Nat.reduceAdd, and_true] at uc81 uc82 uc83 uc84
            go_wp2
            go_roundw
            case rel => exact ⟨(j + 1), out, (by first | rfl | exact congrArg (Value.int .i64) (by omega) | simp [*]), (by repeat (first | with_reducible exact c81 | refine Own.far _ _ (by simp <;> omega) ?_ | with_reducible refine Own.alloc ?_ _)), (by repeat (first | with_reducible exact c82 | refine Own.far _ _ (by simp <;> omega) ?_ | with_reducible refine Own.alloc ?_ _)), (by repeat (first | with_reducible exact c83 | refine Own.far _ _ (by simp <;> omega) ?_ | with_reducible refine Own.alloc ?_ _)), (by repeat (first | with_reducible exact hA85 | with_reducible refine bel_alloc ?_ _ | refine Below.setCell ?_ (by first | (simp; done) | (simp; omega) | omega) _)), (by repeat (first | with_reducible exact hB86 | with_reducible refine bel_alloc ?_ _ | refine Below.setCell ?_ (by first | (simp; done) | (simp; omega) | omega) _)), (by omega), hout, Lib.hid (by rw [HTI.out, ← HO.out]; unfold Pl.dist2; rw [maxQ_lt HhT73.out]; first | rfl | simp)⟩
            case measure => simp [intOf] <;> omega
          · skip
            have uc81 := c81; have uc82 := c82; have uc83 := c83; have uc84 := c84
            simp only [At, Own, Nat.reduceAdd, and_true] at uc81 uc82 uc83 uc84
            go_wp2
            go_roundw
            case rel => exact ⟨(j + 1), (Pl.dotP (Pl.subP x35 x43) (Pl.subP x35 x43)), (by first | rfl | exact congrArg (Value.int .i64) (by omega) | simp [*]), (by repeat (first | with_reducible exact c81 | refine Own.far _ _ (by simp <;> omega) ?_ | with_reducible refine Own.alloc ?_ _)), (by repeat (first | with_reducible exact c82 | refine Own.far _ _ (by simp <;> omega) ?_ | with_reducible refine Own.alloc ?_ _)), (by simp [Own, go_sem, uc81, uc82, uc83, uc84, ne61, ne61', ne62, ne62', ne63, ne63', ne64, ne64']), (by repeat (first | with_reducible exact hA85 | with_reducible refine bel_alloc ?_ _ | refine Below.setCell ?_ (by first | (simp; done) | (simp; omega) | omega) _)), (by repeat (first | with_reducible exact hB86 | with_reducible refine bel_alloc ?_ _ | refine Below.setCell ?_ (by first | (simp; done) | (simp; omega) | omega) _)), (by omega), (((Zhx36.out.sub Zhx44.out).dot (Zhx36.out.sub Zhx44.out)).mono (by omega)), Lib.hid (by rw [HTI.out, ← HO.out]; unfold Pl.dist2; rw [maxQ_lt HhT73.out]; first | rfl | simp)⟩
            case measure => simp [intOf] <;> omega
        · skip
          have hkN : k = j := by omega
          subst hkN
          have ub37 := b37; have ub38 := b38; have ub39 := b39
          simp only [At, Own, Nat.reduceAdd, and_true] at ub37 ub38 ub39
          go_wp2
          go_roundw
          case rel => exact ⟨(k + 1), out, (by first | rfl | exact congrArg (Value.int .i64) (by omega) | simp [*]), (by repeat (first | with_reducible exact b37 | refine Own.far _ _ (by simp <;> omega) ?_ | with_reducible refine Own.alloc ?_ _)), (by repeat (first | with_reducible exact b38 | refine Own.far _ _ (by simp <;> omega) ?_ | with_reducible refine Own.alloc ?_ _)), (by repeat (first | with_reducible exact b39 | refine Own.far _ _ (by simp <;> omega) ?_ | with_reducible refine Own.alloc ?_ _)), (by repeat (first | with_reducible exact hA40 | with_reducible refine bel_alloc ?_ _ | refine Below.setCell ?_ (by first | (simp; done) | (simp; omega) | omega) _)), (by repeat (first | with_reducible exact hB41 | with_reducible refine bel_alloc ?_ _ | refine Below.setCell ?_ (by first | (simp; done) | (simp; omega) | omega) _)), (by omega), hout, Lib.hid (by rw [HT.out, HO.out, HE.out])⟩
          case measure => simp [intOf] <;> omega
    · skip
      have hkN : N1 = k := by omega
      subst hkN
      have HDI : Hid (diam H = D2) := Lib.hid (by rw [HE.out, ← HL1.out]; unfold diam; rw [HN1.out])
      have EQD := fun W => eqQ_in (diam H) D2 W
      rw [decide_eq_true HDI.out] at EQD
      have K87 := Lib.hid (fun W => known_any W)
      have K88 := Lib.hid (fun va W (ha : PV W va H) => cdiam_any va H W ha HSS.out (Nat.le_trans HN12.out (by decide)) (by decide : 1 ≤ 400))
      go_wp2_with fail
      refine wp_named ?_
      intro W7 hW7
      have hL7 : Below wr34.heap.size wr34 W7 := by
        rw [hW7]
        repeat (first | with_reducible exact Below.refl _ _ | with_reducible refine bel_alloc ?_ _ | refine Below.setCell ?_ (by first | (simp; done) | (simp; omega) | omega) _)
      have c89 := b29.up hL7
      have c90 := b30.up hL7
      have c91 := b31.up hL7
      have hA92 := bel_up hA32 hL7
      have hB93 : Below w.heap.size w W7 := by
        rw [hW7]
        repeat (first | with_reducible exact hB33 | with_reducible refine bel_alloc ?_ _ | refine Below.setCell ?_ (by first | (simp; done) | (simp; omega) | omega) _)
      clear hW7 hL7 b29 b30 b31 hA32
      have dc89 := fun p : Bel W7 => c89.bel p; have dc90 := fun p : Bel W7 => c90.bel p; have dc91 := fun p : Bel W7 => c91.bel p
      simp only [At, Own, Nat.reduceAdd, and_true] at dc89 dc90 dc91
      refine wp_region_all (by kernel_rfl) (by kernel_rfl) ?_
      repeat (go_big_quiet_step (first | (go_at_call 17; with_reducible exact Calls.bel (K87.out _)) | (go_at_call 32; with_reducible exact Calls.bel (K88.out _ _ (PV.up (HL1.out ▸ (PL1.out.up hA92)) (Bel.h _))))))
      refine wpQuiet_nil ?_
      intro w7 hb7
      have c94 := c89.up hb7
      have c95 := c90.up hb7
      have c96 := c91.up hb7
      have hA97 := bel_up hA92 hb7
      have hB98 : Below w.heap.size w w7 := bel_up hB93 hb7
      clear dc89 dc90 dc91 c89 c90 c91 hA92
      have uc94 := c94; have uc95 := c95; have uc96 := c96
      simp only [At, Own, Nat.reduceAdd, and_true] at uc94 uc95 uc96
      obtain rfl : N1 = 0 := by have := HE0.out; have := HN1.out; have := HLEN1.out; rw [this] at *; simp at *; omega
      have EQZ := fun W => eqP_zz W
      go_wp2
      go_ret
      refine ⟨rfl, ?_⟩
      repeat (first | with_reducible exact hB98 | with_reducible refine bel_alloc ?_ _ | refine Below.setCell ?_ (by first | (simp; done) | (simp; omega) | omega) _)
end Go.Proofs.YtdkkjfnpinckjaaGreatDoor
