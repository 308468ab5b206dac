/-
  Contracts for convex sets: the farthest point.
-/
import Derived.Test.YtdkkjfnpinckjaaGreatDoorVSup
import Derived.Test.YtdkkjfnpinckjaaGreatDoorVMo
import Derived.Deep.RegionHeld3
import Derived.Deep.DeepCutAuto
import Derived.Test.YtdkkjfnpinckjaaGreatDoorVReg3
set_option linter.unusedSimpArgs false
set_option linter.unusedVariables false
namespace Go.Proofs.YtdkkjfnpinckjaaGreatDoor
open Go Go.RowKit

theorem LX.tail8 {w : World} {g o : Nat} {l : List (Rat × Rat)} (h : LX CE 8 w (some ⟨g, o, none⟩) l) : LX CE 8 w (some ⟨g, o + 8, none⟩) (l.drop 1) := fun k x hx => ⟨g, o + 8, rfl, by
  have := LX.at_ (k := k + 1) h (by rw [List.getElem?_drop] at hx; rw [Nat.add_comm]; exact hx)
  rwa [show o + (k + 1) * 8 = o + 8 + k * 8 from by omega] at this⟩
theorem supp_cons2 (d out x : Rat × Rat) (l : List (Rat × Rat)) : Pl.supp (x :: l) d out = Pl.supp l d (Pl.suppStep d out x) := rfl
theorem size_drewC (w : World) : w.drew.heap.size = w.heap.size := rfl

set_option maxRecDepth 100000 in
set_option maxHeartbeats 4000000 in
theorem csupp_two {S : Nat} (v : Value) (l : List (Rat × Rat)) (d a : Rat × Rat) (w : World) (h : PV w v l) (hs : ∀ q ∈ l, Pl.SzP S q) (hn : l.length ≤ 1000000) (hS : S ≤ 100000) (hd : Pl.SzP S d) (h0 : l[0]? = some a) (h2 : 2 ≤ l.length) :
    Calls Tryz.prog 27 #[v, pv d] w fun e w' => e = .returned (.tuple #[pv (Pl.supp l d a), .int .i64 0]) ∧ Below w.heap.size w w' := by
  have hsa := hs a (List.mem_of_getElem? h0)
  have H0 := Lib.hid h0
  clear h0
  obtain ⟨A, c, rfl, hc, hm, hx⟩ := h.open_
  have HV := Lib.hid h
  have HX := Lib.hid hx
  have HS := Lib.hid hs
  have HF : Hid (l.take l.length = l) := Lib.hid List.take_length
  generalize hN : l.length = N at *
  have HN := Lib.hid hN
  clear h hx hs hN
  have j0 : ¬ (N : Int) = 0 := by omega
  have j1 : ((N : Int) == 0) = false := by simpa using j0
  have j3 : (1 : Int) ≤ N := by omega
  have j7 : (0 : Int) < N := by omega
  have hlen : 0 < N := by omega
  have j4 : (N : Int) ≤ c := by omega
  have j5 : ¬ c = 1 := by omega
  obtain ⟨g, o, hA, -⟩ := HX.out _ _ H0.out
  subst hA
  have hgw : g < w.heap.size := World.block_lt_of_cell? _ _ (LX.at_ HX.out H0.out).1
  obtain ⟨m, hm2⟩ : ∃ m, m = l.drop 1 := ⟨_, rfl⟩
  have HXM : Hid (LX CE 8 w (some ⟨g, o + 8, none⟩) m) := Lib.hid (hm2 ▸ LX.tail8 HX.out)
  have HSM : Hid (∀ q ∈ m, Pl.SzP S q) := Lib.hid (fun q hq => HS.out q (List.mem_of_mem_drop (hm2 ▸ hq)))
  have HST : Hid (Pl.supp l d a = Pl.supp (m.drop 0) d a) := Lib.hid (by rw [List.drop_zero, hm2]; have := Pl.drop_of H0.out; rw [List.drop_zero] at this; rw [this, supp_cons2]; simp [Pl.suppStep, Pl.less_irrefl])
  obtain ⟨M, hM⟩ : ∃ M, M + 1 = N := ⟨N - 1, by omega⟩
  have HNM : Hid (m.length = M) := Lib.hid (by rw [hm2, List.length_drop, HN.out]; omega)
  have j6 : N - 1 = M := by omega
  have HMN := Lib.hid hM
  clear hm2
  go_enter Tryz.func27, Tryz.ntmps27
  have ne1_ : g < w.heap.size := by omega
  have ne1 := Nat.ne_of_lt ne1_
  have ne1' := ne1.symm
  have ne2_ : g < w.heap.size + 1 := by omega
  have ne2 := Nat.ne_of_lt ne2_
  have ne2' := ne2.symm
  go_upto_region 3 with fail
  refine wp_named ?_
  intro W1 hW1
  have hL1 : Below w.heap.size w W1 := by
    rw [hW1]
    repeat (first | with_reducible exact Below.refl _ _ | with_reducible refine bel_alloc ?_ _ | refine Below.setCell ?_ (by first | (simp; done) | (simp; omega) | omega) _)
  have c3 : Own W1 (w.heap.size) 0 [.bool (ng d.1.num), .string (mg d.1.num.natAbs), .bool false, .string (mg (dn d.1)), .bool (ng d.2.num), .string (mg d.2.num.natAbs), .bool false, .string (mg (dn d.2))] := by
    rw [hW1]
    first
    | (repeat (first | (with_reducible refine own_new (l := [.bool (ng d.1.num), .string (mg d.1.num.natAbs), .bool false, .string (mg (dn d.1)), .bool (ng d.2.num), .string (mg d.2.num.natAbs), .bool false, .string (mg (dn d.2))]) ?_; (simp; done)) | with_reducible refine Own.alloc ?_ _ | refine Own.far _ _ (by first | (simp; done) | (simp [*]; done) | (simp; omega)) ?_)); done
    | simp [Own, go_sem, ne1, ne1', ne1_, ne2, ne2', ne2_]
  have c4 : Own W1 (w.heap.size + 1) 0 [.bool false, .string ⟨#[]⟩, .bool false, .string ⟨#[]⟩, .bool false, .string ⟨#[]⟩, .bool false, .string ⟨#[]⟩] := by
    rw [hW1]
    first
    | (repeat (first | (with_reducible refine own_new (l := [.bool false, .string ⟨#[]⟩, .bool false, .string ⟨#[]⟩, .bool false, .string ⟨#[]⟩, .bool false, .string ⟨#[]⟩]) ?_; (simp; done)) | with_reducible refine Own.alloc ?_ _ | refine Own.far _ _ (by first | (simp; done) | (simp [*]; done) | (simp; omega)) ?_)); done
    | simp [Own, go_sem, ne1, ne1', ne1_, ne2, ne2', ne2_]
  have hB5 : Below w.heap.size w W1 := by
    rw [hW1]
    repeat (first | with_reducible exact Below.refl _ _ | with_reducible refine bel_alloc ?_ _ | refine Below.setCell ?_ (by first | (simp; done) | (simp; omega) | omega) _)
  clear hW1 hL1
  have K7 := Lib.hid (fun W => pdot_any a d W hsa hd (by omega) (by omega))
  have ce10 := LX.at_ ((HX.out).up kpP hB5) H0.out
  have ce10_ : g < W1.heap.size := World.block_lt_of_cell? _ _ ce10.1
  refine wp_region_new2 10 8 6 9 7 [.bool false, .string ⟨#[]⟩, .bool false, .string ⟨#[]⟩, .bool false, .string ⟨#[]⟩, .bool false, .string ⟨#[]⟩] [.bool false, .string ⟨#[]⟩, .bool false, .string ⟨#[]⟩] 35 33 (by kernel_rfl) (by kernel_rfl) rfl rfl rfl rfl rfl rfl rfl ⟨(by intro h_; cases h_), (by intro h_; cases h_), (by intro h_; cases h_), (by intro h_; cases h_)⟩ (by simp) (by simp) (run_alloc_zero Tryz.zeroValue35 rfl) (by kernel_rfl) (run_alloc_zero Tryz.zeroValue33 rfl) (by kernel_rfl) ?_
  intro V_6 hV_6
  have vc3 := c3.up hV_6; have dc3 := fun p : Bel V_6 => vc3.bel p
  have vc4 := c4.up hV_6; have dc4 := fun p : Bel V_6 => vc4.bel p
  simp only [At, Own, Nat.reduceAdd, and_true] at dc3 dc4
  have vce10 := ce10.up hV_6; have dce10 := fun b : Bel V_6 => vce10.bel b
  simp only [CE, Nat.reduceMul, Nat.zero_mul, Nat.add_zero, Nat.add_assoc, Nat.reduceAdd] at dce10
  have hBV_6 := bel_up hB5 hV_6
  simp only [List.map_cons, List.map_nil, maskOp, List.take_succ_cons, List.take_zero]
  repeat (go_big_quiet_step (first | (go_at_call 63; with_reducible exact Calls.bel (K7.out _))))
  refine wpQuiet_nil ?_
  refine ⟨[.bool (ng a.1.num), .string (mg a.1.num.natAbs), .bool false, .string (mg (dn a.1)), .bool (ng a.2.num), .string (mg a.2.num.natAbs), .bool false, .string (mg (dn a.2))], [.bool (ng ((Pl.dotP a d).num)), .string (mg ((Pl.dotP a d).num).natAbs), .bool false, .string (mg (dn (Pl.dotP a d)))], rfl, rfl, by simp [Value.oneCell'], rfl, rfl, by simp [Value.oneCell'], ?_⟩
  intro bq8 bq9 wn_6 hbn_6 lbq8 mbq8 lbq9 mbq9 nbq8 c11 c12
  have nbq8' := nbq8.symm
  simp only [Act.put, List.setIfInBounds_toArray, List.set_cons_zero, List.set_cons_succ]
  have ne13 : w.heap.size ≠ bq8 := by have := c3.lt; omega
  have ne13' := ne13.symm
  have ne14 : w.heap.size + 1 ≠ bq8 := by have := c4.lt; omega
  have ne14' := ne14.symm
  have ne15 : g ≠ bq8 := by omega
  have ne15' := ne15.symm
  have wbq8 := Nat.le_trans hB5.size lbq8
  have ne16 : w.heap.size ≠ bq9 := by have := c3.lt; omega
  have ne16' := ne16.symm
  have ne17 : w.heap.size + 1 ≠ bq9 := by have := c4.lt; omega
  have ne17' := ne17.symm
  have ne18 : g ≠ bq9 := by omega
  have ne18' := ne18.symm
  have wbq9 := Nat.le_trans hB5.size lbq9
  clear hBV_6 dce10 vce10 dc4 vc4 dc3 vc3 hV_6 V_6
  have c19 := c3.up hbn_6
  have c20 := c4.up hbn_6
  have hB21 : Below w.heap.size w wn_6 := bel_up hB5 hbn_6
  clear c3 c4
  go_wp2_with fail
  go_loopw [27] (fun s27 wr => ∃ (k : Nat) (out : Rat × Rat), s27 = .int .i64 k ∧ Own wr (w.heap.size) 0 [.bool (ng d.1.num), .string (mg d.1.num.natAbs), .bool false, .string (mg (dn d.1)), .bool (ng d.2.num), .string (mg d.2.num.natAbs), .bool false, .string (mg (dn d.2))] ∧ Own wr (w.heap.size + 1) 0 [.bool false, .string ⟨#[]⟩, .bool false, .string ⟨#[]⟩, .bool false, .string ⟨#[]⟩, .bool false, .string ⟨#[]⟩] ∧ Own wr (bq8) 0 [.bool (ng out.1.num), .string (mg out.1.num.natAbs), .bool false, .string (mg (dn out.1)), .bool (ng out.2.num), .string (mg out.2.num.natAbs), .bool false, .string (mg (dn out.2))] ∧ Own wr (bq9) 0 [.bool (ng ((Pl.dotP out d).num)), .string (mg ((Pl.dotP out d).num).natAbs), .bool false, .string (mg (dn (Pl.dotP out d)))] ∧ Below w.heap.size w wr ∧ k ≤ M ∧ Pl.SzP S out ∧ Hid (Pl.supp l d a = Pl.supp (m.drop k) d out)) (fun s27 _ => M - (intOf s27).toNat)
  case atStart => exact ⟨0, a, rfl, c19, c20, c11, c12, hB21, (by omega), hsa, HST⟩
  case round =>
    clear c19 c20 c11 c12 hB21
    obtain ⟨k, out, rfl, b22, b23, b24, b25, hB26, hk, hout, HE⟩ := hrel
    obtain ⟨wr27, hwr27⟩ : ∃ W_, W_ = wr := ⟨_, rfl⟩
    subst hwr27
    by_cases hltk : k < M
    · skip
      have i1k : (k : Int) < M := by omega
      obtain ⟨x28, hx29⟩ : ∃ x, m[k]? = some x := ⟨_, List.getElem?_eq_getElem (by rw [HNM.out]; omega)⟩
      have Hhx29 := Lib.hid hx29
      have Zhx29 := Lib.hid (HSM.out _ (List.mem_of_getElem? hx29))
      clear hx29
      have HD := Lib.hid (Pl.drop_of Hhx29.out)
      have ce30 := LX.at_ ((HXM.out).up kpP hB26) Hhx29.out
      have ce30_ : g < wr27.heap.size := World.block_lt_of_cell? _ _ ce30.1
      have uce30 := ce30
      simp only [CE, Nat.reduceMul] at uce30
      have ne31_ : w.heap.size < wr27.heap.size := by have := b22.lt; omega
      have ne31 := Nat.ne_of_lt ne31_
      have ne31' := ne31.symm
      have ne32_ : w.heap.size + 1 < wr27.heap.size := by have := b23.lt; omega
      have ne32 := Nat.ne_of_lt ne32_
      have ne32' := ne32.symm
      have ne33_ : bq8 < wr27.heap.size := by have := b24.lt; omega
      have ne33 := Nat.ne_of_lt ne33_
      have ne33' := ne33.symm
      have ne34_ : bq9 < wr27.heap.size := by have := b25.lt; omega
      have ne34 := Nat.ne_of_lt ne34_
      have ne34' := ne34.symm
      have ne35_ : g < wr27.heap.size := by omega
      have ne35 := Nat.ne_of_lt ne35_
      have ne35' := ne35.symm
      have ub22 := b22; have ub23 := b23; have ub24 := b24; have ub25 := b25
      simp only [At, Own, Nat.reduceAdd, and_true] at ub22 ub23 ub24 ub25
      have K36 := Lib.hid (fun W => pdot_any x28 d W Zhx29.out hd (by omega) (by omega))
      go_wp2_with (fail)
      refine calls_named ?_
      intro W2 hW2
      have hL2 : Below wr27.heap.size wr27 W2 := by
        rw [hW2]
        repeat (first | with_reducible exact Below.refl _ _ | with_reducible refine bel_alloc ?_ _ | refine Below.setCell ?_ (by first | (simp; done) | (simp; omega) | omega) _)
      have c37 := b22.up hL2
      have c38 := b23.up hL2
      have c39 := b24.up hL2
      have c40 := b25.up hL2
      have c41 : Own W2 (wr27.heap.size) 0 [.bool (ng x28.1.num), .string (mg x28.1.num.natAbs), .bool false, .string (mg (dn x28.1)), .bool (ng x28.2.num), .string (mg x28.2.num.natAbs), .bool false, .string (mg (dn x28.2))] := by
        rw [hW2]
        first
        | (repeat (first | (with_reducible refine own_new (l := [.bool (ng x28.1.num), .string (mg x28.1.num.natAbs), .bool false, .string (mg (dn x28.1)), .bool (ng x28.2.num), .string (mg x28.2.num.natAbs), .bool false, .string (mg (dn x28.2))]) ?_; (simp; done)) | with_reducible refine Own.alloc ?_ _ | refine Own.far _ _ (by first | (simp; done) | (simp [*]; done) | (simp; omega)) ?_)); done
        | simp [Own, go_sem, uce30, ub22, ub23, ub24, ub25, ne31, ne31', ne31_, ne32, ne32', ne32_, ne33, ne33', ne33_, ne34, ne34', ne34_, ne35, ne35', ne35_, nbq8, nbq8', ne13, ne13', ne14, ne14', ne15, ne15', ne16, ne16', ne17, ne17', ne18, ne18']
      have hB42 : Below w.heap.size w W2 := by
        rw [hW2]
        repeat (first | with_reducible exact hB26 | with_reducible refine bel_alloc ?_ _ | refine Below.setCell ?_ (by first | (simp; done) | (simp; omega) | omega) _)
      clear hW2 hL2 uce30 ub22 ub23 ub24 ub25 b22 b23 b24 b25
      with_reducible refine (K36.out _).mono ?_
      rintro e w2 ⟨rfl, hb2⟩
      have c43 := c37.up hb2
      have c44 := c38.up hb2
      have c45 := c39.up hb2
      have c46 := c40.up hb2
      have c47 := c41.up hb2
      have hB48 : Below w.heap.size w w2 := bel_up hB42 hb2
      clear c37 c38 c39 c40 c41
      have ne49_ : w.heap.size < w2.heap.size := by have := c43.lt; omega
      have ne49 := Nat.ne_of_lt ne49_
      have ne49' := ne49.symm
      have ne50_ : w.heap.size + 1 < w2.heap.size := by have := c44.lt; omega
      have ne50 := Nat.ne_of_lt ne50_
      have ne50' := ne50.symm
      have ne51_ : bq8 < w2.heap.size := by have := c45.lt; omega
      have ne51 := Nat.ne_of_lt ne51_
      have ne51' := ne51.symm
      have ne52_ : bq9 < w2.heap.size := by have := c46.lt; omega
      have ne52 := Nat.ne_of_lt ne52_
      have ne52' := ne52.symm
      have ne53_ : wr27.heap.size < w2.heap.size := by have := c47.lt; omega
      have ne53 := Nat.ne_of_lt ne53_
      have ne53' := ne53.symm
      have ne54_ : g < w2.heap.size := by omega
      have ne54 := Nat.ne_of_lt ne54_
      have ne54' := ne54.symm
      have uc43 := c43; have uc44 := c44; have uc45 := c45; have uc46 := c46; have uc47 := c47
      simp only [At, Own, Nat.reduceAdd, and_true] at uc43 uc44 uc45 uc46 uc47
      have kK55 := fun W => qcmp_any (Pl.dotP x28 d) (Pl.dotP out d) W ((Zhx29.out.dot hd).mono (by omega)) ((hout.dot hd).mono (by omega))
      generalize hT57 : Pl.cmpQ (Pl.dotP x28 d) (Pl.dotP out d) = t56 at kK55
      have K55 := Lib.hid kK55
      clear kK55
      have T58 := Lib.hid (sgnQ hT57)
      have HhT57 := Lib.hid hT57
      clear hT57
      go_wp2_with (fail)
      refine calls_named ?_
      intro W3 hW3
      have hL3 : Below w2.heap.size w2 W3 := by
        rw [hW3]
        repeat (first | with_reducible exact Below.refl _ _ | with_reducible refine bel_alloc ?_ _ | refine Below.setCell ?_ (by first | (simp; done) | (simp; omega) | omega) _)
      have c59 := c43.up hL3
      have c60 := c44.up hL3
      have c61 := c45.up hL3
      have c62 := c46.up hL3
      have c63 := c47.up hL3
      have c64 : Own W3 (w2.heap.size) 0 [.bool (ng ((Pl.dotP x28 d).num)), .string (mg ((Pl.dotP x28 d).num).natAbs), .bool false, .string (mg (dn (Pl.dotP x28 d)))] := by
        rw [hW3]
        first
        | (repeat (first | (with_reducible refine own_new (l := [.bool (ng ((Pl.dotP x28 d).num)), .string (mg ((Pl.dotP x28 d).num).natAbs), .bool false, .string (mg (dn (Pl.dotP x28 d)))]) ?_; (simp; done)) | with_reducible refine Own.alloc ?_ _ | refine Own.far _ _ (by first | (simp; done) | (simp [*]; done) | (simp; omega)) ?_)); done
        | simp [Own, go_sem, uc43, uc44, uc45, uc46, uc47, ne49, ne49', ne49_, ne50, ne50', ne50_, ne51, ne51', ne51_, ne52, ne52', ne52_, ne53, ne53', ne53_, ne54, ne54', ne54_, nbq8, nbq8', ne13, ne13', ne14, ne14', ne15, ne15', ne16, ne16', ne17, ne17', ne18, ne18']
      have hB65 : Below w.heap.size w W3 := by
        rw [hW3]
        repeat (first | with_reducible exact hB48 | with_reducible refine bel_alloc ?_ _ | refine Below.setCell ?_ (by first | (simp; done) | (simp; omega) | omega) _)
      clear hW3 hL3 uc43 uc44 uc45 uc46 uc47 c43 c44 c45 c46 c47
      with_reducible refine (K55.out _).mono ?_
      rintro e w3 ⟨rfl, hb3⟩
      have c66 := c59.up hb3
      have c67 := c60.up hb3
      have c68 := c61.up hb3
      have c69 := c62.up hb3
      have c70 := c63.up hb3
      have c71 := c64.up hb3
      have hB72 : Below w.heap.size w w3 := bel_up hB65 hb3
      clear c59 c60 c61 c62 c63 c64
      rcases T58.out with rfl | rfl | rfl
      · skip
        have uc66 := c66; have uc67 := c67; have uc68 := c68; have uc69 := c69; have uc70 := c70; have uc71 := c71
        simp only [At, Own, Nat.reduceAdd, and_true] at uc66 uc67 uc68 uc69 uc70 uc71
        go_wp2
        go_roundw
        case rel => exact ⟨(k + 1), out, (by first | rfl | exact congrArg (Value.int .i64) (by omega) | simp [*]), (by repeat (first | with_reducible exact c66 | refine Own.far _ _ (by simp <;> omega) ?_ | with_reducible refine Own.alloc ?_ _)), (by repeat (first | with_reducible exact c67 | refine Own.far _ _ (by simp <;> omega) ?_ | with_reducible refine Own.alloc ?_ _)), (by repeat (first | with_reducible exact c68 | refine Own.far _ _ (by simp <;> omega) ?_ | with_reducible refine Own.alloc ?_ _)), (by repeat (first | with_reducible exact c69 | refine Own.far _ _ (by simp <;> omega) ?_ | with_reducible refine Own.alloc ?_ _)), (by repeat (first | with_reducible exact hB72 | with_reducible refine bel_alloc ?_ _ | refine Below.setCell ?_ (by first | (simp; done) | (simp; omega) | omega) _)), (by omega), hout, Lib.hid (by rw [HE.out, HD.out, supp_cons2]; congr 1; simp [Pl.suppStep, Pl.lessP, HhT57.out])⟩
        case measure => simp [intOf] <;> omega
      · skip
        have uc66 := c66; have uc67 := c67; have uc68 := c68; have uc69 := c69; have uc70 := c70; have uc71 := c71
        simp only [At, Own, Nat.reduceAdd, and_true] at uc66 uc67 uc68 uc69 uc70 uc71
        have kK73 := fun W => pcmp_any x28 out W Zhx29.out hout (by omega) (by omega)
        generalize hT75 : Pl.cmpP x28 out = t74 at kK73
        have K73 := Lib.hid kK73
        clear kK73
        have T76 := Lib.hid (sgnP hT75)
        have HhT75 := Lib.hid hT75
        clear hT75
        go_wp2_with (fail)
        refine calls_named ?_
        intro W4 hW4
        have hL4 : Below w3.heap.size w3 W4 := by
          rw [hW4]
          repeat (first | with_reducible exact Below.refl _ _ | with_reducible refine bel_alloc ?_ _ | refine Below.setCell ?_ (by first | (simp; done) | (simp; omega) | omega) _)
        have c77 := c66.up hL4
        have c78 := c67.up hL4
        have c79 := c68.up hL4
        have c80 := c69.up hL4
        have c81 := c70.up hL4
        have c82 := c71.up hL4
        have hB83 : Below w.heap.size w W4 := by
          rw [hW4]
          repeat (first | with_reducible exact hB72 | with_reducible refine bel_alloc ?_ _ | refine Below.setCell ?_ (by first | (simp; done) | (simp; omega) | omega) _)
        clear hW4 hL4 uc66 uc67 uc68 uc69 uc70 uc71 c66 c67 c68 c69 c70 c71
        with_reducible refine (K73.out _).mono ?_
        rintro e w4 ⟨rfl, hb4⟩
        have c84 := c77.up hb4
        have c85 := c78.up hb4
        have c86 := c79.up hb4
        have c87 := c80.up hb4
        have c88 := c81.up hb4
        have c89 := c82.up hb4
        have hB90 : Below w.heap.size w w4 := bel_up hB83 hb4
        clear c77 c78 c79 c80 c81 c82
        rcases T76.out with rfl | rfl | rfl
        · skip
          go_upto_region 10 with fail
          refine wp_region_head0 0 (by kernel_rfl) (by kernel_rfl) ?_
          intro V_91 hV_91
          have vc84 := c84.up hV_91; have dc84 := fun p : Bel V_91 => vc84.bel p
          have vc85 := c85.up hV_91; have dc85 := fun p : Bel V_91 => vc85.bel p
          have vc86 := c86.up hV_91; have dc86 := fun p : Bel V_91 => vc86.bel p
          have vc87 := c87.up hV_91; have dc87 := fun p : Bel V_91 => vc87.bel p
          have vc88 := c88.up hV_91; have dc88 := fun p : Bel V_91 => vc88.bel p
          have vc89 := c89.up hV_91; have dc89 := fun p : Bel V_91 => vc89.bel p
          simp only [At, Own, Nat.reduceAdd, and_true] at dc84 dc85 dc86 dc87 dc88 dc89
          simp only [List.map_cons, List.map_nil, maskOp, List.take_succ_cons, List.take_zero]
          repeat (go_big_quiet_step (fail))
          refine wpQuiet_nil ?_
          intro wn_91 hbn_91
          clear dc89 vc89 dc88 vc88 dc87 vc87 dc86 vc86 dc85 vc85 dc84 vc84 hV_91 V_91
          have c92 := c84.up hbn_91
          have c93 := c85.up hbn_91
          have c94 := c86.up hbn_91
          have c95 := c87.up hbn_91
          have c96 := c88.up hbn_91
          have c97 := c89.up hbn_91
          have hB98 : Below w.heap.size w wn_91 := bel_up hB90 hbn_91
          clear c84 c85 c86 c87 c88 c89
          have uc92 := c92; have uc93 := c93; have uc94 := c94; have uc95 := c95; have uc96 := c96; have uc97 := c97
          simp only [At, Own, Nat.reduceAdd, and_true] at uc92 uc93 uc94 uc95 uc96 uc97
          have ne99 : w2.heap.size ≠ bq8 := by first | assumption | (simp; done) | (simp; omega) | omega | (have := c97.lt; omega)
          have ne100 : bq9 ≠ bq8 := by first | assumption | (simp; done) | (simp; omega) | omega | (have := c95.lt; omega)
          refine tail_swap4 (cs1 := [.bool (ng x28.1.num), .string (mg x28.1.num.natAbs), .bool false, .string (mg (dn x28.1)), .bool (ng x28.2.num), .string (mg x28.2.num.natAbs), .bool false, .string (mg (dn x28.2))]) (cs2 := [.bool (ng ((Pl.dotP x28 d).num)), .string (mg ((Pl.dotP x28 d).num).natAbs), .bool false, .string (mg (dn (Pl.dotP x28 d)))]) (by kernel_rfl) rfl rfl rfl rfl rfl rfl rfl rfl rfl rfl rfl rfl rfl rfl c96 Tryz.underlying35 rfl (by kernel_rfl) rfl c97 Tryz.underlying33 rfl (by kernel_rfl) rfl rfl c94 rfl (by kernel_rfl) (by simp [Value.oneCell']) ⟨(by intro h_; cases h_), (by intro h_; cases h_), (by intro h_; cases h_), (by intro h_; cases h_), (by intro h_; cases h_)⟩ (by decide) rfl rfl c95 rfl (by kernel_rfl) (by simp [Value.oneCell']) ne99 ne100 ?_
          have ne102 : w.heap.size ≠ bq8 := by first | assumption | (simp; done) | (simp; omega) | omega | (have := c92.lt; omega)
          have ne103 : w.heap.size ≠ bq9 := by first | assumption | (simp; done) | (simp; omega) | omega | (have := c92.lt; omega)
          have c101 := (c92.off (c := bq8) (i := 0) (vs := [.bool (ng x28.1.num), .string (mg x28.1.num.natAbs), .bool false, .string (mg (dn x28.1)), .bool (ng x28.2.num), .string (mg x28.2.num.natAbs), .bool false, .string (mg (dn x28.2))]) ne102).off (c := bq9) (i := 0) (vs := [.bool (ng ((Pl.dotP x28 d).num)), .string (mg ((Pl.dotP x28 d).num).natAbs), .bool false, .string (mg (dn (Pl.dotP x28 d)))]) ne103
          have ne105 : w.heap.size + 1 ≠ bq8 := by first | assumption | (simp; done) | (simp; omega) | omega | (have := c93.lt; omega)
          have ne106 : w.heap.size + 1 ≠ bq9 := by first | assumption | (simp; done) | (simp; omega) | omega | (have := c93.lt; omega)
          have c104 := (c93.off (c := bq8) (i := 0) (vs := [.bool (ng x28.1.num), .string (mg x28.1.num.natAbs), .bool false, .string (mg (dn x28.1)), .bool (ng x28.2.num), .string (mg x28.2.num.natAbs), .bool false, .string (mg (dn x28.2))]) ne105).off (c := bq9) (i := 0) (vs := [.bool (ng ((Pl.dotP x28 d).num)), .string (mg ((Pl.dotP x28 d).num).natAbs), .bool false, .string (mg (dn (Pl.dotP x28 d)))]) ne106
          have c107 := (c94.set (vs := [.bool (ng x28.1.num), .string (mg x28.1.num.natAbs), .bool false, .string (mg (dn x28.1)), .bool (ng x28.2.num), .string (mg x28.2.num.natAbs), .bool false, .string (mg (dn x28.2))]) rfl).off (c := bq9) (i := 0) (vs := [.bool (ng ((Pl.dotP x28 d).num)), .string (mg ((Pl.dotP x28 d).num).natAbs), .bool false, .string (mg (dn (Pl.dotP x28 d)))]) (Ne.symm ne100)
          have c108 := (c95.off (c := bq8) (i := 0) (vs := [.bool (ng x28.1.num), .string (mg x28.1.num.natAbs), .bool false, .string (mg (dn x28.1)), .bool (ng x28.2.num), .string (mg x28.2.num.natAbs), .bool false, .string (mg (dn x28.2))]) ne100).set (vs := [.bool (ng ((Pl.dotP x28 d).num)), .string (mg ((Pl.dotP x28 d).num).natAbs), .bool false, .string (mg (dn (Pl.dotP x28 d)))]) rfl
          have ne110 : wr27.heap.size ≠ bq8 := by first | assumption | (simp; done) | (simp; omega) | omega | (have := c96.lt; omega)
          have ne111 : wr27.heap.size ≠ bq9 := by first | assumption | (simp; done) | (simp; omega) | omega | (have := c96.lt; omega)
          have c109 := (c96.off (c := bq8) (i := 0) (vs := [.bool (ng x28.1.num), .string (mg x28.1.num.natAbs), .bool false, .string (mg (dn x28.1)), .bool (ng x28.2.num), .string (mg x28.2.num.natAbs), .bool false, .string (mg (dn x28.2))]) ne110).off (c := bq9) (i := 0) (vs := [.bool (ng ((Pl.dotP x28 d).num)), .string (mg ((Pl.dotP x28 d).num).natAbs), .bool false, .string (mg (dn (Pl.dotP x28 d)))]) ne111
          have ne113 : w2.heap.size ≠ bq8 := by first | assumption | (simp; done) | (simp; omega) | omega | (have := c97.lt; omega)
          have ne114 : w2.heap.size ≠ bq9 := by first | assumption | (simp; done) | (simp; omega) | omega | (have := c97.lt; omega)
          have c112 := (c97.off (c := bq8) (i := 0) (vs := [.bool (ng x28.1.num), .string (mg x28.1.num.natAbs), .bool false, .string (mg (dn x28.1)), .bool (ng x28.2.num), .string (mg x28.2.num.natAbs), .bool false, .string (mg (dn x28.2))]) ne113).off (c := bq9) (i := 0) (vs := [.bool (ng ((Pl.dotP x28 d).num)), .string (mg ((Pl.dotP x28 d).num).natAbs), .bool false, .string (mg (dn (Pl.dotP x28 d)))]) ne114
          have hB115 := Below.sets (B := w.heap.size) (c := bq9) (by first | exact Nat.le_refl _ | (simp; done) | (simp; omega) | omega) [.bool (ng ((Pl.dotP x28 d).num)), .string (mg ((Pl.dotP x28 d).num).natAbs), .bool false, .string (mg (dn (Pl.dotP x28 d)))] 0 _ (Below.sets (B := w.heap.size) (c := bq8) (by first | exact Nat.le_refl _ | (simp; done) | (simp; omega) | omega) [.bool (ng x28.1.num), .string (mg x28.1.num.natAbs), .bool false, .string (mg (dn x28.1)), .bool (ng x28.2.num), .string (mg x28.2.num.natAbs), .bool false, .string (mg (dn x28.2))] 0 _ hB98)
          have hz117 : wn_91.heap.size ≤ ((wn_91.setCells bq8 0 [.bool (ng x28.1.num), .string (mg x28.1.num.natAbs), .bool false, .string (mg (dn x28.1)), .bool (ng x28.2.num), .string (mg x28.2.num.natAbs), .bool false, .string (mg (dn x28.2))]).setCells bq9 0 [.bool (ng ((Pl.dotP x28 d).num)), .string (mg ((Pl.dotP x28 d).num).natAbs), .bool false, .string (mg (dn (Pl.dotP x28 d)))]).heap.size := by rw [sets_size, sets_size]; exact Nat.le_refl _
          clear uc92 uc93 uc94 uc95 uc96 uc97 c92 c93 c94 c95 c96 c97
          generalize (wn_91.setCells bq8 0 [.bool (ng x28.1.num), .string (mg x28.1.num.natAbs), .bool false, .string (mg (dn x28.1)), .bool (ng x28.2.num), .string (mg x28.2.num.natAbs), .bool false, .string (mg (dn x28.2))]).setCells bq9 0 [.bool (ng ((Pl.dotP x28 d).num)), .string (mg ((Pl.dotP x28 d).num).natAbs), .bool false, .string (mg (dn (Pl.dotP x28 d)))] = ws116 at *
          simp only [Act.put, List.setIfInBounds_toArray, List.set_cons_zero, List.set_cons_succ]
          have uc101 := c101; have uc104 := c104; have uc107 := c107; have uc108 := c108; have uc109 := c109; have uc112 := c112
          simp only [At, Own, Nat.reduceAdd, and_true] at uc101 uc104 uc107 uc108 uc109 uc112
          go_wp2
          go_roundw
          case rel => exact ⟨(k + 1), x28, (by first | rfl | exact congrArg (Value.int .i64) (by omega) | simp [*]), (by repeat (first | with_reducible exact c101 | refine Own.far _ _ (by simp <;> omega) ?_ | with_reducible refine Own.alloc ?_ _)), (by repeat (first | with_reducible exact c104 | refine Own.far _ _ (by simp <;> omega) ?_ | with_reducible refine Own.alloc ?_ _)), (by repeat (first | with_reducible exact c107 | refine Own.far _ _ (by simp <;> omega) ?_ | with_reducible refine Own.alloc ?_ _)), (by repeat (first | with_reducible exact c108 | refine Own.far _ _ (by simp <;> omega) ?_ | with_reducible refine Own.alloc ?_ _)), (by repeat (first | with_reducible exact hB115 | with_reducible refine bel_alloc ?_ _ | refine Below.setCell ?_ (by first | (simp; done) | (simp; omega) | omega) _)), (by omega), Zhx29.out, Lib.hid (by rw [HE.out, HD.out, supp_cons2]; congr 1; simp [Pl.suppStep, Pl.lessP, HhT57.out, HhT75.out])⟩
          case measure => simp [intOf] <;> omega
        · skip
          have uc84 := c84; have uc85 := c85; have uc86 := c86; have uc87 := c87; have uc88 := c88; have uc89 := c89
          simp only [At, Own, Nat.reduceAdd, and_true] at uc84 uc85 uc86 uc87 uc88 uc89
          go_wp2
          go_roundw
          case rel => exact ⟨(k + 1), out, (by first | rfl | exact congrArg (Value.int .i64) (by omega) | simp [*]), (by repeat (first | with_reducible exact c84 | refine Own.far _ _ (by simp <;> omega) ?_ | with_reducible refine Own.alloc ?_ _)), (by repeat (first | with_reducible exact c85 | refine Own.far _ _ (by simp <;> omega) ?_ | with_reducible refine Own.alloc ?_ _)), (by repeat (first | with_reducible exact c86 | refine Own.far _ _ (by simp <;> omega) ?_ | with_reducible refine Own.alloc ?_ _)), (by repeat (first | with_reducible exact c87 | refine Own.far _ _ (by simp <;> omega) ?_ | with_reducible refine Own.alloc ?_ _)), (by repeat (first | with_reducible exact hB90 | with_reducible refine bel_alloc ?_ _ | refine Below.setCell ?_ (by first | (simp; done) | (simp; omega) | omega) _)), (by omega), hout, Lib.hid (by rw [HE.out, HD.out, supp_cons2]; congr 1; simp [Pl.suppStep, Pl.lessP, HhT57.out, HhT75.out])⟩
          case measure => simp [intOf] <;> omega
        · skip
          have uc84 := c84; have uc85 := c85; have uc86 := c86; have uc87 := c87; have uc88 := c88; have uc89 := c89
          simp only [At, Own, Nat.reduceAdd, and_true] at uc84 uc85 uc86 uc87 uc88 uc89
          go_wp2
          go_roundw
          case rel => exact ⟨(k + 1), out, (by first | rfl | exact congrArg (Value.int .i64) (by omega) | simp [*]), (by repeat (first | with_reducible exact c84 | refine Own.far _ _ (by simp <;> omega) ?_ | with_reducible refine Own.alloc ?_ _)), (by repeat (first | with_reducible exact c85 | refine Own.far _ _ (by simp <;> omega) ?_ | with_reducible refine Own.alloc ?_ _)), (by repeat (first | with_reducible exact c86 | refine Own.far _ _ (by simp <;> omega) ?_ | with_reducible refine Own.alloc ?_ _)), (by repeat (first | with_reducible exact c87 | refine Own.far _ _ (by simp <;> omega) ?_ | with_reducible refine Own.alloc ?_ _)), (by repeat (first | with_reducible exact hB90 | with_reducible refine bel_alloc ?_ _ | refine Below.setCell ?_ (by first | (simp; done) | (simp; omega) | omega) _)), (by omega), hout, Lib.hid (by rw [HE.out, HD.out, supp_cons2]; congr 1; simp [Pl.suppStep, Pl.lessP, HhT57.out, HhT75.out])⟩
          case measure => simp [intOf] <;> omega
      · skip
        go_upto_region 10 with fail
        refine wp_region_head0 0 (by kernel_rfl) (by kernel_rfl) ?_
        intro V_118 hV_118
        have vc66 := c66.up hV_118; have dc66 := fun p : Bel V_118 => vc66.bel p
        have vc67 := c67.up hV_118; have dc67 := fun p : Bel V_118 => vc67.bel p
        have vc68 := c68.up hV_118; have dc68 := fun p : Bel V_118 => vc68.bel p
        have vc69 := c69.up hV_118; have dc69 := fun p : Bel V_118 => vc69.bel p
        have vc70 := c70.up hV_118; have dc70 := fun p : Bel V_118 => vc70.bel p
        have vc71 := c71.up hV_118; have dc71 := fun p : Bel V_118 => vc71.bel p
        simp only [At, Own, Nat.reduceAdd, and_true] at dc66 dc67 dc68 dc69 dc70 dc71
        simp only [List.map_cons, List.map_nil, maskOp, List.take_succ_cons, List.take_zero]
        repeat (go_big_quiet_step (fail))
        refine wpQuiet_nil ?_
        intro wn_118 hbn_118
        clear dc71 vc71 dc70 vc70 dc69 vc69 dc68 vc68 dc67 vc67 dc66 vc66 hV_118 V_118
        have c119 := c66.up hbn_118
        have c120 := c67.up hbn_118
        have c121 := c68.up hbn_118
        have c122 := c69.up hbn_118
        have c123 := c70.up hbn_118
        have c124 := c71.up hbn_118
        have hB125 : Below w.heap.size w wn_118 := bel_up hB72 hbn_118
        clear c66 c67 c68 c69 c70 c71
        have uc119 := c119; have uc120 := c120; have uc121 := c121; have uc122 := c122; have uc123 := c123; have uc124 := c124
        simp only [At, Own, Nat.reduceAdd, and_true] at uc119 uc120 uc121 uc122 uc123 uc124
        have ne126 : w2.heap.size ≠ bq8 := by first | assumption | (simp; done) | (simp; omega) | omega | (have := c124.lt; omega)
        have ne127 : bq9 ≠ bq8 := by first | assumption | (simp; done) | (simp; omega) | omega | (have := c122.lt; omega)
        refine tail_swap4 (cs1 := [.bool (ng x28.1.num), .string (mg x28.1.num.natAbs), .bool false, .string (mg (dn x28.1)), .bool (ng x28.2.num), .string (mg x28.2.num.natAbs), .bool false, .string (mg (dn x28.2))]) (cs2 := [.bool (ng ((Pl.dotP x28 d).num)), .string (mg ((Pl.dotP x28 d).num).natAbs), .bool false, .string (mg (dn (Pl.dotP x28 d)))]) (by kernel_rfl) rfl rfl rfl rfl rfl rfl rfl rfl rfl rfl rfl rfl rfl rfl c123 Tryz.underlying35 rfl (by kernel_rfl) rfl c124 Tryz.underlying33 rfl (by kernel_rfl) rfl rfl c121 rfl (by kernel_rfl) (by simp [Value.oneCell']) ⟨(by intro h_; cases h_), (by intro h_; cases h_), (by intro h_; cases h_), (by intro h_; cases h_), (by intro h_; cases h_)⟩ (by decide) rfl rfl c122 rfl (by kernel_rfl) (by simp [Value.oneCell']) ne126 ne127 ?_
        have ne129 : w.heap.size ≠ bq8 := by first | assumption | (simp; done) | (simp; omega) | omega | (have := c119.lt; omega)
        have ne130 : w.heap.size ≠ bq9 := by first | assumption | (simp; done) | (simp; omega) | omega | (have := c119.lt; omega)
        have c128 := (c119.off (c := bq8) (i := 0) (vs := [.bool (ng x28.1.num), .string (mg x28.1.num.natAbs), .bool false, .string (mg (dn x28.1)), .bool (ng x28.2.num), .string (mg x28.2.num.natAbs), .bool false, .string (mg (dn x28.2))]) ne129).off (c := bq9) (i := 0) (vs := [.bool (ng ((Pl.dotP x28 d).num)), .string (mg ((Pl.dotP x28 d).num).natAbs), .bool false, .string (mg (dn (Pl.dotP x28 d)))]) ne130
        have ne132 : w.heap.size + 1 ≠ bq8 := by first | assumption | (simp; done) | (simp; omega) | omega | (have := c120.lt; omega)
        have ne133 : w.heap.size + 1 ≠ bq9 := by first | assumption | (simp; done) | (simp; omega) | omega | (have := c120.lt; omega)
        have c131 := (c120.off (c := bq8) (i := 0) (vs := [.bool (ng x28.1.num), .string (mg x28.1.num.natAbs), .bool false, .string (mg (dn x28.1)), .bool (ng x28.2.num), .string (mg x28.2.num.natAbs), .bool false, .string (mg (dn x28.2))]) ne132).off (c := bq9) (i := 0) (vs := [.bool (ng ((Pl.dotP x28 d).num)), .string (mg ((Pl.dotP x28 d).num).natAbs), .bool false, .string (mg (dn (Pl.dotP x28 d)))]) ne133
        have c134 := (c121.set (vs := [.bool (ng x28.1.num), .string (mg x28.1.num.natAbs), .bool false, .string (mg (dn x28.1)), .bool (ng x28.2.num), .string (mg x28.2.num.natAbs), .bool false, .string (mg (dn x28.2))]) rfl).off (c := bq9) (i := 0) (vs := [.bool (ng ((Pl.dotP x28 d).num)), .string (mg ((Pl.dotP x28 d).num).natAbs), .bool false, .string (mg (dn (Pl.dotP x28 d)))]) (Ne.symm ne127)
        have c135 := (c122.off (c := bq8) (i := 0) (vs := [.bool (ng x28.1.num), .string (mg x28.1.num.natAbs), .bool false, .string (mg (dn x28.1)), .bool (ng x28.2.num), .string (mg x28.2.num.natAbs), .bool false, .string (mg (dn x28.2))]) ne127).set (vs := [.bool (ng ((Pl.dotP x28 d).num)), .string (mg ((Pl.dotP x28 d).num).natAbs), .bool false, .string (mg (dn (Pl.dotP x28 d)))]) rfl
        have ne137 : wr27.heap.size ≠ bq8 := by first | assumption | (simp; done) | (simp; omega) | omega | (have := c123.lt; omega)
        have ne138 : wr27.heap.size ≠ bq9 := by first | assumption | (simp; done) | (simp; omega) | omega | (have := c123.lt; omega)
        have c136 := (c123.off (c := bq8) (i := 0) (vs := [.bool (ng x28.1.num), .string (mg x28.1.num.natAbs), .bool false, .string (mg (dn x28.1)), .bool (ng x28.2.num), .string (mg x28.2.num.natAbs), .bool false, .string (mg (dn x28.2))]) ne137).off (c := bq9) (i := 0) (vs := [.bool (ng ((Pl.dotP x28 d).num)), .string (mg ((Pl.dotP x28 d).num).natAbs), .bool false, .string (mg (dn (Pl.dotP x28 d)))]) ne138
        have ne140 : w2.heap.size ≠ bq8 := by first | assumption | (simp; done) | (simp; omega) | omega | (have := c124.lt; omega)
        have ne141 : w2.heap.size ≠ bq9 := by first | assumption | (simp; done) | (simp; omega) | omega | (have := c124.lt; omega)
        have c139 := (c124.off (c := bq8) (i := 0) (vs := [.bool (ng x28.1.num), .string (mg x28.1.num.natAbs), .bool false, .string (mg (dn x28.1)), .bool (ng x28.2.num), .string (mg x28.2.num.natAbs), .bool false, .string (mg (dn x28.2))]) ne140).off (c := bq9) (i := 0) (vs := [.bool (ng ((Pl.dotP x28 d).num)), .string (mg ((Pl.dotP x28 d).num).natAbs), .bool false, .string (mg (dn (Pl.dotP x28 d)))]) ne141
        have hB142 := Below.sets (B := w.heap.size) (c := bq9) (by first | exact Nat.le_refl _ | (simp; done) | (simp; omega) | omega) [.bool (ng ((Pl.dotP x28 d).num)), .string (mg ((Pl.dotP x28 d).num).natAbs), .bool false, .string (mg (dn (Pl.dotP x28 d)))] 0 _ (Below.sets (B := w.heap.size) (c := bq8) (by first | exact Nat.le_refl _ | (simp; done) | (simp; omega) | omega) [.bool (ng x28.1.num), .string (mg x28.1.num.natAbs), .bool false, .string (mg (dn x28.1)), .bool (ng x28.2.num), .string (mg x28.2.num.natAbs), .bool false, .string (mg (dn x28.2))] 0 _ hB125)
        have hz144 : wn_118.heap.size ≤ ((wn_118.setCells bq8 0 [.bool (ng x28.1.num), .string (mg x28.1.num.natAbs), .bool false, .string (mg (dn x28.1)), .bool (ng x28.2.num), .string (mg x28.2.num.natAbs), .bool false, .string (mg (dn x28.2))]).setCells bq9 0 [.bool (ng ((Pl.dotP x28 d).num)), .string (mg ((Pl.dotP x28 d).num).natAbs), .bool false, .string (mg (dn (Pl.dotP x28 d)))]).heap.size := by rw [sets_size, sets_size]; exact Nat.le_refl _
        clear uc119 uc120 uc121 uc122 uc123 uc124 c119 c120 c121 c122 c123 c124
        generalize (wn_118.setCells bq8 0 [.bool (ng x28.1.num), .string (mg x28.1.num.natAbs), .bool false, .string (mg (dn x28.1)), .bool (ng x28.2.num), .string (mg x28.2.num.natAbs), .bool false, .string (mg (dn x28.2))]).setCells bq9 0 [.bool (ng ((Pl.dotP x28 d).num)), .string (mg ((Pl.dotP x28 d).num).natAbs), .bool false, .string (mg (dn (Pl.dotP x28 d)))] = ws143 at *
        simp only [Act.put, List.setIfInBounds_toArray, List.set_cons_zero, List.set_cons_succ]
        have uc128 := c128; have uc131 := c131; have uc134 := c134; have uc135 := c135; have uc136 := c136; have uc139 := c139
        simp only [At, Own, Nat.reduceAdd, and_true] at uc128 uc131 uc134 uc135 uc136 uc139
        go_wp2
        go_roundw
        case rel => exact ⟨(k + 1), x28, (by first | rfl | exact congrArg (Value.int .i64) (by omega) | simp [*]), (by repeat (first | with_reducible exact c128 | refine Own.far _ _ (by simp <;> omega) ?_ | with_reducible refine Own.alloc ?_ _)), (by repeat (first | with_reducible exact c131 | refine Own.far _ _ (by simp <;> omega) ?_ | with_reducible refine Own.alloc ?_ _)), (by repeat (first | with_reducible exact c134 | refine Own.far _ _ (by simp <;> omega) ?_ | with_reducible refine Own.alloc ?_ _)), (by repeat (first | with_reducible exact c135 | refine Own.far _ _ (by simp <;> omega) ?_ | with_reducible refine Own.alloc ?_ _)), (by repeat (first | with_reducible exact hB142 | with_reducible refine bel_alloc ?_ _ | refine Below.setCell ?_ (by first | (simp; done) | (simp; omega) | omega) _)), (by omega), Zhx29.out, Lib.hid (by rw [HE.out, HD.out, supp_cons2]; congr 1; simp [Pl.suppStep, Pl.lessP, HhT57.out])⟩
        case measure => simp [intOf] <;> omega
    · skip
      have hkN : M = k := by omega
      subst hkN
      have HD : Hid (m.drop M = []) := Lib.hid (List.drop_eq_nil_of_le (by rw [HNM.out]; exact Nat.le_refl _))
      have ub22 := b22; have ub23 := b23; have ub24 := b24; have ub25 := b25
      simp only [At, Own, Nat.reduceAdd, and_true] at ub22 ub23 ub24 ub25
      go_wp2
      refine bodyPost_ret (v := .tuple #[.agg #[.bool (ng out.1.num), .string (mg out.1.num.natAbs), .bool false, .string (mg (dn out.1)), .bool (ng out.2.num), .string (mg out.2.num.natAbs), .bool false, .string (mg (dn out.2))], .int .i64 0]) (by simp [results, Tryz.results27, go_sem, ub22, ub23, ub24, ub25]) rfl ⟨(by rw [HE.out, HD.out] <;> rfl), ?_⟩
      repeat (first | with_reducible exact hB26 | with_reducible refine bel_alloc ?_ _ | refine Below.setCell ?_ (by first | (simp; done) | (simp; omega) | omega) _)
set_option maxRecDepth 100000 in
set_option maxHeartbeats 4000000 in
theorem csupp_one {S : Nat} (A : Option Addr) (c : Nat) (d a : Rat × Rat) (w : World) (hx : LX CE 8 w A [a]) (hsa : Pl.SzP S a) (hc : 1 ≤ c) (hS : S ≤ 100000) (hd : Pl.SzP S d) (hc1 : 1 < c) :
    Calls Tryz.prog 27 #[.slice A 1 c, pv d] w fun e w' => e = .returned (.tuple #[pv a, .int .i64 0]) ∧ Below w.heap.size w w' := by
  have HX := Lib.hid hx
  have H0 : Hid ([a][0]? = some a) := Lib.hid rfl
  clear hx
  obtain ⟨g, o, hA, -⟩ := HX.out _ _ H0.out
  subst hA
  have j4 : (1 : Int) ≤ c := by omega
  have j5 : ¬ c = 1 := by omega
  have hgw : g < w.heap.size := World.block_lt_of_cell? _ _ (LX.at_ HX.out H0.out).1
  go_enter Tryz.func27, Tryz.ntmps27
  have ne1_ : g < w.heap.size := by omega
  have ne1 := Nat.ne_of_lt ne1_
  have ne1' := ne1.symm
  have ne2_ : g < w.heap.size + 1 := by omega
  have ne2 := Nat.ne_of_lt ne2_
  have ne2' := ne2.symm
  go_upto_region 3 with fail
  refine wp_named ?_
  intro W1 hW1
  have hL1 : Below w.heap.size w W1 := by
    rw [hW1]
    repeat (first | with_reducible exact Below.refl _ _ | with_reducible refine bel_alloc ?_ _ | refine Below.setCell ?_ (by first | (simp; done) | (simp; omega) | omega) _)
  have c3 : Own W1 (w.heap.size) 0 [.bool (ng d.1.num), .string (mg d.1.num.natAbs), .bool false, .string (mg (dn d.1)), .bool (ng d.2.num), .string (mg d.2.num.natAbs), .bool false, .string (mg (dn d.2))] := by
    rw [hW1]
    first
    | (repeat (first | (with_reducible refine own_new (l := [.bool (ng d.1.num), .string (mg d.1.num.natAbs), .bool false, .string (mg (dn d.1)), .bool (ng d.2.num), .string (mg d.2.num.natAbs), .bool false, .string (mg (dn d.2))]) ?_; (simp; done)) | with_reducible refine Own.alloc ?_ _ | refine Own.far _ _ (by first | (simp; done) | (simp [*]; done) | (simp; omega)) ?_)); done
    | simp [Own, go_sem, ne1, ne1', ne1_, ne2, ne2', ne2_]
  have c4 : Own W1 (w.heap.size + 1) 0 [.bool false, .string ⟨#[]⟩, .bool false, .string ⟨#[]⟩, .bool false, .string ⟨#[]⟩, .bool false, .string ⟨#[]⟩] := by
    rw [hW1]
    first
    | (repeat (first | (with_reducible refine own_new (l := [.bool false, .string ⟨#[]⟩, .bool false, .string ⟨#[]⟩, .bool false, .string ⟨#[]⟩, .bool false, .string ⟨#[]⟩]) ?_; (simp; done)) | with_reducible refine Own.alloc ?_ _ | refine Own.far _ _ (by first | (simp; done) | (simp [*]; done) | (simp; omega)) ?_)); done
    | simp [Own, go_sem, ne1, ne1', ne1_, ne2, ne2', ne2_]
  have hB5 : Below w.heap.size w W1 := by
    rw [hW1]
    repeat (first | with_reducible exact Below.refl _ _ | with_reducible refine bel_alloc ?_ _ | refine Below.setCell ?_ (by first | (simp; done) | (simp; omega) | omega) _)
  clear hW1 hL1
  have K7 := Lib.hid (fun W => pdot_any a d W hsa hd (by omega) (by omega))
  have ce10 := LX.at_ ((HX.out).up kpP hB5) H0.out
  have ce10_ : g < W1.heap.size := World.block_lt_of_cell? _ _ ce10.1
  refine wp_region_new2 10 8 6 9 7 [.bool false, .string ⟨#[]⟩, .bool false, .string ⟨#[]⟩, .bool false, .string ⟨#[]⟩, .bool false, .string ⟨#[]⟩] [.bool false, .string ⟨#[]⟩, .bool false, .string ⟨#[]⟩] 35 33 (by kernel_rfl) (by kernel_rfl) rfl rfl rfl rfl rfl rfl rfl ⟨(by intro h_; cases h_), (by intro h_; cases h_), (by intro h_; cases h_), (by intro h_; cases h_)⟩ (by simp) (by simp) (run_alloc_zero Tryz.zeroValue35 rfl) (by kernel_rfl) (run_alloc_zero Tryz.zeroValue33 rfl) (by kernel_rfl) ?_
  intro V_6 hV_6
  have vc3 := c3.up hV_6; have dc3 := fun p : Bel V_6 => vc3.bel p
  have vc4 := c4.up hV_6; have dc4 := fun p : Bel V_6 => vc4.bel p
  simp only [At, Own, Nat.reduceAdd, and_true] at dc3 dc4
  have vce10 := ce10.up hV_6; have dce10 := fun b : Bel V_6 => vce10.bel b
  simp only [CE, Nat.reduceMul, Nat.zero_mul, Nat.add_zero, Nat.add_assoc, Nat.reduceAdd] at dce10
  have hBV_6 := bel_up hB5 hV_6
  simp only [List.map_cons, List.map_nil, maskOp, List.take_succ_cons, List.take_zero]
  repeat (go_big_quiet_step (first | (go_at_call 63; with_reducible exact Calls.bel (K7.out _))))
  refine wpQuiet_nil ?_
  refine ⟨[.bool (ng a.1.num), .string (mg a.1.num.natAbs), .bool false, .string (mg (dn a.1)), .bool (ng a.2.num), .string (mg a.2.num.natAbs), .bool false, .string (mg (dn a.2))], [.bool (ng ((Pl.dotP a d).num)), .string (mg ((Pl.dotP a d).num).natAbs), .bool false, .string (mg (dn (Pl.dotP a d)))], rfl, rfl, by simp [Value.oneCell'], rfl, rfl, by simp [Value.oneCell'], ?_⟩
  intro bq8 bq9 wn_6 hbn_6 lbq8 mbq8 lbq9 mbq9 nbq8 c11 c12
  have nbq8' := nbq8.symm
  simp only [Act.put, List.setIfInBounds_toArray, List.set_cons_zero, List.set_cons_succ]
  have ne13 : w.heap.size ≠ bq8 := by have := c3.lt; omega
  have ne13' := ne13.symm
  have ne14 : w.heap.size + 1 ≠ bq8 := by have := c4.lt; omega
  have ne14' := ne14.symm
  have ne15 : g ≠ bq8 := by omega
  have ne15' := ne15.symm
  have wbq8 := Nat.le_trans hB5.size lbq8
  have ne16 : w.heap.size ≠ bq9 := by have := c3.lt; omega
  have ne16' := ne16.symm
  have ne17 : w.heap.size + 1 ≠ bq9 := by have := c4.lt; omega
  have ne17' := ne17.symm
  have ne18 : g ≠ bq9 := by omega
  have ne18' := ne18.symm
  have wbq9 := Nat.le_trans hB5.size lbq9
  clear hBV_6 dce10 vce10 dc4 vc4 dc3 vc3 hV_6 V_6
  have c19 := c3.up hbn_6
  have c20 := c4.up hbn_6
  have hB21 : Below w.heap.size w wn_6 := bel_up hB5 hbn_6
  clear c3 c4
  go_wp2_with fail
  go_loopw [27] (fun s27 wr => s27 = .int .i64 0 ∧ Own wr (w.heap.size) 0 [.bool (ng d.1.num), .string (mg d.1.num.natAbs), .bool false, .string (mg (dn d.1)), .bool (ng d.2.num), .string (mg d.2.num.natAbs), .bool false, .string (mg (dn d.2))] ∧ Own wr (w.heap.size + 1) 0 [.bool false, .string ⟨#[]⟩, .bool false, .string ⟨#[]⟩, .bool false, .string ⟨#[]⟩, .bool false, .string ⟨#[]⟩] ∧ Own wr (bq8) 0 [.bool (ng a.1.num), .string (mg a.1.num.natAbs), .bool false, .string (mg (dn a.1)), .bool (ng a.2.num), .string (mg a.2.num.natAbs), .bool false, .string (mg (dn a.2))] ∧ Own wr (bq9) 0 [.bool (ng ((Pl.dotP a d).num)), .string (mg ((Pl.dotP a d).num).natAbs), .bool false, .string (mg (dn (Pl.dotP a d)))] ∧ Below w.heap.size w wr) (fun _ _ => 0)
  case atStart => exact ⟨rfl, c19, c20, c11, c12, hB21⟩
  case round =>
    clear c19 c20 c11 c12 hB21
    obtain ⟨rfl, b22, b23, b24, b25, hB26⟩ := hrel
    obtain ⟨wr27, hwr27⟩ : ∃ W_, W_ = wr := ⟨_, rfl⟩
    subst hwr27
    have ub22 := b22; have ub23 := b23; have ub24 := b24; have ub25 := b25
    simp only [At, Own, Nat.reduceAdd, and_true] at ub22 ub23 ub24 ub25
    go_wp2
    refine bodyPost_ret (v := .tuple #[.agg #[.bool (ng a.1.num), .string (mg a.1.num.natAbs), .bool false, .string (mg (dn a.1)), .bool (ng a.2.num), .string (mg a.2.num.natAbs), .bool false, .string (mg (dn a.2))], .int .i64 0]) (by simp [results, Tryz.results27, go_sem, ub22, ub23, ub24, ub25]) rfl ⟨rfl, ?_⟩
    repeat (first | with_reducible exact hB26 | with_reducible refine bel_alloc ?_ _ | refine Below.setCell ?_ (by first | (simp; done) | (simp; omega) | omega) _)
set_option maxRecDepth 100000 in
set_option maxHeartbeats 4000000 in
theorem csupp_one1 {S : Nat} (A : Option Addr) (c : Nat) (d a : Rat × Rat) (w : World) (hx : LX CE 8 w A [a]) (hsa : Pl.SzP S a) (hc : 1 ≤ c) (hS : S ≤ 100000) (hd : Pl.SzP S d) (hc1 : c = 1) :
    Calls Tryz.prog 27 #[.slice A 1 c, pv d] w fun e w' => e = .returned (.tuple #[pv a, .int .i64 0]) ∧ Below w.heap.size w w' := by
  have HX := Lib.hid hx
  have H0 : Hid ([a][0]? = some a) := Lib.hid rfl
  clear hx
  obtain ⟨g, o, hA, -⟩ := HX.out _ _ H0.out
  subst hA
  subst hc1
  have hgw : g < w.heap.size := World.block_lt_of_cell? _ _ (LX.at_ HX.out H0.out).1
  go_enter Tryz.func27, Tryz.ntmps27
  have ne1_ : g < w.heap.size := by omega
  have ne1 := Nat.ne_of_lt ne1_
  have ne1' := ne1.symm
  have ne2_ : g < w.heap.size + 1 := by omega
  have ne2 := Nat.ne_of_lt ne2_
  have ne2' := ne2.symm
  go_upto_region 3 with fail
  refine wp_named ?_
  intro W1 hW1
  have hL1 : Below w.heap.size w W1 := by
    rw [hW1]
    repeat (first | with_reducible exact Below.refl _ _ | with_reducible refine bel_alloc ?_ _ | refine Below.setCell ?_ (by first | (simp; done) | (simp; omega) | omega) _)
  have c3 : Own W1 (w.heap.size) 0 [.bool (ng d.1.num), .string (mg d.1.num.natAbs), .bool false, .string (mg (dn d.1)), .bool (ng d.2.num), .string (mg d.2.num.natAbs), .bool false, .string (mg (dn d.2))] := by
    rw [hW1]
    first
    | (repeat (first | (with_reducible refine own_new (l := [.bool (ng d.1.num), .string (mg d.1.num.natAbs), .bool false, .string (mg (dn d.1)), .bool (ng d.2.num), .string (mg d.2.num.natAbs), .bool false, .string (mg (dn d.2))]) ?_; (simp; done)) | with_reducible refine Own.alloc ?_ _ | refine Own.far _ _ (by first | (simp; done) | (simp [*]; done) | (simp; omega)) ?_)); done
    | simp [Own, go_sem, ne1, ne1', ne1_, ne2, ne2', ne2_]
  have c4 : Own W1 (w.heap.size + 1) 0 [.bool false, .string ⟨#[]⟩, .bool false, .string ⟨#[]⟩, .bool false, .string ⟨#[]⟩, .bool false, .string ⟨#[]⟩] := by
    rw [hW1]
    first
    | (repeat (first | (with_reducible refine own_new (l := [.bool false, .string ⟨#[]⟩, .bool false, .string ⟨#[]⟩, .bool false, .string ⟨#[]⟩, .bool false, .string ⟨#[]⟩]) ?_; (simp; done)) | with_reducible refine Own.alloc ?_ _ | refine Own.far _ _ (by first | (simp; done) | (simp [*]; done) | (simp; omega)) ?_)); done
    | simp [Own, go_sem, ne1, ne1', ne1_, ne2, ne2', ne2_]
  have hB5 : Below w.heap.size w W1 := by
    rw [hW1]
    repeat (first | with_reducible exact Below.refl _ _ | with_reducible refine bel_alloc ?_ _ | refine Below.setCell ?_ (by first | (simp; done) | (simp; omega) | omega) _)
  clear hW1 hL1
  have K7 := Lib.hid (fun W => pdot_any a d W hsa hd (by omega) (by omega))
  have ce10 := LX.at_ ((HX.out).up kpP hB5) H0.out
  have ce10_ : g < W1.heap.size := World.block_lt_of_cell? _ _ ce10.1
  refine wp_region_new2 10 8 6 9 7 [.bool false, .string ⟨#[]⟩, .bool false, .string ⟨#[]⟩, .bool false, .string ⟨#[]⟩, .bool false, .string ⟨#[]⟩] [.bool false, .string ⟨#[]⟩, .bool false, .string ⟨#[]⟩] 35 33 (by kernel_rfl) (by kernel_rfl) rfl rfl rfl rfl rfl rfl rfl ⟨(by intro h_; cases h_), (by intro h_; cases h_), (by intro h_; cases h_), (by intro h_; cases h_)⟩ (by simp) (by simp) (run_alloc_zero Tryz.zeroValue35 rfl) (by kernel_rfl) (run_alloc_zero Tryz.zeroValue33 rfl) (by kernel_rfl) ?_
  intro V_6 hV_6
  have vc3 := c3.up hV_6; have dc3 := fun p : Bel V_6 => vc3.bel p
  have vc4 := c4.up hV_6; have dc4 := fun p : Bel V_6 => vc4.bel p
  simp only [At, Own, Nat.reduceAdd, and_true] at dc3 dc4
  have vce10 := ce10.up hV_6; have dce10 := fun b : Bel V_6 => vce10.bel b
  simp only [CE, Nat.reduceMul, Nat.zero_mul, Nat.add_zero, Nat.add_assoc, Nat.reduceAdd] at dce10
  have hBV_6 := bel_up hB5 hV_6
  simp only [List.map_cons, List.map_nil, maskOp, List.take_succ_cons, List.take_zero]
  repeat (go_big_quiet_step (first | (go_at_call 63; with_reducible exact Calls.bel (K7.out _))))
  refine wpQuiet_nil ?_
  refine ⟨[.bool (ng a.1.num), .string (mg a.1.num.natAbs), .bool false, .string (mg (dn a.1)), .bool (ng a.2.num), .string (mg a.2.num.natAbs), .bool false, .string (mg (dn a.2))], [.bool (ng ((Pl.dotP a d).num)), .string (mg ((Pl.dotP a d).num).natAbs), .bool false, .string (mg (dn (Pl.dotP a d)))], rfl, rfl, by simp [Value.oneCell'], rfl, rfl, by simp [Value.oneCell'], ?_⟩
  intro bq8 bq9 wn_6 hbn_6 lbq8 mbq8 lbq9 mbq9 nbq8 c11 c12
  have nbq8' := nbq8.symm
  simp only [Act.put, List.setIfInBounds_toArray, List.set_cons_zero, List.set_cons_succ]
  have ne13 : w.heap.size ≠ bq8 := by have := c3.lt; omega
  have ne13' := ne13.symm
  have ne14 : w.heap.size + 1 ≠ bq8 := by have := c4.lt; omega
  have ne14' := ne14.symm
  have ne15 : g ≠ bq8 := by omega
  have ne15' := ne15.symm
  have wbq8 := Nat.le_trans hB5.size lbq8
  have ne16 : w.heap.size ≠ bq9 := by have := c3.lt; omega
  have ne16' := ne16.symm
  have ne17 : w.heap.size + 1 ≠ bq9 := by have := c4.lt; omega
  have ne17' := ne17.symm
  have ne18 : g ≠ bq9 := by omega
  have ne18' := ne18.symm
  have wbq9 := Nat.le_trans hB5.size lbq9
  clear hBV_6 dce10 vce10 dc4 vc4 dc3 vc3 hV_6 V_6
  have c19 := c3.up hbn_6
  have c20 := c4.up hbn_6
  have hB21 : Below w.heap.size w wn_6 := bel_up hB5 hbn_6
  clear c3 c4
  go_wp2_with fail
  go_loopw [27] (fun s27 wr => s27 = .int .i64 0 ∧ Own wr (w.heap.size) 0 [.bool (ng d.1.num), .string (mg d.1.num.natAbs), .bool false, .string (mg (dn d.1)), .bool (ng d.2.num), .string (mg d.2.num.natAbs), .bool false, .string (mg (dn d.2))] ∧ Own wr (w.heap.size + 1) 0 [.bool false, .string ⟨#[]⟩, .bool false, .string ⟨#[]⟩, .bool false, .string ⟨#[]⟩, .bool false, .string ⟨#[]⟩] ∧ Own wr (bq8) 0 [.bool (ng a.1.num), .string (mg a.1.num.natAbs), .bool false, .string (mg (dn a.1)), .bool (ng a.2.num), .string (mg a.2.num.natAbs), .bool false, .string (mg (dn a.2))] ∧ Own wr (bq9) 0 [.bool (ng ((Pl.dotP a d).num)), .string (mg ((Pl.dotP a d).num).natAbs), .bool false, .string (mg (dn (Pl.dotP a d)))] ∧ Below w.heap.size w wr) (fun _ _ => 0)
  case atStart => exact ⟨rfl, c19, c20, c11, c12, hB21⟩
  case round =>
    clear c19 c20 c11 c12 hB21
    obtain ⟨rfl, b22, b23, b24, b25, hB26⟩ := hrel
    obtain ⟨wr27, hwr27⟩ : ∃ W_, W_ = wr := ⟨_, rfl⟩
    subst hwr27
    have ub22 := b22; have ub23 := b23; have ub24 := b24; have ub25 := b25
    simp only [At, Own, Nat.reduceAdd, and_true] at ub22 ub23 ub24 ub25
    go_wp2
    refine bodyPost_ret (v := .tuple #[.agg #[.bool (ng a.1.num), .string (mg a.1.num.natAbs), .bool false, .string (mg (dn a.1)), .bool (ng a.2.num), .string (mg a.2.num.natAbs), .bool false, .string (mg (dn a.2))], .int .i64 0]) (by simp [results, Tryz.results27, go_sem, ub22, ub23, ub24, ub25]) rfl ⟨rfl, ?_⟩
    repeat (first | with_reducible exact hB26 | with_reducible refine bel_alloc ?_ _ | refine Below.setCell ?_ (by first | (simp; done) | (simp; omega) | omega) _)
set_option maxRecDepth 100000 in
theorem csupp_none (A : Option Addr) (c : Nat) (d : Rat × Rat) (w : World) :
    Calls Tryz.prog 27 #[.slice A 0 c, pv d] w fun e w' => e = .returned (.tuple #[pv ((0 : Rat), (0 : Rat)), .int .i64 10]) ∧ Below w.heap.size w w' := by
  go_enter Tryz.func27, Tryz.ntmps27
  go_wp2
  refine bodyPost_ret (v := .tuple #[.agg #[.bool false, .string ⟨#[]⟩, .bool false, .string ⟨#[]⟩, .bool false, .string ⟨#[]⟩, .bool false, .string ⟨#[]⟩], .int .i64 10]) (by simp [results, Tryz.results27, go_sem, ]) rfl ⟨rfl, ?_⟩
  repeat (first | with_reducible exact Below.refl _ _ | with_reducible refine bel_alloc ?_ _ | refine Below.setCell ?_ (by first | (simp; done) | (simp; omega) | omega) _)
theorem csupp_any {S : Nat} (v : Value) (l : List (Rat × Rat)) (d : Rat × Rat) (w : World) (h : PV w v l) (hs : ∀ q ∈ l, Pl.SzP S q) (hn : l.length ≤ 1000000) (hS : S ≤ 100000) (hd : Pl.SzP S d) :
    Calls Tryz.prog 27 #[v, pv d] w fun e w' => e = .returned (.tuple #[pv (match l with | [] => (0, 0) | a :: _ => Pl.supp l d a), .int .i64 (match l with | [] => 10 | _ => 0)]) ∧ Below w.heap.size w w' := by
  match l, h, hs, hn with
  | [], h, hs, hn =>
    obtain ⟨A, c, rfl, _⟩ := h.open_
    exact csupp_none A c d w
  | [a], h, hs, hn =>
    obtain ⟨A, c, rfl, hc, hm, hx⟩ := h.open1
    have e : Pl.supp [a] d a = a := by simp [Pl.supp, Pl.suppStep, Pl.less_irrefl]
    simp only [e]
    by_cases h1 : c = 1
    · exact csupp_one1 A c d a w hx (hs a (by simp)) hc hS hd h1
    · exact csupp_one A c d a w hx (hs a (by simp)) hc hS hd (by omega)
  | a :: b :: l, h, hs, hn => exact csupp_two v _ d a w h hs hn hS hd rfl (by simp)
end Go.Proofs.YtdkkjfnpinckjaaGreatDoor
