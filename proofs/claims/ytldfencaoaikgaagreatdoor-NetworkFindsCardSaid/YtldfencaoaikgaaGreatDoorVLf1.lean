/-
  The law Finds.
-/
import Derived.Test.YtldfencaoaikgaaGreatDoorVNi
set_option linter.unusedSimpArgs false
set_option linter.unusedVariables false
namespace Go.Proofs.YtldfencaoaikgaaGreatDoor
open Go Go.RowKit Nw

set_option maxRecDepth 100000 in
set_option maxHeartbeats 4000000 in
theorem finds_any (sp : List St) (la : List La) (id : Int) (v : Value) (w : World) (h : GV w v sp la) (hu : GU sp la) :
    Calls Tryz.prog 7 #[v, .int .i64 id] w fun e w' => e = .returned (.bool true) ∧ Below w.heap.size w w' := by
  obtain ⟨_, _, rfl, ha, hb⟩ := h
  obtain ⟨As, cs, rfl, hcs, hms, hxs⟩ := ha.open_
  obtain ⟨Al, cl, rfl, hcl, hml, hxl⟩ := hb.open_
  have HGV : Hid (GV w (.agg #[.slice As sp.length cs, .slice Al la.length cl]) sp la) := Lib.hid ⟨_, _, rfl, ha, hb⟩
  have HU := Lib.hid hu
  clear ha hb hxs hxl hcs hms hcl hml hu
  go_enter Tryz.func7, Tryz.ntmps7
  go_wp2_with (fail)
  refine calls_named ?_
  intro W1 hW1
  have hL1 : Below w.heap.size w W1 := by
    rw [hW1]
    repeat (first | with_reducible exact Below.refl _ _ | with_reducible refine bel_alloc ?_ _ | refine Below.setCell ?_ (by first | (simp; done) | (simp; omega) | omega) _)
  have c1 : Own W1 (w.heap.size) 0 [.slice As sp.length cs, .slice Al la.length cl] := by
    rw [hW1]
    first
    | (repeat (first | (with_reducible refine own_new (l := [.slice As sp.length cs, .slice Al la.length cl]) ?_; (simp; done)) | with_reducible refine Own.alloc ?_ _ | refine Own.far _ _ (by first | (simp; done) | (simp [*]; done) | (simp; omega)) ?_)); done
    | simp [Own, go_sem]
  have hB2 : Below w.heap.size w W1 := by
    rw [hW1]
    repeat (first | with_reducible exact Below.refl _ _ | with_reducible refine bel_alloc ?_ _ | refine Below.setCell ?_ (by first | (simp; done) | (simp; omega) | omega) _)
  clear hW1 hL1
  with_reducible refine (net_any sp la _ _ (HGV.out.up hB2) HU.out).mono ?_
  rintro e w1 ⟨v1, N, rfl, hv1, hok, hb1⟩
  have c3 := c1.up hb1
  have hB4 : Below w.heap.size w w1 := bel_up hB2 hb1
  clear c1
  obtain ⟨va, vb, rfl, hn, hr⟩ := hv1
  obtain ⟨An, cn, rfl, hcn, hmn, hxn⟩ := hn.open_
  obtain ⟨Ar, cr, rfl, hcr, hmr, hxr⟩ := hr.open_
  have HNV1 : Hid (NV w1 (.agg #[.slice An N.ns.length cn, .slice Ar N.rs.length cr]) N) := Lib.hid ⟨_, _, rfl, hn, hr⟩
  generalize hNn : N.ns.length = Nn at *
  generalize hNr : N.rs.length = Nr at *
  clear hn hr hxn hxr
  have an5 : w1.heap.size ≤ w1.heap.size := by omega
  have ne6_ : w.heap.size < w1.heap.size := by have := c3.lt; omega
  have ne6 := Nat.ne_of_lt ne6_
  have ne6' := ne6.symm
  go_upto_region 2 with fail
  refine wp_named ?_
  intro W2 hW2
  have hL2 : Below w1.heap.size w1 W2 := by
    rw [hW2]
    repeat (first | with_reducible exact Below.refl _ _ | with_reducible refine bel_alloc ?_ _ | refine Below.setCell ?_ (by first | (simp; done) | (simp; omega) | omega) _)
  have c7 := c3.up hL2
  have c8 : Own W2 (w1.heap.size) 0 [((.slice An Nn cn)), ((.slice Ar Nr cr))] := by
    rw [hW2]
    first
    | (repeat (first | (with_reducible refine own_new (l := [((.slice An Nn cn)), ((.slice Ar Nr cr))]) ?_; (simp; done)) | with_reducible refine Own.alloc ?_ _ | refine Own.far _ _ (by first | (simp; done) | (simp [*]; done) | (simp; omega)) ?_)); done
    | simp [Own, go_sem, ne6, ne6', ne6_]
  have hA9 := hL2
  have hB10 : Below w.heap.size w W2 := by
    rw [hW2]
    repeat (first | with_reducible exact hB4 | with_reducible refine bel_alloc ?_ _ | refine Below.setCell ?_ (by first | (simp; done) | (simp; omega) | omega) _)
  clear hW2 hL2 c3
  have HNV2 : Hid (NV W2 (.agg #[.slice An Nn cn, .slice Ar Nr cr]) N) := Lib.hid (HNV1.out.up hA9)
  clear HNV1 hA9
  obtain ⟨w0, hw0⟩ : ∃ W_, W_ = w := ⟨_, rfl⟩
  subst hw0
  obtain ⟨w, hw⟩ : ∃ W_, W_ = W2 := ⟨_, rfl⟩
  subst hw
  have hBw := hB10
  clear hB10
  clear c7
  have HNV := HNV2
  have HG := Lib.hid hok.g
  have HOK := Lib.hid hok
  have hln := hok.g.ln
  have hlr := hok.g.lr
  have hn2 := hok.n2
  have hn8 := hok.n8
  have hr1 := hok.r1
  have hr13 := hok.r13
  rw [hNn] at hln hn2 hn8
  rw [hNr] at hlr hr1 hr13
  have HXN : Hid (LX CN 3 w An N.ns) := Lib.hid (nv_ns HNV.out)
  have HXR : Hid (LX CR 6 w Ar N.rs) := Lib.hid (nv_rs HNV.out)
  have HNn := Lib.hid hNn
  have HNr := Lib.hid hNr
  clear hok hNn hNr HNV2
  cases ha : fnd N.ns id with
  | none =>
    have HA := Lib.hid ha
    have HJ := Lib.hid (fnd_no ha)
    clear ha
    cases hb : frd N.rs id with
    | none =>
      have HR := Lib.hid hb
      have HK := Lib.hid (frd_no hb)
      clear hb
      have uc8 := c8
      simp only [At, Own, Nat.reduceAdd, and_true] at uc8
      have K11 := Lib.hid (fun W (hv : NV W (.agg #[.slice An Nn cn, .slice Ar Nr cr]) N) => node_none N id _ W hv HG.out.half HA.out)
      go_wp2_with (fail)
      refine calls_named ?_
      intro W3 hW3
      have hL3 : Below w.heap.size w W3 := by
        rw [hW3]
        repeat (first | with_reducible exact Below.refl _ _ | with_reducible refine bel_alloc ?_ _ | refine Below.setCell ?_ (by first | (simp; done) | (simp; omega) | omega) _)
      have c12 := c8.up hL3
      have hB13 : Below w.heap.size w W3 := by
        rw [hW3]
        repeat (first | with_reducible exact Below.refl _ _ | with_reducible refine bel_alloc ?_ _ | refine Below.setCell ?_ (by first | (simp; done) | (simp; omega) | omega) _)
      clear hW3 hL3 uc8 c8
      with_reducible refine (K11.out _ (HNV.out.up hB13)).mono ?_
      rintro e w3 ⟨rfl, hb3⟩
      have c14 := c12.up hb3
      have hB15 : Below w.heap.size w w3 := bel_up hB13 hb3
      clear c12
      have ne16_ : w1.heap.size < w3.heap.size := by have := c14.lt; omega
      have ne16 := Nat.ne_of_lt ne16_
      have ne16' := ne16.symm
      have uc14 := c14
      simp only [At, Own, Nat.reduceAdd, and_true] at uc14
      have K17 := Lib.hid (fun W (hv : NV W (.agg #[.slice An Nn cn, .slice Ar Nr cr]) N) => road_none N id _ W hv HG.out HR.out)
      go_wp2_with (fail)
      refine calls_named ?_
      intro W4 hW4
      have hL4 : Below w3.heap.size w3 W4 := by
        rw [hW4]
        repeat (first | with_reducible exact Below.refl _ _ | with_reducible refine bel_alloc ?_ _ | refine Below.setCell ?_ (by first | (simp; done) | (simp; omega) | omega) _)
      have c18 := c14.up hL4
      have c19 : Own W4 (w3.heap.size) 0 [.int .i64 0, .int .i64 0, .int .i64 0] := by
        rw [hW4]
        first
        | (repeat (first | (with_reducible refine own_new (l := [.int .i64 0, .int .i64 0, .int .i64 0]) ?_; (simp; done)) | with_reducible refine Own.alloc ?_ _ | refine Own.far _ _ (by first | (simp; done) | (simp [*]; done) | (simp; omega)) ?_)); done
        | simp [Own, go_sem, uc14, ne16, ne16', ne16_]
      have hB20 : Below w.heap.size w W4 := by
        rw [hW4]
        repeat (first | with_reducible exact hB15 | with_reducible refine bel_alloc ?_ _ | refine Below.setCell ?_ (by first | (simp; done) | (simp; omega) | omega) _)
      clear hW4 hL4 uc14 c14
      with_reducible refine (K17.out _ (HNV.out.up hB20)).mono ?_
      rintro e w4 ⟨rfl, hb4⟩
      have c21 := c18.up hb4
      have c22 := c19.up hb4
      have hB23 : Below w.heap.size w w4 := bel_up hB20 hb4
      clear c18 c19
      have ne24_ : w1.heap.size < w4.heap.size := by have := c21.lt; omega
      have ne24 := Nat.ne_of_lt ne24_
      have ne24' := ne24.symm
      have ne25_ : w3.heap.size < w4.heap.size := by have := c22.lt; omega
      have ne25 := Nat.ne_of_lt ne25_
      have ne25' := ne25.symm
      have uc21 := c21; have uc22 := c22
      simp only [At, Own, Nat.reduceAdd, and_true] at uc21 uc22
      have K26 := Lib.hid (fun W (hv : NV W (.agg #[.slice An Nn cn, .slice Ar Nr cr]) N) => lnode_j N id (-1) _ W hv ⟨by rw [HNn.out]; exact hln, by rw [HNr.out]; exact hlr⟩ HJ.out)
      have K27 := Lib.hid (fun W (hv : NV W (.agg #[.slice An Nn cn, .slice Ar Nr cr]) N) => lroad_i N id (-1) _ W hv ⟨by rw [HNn.out]; exact hln, by rw [HNr.out]; exact hlr⟩ HK.out)
      go_wp2_with fail
      refine wp_named ?_
      intro W5 hW5
      have hL5 : Below w4.heap.size w4 W5 := by
        rw [hW5]
        repeat (first | with_reducible exact Below.refl _ _ | with_reducible refine bel_alloc ?_ _ | refine Below.setCell ?_ (by first | (simp; done) | (simp; omega) | omega) _)
      have c28 := c21.up hL5
      have c29 := c22.up hL5
      have c30 : Own W5 (w4.heap.size) 0 [.int .i64 0, .int .i64 0, .int .i64 0, .int .i64 0, .int .i64 0, .bool false] := by
        rw [hW5]
        first
        | (repeat (first | (with_reducible refine own_new (l := [.int .i64 0, .int .i64 0, .int .i64 0, .int .i64 0, .int .i64 0, .bool false]) ?_; (simp; done)) | with_reducible refine Own.alloc ?_ _ | refine Own.far _ _ (by first | (simp; done) | (simp [*]; done) | (simp; omega)) ?_)); done
        | simp [Own, go_sem, uc21, uc22, ne24, ne24', ne24_, ne25, ne25', ne25_]
      have hB31 : Below w.heap.size w W5 := by
        rw [hW5]
        repeat (first | with_reducible exact hB23 | with_reducible refine bel_alloc ?_ _ | refine Below.setCell ?_ (by first | (simp; done) | (simp; omega) | omega) _)
      clear hW5 hL5 uc21 uc22 c21 c22
      have dc28 := fun p : Bel W5 => c28.bel p; have dc29 := fun p : Bel W5 => c29.bel p; have dc30 := fun p : Bel W5 => c30.bel p
      simp only [At, Own, Nat.reduceAdd, and_true] at dc28 dc29 dc30
      refine wp_region_tail 6 (by kernel_rfl) (by kernel_rfl) ?_
      simp only [List.take_succ_cons, List.take_zero, List.drop_succ_cons, List.drop_zero]
      repeat (go_big_quiet_step (first | (go_at_call 27; with_reducible exact Calls.bel (K26.out _ (HNV.out.up (bel_up hB31 (Bel.h _))))) | (go_at_call 31; with_reducible exact Calls.bel (K27.out _ (HNV.out.up (bel_up hB31 (Bel.h _)))))))
      refine wpQuiet_nil ?_
      intro w5 hb5
      have c32 := c28.up hb5
      have c33 := c29.up hb5
      have c34 := c30.up hb5
      have hB35 : Below w.heap.size w w5 := bel_up hB31 hb5
      clear dc28 dc29 dc30 c28 c29 c30
      have uc32 := c32; have uc33 := c33; have uc34 := c34
      simp only [At, Own, Nat.reduceAdd, and_true] at uc32 uc33 uc34
      have K36 := Lib.hid (fun W => known_any W)
      go_wp2_with (fail)
      refine calls_named ?_
      intro W6 hW6
      have hL6 : Below w5.heap.size w5 W6 := by
        rw [hW6]
        repeat (first | with_reducible exact Below.refl _ _ | with_reducible refine bel_alloc ?_ _ | refine Below.setCell ?_ (by first | (simp; done) | (simp; omega) | omega) _)
      have c37 := c32.up hL6
      have c38 := c33.up hL6
      have c39 := c34.up hL6
      have hB40 : Below w.heap.size w W6 := by
        rw [hW6]
        repeat (first | with_reducible exact hB35 | with_reducible refine bel_alloc ?_ _ | refine Below.setCell ?_ (by first | (simp; done) | (simp; omega) | omega) _)
      clear hW6 hL6 uc32 uc33 uc34 c32 c33 c34
      with_reducible refine (K36.out _).mono ?_
      rintro e w6 ⟨rfl, hb6⟩
      have c41 := c37.up hb6
      have c42 := c38.up hb6
      have c43 := c39.up hb6
      have hB44 : Below w.heap.size w w6 := bel_up hB40 hb6
      clear c37 c38 c39
      have EQ0 := fun W => eqNd_in (Nd.mk 0 0 0) (Nd.mk 0 0 0) W
      rw [decide_eq_true rfl] at EQ0
      have EQ1 := fun W => eqRd_in (Rd.mk 0 0 0 0 0 false) (Rd.mk 0 0 0 0 0 false) W
      rw [decide_eq_true rfl] at EQ1
      try dsimp only at EQ0 EQ1
      go_wp2_with fail
      refine wp_named ?_
      intro W7 hW7
      have hL7 : Below w6.heap.size w6 W7 := by
        rw [hW7]
        repeat (first | with_reducible exact Below.refl _ _ | with_reducible refine bel_alloc ?_ _ | refine Below.setCell ?_ (by first | (simp; done) | (simp; omega) | omega) _)
      have c45 := c41.up hL7
      have c46 := c42.up hL7
      have c47 := c43.up hL7
      have hB48 : Below w.heap.size w W7 := by
        rw [hW7]
        repeat (first | with_reducible exact hB44 | with_reducible refine bel_alloc ?_ _ | refine Below.setCell ?_ (by first | (simp; done) | (simp; omega) | omega) _)
      clear hW7 hL7 c41 c42 c43
      have dc45 := fun p : Bel W7 => c45.bel p; have dc46 := fun p : Bel W7 => c46.bel p; have dc47 := fun p : Bel W7 => c47.bel p
      simp only [At, Own, Nat.reduceAdd, and_true] at dc45 dc46 dc47
      refine wp_region_all (by kernel_rfl) (by kernel_rfl) ?_
      repeat (go_big_quiet_step (fail))
      refine wpQuiet_nil ?_
      intro w7 hb7
      have c49 := c45.up hb7
      have c50 := c46.up hb7
      have c51 := c47.up hb7
      have hB52 : Below w.heap.size w w7 := bel_up hB48 hb7
      clear dc45 dc46 dc47 c45 c46 c47
      have uc49 := c49; have uc50 := c50; have uc51 := c51
      simp only [At, Own, Nat.reduceAdd, and_true] at uc49 uc50 uc51
      clear EQ0 EQ1
      have K53 := Lib.hid (fun W (hv : NV W (.agg #[.slice An Nn cn, .slice Ar Nr cr]) N) => own_list (out_any N id _ W hv HG.out))
      go_wp2_with (fail)
      refine calls_named ?_
      intro W8 hW8
      have hL8 : Below w7.heap.size w7 W8 := by
        rw [hW8]
        repeat (first | with_reducible exact Below.refl _ _ | with_reducible refine bel_alloc ?_ _ | refine Below.setCell ?_ (by first | (simp; done) | (simp; omega) | omega) _)
      have c54 := c49.up hL8
      have c55 := c50.up hL8
      have c56 := c51.up hL8
      have hB57 : Below w.heap.size w W8 := by
        rw [hW8]
        repeat (first | with_reducible exact hB52 | with_reducible refine bel_alloc ?_ _ | refine Below.setCell ?_ (by first | (simp; done) | (simp; omega) | omega) _)
      clear hW8 hL8 uc49 uc50 uc51 c49 c50 c51
      with_reducible refine (K53.out _ (HNV.out.up hB57)).mono ?_
      rintro e w8 ⟨v8, rfl, hv8, hb8⟩
      have c58 := c54.up hb8
      have c59 := c55.up hb8
      have c60 := c56.up hb8
      have hB61 : Below w.heap.size w w8 := bel_up hB57 hb8
      clear c54 c55 c56
      have PW8 := Lib.hid hv8
      clear hv8
      have K62 := Lib.hid (fun W va vb (ha : IL W va (idsOf (outP id) N.rs)) (hb : IL W vb []) => lsame_eq (idsOf (outP id) N.rs) [] va vb W ha hb (Nat.le_trans (ids_le _ _) (by rw [HNr.out]; exact hlr)) (ids_nil HG.out HA.out _ (fun r h => outP_or h)))
      have uc58 := c58; have uc59 := c59; have uc60 := c60
      simp only [At, Own, Nat.reduceAdd, and_true] at uc58 uc59 uc60
      go_wp2_with (fail)
      refine calls_named ?_
      intro W9 hW9
      have hL9 : Below w8.heap.size w8 W9 := by
        rw [hW9]
        repeat (first | with_reducible exact Below.refl _ _ | with_reducible refine bel_alloc ?_ _ | refine Below.setCell ?_ (by first | (simp; done) | (simp; omega) | omega) _)
      have c63 := c58.up hL9
      have c64 := c59.up hL9
      have c65 := c60.up hL9
      have hA66 := hL9
      have hB67 : Below w.heap.size w W9 := by
        rw [hW9]
        repeat (first | with_reducible exact hB61 | with_reducible refine bel_alloc ?_ _ | refine Below.setCell ?_ (by first | (simp; done) | (simp; omega) | omega) _)
      clear hW9 hL9 uc58 uc59 uc60 c58 c59 c60
      with_reducible refine (K62.out _ _ _ ((PW8.out.up hA66)) (il_nil _)).mono ?_
      rintro e w9 ⟨rfl, hb9⟩
      have c68 := c63.up hb9
      have c69 := c64.up hb9
      have c70 := c65.up hb9
      have hA71 := bel_up hA66 hb9
      have hB72 : Below w.heap.size w w9 := bel_up hB67 hb9
      clear c63 c64 c65 hA66
      have uc68 := c68; have uc69 := c69; have uc70 := c70
      simp only [At, Own, Nat.reduceAdd, and_true] at uc68 uc69 uc70
      have K73 := Lib.hid (fun W (hv : NV W (.agg #[.slice An Nn cn, .slice Ar Nr cr]) N) => own_list (in_any N id _ W hv HG.out))
      go_wp2_with (fail)
      refine calls_named ?_
      intro W10 hW10
      have hL10 : Below w9.heap.size w9 W10 := by
        rw [hW10]
        repeat (first | with_reducible exact Below.refl _ _ | with_reducible refine bel_alloc ?_ _ | refine Below.setCell ?_ (by first | (simp; done) | (simp; omega) | omega) _)
      have c74 := c68.up hL10
      have c75 := c69.up hL10
      have c76 := c70.up hL10
      have hA77 := bel_up hA71 hL10
      have hB78 : Below w.heap.size w W10 := by
        rw [hW10]
        repeat (first | with_reducible exact hB72 | with_reducible refine bel_alloc ?_ _ | refine Below.setCell ?_ (by first | (simp; done) | (simp; omega) | omega) _)
      clear hW10 hL10 uc68 uc69 uc70 c68 c69 c70 hA71
      with_reducible refine (K73.out _ (HNV.out.up hB78)).mono ?_
      rintro e w10 ⟨v10, rfl, hv10, hb10⟩
      have c79 := c74.up hb10
      have c80 := c75.up hb10
      have c81 := c76.up hb10
      have hA82 := bel_up hA77 hb10
      have hB83 : Below w.heap.size w w10 := bel_up hB78 hb10
      clear c74 c75 c76 hA77
      have PW10 := Lib.hid hv10
      clear hv10
      have K84 := Lib.hid (fun W va vb (ha : IL W va (idsOf (inP id) N.rs)) (hb : IL W vb []) => lsame_eq (idsOf (inP id) N.rs) [] va vb W ha hb (Nat.le_trans (ids_le _ _) (by rw [HNr.out]; exact hlr)) (ids_nil HG.out HA.out _ (fun r h => inP_or h)))
      have uc79 := c79; have uc80 := c80; have uc81 := c81
      simp only [At, Own, Nat.reduceAdd, and_true] at uc79 uc80 uc81
      go_wp2_with (fail)
      refine calls_named ?_
      intro W11 hW11
      have hL11 : Below w10.heap.size w10 W11 := by
        rw [hW11]
        repeat (first | with_reducible exact Below.refl _ _ | with_reducible refine bel_alloc ?_ _ | refine Below.setCell ?_ (by first | (simp; done) | (simp; omega) | omega) _)
      have c85 := c79.up hL11
      have c86 := c80.up hL11
      have c87 := c81.up hL11
      have hA88 := bel_up hA82 hL11
      have hA89 := hL11
      have hB90 : Below w.heap.size w W11 := by
        rw [hW11]
        repeat (first | with_reducible exact hB83 | with_reducible refine bel_alloc ?_ _ | refine Below.setCell ?_ (by first | (simp; done) | (simp; omega) | omega) _)
      clear hW11 hL11 uc79 uc80 uc81 c79 c80 c81 hA82
      with_reducible refine (K84.out _ _ _ ((PW10.out.up hA89)) (il_nil _)).mono ?_
      rintro e w11 ⟨rfl, hb11⟩
      have c91 := c85.up hb11
      have c92 := c86.up hb11
      have c93 := c87.up hb11
      have hA94 := bel_up hA88 hb11
      have hA95 := bel_up hA89 hb11
      have hB96 : Below w.heap.size w w11 := bel_up hB90 hb11
      clear c85 c86 c87 hA88 hA89
      have uc91 := c91; have uc92 := c92; have uc93 := c93
      simp only [At, Own, Nat.reduceAdd, and_true] at uc91 uc92 uc93
      go_wp2
      go_ret
      exact ⟨rfl, bel_up hBw (by repeat (first | with_reducible exact hB96 | with_reducible refine bel_alloc ?_ _ | refine Below.setCell ?_ (by first | (simp; done) | (simp; omega) | omega) _))⟩
    | some r =>
      obtain ⟨k, hk, hk2⟩ := frd_idx hb
      have hkn : k < Nr := by have e_ := (List.getElem?_eq_some_iff.1 hk2).1; rw [HNr.out] at e_; exact e_
      have i1k : (k : Int) < Nr := by omega
      have i0k : ¬ (k : Int) < 0 := by omega
      have i2k : (0 : Int) ≤ k := by omega
      have HK := Lib.hid hk
      have HK2 := Lib.hid hk2
      have HR := Lib.hid hb
      clear hk hk2 hb
      have uc8 := c8
      simp only [At, Own, Nat.reduceAdd, and_true] at uc8
      have K97 := Lib.hid (fun W (hv : NV W (.agg #[.slice An Nn cn, .slice Ar Nr cr]) N) => node_none N id _ W hv HG.out.half HA.out)
      go_wp2_with (fail)
      refine calls_named ?_
      intro W12 hW12
      have hL12 : Below w.heap.size w W12 := by
        rw [hW12]
        repeat (first | with_reducible exact Below.refl _ _ | with_reducible refine bel_alloc ?_ _ | refine Below.setCell ?_ (by first | (simp; done) | (simp; omega) | omega) _)
      have c98 := c8.up hL12
      have hB99 : Below w.heap.size w W12 := by
        rw [hW12]
        repeat (first | with_reducible exact Below.refl _ _ | with_reducible refine bel_alloc ?_ _ | refine Below.setCell ?_ (by first | (simp; done) | (simp; omega) | omega) _)
      clear hW12 hL12 uc8 c8
      with_reducible refine (K97.out _ (HNV.out.up hB99)).mono ?_
      rintro e w12 ⟨rfl, hb12⟩
      have c100 := c98.up hb12
      have hB101 : Below w.heap.size w w12 := bel_up hB99 hb12
      clear c98
      have ne102_ : w1.heap.size < w12.heap.size := by have := c100.lt; omega
      have ne102 := Nat.ne_of_lt ne102_
      have ne102' := ne102.symm
      have uc100 := c100
      simp only [At, Own, Nat.reduceAdd, and_true] at uc100
      have K103 := Lib.hid (fun W (hv : NV W (.agg #[.slice An Nn cn, .slice Ar Nr cr]) N) => road_some N r id _ W hv HG.out HR.out)
      go_wp2_with (fail)
      refine calls_named ?_
      intro W13 hW13
      have hL13 : Below w12.heap.size w12 W13 := by
        rw [hW13]
        repeat (first | with_reducible exact Below.refl _ _ | with_reducible refine bel_alloc ?_ _ | refine Below.setCell ?_ (by first | (simp; done) | (simp; omega) | omega) _)
      have c104 := c100.up hL13
      have c105 : Own W13 (w12.heap.size) 0 [.int .i64 0, .int .i64 0, .int .i64 0] := by
        rw [hW13]
        first
        | (repeat (first | (with_reducible refine own_new (l := [.int .i64 0, .int .i64 0, .int .i64 0]) ?_; (simp; done)) | with_reducible refine Own.alloc ?_ _ | refine Own.far _ _ (by first | (simp; done) | (simp [*]; done) | (simp; omega)) ?_)); done
        | simp [Own, go_sem, uc100, ne102, ne102', ne102_]
      have hB106 : Below w.heap.size w W13 := by
        rw [hW13]
        repeat (first | with_reducible exact hB101 | with_reducible refine bel_alloc ?_ _ | refine Below.setCell ?_ (by first | (simp; done) | (simp; omega) | omega) _)
      clear hW13 hL13 uc100 c100
      with_reducible refine (K103.out _ (HNV.out.up hB106)).mono ?_
      rintro e w13 ⟨rfl, hb13⟩
      have c107 := c104.up hb13
      have c108 := c105.up hb13
      have hB109 : Below w.heap.size w w13 := bel_up hB106 hb13
      clear c104 c105
      have ne110_ : w1.heap.size < w13.heap.size := by have := c107.lt; omega
      have ne110 := Nat.ne_of_lt ne110_
      have ne110' := ne110.symm
      have ne111_ : w12.heap.size < w13.heap.size := by have := c108.lt; omega
      have ne111 := Nat.ne_of_lt ne111_
      have ne111' := ne111.symm
      have uc107 := c107; have uc108 := c108
      simp only [At, Own, Nat.reduceAdd, and_true] at uc107 uc108
      have K112 := Lib.hid (fun W (hv : NV W (.agg #[.slice An Nn cn, .slice Ar Nr cr]) N) => lnode_j N id (-1) _ W hv ⟨by rw [HNn.out]; exact hln, by rw [HNr.out]; exact hlr⟩ HJ.out)
      have K113 := Lib.hid (fun W (hv : NV W (.agg #[.slice An Nn cn, .slice Ar Nr cr]) N) => lroad_i N id k _ W hv ⟨by rw [HNn.out]; exact hln, by rw [HNr.out]; exact hlr⟩ HK.out)
      go_wp2_with fail
      refine wp_named ?_
      intro W14 hW14
      have hL14 : Below w13.heap.size w13 W14 := by
        rw [hW14]
        repeat (first | with_reducible exact Below.refl _ _ | with_reducible refine bel_alloc ?_ _ | refine Below.setCell ?_ (by first | (simp; done) | (simp; omega) | omega) _)
      have c114 := c107.up hL14
      have c115 := c108.up hL14
      have c116 : Own W14 (w13.heap.size) 0 [.int .i64 r.i, .int .i64 r.f, .int .i64 r.t, .int .i64 r.l, .int .i64 r.m, .bool r.o] := by
        rw [hW14]
        first
        | (repeat (first | (with_reducible refine own_new (l := [.int .i64 r.i, .int .i64 r.f, .int .i64 r.t, .int .i64 r.l, .int .i64 r.m, .bool r.o]) ?_; (simp; done)) | with_reducible refine Own.alloc ?_ _ | refine Own.far _ _ (by first | (simp; done) | (simp [*]; done) | (simp; omega)) ?_)); done
        | simp [Own, go_sem, uc107, uc108, ne110, ne110', ne110_, ne111, ne111', ne111_]
      have hB117 : Below w.heap.size w W14 := by
        rw [hW14]
        repeat (first | with_reducible exact hB109 | with_reducible refine bel_alloc ?_ _ | refine Below.setCell ?_ (by first | (simp; done) | (simp; omega) | omega) _)
      clear hW14 hL14 uc107 uc108 c107 c108
      have dc114 := fun p : Bel W14 => c114.bel p; have dc115 := fun p : Bel W14 => c115.bel p; have dc116 := fun p : Bel W14 => c116.bel p
      simp only [At, Own, Nat.reduceAdd, and_true] at dc114 dc115 dc116
      refine wp_region_tail 6 (by kernel_rfl) (by kernel_rfl) ?_
      simp only [List.take_succ_cons, List.take_zero, List.drop_succ_cons, List.drop_zero]
      repeat (go_big_quiet_step (first | (go_at_call 27; with_reducible exact Calls.bel (K112.out _ (HNV.out.up (bel_up hB117 (Bel.h _))))) | (go_at_call 31; with_reducible exact Calls.bel (K113.out _ (HNV.out.up (bel_up hB117 (Bel.h _)))))))
      refine wpQuiet_nil ?_
      intro w14 hb14
      have c118 := c114.up hb14
      have c119 := c115.up hb14
      have c120 := c116.up hb14
      have hB121 : Below w.heap.size w w14 := bel_up hB117 hb14
      clear dc114 dc115 dc116 c114 c115 c116
      have uc118 := c118; have uc119 := c119; have uc120 := c120
      simp only [At, Own, Nat.reduceAdd, and_true] at uc118 uc119 uc120
      have K122 := Lib.hid (fun W => known_any W)
      go_wp2_with (fail)
      refine calls_named ?_
      intro W15 hW15
      have hL15 : Below w14.heap.size w14 W15 := by
        rw [hW15]
        repeat (first | with_reducible exact Below.refl _ _ | with_reducible refine bel_alloc ?_ _ | refine Below.setCell ?_ (by first | (simp; done) | (simp; omega) | omega) _)
      have c123 := c118.up hL15
      have c124 := c119.up hL15
      have c125 := c120.up hL15
      have hB126 : Below w.heap.size w W15 := by
        rw [hW15]
        repeat (first | with_reducible exact hB121 | with_reducible refine bel_alloc ?_ _ | refine Below.setCell ?_ (by first | (simp; done) | (simp; omega) | omega) _)
      clear hW15 hL15 uc118 uc119 uc120 c118 c119 c120
      with_reducible refine (K122.out _).mono ?_
      rintro e w15 ⟨rfl, hb15⟩
      have c127 := c123.up hb15
      have c128 := c124.up hb15
      have c129 := c125.up hb15
      have hB130 : Below w.heap.size w w15 := bel_up hB126 hb15
      clear c123 c124 c125
      have EQ0 := fun W => eqNd_in (Nd.mk 0 0 0) (Nd.mk 0 0 0) W
      rw [decide_eq_true rfl] at EQ0
      have EQ1 := fun W => eqRd_in r r W
      rw [decide_eq_true rfl] at EQ1
      try dsimp only at EQ0 EQ1
      go_wp2_with fail
      refine wp_named ?_
      intro W16 hW16
      have hL16 : Below w15.heap.size w15 W16 := by
        rw [hW16]
        repeat (first | with_reducible exact Below.refl _ _ | with_reducible refine bel_alloc ?_ _ | refine Below.setCell ?_ (by first | (simp; done) | (simp; omega) | omega) _)
      have c131 := c127.up hL16
      have c132 := c128.up hL16
      have c133 := c129.up hL16
      have hB134 : Below w.heap.size w W16 := by
        rw [hW16]
        repeat (first | with_reducible exact hB130 | with_reducible refine bel_alloc ?_ _ | refine Below.setCell ?_ (by first | (simp; done) | (simp; omega) | omega) _)
      clear hW16 hL16 c127 c128 c129
      have dc131 := fun p : Bel W16 => c131.bel p; have dc132 := fun p : Bel W16 => c132.bel p; have dc133 := fun p : Bel W16 => c133.bel p
      simp only [At, Own, Nat.reduceAdd, and_true] at dc131 dc132 dc133
      obtain ⟨g136, o137, ha138, -⟩ := (HXR.out).up kpR hB134 _ _ HK2.out
      subst ha138
      have ce135 := LX.at_ ((HXR.out).up kpR hB134) HK2.out
      have ce135_ : g136 < W16.heap.size := World.block_lt_of_cell? _ _ ce135.1
      have dce135 := fun b : Bel W16 => ce135.bel b
      simp only [CR, rdc, At, Nat.reduceMul] at dce135
      refine wp_region_all (by kernel_rfl) (by kernel_rfl) ?_
      repeat (go_big_quiet_step (fail))
      refine wpQuiet_nil ?_
      intro w16 hb16
      have c139 := c131.up hb16
      have c140 := c132.up hb16
      have c141 := c133.up hb16
      have hB142 : Below w.heap.size w w16 := bel_up hB134 hb16
      clear dc131 dc132 dc133 dce135 c131 c132 c133
      have uc139 := c139; have uc140 := c140; have uc141 := c141
      simp only [At, Own, Nat.reduceAdd, and_true] at uc139 uc140 uc141
      clear EQ0 EQ1
      have K143 := Lib.hid (fun W (hv : NV W (.agg #[.slice An Nn cn, .slice (some ⟨g136, o137, none⟩) Nr cr]) N) => own_list (out_any N id _ W hv HG.out))
      go_wp2_with (fail)
      refine calls_named ?_
      intro W17 hW17
      have hL17 : Below w16.heap.size w16 W17 := by
        rw [hW17]
        repeat (first | with_reducible exact Below.refl _ _ | with_reducible refine bel_alloc ?_ _ | refine Below.setCell ?_ (by first | (simp; done) | (simp; omega) | omega) _)
      have c144 := c139.up hL17
      have c145 := c140.up hL17
      have c146 := c141.up hL17
      have hB147 : Below w.heap.size w W17 := by
        rw [hW17]
        repeat (first | with_reducible exact hB142 | with_reducible refine bel_alloc ?_ _ | refine Below.setCell ?_ (by first | (simp; done) | (simp; omega) | omega) _)
      clear hW17 hL17 uc139 uc140 uc141 c139 c140 c141
      with_reducible refine (K143.out _ (HNV.out.up hB147)).mono ?_
      rintro e w17 ⟨v17, rfl, hv17, hb17⟩
      have c148 := c144.up hb17
      have c149 := c145.up hb17
      have c150 := c146.up hb17
      have hB151 : Below w.heap.size w w17 := bel_up hB147 hb17
      clear c144 c145 c146
      have PW17 := Lib.hid hv17
      clear hv17
      have K152 := Lib.hid (fun W va vb (ha : IL W va (idsOf (outP id) N.rs)) (hb : IL W vb []) => lsame_eq (idsOf (outP id) N.rs) [] va vb W ha hb (Nat.le_trans (ids_le _ _) (by rw [HNr.out]; exact hlr)) (ids_nil HG.out HA.out _ (fun r h => outP_or h)))
      have uc148 := c148; have uc149 := c149; have uc150 := c150
      simp only [At, Own, Nat.reduceAdd, and_true] at uc148 uc149 uc150
      go_wp2_with (fail)
      refine calls_named ?_
      intro W18 hW18
      have hL18 : Below w17.heap.size w17 W18 := by
        rw [hW18]
        repeat (first | with_reducible exact Below.refl _ _ | with_reducible refine bel_alloc ?_ _ | refine Below.setCell ?_ (by first | (simp; done) | (simp; omega) | omega) _)
      have c153 := c148.up hL18
      have c154 := c149.up hL18
      have c155 := c150.up hL18
      have hA156 := hL18
      have hB157 : Below w.heap.size w W18 := by
        rw [hW18]
        repeat (first | with_reducible exact hB151 | with_reducible refine bel_alloc ?_ _ | refine Below.setCell ?_ (by first | (simp; done) | (simp; omega) | omega) _)
      clear hW18 hL18 uc148 uc149 uc150 c148 c149 c150
      with_reducible refine (K152.out _ _ _ ((PW17.out.up hA156)) (il_nil _)).mono ?_
      rintro e w18 ⟨rfl, hb18⟩
      have c158 := c153.up hb18
      have c159 := c154.up hb18
      have c160 := c155.up hb18
      have hA161 := bel_up hA156 hb18
      have hB162 : Below w.heap.size w w18 := bel_up hB157 hb18
      clear c153 c154 c155 hA156
      have uc158 := c158; have uc159 := c159; have uc160 := c160
      simp only [At, Own, Nat.reduceAdd, and_true] at uc158 uc159 uc160
      have K163 := Lib.hid (fun W (hv : NV W (.agg #[.slice An Nn cn, .slice (some ⟨g136, o137, none⟩) Nr cr]) N) => own_list (in_any N id _ W hv HG.out))
      go_wp2_with (fail)
      refine calls_named ?_
      intro W19 hW19
      have hL19 : Below w18.heap.size w18 W19 := by
        rw [hW19]
        repeat (first | with_reducible exact Below.refl _ _ | with_reducible refine bel_alloc ?_ _ | refine Below.setCell ?_ (by first | (simp; done) | (simp; omega) | omega) _)
      have c164 := c158.up hL19
      have c165 := c159.up hL19
      have c166 := c160.up hL19
      have hA167 := bel_up hA161 hL19
      have hB168 : Below w.heap.size w W19 := by
        rw [hW19]
        repeat (first | with_reducible exact hB162 | with_reducible refine bel_alloc ?_ _ | refine Below.setCell ?_ (by first | (simp; done) | (simp; omega) | omega) _)
      clear hW19 hL19 uc158 uc159 uc160 c158 c159 c160 hA161
      with_reducible refine (K163.out _ (HNV.out.up hB168)).mono ?_
      rintro e w19 ⟨v19, rfl, hv19, hb19⟩
      have c169 := c164.up hb19
      have c170 := c165.up hb19
      have c171 := c166.up hb19
      have hA172 := bel_up hA167 hb19
      have hB173 : Below w.heap.size w w19 := bel_up hB168 hb19
      clear c164 c165 c166 hA167
      have PW19 := Lib.hid hv19
      clear hv19
      have K174 := Lib.hid (fun W va vb (ha : IL W va (idsOf (inP id) N.rs)) (hb : IL W vb []) => lsame_eq (idsOf (inP id) N.rs) [] va vb W ha hb (Nat.le_trans (ids_le _ _) (by rw [HNr.out]; exact hlr)) (ids_nil HG.out HA.out _ (fun r h => inP_or h)))
      have uc169 := c169; have uc170 := c170; have uc171 := c171
      simp only [At, Own, Nat.reduceAdd, and_true] at uc169 uc170 uc171
      go_wp2_with (fail)
      refine calls_named ?_
      intro W20 hW20
      have hL20 : Below w19.heap.size w19 W20 := by
        rw [hW20]
        repeat (first | with_reducible exact Below.refl _ _ | with_reducible refine bel_alloc ?_ _ | refine Below.setCell ?_ (by first | (simp; done) | (simp; omega) | omega) _)
      have c175 := c169.up hL20
      have c176 := c170.up hL20
      have c177 := c171.up hL20
      have hA178 := bel_up hA172 hL20
      have hA179 := hL20
      have hB180 : Below w.heap.size w W20 := by
        rw [hW20]
        repeat (first | with_reducible exact hB173 | with_reducible refine bel_alloc ?_ _ | refine Below.setCell ?_ (by first | (simp; done) | (simp; omega) | omega) _)
      clear hW20 hL20 uc169 uc170 uc171 c169 c170 c171 hA172
      with_reducible refine (K174.out _ _ _ ((PW19.out.up hA179)) (il_nil _)).mono ?_
      rintro e w20 ⟨rfl, hb20⟩
      have c181 := c175.up hb20
      have c182 := c176.up hb20
      have c183 := c177.up hb20
      have hA184 := bel_up hA178 hb20
      have hA185 := bel_up hA179 hb20
      have hB186 : Below w.heap.size w w20 := bel_up hB180 hb20
      clear c175 c176 c177 hA178 hA179
      have uc181 := c181; have uc182 := c182; have uc183 := c183
      simp only [At, Own, Nat.reduceAdd, and_true] at uc181 uc182 uc183
      go_wp2
      go_ret
      exact ⟨rfl, bel_up hBw (by repeat (first | with_reducible exact hB186 | with_reducible refine bel_alloc ?_ _ | refine Below.setCell ?_ (by first | (simp; done) | (simp; omega) | omega) _))⟩
  | some a =>
    obtain ⟨j, hj, hj2⟩ := fnd_idx ha
    have hjn : j < Nn := by have e_ := (List.getElem?_eq_some_iff.1 hj2).1; rw [HNn.out] at e_; exact e_
    have i1j : (j : Int) < Nn := by omega
    have i0j : ¬ (j : Int) < 0 := by omega
    have i2j : (0 : Int) ≤ j := by omega
    have HJ := Lib.hid hj
    have HJ2 := Lib.hid hj2
    have HA := Lib.hid ha
    clear hj hj2 ha
    cases hb : frd N.rs id with
    | none =>
      have HR := Lib.hid hb
      have HK := Lib.hid (frd_no hb)
      clear hb
      have uc8 := c8
      simp only [At, Own, Nat.reduceAdd, and_true] at uc8
      have K187 := Lib.hid (fun W (hv : NV W (.agg #[.slice An Nn cn, .slice Ar Nr cr]) N) => node_some N a id _ W hv HG.out.half HA.out)
      go_wp2_with (fail)
      refine calls_named ?_
      intro W21 hW21
      have hL21 : Below w.heap.size w W21 := by
        rw [hW21]
        repeat (first | with_reducible exact Below.refl _ _ | with_reducible refine bel_alloc ?_ _ | refine Below.setCell ?_ (by first | (simp; done) | (simp; omega) | omega) _)
      have c188 := c8.up hL21
      have hB189 : Below w.heap.size w W21 := by
        rw [hW21]
        repeat (first | with_reducible exact Below.refl _ _ | with_reducible refine bel_alloc ?_ _ | refine Below.setCell ?_ (by first | (simp; done) | (simp; omega) | omega) _)
      clear hW21 hL21 uc8 c8
      with_reducible refine (K187.out _ (HNV.out.up hB189)).mono ?_
      rintro e w21 ⟨rfl, hb21⟩
      have c190 := c188.up hb21
      have hB191 : Below w.heap.size w w21 := bel_up hB189 hb21
      clear c188
      have ne192_ : w1.heap.size < w21.heap.size := by have := c190.lt; omega
      have ne192 := Nat.ne_of_lt ne192_
      have ne192' := ne192.symm
      have uc190 := c190
      simp only [At, Own, Nat.reduceAdd, and_true] at uc190
      have K193 := Lib.hid (fun W (hv : NV W (.agg #[.slice An Nn cn, .slice Ar Nr cr]) N) => road_none N id _ W hv HG.out HR.out)
      go_wp2_with (fail)
      refine calls_named ?_
      intro W22 hW22
      have hL22 : Below w21.heap.size w21 W22 := by
        rw [hW22]
        repeat (first | with_reducible exact Below.refl _ _ | with_reducible refine bel_alloc ?_ _ | refine Below.setCell ?_ (by first | (simp; done) | (simp; omega) | omega) _)
      have c194 := c190.up hL22
      have c195 : Own W22 (w21.heap.size) 0 [.int .i64 a.i, .int .i64 a.x, .int .i64 a.y] := by
        rw [hW22]
        first
        | (repeat (first | (with_reducible refine own_new (l := [.int .i64 a.i, .int .i64 a.x, .int .i64 a.y]) ?_; (simp; done)) | with_reducible refine Own.alloc ?_ _ | refine Own.far _ _ (by first | (simp; done) | (simp [*]; done) | (simp; omega)) ?_)); done
        | simp [Own, go_sem, uc190, ne192, ne192', ne192_]
      have hB196 : Below w.heap.size w W22 := by
        rw [hW22]
        repeat (first | with_reducible exact hB191 | with_reducible refine bel_alloc ?_ _ | refine Below.setCell ?_ (by first | (simp; done) | (simp; omega) | omega) _)
      clear hW22 hL22 uc190 c190
      with_reducible refine (K193.out _ (HNV.out.up hB196)).mono ?_
      rintro e w22 ⟨rfl, hb22⟩
      have c197 := c194.up hb22
      have c198 := c195.up hb22
      have hB199 : Below w.heap.size w w22 := bel_up hB196 hb22
      clear c194 c195
      have ne200_ : w1.heap.size < w22.heap.size := by have := c197.lt; omega
      have ne200 := Nat.ne_of_lt ne200_
      have ne200' := ne200.symm
      have ne201_ : w21.heap.size < w22.heap.size := by have := c198.lt; omega
      have ne201 := Nat.ne_of_lt ne201_
      have ne201' := ne201.symm
      have uc197 := c197; have uc198 := c198
      simp only [At, Own, Nat.reduceAdd, and_true] at uc197 uc198
      have K202 := Lib.hid (fun W (hv : NV W (.agg #[.slice An Nn cn, .slice Ar Nr cr]) N) => lnode_j N id j _ W hv ⟨by rw [HNn.out]; exact hln, by rw [HNr.out]; exact hlr⟩ HJ.out)
      have K203 := Lib.hid (fun W (hv : NV W (.agg #[.slice An Nn cn, .slice Ar Nr cr]) N) => lroad_i N id (-1) _ W hv ⟨by rw [HNn.out]; exact hln, by rw [HNr.out]; exact hlr⟩ HK.out)
      go_wp2_with fail
      refine wp_named ?_
      intro W23 hW23
      have hL23 : Below w22.heap.size w22 W23 := by
        rw [hW23]
        repeat (first | with_reducible exact Below.refl _ _ | with_reducible refine bel_alloc ?_ _ | refine Below.setCell ?_ (by first | (simp; done) | (simp; omega) | omega) _)
      have c204 := c197.up hL23
      have c205 := c198.up hL23
      have c206 : Own W23 (w22.heap.size) 0 [.int .i64 0, .int .i64 0, .int .i64 0, .int .i64 0, .int .i64 0, .bool false] := by
        rw [hW23]
        first
        | (repeat (first | (with_reducible refine own_new (l := [.int .i64 0, .int .i64 0, .int .i64 0, .int .i64 0, .int .i64 0, .bool false]) ?_; (simp; done)) | with_reducible refine Own.alloc ?_ _ | refine Own.far _ _ (by first | (simp; done) | (simp [*]; done) | (simp; omega)) ?_)); done
        | simp [Own, go_sem, uc197, uc198, ne200, ne200', ne200_, ne201, ne201', ne201_]
      have hB207 : Below w.heap.size w W23 := by
        rw [hW23]
        repeat (first | with_reducible exact hB199 | with_reducible refine bel_alloc ?_ _ | refine Below.setCell ?_ (by first | (simp; done) | (simp; omega) | omega) _)
      clear hW23 hL23 uc197 uc198 c197 c198
      have dc204 := fun p : Bel W23 => c204.bel p; have dc205 := fun p : Bel W23 => c205.bel p; have dc206 := fun p : Bel W23 => c206.bel p
      simp only [At, Own, Nat.reduceAdd, and_true] at dc204 dc205 dc206
      refine wp_region_tail 6 (by kernel_rfl) (by kernel_rfl) ?_
      simp only [List.take_succ_cons, List.take_zero, List.drop_succ_cons, List.drop_zero]
      repeat (go_big_quiet_step (first | (go_at_call 27; with_reducible exact Calls.bel (K202.out _ (HNV.out.up (bel_up hB207 (Bel.h _))))) | (go_at_call 31; with_reducible exact Calls.bel (K203.out _ (HNV.out.up (bel_up hB207 (Bel.h _)))))))
      refine wpQuiet_nil ?_
      intro w23 hb23
      have c208 := c204.up hb23
      have c209 := c205.up hb23
      have c210 := c206.up hb23
      have hB211 : Below w.heap.size w w23 := bel_up hB207 hb23
      clear dc204 dc205 dc206 c204 c205 c206
      have uc208 := c208; have uc209 := c209; have uc210 := c210
      simp only [At, Own, Nat.reduceAdd, and_true] at uc208 uc209 uc210
      have K212 := Lib.hid (fun W => known_any W)
      go_wp2_with (fail)
      refine calls_named ?_
      intro W24 hW24
      have hL24 : Below w23.heap.size w23 W24 := by
        rw [hW24]
        repeat (first | with_reducible exact Below.refl _ _ | with_reducible refine bel_alloc ?_ _ | refine Below.setCell ?_ (by first | (simp; done) | (simp; omega) | omega) _)
      have c213 := c208.up hL24
      have c214 := c209.up hL24
      have c215 := c210.up hL24
      have hB216 : Below w.heap.size w W24 := by
        rw [hW24]
        repeat (first | with_reducible exact hB211 | with_reducible refine bel_alloc ?_ _ | refine Below.setCell ?_ (by first | (simp; done) | (simp; omega) | omega) _)
      clear hW24 hL24 uc208 uc209 uc210 c208 c209 c210
      with_reducible refine (K212.out _).mono ?_
      rintro e w24 ⟨rfl, hb24⟩
      have c217 := c213.up hb24
      have c218 := c214.up hb24
      have c219 := c215.up hb24
      have hB220 : Below w.heap.size w w24 := bel_up hB216 hb24
      clear c213 c214 c215
      have EQ0 := fun W => eqNd_in a a W
      rw [decide_eq_true rfl] at EQ0
      have EQ1 := fun W => eqRd_in (Rd.mk 0 0 0 0 0 false) (Rd.mk 0 0 0 0 0 false) W
      rw [decide_eq_true rfl] at EQ1
      try dsimp only at EQ0 EQ1
      go_wp2_with fail
      refine wp_named ?_
      intro W25 hW25
      have hL25 : Below w24.heap.size w24 W25 := by
        rw [hW25]
        repeat (first | with_reducible exact Below.refl _ _ | with_reducible refine bel_alloc ?_ _ | refine Below.setCell ?_ (by first | (simp; done) | (simp; omega) | omega) _)
      have c221 := c217.up hL25
      have c222 := c218.up hL25
      have c223 := c219.up hL25
      have hB224 : Below w.heap.size w W25 := by
        rw [hW25]
        repeat (first | with_reducible exact hB220 | with_reducible refine bel_alloc ?_ _ | refine Below.setCell ?_ (by first | (simp; done) | (simp; omega) | omega) _)
      clear hW25 hL25 c217 c218 c219
      have dc221 := fun p : Bel W25 => c221.bel p; have dc222 := fun p : Bel W25 => c222.bel p; have dc223 := fun p : Bel W25 => c223.bel p
      simp only [At, Own, Nat.reduceAdd, and_true] at dc221 dc222 dc223
      obtain ⟨g226, o227, ha228, -⟩ := (HXN.out).up kpN hB224 _ _ HJ2.out
      subst ha228
      have ce225 := LX.at_ ((HXN.out).up kpN hB224) HJ2.out
      have ce225_ : g226 < W25.heap.size := World.block_lt_of_cell? _ _ ce225.1
      have dce225 := fun b : Bel W25 => ce225.bel b
      simp only [CN, ndc, At, Nat.reduceMul] at dce225
      refine wp_region_all (by kernel_rfl) (by kernel_rfl) ?_
      repeat (go_big_quiet_step (fail))
      refine wpQuiet_nil ?_
      intro w25 hb25
      have c229 := c221.up hb25
      have c230 := c222.up hb25
      have c231 := c223.up hb25
      have hB232 : Below w.heap.size w w25 := bel_up hB224 hb25
      clear dc221 dc222 dc223 dce225 c221 c222 c223
      have uc229 := c229; have uc230 := c230; have uc231 := c231
      simp only [At, Own, Nat.reduceAdd, and_true] at uc229 uc230 uc231
      clear EQ0 EQ1
      go_upto_region 11 with fail
      refine wp_named ?_
      intro W26 hW26
      have hL26 : Below w25.heap.size w25 W26 := by
        rw [hW26]
        repeat (first | with_reducible exact Below.refl _ _ | with_reducible refine bel_alloc ?_ _ | refine Below.setCell ?_ (by first | (simp; done) | (simp; omega) | omega) _)
      have c233 := c229.up hL26
      have c234 := c230.up hL26
      have c235 := c231.up hL26
      have hB236 : Below w.heap.size w W26 := by
        rw [hW26]
        repeat (first | with_reducible exact hB232 | with_reducible refine bel_alloc ?_ _ | refine Below.setCell ?_ (by first | (simp; done) | (simp; omega) | omega) _)
      clear hW26 hL26 uc229 uc230 uc231 c229 c230 c231
      have K237 := Lib.hid (fun W (hv : NV W (.agg #[.slice (some ⟨g226, o227, none⟩) Nn cn, .slice Ar Nr cr]) N) => own_list (lleaves_any N id false _ W hv ⟨by rw [HNn.out]; exact hln, by rw [HNr.out]; exact hlr⟩))
      have K239 := Lib.hid (fun W (hv : NV W (.agg #[.slice (some ⟨g226, o227, none⟩) Nn cn, .slice Ar Nr cr]) N) => own_list (lleaves_any N id true _ W hv ⟨by rw [HNn.out]; exact hln, by rw [HNr.out]; exact hlr⟩))
      have HSS241 : ∀ w' : World, Below W26.heap.size W26 w' → (w'.cell? ⟨w1.heap.size, 0, none⟩ = some (.slice (some ⟨g226, o227, none⟩) Nn cn) ∧ w'.cell? ⟨w1.heap.size, 1, none⟩ = some (.slice Ar Nr cr)) := fun w' hb => by
        have qc233 := c233.up hb
        simp only [At, Own, CE, CS, Nat.reduceAdd, Nat.reduceMul, Nat.zero_mul, Nat.add_zero, Nat.add_assoc, and_true] at qc233
        try simp only [Nat.add_assoc, Nat.reduceAdd]
        simp [*]
      go_cut [12, 13] (fun x12 x13 wx => IL wx x12 (idsOf (lvP id false) N.rs) ∧ IL wx x13 (idsOf (lvP id true) N.rs) ∧ Below W26.heap.size W26 wx)
      case first =>
        have hu := HSS241 W26 (Below.refl _ _)
        go_region_held3 (fun w' => w'.cell? ⟨w1.heap.size, 0, none⟩ = some (.slice (some ⟨g226, o227, none⟩) Nn cn) ∧ w'.cell? ⟨w1.heap.size, 1, none⟩ = some (.slice Ar Nr cr)) (refine HSS241 _ ?_ <;> (repeat (first | with_reducible exact Below.refl _ _ | with_reducible refine bel_alloc ?_ _ | with_reducible refine Below.drew ?_ | (refine Below.setCell ?_ (by first | (simp; done) | (simp; omega) | omega) _) | with_reducible refine bel_up ?_ (by with_reducible assumption)))) (first
          | (go_at_call 32; with_reducible refine (K237.out _ (HNV.out.up (bel_up hB236 (by (repeat (first | with_reducible exact Below.refl _ _ | with_reducible refine bel_alloc ?_ _ | with_reducible refine Below.drew ?_ | (refine Below.setCell ?_ (by first | (simp; done) | (simp; omega) | omega) _) | with_reducible refine bel_up ?_ (by with_reducible assumption))))))).mono ?_; rintro e v_238 ⟨vv_238, rfl, hv_238, hbq_238⟩; have hsz_238 := hbq_238.size; (try simp [size_drewC] at hsz_238))
          | (go_at_call 32; with_reducible refine (K239.out _ (HNV.out.up (bel_up hB236 (by (repeat (first | with_reducible exact Below.refl _ _ | with_reducible refine bel_alloc ?_ _ | with_reducible refine Below.drew ?_ | (refine Below.setCell ?_ (by first | (simp; done) | (simp; omega) | omega) _) | with_reducible refine bel_up ?_ (by with_reducible assumption))))))).mono ?_; rintro e v_240 ⟨vv_240, rfl, hv_240, hbq_240⟩; have hsz_240 := hbq_240.size; (try simp [size_drewC] at hsz_240)))
        all_goals
          go_wp2_with fail
          go_meet
          refine ⟨(hv_238.up (by repeat (first | with_reducible exact Below.refl _ _ | with_reducible refine bel_alloc ?_ _ | with_reducible refine Below.drew ?_ | (refine Below.setCell ?_ (by first | (simp; done) | (simp; omega) | omega) _) | with_reducible refine bel_up ?_ (by with_reducible assumption)))), (hv_240.up (by repeat (first | with_reducible exact Below.refl _ _ | with_reducible refine bel_alloc ?_ _ | with_reducible refine Below.drew ?_ | (refine Below.setCell ?_ (by first | (simp; done) | (simp; omega) | omega) _) | with_reducible refine bel_up ?_ (by with_reducible assumption)))), ?_⟩
          · (repeat (first | with_reducible exact Below.refl _ _ | with_reducible refine bel_alloc ?_ _ | with_reducible refine Below.drew ?_ | (refine Below.setCell ?_ (by first | (simp; done) | (simp; omega) | omega) _) | with_reducible refine bel_up ?_ (by with_reducible assumption)))
      case rest =>
        obtain ⟨lv242, lv243, hbz26⟩ := hcut
        obtain ⟨wz26, hwz26⟩ : ∃ W_, W_ = wc := ⟨_, rfl⟩
        subst hwz26
        clear HSS241
        have c244 := c233.up hbz26
        have c245 := c234.up hbz26
        have c246 := c235.up hbz26
        have hB247 : Below w.heap.size w wz26 := bel_up hB236 hbz26
        clear c233 c234 c235
        have PV248 := Lib.hid lv242
        clear lv242
        have PV250 := Lib.hid lv243
        clear lv243
        have uc244 := c244; have uc245 := c245; have uc246 := c246
        simp only [At, Own, Nat.reduceAdd, and_true] at uc244 uc245 uc246
        have K252 := Lib.hid (fun W (hv : NV W (.agg #[.slice (some ⟨g226, o227, none⟩) Nn cn, .slice Ar Nr cr]) N) => own_list (out_any N id _ W hv HG.out))
        go_wp2_with (fail)
        refine calls_named ?_
        intro W27 hW27
        have hL27 : Below wz26.heap.size wz26 W27 := by
          rw [hW27]
          repeat (first | with_reducible exact Below.refl _ _ | with_reducible refine bel_alloc ?_ _ | refine Below.setCell ?_ (by first | (simp; done) | (simp; omega) | omega) _)
        have c253 := c244.up hL27
        have c254 := c245.up hL27
        have c255 := c246.up hL27
        have hA256 := hL27
        have hB257 : Below w.heap.size w W27 := by
          rw [hW27]
          repeat (first | with_reducible exact hB247 | with_reducible refine bel_alloc ?_ _ | refine Below.setCell ?_ (by first | (simp; done) | (simp; omega) | omega) _)
        clear hW27 hL27 uc244 uc245 uc246 c244 c245 c246
        with_reducible refine (K252.out _ (HNV.out.up hB257)).mono ?_
        rintro e w27 ⟨v27, rfl, hv27, hb27⟩
        have c258 := c253.up hb27
        have c259 := c254.up hb27
        have c260 := c255.up hb27
        have hA261 := bel_up hA256 hb27
        have hB262 : Below w.heap.size w w27 := bel_up hB257 hb27
        clear c253 c254 c255 hA256
        have PW27 := Lib.hid hv27
        clear hv27
        have K263 := Lib.hid (fun W va vb (ha : IL W va (idsOf (outP id) N.rs)) (hb : IL W vb (idsOf (lvP id false) N.rs)) => lsame_eq (idsOf (outP id) N.rs) (idsOf (lvP id false) N.rs) va vb W ha hb (Nat.le_trans (ids_le _ _) (by rw [HNr.out]; exact hlr)) rfl)
        have uc258 := c258; have uc259 := c259; have uc260 := c260
        simp only [At, Own, Nat.reduceAdd, and_true] at uc258 uc259 uc260
        go_wp2_with (fail)
        refine calls_named ?_
        intro W28 hW28
        have hL28 : Below w27.heap.size w27 W28 := by
          rw [hW28]
          repeat (first | with_reducible exact Below.refl _ _ | with_reducible refine bel_alloc ?_ _ | refine Below.setCell ?_ (by first | (simp; done) | (simp; omega) | omega) _)
        have c264 := c258.up hL28
        have c265 := c259.up hL28
        have c266 := c260.up hL28
        have hA267 := bel_up hA261 hL28
        have hA268 := hL28
        have hB269 : Below w.heap.size w W28 := by
          rw [hW28]
          repeat (first | with_reducible exact hB262 | with_reducible refine bel_alloc ?_ _ | refine Below.setCell ?_ (by first | (simp; done) | (simp; omega) | omega) _)
        clear hW28 hL28 uc258 uc259 uc260 c258 c259 c260 hA261
        with_reducible refine (K263.out _ _ _ ((PW27.out.up hA268)) ((PV248.out.up hA267))).mono ?_
        rintro e w28 ⟨rfl, hb28⟩
        have c270 := c264.up hb28
        have c271 := c265.up hb28
        have c272 := c266.up hb28
        have hA273 := bel_up hA267 hb28
        have hA274 := bel_up hA268 hb28
        have hB275 : Below w.heap.size w w28 := bel_up hB269 hb28
        clear c264 c265 c266 hA267 hA268
        have uc270 := c270; have uc271 := c271; have uc272 := c272
        simp only [At, Own, Nat.reduceAdd, and_true] at uc270 uc271 uc272
        have K276 := Lib.hid (fun W (hv : NV W (.agg #[.slice (some ⟨g226, o227, none⟩) Nn cn, .slice Ar Nr cr]) N) => own_list (in_any N id _ W hv HG.out))
        go_wp2_with (fail)
        refine calls_named ?_
        intro W29 hW29
        have hL29 : Below w28.heap.size w28 W29 := by
          rw [hW29]
          repeat (first | with_reducible exact Below.refl _ _ | with_reducible refine bel_alloc ?_ _ | refine Below.setCell ?_ (by first | (simp; done) | (simp; omega) | omega) _)
        have c277 := c270.up hL29
        have c278 := c271.up hL29
        have c279 := c272.up hL29
        have hA280 := bel_up hA273 hL29
        have hA281 := bel_up hA274 hL29
        have hB282 : Below w.heap.size w W29 := by
          rw [hW29]
          repeat (first | with_reducible exact hB275 | with_reducible refine bel_alloc ?_ _ | refine Below.setCell ?_ (by first | (simp; done) | (simp; omega) | omega) _)
        clear hW29 hL29 uc270 uc271 uc272 c270 c271 c272 hA273 hA274
        with_reducible refine (K276.out _ (HNV.out.up hB282)).mono ?_
        rintro e w29 ⟨v29, rfl, hv29, hb29⟩
        have c283 := c277.up hb29
        have c284 := c278.up hb29
        have c285 := c279.up hb29
        have hA286 := bel_up hA280 hb29
        have hA287 := bel_up hA281 hb29
        have hB288 : Below w.heap.size w w29 := bel_up hB282 hb29
        clear c277 c278 c279 hA280 hA281
        have PW29 := Lib.hid hv29
        clear hv29
        have K289 := Lib.hid (fun W va vb (ha : IL W va (idsOf (inP id) N.rs)) (hb : IL W vb (idsOf (lvP id true) N.rs)) => lsame_eq (idsOf (inP id) N.rs) (idsOf (lvP id true) N.rs) va vb W ha hb (Nat.le_trans (ids_le _ _) (by rw [HNr.out]; exact hlr)) rfl)
        have uc283 := c283; have uc284 := c284; have uc285 := c285
        simp only [At, Own, Nat.reduceAdd, and_true] at uc283 uc284 uc285
        go_wp2_with (fail)
        refine calls_named ?_
        intro W30 hW30
        have hL30 : Below w29.heap.size w29 W30 := by
          rw [hW30]
          repeat (first | with_reducible exact Below.refl _ _ | with_reducible refine bel_alloc ?_ _ | refine Below.setCell ?_ (by first | (simp; done) | (simp; omega) | omega) _)
        have c290 := c283.up hL30
        have c291 := c284.up hL30
        have c292 := c285.up hL30
        have hA293 := bel_up hA286 hL30
        have hA294 := bel_up hA287 hL30
        have hA295 := hL30
        have hB296 : Below w.heap.size w W30 := by
          rw [hW30]
          repeat (first | with_reducible exact hB288 | with_reducible refine bel_alloc ?_ _ | refine Below.setCell ?_ (by first | (simp; done) | (simp; omega) | omega) _)
        clear hW30 hL30 uc283 uc284 uc285 c283 c284 c285 hA286 hA287
        with_reducible refine (K289.out _ _ _ ((PW29.out.up hA295)) ((PV250.out.up hA293))).mono ?_
        rintro e w30 ⟨rfl, hb30⟩
        have c297 := c290.up hb30
        have c298 := c291.up hb30
        have c299 := c292.up hb30
        have hA300 := bel_up hA293 hb30
        have hA301 := bel_up hA294 hb30
        have hA302 := bel_up hA295 hb30
        have hB303 : Below w.heap.size w w30 := bel_up hB296 hb30
        clear c290 c291 c292 hA293 hA294 hA295
        have uc297 := c297; have uc298 := c298; have uc299 := c299
        simp only [At, Own, Nat.reduceAdd, and_true] at uc297 uc298 uc299
        go_wp2
        go_ret
        exact ⟨rfl, bel_up hBw (by repeat (first | with_reducible exact hB303 | with_reducible refine bel_alloc ?_ _ | refine Below.setCell ?_ (by first | (simp; done) | (simp; omega) | omega) _))⟩
    | some r =>
      obtain ⟨k, hk, hk2⟩ := frd_idx hb
      have hkn : k < Nr := by have e_ := (List.getElem?_eq_some_iff.1 hk2).1; rw [HNr.out] at e_; exact e_
      have i1k : (k : Int) < Nr := by omega
      have i0k : ¬ (k : Int) < 0 := by omega
      have i2k : (0 : Int) ≤ k := by omega
      have HK := Lib.hid hk
      have HK2 := Lib.hid hk2
      have HR := Lib.hid hb
      clear hk hk2 hb
      have uc8 := c8
      simp only [At, Own, Nat.reduceAdd, and_true] at uc8
      have K304 := Lib.hid (fun W (hv : NV W (.agg #[.slice An Nn cn, .slice Ar Nr cr]) N) => node_some N a id _ W hv HG.out.half HA.out)
      go_wp2_with (fail)
      refine calls_named ?_
      intro W31 hW31
      have hL31 : Below w.heap.size w W31 := by
        rw [hW31]
        repeat (first | with_reducible exact Below.refl _ _ | with_reducible refine bel_alloc ?_ _ | refine Below.setCell ?_ (by first | (simp; done) | (simp; omega) | omega) _)
      have c305 := c8.up hL31
      have hB306 : Below w.heap.size w W31 := by
        rw [hW31]
        repeat (first | with_reducible exact Below.refl _ _ | with_reducible refine bel_alloc ?_ _ | refine Below.setCell ?_ (by first | (simp; done) | (simp; omega) | omega) _)
      clear hW31 hL31 uc8 c8
      with_reducible refine (K304.out _ (HNV.out.up hB306)).mono ?_
      rintro e w31 ⟨rfl, hb31⟩
      have c307 := c305.up hb31
      have hB308 : Below w.heap.size w w31 := bel_up hB306 hb31
      clear c305
      have ne309_ : w1.heap.size < w31.heap.size := by have := c307.lt; omega
      have ne309 := Nat.ne_of_lt ne309_
      have ne309' := ne309.symm
      have uc307 := c307
      simp only [At, Own, Nat.reduceAdd, and_true] at uc307
      have K310 := Lib.hid (fun W (hv : NV W (.agg #[.slice An Nn cn, .slice Ar Nr cr]) N) => road_some N r id _ W hv HG.out HR.out)
      go_wp2_with (fail)
      refine calls_named ?_
      intro W32 hW32
      have hL32 : Below w31.heap.size w31 W32 := by
        rw [hW32]
        repeat (first | with_reducible exact Below.refl _ _ | with_reducible refine bel_alloc ?_ _ | refine Below.setCell ?_ (by first | (simp; done) | (simp; omega) | omega) _)
      have c311 := c307.up hL32
      have c312 : Own W32 (w31.heap.size) 0 [.int .i64 a.i, .int .i64 a.x, .int .i64 a.y] := by
        rw [hW32]
        first
        | (repeat (first | (with_reducible refine own_new (l := [.int .i64 a.i, .int .i64 a.x, .int .i64 a.y]) ?_; (simp; done)) | with_reducible refine Own.alloc ?_ _ | refine Own.far _ _ (by first | (simp; done) | (simp [*]; done) | (simp; omega)) ?_)); done
        | simp [Own, go_sem, uc307, ne309, ne309', ne309_]
      have hB313 : Below w.heap.size w W32 := by
        rw [hW32]
        repeat (first | with_reducible exact hB308 | with_reducible refine bel_alloc ?_ _ | refine Below.setCell ?_ (by first | (simp; done) | (simp; omega) | omega) _)
      clear hW32 hL32 uc307 c307
      with_reducible refine (K310.out _ (HNV.out.up hB313)).mono ?_
      rintro e w32 ⟨rfl, hb32⟩
      have c314 := c311.up hb32
      have c315 := c312.up hb32
      have hB316 : Below w.heap.size w w32 := bel_up hB313 hb32
      clear c311 c312
      have ne317_ : w1.heap.size < w32.heap.size := by have := c314.lt; omega
      have ne317 := Nat.ne_of_lt ne317_
      have ne317' := ne317.symm
      have ne318_ : w31.heap.size < w32.heap.size := by have := c315.lt; omega
      have ne318 := Nat.ne_of_lt ne318_
      have ne318' := ne318.symm
      have uc314 := c314; have uc315 := c315
      simp only [At, Own, Nat.reduceAdd, and_true] at uc314 uc315
      have K319 := Lib.hid (fun W (hv : NV W (.agg #[.slice An Nn cn, .slice Ar Nr cr]) N) => lnode_j N id j _ W hv ⟨by rw [HNn.out]; exact hln, by rw [HNr.out]; exact hlr⟩ HJ.out)
      have K320 := Lib.hid (fun W (hv : NV W (.agg #[.slice An Nn cn, .slice Ar Nr cr]) N) => lroad_i N id k _ W hv ⟨by rw [HNn.out]; exact hln, by rw [HNr.out]; exact hlr⟩ HK.out)
      go_wp2_with fail
      refine wp_named ?_
      intro W33 hW33
      have hL33 : Below w32.heap.size w32 W33 := by
        rw [hW33]
        repeat (first | with_reducible exact Below.refl _ _ | with_reducible refine bel_alloc ?_ _ | refine Below.setCell ?_ (by first | (simp; done) | (simp; omega) | omega) _)
      have c321 := c314.up hL33
      have c322 := c315.up hL33
      have c323 : Own W33 (w32.heap.size) 0 [.int .i64 r.i, .int .i64 r.f, .int .i64 r.t, .int .i64 r.l, .int .i64 r.m, .bool r.o] := by
        rw [hW33]
        first
        | (repeat (first | (with_reducible refine own_new (l := [.int .i64 r.i, .int .i64 r.f, .int .i64 r.t, .int .i64 r.l, .int .i64 r.m, .bool r.o]) ?_; (simp; done)) | with_reducible refine Own.alloc ?_ _ | refine Own.far _ _ (by first | (simp; done) | (simp [*]; done) | (simp; omega)) ?_)); done
        | simp [Own, go_sem, uc314, uc315, ne317, ne317', ne317_, ne318, ne318', ne318_]
      have hB324 : Below w.heap.size w W33 := by
        rw [hW33]
        repeat (first | with_reducible exact hB316 | with_reducible refine bel_alloc ?_ _ | refine Below.setCell ?_ (by first | (simp; done) | (simp; omega) | omega) _)
      clear hW33 hL33 uc314 uc315 c314 c315
      have dc321 := fun p : Bel W33 => c321.bel p; have dc322 := fun p : Bel W33 => c322.bel p; have dc323 := fun p : Bel W33 => c323.bel p
      simp only [At, Own, Nat.reduceAdd, and_true] at dc321 dc322 dc323
      refine wp_region_tail 6 (by kernel_rfl) (by kernel_rfl) ?_
      simp only [List.take_succ_cons, List.take_zero, List.drop_succ_cons, List.drop_zero]
      repeat (go_big_quiet_step (first | (go_at_call 27; with_reducible exact Calls.bel (K319.out _ (HNV.out.up (bel_up hB324 (Bel.h _))))) | (go_at_call 31; with_reducible exact Calls.bel (K320.out _ (HNV.out.up (bel_up hB324 (Bel.h _)))))))
      refine wpQuiet_nil ?_
      intro w33 hb33
      have c325 := c321.up hb33
      have c326 := c322.up hb33
      have c327 := c323.up hb33
      have hB328 : Below w.heap.size w w33 := bel_up hB324 hb33
      clear dc321 dc322 dc323 c321 c322 c323
      have uc325 := c325; have uc326 := c326; have uc327 := c327
      simp only [At, Own, Nat.reduceAdd, and_true] at uc325 uc326 uc327
      have K329 := Lib.hid (fun W => known_any W)
      go_wp2_with (fail)
      refine calls_named ?_
      intro W34 hW34
      have hL34 : Below w33.heap.size w33 W34 := by
        rw [hW34]
        repeat (first | with_reducible exact Below.refl _ _ | with_reducible refine bel_alloc ?_ _ | refine Below.setCell ?_ (by first | (simp; done) | (simp; omega) | omega) _)
      have c330 := c325.up hL34
      have c331 := c326.up hL34
      have c332 := c327.up hL34
      have hB333 : Below w.heap.size w W34 := by
        rw [hW34]
        repeat (first | with_reducible exact hB328 | with_reducible refine bel_alloc ?_ _ | refine Below.setCell ?_ (by first | (simp; done) | (simp; omega) | omega) _)
      clear hW34 hL34 uc325 uc326 uc327 c325 c326 c327
      with_reducible refine (K329.out _).mono ?_
      rintro e w34 ⟨rfl, hb34⟩
      have c334 := c330.up hb34
      have c335 := c331.up hb34
      have c336 := c332.up hb34
      have hB337 : Below w.heap.size w w34 := bel_up hB333 hb34
      clear c330 c331 c332
      have EQ0 := fun W => eqNd_in a a W
      rw [decide_eq_true rfl] at EQ0
      have EQ1 := fun W => eqRd_in r r W
      rw [decide_eq_true rfl] at EQ1
      try dsimp only at EQ0 EQ1
      go_wp2_with fail
      refine wp_named ?_
      intro W35 hW35
      have hL35 : Below w34.heap.size w34 W35 := by
        rw [hW35]
        repeat (first | with_reducible exact Below.refl _ _ | with_reducible refine bel_alloc ?_ _ | refine Below.setCell ?_ (by first | (simp; done) | (simp; omega) | omega) _)
      have c338 := c334.up hL35
      have c339 := c335.up hL35
      have c340 := c336.up hL35
      have hB341 : Below w.heap.size w W35 := by
        rw [hW35]
        repeat (first | with_reducible exact hB337 | with_reducible refine bel_alloc ?_ _ | refine Below.setCell ?_ (by first | (simp; done) | (simp; omega) | omega) _)
      clear hW35 hL35 c334 c335 c336
      have dc338 := fun p : Bel W35 => c338.bel p; have dc339 := fun p : Bel W35 => c339.bel p; have dc340 := fun p : Bel W35 => c340.bel p
      simp only [At, Own, Nat.reduceAdd, and_true] at dc338 dc339 dc340
      obtain ⟨g343, o344, ha345, -⟩ := (HXN.out).up kpN hB341 _ _ HJ2.out
      subst ha345
      have ce342 := LX.at_ ((HXN.out).up kpN hB341) HJ2.out
      have ce342_ : g343 < W35.heap.size := World.block_lt_of_cell? _ _ ce342.1
      have dce342 := fun b : Bel W35 => ce342.bel b
      simp only [CN, ndc, At, Nat.reduceMul] at dce342
      obtain ⟨g347, o348, ha349, -⟩ := (HXR.out).up kpR hB341 _ _ HK2.out
      subst ha349
      have ce346 := LX.at_ ((HXR.out).up kpR hB341) HK2.out
      have ce346_ : g347 < W35.heap.size := World.block_lt_of_cell? _ _ ce346.1
      have dce346 := fun b : Bel W35 => ce346.bel b
      simp only [CR, rdc, At, Nat.reduceMul] at dce346
      refine wp_region_all (by kernel_rfl) (by kernel_rfl) ?_
      repeat (go_big_quiet_step (fail))
      refine wpQuiet_nil ?_
      intro w35 hb35
      have c350 := c338.up hb35
      have c351 := c339.up hb35
      have c352 := c340.up hb35
      have hB353 : Below w.heap.size w w35 := bel_up hB341 hb35
      clear dc338 dc339 dc340 dce342 dce346 c338 c339 c340
      have uc350 := c350; have uc351 := c351; have uc352 := c352
      simp only [At, Own, Nat.reduceAdd, and_true] at uc350 uc351 uc352
      clear EQ0 EQ1
      go_upto_region 11 with fail
      refine wp_named ?_
      intro W36 hW36
      have hL36 : Below w35.heap.size w35 W36 := by
        rw [hW36]
        repeat (first | with_reducible exact Below.refl _ _ | with_reducible refine bel_alloc ?_ _ | refine Below.setCell ?_ (by first | (simp; done) | (simp; omega) | omega) _)
      have c354 := c350.up hL36
      have c355 := c351.up hL36
      have c356 := c352.up hL36
      have hB357 : Below w.heap.size w W36 := by
        rw [hW36]
        repeat (first | with_reducible exact hB353 | with_reducible refine bel_alloc ?_ _ | refine Below.setCell ?_ (by first | (simp; done) | (simp; omega) | omega) _)
      clear hW36 hL36 uc350 uc351 uc352 c350 c351 c352
      have K358 := Lib.hid (fun W (hv : NV W (.agg #[.slice (some ⟨g343, o344, none⟩) Nn cn, .slice (some ⟨g347, o348, none⟩) Nr cr]) N) => own_list (lleaves_any N id false _ W hv ⟨by rw [HNn.out]; exact hln, by rw [HNr.out]; exact hlr⟩))
      have K360 := Lib.hid (fun W (hv : NV W (.agg #[.slice (some ⟨g343, o344, none⟩) Nn cn, .slice (some ⟨g347, o348, none⟩) Nr cr]) N) => own_list (lleaves_any N id true _ W hv ⟨by rw [HNn.out]; exact hln, by rw [HNr.out]; exact hlr⟩))
      have HSS362 : ∀ w' : World, Below W36.heap.size W36 w' → (w'.cell? ⟨w1.heap.size, 0, none⟩ = some (.slice (some ⟨g343, o344, none⟩) Nn cn) ∧ w'.cell? ⟨w1.heap.size, 1, none⟩ = some (.slice (some ⟨g347, o348, none⟩) Nr cr)) := fun w' hb => by
        have qc354 := c354.up hb
        simp only [At, Own, CE, CS, Nat.reduceAdd, Nat.reduceMul, Nat.zero_mul, Nat.add_zero, Nat.add_assoc, and_true] at qc354
        try simp only [Nat.add_assoc, Nat.reduceAdd]
        simp [*]
      go_cut [12, 13] (fun x12 x13 wx => IL wx x12 (idsOf (lvP id false) N.rs) ∧ IL wx x13 (idsOf (lvP id true) N.rs) ∧ Below W36.heap.size W36 wx)
      case first =>
        have hu := HSS362 W36 (Below.refl _ _)
        go_region_held3 (fun w' => w'.cell? ⟨w1.heap.size, 0, none⟩ = some (.slice (some ⟨g343, o344, none⟩) Nn cn) ∧ w'.cell? ⟨w1.heap.size, 1, none⟩ = some (.slice (some ⟨g347, o348, none⟩) Nr cr)) (refine HSS362 _ ?_ <;> (repeat (first | with_reducible exact Below.refl _ _ | with_reducible refine bel_alloc ?_ _ | with_reducible refine Below.drew ?_ | (refine Below.setCell ?_ (by first | (simp; done) | (simp; omega) | omega) _) | with_reducible refine bel_up ?_ (by with_reducible assumption)))) (first
          | (go_at_call 32; with_reducible refine (K358.out _ (HNV.out.up (bel_up hB357 (by (repeat (first | with_reducible exact Below.refl _ _ | with_reducible refine bel_alloc ?_ _ | with_reducible refine Below.drew ?_ | (refine Below.setCell ?_ (by first | (simp; done) | (simp; omega) | omega) _) | with_reducible refine bel_up ?_ (by with_reducible assumption))))))).mono ?_; rintro e v_359 ⟨vv_359, rfl, hv_359, hbq_359⟩; have hsz_359 := hbq_359.size; (try simp [size_drewC] at hsz_359))
          | (go_at_call 32; with_reducible refine (K360.out _ (HNV.out.up (bel_up hB357 (by (repeat (first | with_reducible exact Below.refl _ _ | with_reducible refine bel_alloc ?_ _ | with_reducible refine Below.drew ?_ | (refine Below.setCell ?_ (by first | (simp; done) | (simp; omega) | omega) _) | with_reducible refine bel_up ?_ (by with_reducible assumption))))))).mono ?_; rintro e v_361 ⟨vv_361, rfl, hv_361, hbq_361⟩; have hsz_361 := hbq_361.size; (try simp [size_drewC] at hsz_361)))
        all_goals
          go_wp2_with fail
          go_meet
          refine ⟨(hv_359.up (by repeat (first | with_reducible exact Below.refl _ _ | with_reducible refine bel_alloc ?_ _ | with_reducible refine Below.drew ?_ | (refine Below.setCell ?_ (by first | (simp; done) | (simp; omega) | omega) _) | with_reducible refine bel_up ?_ (by with_reducible assumption)))), (hv_361.up (by repeat (first | with_reducible exact Below.refl _ _ | with_reducible refine bel_alloc ?_ _ | with_reducible refine Below.drew ?_ | (refine Below.setCell ?_ (by first | (simp; done) | (simp; omega) | omega) _) | with_reducible refine bel_up ?_ (by with_reducible assumption)))), ?_⟩
          · (repeat (first | with_reducible exact Below.refl _ _ | with_reducible refine bel_alloc ?_ _ | with_reducible refine Below.drew ?_ | (refine Below.setCell ?_ (by first | (simp; done) | (simp; omega) | omega) _) | with_reducible refine bel_up ?_ (by with_reducible assumption)))
      case rest =>
        obtain ⟨lv363, lv364, hbz36⟩ := hcut
        obtain ⟨wz36, hwz36⟩ : ∃ W_, W_ = wc := ⟨_, rfl⟩
        subst hwz36
        clear HSS362
        have c365 := c354.up hbz36
        have c366 := c355.up hbz36
        have c367 := c356.up hbz36
        have hB368 : Below w.heap.size w wz36 := bel_up hB357 hbz36
        clear c354 c355 c356
        have PV369 := Lib.hid lv363
        clear lv363
        have PV371 := Lib.hid lv364
        clear lv364
        have uc365 := c365; have uc366 := c366; have uc367 := c367
        simp only [At, Own, Nat.reduceAdd, and_true] at uc365 uc366 uc367
        have K373 := Lib.hid (fun W (hv : NV W (.agg #[.slice (some ⟨g343, o344, none⟩) Nn cn, .slice (some ⟨g347, o348, none⟩) Nr cr]) N) => own_list (out_any N id _ W hv HG.out))
        go_wp2_with (fail)
        refine calls_named ?_
        intro W37 hW37
        have hL37 : Below wz36.heap.size wz36 W37 := by
          rw [hW37]
          repeat (first | with_reducible exact Below.refl _ _ | with_reducible refine bel_alloc ?_ _ | refine Below.setCell ?_ (by first | (simp; done) | (simp; omega) | omega) _)
        have c374 := c365.up hL37
        have c375 := c366.up hL37
        have c376 := c367.up hL37
        have hA377 := hL37
        have hB378 : Below w.heap.size w W37 := by
          rw [hW37]
          repeat (first | with_reducible exact hB368 | with_reducible refine bel_alloc ?_ _ | refine Below.setCell ?_ (by first | (simp; done) | (simp; omega) | omega) _)
        clear hW37 hL37 uc365 uc366 uc367 c365 c366 c367
        with_reducible refine (K373.out _ (HNV.out.up hB378)).mono ?_
        rintro e w37 ⟨v37, rfl, hv37, hb37⟩
        have c379 := c374.up hb37
        have c380 := c375.up hb37
        have c381 := c376.up hb37
        have hA382 := bel_up hA377 hb37
        have hB383 : Below w.heap.size w w37 := bel_up hB378 hb37
        clear c374 c375 c376 hA377
        have PW37 := Lib.hid hv37
        clear hv37
        have K384 := Lib.hid (fun W va vb (ha : IL W va (idsOf (outP id) N.rs)) (hb : IL W vb (idsOf (lvP id false) N.rs)) => lsame_eq (idsOf (outP id) N.rs) (idsOf (lvP id false) N.rs) va vb W ha hb (Nat.le_trans (ids_le _ _) (by rw [HNr.out]; exact hlr)) rfl)
        have uc379 := c379; have uc380 := c380; have uc381 := c381
        simp only [At, Own, Nat.reduceAdd, and_true] at uc379 uc380 uc381
        go_wp2_with (fail)
        refine calls_named ?_
        intro W38 hW38
        have hL38 : Below w37.heap.size w37 W38 := by
          rw [hW38]
          repeat (first | with_reducible exact Below.refl _ _ | with_reducible refine bel_alloc ?_ _ | refine Below.setCell ?_ (by first | (simp; done) | (simp; omega) | omega) _)
        have c385 := c379.up hL38
        have c386 := c380.up hL38
        have c387 := c381.up hL38
        have hA388 := bel_up hA382 hL38
        have hA389 := hL38
        have hB390 : Below w.heap.size w W38 := by
          rw [hW38]
          repeat (first | with_reducible exact hB383 | with_reducible refine bel_alloc ?_ _ | refine Below.setCell ?_ (by first | (simp; done) | (simp; omega) | omega) _)
        clear hW38 hL38 uc379 uc380 uc381 c379 c380 c381 hA382
        with_reducible refine (K384.out _ _ _ ((PW37.out.up hA389)) ((PV369.out.up hA388))).mono ?_
        rintro e w38 ⟨rfl, hb38⟩
        have c391 := c385.up hb38
        have c392 := c386.up hb38
        have c393 := c387.up hb38
        have hA394 := bel_up hA388 hb38
        have hA395 := bel_up hA389 hb38
        have hB396 : Below w.heap.size w w38 := bel_up hB390 hb38
        clear c385 c386 c387 hA388 hA389
        have uc391 := c391; have uc392 := c392; have uc393 := c393
        simp only [At, Own, Nat.reduceAdd, and_true] at uc391 uc392 uc393
        have K397 := Lib.hid (fun W (hv : NV W (.agg #[.slice (some ⟨g343, o344, none⟩) Nn cn, .slice (some ⟨g347, o348, none⟩) Nr cr]) N) => own_list (in_any N id _ W hv HG.out))
        go_wp2_with (fail)
        refine calls_named ?_
        intro W39 hW39
        have hL39 : Below w38.heap.size w38 W39 := by
          rw [hW39]
          repeat (first | with_reducible exact Below.refl _ _ | with_reducible refine bel_alloc ?_ _ | refine Below.setCell ?_ (by first | (simp; done) | (simp; omega) | omega) _)
        have c398 := c391.up hL39
        have c399 := c392.up hL39
        have c400 := c393.up hL39
        have hA401 := bel_up hA394 hL39
        have hA402 := bel_up hA395 hL39
        have hB403 : Below w.heap.size w W39 := by
          rw [hW39]
          repeat (first | with_reducible exact hB396 | with_reducible refine bel_alloc ?_ _ | refine Below.setCell ?_ (by first | (simp; done) | (simp; omega) | omega) _)
        clear hW39 hL39 uc391 uc392 uc393 c391 c392 c393 hA394 hA395
        with_reducible refine (K397.out _ (HNV.out.up hB403)).mono ?_
        rintro e w39 ⟨v39, rfl, hv39, hb39⟩
        have c404 := c398.up hb39
        have c405 := c399.up hb39
        have c406 := c400.up hb39
        have hA407 := bel_up hA401 hb39
        have hA408 := bel_up hA402 hb39
        have hB409 : Below w.heap.size w w39 := bel_up hB403 hb39
        clear c398 c399 c400 hA401 hA402
        have PW39 := Lib.hid hv39
        clear hv39
        have K410 := Lib.hid (fun W va vb (ha : IL W va (idsOf (inP id) N.rs)) (hb : IL W vb (idsOf (lvP id true) N.rs)) => lsame_eq (idsOf (inP id) N.rs) (idsOf (lvP id true) N.rs) va vb W ha hb (Nat.le_trans (ids_le _ _) (by rw [HNr.out]; exact hlr)) rfl)
        have uc404 := c404; have uc405 := c405; have uc406 := c406
        simp only [At, Own, Nat.reduceAdd, and_true] at uc404 uc405 uc406
        go_wp2_with (fail)
        refine calls_named ?_
        intro W40 hW40
        have hL40 : Below w39.heap.size w39 W40 := by
          rw [hW40]
          repeat (first | with_reducible exact Below.refl _ _ | with_reducible refine bel_alloc ?_ _ | refine Below.setCell ?_ (by first | (simp; done) | (simp; omega) | omega) _)
        have c411 := c404.up hL40
        have c412 := c405.up hL40
        have c413 := c406.up hL40
        have hA414 := bel_up hA407 hL40
        have hA415 := bel_up hA408 hL40
        have hA416 := hL40
        have hB417 : Below w.heap.size w W40 := by
          rw [hW40]
          repeat (first | with_reducible exact hB409 | with_reducible refine bel_alloc ?_ _ | refine Below.setCell ?_ (by first | (simp; done) | (simp; omega) | omega) _)
        clear hW40 hL40 uc404 uc405 uc406 c404 c405 c406 hA407 hA408
        with_reducible refine (K410.out _ _ _ ((PW39.out.up hA416)) ((PV371.out.up hA414))).mono ?_
        rintro e w40 ⟨rfl, hb40⟩
        have c418 := c411.up hb40
        have c419 := c412.up hb40
        have c420 := c413.up hb40
        have hA421 := bel_up hA414 hb40
        have hA422 := bel_up hA415 hb40
        have hA423 := bel_up hA416 hb40
        have hB424 : Below w.heap.size w w40 := bel_up hB417 hb40
        clear c411 c412 c413 hA414 hA415 hA416
        have uc418 := c418; have uc419 := c419; have uc420 := c420
        simp only [At, Own, Nat.reduceAdd, and_true] at uc418 uc419 uc420
        go_wp2
        go_ret
        exact ⟨rfl, bel_up hBw (by repeat (first | with_reducible exact hB424 | with_reducible refine bel_alloc ?_ _ | refine Below.setCell ?_ (by first | (simp; done) | (simp; omega) | omega) _))⟩
end Go.Proofs.YtldfencaoaikgaaGreatDoor
