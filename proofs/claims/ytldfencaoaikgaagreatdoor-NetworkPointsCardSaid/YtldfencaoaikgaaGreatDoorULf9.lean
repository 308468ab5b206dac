/-
  The law Points.
-/
import Derived.Test.YtldfencaoaikgaaGreatDoorUPb
set_option linter.unusedSimpArgs false
set_option linter.unusedVariables false
namespace Go.Proofs.YtldfencaoaikgaaGreatDoor
open Go Go.RowKit Nw

set_option maxRecDepth 100000 in
set_option maxHeartbeats 4000000 in
theorem points_short (sp : List St) (la : List La) (wr1 wp1 k : Int) (a : Bool) (x : ByteArray) (b : Bool) (y : ByteArray) (v : Value) (w : World) (h : GV w v sp la) (hu : GU sp la) (hwr1 : U8 wr1) (hwp1 : U8 wp1) (hx1 : x.size ≤ 140737488355328) (hy1 : y.size ≤ 140737488355328) (hsh : decide (x.size + y.size ≤ 20) = true) :
    Calls Tryz.prog 4 #[v, .agg #[.int .u8 wr1, .int .u8 wp1], .agg #[.int .i64 k, .bool a, .string x, .bool b, .string y]] w fun e w' => e = .returned (.bool true) ∧ Below w.heap.size w w' := by
  have HSH := Lib.hid hsh
  clear hsh
  have HWR1 := Lib.hid hwr1
  have HWP1 := Lib.hid hwp1
  clear hwr1 hwp1
  obtain ⟨_, _, rfl, ha, hb⟩ := h
  obtain ⟨As, cs, rfl, hcs, hms, hxs⟩ := ha.open_
  obtain ⟨Al, cl, rfl, hcl, hml, hxl⟩ := hb.open_
  have HGV : Hid (GV w (.agg #[.slice As sp.length cs, .slice Al la.length cl]) sp la) := Lib.hid ⟨_, _, rfl, ha, hb⟩
  have HU := Lib.hid hu
  clear ha hb hxs hxl hcs hms hcl hml hu
  go_enter Tryz.func4, Tryz.ntmps4
  have K1 := Lib.hid (fun W => known_any W)
  go_wp2_with (fail)
  refine calls_named ?_
  intro W1 hW1
  have hL1 : Below w.heap.size w W1 := by
    rw [hW1]
    repeat (first | with_reducible exact Below.refl _ _ | with_reducible refine bel_alloc ?_ _ | refine Below.setCell ?_ (by first | (simp; done) | (simp; omega) | omega) _)
  have c2 : Own W1 (w.heap.size) 0 [.slice As sp.length cs, .slice Al la.length cl] := by
    rw [hW1]
    first
    | (repeat (first | (with_reducible refine own_new (l := [.slice As sp.length cs, .slice Al la.length cl]) ?_; (simp; done)) | with_reducible refine Own.alloc ?_ _ | refine Own.far _ _ (by first | (simp; done) | (simp [*]; done) | (simp; omega)) ?_)); done
    | simp [Own, go_sem]
  have c3 : Own W1 (w.heap.size + 1) 0 [.int .u8 wr1, .int .u8 wp1] := by
    rw [hW1]
    first
    | (repeat (first | (with_reducible refine own_new (l := [.int .u8 wr1, .int .u8 wp1]) ?_; (simp; done)) | with_reducible refine Own.alloc ?_ _ | refine Own.far _ _ (by first | (simp; done) | (simp [*]; done) | (simp; omega)) ?_)); done
    | simp [Own, go_sem]
  have c4 : Own W1 (w.heap.size + 2) 0 [.int .i64 k, .bool a, .string x, .bool b, .string y] := by
    rw [hW1]
    first
    | (repeat (first | (with_reducible refine own_new (l := [.int .i64 k, .bool a, .string x, .bool b, .string y]) ?_; (simp; done)) | with_reducible refine Own.alloc ?_ _ | refine Own.far _ _ (by first | (simp; done) | (simp [*]; done) | (simp; omega)) ?_)); done
    | simp [Own, go_sem]
  have hB5 : Below w.heap.size w W1 := by
    rw [hW1]
    repeat (first | with_reducible exact Below.refl _ _ | with_reducible refine bel_alloc ?_ _ | refine Below.setCell ?_ (by first | (simp; done) | (simp; omega) | omega) _)
  clear hW1 hL1
  with_reducible refine (K1.out _).mono ?_
  rintro e w1 ⟨rfl, hb1⟩
  have c6 := c2.up hb1
  have c7 := c3.up hb1
  have c8 := c4.up hb1
  have hB9 : Below w.heap.size w w1 := bel_up hB5 hb1
  clear c2 c3 c4
  have uc6 := c6; have uc7 := c7; have uc8 := c8
  simp only [At, Own, Nat.reduceAdd, and_true] at uc6 uc7 uc8
  have K10 := Lib.hid (fun W => wshort_any a x b y true W hx1 hy1 HSH.out)
  go_wp2_with (fail)
  refine calls_named ?_
  intro W2 hW2
  have hL2 : Below w1.heap.size w1 W2 := by
    rw [hW2]
    repeat (first | with_reducible exact Below.refl _ _ | with_reducible refine bel_alloc ?_ _ | refine Below.setCell ?_ (by first | (simp; done) | (simp; omega) | omega) _)
  have c11 := c6.up hL2
  have c12 := c7.up hL2
  have c13 := c8.up hL2
  have hB14 : Below w.heap.size w W2 := by
    rw [hW2]
    repeat (first | with_reducible exact hB9 | with_reducible refine bel_alloc ?_ _ | refine Below.setCell ?_ (by first | (simp; done) | (simp; omega) | omega) _)
  clear hW2 hL2 uc6 uc7 uc8 c6 c7 c8
  with_reducible refine (K10.out _).mono ?_
  rintro e w2 ⟨rfl, hb2⟩
  have c15 := c11.up hb2
  have c16 := c12.up hb2
  have c17 := c13.up hb2
  have hB18 : Below w.heap.size w w2 := bel_up hB14 hb2
  clear c11 c12 c13
  have uc15 := c15; have uc16 := c16; have uc17 := c17
  simp only [At, Own, Nat.reduceAdd, and_true] at uc15 uc16 uc17
  go_wp2_with (fail)
  refine calls_named ?_
  intro W3 hW3
  have hL3 : Below w2.heap.size w2 W3 := by
    rw [hW3]
    repeat (first | with_reducible exact Below.refl _ _ | with_reducible refine bel_alloc ?_ _ | refine Below.setCell ?_ (by first | (simp; done) | (simp; omega) | omega) _)
  have c19 := c15.up hL3
  have c20 := c16.up hL3
  have c21 := c17.up hL3
  have hB22 : Below w.heap.size w W3 := by
    rw [hW3]
    repeat (first | with_reducible exact hB18 | with_reducible refine bel_alloc ?_ _ | refine Below.setCell ?_ (by first | (simp; done) | (simp; omega) | omega) _)
  clear hW3 hL3 uc15 uc16 uc17 c15 c16 c17
  with_reducible refine (net_any sp la _ _ (HGV.out.up hB22) HU.out).mono ?_
  rintro e w3 ⟨v1, N, rfl, hv1, hok, hb3⟩
  have c23 := c19.up hb3
  have c24 := c20.up hb3
  have c25 := c21.up hb3
  have hB26 : Below w.heap.size w w3 := bel_up hB22 hb3
  clear c19 c20 c21
  obtain ⟨va, vb, rfl, hn, hr⟩ := hv1
  obtain ⟨An, cn, rfl, hcn, hmn, hxn⟩ := hn.open_
  obtain ⟨Ar, cr, rfl, hcr, hmr, hxr⟩ := hr.open_
  have HNV1 : Hid (NV w3 (.agg #[.slice An N.ns.length cn, .slice Ar N.rs.length cr]) N) := Lib.hid ⟨_, _, rfl, hn, hr⟩
  generalize hNn : N.ns.length = Nn at *
  generalize hNr : N.rs.length = Nr at *
  clear hn hr hxn hxr
  have an27 : w3.heap.size ≤ w3.heap.size := by omega
  have ne28_ : w.heap.size < w3.heap.size := by have := c23.lt; omega
  have ne28 := Nat.ne_of_lt ne28_
  have ne28' := ne28.symm
  have ne29_ : w.heap.size + 1 < w3.heap.size := by have := c24.lt; omega
  have ne29 := Nat.ne_of_lt ne29_
  have ne29' := ne29.symm
  have ne30_ : w.heap.size + 2 < w3.heap.size := by have := c25.lt; omega
  have ne30 := Nat.ne_of_lt ne30_
  have ne30' := ne30.symm
  go_upto_region 4 with fail
  refine wp_named ?_
  intro W4 hW4
  have hL4 : Below w3.heap.size w3 W4 := by
    rw [hW4]
    repeat (first | with_reducible exact Below.refl _ _ | with_reducible refine bel_alloc ?_ _ | refine Below.setCell ?_ (by first | (simp; done) | (simp; omega) | omega) _)
  have c31 := c23.up hL4
  have c32 := c24.up hL4
  have c33 := c25.up hL4
  have c34 : Own W4 (w3.heap.size) 0 [((.slice An Nn cn)), ((.slice Ar Nr cr))] := by
    rw [hW4]
    first
    | (repeat (first | (with_reducible refine own_new (l := [((.slice An Nn cn)), ((.slice Ar Nr cr))]) ?_; (simp; done)) | with_reducible refine Own.alloc ?_ _ | refine Own.far _ _ (by first | (simp; done) | (simp [*]; done) | (simp; omega)) ?_)); done
    | simp [Own, go_sem, ne28, ne28', ne28_, ne29, ne29', ne29_, ne30, ne30', ne30_]
  have hA35 := hL4
  have hB36 : Below w.heap.size w W4 := by
    rw [hW4]
    repeat (first | with_reducible exact hB26 | with_reducible refine bel_alloc ?_ _ | refine Below.setCell ?_ (by first | (simp; done) | (simp; omega) | omega) _)
  clear hW4 hL4 c23 c24 c25
  have HNV2 : Hid (NV W4 (.agg #[.slice An Nn cn, .slice Ar Nr cr]) N) := Lib.hid (HNV1.out.up hA35)
  clear HNV1 hA35
  obtain ⟨w0, hw0⟩ : ∃ W_, W_ = w := ⟨_, rfl⟩
  subst hw0
  obtain ⟨w, hw⟩ : ∃ W_, W_ = W4 := ⟨_, rfl⟩
  subst hw
  have hBw := hB36
  clear hB36
  clear c31
  have HNV := HNV2
  have HG := Lib.hid hok.g
  have HOK := Lib.hid hok
  have hln := hok.g.ln
  have hlr := hok.g.lr
  have hn2 := hok.n2
  have hn8 := hok.n8
  have hr1 := hok.r1
  have hr13 := hok.r13
  rw [hNn] at hln hn2 hn8
  rw [hNr] at hlr hr1 hr13
  have HXN : Hid (LX CN 3 w An N.ns) := Lib.hid (nv_ns HNV.out)
  have HXR : Hid (LX CR 6 w Ar N.rs) := Lib.hid (nv_rs HNV.out)
  have HNn := Lib.hid hNn
  have HNr := Lib.hid hNr
  clear hok hNn hNr HNV2
  obtain ⟨r1, p1, hr_1, hp_1⟩ := place_ex HOK.out wr1 wp1
  obtain ⟨hat1, hz1⟩ := place_at HOK.out HWP1.out hr_1 hp_1
  have hq1 : Pl.Sz 2000 p1.q := hz1.mono (by decide)
  have HR1 := Lib.hid hr_1
  have HP1 := Lib.hid hp_1
  have HAT1 := Lib.hid hat1
  have HZ1 := Lib.hid hz1
  clear hr_1 hp_1 hat1 hz1
  obtain ⟨x1, hx1_⟩ : ∃ x, pointN N r1 p1.q = x := ⟨_, rfl⟩
  obtain ⟨c, X, hps⟩ := psum_ex HG.out k a x b y (of_decide_eq_true HSH.out)
  have HPL := Lib.hid ((at_iff HAT1.out.f).2 HAT1.out)
  have HPS := Lib.hid hps
  have HX1 := Lib.hid hx1_
  have EQa := fun W => eqP_in x1 x1 W
  rw [decide_eq_true rfl] at EQa
  have hres := hps.res
  clear hps hx1_
  rcases hres with ⟨hc3, hX⟩ | ⟨rfl, HLP⟩
  · skip
    have HC3 := Lib.hid hc3
    clear hc3
    have EQb := fun W => eqP_zero9 X W
    rw [decide_eq_true hX] at EQb
    clear hX
    have uc32 := c32; have uc33 := c33; have uc34 := c34
    simp only [At, Own, Nat.reduceAdd, and_true] at uc32 uc33 uc34
    have K37 := Lib.hid (fun W (hv : NV W (.agg #[.slice An Nn cn, .slice Ar Nr cr]) N) => place_any N r1 p1 wr1 wp1 _ W hv HOK.out HWR1.out HWP1.out HR1.out HP1.out)
    go_wp2_with (fail)
    refine calls_named ?_
    intro W5 hW5
    have hL5 : Below w.heap.size w W5 := by
      rw [hW5]
      repeat (first | with_reducible exact Below.refl _ _ | with_reducible refine bel_alloc ?_ _ | refine Below.setCell ?_ (by first | (simp; done) | (simp; omega) | omega) _)
    have c38 := c32.up hL5
    have c39 := c33.up hL5
    have c40 := c34.up hL5
    have hB41 : Below w.heap.size w W5 := by
      rw [hW5]
      repeat (first | with_reducible exact Below.refl _ _ | with_reducible refine bel_alloc ?_ _ | refine Below.setCell ?_ (by first | (simp; done) | (simp; omega) | omega) _)
    clear hW5 hL5 uc32 uc33 uc34 c32 c33 c34
    with_reducible refine (K37.out _ (HNV.out.up hB41)).mono ?_
    rintro e w5 ⟨rfl, hb5⟩
    have c42 := c38.up hb5
    have c43 := c39.up hb5
    have c44 := c40.up hb5
    have hB45 : Below w.heap.size w w5 := bel_up hB41 hb5
    clear c38 c39 c40
    have ne46_ : w0.heap.size + 1 < w5.heap.size := by have := c42.lt; omega
    have ne46 := Nat.ne_of_lt ne46_
    have ne46' := ne46.symm
    have ne47_ : w0.heap.size + 2 < w5.heap.size := by have := c43.lt; omega
    have ne47 := Nat.ne_of_lt ne47_
    have ne47' := ne47.symm
    have ne48_ : w3.heap.size < w5.heap.size := by have := c44.lt; omega
    have ne48 := Nat.ne_of_lt ne48_
    have ne48' := ne48.symm
    have uc42 := c42; have uc43 := c43; have uc44 := c44
    simp only [At, Own, Nat.reduceAdd, and_true] at uc42 uc43 uc44
    have K49 := Lib.hid (fun W (hv : NV W (.agg #[.slice An Nn cn, .slice Ar Nr cr]) N) => point_any N r1 p1 x1 _ W hv HG.out HAT1.out hq1 HX1.out.symm)
    go_wp2_with (fail)
    refine calls_named ?_
    intro W6 hW6
    have hL6 : Below w5.heap.size w5 W6 := by
      rw [hW6]
      repeat (first | with_reducible exact Below.refl _ _ | with_reducible refine bel_alloc ?_ _ | refine Below.setCell ?_ (by first | (simp; done) | (simp; omega) | omega) _)
    have c50 := c42.up hL6
    have c51 := c43.up hL6
    have c52 := c44.up hL6
    have c53 : Own W6 (w5.heap.size) 0 [.int .i64 p1.r, .bool (ng p1.q.num), .string (mg p1.q.num.natAbs), .bool false, .string (mg (dn p1.q))] := by
      rw [hW6]
      first
      | (repeat (first | (with_reducible refine own_new (l := [.int .i64 p1.r, .bool (ng p1.q.num), .string (mg p1.q.num.natAbs), .bool false, .string (mg (dn p1.q))]) ?_; (simp; done)) | with_reducible refine Own.alloc ?_ _ | refine Own.far _ _ (by first | (simp; done) | (simp [*]; done) | (simp; omega)) ?_)); done
      | simp [Own, go_sem, uc42, uc43, uc44, ne46, ne46', ne46_, ne47, ne47', ne47_, ne48, ne48', ne48_]
    have hB54 : Below w.heap.size w W6 := by
      rw [hW6]
      repeat (first | with_reducible exact hB45 | with_reducible refine bel_alloc ?_ _ | refine Below.setCell ?_ (by first | (simp; done) | (simp; omega) | omega) _)
    clear hW6 hL6 uc42 uc43 uc44 c42 c43 c44
    with_reducible refine (K49.out _ (HNV.out.up hB54)).mono ?_
    rintro e w6 ⟨rfl, hb6⟩
    have c55 := c50.up hb6
    have c56 := c51.up hb6
    have c57 := c52.up hb6
    have c58 := c53.up hb6
    have hB59 : Below w.heap.size w w6 := bel_up hB54 hb6
    clear c50 c51 c52 c53
    have ne60_ : w0.heap.size + 1 < w6.heap.size := by have := c55.lt; omega
    have ne60 := Nat.ne_of_lt ne60_
    have ne60' := ne60.symm
    have ne61_ : w0.heap.size + 2 < w6.heap.size := by have := c56.lt; omega
    have ne61 := Nat.ne_of_lt ne61_
    have ne61' := ne61.symm
    have ne62_ : w3.heap.size < w6.heap.size := by have := c57.lt; omega
    have ne62 := Nat.ne_of_lt ne62_
    have ne62' := ne62.symm
    have ne63_ : w5.heap.size < w6.heap.size := by have := c58.lt; omega
    have ne63 := Nat.ne_of_lt ne63_
    have ne63' := ne63.symm
    have uc55 := c55; have uc56 := c56; have uc57 := c57; have uc58 := c58
    simp only [At, Own, Nat.reduceAdd, and_true] at uc55 uc56 uc57 uc58
    have K64 := Lib.hid (fun W (hv : NV W (.agg #[.slice An Nn cn, .slice Ar Nr cr]) N) => HPS.out.pt.out _ W hv)
    go_wp2_with (fail)
    refine calls_named ?_
    intro W7 hW7
    have hL7 : Below w6.heap.size w6 W7 := by
      rw [hW7]
      repeat (first | with_reducible exact Below.refl _ _ | with_reducible refine bel_alloc ?_ _ | refine Below.setCell ?_ (by first | (simp; done) | (simp; omega) | omega) _)
    have c65 := c55.up hL7
    have c66 := c56.up hL7
    have c67 := c57.up hL7
    have c68 := c58.up hL7
    have c69 : Own W7 (w6.heap.size) 0 [.bool (ng x1.1.num), .string (mg x1.1.num.natAbs), .bool false, .string (mg (dn x1.1)), .bool (ng x1.2.num), .string (mg x1.2.num.natAbs), .bool false, .string (mg (dn x1.2))] := by
      rw [hW7]
      first
      | (repeat (first | (with_reducible refine own_new (l := [.bool (ng x1.1.num), .string (mg x1.1.num.natAbs), .bool false, .string (mg (dn x1.1)), .bool (ng x1.2.num), .string (mg x1.2.num.natAbs), .bool false, .string (mg (dn x1.2))]) ?_; (simp; done)) | with_reducible refine Own.alloc ?_ _ | refine Own.far _ _ (by first | (simp; done) | (simp [*]; done) | (simp; omega)) ?_)); done
      | simp [Own, go_sem, uc55, uc56, uc57, uc58, ne60, ne60', ne60_, ne61, ne61', ne61_, ne62, ne62', ne62_, ne63, ne63', ne63_]
    have hB70 : Below w.heap.size w W7 := by
      rw [hW7]
      repeat (first | with_reducible exact hB59 | with_reducible refine bel_alloc ?_ _ | refine Below.setCell ?_ (by first | (simp; done) | (simp; omega) | omega) _)
    clear hW7 hL7 uc55 uc56 uc57 uc58 c55 c56 c57 c58
    with_reducible refine (K64.out _ (HNV.out.up hB70)).mono ?_
    rintro e w7 ⟨rfl, hb7⟩
    have c71 := c65.up hb7
    have c72 := c66.up hb7
    have c73 := c67.up hb7
    have c74 := c68.up hb7
    have c75 := c69.up hb7
    have hB76 : Below w.heap.size w w7 := bel_up hB70 hb7
    clear c65 c66 c67 c68 c69
    have ne77_ : w0.heap.size + 1 < w7.heap.size := by have := c71.lt; omega
    have ne77 := Nat.ne_of_lt ne77_
    have ne77' := ne77.symm
    have ne78_ : w0.heap.size + 2 < w7.heap.size := by have := c72.lt; omega
    have ne78 := Nat.ne_of_lt ne78_
    have ne78' := ne78.symm
    have ne79_ : w3.heap.size < w7.heap.size := by have := c73.lt; omega
    have ne79 := Nat.ne_of_lt ne79_
    have ne79' := ne79.symm
    have ne80_ : w5.heap.size < w7.heap.size := by have := c74.lt; omega
    have ne80 := Nat.ne_of_lt ne80_
    have ne80' := ne80.symm
    have ne81_ : w6.heap.size < w7.heap.size := by have := c75.lt; omega
    have ne81 := Nat.ne_of_lt ne81_
    have ne81' := ne81.symm
    have uc71 := c71; have uc72 := c72; have uc73 := c73; have uc74 := c74; have uc75 := c75
    simp only [At, Own, Nat.reduceAdd, and_true] at uc71 uc72 uc73 uc74 uc75
    have K82 := Lib.hid (fun W (hv : NV W (.agg #[.slice An Nn cn, .slice Ar Nr cr]) N) => HPS.out.lc.out _ W hv)
    go_wp2_with (fail)
    refine calls_named ?_
    intro W8 hW8
    have hL8 : Below w7.heap.size w7 W8 := by
      rw [hW8]
      repeat (first | with_reducible exact Below.refl _ _ | with_reducible refine bel_alloc ?_ _ | refine Below.setCell ?_ (by first | (simp; done) | (simp; omega) | omega) _)
    have c83 := c71.up hL8
    have c84 := c72.up hL8
    have c85 := c73.up hL8
    have c86 := c74.up hL8
    have c87 := c75.up hL8
    have c88 : Own W8 (w7.heap.size) 0 [.bool (ng X.1.num), .string (mg X.1.num.natAbs), .bool false, .string (mg (dn X.1)), .bool (ng X.2.num), .string (mg X.2.num.natAbs), .bool false, .string (mg (dn X.2))] := by
      rw [hW8]
      first
      | (repeat (first | (with_reducible refine own_new (l := [.bool (ng X.1.num), .string (mg X.1.num.natAbs), .bool false, .string (mg (dn X.1)), .bool (ng X.2.num), .string (mg X.2.num.natAbs), .bool false, .string (mg (dn X.2))]) ?_; (simp; done)) | with_reducible refine Own.alloc ?_ _ | refine Own.far _ _ (by first | (simp; done) | (simp [*]; done) | (simp; omega)) ?_)); done
      | simp [Own, go_sem, uc71, uc72, uc73, uc74, uc75, ne77, ne77', ne77_, ne78, ne78', ne78_, ne79, ne79', ne79_, ne80, ne80', ne80_, ne81, ne81', ne81_]
    have hB89 : Below w.heap.size w W8 := by
      rw [hW8]
      repeat (first | with_reducible exact hB76 | with_reducible refine bel_alloc ?_ _ | refine Below.setCell ?_ (by first | (simp; done) | (simp; omega) | omega) _)
    clear hW8 hL8 uc71 uc72 uc73 uc74 uc75 c71 c72 c73 c74 c75
    with_reducible refine (K82.out _ (HNV.out.up hB89)).mono ?_
    rintro e w8 ⟨rfl, hb8⟩
    have c90 := c83.up hb8
    have c91 := c84.up hb8
    have c92 := c85.up hb8
    have c93 := c86.up hb8
    have c94 := c87.up hb8
    have c95 := c88.up hb8
    have hB96 : Below w.heap.size w w8 := bel_up hB89 hb8
    clear c83 c84 c85 c86 c87 c88
    have K97 := Lib.hid (fun W (hv : NV W (.agg #[.slice An Nn cn, .slice Ar Nr cr]) N) => cplace_any N p1 _ W hv HG.out hq1 0 HPL.out)
    have K98 := Lib.hid (fun W (hv : NV W (.agg #[.slice An Nn cn, .slice Ar Nr cr]) N) => lpoint_any N r1 p1 x1 _ W hv HG.out HAT1.out hq1 HX1.out)
    have K99 := Lib.hid (fun W (hv : NV W (.agg #[.slice An Nn cn, .slice Ar Nr cr]) N) => HPS.out.cp.out _ W hv)
    go_wp2_with fail
    refine wp_named ?_
    intro W9 hW9
    have hL9 : Below w8.heap.size w8 W9 := by
      rw [hW9]
      repeat (first | with_reducible exact Below.refl _ _ | with_reducible refine bel_alloc ?_ _ | refine Below.setCell ?_ (by first | (simp; done) | (simp; omega) | omega) _)
    have c100 := c90.up hL9
    have c101 := c91.up hL9
    have c102 := c92.up hL9
    have c103 := c93.up hL9
    have c104 := c94.up hL9
    have c105 := c95.up hL9
    have hB106 : Below w.heap.size w W9 := by
      rw [hW9]
      repeat (first | with_reducible exact hB96 | with_reducible refine bel_alloc ?_ _ | refine Below.setCell ?_ (by first | (simp; done) | (simp; omega) | omega) _)
    clear hW9 hL9 c90 c91 c92 c93 c94 c95
    have dc100 := fun p : Bel W9 => c100.bel p; have dc101 := fun p : Bel W9 => c101.bel p; have dc102 := fun p : Bel W9 => c102.bel p; have dc103 := fun p : Bel W9 => c103.bel p; have dc104 := fun p : Bel W9 => c104.bel p; have dc105 := fun p : Bel W9 => c105.bel p
    simp only [At, Own, Nat.reduceAdd, and_true] at dc100 dc101 dc102 dc103 dc104 dc105
    refine wp_region_all (by kernel_rfl) (by kernel_rfl) ?_
    repeat (go_big_quiet_step (first | (go_at_call 21; with_reducible exact Calls.bel (K97.out _ (HNV.out.up (bel_up hB106 (Bel.h _))))) | (go_at_call 22; with_reducible exact Calls.bel (K98.out _ (HNV.out.up (bel_up hB106 (Bel.h _))))) | (go_at_call 21; with_reducible exact Calls.bel (K99.out _ (HNV.out.up (bel_up hB106 (Bel.h _)))))))
    refine wpQuiet_nil ?_
    intro w9 hb9
    have c107 := c100.up hb9
    have c108 := c101.up hb9
    have c109 := c102.up hb9
    have c110 := c103.up hb9
    have c111 := c104.up hb9
    have c112 := c105.up hb9
    have hB113 : Below w.heap.size w w9 := bel_up hB106 hb9
    clear dc100 dc101 dc102 dc103 dc104 dc105 c100 c101 c102 c103 c104 c105
    have uc107 := c107; have uc108 := c108; have uc109 := c109; have uc110 := c110; have uc111 := c111; have uc112 := c112
    simp only [At, Own, Nat.reduceAdd, and_true] at uc107 uc108 uc109 uc110 uc111 uc112
    go_upto_region 10 with fail
    rcases HC3.out with rfl | rfl | rfl
    · skip
      go_wp2_with fail
      refine wp_named ?_
      intro W10 hW10
      have hL10 : Below w9.heap.size w9 W10 := by
        rw [hW10]
        repeat (first | with_reducible exact Below.refl _ _ | with_reducible refine bel_alloc ?_ _ | refine Below.setCell ?_ (by first | (simp; done) | (simp; omega) | omega) _)
      have c114 := c107.up hL10
      have c115 := c108.up hL10
      have c116 := c109.up hL10
      have c117 := c110.up hL10
      have c118 := c111.up hL10
      have c119 := c112.up hL10
      have hB120 : Below w.heap.size w W10 := by
        rw [hW10]
        repeat (first | with_reducible exact hB113 | with_reducible refine bel_alloc ?_ _ | refine Below.setCell ?_ (by first | (simp; done) | (simp; omega) | omega) _)
      clear hW10 hL10 uc107 uc108 uc109 uc110 uc111 uc112 c107 c108 c109 c110 c111 c112
      have dc114 := fun p : Bel W10 => c114.bel p; have dc115 := fun p : Bel W10 => c115.bel p; have dc116 := fun p : Bel W10 => c116.bel p; have dc117 := fun p : Bel W10 => c117.bel p; have dc118 := fun p : Bel W10 => c118.bel p; have dc119 := fun p : Bel W10 => c119.bel p
      simp only [At, Own, Nat.reduceAdd, and_true] at dc114 dc115 dc116 dc117 dc118 dc119
      refine wp_region_tail 18 (by kernel_rfl) (by kernel_rfl) ?_
      simp only [List.take_succ_cons, List.take_zero, List.drop_succ_cons, List.drop_zero]
      repeat (go_big_quiet_step (fail))
      refine wpQuiet_nil ?_
      intro w10 hb10
      have c121 := c114.up hb10
      have c122 := c115.up hb10
      have c123 := c116.up hb10
      have c124 := c117.up hb10
      have c125 := c118.up hb10
      have c126 := c119.up hb10
      have hB127 : Below w.heap.size w w10 := bel_up hB120 hb10
      clear dc114 dc115 dc116 dc117 dc118 dc119 c114 c115 c116 c117 c118 c119
      have uc121 := c121; have uc122 := c122; have uc123 := c123; have uc124 := c124; have uc125 := c125; have uc126 := c126
      simp only [At, Own, Nat.reduceAdd, and_true] at uc121 uc122 uc123 uc124 uc125 uc126
      go_wp2
      go_ret
      exact ⟨rfl, bel_up hBw (by repeat (first | with_reducible exact hB127 | with_reducible refine bel_alloc ?_ _ | refine Below.setCell ?_ (by first | (simp; done) | (simp; omega) | omega) _))⟩
    · skip
      go_wp2_with fail
      refine wp_named ?_
      intro W11 hW11
      have hL11 : Below w9.heap.size w9 W11 := by
        rw [hW11]
        repeat (first | with_reducible exact Below.refl _ _ | with_reducible refine bel_alloc ?_ _ | refine Below.setCell ?_ (by first | (simp; done) | (simp; omega) | omega) _)
      have c128 := c107.up hL11
      have c129 := c108.up hL11
      have c130 := c109.up hL11
      have c131 := c110.up hL11
      have c132 := c111.up hL11
      have c133 := c112.up hL11
      have hB134 : Below w.heap.size w W11 := by
        rw [hW11]
        repeat (first | with_reducible exact hB113 | with_reducible refine bel_alloc ?_ _ | refine Below.setCell ?_ (by first | (simp; done) | (simp; omega) | omega) _)
      clear hW11 hL11 uc107 uc108 uc109 uc110 uc111 uc112 c107 c108 c109 c110 c111 c112
      have dc128 := fun p : Bel W11 => c128.bel p; have dc129 := fun p : Bel W11 => c129.bel p; have dc130 := fun p : Bel W11 => c130.bel p; have dc131 := fun p : Bel W11 => c131.bel p; have dc132 := fun p : Bel W11 => c132.bel p; have dc133 := fun p : Bel W11 => c133.bel p
      simp only [At, Own, Nat.reduceAdd, and_true] at dc128 dc129 dc130 dc131 dc132 dc133
      refine wp_region_tail 18 (by kernel_rfl) (by kernel_rfl) ?_
      simp only [List.take_succ_cons, List.take_zero, List.drop_succ_cons, List.drop_zero]
      repeat (go_big_quiet_step (fail))
      refine wpQuiet_nil ?_
      intro w11 hb11
      have c135 := c128.up hb11
      have c136 := c129.up hb11
      have c137 := c130.up hb11
      have c138 := c131.up hb11
      have c139 := c132.up hb11
      have c140 := c133.up hb11
      have hB141 : Below w.heap.size w w11 := bel_up hB134 hb11
      clear dc128 dc129 dc130 dc131 dc132 dc133 c128 c129 c130 c131 c132 c133
      have uc135 := c135; have uc136 := c136; have uc137 := c137; have uc138 := c138; have uc139 := c139; have uc140 := c140
      simp only [At, Own, Nat.reduceAdd, and_true] at uc135 uc136 uc137 uc138 uc139 uc140
      go_wp2
      go_ret
      exact ⟨rfl, bel_up hBw (by repeat (first | with_reducible exact hB141 | with_reducible refine bel_alloc ?_ _ | refine Below.setCell ?_ (by first | (simp; done) | (simp; omega) | omega) _))⟩
    · skip
      go_wp2_with fail
      refine wp_named ?_
      intro W12 hW12
      have hL12 : Below w9.heap.size w9 W12 := by
        rw [hW12]
        repeat (first | with_reducible exact Below.refl _ _ | with_reducible refine bel_alloc ?_ _ | refine Below.setCell ?_ (by first | (simp; done) | (simp; omega) | omega) _)
      have c142 := c107.up hL12
      have c143 := c108.up hL12
      have c144 := c109.up hL12
      have c145 := c110.up hL12
      have c146 := c111.up hL12
      have c147 := c112.up hL12
      have hB148 : Below w.heap.size w W12 := by
        rw [hW12]
        repeat (first | with_reducible exact hB113 | with_reducible refine bel_alloc ?_ _ | refine Below.setCell ?_ (by first | (simp; done) | (simp; omega) | omega) _)
      clear hW12 hL12 uc107 uc108 uc109 uc110 uc111 uc112 c107 c108 c109 c110 c111 c112
      have dc142 := fun p : Bel W12 => c142.bel p; have dc143 := fun p : Bel W12 => c143.bel p; have dc144 := fun p : Bel W12 => c144.bel p; have dc145 := fun p : Bel W12 => c145.bel p; have dc146 := fun p : Bel W12 => c146.bel p; have dc147 := fun p : Bel W12 => c147.bel p
      simp only [At, Own, Nat.reduceAdd, and_true] at dc142 dc143 dc144 dc145 dc146 dc147
      refine wp_region_tail 18 (by kernel_rfl) (by kernel_rfl) ?_
      simp only [List.take_succ_cons, List.take_zero, List.drop_succ_cons, List.drop_zero]
      repeat (go_big_quiet_step (fail))
      refine wpQuiet_nil ?_
      intro w12 hb12
      have c149 := c142.up hb12
      have c150 := c143.up hb12
      have c151 := c144.up hb12
      have c152 := c145.up hb12
      have c153 := c146.up hb12
      have c154 := c147.up hb12
      have hB155 : Below w.heap.size w w12 := bel_up hB148 hb12
      clear dc142 dc143 dc144 dc145 dc146 dc147 c142 c143 c144 c145 c146 c147
      have uc149 := c149; have uc150 := c150; have uc151 := c151; have uc152 := c152; have uc153 := c153; have uc154 := c154
      simp only [At, Own, Nat.reduceAdd, and_true] at uc149 uc150 uc151 uc152 uc153 uc154
      go_wp2
      go_ret
      exact ⟨rfl, bel_up hBw (by repeat (first | with_reducible exact hB155 | with_reducible refine bel_alloc ?_ _ | refine Below.setCell ?_ (by first | (simp; done) | (simp; omega) | omega) _))⟩
  · skip
    have EQb := fun W => eqP_in X X W
    rw [decide_eq_true rfl] at EQb
    have uc32 := c32; have uc33 := c33; have uc34 := c34
    simp only [At, Own, Nat.reduceAdd, and_true] at uc32 uc33 uc34
    have K156 := Lib.hid (fun W (hv : NV W (.agg #[.slice An Nn cn, .slice Ar Nr cr]) N) => place_any N r1 p1 wr1 wp1 _ W hv HOK.out HWR1.out HWP1.out HR1.out HP1.out)
    go_wp2_with (fail)
    refine calls_named ?_
    intro W13 hW13
    have hL13 : Below w.heap.size w W13 := by
      rw [hW13]
      repeat (first | with_reducible exact Below.refl _ _ | with_reducible refine bel_alloc ?_ _ | refine Below.setCell ?_ (by first | (simp; done) | (simp; omega) | omega) _)
    have c157 := c32.up hL13
    have c158 := c33.up hL13
    have c159 := c34.up hL13
    have hB160 : Below w.heap.size w W13 := by
      rw [hW13]
      repeat (first | with_reducible exact Below.refl _ _ | with_reducible refine bel_alloc ?_ _ | refine Below.setCell ?_ (by first | (simp; done) | (simp; omega) | omega) _)
    clear hW13 hL13 uc32 uc33 uc34 c32 c33 c34
    with_reducible refine (K156.out _ (HNV.out.up hB160)).mono ?_
    rintro e w13 ⟨rfl, hb13⟩
    have c161 := c157.up hb13
    have c162 := c158.up hb13
    have c163 := c159.up hb13
    have hB164 : Below w.heap.size w w13 := bel_up hB160 hb13
    clear c157 c158 c159
    have ne165_ : w0.heap.size + 1 < w13.heap.size := by have := c161.lt; omega
    have ne165 := Nat.ne_of_lt ne165_
    have ne165' := ne165.symm
    have ne166_ : w0.heap.size + 2 < w13.heap.size := by have := c162.lt; omega
    have ne166 := Nat.ne_of_lt ne166_
    have ne166' := ne166.symm
    have ne167_ : w3.heap.size < w13.heap.size := by have := c163.lt; omega
    have ne167 := Nat.ne_of_lt ne167_
    have ne167' := ne167.symm
    have uc161 := c161; have uc162 := c162; have uc163 := c163
    simp only [At, Own, Nat.reduceAdd, and_true] at uc161 uc162 uc163
    have K168 := Lib.hid (fun W (hv : NV W (.agg #[.slice An Nn cn, .slice Ar Nr cr]) N) => point_any N r1 p1 x1 _ W hv HG.out HAT1.out hq1 HX1.out.symm)
    go_wp2_with (fail)
    refine calls_named ?_
    intro W14 hW14
    have hL14 : Below w13.heap.size w13 W14 := by
      rw [hW14]
      repeat (first | with_reducible exact Below.refl _ _ | with_reducible refine bel_alloc ?_ _ | refine Below.setCell ?_ (by first | (simp; done) | (simp; omega) | omega) _)
    have c169 := c161.up hL14
    have c170 := c162.up hL14
    have c171 := c163.up hL14
    have c172 : Own W14 (w13.heap.size) 0 [.int .i64 p1.r, .bool (ng p1.q.num), .string (mg p1.q.num.natAbs), .bool false, .string (mg (dn p1.q))] := by
      rw [hW14]
      first
      | (repeat (first | (with_reducible refine own_new (l := [.int .i64 p1.r, .bool (ng p1.q.num), .string (mg p1.q.num.natAbs), .bool false, .string (mg (dn p1.q))]) ?_; (simp; done)) | with_reducible refine Own.alloc ?_ _ | refine Own.far _ _ (by first | (simp; done) | (simp [*]; done) | (simp; omega)) ?_)); done
      | simp [Own, go_sem, uc161, uc162, uc163, ne165, ne165', ne165_, ne166, ne166', ne166_, ne167, ne167', ne167_]
    have hB173 : Below w.heap.size w W14 := by
      rw [hW14]
      repeat (first | with_reducible exact hB164 | with_reducible refine bel_alloc ?_ _ | refine Below.setCell ?_ (by first | (simp; done) | (simp; omega) | omega) _)
    clear hW14 hL14 uc161 uc162 uc163 c161 c162 c163
    with_reducible refine (K168.out _ (HNV.out.up hB173)).mono ?_
    rintro e w14 ⟨rfl, hb14⟩
    have c174 := c169.up hb14
    have c175 := c170.up hb14
    have c176 := c171.up hb14
    have c177 := c172.up hb14
    have hB178 : Below w.heap.size w w14 := bel_up hB173 hb14
    clear c169 c170 c171 c172
    have ne179_ : w0.heap.size + 1 < w14.heap.size := by have := c174.lt; omega
    have ne179 := Nat.ne_of_lt ne179_
    have ne179' := ne179.symm
    have ne180_ : w0.heap.size + 2 < w14.heap.size := by have := c175.lt; omega
    have ne180 := Nat.ne_of_lt ne180_
    have ne180' := ne180.symm
    have ne181_ : w3.heap.size < w14.heap.size := by have := c176.lt; omega
    have ne181 := Nat.ne_of_lt ne181_
    have ne181' := ne181.symm
    have ne182_ : w13.heap.size < w14.heap.size := by have := c177.lt; omega
    have ne182 := Nat.ne_of_lt ne182_
    have ne182' := ne182.symm
    have uc174 := c174; have uc175 := c175; have uc176 := c176; have uc177 := c177
    simp only [At, Own, Nat.reduceAdd, and_true] at uc174 uc175 uc176 uc177
    have K183 := Lib.hid (fun W (hv : NV W (.agg #[.slice An Nn cn, .slice Ar Nr cr]) N) => HPS.out.pt.out _ W hv)
    go_wp2_with (fail)
    refine calls_named ?_
    intro W15 hW15
    have hL15 : Below w14.heap.size w14 W15 := by
      rw [hW15]
      repeat (first | with_reducible exact Below.refl _ _ | with_reducible refine bel_alloc ?_ _ | refine Below.setCell ?_ (by first | (simp; done) | (simp; omega) | omega) _)
    have c184 := c174.up hL15
    have c185 := c175.up hL15
    have c186 := c176.up hL15
    have c187 := c177.up hL15
    have c188 : Own W15 (w14.heap.size) 0 [.bool (ng x1.1.num), .string (mg x1.1.num.natAbs), .bool false, .string (mg (dn x1.1)), .bool (ng x1.2.num), .string (mg x1.2.num.natAbs), .bool false, .string (mg (dn x1.2))] := by
      rw [hW15]
      first
      | (repeat (first | (with_reducible refine own_new (l := [.bool (ng x1.1.num), .string (mg x1.1.num.natAbs), .bool false, .string (mg (dn x1.1)), .bool (ng x1.2.num), .string (mg x1.2.num.natAbs), .bool false, .string (mg (dn x1.2))]) ?_; (simp; done)) | with_reducible refine Own.alloc ?_ _ | refine Own.far _ _ (by first | (simp; done) | (simp [*]; done) | (simp; omega)) ?_)); done
      | simp [Own, go_sem, uc174, uc175, uc176, uc177, ne179, ne179', ne179_, ne180, ne180', ne180_, ne181, ne181', ne181_, ne182, ne182', ne182_]
    have hB189 : Below w.heap.size w W15 := by
      rw [hW15]
      repeat (first | with_reducible exact hB178 | with_reducible refine bel_alloc ?_ _ | refine Below.setCell ?_ (by first | (simp; done) | (simp; omega) | omega) _)
    clear hW15 hL15 uc174 uc175 uc176 uc177 c174 c175 c176 c177
    with_reducible refine (K183.out _ (HNV.out.up hB189)).mono ?_
    rintro e w15 ⟨rfl, hb15⟩
    have c190 := c184.up hb15
    have c191 := c185.up hb15
    have c192 := c186.up hb15
    have c193 := c187.up hb15
    have c194 := c188.up hb15
    have hB195 : Below w.heap.size w w15 := bel_up hB189 hb15
    clear c184 c185 c186 c187 c188
    have ne196_ : w0.heap.size + 1 < w15.heap.size := by have := c190.lt; omega
    have ne196 := Nat.ne_of_lt ne196_
    have ne196' := ne196.symm
    have ne197_ : w0.heap.size + 2 < w15.heap.size := by have := c191.lt; omega
    have ne197 := Nat.ne_of_lt ne197_
    have ne197' := ne197.symm
    have ne198_ : w3.heap.size < w15.heap.size := by have := c192.lt; omega
    have ne198 := Nat.ne_of_lt ne198_
    have ne198' := ne198.symm
    have ne199_ : w13.heap.size < w15.heap.size := by have := c193.lt; omega
    have ne199 := Nat.ne_of_lt ne199_
    have ne199' := ne199.symm
    have ne200_ : w14.heap.size < w15.heap.size := by have := c194.lt; omega
    have ne200 := Nat.ne_of_lt ne200_
    have ne200' := ne200.symm
    have uc190 := c190; have uc191 := c191; have uc192 := c192; have uc193 := c193; have uc194 := c194
    simp only [At, Own, Nat.reduceAdd, and_true] at uc190 uc191 uc192 uc193 uc194
    have K201 := Lib.hid (fun W (hv : NV W (.agg #[.slice An Nn cn, .slice Ar Nr cr]) N) => HPS.out.lc.out _ W hv)
    go_wp2_with (fail)
    refine calls_named ?_
    intro W16 hW16
    have hL16 : Below w15.heap.size w15 W16 := by
      rw [hW16]
      repeat (first | with_reducible exact Below.refl _ _ | with_reducible refine bel_alloc ?_ _ | refine Below.setCell ?_ (by first | (simp; done) | (simp; omega) | omega) _)
    have c202 := c190.up hL16
    have c203 := c191.up hL16
    have c204 := c192.up hL16
    have c205 := c193.up hL16
    have c206 := c194.up hL16
    have c207 : Own W16 (w15.heap.size) 0 [.bool (ng X.1.num), .string (mg X.1.num.natAbs), .bool false, .string (mg (dn X.1)), .bool (ng X.2.num), .string (mg X.2.num.natAbs), .bool false, .string (mg (dn X.2))] := by
      rw [hW16]
      first
      | (repeat (first | (with_reducible refine own_new (l := [.bool (ng X.1.num), .string (mg X.1.num.natAbs), .bool false, .string (mg (dn X.1)), .bool (ng X.2.num), .string (mg X.2.num.natAbs), .bool false, .string (mg (dn X.2))]) ?_; (simp; done)) | with_reducible refine Own.alloc ?_ _ | refine Own.far _ _ (by first | (simp; done) | (simp [*]; done) | (simp; omega)) ?_)); done
      | simp [Own, go_sem, uc190, uc191, uc192, uc193, uc194, ne196, ne196', ne196_, ne197, ne197', ne197_, ne198, ne198', ne198_, ne199, ne199', ne199_, ne200, ne200', ne200_]
    have hB208 : Below w.heap.size w W16 := by
      rw [hW16]
      repeat (first | with_reducible exact hB195 | with_reducible refine bel_alloc ?_ _ | refine Below.setCell ?_ (by first | (simp; done) | (simp; omega) | omega) _)
    clear hW16 hL16 uc190 uc191 uc192 uc193 uc194 c190 c191 c192 c193 c194
    with_reducible refine (K201.out _ (HNV.out.up hB208)).mono ?_
    rintro e w16 ⟨rfl, hb16⟩
    have c209 := c202.up hb16
    have c210 := c203.up hb16
    have c211 := c204.up hb16
    have c212 := c205.up hb16
    have c213 := c206.up hb16
    have c214 := c207.up hb16
    have hB215 : Below w.heap.size w w16 := bel_up hB208 hb16
    clear c202 c203 c204 c205 c206 c207
    have K216 := Lib.hid (fun W (hv : NV W (.agg #[.slice An Nn cn, .slice Ar Nr cr]) N) => cplace_any N p1 _ W hv HG.out hq1 0 HPL.out)
    have K217 := Lib.hid (fun W (hv : NV W (.agg #[.slice An Nn cn, .slice Ar Nr cr]) N) => lpoint_any N r1 p1 x1 _ W hv HG.out HAT1.out hq1 HX1.out)
    have K218 := Lib.hid (fun W (hv : NV W (.agg #[.slice An Nn cn, .slice Ar Nr cr]) N) => HPS.out.cp.out _ W hv)
    go_wp2_with fail
    refine wp_named ?_
    intro W17 hW17
    have hL17 : Below w16.heap.size w16 W17 := by
      rw [hW17]
      repeat (first | with_reducible exact Below.refl _ _ | with_reducible refine bel_alloc ?_ _ | refine Below.setCell ?_ (by first | (simp; done) | (simp; omega) | omega) _)
    have c219 := c209.up hL17
    have c220 := c210.up hL17
    have c221 := c211.up hL17
    have c222 := c212.up hL17
    have c223 := c213.up hL17
    have c224 := c214.up hL17
    have hB225 : Below w.heap.size w W17 := by
      rw [hW17]
      repeat (first | with_reducible exact hB215 | with_reducible refine bel_alloc ?_ _ | refine Below.setCell ?_ (by first | (simp; done) | (simp; omega) | omega) _)
    clear hW17 hL17 c209 c210 c211 c212 c213 c214
    have dc219 := fun p : Bel W17 => c219.bel p; have dc220 := fun p : Bel W17 => c220.bel p; have dc221 := fun p : Bel W17 => c221.bel p; have dc222 := fun p : Bel W17 => c222.bel p; have dc223 := fun p : Bel W17 => c223.bel p; have dc224 := fun p : Bel W17 => c224.bel p
    simp only [At, Own, Nat.reduceAdd, and_true] at dc219 dc220 dc221 dc222 dc223 dc224
    refine wp_region_all (by kernel_rfl) (by kernel_rfl) ?_
    repeat (go_big_quiet_step (first | (go_at_call 21; with_reducible exact Calls.bel (K216.out _ (HNV.out.up (bel_up hB225 (Bel.h _))))) | (go_at_call 22; with_reducible exact Calls.bel (K217.out _ (HNV.out.up (bel_up hB225 (Bel.h _))))) | (go_at_call 21; with_reducible exact Calls.bel (K218.out _ (HNV.out.up (bel_up hB225 (Bel.h _)))))))
    refine wpQuiet_nil ?_
    intro w17 hb17
    have c226 := c219.up hb17
    have c227 := c220.up hb17
    have c228 := c221.up hb17
    have c229 := c222.up hb17
    have c230 := c223.up hb17
    have c231 := c224.up hb17
    have hB232 : Below w.heap.size w w17 := bel_up hB225 hb17
    clear dc219 dc220 dc221 dc222 dc223 dc224 c219 c220 c221 c222 c223 c224
    have uc226 := c226; have uc227 := c227; have uc228 := c228; have uc229 := c229; have uc230 := c230; have uc231 := c231
    simp only [At, Own, Nat.reduceAdd, and_true] at uc226 uc227 uc228 uc229 uc230 uc231
    have K233 := Lib.hid (fun W (hv : NV W (.agg #[.slice An Nn cn, .slice Ar Nr cr]) N) => HLP.out _ W hv)
    go_wp2_with fail
    refine wp_named ?_
    intro W18 hW18
    have hL18 : Below w17.heap.size w17 W18 := by
      rw [hW18]
      repeat (first | with_reducible exact Below.refl _ _ | with_reducible refine bel_alloc ?_ _ | refine Below.setCell ?_ (by first | (simp; done) | (simp; omega) | omega) _)
    have c234 := c226.up hL18
    have c235 := c227.up hL18
    have c236 := c228.up hL18
    have c237 := c229.up hL18
    have c238 := c230.up hL18
    have c239 := c231.up hL18
    have hB240 : Below w.heap.size w W18 := by
      rw [hW18]
      repeat (first | with_reducible exact hB232 | with_reducible refine bel_alloc ?_ _ | refine Below.setCell ?_ (by first | (simp; done) | (simp; omega) | omega) _)
    clear hW18 hL18 uc226 uc227 uc228 uc229 uc230 uc231 c226 c227 c228 c229 c230 c231
    have dc234 := fun p : Bel W18 => c234.bel p; have dc235 := fun p : Bel W18 => c235.bel p; have dc236 := fun p : Bel W18 => c236.bel p; have dc237 := fun p : Bel W18 => c237.bel p; have dc238 := fun p : Bel W18 => c238.bel p; have dc239 := fun p : Bel W18 => c239.bel p
    simp only [At, Own, Nat.reduceAdd, and_true] at dc234 dc235 dc236 dc237 dc238 dc239
    refine wp_region_tail 18 (by kernel_rfl) (by kernel_rfl) ?_
    simp only [List.take_succ_cons, List.take_zero, List.drop_succ_cons, List.drop_zero]
    repeat (go_big_quiet_step (first | (go_at_call 22; with_reducible exact Calls.bel (K233.out _ (HNV.out.up (bel_up hB240 (Bel.h _)))))))
    refine wpQuiet_nil ?_
    intro w18 hb18
    have c241 := c234.up hb18
    have c242 := c235.up hb18
    have c243 := c236.up hb18
    have c244 := c237.up hb18
    have c245 := c238.up hb18
    have c246 := c239.up hb18
    have hB247 : Below w.heap.size w w18 := bel_up hB240 hb18
    clear dc234 dc235 dc236 dc237 dc238 dc239 c234 c235 c236 c237 c238 c239
    have uc241 := c241; have uc242 := c242; have uc243 := c243; have uc244 := c244; have uc245 := c245; have uc246 := c246
    simp only [At, Own, Nat.reduceAdd, and_true] at uc241 uc242 uc243 uc244 uc245 uc246
    go_wp2
    go_ret
    exact ⟨rfl, bel_up hBw (by repeat (first | with_reducible exact hB247 | with_reducible refine bel_alloc ?_ _ | refine Below.setCell ?_ (by first | (simp; done) | (simp; omega) | omega) _))⟩

set_option maxRecDepth 100000 in
set_option maxHeartbeats 4000000 in
theorem points_long (sp : List St) (la : List La) (wr1 wp1 k : Int) (a : Bool) (x : ByteArray) (b : Bool) (y : ByteArray) (v : Value) (w : World) (h : GV w v sp la) (hu : GU sp la) (hwr1 : U8 wr1) (hwp1 : U8 wp1) (hx1 : x.size ≤ 140737488355328) (hy1 : y.size ≤ 140737488355328) (hsh : decide (x.size + y.size ≤ 20) = false) :
    Calls Tryz.prog 4 #[v, .agg #[.int .u8 wr1, .int .u8 wp1], .agg #[.int .i64 k, .bool a, .string x, .bool b, .string y]] w fun e w' => e = .returned (.bool true) ∧ Below w.heap.size w w' := by
  have HSH := Lib.hid hsh
  clear hsh
  have HWR1 := Lib.hid hwr1
  have HWP1 := Lib.hid hwp1
  clear hwr1 hwp1
  obtain ⟨_, _, rfl, ha, hb⟩ := h
  obtain ⟨As, cs, rfl, hcs, hms, hxs⟩ := ha.open_
  obtain ⟨Al, cl, rfl, hcl, hml, hxl⟩ := hb.open_
  have HGV : Hid (GV w (.agg #[.slice As sp.length cs, .slice Al la.length cl]) sp la) := Lib.hid ⟨_, _, rfl, ha, hb⟩
  have HU := Lib.hid hu
  clear ha hb hxs hxl hcs hms hcl hml hu
  go_enter Tryz.func4, Tryz.ntmps4
  have K1 := Lib.hid (fun W => known_any W)
  go_wp2_with (fail)
  refine calls_named ?_
  intro W1 hW1
  have hL1 : Below w.heap.size w W1 := by
    rw [hW1]
    repeat (first | with_reducible exact Below.refl _ _ | with_reducible refine bel_alloc ?_ _ | refine Below.setCell ?_ (by first | (simp; done) | (simp; omega) | omega) _)
  have c2 : Own W1 (w.heap.size) 0 [.slice As sp.length cs, .slice Al la.length cl] := by
    rw [hW1]
    first
    | (repeat (first | (with_reducible refine own_new (l := [.slice As sp.length cs, .slice Al la.length cl]) ?_; (simp; done)) | with_reducible refine Own.alloc ?_ _ | refine Own.far _ _ (by first | (simp; done) | (simp [*]; done) | (simp; omega)) ?_)); done
    | simp [Own, go_sem]
  have c3 : Own W1 (w.heap.size + 1) 0 [.int .u8 wr1, .int .u8 wp1] := by
    rw [hW1]
    first
    | (repeat (first | (with_reducible refine own_new (l := [.int .u8 wr1, .int .u8 wp1]) ?_; (simp; done)) | with_reducible refine Own.alloc ?_ _ | refine Own.far _ _ (by first | (simp; done) | (simp [*]; done) | (simp; omega)) ?_)); done
    | simp [Own, go_sem]
  have c4 : Own W1 (w.heap.size + 2) 0 [.int .i64 k, .bool a, .string x, .bool b, .string y] := by
    rw [hW1]
    first
    | (repeat (first | (with_reducible refine own_new (l := [.int .i64 k, .bool a, .string x, .bool b, .string y]) ?_; (simp; done)) | with_reducible refine Own.alloc ?_ _ | refine Own.far _ _ (by first | (simp; done) | (simp [*]; done) | (simp; omega)) ?_)); done
    | simp [Own, go_sem]
  have hB5 : Below w.heap.size w W1 := by
    rw [hW1]
    repeat (first | with_reducible exact Below.refl _ _ | with_reducible refine bel_alloc ?_ _ | refine Below.setCell ?_ (by first | (simp; done) | (simp; omega) | omega) _)
  clear hW1 hL1
  with_reducible refine (K1.out _).mono ?_
  rintro e w1 ⟨rfl, hb1⟩
  have c6 := c2.up hb1
  have c7 := c3.up hb1
  have c8 := c4.up hb1
  have hB9 : Below w.heap.size w w1 := bel_up hB5 hb1
  clear c2 c3 c4
  have uc6 := c6; have uc7 := c7; have uc8 := c8
  simp only [At, Own, Nat.reduceAdd, and_true] at uc6 uc7 uc8
  have K10 := Lib.hid (fun W => wshort_any a x b y false W hx1 hy1 HSH.out)
  go_wp2_with (fail)
  refine calls_named ?_
  intro W2 hW2
  have hL2 : Below w1.heap.size w1 W2 := by
    rw [hW2]
    repeat (first | with_reducible exact Below.refl _ _ | with_reducible refine bel_alloc ?_ _ | refine Below.setCell ?_ (by first | (simp; done) | (simp; omega) | omega) _)
  have c11 := c6.up hL2
  have c12 := c7.up hL2
  have c13 := c8.up hL2
  have hB14 : Below w.heap.size w W2 := by
    rw [hW2]
    repeat (first | with_reducible exact hB9 | with_reducible refine bel_alloc ?_ _ | refine Below.setCell ?_ (by first | (simp; done) | (simp; omega) | omega) _)
  clear hW2 hL2 uc6 uc7 uc8 c6 c7 c8
  with_reducible refine (K10.out _).mono ?_
  rintro e w2 ⟨rfl, hb2⟩
  have c15 := c11.up hb2
  have c16 := c12.up hb2
  have c17 := c13.up hb2
  have hB18 : Below w.heap.size w w2 := bel_up hB14 hb2
  clear c11 c12 c13
  have uc15 := c15; have uc16 := c16; have uc17 := c17
  simp only [At, Own, Nat.reduceAdd, and_true] at uc15 uc16 uc17
  go_wp2_with (fail)
  refine calls_named ?_
  intro W3 hW3
  have hL3 : Below w2.heap.size w2 W3 := by
    rw [hW3]
    repeat (first | with_reducible exact Below.refl _ _ | with_reducible refine bel_alloc ?_ _ | refine Below.setCell ?_ (by first | (simp; done) | (simp; omega) | omega) _)
  have c19 := c15.up hL3
  have c20 := c16.up hL3
  have c21 := c17.up hL3
  have hB22 : Below w.heap.size w W3 := by
    rw [hW3]
    repeat (first | with_reducible exact hB18 | with_reducible refine bel_alloc ?_ _ | refine Below.setCell ?_ (by first | (simp; done) | (simp; omega) | omega) _)
  clear hW3 hL3 uc15 uc16 uc17 c15 c16 c17
  with_reducible refine (K1.out _).mono ?_
  rintro e w3 ⟨rfl, hb3⟩
  have c23 := c19.up hb3
  have c24 := c20.up hb3
  have c25 := c21.up hb3
  have hB26 : Below w.heap.size w w3 := bel_up hB22 hb3
  clear c19 c20 c21
  have uc23 := c23; have uc24 := c24; have uc25 := c25
  simp only [At, Own, Nat.reduceAdd, and_true] at uc23 uc24 uc25
  go_wp2
  go_ret
  exact ⟨rfl, by repeat (first | with_reducible exact hB26 | with_reducible refine bel_alloc ?_ _ | refine Below.setCell ?_ (by first | (simp; done) | (simp; omega) | omega) _)⟩

theorem points_any (sp : List St) (la : List La) (wr1 wp1 k : Int) (a : Bool) (x : ByteArray) (b : Bool) (y : ByteArray) (v : Value) (w : World) (h : GV w v sp la) (hu : GU sp la) (hwr1 : U8 wr1) (hwp1 : U8 wp1) (hx1 : x.size ≤ 140737488355328) (hy1 : y.size ≤ 140737488355328) :
    Calls Tryz.prog 4 #[v, .agg #[.int .u8 wr1, .int .u8 wp1], .agg #[.int .i64 k, .bool a, .string x, .bool b, .string y]] w fun e w' => e = .returned (.bool true) ∧ Below w.heap.size w w' := by
  cases hc : decide (x.size + y.size ≤ 20)
  · exact points_long sp la wr1 wp1 k a x b y v w h hu hwr1 hwp1 hx1 hy1 hc
  · exact points_short sp la wr1 wp1 k a x b y v w h hu hwr1 hwp1 hx1 hy1 hc
end Go.Proofs.YtldfencaoaikgaaGreatDoor
