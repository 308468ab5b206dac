/-
 The law Ahead.
-/
import Derived.Test.YtldfencaoaikgaaGreatDoorTLfO
import Derived.Test.YtldfencaoaikgaaGreatDoorTNcl
set_option maxRecDepth 100000
set_option linter.unusedSimpArgs false
set_option linter.unusedVariables false
namespace Go.Proofs.YtldfencaoaikgaaGreatDoor
open Go Go.RowKit Nw

theorem lea_ex7 (o : Option Rat) : ∃ m fd, LeaR o m fd := by
 cases o with
 | none => exact ⟨0, false, .inr ⟨rfl, rfl, rfl⟩⟩
 | some x => exact ⟨x, true, .inl ⟨rfl, rfl⟩⟩
/-- What both packages' Ahead return. -/
def AhS (N : Net) (r1 r2 : Rd) (p q m1 m2 : Pc) (x : Rat) (b : Bool) : Prop := (m1 = m2 ∧ x = 0 ∧ b = true) ∨ (¬ m1 = m2 ∧ LeaR (aheadL r1 r2 p.q q.q N.rs none) x b)
theorem ahs_ex (N : Net) (r1 r2 : Rd) (p q m1 m2 : Pc) : ∃ x b, AhS N r1 r2 p q m1 m2 x b := by
 by_cases h : m1 = m2
 ·exact ⟨_, _, .inl ⟨h, rfl, rfl⟩⟩
 ·obtain ⟨x, b, hx⟩ := lea_ex7 (aheadL r1 r2 p.q q.q N.rs none)
  exact ⟨x, b, .inr ⟨h, hx⟩⟩
theorem nahead_all (N : Net) (r1 r2 : Rd) (p q m1 m2 : Pc) (x : Rat) (b : Bool) (v : Value) (w : World) (h : NV w v N) (g : Vld N) (hat1 : Nw.At N r1 p) (hat2 : Nw.At N r2 q) (hq : Pl.Sz 2000 p.q) (hq2 : Pl.Sz 2000 q.q) (hm1 : normE N r1 p = m1) (hm2 : normE N r2 q = m2) (hs : AhS N r1 r2 p q m1 m2 x b) :
 Calls Tryz.prog 49 #[v, .agg #[.int .i64 p.r, .bool (ng p.q.num), .string (mg p.q.num.natAbs), .bool false, .string (mg (dn p.q))], .agg #[.int .i64 q.r, .bool (ng q.q.num), .string (mg q.q.num.natAbs), .bool false, .string (mg (dn q.q))]] w fun e w' => e = .returned (.tuple #[qv x, .bool b]) ∧ Below w.heap.size w w' := by
 rcases hs with ⟨e, rfl, rfl⟩ | ⟨e, hx⟩
 ·exact ahead_same N r1 r2 p q m1 m2 v w h g hat1 hat2 hq hq2 hm1 hm2 (decide_eq_true e)
 ·exact ahead_diff N r1 r2 p q m1 m2 x b v w h g hat1 hat2 hq hq2 hm1 hm2 (decide_eq_false e) hx
theorem lahead_all (N : Net) (r1 r2 : Rd) (p q m1 m2 : Pc) (x : Rat) (b : Bool) (v : Value) (w : World) (h : NV w v N) (g : Vld N) (hat1 : Nw.At N r1 p) (hat2 : Nw.At N r2 q) (hq : Pl.Sz 2000 p.q) (hq2 : Pl.Sz 2000 q.q) (hm1 : normE N r1 p = m1) (hm2 : normE N r2 q = m2) (hs : AhS N r1 r2 p q m1 m2 x b) :
 Calls Tryz.prog 50 #[v, .agg #[.int .i64 p.r, .bool (ng p.q.num), .string (mg p.q.num.natAbs), .bool false, .string (mg (dn p.q))], .agg #[.int .i64 q.r, .bool (ng q.q.num), .string (mg q.q.num.natAbs), .bool false, .string (mg (dn q.q))]] w fun e w' => e = .returned (.tuple #[qv x, .bool b]) ∧ Below w.heap.size w w' := by
 rcases hs with ⟨e, rfl, rfl⟩ | ⟨e, hx⟩
 ·exact lahead_same N r1 r2 p q m1 m2 v w h g hat1 hat2 hq hq2 hm1 hm2 e
 ·exact lahead_diff N r1 r2 p q m1 m2 x b v w h g hat1 hat2 hq hq2 hm1 hm2 e hx
theorem nahead_zero (N : Net) (r : Rd) (p : Pc) (v : Value) (w : World) (h : NV w v N) (g : Vld N) (hat : Nw.At N r p) (hq : Pl.Sz 2000 p.q) :
 Calls Tryz.prog 49 #[v, .agg #[.int .i64 p.r, .bool (ng p.q.num), .string (mg p.q.num.natAbs), .bool false, .string (mg (dn p.q))], .agg #[.int .i64 0, .bool false, .string ⟨#[]⟩, .bool false, .string ⟨#[]⟩]] w fun e w' => e = .returned (.tuple #[.agg #[.bool false, .string ⟨#[]⟩, .bool false, .string ⟨#[]⟩], .bool false]) ∧ Below w.heap.size w w' := by
 have := ahead_bad N p ⟨0, 0⟩ 9 v w h g hq (Pl.sz_zero.mono (by decide)) ((at_iff hat.f).2 hat) (placeE_none (frd_zero g)) (by decide)
 exact this

set_option maxHeartbeats 4000000 in
theorem laheads_any (sp : List St) (la : List La) (wr1 wp1 wr2 wp2 : Int) (v : Value) (w : World) (h : GV w v sp la) (hu : GU sp la) (hwr1 : U8 wr1) (hwp1 : U8 wp1) (hwr2 : U8 wr2) (hwp2 : U8 wp2) :
 Calls Tryz.prog 12 #[v, .agg #[.int .u8 wr1, .int .u8 wp1], .agg #[.int .u8 wr2, .int .u8 wp2]] w fun e w' => e = .returned (.bool true) ∧ Below w.heap.size w w' := by
 have HWR1 := Lib.hid hwr1
 have HWP1 := Lib.hid hwp1
 clear hwr1 hwp1
 have HWR2 := Lib.hid hwr2
 have HWP2 := Lib.hid hwp2
 clear hwr2 hwp2
 obtain ⟨_, _, rfl, ha, hb⟩ := h
 obtain ⟨As, cs, rfl, hcs, hms, hxs⟩ := ha.open_
 obtain ⟨Al, cl, rfl, hcl, hml, hxl⟩ := hb.open_
 have HGV : Hid (GV w (.agg #[.slice As sp.length cs, .slice Al la.length cl]) sp la) := Lib.hid ⟨_, _, rfl, ha, hb⟩
 have HU := Lib.hid hu
 clear ha hb hxs hxl hcs hms hcl hml hu
 go_enter Tryz.func12, Tryz.ntmps12
 go_wp2_with (fail)
 refine calls_named ?_
 intro W1 hW1
 have hL1 : Below w.heap.size w W1 := by
  rw [hW1]
  exact bB7
 have c1 : Own W1 (w.heap.size) 0 [.slice As sp.length cs, .slice Al la.length cl] := by
  rw [hW1]
  first
  | (repeat (first | (with_reducible refine own_new (l := [.slice As sp.length cs, .slice Al la.length cl]) ?_; (simp; done)) | with_reducible refine Own.alloc ?_ _ | refine Own.far _ _ (by first | (simp; done) | (simp [*]; done) | (simp; omega)) ?_)); done
  | simp [Own, go_sem]
 have c2 : Own W1 (w.heap.size + 1) 0 [.int .u8 wr1, .int .u8 wp1] := by
  rw [hW1]
  first
  | (repeat (first | (with_reducible refine own_new (l := [.int .u8 wr1, .int .u8 wp1]) ?_; (simp; done)) | with_reducible refine Own.alloc ?_ _ | refine Own.far _ _ (by first | (simp; done) | (simp [*]; done) | (simp; omega)) ?_)); done
  | simp [Own, go_sem]
 have c3 : Own W1 (w.heap.size + 2) 0 [.int .u8 wr2, .int .u8 wp2] := by
  rw [hW1]
  first
  | (repeat (first | (with_reducible refine own_new (l := [.int .u8 wr2, .int .u8 wp2]) ?_; (simp; done)) | with_reducible refine Own.alloc ?_ _ | refine Own.far _ _ (by first | (simp; done) | (simp [*]; done) | (simp; omega)) ?_)); done
  | simp [Own, go_sem]
 have hB4 : Below w.heap.size w W1 := by
  rw [hW1]
  exact bB7
 clear hW1 hL1
 with_reducible refine (net_any sp la _ _ (HGV.out.up hB4) HU.out).mono ?_
 rintro e w1 ⟨v1, N, rfl, hv1, hok, hb1⟩
 have c5 := c1.up hb1
 have c6 := c2.up hb1
 have c7 := c3.up hb1
 have hB8 : Below w.heap.size w w1 := bel_up hB4 hb1
 clear c1 c2 c3
 obtain ⟨va, vb, rfl, hn, hr⟩ := hv1
 obtain ⟨An, cn, rfl, hcn, hmn, hxn⟩ := hn.open_
 obtain ⟨Ar, cr, rfl, hcr, hmr, hxr⟩ := hr.open_
 have HNV1 : Hid (NV w1 (.agg #[.slice An N.ns.length cn, .slice Ar N.rs.length cr]) N) := Lib.hid ⟨_, _, rfl, hn, hr⟩
 generalize hNn : N.ns.length = Nn at *
 generalize hNr : N.rs.length = Nr at *
 clear hn hr hxn hxr
 have an9 : w1.heap.size ≤ w1.heap.size := by omega
 have ne10_ : w.heap.size < w1.heap.size := by have := c5.lt; omega
 have ne10 := Nat.ne_of_lt ne10_
 have ne10' := ne10.symm
 have ne11_ : w.heap.size + 1 < w1.heap.size := by have := c6.lt; omega
 have ne11 := Nat.ne_of_lt ne11_
 have ne11' := ne11.symm
 have ne12_ : w.heap.size + 2 < w1.heap.size := by have := c7.lt; omega
 have ne12 := Nat.ne_of_lt ne12_
 have ne12' := ne12.symm
 go_upto_region 2 with fail
 refine wp_named ?_
 intro W2 hW2
 have hL2 : Below w1.heap.size w1 W2 := by
  rw [hW2]
  exact bB7
 have c13 := c5.up hL2
 have c14 := c6.up hL2
 have c15 := c7.up hL2
 have c16 : Own W2 (w1.heap.size) 0 [((.slice An Nn cn)), ((.slice Ar Nr cr))] := by
  rw [hW2]
  first
  | (repeat (first | (with_reducible refine own_new (l := [((.slice An Nn cn)), ((.slice Ar Nr cr))]) ?_; (simp; done)) | with_reducible refine Own.alloc ?_ _ | refine Own.far _ _ (by first | (simp; done) | (simp [*]; done) | (simp; omega)) ?_)); done
  | simp [Own, go_sem, ne10, ne10', ne10_, ne11, ne11', ne11_, ne12, ne12', ne12_]
 have hA17 := hL2
 have hB18 : Below w.heap.size w W2 := by
  rw [hW2]
  exact bB7
 clear hW2 hL2 c5 c6 c7
 have HNV2 : Hid (NV W2 (.agg #[.slice An Nn cn, .slice Ar Nr cr]) N) := Lib.hid (HNV1.out.up hA17)
 clear HNV1 hA17
 obtain ⟨w0, hw0⟩ : ∃ W_, W_ = w := ⟨_, rfl⟩
 subst hw0
 obtain ⟨w, hw⟩ : ∃ W_, W_ = W2 := ⟨_, rfl⟩
 subst hw
 have hBw := hB18
 clear hB18
 clear c13
 have HNV := HNV2
 have HG := Lib.hid hok.g
 have HOK := Lib.hid hok
 have hln := hok.g.ln
 have hlr := hok.g.lr
 have hn2 := hok.n2
 have hn8 := hok.n8
 have hr1 := hok.r1
 have hr13 := hok.r13
 rw [hNn] at hln hn2 hn8
 rw [hNr] at hlr hr1 hr13
 have HXN : Hid (LX CN 3 w An N.ns) := Lib.hid (nv_ns HNV.out)
 have HXR : Hid (LX CR 6 w Ar N.rs) := Lib.hid (nv_rs HNV.out)
 have HNn := Lib.hid hNn
 have HNr := Lib.hid hNr
 clear hok hNn hNr HNV2
 obtain ⟨r1, p1, hr_1, hp_1⟩ := place_ex HOK.out wr1 wp1
 obtain ⟨hat1, hz1⟩ := place_at HOK.out HWP1.out hr_1 hp_1
 have hq1 : Pl.Sz 2000 p1.q := hz1.mono (by decide)
 have HR1 := Lib.hid hr_1
 have HP1 := Lib.hid hp_1
 have HAT1 := Lib.hid hat1
 have HZ1 := Lib.hid hz1
 clear hr_1 hp_1 hat1 hz1
 obtain ⟨r2, p2, hr_2, hp_2⟩ := place_ex HOK.out wr2 wp2
 obtain ⟨hat2, hz2⟩ := place_at HOK.out HWP2.out hr_2 hp_2
 have hq2 : Pl.Sz 2000 p2.q := hz2.mono (by decide)
 have HR2 := Lib.hid hr_2
 have HP2 := Lib.hid hp_2
 have HAT2 := Lib.hid hat2
 have HZ2 := Lib.hid hz2
 clear hr_2 hp_2 hat2 hz2
 obtain ⟨m1, hm1⟩ : ∃ m, normE N r1 p1 = m := ⟨_, rfl⟩
 obtain ⟨m2, hm2⟩ : ∃ m, normE N r2 p2 = m := ⟨_, rfl⟩
 obtain ⟨x, b, hs⟩ := ahs_ex N r1 r2 p1 p2 m1 m2
 have HAS := Lib.hid hs
 have HM1 := Lib.hid hm1
 have HM2 := Lib.hid hm2
 have EQa := fun W => eqQ_in x x W
 rw [decide_eq_true rfl] at EQa
 clear hm1 hm2 hs
 go_upto_region 2 with fail
 refine wp_named ?_
 intro W3 hW3
 have hL3 : Below w.heap.size w W3 := by
  rw [hW3]
  exact bB7
 have c19 := c14.up hL3
 have c20 := c15.up hL3
 have c21 := c16.up hL3
 have hB22 : Below w.heap.size w W3 := by
  rw [hW3]
  exact bB7
 clear hW3 hL3 c14 c15 c16
 have K24 := Lib.hid (fun W (hv : NV W (.agg #[.slice An Nn cn, .slice Ar Nr cr]) N) => place_any N r1 p1 wr1 wp1 _ W hv HOK.out HWR1.out HWP1.out HR1.out HP1.out)
 have K25 := Lib.hid (fun W (hv : NV W (.agg #[.slice An Nn cn, .slice Ar Nr cr]) N) => place_any N r2 p2 wr2 wp2 _ W hv HOK.out HWR2.out HWP2.out HR2.out HP2.out)
 refine wp_region_new2s 8 6 8 7 9 [.int .i64 0, .bool false, .string ⟨#[]⟩, .bool false, .string ⟨#[]⟩] [.int .i64 0, .bool false, .string ⟨#[]⟩, .bool false, .string ⟨#[]⟩] 42 42 (by kernel_rfl) rfl rfl rfl rfl rfl rfl rfl (by kernel_rfl) rfl rfl (by simp) (by simp) (run_alloc_zero Tryz.zeroValue42 rfl) (by kernel_rfl) (run_alloc_zero Tryz.zeroValue42 rfl) (by kernel_rfl) ?_
 intro V_23 hV_23
 have vc19 := c19.up hV_23; have dc19 := fun p : Bel V_23 => vc19.bel p
 have vc20 := c20.up hV_23; have dc20 := fun p : Bel V_23 => vc20.bel p
 have vc21 := c21.up hV_23; have dc21 := fun p : Bel V_23 => vc21.bel p
 simp only [At, Own, Nat.reduceAdd, and_true] at dc19 dc20 dc21
 have hBV_23 := bel_up hB22 hV_23
 simp only [List.map_cons, List.map_nil, maskS, List.take_succ_cons, List.take_zero]
 repeat (go_big_quiet_step (first | (go_at_call 18; with_reducible exact Calls.bel (K24.out _ (HNV.out.up (bel_up hBV_23 (Bel.h _))))) | (go_at_call 18; with_reducible exact Calls.bel (K25.out _ (HNV.out.up (bel_up hBV_23 (Bel.h _)))))))
 refine wpQuiet_nil ?_
 refine ⟨[.int .i64 p1.r, .bool (ng p1.q.num), .string (mg p1.q.num.natAbs), .bool false, .string (mg (dn p1.q))], [.int .i64 p2.r, .bool (ng p2.q.num), .string (mg p2.q.num.natAbs), .bool false, .string (mg (dn p2.q))], rfl, rfl, by simp [Value.oneCell'], rfl, rfl, by simp [Value.oneCell'], ?_⟩
 intro bq26 bq27 wn_23 hbn_23 lbq26 mbq26 lbq27 mbq27 nbq26 c28 c29
 have nbq26' := nbq26.symm
 simp only [Act.put, List.setIfInBounds_toArray, List.set_cons_zero, List.set_cons_succ]
 have ne30 : w0.heap.size + 1 ≠ bq26 := by have := c19.lt; omega
 have ne30' := ne30.symm
 have ne31 : w0.heap.size + 2 ≠ bq26 := by have := c20.lt; omega
 have ne31' := ne31.symm
 have ne32 : w1.heap.size ≠ bq26 := by have := c21.lt; omega
 have ne32' := ne32.symm
 have wbq26 := Nat.le_trans hB22.size lbq26
 have ne33 : w0.heap.size + 1 ≠ bq27 := by have := c19.lt; omega
 have ne33' := ne33.symm
 have ne34 : w0.heap.size + 2 ≠ bq27 := by have := c20.lt; omega
 have ne34' := ne34.symm
 have ne35 : w1.heap.size ≠ bq27 := by have := c21.lt; omega
 have ne35' := ne35.symm
 have wbq27 := Nat.le_trans hB22.size lbq27
 clear hBV_23 dc21 vc21 dc20 vc20 dc19 vc19 hV_23 V_23
 have c36 := c19.up hbn_23
 have c37 := c20.up hbn_23
 have c38 := c21.up hbn_23
 have hB39 : Below w.heap.size w wn_23 := bel_up hB22 hbn_23
 clear c19 c20 c21
 have uc36 := c36; have uc37 := c37; have uc38 := c38; have uc28 := c28; have uc29 := c29
 simp only [At, Own, Nat.reduceAdd, and_true] at uc36 uc37 uc38 uc28 uc29
 have K40 := Lib.hid (fun W (hv : NV W (.agg #[.slice An Nn cn, .slice Ar Nr cr]) N) => nahead_all N r1 r2 p1 p2 m1 m2 x b _ W hv HG.out HAT1.out HAT2.out hq1 hq2 HM1.out HM2.out HAS.out)
 go_wp2_with (fail)
 refine calls_named ?_
 intro W4 hW4
 have hL4 : Below wn_23.heap.size wn_23 W4 := by
  rw [hW4]
  exact bB7
 have c41 := c36.up hL4
 have c42 := c37.up hL4
 have c43 := c38.up hL4
 have c44 := c28.up hL4
 have c45 := c29.up hL4
 have hB46 : Below w.heap.size w W4 := by
  rw [hW4]
  exact bB7
 clear hW4 hL4 uc36 uc37 uc38 uc28 uc29 c36 c37 c38 c28 c29
 with_reducible refine (K40.out _ (HNV.out.up hB46)).mono ?_
 rintro e w4 ⟨rfl, hb4⟩
 have c47 := c41.up hb4
 have c48 := c42.up hb4
 have c49 := c43.up hb4
 have c50 := c44.up hb4
 have c51 := c45.up hb4
 have hB52 : Below w.heap.size w w4 := bel_up hB46 hb4
 clear c41 c42 c43 c44 c45
 have ne53_ : w0.heap.size + 1 < w4.heap.size := by have := c47.lt; omega
 have ne53 := Nat.ne_of_lt ne53_
 have ne53' := ne53.symm
 have ne54_ : w0.heap.size + 2 < w4.heap.size := by have := c48.lt; omega
 have ne54 := Nat.ne_of_lt ne54_
 have ne54' := ne54.symm
 have ne55_ : w1.heap.size < w4.heap.size := by have := c49.lt; omega
 have ne55 := Nat.ne_of_lt ne55_
 have ne55' := ne55.symm
 have ne56_ : bq26 < w4.heap.size := by have := c50.lt; omega
 have ne56 := Nat.ne_of_lt ne56_
 have ne56' := ne56.symm
 have ne57_ : bq27 < w4.heap.size := by have := c51.lt; omega
 have ne57 := Nat.ne_of_lt ne57_
 have ne57' := ne57.symm
 have uc47 := c47; have uc48 := c48; have uc49 := c49; have uc50 := c50; have uc51 := c51
 simp only [At, Own, Nat.reduceAdd, and_true] at uc47 uc48 uc49 uc50 uc51
 have K58 := Lib.hid (fun W (hv : NV W (.agg #[.slice An Nn cn, .slice Ar Nr cr]) N) => lahead_all N r1 r2 p1 p2 m1 m2 x b _ W hv HG.out HAT1.out HAT2.out hq1 hq2 HM1.out HM2.out HAS.out)
 go_wp2_with (fail)
 refine calls_named ?_
 intro W5 hW5
 have hL5 : Below w4.heap.size w4 W5 := by
  rw [hW5]
  exact bB7
 have c59 := c47.up hL5
 have c60 := c48.up hL5
 have c61 := c49.up hL5
 have c62 := c50.up hL5
 have c63 := c51.up hL5
 have c64 : Own W5 (w4.heap.size) 0 [.bool (ng x.num), .string (mg x.num.natAbs), .bool false, .string (mg (dn x))] := by
  rw [hW5]
  first
  | (repeat (first | (with_reducible refine own_new (l := [.bool (ng x.num), .string (mg x.num.natAbs), .bool false, .string (mg (dn x))]) ?_; (simp; done)) | with_reducible refine Own.alloc ?_ _ | refine Own.far _ _ (by first | (simp; done) | (simp [*]; done) | (simp; omega)) ?_)); done
  | simp [Own, go_sem, uc47, uc48, uc49, uc50, uc51, ne53, ne53', ne53_, ne54, ne54', ne54_, ne55, ne55', ne55_, ne56, ne56', ne56_, ne57, ne57', ne57_, nbq26, nbq26', ne30, ne30', ne31, ne31', ne32, ne32', ne33, ne33', ne34, ne34', ne35, ne35']
 have hB65 : Below w.heap.size w W5 := by
  rw [hW5]
  exact bB7
 clear hW5 hL5 uc47 uc48 uc49 uc50 uc51 c47 c48 c49 c50 c51
 with_reducible refine (K58.out _ (HNV.out.up hB65)).mono ?_
 rintro e w5 ⟨rfl, hb5⟩
 have c66 := c59.up hb5
 have c67 := c60.up hb5
 have c68 := c61.up hb5
 have c69 := c62.up hb5
 have c70 := c63.up hb5
 have c71 := c64.up hb5
 have hB72 : Below w.heap.size w w5 := bel_up hB65 hb5
 clear c59 c60 c61 c62 c63 c64
 have ne73_ : w0.heap.size + 1 < w5.heap.size := by have := c66.lt; omega
 have ne73 := Nat.ne_of_lt ne73_
 have ne73' := ne73.symm
 have ne74_ : w0.heap.size + 2 < w5.heap.size := by have := c67.lt; omega
 have ne74 := Nat.ne_of_lt ne74_
 have ne74' := ne74.symm
 have ne75_ : w1.heap.size < w5.heap.size := by have := c68.lt; omega
 have ne75 := Nat.ne_of_lt ne75_
 have ne75' := ne75.symm
 have ne76_ : bq26 < w5.heap.size := by have := c69.lt; omega
 have ne76 := Nat.ne_of_lt ne76_
 have ne76' := ne76.symm
 have ne77_ : bq27 < w5.heap.size := by have := c70.lt; omega
 have ne77 := Nat.ne_of_lt ne77_
 have ne77' := ne77.symm
 have ne78_ : w4.heap.size < w5.heap.size := by have := c71.lt; omega
 have ne78 := Nat.ne_of_lt ne78_
 have ne78' := ne78.symm
 have uc66 := c66; have uc67 := c67; have uc68 := c68; have uc69 := c69; have uc70 := c70; have uc71 := c71
 simp only [At, Own, Nat.reduceAdd, and_true] at uc66 uc67 uc68 uc69 uc70 uc71
 have K79 := Lib.hid (fun W (hv : NV W (.agg #[.slice An Nn cn, .slice Ar Nr cr]) N) => nahead_zero N r1 p1 _ W hv HG.out HAT1.out hq1)
 go_wp2_with (fail)
 refine calls_named ?_
 intro W6 hW6
 have hL6 : Below w5.heap.size w5 W6 := by
  rw [hW6]
  exact bB7
 have c80 := c66.up hL6
 have c81 := c67.up hL6
 have c82 := c68.up hL6
 have c83 := c69.up hL6
 have c84 := c70.up hL6
 have c85 := c71.up hL6
 have c86 : Own W6 (w5.heap.size) 0 [.bool (ng x.num), .string (mg x.num.natAbs), .bool false, .string (mg (dn x))] := by
  rw [hW6]
  first
  | (repeat (first | (with_reducible refine own_new (l := [.bool (ng x.num), .string (mg x.num.natAbs), .bool false, .string (mg (dn x))]) ?_; (simp; done)) | with_reducible refine Own.alloc ?_ _ | refine Own.far _ _ (by first | (simp; done) | (simp [*]; done) | (simp; omega)) ?_)); done
  | simp [Own, go_sem, uc66, uc67, uc68, uc69, uc70, uc71, ne73, ne73', ne73_, ne74, ne74', ne74_, ne75, ne75', ne75_, ne76, ne76', ne76_, ne77, ne77', ne77_, ne78, ne78', ne78_, nbq26, nbq26', ne30, ne30', ne31, ne31', ne32, ne32', ne33, ne33', ne34, ne34', ne35, ne35']
 have hB87 : Below w.heap.size w W6 := by
  rw [hW6]
  exact bB7
 clear hW6 hL6 uc66 uc67 uc68 uc69 uc70 uc71 c66 c67 c68 c69 c70 c71
 with_reducible refine (K79.out _ (HNV.out.up hB87)).mono ?_
 rintro e w6 ⟨rfl, hb6⟩
 have c88 := c80.up hb6
 have c89 := c81.up hb6
 have c90 := c82.up hb6
 have c91 := c83.up hb6
 have c92 := c84.up hb6
 have c93 := c85.up hb6
 have c94 := c86.up hb6
 have hB95 : Below w.heap.size w w6 := bel_up hB87 hb6
 clear c80 c81 c82 c83 c84 c85 c86
 have ne96_ : w0.heap.size + 1 < w6.heap.size := by have := c88.lt; omega
 have ne96 := Nat.ne_of_lt ne96_
 have ne96' := ne96.symm
 have ne97_ : w0.heap.size + 2 < w6.heap.size := by have := c89.lt; omega
 have ne97 := Nat.ne_of_lt ne97_
 have ne97' := ne97.symm
 have ne98_ : w1.heap.size < w6.heap.size := by have := c90.lt; omega
 have ne98 := Nat.ne_of_lt ne98_
 have ne98' := ne98.symm
 have ne99_ : bq26 < w6.heap.size := by have := c91.lt; omega
 have ne99 := Nat.ne_of_lt ne99_
 have ne99' := ne99.symm
 have ne100_ : bq27 < w6.heap.size := by have := c92.lt; omega
 have ne100 := Nat.ne_of_lt ne100_
 have ne100' := ne100.symm
 have ne101_ : w4.heap.size < w6.heap.size := by have := c93.lt; omega
 have ne101 := Nat.ne_of_lt ne101_
 have ne101' := ne101.symm
 have ne102_ : w5.heap.size < w6.heap.size := by have := c94.lt; omega
 have ne102 := Nat.ne_of_lt ne102_
 have ne102' := ne102.symm
 have uc88 := c88; have uc89 := c89; have uc90 := c90; have uc91 := c91; have uc92 := c92; have uc93 := c93; have uc94 := c94
 simp only [At, Own, Nat.reduceAdd, and_true] at uc88 uc89 uc90 uc91 uc92 uc93 uc94
 cases b
 ·skip
  have K103 := Lib.hid (fun W => known_any W)
  go_wp2_with (fail)
  refine calls_named ?_
  intro W7 hW7
  have hL7 : Below w6.heap.size w6 W7 := by
   rw [hW7]
   exact bB7
  have c104 := c88.up hL7
  have c105 := c89.up hL7
  have c106 := c90.up hL7
  have c107 := c91.up hL7
  have c108 := c92.up hL7
  have c109 := c93.up hL7
  have c110 := c94.up hL7
  have c111 : Own W7 (w6.heap.size) 0 [.bool false, .string ⟨#[]⟩, .bool false, .string ⟨#[]⟩] := by
   rw [hW7]
   first
   | (repeat (first | (with_reducible refine own_new (l := [.bool false, .string ⟨#[]⟩, .bool false, .string ⟨#[]⟩]) ?_; (simp; done)) | with_reducible refine Own.alloc ?_ _ | refine Own.far _ _ (by first | (simp; done) | (simp [*]; done) | (simp; omega)) ?_)); done
   | simp [Own, go_sem, uc88, uc89, uc90, uc91, uc92, uc93, uc94, ne96, ne96', ne96_, ne97, ne97', ne97_, ne98, ne98', ne98_, ne99, ne99', ne99_, ne100, ne100', ne100_, ne101, ne101', ne101_, ne102, ne102', ne102_, nbq26, nbq26', ne30, ne30', ne31, ne31', ne32, ne32', ne33, ne33', ne34, ne34', ne35, ne35']
  have hB112 : Below w.heap.size w W7 := by
   rw [hW7]
   exact bB7
  clear hW7 hL7 uc88 uc89 uc90 uc91 uc92 uc93 uc94 c88 c89 c90 c91 c92 c93 c94
  with_reducible refine (K103.out _).mono ?_
  rintro e w7 ⟨rfl, hb7⟩
  have c113 := c104.up hb7
  have c114 := c105.up hb7
  have c115 := c106.up hb7
  have c116 := c107.up hb7
  have c117 := c108.up hb7
  have c118 := c109.up hb7
  have c119 := c110.up hb7
  have c120 := c111.up hb7
  have hB121 : Below w.heap.size w w7 := bel_up hB112 hb7
  clear c104 c105 c106 c107 c108 c109 c110 c111
  have uc113 := c113; have uc114 := c114; have uc115 := c115; have uc116 := c116; have uc117 := c117; have uc118 := c118; have uc119 := c119; have uc120 := c120
  simp only [At, Own, Nat.reduceAdd, and_true] at uc113 uc114 uc115 uc116 uc117 uc118 uc119 uc120
  go_wp2
  go_ret
  exact ⟨rfl, bel_up hBw (by exact bB7)⟩
 ·skip
  have K122 := Lib.hid (fun W => known_any W)
  go_wp2_with (fail)
  refine calls_named ?_
  intro W8 hW8
  have hL8 : Below w6.heap.size w6 W8 := by
   rw [hW8]
   exact bB7
  have c123 := c88.up hL8
  have c124 := c89.up hL8
  have c125 := c90.up hL8
  have c126 := c91.up hL8
  have c127 := c92.up hL8
  have c128 := c93.up hL8
  have c129 := c94.up hL8
  have c130 : Own W8 (w6.heap.size) 0 [.bool false, .string ⟨#[]⟩, .bool false, .string ⟨#[]⟩] := by
   rw [hW8]
   first
   | (repeat (first | (with_reducible refine own_new (l := [.bool false, .string ⟨#[]⟩, .bool false, .string ⟨#[]⟩]) ?_; (simp; done)) | with_reducible refine Own.alloc ?_ _ | refine Own.far _ _ (by first | (simp; done) | (simp [*]; done) | (simp; omega)) ?_)); done
   | simp [Own, go_sem, uc88, uc89, uc90, uc91, uc92, uc93, uc94, ne96, ne96', ne96_, ne97, ne97', ne97_, ne98, ne98', ne98_, ne99, ne99', ne99_, ne100, ne100', ne100_, ne101, ne101', ne101_, ne102, ne102', ne102_, nbq26, nbq26', ne30, ne30', ne31, ne31', ne32, ne32', ne33, ne33', ne34, ne34', ne35, ne35']
  have hB131 : Below w.heap.size w W8 := by
   rw [hW8]
   exact bB7
  clear hW8 hL8 uc88 uc89 uc90 uc91 uc92 uc93 uc94 c88 c89 c90 c91 c92 c93 c94
  with_reducible refine (K122.out _).mono ?_
  rintro e w8 ⟨rfl, hb8⟩
  have c132 := c123.up hb8
  have c133 := c124.up hb8
  have c134 := c125.up hb8
  have c135 := c126.up hb8
  have c136 := c127.up hb8
  have c137 := c128.up hb8
  have c138 := c129.up hb8
  have c139 := c130.up hb8
  have hB140 : Below w.heap.size w w8 := bel_up hB131 hb8
  clear c123 c124 c125 c126 c127 c128 c129 c130
  have uc132 := c132; have uc133 := c133; have uc134 := c134; have uc135 := c135; have uc136 := c136; have uc137 := c137; have uc138 := c138; have uc139 := c139
  simp only [At, Own, Nat.reduceAdd, and_true] at uc132 uc133 uc134 uc135 uc136 uc137 uc138 uc139
  go_wp2
  go_ret
  exact ⟨rfl, bel_up hBw (by exact bB7)⟩
end Go.Proofs.YtldfencaoaikgaaGreatDoor
