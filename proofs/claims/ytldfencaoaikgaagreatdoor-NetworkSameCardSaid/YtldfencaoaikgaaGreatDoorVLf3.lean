/-
  The law Same.
-/
import Derived.Test.YtldfencaoaikgaaGreatDoorVLfQ
import Derived.Test.YtldfencaoaikgaaGreatDoorVLfP
set_option linter.unusedSimpArgs false
set_option linter.unusedVariables false
namespace Go.Proofs.YtldfencaoaikgaaGreatDoor
open Go Go.RowKit Nw

theorem norm_sz {N : Net} (g : Vld N) {r : Rd} {p : Pc} (h : Nw.At N r p) (hz : Pl.Sz 20 p.q) : Pl.Sz 20 (normE N r p).q := by
  rcases norm_cases g h with ⟨_, h2⟩ | ⟨n, r', _, _, _, h4, h5⟩
  · rw [h2]; exact hz
  · rw [h4]
    have hok := h5.ok g
    show Pl.Sz 20 (offE r' n)
    exact (off_sz rfl (by have := hok.2.2.1; omega) (by have := hok.2.2.2.1; omega)).mono (by decide)
theorem lat_pos {N : Net} (g : Vld N) {r : Rd} {p : Pc} (h : Nw.At N r p) : (atR r p.q = none ∧ latE r p.q = 0) ∨ (∃ n, atR r p.q = some n ∧ latE r p.q = n ∧ 1 ≤ n) := by
  have hok := h.ok g
  have hne := hok.2.2.2.2.2.2.1
  cases ha : atR r p.q with
  | none => exact .inl ⟨rfl, lat_off hok hne ha⟩
  | some n => exact .inr ⟨n, rfl, lat_on hne ha, at_pos g (frd_of h.f).1 ha⟩
theorem frd_zero {N : Net} (g : Vld N) : frd N.rs 0 = none := by
  refine List.find?_eq_none.2 fun r hr h => ?_
  have := (g.or r hr).1
  simp at h; omega
theorem neg_place {N : Net} {r : Rd} {k : Int} {q : Rat} (h : frd N.rs k = some r) (hq : q = ((-1 : Int) : Rat)) : placeE N ⟨k, q⟩ = 2 := by
  rw [placeE_some (p := ⟨k, q⟩) h]
  unfold placeR
  rw [if_pos (.inl ((Pl.sgn_lt_iff _).2 (by rw [hq]; show ((-1 : Int) : Rat) < 0; decide +kernel)))]
theorem same_yes (N : Net) (r1 r2 : Rd) (p q m1 m2 : Pc) (v : Value) (w : World) (h : NV w v N) (g : Vld N) (hat1 : Nw.At N r1 p) (hat2 : Nw.At N r2 q) (hq : Pl.Sz 2000 p.q) (hq2 : Pl.Sz 2000 q.q) (hm1 : normE N r1 p = m1) (hm2 : normE N r2 q = m2) (e : m1 = m2) :
    Calls Tryz.prog 48 #[v, .agg #[.int .i64 p.r, .bool (ng p.q.num), .string (mg p.q.num.natAbs), .bool false, .string (mg (dn p.q))], .agg #[.int .i64 q.r, .bool (ng q.q.num), .string (mg q.q.num.natAbs), .bool false, .string (mg (dn q.q))]] w fun e w' => e = .returned (.bool true) ∧ Below w.heap.size w w' := by
  have := same_any N r1 r2 p q m1 m2 v w h g hat1 hat2 hq hq2 hm1 hm2
  rwa [decide_eq_true e] at this
theorem same_no (N : Net) (r1 r2 : Rd) (p q m1 m2 : Pc) (v : Value) (w : World) (h : NV w v N) (g : Vld N) (hat1 : Nw.At N r1 p) (hat2 : Nw.At N r2 q) (hq : Pl.Sz 2000 p.q) (hq2 : Pl.Sz 2000 q.q) (hm1 : normE N r1 p = m1) (hm2 : normE N r2 q = m2) (e : ¬ m1 = m2) :
    Calls Tryz.prog 48 #[v, .agg #[.int .i64 p.r, .bool (ng p.q.num), .string (mg p.q.num.natAbs), .bool false, .string (mg (dn p.q))], .agg #[.int .i64 q.r, .bool (ng q.q.num), .string (mg q.q.num.natAbs), .bool false, .string (mg (dn q.q))]] w fun e w' => e = .returned (.bool false) ∧ Below w.heap.size w w' := by
  have := same_any N r1 r2 p q m1 m2 v w h g hat1 hat2 hq hq2 hm1 hm2
  rwa [decide_eq_false e] at this

set_option maxRecDepth 100000 in
set_option maxHeartbeats 4000000 in
theorem sames_any (sp : List St) (la : List La) (wr1 wp1 wr2 wp2 : Int) (v : Value) (w : World) (h : GV w v sp la) (hu : GU sp la) (hwr1 : U8 wr1) (hwp1 : U8 wp1) (hwr2 : U8 wr2) (hwp2 : U8 wp2) :
    Calls Tryz.prog 11 #[v, .agg #[.int .u8 wr1, .int .u8 wp1], .agg #[.int .u8 wr2, .int .u8 wp2]] w fun e w' => e = .returned (.bool true) ∧ Below w.heap.size w w' := by
  have HWR1 := Lib.hid hwr1
  have HWP1 := Lib.hid hwp1
  clear hwr1 hwp1
  have HWR2 := Lib.hid hwr2
  have HWP2 := Lib.hid hwp2
  clear hwr2 hwp2
  obtain ⟨_, _, rfl, ha, hb⟩ := h
  obtain ⟨As, cs, rfl, hcs, hms, hxs⟩ := ha.open_
  obtain ⟨Al, cl, rfl, hcl, hml, hxl⟩ := hb.open_
  have HGV : Hid (GV w (.agg #[.slice As sp.length cs, .slice Al la.length cl]) sp la) := Lib.hid ⟨_, _, rfl, ha, hb⟩
  have HU := Lib.hid hu
  clear ha hb hxs hxl hcs hms hcl hml hu
  go_enter Tryz.func11, Tryz.ntmps11
  go_wp2_with (fail)
  refine calls_named ?_
  intro W1 hW1
  have hL1 : Below w.heap.size w W1 := by
    rw [hW1]
    repeat (first | with_reducible exact Below.refl _ _ | with_reducible refine bel_alloc ?_ _ | refine Below.setCell ?_ (by first | (simp; done) | (simp; omega) | omega) _)
  have c1 : Own W1 (w.heap.size) 0 [.slice As sp.length cs, .slice Al la.length cl] := by
    rw [hW1]
    first
    | (repeat (first | (with_reducible refine own_new (l := [.slice As sp.length cs, .slice Al la.length cl]) ?_; (simp; done)) | with_reducible refine Own.alloc ?_ _ | refine Own.far _ _ (by first | (simp; done) | (simp [*]; done) | (simp; omega)) ?_)); done
    | simp [Own, go_sem]
  have c2 : Own W1 (w.heap.size + 1) 0 [.int .u8 wr1, .int .u8 wp1] := by
    rw [hW1]
    first
    | (repeat (first | (with_reducible refine own_new (l := [.int .u8 wr1, .int .u8 wp1]) ?_; (simp; done)) | with_reducible refine Own.alloc ?_ _ | refine Own.far _ _ (by first | (simp; done) | (simp [*]; done) | (simp; omega)) ?_)); done
    | simp [Own, go_sem]
  have c3 : Own W1 (w.heap.size + 2) 0 [.int .u8 wr2, .int .u8 wp2] := by
    rw [hW1]
    first
    | (repeat (first | (with_reducible refine own_new (l := [.int .u8 wr2, .int .u8 wp2]) ?_; (simp; done)) | with_reducible refine Own.alloc ?_ _ | refine Own.far _ _ (by first | (simp; done) | (simp [*]; done) | (simp; omega)) ?_)); done
    | simp [Own, go_sem]
  have hB4 : Below w.heap.size w W1 := by
    rw [hW1]
    repeat (first | with_reducible exact Below.refl _ _ | with_reducible refine bel_alloc ?_ _ | refine Below.setCell ?_ (by first | (simp; done) | (simp; omega) | omega) _)
  clear hW1 hL1
  with_reducible refine (net_any sp la _ _ (HGV.out.up hB4) HU.out).mono ?_
  rintro e w1 ⟨v1, N, rfl, hv1, hok, hb1⟩
  have c5 := c1.up hb1
  have c6 := c2.up hb1
  have c7 := c3.up hb1
  have hB8 : Below w.heap.size w w1 := bel_up hB4 hb1
  clear c1 c2 c3
  obtain ⟨va, vb, rfl, hn, hr⟩ := hv1
  obtain ⟨An, cn, rfl, hcn, hmn, hxn⟩ := hn.open_
  obtain ⟨Ar, cr, rfl, hcr, hmr, hxr⟩ := hr.open_
  have HNV1 : Hid (NV w1 (.agg #[.slice An N.ns.length cn, .slice Ar N.rs.length cr]) N) := Lib.hid ⟨_, _, rfl, hn, hr⟩
  generalize hNn : N.ns.length = Nn at *
  generalize hNr : N.rs.length = Nr at *
  clear hn hr hxn hxr
  have an9 : w1.heap.size ≤ w1.heap.size := by omega
  have ne10_ : w.heap.size < w1.heap.size := by have := c5.lt; omega
  have ne10 := Nat.ne_of_lt ne10_
  have ne10' := ne10.symm
  have ne11_ : w.heap.size + 1 < w1.heap.size := by have := c6.lt; omega
  have ne11 := Nat.ne_of_lt ne11_
  have ne11' := ne11.symm
  have ne12_ : w.heap.size + 2 < w1.heap.size := by have := c7.lt; omega
  have ne12 := Nat.ne_of_lt ne12_
  have ne12' := ne12.symm
  go_upto_region 2 with fail
  refine wp_named ?_
  intro W2 hW2
  have hL2 : Below w1.heap.size w1 W2 := by
    rw [hW2]
    repeat (first | with_reducible exact Below.refl _ _ | with_reducible refine bel_alloc ?_ _ | refine Below.setCell ?_ (by first | (simp; done) | (simp; omega) | omega) _)
  have c13 := c5.up hL2
  have c14 := c6.up hL2
  have c15 := c7.up hL2
  have c16 : Own W2 (w1.heap.size) 0 [((.slice An Nn cn)), ((.slice Ar Nr cr))] := by
    rw [hW2]
    first
    | (repeat (first | (with_reducible refine own_new (l := [((.slice An Nn cn)), ((.slice Ar Nr cr))]) ?_; (simp; done)) | with_reducible refine Own.alloc ?_ _ | refine Own.far _ _ (by first | (simp; done) | (simp [*]; done) | (simp; omega)) ?_)); done
    | simp [Own, go_sem, ne10, ne10', ne10_, ne11, ne11', ne11_, ne12, ne12', ne12_]
  have hA17 := hL2
  have hB18 : Below w.heap.size w W2 := by
    rw [hW2]
    repeat (first | with_reducible exact hB8 | with_reducible refine bel_alloc ?_ _ | refine Below.setCell ?_ (by first | (simp; done) | (simp; omega) | omega) _)
  clear hW2 hL2 c5 c6 c7
  have HNV2 : Hid (NV W2 (.agg #[.slice An Nn cn, .slice Ar Nr cr]) N) := Lib.hid (HNV1.out.up hA17)
  clear HNV1 hA17
  obtain ⟨w0, hw0⟩ : ∃ W_, W_ = w := ⟨_, rfl⟩
  subst hw0
  obtain ⟨w, hw⟩ : ∃ W_, W_ = W2 := ⟨_, rfl⟩
  subst hw
  have hBw := hB18
  clear hB18
  clear c13
  have HNV := HNV2
  have HG := Lib.hid hok.g
  have HOK := Lib.hid hok
  have hln := hok.g.ln
  have hlr := hok.g.lr
  have hn2 := hok.n2
  have hn8 := hok.n8
  have hr1 := hok.r1
  have hr13 := hok.r13
  rw [hNn] at hln hn2 hn8
  rw [hNr] at hlr hr1 hr13
  have HXN : Hid (LX CN 3 w An N.ns) := Lib.hid (nv_ns HNV.out)
  have HXR : Hid (LX CR 6 w Ar N.rs) := Lib.hid (nv_rs HNV.out)
  have HNn := Lib.hid hNn
  have HNr := Lib.hid hNr
  clear hok hNn hNr HNV2
  obtain ⟨r1, p1, hr_1, hp_1⟩ := place_ex HOK.out wr1 wp1
  obtain ⟨hat1, hz1⟩ := place_at HOK.out HWP1.out hr_1 hp_1
  have hq1 : Pl.Sz 2000 p1.q := hz1.mono (by decide)
  have HR1 := Lib.hid hr_1
  have HP1 := Lib.hid hp_1
  have HAT1 := Lib.hid hat1
  have HZ1 := Lib.hid hz1
  clear hr_1 hp_1 hat1 hz1
  obtain ⟨r2, p2, hr_2, hp_2⟩ := place_ex HOK.out wr2 wp2
  obtain ⟨hat2, hz2⟩ := place_at HOK.out HWP2.out hr_2 hp_2
  have hq2 : Pl.Sz 2000 p2.q := hz2.mono (by decide)
  have HR2 := Lib.hid hr_2
  have HP2 := Lib.hid hp_2
  have HAT2 := Lib.hid hat2
  have HZ2 := Lib.hid hz2
  clear hr_2 hp_2 hat2 hz2
  obtain ⟨m1, hm1⟩ : ∃ m, normE N r1 p1 = m := ⟨_, rfl⟩
  obtain ⟨m2, hm2⟩ : ∃ m, normE N r2 p2 = m := ⟨_, rfl⟩
  obtain ⟨x1, hx1⟩ : ∃ x, pointN N r1 p1.q = x := ⟨_, rfl⟩
  obtain ⟨x2, hx2⟩ : ∃ x, pointN N r2 p2.q = x := ⟨_, rfl⟩
  obtain ⟨rm1, ham1, hmm1⟩ := norm_norm HG.out HAT1.out
  have hx12 : m1 = m2 → x1 = x2 := fun e_ => by
    obtain ⟨rm2, ham2, _⟩ := norm_norm HG.out HAT2.out
    have e1 := point_norm HG.out HAT1.out ham1
    have e2 := point_norm HG.out HAT2.out ham2
    rw [hm1] at ham1 e1
    rw [hm2] at ham2 e2
    subst e_
    have e3 : rm1 = rm2 := by have e_ := ham1.f.symm.trans ham2.f; injection e_
    subst e3
    rw [← hx1, ← hx2, ← e1, ← e2]
  rw [hm1] at ham1 hmm1
  have hqm1 : Pl.Sz 2000 m1.q := by rw [← hm1]; exact (norm_sz HG.out HAT1.out HZ1.out).mono (by decide)
  have hqm2 : Pl.Sz 2000 m2.q := by rw [← hm2]; exact (norm_sz HG.out HAT2.out HZ2.out).mono (by decide)
  obtain ⟨qm, hqm⟩ : ∃ q : Rat, q = ((-1 : Int) : Rat) := ⟨_, rfl⟩
  have ZQM : Pl.Sz 2000 qm := by rw [hqm]; exact (sz_small (n := -1) (by decide) (by decide)).mono (by decide)
  have HBD := Lib.hid (neg_place HAT1.out.f hqm)
  have HQM := Lib.hid hqm
  have HM1 := Lib.hid hm1
  have HM2 := Lib.hid hm2
  have HX1 := Lib.hid hx1
  have HX2 := Lib.hid hx2
  have HATM := Lib.hid ham1
  have HMM := Lib.hid hmm1
  clear hqm hm1 hm2 hx1 hx2 ham1 hmm1
  by_cases heq : m1 = m2
  · skip
    have HEQ := Lib.hid heq
    have EQa := fun W => eqPc_in m1 m2 W
    rw [decide_eq_true heq] at EQa
    have EQb := fun W => eqP_in x1 x2 W
    rw [decide_eq_true (hx12 heq)] at EQb
    clear heq hx12
    go_upto_region 2 with fail
    refine wp_named ?_
    intro W3 hW3
    have hL3 : Below w.heap.size w W3 := by
      rw [hW3]
      repeat (first | with_reducible exact Below.refl _ _ | with_reducible refine bel_alloc ?_ _ | refine Below.setCell ?_ (by first | (simp; done) | (simp; omega) | omega) _)
    have c19 := c14.up hL3
    have c20 := c15.up hL3
    have c21 := c16.up hL3
    have hB22 : Below w.heap.size w W3 := by
      rw [hW3]
      repeat (first | with_reducible exact Below.refl _ _ | with_reducible refine bel_alloc ?_ _ | refine Below.setCell ?_ (by first | (simp; done) | (simp; omega) | omega) _)
    clear hW3 hL3 c14 c15 c16
    have K24 := Lib.hid (fun W (hv : NV W (.agg #[.slice An Nn cn, .slice Ar Nr cr]) N) => place_any N r1 p1 wr1 wp1 _ W hv HOK.out HWR1.out HWP1.out HR1.out HP1.out)
    have K25 := Lib.hid (fun W (hv : NV W (.agg #[.slice An Nn cn, .slice Ar Nr cr]) N) => place_any N r2 p2 wr2 wp2 _ W hv HOK.out HWR2.out HWP2.out HR2.out HP2.out)
    refine wp_region_new2s 8 6 8 7 9 [.int .i64 0, .bool false, .string ⟨#[]⟩, .bool false, .string ⟨#[]⟩] [.int .i64 0, .bool false, .string ⟨#[]⟩, .bool false, .string ⟨#[]⟩] 42 42 (by kernel_rfl) rfl rfl rfl rfl rfl rfl rfl (by kernel_rfl) rfl rfl (by simp) (by simp) (run_alloc_zero Tryz.zeroValue42 rfl) (by kernel_rfl) (run_alloc_zero Tryz.zeroValue42 rfl) (by kernel_rfl) ?_
    intro V_23 hV_23
    have vc19 := c19.up hV_23; have dc19 := fun p : Bel V_23 => vc19.bel p
    have vc20 := c20.up hV_23; have dc20 := fun p : Bel V_23 => vc20.bel p
    have vc21 := c21.up hV_23; have dc21 := fun p : Bel V_23 => vc21.bel p
    simp only [At, Own, Nat.reduceAdd, and_true] at dc19 dc20 dc21
    have hBV_23 := bel_up hB22 hV_23
    simp only [List.map_cons, List.map_nil, maskS, List.take_succ_cons, List.take_zero]
    repeat (go_big_quiet_step (first | (go_at_call 18; with_reducible exact Calls.bel (K24.out _ (HNV.out.up (bel_up hBV_23 (Bel.h _))))) | (go_at_call 18; with_reducible exact Calls.bel (K25.out _ (HNV.out.up (bel_up hBV_23 (Bel.h _)))))))
    refine wpQuiet_nil ?_
    refine ⟨[.int .i64 p1.r, .bool (ng p1.q.num), .string (mg p1.q.num.natAbs), .bool false, .string (mg (dn p1.q))], [.int .i64 p2.r, .bool (ng p2.q.num), .string (mg p2.q.num.natAbs), .bool false, .string (mg (dn p2.q))], rfl, rfl, by simp [Value.oneCell'], rfl, rfl, by simp [Value.oneCell'], ?_⟩
    intro bq26 bq27 wn_23 hbn_23 lbq26 mbq26 lbq27 mbq27 nbq26 c28 c29
    have nbq26' := nbq26.symm
    simp only [Act.put, List.setIfInBounds_toArray, List.set_cons_zero, List.set_cons_succ]
    have ne30 : w0.heap.size + 1 ≠ bq26 := by have := c19.lt; omega
    have ne30' := ne30.symm
    have ne31 : w0.heap.size + 2 ≠ bq26 := by have := c20.lt; omega
    have ne31' := ne31.symm
    have ne32 : w1.heap.size ≠ bq26 := by have := c21.lt; omega
    have ne32' := ne32.symm
    have wbq26 := Nat.le_trans hB22.size lbq26
    have ne33 : w0.heap.size + 1 ≠ bq27 := by have := c19.lt; omega
    have ne33' := ne33.symm
    have ne34 : w0.heap.size + 2 ≠ bq27 := by have := c20.lt; omega
    have ne34' := ne34.symm
    have ne35 : w1.heap.size ≠ bq27 := by have := c21.lt; omega
    have ne35' := ne35.symm
    have wbq27 := Nat.le_trans hB22.size lbq27
    clear hBV_23 dc21 vc21 dc20 vc20 dc19 vc19 hV_23 V_23
    have c36 := c19.up hbn_23
    have c37 := c20.up hbn_23
    have c38 := c21.up hbn_23
    have hB39 : Below w.heap.size w wn_23 := bel_up hB22 hbn_23
    clear c19 c20 c21
    have uc36 := c36; have uc37 := c37; have uc38 := c38; have uc28 := c28; have uc29 := c29
    simp only [At, Own, Nat.reduceAdd, and_true] at uc36 uc37 uc38 uc28 uc29
    have K40 := Lib.hid (fun W (hv : NV W (.agg #[.slice An Nn cn, .slice Ar Nr cr]) N) => same_yes N r1 r2 p1 p2 m1 m2 _ W hv HG.out HAT1.out HAT2.out hq1 hq2 HM1.out HM2.out HEQ.out)
    go_wp2_with (fail)
    refine calls_named ?_
    intro W4 hW4
    have hL4 : Below wn_23.heap.size wn_23 W4 := by
      rw [hW4]
      repeat (first | with_reducible exact Below.refl _ _ | with_reducible refine bel_alloc ?_ _ | refine Below.setCell ?_ (by first | (simp; done) | (simp; omega) | omega) _)
    have c41 := c36.up hL4
    have c42 := c37.up hL4
    have c43 := c38.up hL4
    have c44 := c28.up hL4
    have c45 := c29.up hL4
    have hB46 : Below w.heap.size w W4 := by
      rw [hW4]
      repeat (first | with_reducible exact hB39 | with_reducible refine bel_alloc ?_ _ | refine Below.setCell ?_ (by first | (simp; done) | (simp; omega) | omega) _)
    clear hW4 hL4 uc36 uc37 uc38 uc28 uc29 c36 c37 c38 c28 c29
    with_reducible refine (K40.out _ (HNV.out.up hB46)).mono ?_
    rintro e w4 ⟨rfl, hb4⟩
    have c47 := c41.up hb4
    have c48 := c42.up hb4
    have c49 := c43.up hb4
    have c50 := c44.up hb4
    have c51 := c45.up hb4
    have hB52 : Below w.heap.size w w4 := bel_up hB46 hb4
    clear c41 c42 c43 c44 c45
    go_upto_region 4 with fail
    refine wp_named ?_
    intro W5 hW5
    have hL5 : Below w4.heap.size w4 W5 := by
      rw [hW5]
      repeat (first | with_reducible exact Below.refl _ _ | with_reducible refine bel_alloc ?_ _ | refine Below.setCell ?_ (by first | (simp; done) | (simp; omega) | omega) _)
    have c53 := c47.up hL5
    have c54 := c48.up hL5
    have c55 := c49.up hL5
    have c56 := c50.up hL5
    have c57 := c51.up hL5
    have hB58 : Below w.heap.size w W5 := by
      rw [hW5]
      repeat (first | with_reducible exact hB52 | with_reducible refine bel_alloc ?_ _ | refine Below.setCell ?_ (by first | (simp; done) | (simp; omega) | omega) _)
    clear hW5 hL5 c47 c48 c49 c50 c51
    have K60 := Lib.hid (fun W => qfi_any (-1) qm W HQM.out (by decide) (by decide))
    refine wp_region_new1 5 4 11 [.int .i64 0, .bool false, .string ⟨#[]⟩, .bool false, .string ⟨#[]⟩] 42 (by kernel_rfl) (by kernel_rfl) rfl rfl rfl rfl (by intro h_; cases h_) (by simp) (run_alloc_zero Tryz.zeroValue42 rfl) (by kernel_rfl) ?_
    intro V_59 hV_59
    have vc53 := c53.up hV_59; have dc53 := fun p : Bel V_59 => vc53.bel p
    have vc54 := c54.up hV_59; have dc54 := fun p : Bel V_59 => vc54.bel p
    have vc55 := c55.up hV_59; have dc55 := fun p : Bel V_59 => vc55.bel p
    have vc56 := c56.up hV_59; have dc56 := fun p : Bel V_59 => vc56.bel p
    have vc57 := c57.up hV_59; have dc57 := fun p : Bel V_59 => vc57.bel p
    simp only [At, Own, Nat.reduceAdd, and_true] at dc53 dc54 dc55 dc56 dc57
    have hBV_59 := bel_up hB58 hV_59
    simp only [List.map_cons, List.map_nil, maskOp, List.take_succ_cons, List.take_zero]
    repeat (go_big_quiet_step (first | (go_at_call 37; with_reducible exact Calls.bel (K60.out _))))
    refine wpQuiet_nil ?_
    refine ⟨[.int .i64 p1.r, .bool (ng qm.num), .string (mg qm.num.natAbs), .bool false, .string (mg (dn qm))], rfl, rfl, by simp [Value.oneCell'], ?_⟩
    intro bq61 wn_59 hbn_59 lbq61 mbq61 c62
    simp only [Act.put, List.setIfInBounds_toArray, List.set_cons_zero, List.set_cons_succ]
    have ne63 : w0.heap.size + 1 ≠ bq61 := by have := c53.lt; omega
    have ne63' := ne63.symm
    have ne64 : w0.heap.size + 2 ≠ bq61 := by have := c54.lt; omega
    have ne64' := ne64.symm
    have ne65 : w1.heap.size ≠ bq61 := by have := c55.lt; omega
    have ne65' := ne65.symm
    have ne66 : bq26 ≠ bq61 := by have := c56.lt; omega
    have ne66' := ne66.symm
    have ne67 : bq27 ≠ bq61 := by have := c57.lt; omega
    have ne67' := ne67.symm
    have wbq61 := Nat.le_trans hB58.size lbq61
    clear hBV_59 dc57 vc57 dc56 vc56 dc55 vc55 dc54 vc54 dc53 vc53 hV_59 V_59
    have c68 := c53.up hbn_59
    have c69 := c54.up hbn_59
    have c70 := c55.up hbn_59
    have c71 := c56.up hbn_59
    have c72 := c57.up hbn_59
    have hB73 : Below w.heap.size w wn_59 := bel_up hB58 hbn_59
    clear c53 c54 c55 c56 c57
    have K74 := Lib.hid (fun W => known_any W)
    have K75 := Lib.hid (fun W (hv : NV W (.agg #[.slice An Nn cn, .slice Ar Nr cr]) N) => lnormal_any N r1 p1 m1 _ W hv HG.out HAT1.out hq1 HM1.out)
    have K76 := Lib.hid (fun W (hv : NV W (.agg #[.slice An Nn cn, .slice Ar Nr cr]) N) => lnormal_any N r2 p2 m2 _ W hv HG.out HAT2.out hq2 HM2.out)
    have K77 := Lib.hid (fun W (hv : NV W (.agg #[.slice An Nn cn, .slice Ar Nr cr]) N) => same_yes N r2 r1 p2 p1 m2 m1 _ W hv HG.out HAT2.out HAT1.out hq2 hq1 HM2.out HM1.out (HEQ.out.symm))
    have K78 := Lib.hid (fun W (hv : NV W (.agg #[.slice An Nn cn, .slice Ar Nr cr]) N) => same_yes N r1 rm1 p1 m1 m1 m1 _ W hv HG.out HAT1.out HATM.out hq1 hqm1 HM1.out HMM.out rfl)
    have K79 := Lib.hid (fun W (hv : NV W (.agg #[.slice An Nn cn, .slice Ar Nr cr]) N) => lpoint_any N r1 p1 x1 _ W hv HG.out HAT1.out hq1 HX1.out)
    have K80 := Lib.hid (fun W (hv : NV W (.agg #[.slice An Nn cn, .slice Ar Nr cr]) N) => lpoint_any N r2 p2 x2 _ W hv HG.out HAT2.out hq2 HX2.out)
    have K81 := Lib.hid (fun W (hv : NV W (.agg #[.slice An Nn cn, .slice Ar Nr cr]) N) => same_bad N (Pc.mk p1.r qm) 2 _ W hv HG.out ZQM HBD.out (by decide))
    go_wp2_with fail
    refine wp_named ?_
    intro W6 hW6
    have hL6 : Below wn_59.heap.size wn_59 W6 := by
      rw [hW6]
      repeat (first | with_reducible exact Below.refl _ _ | with_reducible refine bel_alloc ?_ _ | refine Below.setCell ?_ (by first | (simp; done) | (simp; omega) | omega) _)
    have c82 := c68.up hL6
    have c83 := c69.up hL6
    have c84 := c70.up hL6
    have c85 := c71.up hL6
    have c86 := c72.up hL6
    have c87 := c62.up hL6
    have hB88 : Below w.heap.size w W6 := by
      rw [hW6]
      repeat (first | with_reducible exact hB73 | with_reducible refine bel_alloc ?_ _ | refine Below.setCell ?_ (by first | (simp; done) | (simp; omega) | omega) _)
    clear hW6 hL6 c68 c69 c70 c71 c72 c62
    have dc82 := fun p : Bel W6 => c82.bel p; have dc83 := fun p : Bel W6 => c83.bel p; have dc84 := fun p : Bel W6 => c84.bel p; have dc85 := fun p : Bel W6 => c85.bel p; have dc86 := fun p : Bel W6 => c86.bel p; have dc87 := fun p : Bel W6 => c87.bel p
    simp only [At, Own, Nat.reduceAdd, and_true] at dc82 dc83 dc84 dc85 dc86 dc87
    refine wp_region_tail 48 (by kernel_rfl) (by kernel_rfl) ?_
    simp only [List.take_succ_cons, List.take_zero, List.drop_succ_cons, List.drop_zero]
    repeat (go_big_quiet_step (first | (go_at_call 13; with_reducible exact Calls.bel (K74.out _)) | (go_at_call 46; with_reducible exact Calls.bel (K75.out _ (HNV.out.up (bel_up hB88 (Bel.h _))))) | (go_at_call 46; with_reducible exact Calls.bel (K76.out _ (HNV.out.up (bel_up hB88 (Bel.h _))))) | (go_at_call 48; with_reducible exact Calls.bel (K77.out _ (HNV.out.up (bel_up hB88 (Bel.h _))))) | (go_at_call 48; with_reducible exact Calls.bel (K78.out _ (HNV.out.up (bel_up hB88 (Bel.h _))))) | (go_at_call 22; with_reducible exact Calls.bel (K79.out _ (HNV.out.up (bel_up hB88 (Bel.h _))))) | (go_at_call 22; with_reducible exact Calls.bel (K80.out _ (HNV.out.up (bel_up hB88 (Bel.h _))))) | (go_at_call 48; with_reducible exact Calls.bel (K81.out _ (HNV.out.up (bel_up hB88 (Bel.h _)))))))
    refine wpQuiet_nil ?_
    intro w6 hb6
    have c89 := c82.up hb6
    have c90 := c83.up hb6
    have c91 := c84.up hb6
    have c92 := c85.up hb6
    have c93 := c86.up hb6
    have c94 := c87.up hb6
    have hB95 : Below w.heap.size w w6 := bel_up hB88 hb6
    clear dc82 dc83 dc84 dc85 dc86 dc87 c82 c83 c84 c85 c86 c87
    have uc89 := c89; have uc90 := c90; have uc91 := c91; have uc92 := c92; have uc93 := c93; have uc94 := c94
    simp only [At, Own, Nat.reduceAdd, and_true] at uc89 uc90 uc91 uc92 uc93 uc94
    go_wp2
    go_ret
    exact ⟨rfl, bel_up hBw (by repeat (first | with_reducible exact hB95 | with_reducible refine bel_alloc ?_ _ | refine Below.setCell ?_ (by first | (simp; done) | (simp; omega) | omega) _))⟩
  · skip
    have HEQ := Lib.hid heq
    have EQa := fun W => eqPc_in m1 m2 W
    rw [decide_eq_false heq] at EQa
    clear heq hx12
    go_upto_region 2 with fail
    refine wp_named ?_
    intro W7 hW7
    have hL7 : Below w.heap.size w W7 := by
      rw [hW7]
      repeat (first | with_reducible exact Below.refl _ _ | with_reducible refine bel_alloc ?_ _ | refine Below.setCell ?_ (by first | (simp; done) | (simp; omega) | omega) _)
    have c96 := c14.up hL7
    have c97 := c15.up hL7
    have c98 := c16.up hL7
    have hB99 : Below w.heap.size w W7 := by
      rw [hW7]
      repeat (first | with_reducible exact Below.refl _ _ | with_reducible refine bel_alloc ?_ _ | refine Below.setCell ?_ (by first | (simp; done) | (simp; omega) | omega) _)
    clear hW7 hL7 c14 c15 c16
    have K101 := Lib.hid (fun W (hv : NV W (.agg #[.slice An Nn cn, .slice Ar Nr cr]) N) => place_any N r1 p1 wr1 wp1 _ W hv HOK.out HWR1.out HWP1.out HR1.out HP1.out)
    have K102 := Lib.hid (fun W (hv : NV W (.agg #[.slice An Nn cn, .slice Ar Nr cr]) N) => place_any N r2 p2 wr2 wp2 _ W hv HOK.out HWR2.out HWP2.out HR2.out HP2.out)
    refine wp_region_new2s 8 6 8 7 9 [.int .i64 0, .bool false, .string ⟨#[]⟩, .bool false, .string ⟨#[]⟩] [.int .i64 0, .bool false, .string ⟨#[]⟩, .bool false, .string ⟨#[]⟩] 42 42 (by kernel_rfl) rfl rfl rfl rfl rfl rfl rfl (by kernel_rfl) rfl rfl (by simp) (by simp) (run_alloc_zero Tryz.zeroValue42 rfl) (by kernel_rfl) (run_alloc_zero Tryz.zeroValue42 rfl) (by kernel_rfl) ?_
    intro V_100 hV_100
    have vc96 := c96.up hV_100; have dc96 := fun p : Bel V_100 => vc96.bel p
    have vc97 := c97.up hV_100; have dc97 := fun p : Bel V_100 => vc97.bel p
    have vc98 := c98.up hV_100; have dc98 := fun p : Bel V_100 => vc98.bel p
    simp only [At, Own, Nat.reduceAdd, and_true] at dc96 dc97 dc98
    have hBV_100 := bel_up hB99 hV_100
    simp only [List.map_cons, List.map_nil, maskS, List.take_succ_cons, List.take_zero]
    repeat (go_big_quiet_step (first | (go_at_call 18; with_reducible exact Calls.bel (K101.out _ (HNV.out.up (bel_up hBV_100 (Bel.h _))))) | (go_at_call 18; with_reducible exact Calls.bel (K102.out _ (HNV.out.up (bel_up hBV_100 (Bel.h _)))))))
    refine wpQuiet_nil ?_
    refine ⟨[.int .i64 p1.r, .bool (ng p1.q.num), .string (mg p1.q.num.natAbs), .bool false, .string (mg (dn p1.q))], [.int .i64 p2.r, .bool (ng p2.q.num), .string (mg p2.q.num.natAbs), .bool false, .string (mg (dn p2.q))], rfl, rfl, by simp [Value.oneCell'], rfl, rfl, by simp [Value.oneCell'], ?_⟩
    intro bq103 bq104 wn_100 hbn_100 lbq103 mbq103 lbq104 mbq104 nbq103 c105 c106
    have nbq103' := nbq103.symm
    simp only [Act.put, List.setIfInBounds_toArray, List.set_cons_zero, List.set_cons_succ]
    have ne107 : w0.heap.size + 1 ≠ bq103 := by have := c96.lt; omega
    have ne107' := ne107.symm
    have ne108 : w0.heap.size + 2 ≠ bq103 := by have := c97.lt; omega
    have ne108' := ne108.symm
    have ne109 : w1.heap.size ≠ bq103 := by have := c98.lt; omega
    have ne109' := ne109.symm
    have wbq103 := Nat.le_trans hB99.size lbq103
    have ne110 : w0.heap.size + 1 ≠ bq104 := by have := c96.lt; omega
    have ne110' := ne110.symm
    have ne111 : w0.heap.size + 2 ≠ bq104 := by have := c97.lt; omega
    have ne111' := ne111.symm
    have ne112 : w1.heap.size ≠ bq104 := by have := c98.lt; omega
    have ne112' := ne112.symm
    have wbq104 := Nat.le_trans hB99.size lbq104
    clear hBV_100 dc98 vc98 dc97 vc97 dc96 vc96 hV_100 V_100
    have c113 := c96.up hbn_100
    have c114 := c97.up hbn_100
    have c115 := c98.up hbn_100
    have hB116 : Below w.heap.size w wn_100 := bel_up hB99 hbn_100
    clear c96 c97 c98
    have uc113 := c113; have uc114 := c114; have uc115 := c115; have uc105 := c105; have uc106 := c106
    simp only [At, Own, Nat.reduceAdd, and_true] at uc113 uc114 uc115 uc105 uc106
    have K117 := Lib.hid (fun W (hv : NV W (.agg #[.slice An Nn cn, .slice Ar Nr cr]) N) => same_no N r1 r2 p1 p2 m1 m2 _ W hv HG.out HAT1.out HAT2.out hq1 hq2 HM1.out HM2.out HEQ.out)
    go_wp2_with (fail)
    refine calls_named ?_
    intro W8 hW8
    have hL8 : Below wn_100.heap.size wn_100 W8 := by
      rw [hW8]
      repeat (first | with_reducible exact Below.refl _ _ | with_reducible refine bel_alloc ?_ _ | refine Below.setCell ?_ (by first | (simp; done) | (simp; omega) | omega) _)
    have c118 := c113.up hL8
    have c119 := c114.up hL8
    have c120 := c115.up hL8
    have c121 := c105.up hL8
    have c122 := c106.up hL8
    have hB123 : Below w.heap.size w W8 := by
      rw [hW8]
      repeat (first | with_reducible exact hB116 | with_reducible refine bel_alloc ?_ _ | refine Below.setCell ?_ (by first | (simp; done) | (simp; omega) | omega) _)
    clear hW8 hL8 uc113 uc114 uc115 uc105 uc106 c113 c114 c115 c105 c106
    with_reducible refine (K117.out _ (HNV.out.up hB123)).mono ?_
    rintro e w8 ⟨rfl, hb8⟩
    have c124 := c118.up hb8
    have c125 := c119.up hb8
    have c126 := c120.up hb8
    have c127 := c121.up hb8
    have c128 := c122.up hb8
    have hB129 : Below w.heap.size w w8 := bel_up hB123 hb8
    clear c118 c119 c120 c121 c122
    go_upto_region 4 with fail
    refine wp_named ?_
    intro W9 hW9
    have hL9 : Below w8.heap.size w8 W9 := by
      rw [hW9]
      repeat (first | with_reducible exact Below.refl _ _ | with_reducible refine bel_alloc ?_ _ | refine Below.setCell ?_ (by first | (simp; done) | (simp; omega) | omega) _)
    have c130 := c124.up hL9
    have c131 := c125.up hL9
    have c132 := c126.up hL9
    have c133 := c127.up hL9
    have c134 := c128.up hL9
    have hB135 : Below w.heap.size w W9 := by
      rw [hW9]
      repeat (first | with_reducible exact hB129 | with_reducible refine bel_alloc ?_ _ | refine Below.setCell ?_ (by first | (simp; done) | (simp; omega) | omega) _)
    clear hW9 hL9 c124 c125 c126 c127 c128
    have K137 := Lib.hid (fun W => qfi_any (-1) qm W HQM.out (by decide) (by decide))
    refine wp_region_new1 5 4 11 [.int .i64 0, .bool false, .string ⟨#[]⟩, .bool false, .string ⟨#[]⟩] 42 (by kernel_rfl) (by kernel_rfl) rfl rfl rfl rfl (by intro h_; cases h_) (by simp) (run_alloc_zero Tryz.zeroValue42 rfl) (by kernel_rfl) ?_
    intro V_136 hV_136
    have vc130 := c130.up hV_136; have dc130 := fun p : Bel V_136 => vc130.bel p
    have vc131 := c131.up hV_136; have dc131 := fun p : Bel V_136 => vc131.bel p
    have vc132 := c132.up hV_136; have dc132 := fun p : Bel V_136 => vc132.bel p
    have vc133 := c133.up hV_136; have dc133 := fun p : Bel V_136 => vc133.bel p
    have vc134 := c134.up hV_136; have dc134 := fun p : Bel V_136 => vc134.bel p
    simp only [At, Own, Nat.reduceAdd, and_true] at dc130 dc131 dc132 dc133 dc134
    have hBV_136 := bel_up hB135 hV_136
    simp only [List.map_cons, List.map_nil, maskOp, List.take_succ_cons, List.take_zero]
    repeat (go_big_quiet_step (first | (go_at_call 37; with_reducible exact Calls.bel (K137.out _))))
    refine wpQuiet_nil ?_
    refine ⟨[.int .i64 p1.r, .bool (ng qm.num), .string (mg qm.num.natAbs), .bool false, .string (mg (dn qm))], rfl, rfl, by simp [Value.oneCell'], ?_⟩
    intro bq138 wn_136 hbn_136 lbq138 mbq138 c139
    simp only [Act.put, List.setIfInBounds_toArray, List.set_cons_zero, List.set_cons_succ]
    have ne140 : w0.heap.size + 1 ≠ bq138 := by have := c130.lt; omega
    have ne140' := ne140.symm
    have ne141 : w0.heap.size + 2 ≠ bq138 := by have := c131.lt; omega
    have ne141' := ne141.symm
    have ne142 : w1.heap.size ≠ bq138 := by have := c132.lt; omega
    have ne142' := ne142.symm
    have ne143 : bq103 ≠ bq138 := by have := c133.lt; omega
    have ne143' := ne143.symm
    have ne144 : bq104 ≠ bq138 := by have := c134.lt; omega
    have ne144' := ne144.symm
    have wbq138 := Nat.le_trans hB135.size lbq138
    clear hBV_136 dc134 vc134 dc133 vc133 dc132 vc132 dc131 vc131 dc130 vc130 hV_136 V_136
    have c145 := c130.up hbn_136
    have c146 := c131.up hbn_136
    have c147 := c132.up hbn_136
    have c148 := c133.up hbn_136
    have c149 := c134.up hbn_136
    have hB150 : Below w.heap.size w wn_136 := bel_up hB135 hbn_136
    clear c130 c131 c132 c133 c134
    have K151 := Lib.hid (fun W => known_any W)
    have K152 := Lib.hid (fun W (hv : NV W (.agg #[.slice An Nn cn, .slice Ar Nr cr]) N) => lnormal_any N r1 p1 m1 _ W hv HG.out HAT1.out hq1 HM1.out)
    have K153 := Lib.hid (fun W (hv : NV W (.agg #[.slice An Nn cn, .slice Ar Nr cr]) N) => lnormal_any N r2 p2 m2 _ W hv HG.out HAT2.out hq2 HM2.out)
    have K154 := Lib.hid (fun W (hv : NV W (.agg #[.slice An Nn cn, .slice Ar Nr cr]) N) => same_no N r2 r1 p2 p1 m2 m1 _ W hv HG.out HAT2.out HAT1.out hq2 hq1 HM2.out HM1.out (fun e_ => HEQ.out e_.symm))
    have K155 := Lib.hid (fun W (hv : NV W (.agg #[.slice An Nn cn, .slice Ar Nr cr]) N) => same_yes N r1 rm1 p1 m1 m1 m1 _ W hv HG.out HAT1.out HATM.out hq1 hqm1 HM1.out HMM.out rfl)
    have K156 := Lib.hid (fun W (hv : NV W (.agg #[.slice An Nn cn, .slice Ar Nr cr]) N) => same_bad N (Pc.mk p1.r qm) 2 _ W hv HG.out ZQM HBD.out (by decide))
    go_wp2_with fail
    refine wp_named ?_
    intro W10 hW10
    have hL10 : Below wn_136.heap.size wn_136 W10 := by
      rw [hW10]
      repeat (first | with_reducible exact Below.refl _ _ | with_reducible refine bel_alloc ?_ _ | refine Below.setCell ?_ (by first | (simp; done) | (simp; omega) | omega) _)
    have c157 := c145.up hL10
    have c158 := c146.up hL10
    have c159 := c147.up hL10
    have c160 := c148.up hL10
    have c161 := c149.up hL10
    have c162 := c139.up hL10
    have hB163 : Below w.heap.size w W10 := by
      rw [hW10]
      repeat (first | with_reducible exact hB150 | with_reducible refine bel_alloc ?_ _ | refine Below.setCell ?_ (by first | (simp; done) | (simp; omega) | omega) _)
    clear hW10 hL10 c145 c146 c147 c148 c149 c139
    have dc157 := fun p : Bel W10 => c157.bel p; have dc158 := fun p : Bel W10 => c158.bel p; have dc159 := fun p : Bel W10 => c159.bel p; have dc160 := fun p : Bel W10 => c160.bel p; have dc161 := fun p : Bel W10 => c161.bel p; have dc162 := fun p : Bel W10 => c162.bel p
    simp only [At, Own, Nat.reduceAdd, and_true] at dc157 dc158 dc159 dc160 dc161 dc162
    refine wp_region_tail 48 (by kernel_rfl) (by kernel_rfl) ?_
    simp only [List.take_succ_cons, List.take_zero, List.drop_succ_cons, List.drop_zero]
    repeat (go_big_quiet_step (first | (go_at_call 13; with_reducible exact Calls.bel (K151.out _)) | (go_at_call 46; with_reducible exact Calls.bel (K152.out _ (HNV.out.up (bel_up hB163 (Bel.h _))))) | (go_at_call 46; with_reducible exact Calls.bel (K153.out _ (HNV.out.up (bel_up hB163 (Bel.h _))))) | (go_at_call 48; with_reducible exact Calls.bel (K154.out _ (HNV.out.up (bel_up hB163 (Bel.h _))))) | (go_at_call 48; with_reducible exact Calls.bel (K155.out _ (HNV.out.up (bel_up hB163 (Bel.h _))))) | (go_at_call 48; with_reducible exact Calls.bel (K156.out _ (HNV.out.up (bel_up hB163 (Bel.h _)))))))
    refine wpQuiet_nil ?_
    intro w10 hb10
    have c164 := c157.up hb10
    have c165 := c158.up hb10
    have c166 := c159.up hb10
    have c167 := c160.up hb10
    have c168 := c161.up hb10
    have c169 := c162.up hb10
    have hB170 : Below w.heap.size w w10 := bel_up hB163 hb10
    clear dc157 dc158 dc159 dc160 dc161 dc162 c157 c158 c159 c160 c161 c162
    have uc164 := c164; have uc165 := c165; have uc166 := c166; have uc167 := c167; have uc168 := c168; have uc169 := c169
    simp only [At, Own, Nat.reduceAdd, and_true] at uc164 uc165 uc166 uc167 uc168 uc169
    go_wp2
    go_ret
    exact ⟨rfl, bel_up hBw (by repeat (first | with_reducible exact hB170 | with_reducible refine bel_alloc ?_ _ | refine Below.setCell ?_ (by first | (simp; done) | (simp; omega) | omega) _))⟩
end Go.Proofs.YtldfencaoaikgaaGreatDoor
