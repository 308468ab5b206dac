/-
  The law: the ends beside a place.
-/
import Derived.Test.YtldfencaoaikgaaGreatDoorULfS
set_option linter.unusedSimpArgs false
set_option linter.unusedVariables false
namespace Go.Proofs.YtldfencaoaikgaaGreatDoor
open Go Go.RowKit Nw

theorem ti_em : TI Tryz.prog 76 125 5 56 := ⟨Tryz.underlying76, by kernel_rfl, by decide⟩
theorem em_own {w : World} {base n : Nat} {v : Value} {l : List En} (h : w.ownsRow base 125 5 v n (ens l)) : EL w v l := by
  have e : n = l.length := by have := h.1; rw [ens, flat_length etc 5 (fun _ => rfl)] at this; omega
  subst e
  exact Sl.of_own h
theorem em_oneo {w : World} {B : Nat} (hB : B ≤ w.heap.size) (x : En) : (w.alloc (.cells (etc x).toArray 125)).ownsRow B 125 5 (.slice (some ⟨w.heap.size, 0, none⟩) 1 1) 1 (ens [x]) := by
  have := World.ownsRow_lit (base := B) (e := 125) (size := 5) w (etc x).toArray 1 hB (by simp [maxLen]) (by simp [etc])
  simpa [ens] using this
theorem em_one (w : World) (x : En) : EL (w.alloc (.cells (etc x).toArray 125)) (.slice (some ⟨w.heap.size, 0, none⟩) 1 1) [x] := em_own (em_oneo (B := 0) (Nat.zero_le _) x)
/-- A row of two, as cells, and back. -/
theorem em_cells {w : World} {base n : Nat} {v : Value} {x y : En} (h : w.ownsRow base 125 5 v n (ens [x, y])) : ∃ g c, v = .slice (some ⟨g, 0, none⟩) 2 c ∧ n = 2 ∧ base ≤ g ∧ g < w.heap.size ∧ 2 ≤ c ∧ c ≤ maxLen ∧ Own w g 0 (etc x ++ etc y) := by
  have e : n = 2 := by have := h.1; rw [ens, flat_length etc 5 (fun _ => rfl)] at this; simp at this; omega
  subst e
  rcases h.2 with ⟨_, h0⟩ | ⟨g, cap, cur, rfl, h3, h4, hc, hm, h5⟩
  · cases h0
  · refine ⟨g, cap, rfl, rfl, h3, (h.lt g rfl).2, hc, hm, own_of_cells fun j hj => ?_⟩
    have e : ens [x, y] = etc x ++ etc y := by simp [ens]
    rw [Nat.zero_add, h.cellAt j (by simpa [etc] using hj), e, List.getElem?_eq_getElem hj]
    exact ⟨rfl, h.frozenAt j⟩
theorem el_cells {w : World} {g c : Nat} {x y : En} (h : Own w g 0 (etc x ++ etc y)) (hc : 2 ≤ c) (hm : c ≤ maxLen) : EL w (.slice (some ⟨g, 0, none⟩) 2 c) [x, y] := by
  refine ⟨rfl, .inr ⟨g, 0, c, rfl, hc, hm, fun j u hj => ?_⟩⟩
  have e : ens [x, y] = etc x ++ etc y := by simp [ens]
  rw [e] at hj
  exact own_range h j u hj

set_option maxRecDepth 100000 in
set_option maxHeartbeats 1000000 in
theorem lsends_eq (l : List En) (v v2 : Value) (w : World) (h : EL w v l) (h2 : EL w v2 l) (hl : l.length ≤ 1024) :
    Calls Tryz.prog 38 #[v, v2] w fun e w' => e = .returned (.bool true) ∧ Below w.heap.size w w' := by
  obtain ⟨Aa, ca, rfl, hca, hma, hxa⟩ := h.open_
  obtain ⟨Ab, cb, rfl, hcb, hmb, hxb⟩ := h2.open_
  have HXa := Lib.hid hxa
  have HXb := Lib.hid hxb
  clear h h2 hxa hxb
  generalize hNa : l.length = Na at *
  have HNa := Lib.hid hNa
  clear hNa
  go_enter Tryz.func38, Tryz.ntmps38
  go_wp2_with fail
  go_loopw [5] (fun s5 wr => ∃ (k : Nat), s5 = .int .i64 k ∧ Below w.heap.size w wr ∧ k ≤ Na) (fun s5 _ => Na - (intOf s5).toNat)
  case atStart => exact ⟨0, rfl, Below.refl _ _, (by omega)⟩
  case round =>
    obtain ⟨k, rfl, hB1, hk⟩ := hrel
    obtain ⟨wr2, hwr2⟩ : ∃ W_, W_ = wr := ⟨_, rfl⟩
    subst hwr2
    by_cases hltk : k < Na
    · skip
      have i1k : (k : Int) < Na := by omega
      obtain ⟨x3, hx4⟩ : ∃ x, l[k]? = some x := ⟨_, List.getElem?_eq_getElem (by rw [HNa.out]; omega)⟩
      have Hhx4 := Lib.hid hx4
      clear hx4
      have EQ0 := fun W => eqQ_in x3.q x3.q W
      rw [decide_eq_true rfl] at EQ0
      go_wp2_with fail
      refine wp_named ?_
      intro W1 hW1
      have hL1 : Below wr2.heap.size wr2 W1 := by
        rw [hW1]
        repeat (first | with_reducible exact Below.refl _ _ | with_reducible refine bel_alloc ?_ _ | refine Below.setCell ?_ (by first | (simp; done) | (simp; omega) | omega) _)
      have hB5 : Below w.heap.size w W1 := by
        rw [hW1]
        repeat (first | with_reducible exact hB1 | with_reducible refine bel_alloc ?_ _ | refine Below.setCell ?_ (by first | (simp; done) | (simp; omega) | omega) _)
      clear hW1 hL1
      obtain ⟨g7, o8, ha9, -⟩ := (HXa.out).up kpE hB5 _ _ Hhx4.out
      subst ha9
      have ce6 := LX.at_ ((HXa.out).up kpE hB5) Hhx4.out
      have ce6_ : g7 < W1.heap.size := World.block_lt_of_cell? _ _ ce6.1
      have dce6 := fun b : Bel W1 => ce6.bel b
      simp only [CEn, etc, At, Nat.reduceMul] at dce6
      obtain ⟨g11, o12, ha13, -⟩ := (HXb.out).up kpE hB5 _ _ Hhx4.out
      subst ha13
      have ce10 := LX.at_ ((HXb.out).up kpE hB5) Hhx4.out
      have ce10_ : g11 < W1.heap.size := World.block_lt_of_cell? _ _ ce10.1
      have dce10 := fun b : Bel W1 => ce10.bel b
      simp only [CEn, etc, At, Nat.reduceMul] at dce10
      refine wp_region_all (by kernel_rfl) (by kernel_rfl) ?_
      repeat (go_big_quiet_step (fail))
      refine wpQuiet_nil ?_
      intro w1 hb1
      have hB14 : Below w.heap.size w w1 := bel_up hB5 hb1
      clear dce6 dce10
      clear EQ0
      go_wp2
      go_roundw
      case rel => exact ⟨(k + 1), (by first | rfl | exact congrArg (Value.int .i64) (by omega) | simp [*]), (by repeat (first | with_reducible exact hB14 | with_reducible refine bel_alloc ?_ _ | refine Below.setCell ?_ (by first | (simp; done) | (simp; omega) | omega) _)), (by omega)⟩
      case measure => simp [intOf] <;> omega
    · skip
      have hkN : Na = k := by omega
      subst hkN
      go_wp2
      go_ret
      refine ⟨rfl, ?_⟩
      repeat (first | with_reducible exact hB1 | with_reducible refine bel_alloc ?_ _ | refine Below.setCell ?_ (by first | (simp; done) | (simp; omega) | omega) _)

set_option maxRecDepth 100000 in
theorem lends_on (N : Net) (r : Rd) (p : Pc) (k : Int) (bk : Bool) (v : Value) (w : World) (h : NV w v N) (g : Vld N) (hr : frd N.rs p.r = some r) (hq : Pl.Sz 2000 p.q) (hk : latE r p.q = k) (hk1 : 1 ≤ k) :
    Calls Tryz.prog 39 #[v, .agg #[.int .i64 p.r, .bool (ng p.q.num), .string (mg p.q.num.natAbs), .bool false, .string (mg (dn p.q))], .bool bk] w fun e w' => ∃ v', e = .returned v' ∧ EL w' v' ([En.mk k (0 : Rat)]) ∧ Below w.heap.size w w' := by
  have hk1_ : ¬ ((k : Int) ≤ 0) := by omega
  have HR := Lib.hid hr
  have HK := Lib.hid hk
  clear hr hk
  obtain ⟨_, _, rfl, hn, hr⟩ := h
  obtain ⟨An, cn, rfl, hcn, hmn, hxn⟩ := hn.open_
  obtain ⟨Ar, cr, rfl, hcr, hmr, hxr⟩ := hr.open_
  have HNV : Hid (NV w (.agg #[.slice An N.ns.length cn, .slice Ar N.rs.length cr]) N) := Lib.hid ⟨_, _, rfl, hn, hr⟩
  have HXN := Lib.hid hxn
  have HXR := Lib.hid hxr
  have HG := Lib.hid g
  have hln := g.ln
  have hlr := g.lr
  generalize hNn : N.ns.length = Nn at *
  generalize hNr : N.rs.length = Nr at *
  have HNn := Lib.hid hNn
  have HNr := Lib.hid hNr
  clear hn hr hxn hxr g hNn hNr
  go_enter Tryz.func39, Tryz.ntmps39
  have K1 := Lib.hid (fun W (hv : NV W (.agg #[.slice An Nn cn, .slice Ar Nr cr]) N) => lnodeat_any N r p k _ W hv HG.out HR.out hq HK.out)
  go_wp2_with (fail)
  refine calls_named ?_
  intro W1 hW1
  have hL1 : Below w.heap.size w W1 := by
    rw [hW1]
    repeat (first | with_reducible exact Below.refl _ _ | with_reducible refine bel_alloc ?_ _ | refine Below.setCell ?_ (by first | (simp; done) | (simp; omega) | omega) _)
  have c2 : Own W1 (w.heap.size) 0 [.slice An Nn cn, .slice Ar Nr cr] := by
    rw [hW1]
    first
    | (repeat (first | (with_reducible refine own_new (l := [.slice An Nn cn, .slice Ar Nr cr]) ?_; (simp; done)) | with_reducible refine Own.alloc ?_ _ | refine Own.far _ _ (by first | (simp; done) | (simp [*]; done) | (simp; omega)) ?_)); done
    | simp [Own, go_sem]
  have c3 : Own W1 (w.heap.size + 1) 0 [.int .i64 p.r, .bool (ng p.q.num), .string (mg p.q.num.natAbs), .bool false, .string (mg (dn p.q))] := by
    rw [hW1]
    first
    | (repeat (first | (with_reducible refine own_new (l := [.int .i64 p.r, .bool (ng p.q.num), .string (mg p.q.num.natAbs), .bool false, .string (mg (dn p.q))]) ?_; (simp; done)) | with_reducible refine Own.alloc ?_ _ | refine Own.far _ _ (by first | (simp; done) | (simp [*]; done) | (simp; omega)) ?_)); done
    | simp [Own, go_sem]
  have hB4 : Below w.heap.size w W1 := by
    rw [hW1]
    repeat (first | with_reducible exact Below.refl _ _ | with_reducible refine bel_alloc ?_ _ | refine Below.setCell ?_ (by first | (simp; done) | (simp; omega) | omega) _)
  clear hW1 hL1
  with_reducible refine (K1.out _ (HNV.out.up hB4)).mono ?_
  rintro e w1 ⟨rfl, hb1⟩
  have c5 := c2.up hb1
  have c6 := c3.up hb1
  have hB7 : Below w.heap.size w w1 := bel_up hB4 hb1
  clear c2 c3
  have uc5 := c5; have uc6 := c6
  simp only [At, Own, Nat.reduceAdd, and_true] at uc5 uc6
  go_wp2
  go_ret
  exact ⟨_, rfl, (by skip; exact em_one _ (En.mk k (0 : Rat))), (by repeat (first | with_reducible exact hB7 | with_reducible refine bel_alloc ?_ _ | refine Below.setCell ?_ (by first | (simp; done) | (simp; omega) | omega) _))⟩

set_option maxRecDepth 100000 in
set_option maxHeartbeats 2000000 in
theorem lends_f_t (N : Net) (r : Rd) (p : Pc) (v : Value) (w : World) (h : NV w v N) (g : Vld N) (hr : frd N.rs p.r = some r) (hq : Pl.Sz 2000 p.q) (hk : latE r p.q = 0) (ho : r.o = false) :
    Calls Tryz.prog 39 #[v, .agg #[.int .i64 p.r, .bool (ng p.q.num), .string (mg p.q.num.natAbs), .bool false, .string (mg (dn p.q))], .bool false] w fun e w' => ∃ v', e = .returned v' ∧ EL w' v' (pairE (!r.o) ⟨r.f, p.q⟩ ⟨r.t, (r.l : Rat) - p.q⟩) ∧ Below w.heap.size w w' := by
  obtain ⟨j, hj, hj2⟩ := frd_idx hr
  have hrok := g.or r (frd_of hr).1
  have hl1 := hrok.2.2.1
  have hl2 := hrok.2.2.2.1
  have HR := Lib.hid hr
  have HROK := Lib.hid hrok
  obtain ⟨ql, hql⟩ : ∃ q : Rat, q = (r.l : Rat) := ⟨_, rfl⟩
  have ZQL : Pl.Sz 4 ql := by rw [hql]; exact sz_small (by omega) (by omega)
  have HQL := Lib.hid hql
  clear hr hql hrok
  have HJ := Lib.hid hj
  have HJ2 := Lib.hid hj2
  obtain ⟨k, hk0⟩ : ∃ k : Int, k = 0 := ⟨_, rfl⟩
  obtain ⟨lq, hlq⟩ : ∃ q : Rat, ql - p.q = q := ⟨_, rfl⟩
  have ZLQ : Pl.Sz 2005 lq := by rw [← hlq]; exact ZQL.sub hq
  have hjl : j < N.rs.length := (List.getElem?_eq_some_iff.1 hj2).1
  have HPE : Hid (pairE (!r.o) ⟨r.f, p.q⟩ ⟨r.t, (r.l : Rat) - p.q⟩ = if r.f < r.t then [(En.mk r.f p.q), (En.mk r.t lq)] else [(En.mk r.t lq), (En.mk r.f p.q)]) := Lib.hid (by rw [ho, ← HQL.out, hlq]; rfl)
  have HLQ := Lib.hid hlq
  have HK : Hid (latE r p.q = k) := Lib.hid (by rw [hk, hk0])
  have HOW := Lib.hid ho
  have hk1_ : (k : Int) ≤ 0 := by omega
  clear hj hj2 hlq hk hk0 ho
  obtain ⟨_, _, rfl, hn, hr⟩ := h
  obtain ⟨An, cn, rfl, hcn, hmn, hxn⟩ := hn.open_
  obtain ⟨Ar, cr, rfl, hcr, hmr, hxr⟩ := hr.open_
  have HNV : Hid (NV w (.agg #[.slice An N.ns.length cn, .slice Ar N.rs.length cr]) N) := Lib.hid ⟨_, _, rfl, hn, hr⟩
  have HXN := Lib.hid hxn
  have HXR := Lib.hid hxr
  have HG := Lib.hid g
  have hln := g.ln
  have hlr := g.lr
  generalize hNn : N.ns.length = Nn at *
  generalize hNr : N.rs.length = Nr at *
  have HNn := Lib.hid hNn
  have HNr := Lib.hid hNr
  clear hn hr hxn hxr g hNn hNr
  have i1j : (j : Int) < Nr := by omega
  have i0j : (0 : Int) ≤ j := Int.natCast_nonneg _
  go_enter Tryz.func39, Tryz.ntmps39
  have K1 := Lib.hid (fun W (hv : NV W (.agg #[.slice An Nn cn, .slice Ar Nr cr]) N) => lnodeat_any N r p k _ W hv HG.out HR.out hq HK.out)
  go_wp2_with (fail)
  refine calls_named ?_
  intro W1 hW1
  have hL1 : Below w.heap.size w W1 := by
    rw [hW1]
    repeat (first | with_reducible exact Below.refl _ _ | with_reducible refine bel_alloc ?_ _ | refine Below.setCell ?_ (by first | (simp; done) | (simp; omega) | omega) _)
  have c2 : Own W1 (w.heap.size) 0 [.slice An Nn cn, .slice Ar Nr cr] := by
    rw [hW1]
    first
    | (repeat (first | (with_reducible refine own_new (l := [.slice An Nn cn, .slice Ar Nr cr]) ?_; (simp; done)) | with_reducible refine Own.alloc ?_ _ | refine Own.far _ _ (by first | (simp; done) | (simp [*]; done) | (simp; omega)) ?_)); done
    | simp [Own, go_sem]
  have c3 : Own W1 (w.heap.size + 1) 0 [.int .i64 p.r, .bool (ng p.q.num), .string (mg p.q.num.natAbs), .bool false, .string (mg (dn p.q))] := by
    rw [hW1]
    first
    | (repeat (first | (with_reducible refine own_new (l := [.int .i64 p.r, .bool (ng p.q.num), .string (mg p.q.num.natAbs), .bool false, .string (mg (dn p.q))]) ?_; (simp; done)) | with_reducible refine Own.alloc ?_ _ | refine Own.far _ _ (by first | (simp; done) | (simp [*]; done) | (simp; omega)) ?_)); done
    | simp [Own, go_sem]
  have hB4 : Below w.heap.size w W1 := by
    rw [hW1]
    repeat (first | with_reducible exact Below.refl _ _ | with_reducible refine bel_alloc ?_ _ | refine Below.setCell ?_ (by first | (simp; done) | (simp; omega) | omega) _)
  clear hW1 hL1
  with_reducible refine (K1.out _ (HNV.out.up hB4)).mono ?_
  rintro e w1 ⟨rfl, hb1⟩
  have c5 := c2.up hb1
  have c6 := c3.up hb1
  have hB7 : Below w.heap.size w w1 := bel_up hB4 hb1
  clear c2 c3
  go_upto_region 4 with fail
  refine wp_named ?_
  intro W2 hW2
  have hL2 : Below w1.heap.size w1 W2 := by
    rw [hW2]
    repeat (first | with_reducible exact Below.refl _ _ | with_reducible refine bel_alloc ?_ _ | refine Below.setCell ?_ (by first | (simp; done) | (simp; omega) | omega) _)
  have c8 := c5.up hL2
  have c9 := c6.up hL2
  have hB10 : Below w.heap.size w W2 := by
    rw [hW2]
    repeat (first | with_reducible exact hB7 | with_reducible refine bel_alloc ?_ _ | refine Below.setCell ?_ (by first | (simp; done) | (simp; omega) | omega) _)
  clear hW2 hL2 c5 c6
  have K12 := Lib.hid (fun W (hv : NV W (.agg #[.slice An Nn cn, .slice Ar Nr cr]) N) => lroad_j N p.r j _ W hv ⟨by rw [HNn.out]; exact hln, by rw [HNr.out]; exact hlr⟩ HJ.out)
  obtain ⟨g15, o16, ha17, -⟩ := (HXR.out).up kpR hB10 _ _ HJ2.out
  subst ha17
  have ce14 := LX.at_ ((HXR.out).up kpR hB10) HJ2.out
  have ce14_ : g15 < W2.heap.size := World.block_lt_of_cell? _ _ ce14.1
  refine wp_region_new1 9 8 8 [.int .i64 0, .int .i64 0, .int .i64 0, .int .i64 0, .int .i64 0, .bool false] 67 (by kernel_rfl) (by kernel_rfl) rfl rfl rfl rfl (by intro h_; cases h_) (by simp) (run_alloc_zero Tryz.zeroValue67 rfl) (by kernel_rfl) ?_
  intro V_11 hV_11
  have vc8 := c8.up hV_11; have dc8 := fun p : Bel V_11 => vc8.bel p
  have vc9 := c9.up hV_11; have dc9 := fun p : Bel V_11 => vc9.bel p
  simp only [At, Own, Nat.reduceAdd, and_true] at dc8 dc9
  have vce14 := ce14.up hV_11; have dce14 := fun b : Bel V_11 => vce14.bel b
  simp only [CR, rdc, At, Nat.reduceMul] at dce14
  have hBV_11 := bel_up hB10 hV_11
  simp only [List.map_cons, List.map_nil, maskOp, List.take_succ_cons, List.take_zero]
  repeat (go_big_quiet_step (first | (go_at_call 31; with_reducible exact Calls.bel (K12.out _ (HNV.out.up (bel_up hBV_11 (Bel.h _)))))))
  refine wpQuiet_nil ?_
  refine ⟨[.int .i64 r.i, .int .i64 r.f, .int .i64 r.t, .int .i64 r.l, .int .i64 r.m, .bool r.o], rfl, rfl, by simp [Value.oneCell'], ?_⟩
  intro bq13 wn_11 hbn_11 lbq13 mbq13 c18
  simp only [Act.put, List.setIfInBounds_toArray, List.set_cons_zero, List.set_cons_succ]
  have ne19 : w.heap.size ≠ bq13 := by have := c8.lt; omega
  have ne19' := ne19.symm
  have ne20 : w.heap.size + 1 ≠ bq13 := by have := c9.lt; omega
  have ne20' := ne20.symm
  have wbq13 := Nat.le_trans hB10.size lbq13
  clear hBV_11 dce14 vce14 dc9 vc9 dc8 vc8 hV_11 V_11
  have c21 := c8.up hbn_11
  have c22 := c9.up hbn_11
  have hB23 : Below w.heap.size w wn_11 := bel_up hB10 hbn_11
  clear c8 c9
  go_upto_region 5 with fail
  refine wp_named ?_
  intro W3 hW3
  have hL3 : Below wn_11.heap.size wn_11 W3 := by
    rw [hW3]
    repeat (first | with_reducible exact Below.refl _ _ | with_reducible refine bel_alloc ?_ _ | refine Below.setCell ?_ (by first | (simp; done) | (simp; omega) | omega) _)
  have c24 := c21.up hL3
  have c25 := c22.up hL3
  have c26 := c18.up hL3
  have hB27 : Below w.heap.size w W3 := by
    rw [hW3]
    repeat (first | with_reducible exact hB23 | with_reducible refine bel_alloc ?_ _ | refine Below.setCell ?_ (by first | (simp; done) | (simp; omega) | omega) _)
  clear hW3 hL3 c21 c22 c18
  have K29 := Lib.hid (fun W => qfi_any r.l ql W HQL.out (by omega) (by omega))
  have K30 := Lib.hid (fun W => HLQ.out ▸ qsub_any ql p.q W (ZQL.mono (by decide)) (hq.mono (by decide)))
  refine wp_region_new1 7 6 9 [.bool false, .string ⟨#[]⟩, .bool false, .string ⟨#[]⟩] 40 (by kernel_rfl) (by kernel_rfl) rfl rfl rfl rfl (by intro h_; cases h_) (by simp) (run_alloc_zero Tryz.zeroValue40 rfl) (by kernel_rfl) ?_
  intro V_28 hV_28
  have vc24 := c24.up hV_28; have dc24 := fun p : Bel V_28 => vc24.bel p
  have vc25 := c25.up hV_28; have dc25 := fun p : Bel V_28 => vc25.bel p
  have vc26 := c26.up hV_28; have dc26 := fun p : Bel V_28 => vc26.bel p
  simp only [At, Own, Nat.reduceAdd, and_true] at dc24 dc25 dc26
  have hBV_28 := bel_up hB27 hV_28
  simp only [List.map_cons, List.map_nil, maskOp, List.take_succ_cons, List.take_zero]
  repeat (go_big_quiet_step (first | (go_at_call 37; with_reducible exact Calls.bel (K29.out _)) | (go_at_call 75; with_reducible exact Calls.bel (K30.out _))))
  refine wpQuiet_nil ?_
  refine ⟨[.bool (ng lq.num), .string (mg lq.num.natAbs), .bool false, .string (mg (dn lq))], rfl, rfl, by simp [Value.oneCell'], ?_⟩
  intro bq31 wn_28 hbn_28 lbq31 mbq31 c32
  simp only [Act.put, List.setIfInBounds_toArray, List.set_cons_zero, List.set_cons_succ]
  have ne33 : w.heap.size ≠ bq31 := by have := c24.lt; omega
  have ne33' := ne33.symm
  have ne34 : w.heap.size + 1 ≠ bq31 := by have := c25.lt; omega
  have ne34' := ne34.symm
  have ne35 : bq13 ≠ bq31 := by have := c26.lt; omega
  have ne35' := ne35.symm
  have wbq31 := Nat.le_trans hB27.size lbq31
  clear hBV_28 dc26 vc26 dc25 vc25 dc24 vc24 hV_28 V_28
  have c36 := c24.up hbn_28
  have c37 := c25.up hbn_28
  have c38 := c26.up hbn_28
  have hB39 : Below w.heap.size w wn_28 := bel_up hB27 hbn_28
  clear c24 c25 c26
  go_upto_region 6 with fail
  refine wp_named ?_
  intro W4 hW4
  have hL4 : Below wn_28.heap.size wn_28 W4 := by
    rw [hW4]
    repeat (first | with_reducible exact Below.refl _ _ | with_reducible refine bel_alloc ?_ _ | refine Below.setCell ?_ (by first | (simp; done) | (simp; omega) | omega) _)
  have c40 := c36.up hL4
  have c41 := c37.up hL4
  have c42 := c38.up hL4
  have c43 := c32.up hL4
  have hB44 : Below w.heap.size w W4 := by
    rw [hW4]
    repeat (first | with_reducible exact hB39 | with_reducible refine bel_alloc ?_ _ | refine Below.setCell ?_ (by first | (simp; done) | (simp; omega) | omega) _)
  clear hW4 hL4 c36 c37 c38 c32
  refine wp_region_new2s 11 9 10 10 11 [.int .i64 0, .bool false, .string ⟨#[]⟩, .bool false, .string ⟨#[]⟩] [.int .i64 0, .bool false, .string ⟨#[]⟩, .bool false, .string ⟨#[]⟩] 125 125 (by kernel_rfl) rfl rfl rfl rfl rfl rfl rfl (by kernel_rfl) rfl rfl (by simp) (by simp) (run_alloc_zero Tryz.zeroValue125 rfl) (by kernel_rfl) (run_alloc_zero Tryz.zeroValue125 rfl) (by kernel_rfl) ?_
  intro V_45 hV_45
  have vc40 := c40.up hV_45; have dc40 := fun p : Bel V_45 => vc40.bel p
  have vc41 := c41.up hV_45; have dc41 := fun p : Bel V_45 => vc41.bel p
  have vc42 := c42.up hV_45; have dc42 := fun p : Bel V_45 => vc42.bel p
  have vc43 := c43.up hV_45; have dc43 := fun p : Bel V_45 => vc43.bel p
  simp only [At, Own, Nat.reduceAdd, and_true] at dc40 dc41 dc42 dc43
  have hBV_45 := bel_up hB44 hV_45
  simp only [List.map_cons, List.map_nil, maskS, List.take_succ_cons, List.take_zero]
  repeat (go_big_quiet_step (fail))
  refine wpQuiet_nil ?_
  refine ⟨[.int .i64 r.f, .bool (ng p.q.num), .string (mg p.q.num.natAbs), .bool false, .string (mg (dn p.q))], [.int .i64 r.t, .bool (ng lq.num), .string (mg lq.num.natAbs), .bool false, .string (mg (dn lq))], rfl, rfl, by simp [Value.oneCell'], rfl, rfl, by simp [Value.oneCell'], ?_⟩
  intro bq46 bq47 wn_45 hbn_45 lbq46 mbq46 lbq47 mbq47 nbq46 c48 c49
  have nbq46' := nbq46.symm
  simp only [Act.put, List.setIfInBounds_toArray, List.set_cons_zero, List.set_cons_succ]
  have ne50 : w.heap.size ≠ bq46 := by have := c40.lt; omega
  have ne50' := ne50.symm
  have ne51 : w.heap.size + 1 ≠ bq46 := by have := c41.lt; omega
  have ne51' := ne51.symm
  have ne52 : bq13 ≠ bq46 := by have := c42.lt; omega
  have ne52' := ne52.symm
  have ne53 : bq31 ≠ bq46 := by have := c43.lt; omega
  have ne53' := ne53.symm
  have wbq46 := Nat.le_trans hB44.size lbq46
  have ne54 : w.heap.size ≠ bq47 := by have := c40.lt; omega
  have ne54' := ne54.symm
  have ne55 : w.heap.size + 1 ≠ bq47 := by have := c41.lt; omega
  have ne55' := ne55.symm
  have ne56 : bq13 ≠ bq47 := by have := c42.lt; omega
  have ne56' := ne56.symm
  have ne57 : bq31 ≠ bq47 := by have := c43.lt; omega
  have ne57' := ne57.symm
  have wbq47 := Nat.le_trans hB44.size lbq47
  clear hBV_45 dc43 vc43 dc42 vc42 dc41 vc41 dc40 vc40 hV_45 V_45
  have c58 := c40.up hbn_45
  have c59 := c41.up hbn_45
  have c60 := c42.up hbn_45
  have c61 := c43.up hbn_45
  have hB62 : Below w.heap.size w wn_45 := bel_up hB44 hbn_45
  clear c40 c41 c42 c43
  have uc58 := c58; have uc59 := c59; have uc60 := c60; have uc61 := c61; have uc48 := c48; have uc49 := c49
  simp only [At, Own, Nat.reduceAdd, and_true] at uc58 uc59 uc60 uc61 uc48 uc49
  go_upto_region 9 with fail
  go_upto_region 10 with fail
  refine wp_named ?_
  intro WE63 hWE63
  have hb_63 : Below wn_45.heap.size wn_45 WE63 := by rw [hWE63]; exact (Below.refl _ _).alloc (Nat.le_refl _) _
  have OE63 : Hid (WE63.ownsRow w.heap.size 125 5 (.slice (some ⟨wn_45.heap.size, 0, none⟩) 1 1) 1 (ens ([(En.mk r.t lq)]))) := Lib.hid (by rw [hWE63]; exact em_oneo (hB62).size (En.mk r.t lq))
  clear hWE63
  have f64 : Value.ownBlock (.slice (some ⟨wn_45.heap.size, 0, none⟩) 1 1) ≠ some (w.heap.size) := fun e_ => by have := mblk_block.1 e_; have := c58.lt; omega
  have f65 : Value.ownBlock (.slice (some ⟨wn_45.heap.size, 0, none⟩) 1 1) ≠ some (w.heap.size + 1) := fun e_ => by have := mblk_block.1 e_; have := c59.lt; omega
  have f66 : Value.ownBlock (.slice (some ⟨wn_45.heap.size, 0, none⟩) 1 1) ≠ some (bq13) := fun e_ => by have := mblk_block.1 e_; have := c60.lt; omega
  have f67 : Value.ownBlock (.slice (some ⟨wn_45.heap.size, 0, none⟩) 1 1) ≠ some (bq31) := fun e_ => by have := mblk_block.1 e_; have := c61.lt; omega
  have f68 : Value.ownBlock (.slice (some ⟨wn_45.heap.size, 0, none⟩) 1 1) ≠ some (bq46) := fun e_ => by have := mblk_block.1 e_; have := c48.lt; omega
  have f69 : Value.ownBlock (.slice (some ⟨wn_45.heap.size, 0, none⟩) 1 1) ≠ some (bq47) := fun e_ => by have := mblk_block.1 e_; have := c49.lt; omega
  have c70 := c58.up hb_63
  have c71 := c59.up hb_63
  have c72 := c60.up hb_63
  have c73 := c61.up hb_63
  have c74 := c48.up hb_63
  have c75 := c49.up hb_63
  have hB76 : Below w.heap.size w WE63 := bel_up hB62 hb_63
  clear uc58 uc59 uc60 uc61 uc48 uc49 c58 c59 c60 c61 c48 c49
  go_upto_region 10 with fail
  have uc70 := c70; have uc71 := c71; have uc72 := c72; have uc73 := c73; have uc74 := c74; have uc75 := c75
  simp only [At, Own, Nat.reduceAdd, and_true] at uc70 uc71 uc72 uc73 uc74 uc75
  have ho := HOW.out
  go_upto_region 11 with fail
  clear ho
  go_wp2_with (at_builtin; refine wpList_appF rfl _ _ _ rfl ti_em OE63.out (hB76).size rfl rfl rfl rfl (etc_one (En.mk r.f p.q)) (by omega) (by decide) ?_)
  intro v77 w_v77 hown_v77 hst_v77
  have O79 : Hid (w_v77.ownsRow w.heap.size 125 5 v77 (1 + 1) (ens ([(En.mk r.t lq)] ++ [(En.mk r.f p.q)]))) := Lib.hid (by rw [ens_snoc]; exact hown_v77)
  have c80 := Own.step hst_v77 f64 c70
  have f81 := hst_v77.far _ c70.lt f64
  have c82 := Own.step hst_v77 f65 c71
  have f83 := hst_v77.far _ c71.lt f65
  have c84 := Own.step hst_v77 f66 c72
  have f85 := hst_v77.far _ c72.lt f66
  have c86 := Own.step hst_v77 f67 c73
  have f87 := hst_v77.far _ c73.lt f67
  have c88 := Own.step hst_v77 f68 c74
  have f89 := hst_v77.far _ c74.lt f68
  have c90 := Own.step hst_v77 f69 c75
  have f91 := hst_v77.far _ c75.lt f69
  have hB92 : Below w.heap.size w w_v77 := hst_v77.below hB76 (hB76).size (fun r hr => (OE63.out.lt r hr).1)
  clear uc70 uc71 uc72 uc73 uc74 uc75 hown_v77 c70 c71 c72 c73 c74 c75
  go_upto_region 12 with fail
  obtain ⟨g2, c2, hv2, -, hg2b, hg2, hc2, hm2, hO2⟩ := em_cells (x := (En.mk r.t lq)) (y := (En.mk r.f p.q)) O79.out
  subst hv2
  simp only [etc, List.cons_append, List.nil_append] at hO2
  by_cases hc : r.f < r.t
  · skip
    have hc_ : ¬ ((r.t : Int) ≤ r.f) := by omega
    have hcd : decide ((r.f : Int) < r.t) = true := by simpa using hc
    have HSS93 : ∀ w' : World, Below w_v77.heap.size w_v77 w' → (w'.cell? ⟨g2, 0, none⟩ = some (.int .i64 r.t) ∧ w'.cell? ⟨g2, 5, none⟩ = some (.int .i64 r.f)) := fun w' hb => by
      have q := hO2.up hb
      simp only [Own, Nat.reduceAdd, and_true] at q
      simp [*]
    go_cut [69] (fun x69 wx => x69 = .bool true ∧ Below w_v77.heap.size w_v77 wx)
    case first =>
      have hu := HSS93 w_v77 (Below.refl _ _)
      go_region_held3 (fun w' => w'.cell? ⟨g2, 0, none⟩ = some (.int .i64 r.t) ∧ w'.cell? ⟨g2, 5, none⟩ = some (.int .i64 r.f)) (refine HSS93 _ ?_ <;> (repeat (first | with_reducible exact Below.refl _ _ | with_reducible refine Below.drew ?_))) (fail)
      all_goals
        go_wp2_with fail
        go_meet
        exact ⟨rfl, by (repeat (first | with_reducible exact Below.refl _ _ | with_reducible refine Below.drew ?_))⟩
    case rest =>
      obtain ⟨rfl, hbz94⟩ := hcut
      obtain ⟨wz94, hwz94⟩ : ∃ W_, W_ = wc := ⟨_, rfl⟩
      subst hwz94
      clear HSS93
      have hO95 := hO2.up hbz94
      have c96 := c80.up hbz94
      have c97 := c82.up hbz94
      have c98 := c84.up hbz94
      have c99 := c86.up hbz94
      have c100 := c88.up hbz94
      have c101 := c90.up hbz94
      have hB102 : Below w.heap.size w wz94 := bel_up hB92 hbz94
      clear c80 c82 c84 c86 c88 c90
      clear hcd
      go_upto_region 13 with fail
      have uO9 := hO95
      simp only [Own, Nat.reduceAdd, and_true] at uO9
      go_cut [] (fun wx => Own wx g2 0 [.int .i64 r.f, .bool (ng p.q.num), .string (mg p.q.num.natAbs), .bool false, .string (mg (dn p.q)), .int .i64 r.t, .bool (ng lq.num), .string (mg lq.num.natAbs), .bool false, .string (mg (dn lq))] ∧ Below w.heap.size w wx)
      case first =>
        go_region
        all_goals
          go_wp2_with fail
          go_meet
          refine ⟨?_, ?_⟩
          · simp [Own, go_sem, uO9]
          · (repeat (first | with_reducible exact hB102 | with_reducible refine Below.drew ?_ | refine Below.setCell ?_ (by first | assumption | (simp; omega) | omega) _))
      case rest =>
        obtain ⟨hO, hbS⟩ := hcut
        obtain ⟨WS, hWS⟩ : ∃ W_, W_ = wc := ⟨_, rfl⟩
        subst hWS
        clear uO9 hO95 hB102 c96 c97 c98 c99 c100 c101
        go_wp2
        go_ret
        exact ⟨_, rfl, (by (rw [HPE.out, if_pos (show r.f < r.t from by omega)]); exact el_cells (x := (En.mk r.f p.q)) (y := (En.mk r.t lq)) hO hc2 hm2), (by repeat (first | with_reducible exact hbS | with_reducible refine bel_alloc ?_ _ | refine Below.setCell ?_ (by first | (simp; done) | (simp; omega) | omega) _))⟩
  · skip
    have hc_ :  ((r.t : Int) ≤ r.f) := by omega
    have hcd : decide ((r.f : Int) < r.t) = false := by simpa using hc
    have HSS103 : ∀ w' : World, Below w_v77.heap.size w_v77 w' → (w'.cell? ⟨g2, 0, none⟩ = some (.int .i64 r.t) ∧ w'.cell? ⟨g2, 5, none⟩ = some (.int .i64 r.f)) := fun w' hb => by
      have q := hO2.up hb
      simp only [Own, Nat.reduceAdd, and_true] at q
      simp [*]
    go_cut [69] (fun x69 wx => x69 = .bool false ∧ Below w_v77.heap.size w_v77 wx)
    case first =>
      have hu := HSS103 w_v77 (Below.refl _ _)
      go_region_held3 (fun w' => w'.cell? ⟨g2, 0, none⟩ = some (.int .i64 r.t) ∧ w'.cell? ⟨g2, 5, none⟩ = some (.int .i64 r.f)) (refine HSS103 _ ?_ <;> (repeat (first | with_reducible exact Below.refl _ _ | with_reducible refine Below.drew ?_))) (fail)
      all_goals
        go_wp2_with fail
        go_meet
        exact ⟨rfl, by (repeat (first | with_reducible exact Below.refl _ _ | with_reducible refine Below.drew ?_))⟩
    case rest =>
      obtain ⟨rfl, hbz104⟩ := hcut
      obtain ⟨wz104, hwz104⟩ : ∃ W_, W_ = wc := ⟨_, rfl⟩
      subst hwz104
      clear HSS103
      have hO105 := hO2.up hbz104
      have c106 := c80.up hbz104
      have c107 := c82.up hbz104
      have c108 := c84.up hbz104
      have c109 := c86.up hbz104
      have c110 := c88.up hbz104
      have c111 := c90.up hbz104
      have hB112 : Below w.heap.size w wz104 := bel_up hB92 hbz104
      clear c80 c82 c84 c86 c88 c90
      have uc106 := c106; have uc107 := c107; have uc108 := c108; have uc109 := c109; have uc110 := c110; have uc111 := c111
      simp only [At, Own, Nat.reduceAdd, and_true] at uc106 uc107 uc108 uc109 uc110 uc111
      go_wp2
      go_ret
      exact ⟨_, rfl, (by (rw [HPE.out, if_neg (show ¬ r.f < r.t from by omega)]); exact el_cells hO105 hc2 hm2), (by repeat (first | with_reducible exact hB112 | with_reducible refine bel_alloc ?_ _ | refine Below.setCell ?_ (by first | (simp; done) | (simp; omega) | omega) _))⟩

set_option maxRecDepth 100000 in
set_option maxHeartbeats 2000000 in
theorem lends_f_o (N : Net) (r : Rd) (p : Pc) (v : Value) (w : World) (h : NV w v N) (g : Vld N) (hr : frd N.rs p.r = some r) (hq : Pl.Sz 2000 p.q) (hk : latE r p.q = 0) (ho : r.o = true) :
    Calls Tryz.prog 39 #[v, .agg #[.int .i64 p.r, .bool (ng p.q.num), .string (mg p.q.num.natAbs), .bool false, .string (mg (dn p.q))], .bool false] w fun e w' => ∃ v', e = .returned v' ∧ EL w' v' (pairE (!r.o) ⟨r.f, p.q⟩ ⟨r.t, (r.l : Rat) - p.q⟩) ∧ Below w.heap.size w w' := by
  obtain ⟨j, hj, hj2⟩ := frd_idx hr
  have hrok := g.or r (frd_of hr).1
  have hl1 := hrok.2.2.1
  have hl2 := hrok.2.2.2.1
  have HR := Lib.hid hr
  have HROK := Lib.hid hrok
  obtain ⟨ql, hql⟩ : ∃ q : Rat, q = (r.l : Rat) := ⟨_, rfl⟩
  have ZQL : Pl.Sz 4 ql := by rw [hql]; exact sz_small (by omega) (by omega)
  have HQL := Lib.hid hql
  clear hr hql hrok
  have HJ := Lib.hid hj
  have HJ2 := Lib.hid hj2
  obtain ⟨k, hk0⟩ : ∃ k : Int, k = 0 := ⟨_, rfl⟩
  obtain ⟨lq, hlq⟩ : ∃ q : Rat, ql - p.q = q := ⟨_, rfl⟩
  have ZLQ : Pl.Sz 2005 lq := by rw [← hlq]; exact ZQL.sub hq
  have hjl : j < N.rs.length := (List.getElem?_eq_some_iff.1 hj2).1
  have HPE : Hid (pairE (!r.o) ⟨r.f, p.q⟩ ⟨r.t, (r.l : Rat) - p.q⟩ = [(En.mk r.t lq)]) := Lib.hid (by rw [ho, ← HQL.out, hlq]; rfl)
  have HLQ := Lib.hid hlq
  have HK : Hid (latE r p.q = k) := Lib.hid (by rw [hk, hk0])
  have HOW := Lib.hid ho
  have hk1_ : (k : Int) ≤ 0 := by omega
  clear hj hj2 hlq hk hk0 ho
  obtain ⟨_, _, rfl, hn, hr⟩ := h
  obtain ⟨An, cn, rfl, hcn, hmn, hxn⟩ := hn.open_
  obtain ⟨Ar, cr, rfl, hcr, hmr, hxr⟩ := hr.open_
  have HNV : Hid (NV w (.agg #[.slice An N.ns.length cn, .slice Ar N.rs.length cr]) N) := Lib.hid ⟨_, _, rfl, hn, hr⟩
  have HXN := Lib.hid hxn
  have HXR := Lib.hid hxr
  have HG := Lib.hid g
  have hln := g.ln
  have hlr := g.lr
  generalize hNn : N.ns.length = Nn at *
  generalize hNr : N.rs.length = Nr at *
  have HNn := Lib.hid hNn
  have HNr := Lib.hid hNr
  clear hn hr hxn hxr g hNn hNr
  have i1j : (j : Int) < Nr := by omega
  have i0j : (0 : Int) ≤ j := Int.natCast_nonneg _
  go_enter Tryz.func39, Tryz.ntmps39
  have K1 := Lib.hid (fun W (hv : NV W (.agg #[.slice An Nn cn, .slice Ar Nr cr]) N) => lnodeat_any N r p k _ W hv HG.out HR.out hq HK.out)
  go_wp2_with (fail)
  refine calls_named ?_
  intro W1 hW1
  have hL1 : Below w.heap.size w W1 := by
    rw [hW1]
    repeat (first | with_reducible exact Below.refl _ _ | with_reducible refine bel_alloc ?_ _ | refine Below.setCell ?_ (by first | (simp; done) | (simp; omega) | omega) _)
  have c2 : Own W1 (w.heap.size) 0 [.slice An Nn cn, .slice Ar Nr cr] := by
    rw [hW1]
    first
    | (repeat (first | (with_reducible refine own_new (l := [.slice An Nn cn, .slice Ar Nr cr]) ?_; (simp; done)) | with_reducible refine Own.alloc ?_ _ | refine Own.far _ _ (by first | (simp; done) | (simp [*]; done) | (simp; omega)) ?_)); done
    | simp [Own, go_sem]
  have c3 : Own W1 (w.heap.size + 1) 0 [.int .i64 p.r, .bool (ng p.q.num), .string (mg p.q.num.natAbs), .bool false, .string (mg (dn p.q))] := by
    rw [hW1]
    first
    | (repeat (first | (with_reducible refine own_new (l := [.int .i64 p.r, .bool (ng p.q.num), .string (mg p.q.num.natAbs), .bool false, .string (mg (dn p.q))]) ?_; (simp; done)) | with_reducible refine Own.alloc ?_ _ | refine Own.far _ _ (by first | (simp; done) | (simp [*]; done) | (simp; omega)) ?_)); done
    | simp [Own, go_sem]
  have hB4 : Below w.heap.size w W1 := by
    rw [hW1]
    repeat (first | with_reducible exact Below.refl _ _ | with_reducible refine bel_alloc ?_ _ | refine Below.setCell ?_ (by first | (simp; done) | (simp; omega) | omega) _)
  clear hW1 hL1
  with_reducible refine (K1.out _ (HNV.out.up hB4)).mono ?_
  rintro e w1 ⟨rfl, hb1⟩
  have c5 := c2.up hb1
  have c6 := c3.up hb1
  have hB7 : Below w.heap.size w w1 := bel_up hB4 hb1
  clear c2 c3
  go_upto_region 4 with fail
  refine wp_named ?_
  intro W2 hW2
  have hL2 : Below w1.heap.size w1 W2 := by
    rw [hW2]
    repeat (first | with_reducible exact Below.refl _ _ | with_reducible refine bel_alloc ?_ _ | refine Below.setCell ?_ (by first | (simp; done) | (simp; omega) | omega) _)
  have c8 := c5.up hL2
  have c9 := c6.up hL2
  have hB10 : Below w.heap.size w W2 := by
    rw [hW2]
    repeat (first | with_reducible exact hB7 | with_reducible refine bel_alloc ?_ _ | refine Below.setCell ?_ (by first | (simp; done) | (simp; omega) | omega) _)
  clear hW2 hL2 c5 c6
  have K12 := Lib.hid (fun W (hv : NV W (.agg #[.slice An Nn cn, .slice Ar Nr cr]) N) => lroad_j N p.r j _ W hv ⟨by rw [HNn.out]; exact hln, by rw [HNr.out]; exact hlr⟩ HJ.out)
  obtain ⟨g15, o16, ha17, -⟩ := (HXR.out).up kpR hB10 _ _ HJ2.out
  subst ha17
  have ce14 := LX.at_ ((HXR.out).up kpR hB10) HJ2.out
  have ce14_ : g15 < W2.heap.size := World.block_lt_of_cell? _ _ ce14.1
  refine wp_region_new1 9 8 8 [.int .i64 0, .int .i64 0, .int .i64 0, .int .i64 0, .int .i64 0, .bool false] 67 (by kernel_rfl) (by kernel_rfl) rfl rfl rfl rfl (by intro h_; cases h_) (by simp) (run_alloc_zero Tryz.zeroValue67 rfl) (by kernel_rfl) ?_
  intro V_11 hV_11
  have vc8 := c8.up hV_11; have dc8 := fun p : Bel V_11 => vc8.bel p
  have vc9 := c9.up hV_11; have dc9 := fun p : Bel V_11 => vc9.bel p
  simp only [At, Own, Nat.reduceAdd, and_true] at dc8 dc9
  have vce14 := ce14.up hV_11; have dce14 := fun b : Bel V_11 => vce14.bel b
  simp only [CR, rdc, At, Nat.reduceMul] at dce14
  have hBV_11 := bel_up hB10 hV_11
  simp only [List.map_cons, List.map_nil, maskOp, List.take_succ_cons, List.take_zero]
  repeat (go_big_quiet_step (first | (go_at_call 31; with_reducible exact Calls.bel (K12.out _ (HNV.out.up (bel_up hBV_11 (Bel.h _)))))))
  refine wpQuiet_nil ?_
  refine ⟨[.int .i64 r.i, .int .i64 r.f, .int .i64 r.t, .int .i64 r.l, .int .i64 r.m, .bool r.o], rfl, rfl, by simp [Value.oneCell'], ?_⟩
  intro bq13 wn_11 hbn_11 lbq13 mbq13 c18
  simp only [Act.put, List.setIfInBounds_toArray, List.set_cons_zero, List.set_cons_succ]
  have ne19 : w.heap.size ≠ bq13 := by have := c8.lt; omega
  have ne19' := ne19.symm
  have ne20 : w.heap.size + 1 ≠ bq13 := by have := c9.lt; omega
  have ne20' := ne20.symm
  have wbq13 := Nat.le_trans hB10.size lbq13
  clear hBV_11 dce14 vce14 dc9 vc9 dc8 vc8 hV_11 V_11
  have c21 := c8.up hbn_11
  have c22 := c9.up hbn_11
  have hB23 : Below w.heap.size w wn_11 := bel_up hB10 hbn_11
  clear c8 c9
  go_upto_region 5 with fail
  refine wp_named ?_
  intro W3 hW3
  have hL3 : Below wn_11.heap.size wn_11 W3 := by
    rw [hW3]
    repeat (first | with_reducible exact Below.refl _ _ | with_reducible refine bel_alloc ?_ _ | refine Below.setCell ?_ (by first | (simp; done) | (simp; omega) | omega) _)
  have c24 := c21.up hL3
  have c25 := c22.up hL3
  have c26 := c18.up hL3
  have hB27 : Below w.heap.size w W3 := by
    rw [hW3]
    repeat (first | with_reducible exact hB23 | with_reducible refine bel_alloc ?_ _ | refine Below.setCell ?_ (by first | (simp; done) | (simp; omega) | omega) _)
  clear hW3 hL3 c21 c22 c18
  have K29 := Lib.hid (fun W => qfi_any r.l ql W HQL.out (by omega) (by omega))
  have K30 := Lib.hid (fun W => HLQ.out ▸ qsub_any ql p.q W (ZQL.mono (by decide)) (hq.mono (by decide)))
  refine wp_region_new1 7 6 9 [.bool false, .string ⟨#[]⟩, .bool false, .string ⟨#[]⟩] 40 (by kernel_rfl) (by kernel_rfl) rfl rfl rfl rfl (by intro h_; cases h_) (by simp) (run_alloc_zero Tryz.zeroValue40 rfl) (by kernel_rfl) ?_
  intro V_28 hV_28
  have vc24 := c24.up hV_28; have dc24 := fun p : Bel V_28 => vc24.bel p
  have vc25 := c25.up hV_28; have dc25 := fun p : Bel V_28 => vc25.bel p
  have vc26 := c26.up hV_28; have dc26 := fun p : Bel V_28 => vc26.bel p
  simp only [At, Own, Nat.reduceAdd, and_true] at dc24 dc25 dc26
  have hBV_28 := bel_up hB27 hV_28
  simp only [List.map_cons, List.map_nil, maskOp, List.take_succ_cons, List.take_zero]
  repeat (go_big_quiet_step (first | (go_at_call 37; with_reducible exact Calls.bel (K29.out _)) | (go_at_call 75; with_reducible exact Calls.bel (K30.out _))))
  refine wpQuiet_nil ?_
  refine ⟨[.bool (ng lq.num), .string (mg lq.num.natAbs), .bool false, .string (mg (dn lq))], rfl, rfl, by simp [Value.oneCell'], ?_⟩
  intro bq31 wn_28 hbn_28 lbq31 mbq31 c32
  simp only [Act.put, List.setIfInBounds_toArray, List.set_cons_zero, List.set_cons_succ]
  have ne33 : w.heap.size ≠ bq31 := by have := c24.lt; omega
  have ne33' := ne33.symm
  have ne34 : w.heap.size + 1 ≠ bq31 := by have := c25.lt; omega
  have ne34' := ne34.symm
  have ne35 : bq13 ≠ bq31 := by have := c26.lt; omega
  have ne35' := ne35.symm
  have wbq31 := Nat.le_trans hB27.size lbq31
  clear hBV_28 dc26 vc26 dc25 vc25 dc24 vc24 hV_28 V_28
  have c36 := c24.up hbn_28
  have c37 := c25.up hbn_28
  have c38 := c26.up hbn_28
  have hB39 : Below w.heap.size w wn_28 := bel_up hB27 hbn_28
  clear c24 c25 c26
  go_upto_region 6 with fail
  refine wp_named ?_
  intro W4 hW4
  have hL4 : Below wn_28.heap.size wn_28 W4 := by
    rw [hW4]
    repeat (first | with_reducible exact Below.refl _ _ | with_reducible refine bel_alloc ?_ _ | refine Below.setCell ?_ (by first | (simp; done) | (simp; omega) | omega) _)
  have c40 := c36.up hL4
  have c41 := c37.up hL4
  have c42 := c38.up hL4
  have c43 := c32.up hL4
  have hB44 : Below w.heap.size w W4 := by
    rw [hW4]
    repeat (first | with_reducible exact hB39 | with_reducible refine bel_alloc ?_ _ | refine Below.setCell ?_ (by first | (simp; done) | (simp; omega) | omega) _)
  clear hW4 hL4 c36 c37 c38 c32
  refine wp_region_new2s 11 9 10 10 11 [.int .i64 0, .bool false, .string ⟨#[]⟩, .bool false, .string ⟨#[]⟩] [.int .i64 0, .bool false, .string ⟨#[]⟩, .bool false, .string ⟨#[]⟩] 125 125 (by kernel_rfl) rfl rfl rfl rfl rfl rfl rfl (by kernel_rfl) rfl rfl (by simp) (by simp) (run_alloc_zero Tryz.zeroValue125 rfl) (by kernel_rfl) (run_alloc_zero Tryz.zeroValue125 rfl) (by kernel_rfl) ?_
  intro V_45 hV_45
  have vc40 := c40.up hV_45; have dc40 := fun p : Bel V_45 => vc40.bel p
  have vc41 := c41.up hV_45; have dc41 := fun p : Bel V_45 => vc41.bel p
  have vc42 := c42.up hV_45; have dc42 := fun p : Bel V_45 => vc42.bel p
  have vc43 := c43.up hV_45; have dc43 := fun p : Bel V_45 => vc43.bel p
  simp only [At, Own, Nat.reduceAdd, and_true] at dc40 dc41 dc42 dc43
  have hBV_45 := bel_up hB44 hV_45
  simp only [List.map_cons, List.map_nil, maskS, List.take_succ_cons, List.take_zero]
  repeat (go_big_quiet_step (fail))
  refine wpQuiet_nil ?_
  refine ⟨[.int .i64 r.f, .bool (ng p.q.num), .string (mg p.q.num.natAbs), .bool false, .string (mg (dn p.q))], [.int .i64 r.t, .bool (ng lq.num), .string (mg lq.num.natAbs), .bool false, .string (mg (dn lq))], rfl, rfl, by simp [Value.oneCell'], rfl, rfl, by simp [Value.oneCell'], ?_⟩
  intro bq46 bq47 wn_45 hbn_45 lbq46 mbq46 lbq47 mbq47 nbq46 c48 c49
  have nbq46' := nbq46.symm
  simp only [Act.put, List.setIfInBounds_toArray, List.set_cons_zero, List.set_cons_succ]
  have ne50 : w.heap.size ≠ bq46 := by have := c40.lt; omega
  have ne50' := ne50.symm
  have ne51 : w.heap.size + 1 ≠ bq46 := by have := c41.lt; omega
  have ne51' := ne51.symm
  have ne52 : bq13 ≠ bq46 := by have := c42.lt; omega
  have ne52' := ne52.symm
  have ne53 : bq31 ≠ bq46 := by have := c43.lt; omega
  have ne53' := ne53.symm
  have wbq46 := Nat.le_trans hB44.size lbq46
  have ne54 : w.heap.size ≠ bq47 := by have := c40.lt; omega
  have ne54' := ne54.symm
  have ne55 : w.heap.size + 1 ≠ bq47 := by have := c41.lt; omega
  have ne55' := ne55.symm
  have ne56 : bq13 ≠ bq47 := by have := c42.lt; omega
  have ne56' := ne56.symm
  have ne57 : bq31 ≠ bq47 := by have := c43.lt; omega
  have ne57' := ne57.symm
  have wbq47 := Nat.le_trans hB44.size lbq47
  clear hBV_45 dc43 vc43 dc42 vc42 dc41 vc41 dc40 vc40 hV_45 V_45
  have c58 := c40.up hbn_45
  have c59 := c41.up hbn_45
  have c60 := c42.up hbn_45
  have c61 := c43.up hbn_45
  have hB62 : Below w.heap.size w wn_45 := bel_up hB44 hbn_45
  clear c40 c41 c42 c43
  have uc58 := c58; have uc59 := c59; have uc60 := c60; have uc61 := c61; have uc48 := c48; have uc49 := c49
  simp only [At, Own, Nat.reduceAdd, and_true] at uc58 uc59 uc60 uc61 uc48 uc49
  go_upto_region 9 with fail
  go_upto_region 10 with fail
  refine wp_named ?_
  intro WE63 hWE63
  have hb_63 : Below wn_45.heap.size wn_45 WE63 := by rw [hWE63]; exact (Below.refl _ _).alloc (Nat.le_refl _) _
  have OE63 : Hid (WE63.ownsRow w.heap.size 125 5 (.slice (some ⟨wn_45.heap.size, 0, none⟩) 1 1) 1 (ens ([(En.mk r.t lq)]))) := Lib.hid (by rw [hWE63]; exact em_oneo (hB62).size (En.mk r.t lq))
  clear hWE63
  have f64 : Value.ownBlock (.slice (some ⟨wn_45.heap.size, 0, none⟩) 1 1) ≠ some (w.heap.size) := fun e_ => by have := mblk_block.1 e_; have := c58.lt; omega
  have f65 : Value.ownBlock (.slice (some ⟨wn_45.heap.size, 0, none⟩) 1 1) ≠ some (w.heap.size + 1) := fun e_ => by have := mblk_block.1 e_; have := c59.lt; omega
  have f66 : Value.ownBlock (.slice (some ⟨wn_45.heap.size, 0, none⟩) 1 1) ≠ some (bq13) := fun e_ => by have := mblk_block.1 e_; have := c60.lt; omega
  have f67 : Value.ownBlock (.slice (some ⟨wn_45.heap.size, 0, none⟩) 1 1) ≠ some (bq31) := fun e_ => by have := mblk_block.1 e_; have := c61.lt; omega
  have f68 : Value.ownBlock (.slice (some ⟨wn_45.heap.size, 0, none⟩) 1 1) ≠ some (bq46) := fun e_ => by have := mblk_block.1 e_; have := c48.lt; omega
  have f69 : Value.ownBlock (.slice (some ⟨wn_45.heap.size, 0, none⟩) 1 1) ≠ some (bq47) := fun e_ => by have := mblk_block.1 e_; have := c49.lt; omega
  have c70 := c58.up hb_63
  have c71 := c59.up hb_63
  have c72 := c60.up hb_63
  have c73 := c61.up hb_63
  have c74 := c48.up hb_63
  have c75 := c49.up hb_63
  have hB76 : Below w.heap.size w WE63 := bel_up hB62 hb_63
  clear uc58 uc59 uc60 uc61 uc48 uc49 c58 c59 c60 c61 c48 c49
  go_upto_region 10 with fail
  have uc70 := c70; have uc71 := c71; have uc72 := c72; have uc73 := c73; have uc74 := c74; have uc75 := c75
  simp only [At, Own, Nat.reduceAdd, and_true] at uc70 uc71 uc72 uc73 uc74 uc75
  have ho := HOW.out
  go_upto_region 12 with fail
  clear ho
  go_wp2_with fail
  refine wp_named ?_
  intro W5 hW5
  have hL5 : Below WE63.heap.size WE63 W5 := by
    rw [hW5]
    repeat (first | with_reducible exact Below.refl _ _ | with_reducible refine bel_alloc ?_ _ | refine Below.setCell ?_ (by first | (simp; done) | (simp; omega) | omega) _)
  have c77 := c70.up hL5
  have c78 := c71.up hL5
  have c79 := c72.up hL5
  have c80 := c73.up hL5
  have c81 := c74.up hL5
  have c82 := c75.up hL5
  have O83 := Lib.hid (owns_up OE63.out hL5)
  have hB84 : Below w.heap.size w W5 := by
    rw [hW5]
    repeat (first | with_reducible exact hB76 | with_reducible refine bel_alloc ?_ _ | refine Below.setCell ?_ (by first | (simp; done) | (simp; omega) | omega) _)
  clear hW5 hL5 uc70 uc71 uc72 uc73 uc74 uc75 c70 c71 c72 c73 c74 c75
  have dc77 := fun p : Bel W5 => c77.bel p; have dc78 := fun p : Bel W5 => c78.bel p; have dc79 := fun p : Bel W5 => c79.bel p; have dc80 := fun p : Bel W5 => c80.bel p; have dc81 := fun p : Bel W5 => c81.bel p; have dc82 := fun p : Bel W5 => c82.bel p
  simp only [At, Own, Nat.reduceAdd, and_true] at dc77 dc78 dc79 dc80 dc81 dc82
  refine wp_region_all (by kernel_rfl) (by kernel_rfl) ?_
  repeat (go_big_quiet_step (fail))
  refine wpQuiet_nil ?_
  intro w5 hb5
  have c85 := c77.up hb5
  have c86 := c78.up hb5
  have c87 := c79.up hb5
  have c88 := c80.up hb5
  have c89 := c81.up hb5
  have c90 := c82.up hb5
  have O91 := Lib.hid (owns_up O83.out hb5)
  have hB92 : Below w.heap.size w w5 := bel_up hB84 hb5
  clear dc77 dc78 dc79 dc80 dc81 dc82 c77 c78 c79 c80 c81 c82 O83
  have uc85 := c85; have uc86 := c86; have uc87 := c87; have uc88 := c88; have uc89 := c89; have uc90 := c90
  simp only [At, Own, Nat.reduceAdd, and_true] at uc85 uc86 uc87 uc88 uc89 uc90
  go_wp2
  go_ret
  exact ⟨_, rfl, (by (try rw [HPE.out]); exact em_own O91.out), (by repeat (first | with_reducible exact hB92 | with_reducible refine bel_alloc ?_ _ | refine Below.setCell ?_ (by first | (simp; done) | (simp; omega) | omega) _))⟩

set_option maxRecDepth 100000 in
set_option maxHeartbeats 2000000 in
theorem lends_b_t (N : Net) (r : Rd) (p : Pc) (v : Value) (w : World) (h : NV w v N) (g : Vld N) (hr : frd N.rs p.r = some r) (hq : Pl.Sz 2000 p.q) (hk : latE r p.q = 0) (ho : r.o = false) :
    Calls Tryz.prog 39 #[v, .agg #[.int .i64 p.r, .bool (ng p.q.num), .string (mg p.q.num.natAbs), .bool false, .string (mg (dn p.q))], .bool true] w fun e w' => ∃ v', e = .returned v' ∧ EL w' v' (pairE (!r.o) ⟨r.t, (r.l : Rat) - p.q⟩ ⟨r.f, p.q⟩) ∧ Below w.heap.size w w' := by
  obtain ⟨j, hj, hj2⟩ := frd_idx hr
  have hrok := g.or r (frd_of hr).1
  have hl1 := hrok.2.2.1
  have hl2 := hrok.2.2.2.1
  have HR := Lib.hid hr
  have HROK := Lib.hid hrok
  obtain ⟨ql, hql⟩ : ∃ q : Rat, q = (r.l : Rat) := ⟨_, rfl⟩
  have ZQL : Pl.Sz 4 ql := by rw [hql]; exact sz_small (by omega) (by omega)
  have HQL := Lib.hid hql
  clear hr hql hrok
  have HJ := Lib.hid hj
  have HJ2 := Lib.hid hj2
  obtain ⟨k, hk0⟩ : ∃ k : Int, k = 0 := ⟨_, rfl⟩
  obtain ⟨lq, hlq⟩ : ∃ q : Rat, ql - p.q = q := ⟨_, rfl⟩
  have ZLQ : Pl.Sz 2005 lq := by rw [← hlq]; exact ZQL.sub hq
  have hjl : j < N.rs.length := (List.getElem?_eq_some_iff.1 hj2).1
  have HPE : Hid (pairE (!r.o) ⟨r.t, (r.l : Rat) - p.q⟩ ⟨r.f, p.q⟩ = if r.t < r.f then [(En.mk r.t lq), (En.mk r.f p.q)] else [(En.mk r.f p.q), (En.mk r.t lq)]) := Lib.hid (by rw [ho, ← HQL.out, hlq]; rfl)
  have HLQ := Lib.hid hlq
  have HK : Hid (latE r p.q = k) := Lib.hid (by rw [hk, hk0])
  have HOW := Lib.hid ho
  have hk1_ : (k : Int) ≤ 0 := by omega
  clear hj hj2 hlq hk hk0 ho
  obtain ⟨_, _, rfl, hn, hr⟩ := h
  obtain ⟨An, cn, rfl, hcn, hmn, hxn⟩ := hn.open_
  obtain ⟨Ar, cr, rfl, hcr, hmr, hxr⟩ := hr.open_
  have HNV : Hid (NV w (.agg #[.slice An N.ns.length cn, .slice Ar N.rs.length cr]) N) := Lib.hid ⟨_, _, rfl, hn, hr⟩
  have HXN := Lib.hid hxn
  have HXR := Lib.hid hxr
  have HG := Lib.hid g
  have hln := g.ln
  have hlr := g.lr
  generalize hNn : N.ns.length = Nn at *
  generalize hNr : N.rs.length = Nr at *
  have HNn := Lib.hid hNn
  have HNr := Lib.hid hNr
  clear hn hr hxn hxr g hNn hNr
  have i1j : (j : Int) < Nr := by omega
  have i0j : (0 : Int) ≤ j := Int.natCast_nonneg _
  go_enter Tryz.func39, Tryz.ntmps39
  have K1 := Lib.hid (fun W (hv : NV W (.agg #[.slice An Nn cn, .slice Ar Nr cr]) N) => lnodeat_any N r p k _ W hv HG.out HR.out hq HK.out)
  go_wp2_with (fail)
  refine calls_named ?_
  intro W1 hW1
  have hL1 : Below w.heap.size w W1 := by
    rw [hW1]
    repeat (first | with_reducible exact Below.refl _ _ | with_reducible refine bel_alloc ?_ _ | refine Below.setCell ?_ (by first | (simp; done) | (simp; omega) | omega) _)
  have c2 : Own W1 (w.heap.size) 0 [.slice An Nn cn, .slice Ar Nr cr] := by
    rw [hW1]
    first
    | (repeat (first | (with_reducible refine own_new (l := [.slice An Nn cn, .slice Ar Nr cr]) ?_; (simp; done)) | with_reducible refine Own.alloc ?_ _ | refine Own.far _ _ (by first | (simp; done) | (simp [*]; done) | (simp; omega)) ?_)); done
    | simp [Own, go_sem]
  have c3 : Own W1 (w.heap.size + 1) 0 [.int .i64 p.r, .bool (ng p.q.num), .string (mg p.q.num.natAbs), .bool false, .string (mg (dn p.q))] := by
    rw [hW1]
    first
    | (repeat (first | (with_reducible refine own_new (l := [.int .i64 p.r, .bool (ng p.q.num), .string (mg p.q.num.natAbs), .bool false, .string (mg (dn p.q))]) ?_; (simp; done)) | with_reducible refine Own.alloc ?_ _ | refine Own.far _ _ (by first | (simp; done) | (simp [*]; done) | (simp; omega)) ?_)); done
    | simp [Own, go_sem]
  have hB4 : Below w.heap.size w W1 := by
    rw [hW1]
    repeat (first | with_reducible exact Below.refl _ _ | with_reducible refine bel_alloc ?_ _ | refine Below.setCell ?_ (by first | (simp; done) | (simp; omega) | omega) _)
  clear hW1 hL1
  with_reducible refine (K1.out _ (HNV.out.up hB4)).mono ?_
  rintro e w1 ⟨rfl, hb1⟩
  have c5 := c2.up hb1
  have c6 := c3.up hb1
  have hB7 : Below w.heap.size w w1 := bel_up hB4 hb1
  clear c2 c3
  go_upto_region 4 with fail
  refine wp_named ?_
  intro W2 hW2
  have hL2 : Below w1.heap.size w1 W2 := by
    rw [hW2]
    repeat (first | with_reducible exact Below.refl _ _ | with_reducible refine bel_alloc ?_ _ | refine Below.setCell ?_ (by first | (simp; done) | (simp; omega) | omega) _)
  have c8 := c5.up hL2
  have c9 := c6.up hL2
  have hB10 : Below w.heap.size w W2 := by
    rw [hW2]
    repeat (first | with_reducible exact hB7 | with_reducible refine bel_alloc ?_ _ | refine Below.setCell ?_ (by first | (simp; done) | (simp; omega) | omega) _)
  clear hW2 hL2 c5 c6
  have K12 := Lib.hid (fun W (hv : NV W (.agg #[.slice An Nn cn, .slice Ar Nr cr]) N) => lroad_j N p.r j _ W hv ⟨by rw [HNn.out]; exact hln, by rw [HNr.out]; exact hlr⟩ HJ.out)
  obtain ⟨g15, o16, ha17, -⟩ := (HXR.out).up kpR hB10 _ _ HJ2.out
  subst ha17
  have ce14 := LX.at_ ((HXR.out).up kpR hB10) HJ2.out
  have ce14_ : g15 < W2.heap.size := World.block_lt_of_cell? _ _ ce14.1
  refine wp_region_new1 9 8 8 [.int .i64 0, .int .i64 0, .int .i64 0, .int .i64 0, .int .i64 0, .bool false] 67 (by kernel_rfl) (by kernel_rfl) rfl rfl rfl rfl (by intro h_; cases h_) (by simp) (run_alloc_zero Tryz.zeroValue67 rfl) (by kernel_rfl) ?_
  intro V_11 hV_11
  have vc8 := c8.up hV_11; have dc8 := fun p : Bel V_11 => vc8.bel p
  have vc9 := c9.up hV_11; have dc9 := fun p : Bel V_11 => vc9.bel p
  simp only [At, Own, Nat.reduceAdd, and_true] at dc8 dc9
  have vce14 := ce14.up hV_11; have dce14 := fun b : Bel V_11 => vce14.bel b
  simp only [CR, rdc, At, Nat.reduceMul] at dce14
  have hBV_11 := bel_up hB10 hV_11
  simp only [List.map_cons, List.map_nil, maskOp, List.take_succ_cons, List.take_zero]
  repeat (go_big_quiet_step (first | (go_at_call 31; with_reducible exact Calls.bel (K12.out _ (HNV.out.up (bel_up hBV_11 (Bel.h _)))))))
  refine wpQuiet_nil ?_
  refine ⟨[.int .i64 r.i, .int .i64 r.f, .int .i64 r.t, .int .i64 r.l, .int .i64 r.m, .bool r.o], rfl, rfl, by simp [Value.oneCell'], ?_⟩
  intro bq13 wn_11 hbn_11 lbq13 mbq13 c18
  simp only [Act.put, List.setIfInBounds_toArray, List.set_cons_zero, List.set_cons_succ]
  have ne19 : w.heap.size ≠ bq13 := by have := c8.lt; omega
  have ne19' := ne19.symm
  have ne20 : w.heap.size + 1 ≠ bq13 := by have := c9.lt; omega
  have ne20' := ne20.symm
  have wbq13 := Nat.le_trans hB10.size lbq13
  clear hBV_11 dce14 vce14 dc9 vc9 dc8 vc8 hV_11 V_11
  have c21 := c8.up hbn_11
  have c22 := c9.up hbn_11
  have hB23 : Below w.heap.size w wn_11 := bel_up hB10 hbn_11
  clear c8 c9
  go_upto_region 5 with fail
  refine wp_named ?_
  intro W3 hW3
  have hL3 : Below wn_11.heap.size wn_11 W3 := by
    rw [hW3]
    repeat (first | with_reducible exact Below.refl _ _ | with_reducible refine bel_alloc ?_ _ | refine Below.setCell ?_ (by first | (simp; done) | (simp; omega) | omega) _)
  have c24 := c21.up hL3
  have c25 := c22.up hL3
  have c26 := c18.up hL3
  have hB27 : Below w.heap.size w W3 := by
    rw [hW3]
    repeat (first | with_reducible exact hB23 | with_reducible refine bel_alloc ?_ _ | refine Below.setCell ?_ (by first | (simp; done) | (simp; omega) | omega) _)
  clear hW3 hL3 c21 c22 c18
  have K29 := Lib.hid (fun W => qfi_any r.l ql W HQL.out (by omega) (by omega))
  have K30 := Lib.hid (fun W => HLQ.out ▸ qsub_any ql p.q W (ZQL.mono (by decide)) (hq.mono (by decide)))
  refine wp_region_new1 7 6 9 [.bool false, .string ⟨#[]⟩, .bool false, .string ⟨#[]⟩] 40 (by kernel_rfl) (by kernel_rfl) rfl rfl rfl rfl (by intro h_; cases h_) (by simp) (run_alloc_zero Tryz.zeroValue40 rfl) (by kernel_rfl) ?_
  intro V_28 hV_28
  have vc24 := c24.up hV_28; have dc24 := fun p : Bel V_28 => vc24.bel p
  have vc25 := c25.up hV_28; have dc25 := fun p : Bel V_28 => vc25.bel p
  have vc26 := c26.up hV_28; have dc26 := fun p : Bel V_28 => vc26.bel p
  simp only [At, Own, Nat.reduceAdd, and_true] at dc24 dc25 dc26
  have hBV_28 := bel_up hB27 hV_28
  simp only [List.map_cons, List.map_nil, maskOp, List.take_succ_cons, List.take_zero]
  repeat (go_big_quiet_step (first | (go_at_call 37; with_reducible exact Calls.bel (K29.out _)) | (go_at_call 75; with_reducible exact Calls.bel (K30.out _))))
  refine wpQuiet_nil ?_
  refine ⟨[.bool (ng lq.num), .string (mg lq.num.natAbs), .bool false, .string (mg (dn lq))], rfl, rfl, by simp [Value.oneCell'], ?_⟩
  intro bq31 wn_28 hbn_28 lbq31 mbq31 c32
  simp only [Act.put, List.setIfInBounds_toArray, List.set_cons_zero, List.set_cons_succ]
  have ne33 : w.heap.size ≠ bq31 := by have := c24.lt; omega
  have ne33' := ne33.symm
  have ne34 : w.heap.size + 1 ≠ bq31 := by have := c25.lt; omega
  have ne34' := ne34.symm
  have ne35 : bq13 ≠ bq31 := by have := c26.lt; omega
  have ne35' := ne35.symm
  have wbq31 := Nat.le_trans hB27.size lbq31
  clear hBV_28 dc26 vc26 dc25 vc25 dc24 vc24 hV_28 V_28
  have c36 := c24.up hbn_28
  have c37 := c25.up hbn_28
  have c38 := c26.up hbn_28
  have hB39 : Below w.heap.size w wn_28 := bel_up hB27 hbn_28
  clear c24 c25 c26
  go_upto_region 6 with fail
  refine wp_named ?_
  intro W4 hW4
  have hL4 : Below wn_28.heap.size wn_28 W4 := by
    rw [hW4]
    repeat (first | with_reducible exact Below.refl _ _ | with_reducible refine bel_alloc ?_ _ | refine Below.setCell ?_ (by first | (simp; done) | (simp; omega) | omega) _)
  have c40 := c36.up hL4
  have c41 := c37.up hL4
  have c42 := c38.up hL4
  have c43 := c32.up hL4
  have hB44 : Below w.heap.size w W4 := by
    rw [hW4]
    repeat (first | with_reducible exact hB39 | with_reducible refine bel_alloc ?_ _ | refine Below.setCell ?_ (by first | (simp; done) | (simp; omega) | omega) _)
  clear hW4 hL4 c36 c37 c38 c32
  refine wp_region_new2s 11 9 10 10 11 [.int .i64 0, .bool false, .string ⟨#[]⟩, .bool false, .string ⟨#[]⟩] [.int .i64 0, .bool false, .string ⟨#[]⟩, .bool false, .string ⟨#[]⟩] 125 125 (by kernel_rfl) rfl rfl rfl rfl rfl rfl rfl (by kernel_rfl) rfl rfl (by simp) (by simp) (run_alloc_zero Tryz.zeroValue125 rfl) (by kernel_rfl) (run_alloc_zero Tryz.zeroValue125 rfl) (by kernel_rfl) ?_
  intro V_45 hV_45
  have vc40 := c40.up hV_45; have dc40 := fun p : Bel V_45 => vc40.bel p
  have vc41 := c41.up hV_45; have dc41 := fun p : Bel V_45 => vc41.bel p
  have vc42 := c42.up hV_45; have dc42 := fun p : Bel V_45 => vc42.bel p
  have vc43 := c43.up hV_45; have dc43 := fun p : Bel V_45 => vc43.bel p
  simp only [At, Own, Nat.reduceAdd, and_true] at dc40 dc41 dc42 dc43
  have hBV_45 := bel_up hB44 hV_45
  simp only [List.map_cons, List.map_nil, maskS, List.take_succ_cons, List.take_zero]
  repeat (go_big_quiet_step (fail))
  refine wpQuiet_nil ?_
  refine ⟨[.int .i64 r.f, .bool (ng p.q.num), .string (mg p.q.num.natAbs), .bool false, .string (mg (dn p.q))], [.int .i64 r.t, .bool (ng lq.num), .string (mg lq.num.natAbs), .bool false, .string (mg (dn lq))], rfl, rfl, by simp [Value.oneCell'], rfl, rfl, by simp [Value.oneCell'], ?_⟩
  intro bq46 bq47 wn_45 hbn_45 lbq46 mbq46 lbq47 mbq47 nbq46 c48 c49
  have nbq46' := nbq46.symm
  simp only [Act.put, List.setIfInBounds_toArray, List.set_cons_zero, List.set_cons_succ]
  have ne50 : w.heap.size ≠ bq46 := by have := c40.lt; omega
  have ne50' := ne50.symm
  have ne51 : w.heap.size + 1 ≠ bq46 := by have := c41.lt; omega
  have ne51' := ne51.symm
  have ne52 : bq13 ≠ bq46 := by have := c42.lt; omega
  have ne52' := ne52.symm
  have ne53 : bq31 ≠ bq46 := by have := c43.lt; omega
  have ne53' := ne53.symm
  have wbq46 := Nat.le_trans hB44.size lbq46
  have ne54 : w.heap.size ≠ bq47 := by have := c40.lt; omega
  have ne54' := ne54.symm
  have ne55 : w.heap.size + 1 ≠ bq47 := by have := c41.lt; omega
  have ne55' := ne55.symm
  have ne56 : bq13 ≠ bq47 := by have := c42.lt; omega
  have ne56' := ne56.symm
  have ne57 : bq31 ≠ bq47 := by have := c43.lt; omega
  have ne57' := ne57.symm
  have wbq47 := Nat.le_trans hB44.size lbq47
  clear hBV_45 dc43 vc43 dc42 vc42 dc41 vc41 dc40 vc40 hV_45 V_45
  have c58 := c40.up hbn_45
  have c59 := c41.up hbn_45
  have c60 := c42.up hbn_45
  have c61 := c43.up hbn_45
  have hB62 : Below w.heap.size w wn_45 := bel_up hB44 hbn_45
  clear c40 c41 c42 c43
  have uc58 := c58; have uc59 := c59; have uc60 := c60; have uc61 := c61; have uc48 := c48; have uc49 := c49
  simp only [At, Own, Nat.reduceAdd, and_true] at uc58 uc59 uc60 uc61 uc48 uc49
  go_upto_region 9 with fail
  refine wp_named ?_
  intro W5 hW5
  have c63 : Own W5 (w.heap.size) 0 [.slice An Nn cn, .slice (some ⟨g15, o16, none⟩) Nr cr] := by rw [hW5]; simp [Own, go_sem, uc58, uc59, uc60, uc61, uc48, uc49, ne19, ne19', ne20, ne20', ne33, ne33', ne34, ne34', ne35, ne35', nbq46, nbq46', ne50, ne50', ne51, ne51', ne52, ne52', ne53, ne53', ne54, ne54', ne55, ne55', ne56, ne56', ne57, ne57']
  have c64 : Own W5 (w.heap.size + 1) 0 [.int .i64 p.r, .bool (ng p.q.num), .string (mg p.q.num.natAbs), .bool false, .string (mg (dn p.q))] := by rw [hW5]; simp [Own, go_sem, uc58, uc59, uc60, uc61, uc48, uc49, ne19, ne19', ne20, ne20', ne33, ne33', ne34, ne34', ne35, ne35', nbq46, nbq46', ne50, ne50', ne51, ne51', ne52, ne52', ne53, ne53', ne54, ne54', ne55, ne55', ne56, ne56', ne57, ne57']
  have c65 : Own W5 (bq13) 0 [.int .i64 r.i, .int .i64 r.f, .int .i64 r.t, .int .i64 r.l, .int .i64 r.m, .bool r.o] := by rw [hW5]; simp [Own, go_sem, uc58, uc59, uc60, uc61, uc48, uc49, ne19, ne19', ne20, ne20', ne33, ne33', ne34, ne34', ne35, ne35', nbq46, nbq46', ne50, ne50', ne51, ne51', ne52, ne52', ne53, ne53', ne54, ne54', ne55, ne55', ne56, ne56', ne57, ne57']
  have c66 : Own W5 (bq31) 0 [.bool (ng lq.num), .string (mg lq.num.natAbs), .bool false, .string (mg (dn lq))] := by rw [hW5]; simp [Own, go_sem, uc58, uc59, uc60, uc61, uc48, uc49, ne19, ne19', ne20, ne20', ne33, ne33', ne34, ne34', ne35, ne35', nbq46, nbq46', ne50, ne50', ne51, ne51', ne52, ne52', ne53, ne53', ne54, ne54', ne55, ne55', ne56, ne56', ne57, ne57']
  have c67 : Own W5 (bq46) 0 [.int .i64 r.t, .bool (ng lq.num), .string (mg lq.num.natAbs), .bool false, .string (mg (dn lq))] := by rw [hW5]; simp [Own, go_sem, uc58, uc59, uc60, uc61, uc48, uc49, ne19, ne19', ne20, ne20', ne33, ne33', ne34, ne34', ne35, ne35', nbq46, nbq46', ne50, ne50', ne51, ne51', ne52, ne52', ne53, ne53', ne54, ne54', ne55, ne55', ne56, ne56', ne57, ne57']
  have c68 : Own W5 (bq47) 0 [.int .i64 r.f, .bool (ng p.q.num), .string (mg p.q.num.natAbs), .bool false, .string (mg (dn p.q))] := by rw [hW5]; simp [Own, go_sem, uc58, uc59, uc60, uc61, uc48, uc49, ne19, ne19', ne20, ne20', ne33, ne33', ne34, ne34', ne35, ne35', nbq46, nbq46', ne50, ne50', ne51, ne51', ne52, ne52', ne53, ne53', ne54, ne54', ne55, ne55', ne56, ne56', ne57, ne57']
  have hB69 : Below w.heap.size w W5 := by
    rw [hW5]
    repeat (first | with_reducible exact hB62 | with_reducible refine bel_alloc ?_ _ | refine Below.setCell ?_ (by first | (simp; done) | (simp; omega) | omega) _)
  clear hW5 uc58 uc59 uc60 uc61 uc48 uc49 c58 c59 c60 c61 c48 c49
  have uc63 := c63; have uc64 := c64; have uc65 := c65; have uc66 := c66; have uc67 := c67; have uc68 := c68
  simp only [At, Own, Nat.reduceAdd, and_true] at uc63 uc64 uc65 uc66 uc67 uc68
  go_upto_region 10 with fail
  refine wp_named ?_
  intro WE70 hWE70
  have hb_70 : Below W5.heap.size W5 WE70 := by rw [hWE70]; exact (Below.refl _ _).alloc (Nat.le_refl _) _
  have OE70 : Hid (WE70.ownsRow w.heap.size 125 5 (.slice (some ⟨W5.heap.size, 0, none⟩) 1 1) 1 (ens ([(En.mk r.f p.q)]))) := Lib.hid (by rw [hWE70]; exact em_oneo (hB69).size (En.mk r.f p.q))
  clear hWE70
  have f71 : Value.ownBlock (.slice (some ⟨W5.heap.size, 0, none⟩) 1 1) ≠ some (w.heap.size) := fun e_ => by have := mblk_block.1 e_; have := c63.lt; omega
  have f72 : Value.ownBlock (.slice (some ⟨W5.heap.size, 0, none⟩) 1 1) ≠ some (w.heap.size + 1) := fun e_ => by have := mblk_block.1 e_; have := c64.lt; omega
  have f73 : Value.ownBlock (.slice (some ⟨W5.heap.size, 0, none⟩) 1 1) ≠ some (bq13) := fun e_ => by have := mblk_block.1 e_; have := c65.lt; omega
  have f74 : Value.ownBlock (.slice (some ⟨W5.heap.size, 0, none⟩) 1 1) ≠ some (bq31) := fun e_ => by have := mblk_block.1 e_; have := c66.lt; omega
  have f75 : Value.ownBlock (.slice (some ⟨W5.heap.size, 0, none⟩) 1 1) ≠ some (bq46) := fun e_ => by have := mblk_block.1 e_; have := c67.lt; omega
  have f76 : Value.ownBlock (.slice (some ⟨W5.heap.size, 0, none⟩) 1 1) ≠ some (bq47) := fun e_ => by have := mblk_block.1 e_; have := c68.lt; omega
  have c77 := c63.up hb_70
  have c78 := c64.up hb_70
  have c79 := c65.up hb_70
  have c80 := c66.up hb_70
  have c81 := c67.up hb_70
  have c82 := c68.up hb_70
  have hB83 : Below w.heap.size w WE70 := bel_up hB69 hb_70
  clear uc63 uc64 uc65 uc66 uc67 uc68 c63 c64 c65 c66 c67 c68
  go_upto_region 10 with fail
  have uc77 := c77; have uc78 := c78; have uc79 := c79; have uc80 := c80; have uc81 := c81; have uc82 := c82
  simp only [At, Own, Nat.reduceAdd, and_true] at uc77 uc78 uc79 uc80 uc81 uc82
  have ho := HOW.out
  go_upto_region 11 with fail
  clear ho
  go_wp2_with (at_builtin; refine wpList_appF rfl _ _ _ rfl ti_em OE70.out (hB83).size rfl rfl rfl rfl (etc_one (En.mk r.t lq)) (by omega) (by decide) ?_)
  intro v84 w_v84 hown_v84 hst_v84
  have O86 : Hid (w_v84.ownsRow w.heap.size 125 5 v84 (1 + 1) (ens ([(En.mk r.f p.q)] ++ [(En.mk r.t lq)]))) := Lib.hid (by rw [ens_snoc]; exact hown_v84)
  have c87 := Own.step hst_v84 f71 c77
  have f88 := hst_v84.far _ c77.lt f71
  have c89 := Own.step hst_v84 f72 c78
  have f90 := hst_v84.far _ c78.lt f72
  have c91 := Own.step hst_v84 f73 c79
  have f92 := hst_v84.far _ c79.lt f73
  have c93 := Own.step hst_v84 f74 c80
  have f94 := hst_v84.far _ c80.lt f74
  have c95 := Own.step hst_v84 f75 c81
  have f96 := hst_v84.far _ c81.lt f75
  have c97 := Own.step hst_v84 f76 c82
  have f98 := hst_v84.far _ c82.lt f76
  have hB99 : Below w.heap.size w w_v84 := hst_v84.below hB83 (hB83).size (fun r hr => (OE70.out.lt r hr).1)
  clear uc77 uc78 uc79 uc80 uc81 uc82 hown_v84 c77 c78 c79 c80 c81 c82
  go_upto_region 12 with fail
  obtain ⟨g2, c2, hv2, -, hg2b, hg2, hc2, hm2, hO2⟩ := em_cells (x := (En.mk r.f p.q)) (y := (En.mk r.t lq)) O86.out
  subst hv2
  simp only [etc, List.cons_append, List.nil_append] at hO2
  by_cases hc : r.t < r.f
  · skip
    have hc_ : ¬ ((r.f : Int) ≤ r.t) := by omega
    have hcd : decide ((r.t : Int) < r.f) = true := by simpa using hc
    have HSS100 : ∀ w' : World, Below w_v84.heap.size w_v84 w' → (w'.cell? ⟨g2, 0, none⟩ = some (.int .i64 r.f) ∧ w'.cell? ⟨g2, 5, none⟩ = some (.int .i64 r.t)) := fun w' hb => by
      have q := hO2.up hb
      simp only [Own, Nat.reduceAdd, and_true] at q
      simp [*]
    go_cut [69] (fun x69 wx => x69 = .bool true ∧ Below w_v84.heap.size w_v84 wx)
    case first =>
      have hu := HSS100 w_v84 (Below.refl _ _)
      go_region_held3 (fun w' => w'.cell? ⟨g2, 0, none⟩ = some (.int .i64 r.f) ∧ w'.cell? ⟨g2, 5, none⟩ = some (.int .i64 r.t)) (refine HSS100 _ ?_ <;> (repeat (first | with_reducible exact Below.refl _ _ | with_reducible refine Below.drew ?_))) (fail)
      all_goals
        go_wp2_with fail
        go_meet
        exact ⟨rfl, by (repeat (first | with_reducible exact Below.refl _ _ | with_reducible refine Below.drew ?_))⟩
    case rest =>
      obtain ⟨rfl, hbz101⟩ := hcut
      obtain ⟨wz101, hwz101⟩ : ∃ W_, W_ = wc := ⟨_, rfl⟩
      subst hwz101
      clear HSS100
      have hO102 := hO2.up hbz101
      have c103 := c87.up hbz101
      have c104 := c89.up hbz101
      have c105 := c91.up hbz101
      have c106 := c93.up hbz101
      have c107 := c95.up hbz101
      have c108 := c97.up hbz101
      have hB109 : Below w.heap.size w wz101 := bel_up hB99 hbz101
      clear c87 c89 c91 c93 c95 c97
      clear hcd
      go_upto_region 13 with fail
      have uO9 := hO102
      simp only [Own, Nat.reduceAdd, and_true] at uO9
      go_cut [] (fun wx => Own wx g2 0 [.int .i64 r.t, .bool (ng lq.num), .string (mg lq.num.natAbs), .bool false, .string (mg (dn lq)), .int .i64 r.f, .bool (ng p.q.num), .string (mg p.q.num.natAbs), .bool false, .string (mg (dn p.q))] ∧ Below w.heap.size w wx)
      case first =>
        go_region
        all_goals
          go_wp2_with fail
          go_meet
          refine ⟨?_, ?_⟩
          · simp [Own, go_sem, uO9]
          · (repeat (first | with_reducible exact hB109 | with_reducible refine Below.drew ?_ | refine Below.setCell ?_ (by first | assumption | (simp; omega) | omega) _))
      case rest =>
        obtain ⟨hO, hbS⟩ := hcut
        obtain ⟨WS, hWS⟩ : ∃ W_, W_ = wc := ⟨_, rfl⟩
        subst hWS
        clear uO9 hO102 hB109 c103 c104 c105 c106 c107 c108
        go_wp2
        go_ret
        exact ⟨_, rfl, (by (rw [HPE.out, if_pos (show r.t < r.f from by omega)]); exact el_cells (x := (En.mk r.t lq)) (y := (En.mk r.f p.q)) hO hc2 hm2), (by repeat (first | with_reducible exact hbS | with_reducible refine bel_alloc ?_ _ | refine Below.setCell ?_ (by first | (simp; done) | (simp; omega) | omega) _))⟩
  · skip
    have hc_ :  ((r.f : Int) ≤ r.t) := by omega
    have hcd : decide ((r.t : Int) < r.f) = false := by simpa using hc
    have HSS110 : ∀ w' : World, Below w_v84.heap.size w_v84 w' → (w'.cell? ⟨g2, 0, none⟩ = some (.int .i64 r.f) ∧ w'.cell? ⟨g2, 5, none⟩ = some (.int .i64 r.t)) := fun w' hb => by
      have q := hO2.up hb
      simp only [Own, Nat.reduceAdd, and_true] at q
      simp [*]
    go_cut [69] (fun x69 wx => x69 = .bool false ∧ Below w_v84.heap.size w_v84 wx)
    case first =>
      have hu := HSS110 w_v84 (Below.refl _ _)
      go_region_held3 (fun w' => w'.cell? ⟨g2, 0, none⟩ = some (.int .i64 r.f) ∧ w'.cell? ⟨g2, 5, none⟩ = some (.int .i64 r.t)) (refine HSS110 _ ?_ <;> (repeat (first | with_reducible exact Below.refl _ _ | with_reducible refine Below.drew ?_))) (fail)
      all_goals
        go_wp2_with fail
        go_meet
        exact ⟨rfl, by (repeat (first | with_reducible exact Below.refl _ _ | with_reducible refine Below.drew ?_))⟩
    case rest =>
      obtain ⟨rfl, hbz111⟩ := hcut
      obtain ⟨wz111, hwz111⟩ : ∃ W_, W_ = wc := ⟨_, rfl⟩
      subst hwz111
      clear HSS110
      have hO112 := hO2.up hbz111
      have c113 := c87.up hbz111
      have c114 := c89.up hbz111
      have c115 := c91.up hbz111
      have c116 := c93.up hbz111
      have c117 := c95.up hbz111
      have c118 := c97.up hbz111
      have hB119 : Below w.heap.size w wz111 := bel_up hB99 hbz111
      clear c87 c89 c91 c93 c95 c97
      have uc113 := c113; have uc114 := c114; have uc115 := c115; have uc116 := c116; have uc117 := c117; have uc118 := c118
      simp only [At, Own, Nat.reduceAdd, and_true] at uc113 uc114 uc115 uc116 uc117 uc118
      go_wp2
      go_ret
      exact ⟨_, rfl, (by (rw [HPE.out, if_neg (show ¬ r.t < r.f from by omega)]); exact el_cells hO112 hc2 hm2), (by repeat (first | with_reducible exact hB119 | with_reducible refine bel_alloc ?_ _ | refine Below.setCell ?_ (by first | (simp; done) | (simp; omega) | omega) _))⟩

set_option maxRecDepth 100000 in
set_option maxHeartbeats 2000000 in
theorem lends_b_o (N : Net) (r : Rd) (p : Pc) (v : Value) (w : World) (h : NV w v N) (g : Vld N) (hr : frd N.rs p.r = some r) (hq : Pl.Sz 2000 p.q) (hk : latE r p.q = 0) (ho : r.o = true) :
    Calls Tryz.prog 39 #[v, .agg #[.int .i64 p.r, .bool (ng p.q.num), .string (mg p.q.num.natAbs), .bool false, .string (mg (dn p.q))], .bool true] w fun e w' => ∃ v', e = .returned v' ∧ EL w' v' (pairE (!r.o) ⟨r.t, (r.l : Rat) - p.q⟩ ⟨r.f, p.q⟩) ∧ Below w.heap.size w w' := by
  obtain ⟨j, hj, hj2⟩ := frd_idx hr
  have hrok := g.or r (frd_of hr).1
  have hl1 := hrok.2.2.1
  have hl2 := hrok.2.2.2.1
  have HR := Lib.hid hr
  have HROK := Lib.hid hrok
  obtain ⟨ql, hql⟩ : ∃ q : Rat, q = (r.l : Rat) := ⟨_, rfl⟩
  have ZQL : Pl.Sz 4 ql := by rw [hql]; exact sz_small (by omega) (by omega)
  have HQL := Lib.hid hql
  clear hr hql hrok
  have HJ := Lib.hid hj
  have HJ2 := Lib.hid hj2
  obtain ⟨k, hk0⟩ : ∃ k : Int, k = 0 := ⟨_, rfl⟩
  obtain ⟨lq, hlq⟩ : ∃ q : Rat, ql - p.q = q := ⟨_, rfl⟩
  have ZLQ : Pl.Sz 2005 lq := by rw [← hlq]; exact ZQL.sub hq
  have hjl : j < N.rs.length := (List.getElem?_eq_some_iff.1 hj2).1
  have HPE : Hid (pairE (!r.o) ⟨r.t, (r.l : Rat) - p.q⟩ ⟨r.f, p.q⟩ = [(En.mk r.f p.q)]) := Lib.hid (by rw [ho, ← HQL.out, hlq]; rfl)
  have HLQ := Lib.hid hlq
  have HK : Hid (latE r p.q = k) := Lib.hid (by rw [hk, hk0])
  have HOW := Lib.hid ho
  have hk1_ : (k : Int) ≤ 0 := by omega
  clear hj hj2 hlq hk hk0 ho
  obtain ⟨_, _, rfl, hn, hr⟩ := h
  obtain ⟨An, cn, rfl, hcn, hmn, hxn⟩ := hn.open_
  obtain ⟨Ar, cr, rfl, hcr, hmr, hxr⟩ := hr.open_
  have HNV : Hid (NV w (.agg #[.slice An N.ns.length cn, .slice Ar N.rs.length cr]) N) := Lib.hid ⟨_, _, rfl, hn, hr⟩
  have HXN := Lib.hid hxn
  have HXR := Lib.hid hxr
  have HG := Lib.hid g
  have hln := g.ln
  have hlr := g.lr
  generalize hNn : N.ns.length = Nn at *
  generalize hNr : N.rs.length = Nr at *
  have HNn := Lib.hid hNn
  have HNr := Lib.hid hNr
  clear hn hr hxn hxr g hNn hNr
  have i1j : (j : Int) < Nr := by omega
  have i0j : (0 : Int) ≤ j := Int.natCast_nonneg _
  go_enter Tryz.func39, Tryz.ntmps39
  have K1 := Lib.hid (fun W (hv : NV W (.agg #[.slice An Nn cn, .slice Ar Nr cr]) N) => lnodeat_any N r p k _ W hv HG.out HR.out hq HK.out)
  go_wp2_with (fail)
  refine calls_named ?_
  intro W1 hW1
  have hL1 : Below w.heap.size w W1 := by
    rw [hW1]
    repeat (first | with_reducible exact Below.refl _ _ | with_reducible refine bel_alloc ?_ _ | refine Below.setCell ?_ (by first | (simp; done) | (simp; omega) | omega) _)
  have c2 : Own W1 (w.heap.size) 0 [.slice An Nn cn, .slice Ar Nr cr] := by
    rw [hW1]
    first
    | (repeat (first | (with_reducible refine own_new (l := [.slice An Nn cn, .slice Ar Nr cr]) ?_; (simp; done)) | with_reducible refine Own.alloc ?_ _ | refine Own.far _ _ (by first | (simp; done) | (simp [*]; done) | (simp; omega)) ?_)); done
    | simp [Own, go_sem]
  have c3 : Own W1 (w.heap.size + 1) 0 [.int .i64 p.r, .bool (ng p.q.num), .string (mg p.q.num.natAbs), .bool false, .string (mg (dn p.q))] := by
    rw [hW1]
    first
    | (repeat (first | (with_reducible refine own_new (l := [.int .i64 p.r, .bool (ng p.q.num), .string (mg p.q.num.natAbs), .bool false, .string (mg (dn p.q))]) ?_; (simp; done)) | with_reducible refine Own.alloc ?_ _ | refine Own.far _ _ (by first | (simp; done) | (simp [*]; done) | (simp; omega)) ?_)); done
    | simp [Own, go_sem]
  have hB4 : Below w.heap.size w W1 := by
    rw [hW1]
    repeat (first | with_reducible exact Below.refl _ _ | with_reducible refine bel_alloc ?_ _ | refine Below.setCell ?_ (by first | (simp; done) | (simp; omega) | omega) _)
  clear hW1 hL1
  with_reducible refine (K1.out _ (HNV.out.up hB4)).mono ?_
  rintro e w1 ⟨rfl, hb1⟩
  have c5 := c2.up hb1
  have c6 := c3.up hb1
  have hB7 : Below w.heap.size w w1 := bel_up hB4 hb1
  clear c2 c3
  go_upto_region 4 with fail
  refine wp_named ?_
  intro W2 hW2
  have hL2 : Below w1.heap.size w1 W2 := by
    rw [hW2]
    repeat (first | with_reducible exact Below.refl _ _ | with_reducible refine bel_alloc ?_ _ | refine Below.setCell ?_ (by first | (simp; done) | (simp; omega) | omega) _)
  have c8 := c5.up hL2
  have c9 := c6.up hL2
  have hB10 : Below w.heap.size w W2 := by
    rw [hW2]
    repeat (first | with_reducible exact hB7 | with_reducible refine bel_alloc ?_ _ | refine Below.setCell ?_ (by first | (simp; done) | (simp; omega) | omega) _)
  clear hW2 hL2 c5 c6
  have K12 := Lib.hid (fun W (hv : NV W (.agg #[.slice An Nn cn, .slice Ar Nr cr]) N) => lroad_j N p.r j _ W hv ⟨by rw [HNn.out]; exact hln, by rw [HNr.out]; exact hlr⟩ HJ.out)
  obtain ⟨g15, o16, ha17, -⟩ := (HXR.out).up kpR hB10 _ _ HJ2.out
  subst ha17
  have ce14 := LX.at_ ((HXR.out).up kpR hB10) HJ2.out
  have ce14_ : g15 < W2.heap.size := World.block_lt_of_cell? _ _ ce14.1
  refine wp_region_new1 9 8 8 [.int .i64 0, .int .i64 0, .int .i64 0, .int .i64 0, .int .i64 0, .bool false] 67 (by kernel_rfl) (by kernel_rfl) rfl rfl rfl rfl (by intro h_; cases h_) (by simp) (run_alloc_zero Tryz.zeroValue67 rfl) (by kernel_rfl) ?_
  intro V_11 hV_11
  have vc8 := c8.up hV_11; have dc8 := fun p : Bel V_11 => vc8.bel p
  have vc9 := c9.up hV_11; have dc9 := fun p : Bel V_11 => vc9.bel p
  simp only [At, Own, Nat.reduceAdd, and_true] at dc8 dc9
  have vce14 := ce14.up hV_11; have dce14 := fun b : Bel V_11 => vce14.bel b
  simp only [CR, rdc, At, Nat.reduceMul] at dce14
  have hBV_11 := bel_up hB10 hV_11
  simp only [List.map_cons, List.map_nil, maskOp, List.take_succ_cons, List.take_zero]
  repeat (go_big_quiet_step (first | (go_at_call 31; with_reducible exact Calls.bel (K12.out _ (HNV.out.up (bel_up hBV_11 (Bel.h _)))))))
  refine wpQuiet_nil ?_
  refine ⟨[.int .i64 r.i, .int .i64 r.f, .int .i64 r.t, .int .i64 r.l, .int .i64 r.m, .bool r.o], rfl, rfl, by simp [Value.oneCell'], ?_⟩
  intro bq13 wn_11 hbn_11 lbq13 mbq13 c18
  simp only [Act.put, List.setIfInBounds_toArray, List.set_cons_zero, List.set_cons_succ]
  have ne19 : w.heap.size ≠ bq13 := by have := c8.lt; omega
  have ne19' := ne19.symm
  have ne20 : w.heap.size + 1 ≠ bq13 := by have := c9.lt; omega
  have ne20' := ne20.symm
  have wbq13 := Nat.le_trans hB10.size lbq13
  clear hBV_11 dce14 vce14 dc9 vc9 dc8 vc8 hV_11 V_11
  have c21 := c8.up hbn_11
  have c22 := c9.up hbn_11
  have hB23 : Below w.heap.size w wn_11 := bel_up hB10 hbn_11
  clear c8 c9
  go_upto_region 5 with fail
  refine wp_named ?_
  intro W3 hW3
  have hL3 : Below wn_11.heap.size wn_11 W3 := by
    rw [hW3]
    repeat (first | with_reducible exact Below.refl _ _ | with_reducible refine bel_alloc ?_ _ | refine Below.setCell ?_ (by first | (simp; done) | (simp; omega) | omega) _)
  have c24 := c21.up hL3
  have c25 := c22.up hL3
  have c26 := c18.up hL3
  have hB27 : Below w.heap.size w W3 := by
    rw [hW3]
    repeat (first | with_reducible exact hB23 | with_reducible refine bel_alloc ?_ _ | refine Below.setCell ?_ (by first | (simp; done) | (simp; omega) | omega) _)
  clear hW3 hL3 c21 c22 c18
  have K29 := Lib.hid (fun W => qfi_any r.l ql W HQL.out (by omega) (by omega))
  have K30 := Lib.hid (fun W => HLQ.out ▸ qsub_any ql p.q W (ZQL.mono (by decide)) (hq.mono (by decide)))
  refine wp_region_new1 7 6 9 [.bool false, .string ⟨#[]⟩, .bool false, .string ⟨#[]⟩] 40 (by kernel_rfl) (by kernel_rfl) rfl rfl rfl rfl (by intro h_; cases h_) (by simp) (run_alloc_zero Tryz.zeroValue40 rfl) (by kernel_rfl) ?_
  intro V_28 hV_28
  have vc24 := c24.up hV_28; have dc24 := fun p : Bel V_28 => vc24.bel p
  have vc25 := c25.up hV_28; have dc25 := fun p : Bel V_28 => vc25.bel p
  have vc26 := c26.up hV_28; have dc26 := fun p : Bel V_28 => vc26.bel p
  simp only [At, Own, Nat.reduceAdd, and_true] at dc24 dc25 dc26
  have hBV_28 := bel_up hB27 hV_28
  simp only [List.map_cons, List.map_nil, maskOp, List.take_succ_cons, List.take_zero]
  repeat (go_big_quiet_step (first | (go_at_call 37; with_reducible exact Calls.bel (K29.out _)) | (go_at_call 75; with_reducible exact Calls.bel (K30.out _))))
  refine wpQuiet_nil ?_
  refine ⟨[.bool (ng lq.num), .string (mg lq.num.natAbs), .bool false, .string (mg (dn lq))], rfl, rfl, by simp [Value.oneCell'], ?_⟩
  intro bq31 wn_28 hbn_28 lbq31 mbq31 c32
  simp only [Act.put, List.setIfInBounds_toArray, List.set_cons_zero, List.set_cons_succ]
  have ne33 : w.heap.size ≠ bq31 := by have := c24.lt; omega
  have ne33' := ne33.symm
  have ne34 : w.heap.size + 1 ≠ bq31 := by have := c25.lt; omega
  have ne34' := ne34.symm
  have ne35 : bq13 ≠ bq31 := by have := c26.lt; omega
  have ne35' := ne35.symm
  have wbq31 := Nat.le_trans hB27.size lbq31
  clear hBV_28 dc26 vc26 dc25 vc25 dc24 vc24 hV_28 V_28
  have c36 := c24.up hbn_28
  have c37 := c25.up hbn_28
  have c38 := c26.up hbn_28
  have hB39 : Below w.heap.size w wn_28 := bel_up hB27 hbn_28
  clear c24 c25 c26
  go_upto_region 6 with fail
  refine wp_named ?_
  intro W4 hW4
  have hL4 : Below wn_28.heap.size wn_28 W4 := by
    rw [hW4]
    repeat (first | with_reducible exact Below.refl _ _ | with_reducible refine bel_alloc ?_ _ | refine Below.setCell ?_ (by first | (simp; done) | (simp; omega) | omega) _)
  have c40 := c36.up hL4
  have c41 := c37.up hL4
  have c42 := c38.up hL4
  have c43 := c32.up hL4
  have hB44 : Below w.heap.size w W4 := by
    rw [hW4]
    repeat (first | with_reducible exact hB39 | with_reducible refine bel_alloc ?_ _ | refine Below.setCell ?_ (by first | (simp; done) | (simp; omega) | omega) _)
  clear hW4 hL4 c36 c37 c38 c32
  refine wp_region_new2s 11 9 10 10 11 [.int .i64 0, .bool false, .string ⟨#[]⟩, .bool false, .string ⟨#[]⟩] [.int .i64 0, .bool false, .string ⟨#[]⟩, .bool false, .string ⟨#[]⟩] 125 125 (by kernel_rfl) rfl rfl rfl rfl rfl rfl rfl (by kernel_rfl) rfl rfl (by simp) (by simp) (run_alloc_zero Tryz.zeroValue125 rfl) (by kernel_rfl) (run_alloc_zero Tryz.zeroValue125 rfl) (by kernel_rfl) ?_
  intro V_45 hV_45
  have vc40 := c40.up hV_45; have dc40 := fun p : Bel V_45 => vc40.bel p
  have vc41 := c41.up hV_45; have dc41 := fun p : Bel V_45 => vc41.bel p
  have vc42 := c42.up hV_45; have dc42 := fun p : Bel V_45 => vc42.bel p
  have vc43 := c43.up hV_45; have dc43 := fun p : Bel V_45 => vc43.bel p
  simp only [At, Own, Nat.reduceAdd, and_true] at dc40 dc41 dc42 dc43
  have hBV_45 := bel_up hB44 hV_45
  simp only [List.map_cons, List.map_nil, maskS, List.take_succ_cons, List.take_zero]
  repeat (go_big_quiet_step (fail))
  refine wpQuiet_nil ?_
  refine ⟨[.int .i64 r.f, .bool (ng p.q.num), .string (mg p.q.num.natAbs), .bool false, .string (mg (dn p.q))], [.int .i64 r.t, .bool (ng lq.num), .string (mg lq.num.natAbs), .bool false, .string (mg (dn lq))], rfl, rfl, by simp [Value.oneCell'], rfl, rfl, by simp [Value.oneCell'], ?_⟩
  intro bq46 bq47 wn_45 hbn_45 lbq46 mbq46 lbq47 mbq47 nbq46 c48 c49
  have nbq46' := nbq46.symm
  simp only [Act.put, List.setIfInBounds_toArray, List.set_cons_zero, List.set_cons_succ]
  have ne50 : w.heap.size ≠ bq46 := by have := c40.lt; omega
  have ne50' := ne50.symm
  have ne51 : w.heap.size + 1 ≠ bq46 := by have := c41.lt; omega
  have ne51' := ne51.symm
  have ne52 : bq13 ≠ bq46 := by have := c42.lt; omega
  have ne52' := ne52.symm
  have ne53 : bq31 ≠ bq46 := by have := c43.lt; omega
  have ne53' := ne53.symm
  have wbq46 := Nat.le_trans hB44.size lbq46
  have ne54 : w.heap.size ≠ bq47 := by have := c40.lt; omega
  have ne54' := ne54.symm
  have ne55 : w.heap.size + 1 ≠ bq47 := by have := c41.lt; omega
  have ne55' := ne55.symm
  have ne56 : bq13 ≠ bq47 := by have := c42.lt; omega
  have ne56' := ne56.symm
  have ne57 : bq31 ≠ bq47 := by have := c43.lt; omega
  have ne57' := ne57.symm
  have wbq47 := Nat.le_trans hB44.size lbq47
  clear hBV_45 dc43 vc43 dc42 vc42 dc41 vc41 dc40 vc40 hV_45 V_45
  have c58 := c40.up hbn_45
  have c59 := c41.up hbn_45
  have c60 := c42.up hbn_45
  have c61 := c43.up hbn_45
  have hB62 : Below w.heap.size w wn_45 := bel_up hB44 hbn_45
  clear c40 c41 c42 c43
  have uc58 := c58; have uc59 := c59; have uc60 := c60; have uc61 := c61; have uc48 := c48; have uc49 := c49
  simp only [At, Own, Nat.reduceAdd, and_true] at uc58 uc59 uc60 uc61 uc48 uc49
  go_upto_region 9 with fail
  refine wp_named ?_
  intro W5 hW5
  have c63 : Own W5 (w.heap.size) 0 [.slice An Nn cn, .slice (some ⟨g15, o16, none⟩) Nr cr] := by rw [hW5]; simp [Own, go_sem, uc58, uc59, uc60, uc61, uc48, uc49, ne19, ne19', ne20, ne20', ne33, ne33', ne34, ne34', ne35, ne35', nbq46, nbq46', ne50, ne50', ne51, ne51', ne52, ne52', ne53, ne53', ne54, ne54', ne55, ne55', ne56, ne56', ne57, ne57']
  have c64 : Own W5 (w.heap.size + 1) 0 [.int .i64 p.r, .bool (ng p.q.num), .string (mg p.q.num.natAbs), .bool false, .string (mg (dn p.q))] := by rw [hW5]; simp [Own, go_sem, uc58, uc59, uc60, uc61, uc48, uc49, ne19, ne19', ne20, ne20', ne33, ne33', ne34, ne34', ne35, ne35', nbq46, nbq46', ne50, ne50', ne51, ne51', ne52, ne52', ne53, ne53', ne54, ne54', ne55, ne55', ne56, ne56', ne57, ne57']
  have c65 : Own W5 (bq13) 0 [.int .i64 r.i, .int .i64 r.f, .int .i64 r.t, .int .i64 r.l, .int .i64 r.m, .bool r.o] := by rw [hW5]; simp [Own, go_sem, uc58, uc59, uc60, uc61, uc48, uc49, ne19, ne19', ne20, ne20', ne33, ne33', ne34, ne34', ne35, ne35', nbq46, nbq46', ne50, ne50', ne51, ne51', ne52, ne52', ne53, ne53', ne54, ne54', ne55, ne55', ne56, ne56', ne57, ne57']
  have c66 : Own W5 (bq31) 0 [.bool (ng lq.num), .string (mg lq.num.natAbs), .bool false, .string (mg (dn lq))] := by rw [hW5]; simp [Own, go_sem, uc58, uc59, uc60, uc61, uc48, uc49, ne19, ne19', ne20, ne20', ne33, ne33', ne34, ne34', ne35, ne35', nbq46, nbq46', ne50, ne50', ne51, ne51', ne52, ne52', ne53, ne53', ne54, ne54', ne55, ne55', ne56, ne56', ne57, ne57']
  have c67 : Own W5 (bq46) 0 [.int .i64 r.t, .bool (ng lq.num), .string (mg lq.num.natAbs), .bool false, .string (mg (dn lq))] := by rw [hW5]; simp [Own, go_sem, uc58, uc59, uc60, uc61, uc48, uc49, ne19, ne19', ne20, ne20', ne33, ne33', ne34, ne34', ne35, ne35', nbq46, nbq46', ne50, ne50', ne51, ne51', ne52, ne52', ne53, ne53', ne54, ne54', ne55, ne55', ne56, ne56', ne57, ne57']
  have c68 : Own W5 (bq47) 0 [.int .i64 r.f, .bool (ng p.q.num), .string (mg p.q.num.natAbs), .bool false, .string (mg (dn p.q))] := by rw [hW5]; simp [Own, go_sem, uc58, uc59, uc60, uc61, uc48, uc49, ne19, ne19', ne20, ne20', ne33, ne33', ne34, ne34', ne35, ne35', nbq46, nbq46', ne50, ne50', ne51, ne51', ne52, ne52', ne53, ne53', ne54, ne54', ne55, ne55', ne56, ne56', ne57, ne57']
  have hB69 : Below w.heap.size w W5 := by
    rw [hW5]
    repeat (first | with_reducible exact hB62 | with_reducible refine bel_alloc ?_ _ | refine Below.setCell ?_ (by first | (simp; done) | (simp; omega) | omega) _)
  clear hW5 uc58 uc59 uc60 uc61 uc48 uc49 c58 c59 c60 c61 c48 c49
  have uc63 := c63; have uc64 := c64; have uc65 := c65; have uc66 := c66; have uc67 := c67; have uc68 := c68
  simp only [At, Own, Nat.reduceAdd, and_true] at uc63 uc64 uc65 uc66 uc67 uc68
  go_upto_region 10 with fail
  refine wp_named ?_
  intro WE70 hWE70
  have hb_70 : Below W5.heap.size W5 WE70 := by rw [hWE70]; exact (Below.refl _ _).alloc (Nat.le_refl _) _
  have OE70 : Hid (WE70.ownsRow w.heap.size 125 5 (.slice (some ⟨W5.heap.size, 0, none⟩) 1 1) 1 (ens ([(En.mk r.f p.q)]))) := Lib.hid (by rw [hWE70]; exact em_oneo (hB69).size (En.mk r.f p.q))
  clear hWE70
  have f71 : Value.ownBlock (.slice (some ⟨W5.heap.size, 0, none⟩) 1 1) ≠ some (w.heap.size) := fun e_ => by have := mblk_block.1 e_; have := c63.lt; omega
  have f72 : Value.ownBlock (.slice (some ⟨W5.heap.size, 0, none⟩) 1 1) ≠ some (w.heap.size + 1) := fun e_ => by have := mblk_block.1 e_; have := c64.lt; omega
  have f73 : Value.ownBlock (.slice (some ⟨W5.heap.size, 0, none⟩) 1 1) ≠ some (bq13) := fun e_ => by have := mblk_block.1 e_; have := c65.lt; omega
  have f74 : Value.ownBlock (.slice (some ⟨W5.heap.size, 0, none⟩) 1 1) ≠ some (bq31) := fun e_ => by have := mblk_block.1 e_; have := c66.lt; omega
  have f75 : Value.ownBlock (.slice (some ⟨W5.heap.size, 0, none⟩) 1 1) ≠ some (bq46) := fun e_ => by have := mblk_block.1 e_; have := c67.lt; omega
  have f76 : Value.ownBlock (.slice (some ⟨W5.heap.size, 0, none⟩) 1 1) ≠ some (bq47) := fun e_ => by have := mblk_block.1 e_; have := c68.lt; omega
  have c77 := c63.up hb_70
  have c78 := c64.up hb_70
  have c79 := c65.up hb_70
  have c80 := c66.up hb_70
  have c81 := c67.up hb_70
  have c82 := c68.up hb_70
  have hB83 : Below w.heap.size w WE70 := bel_up hB69 hb_70
  clear uc63 uc64 uc65 uc66 uc67 uc68 c63 c64 c65 c66 c67 c68
  go_upto_region 10 with fail
  have uc77 := c77; have uc78 := c78; have uc79 := c79; have uc80 := c80; have uc81 := c81; have uc82 := c82
  simp only [At, Own, Nat.reduceAdd, and_true] at uc77 uc78 uc79 uc80 uc81 uc82
  have ho := HOW.out
  go_upto_region 12 with fail
  clear ho
  go_wp2_with fail
  refine wp_named ?_
  intro W6 hW6
  have hL6 : Below WE70.heap.size WE70 W6 := by
    rw [hW6]
    repeat (first | with_reducible exact Below.refl _ _ | with_reducible refine bel_alloc ?_ _ | refine Below.setCell ?_ (by first | (simp; done) | (simp; omega) | omega) _)
  have c84 := c77.up hL6
  have c85 := c78.up hL6
  have c86 := c79.up hL6
  have c87 := c80.up hL6
  have c88 := c81.up hL6
  have c89 := c82.up hL6
  have O90 := Lib.hid (owns_up OE70.out hL6)
  have hB91 : Below w.heap.size w W6 := by
    rw [hW6]
    repeat (first | with_reducible exact hB83 | with_reducible refine bel_alloc ?_ _ | refine Below.setCell ?_ (by first | (simp; done) | (simp; omega) | omega) _)
  clear hW6 hL6 uc77 uc78 uc79 uc80 uc81 uc82 c77 c78 c79 c80 c81 c82
  have dc84 := fun p : Bel W6 => c84.bel p; have dc85 := fun p : Bel W6 => c85.bel p; have dc86 := fun p : Bel W6 => c86.bel p; have dc87 := fun p : Bel W6 => c87.bel p; have dc88 := fun p : Bel W6 => c88.bel p; have dc89 := fun p : Bel W6 => c89.bel p
  simp only [At, Own, Nat.reduceAdd, and_true] at dc84 dc85 dc86 dc87 dc88 dc89
  refine wp_region_all (by kernel_rfl) (by kernel_rfl) ?_
  repeat (go_big_quiet_step (fail))
  refine wpQuiet_nil ?_
  intro w6 hb6
  have c92 := c84.up hb6
  have c93 := c85.up hb6
  have c94 := c86.up hb6
  have c95 := c87.up hb6
  have c96 := c88.up hb6
  have c97 := c89.up hb6
  have O98 := Lib.hid (owns_up O90.out hb6)
  have hB99 : Below w.heap.size w w6 := bel_up hB91 hb6
  clear dc84 dc85 dc86 dc87 dc88 dc89 c84 c85 c86 c87 c88 c89 O90
  have uc92 := c92; have uc93 := c93; have uc94 := c94; have uc95 := c95; have uc96 := c96; have uc97 := c97
  simp only [At, Own, Nat.reduceAdd, and_true] at uc92 uc93 uc94 uc95 uc96 uc97
  go_wp2
  go_ret
  exact ⟨_, rfl, (by (try rw [HPE.out]); exact em_own O98.out), (by repeat (first | with_reducible exact hB99 | with_reducible refine bel_alloc ?_ _ | refine Below.setCell ?_ (by first | (simp; done) | (simp; omega) | omega) _))⟩

theorem lends_ex (N : Net) (r : Rd) (p : Pc) (v : Value) (w : World) (h : NV w v N) (g : Vld N) (hat : Nw.At N r p) (hq : Pl.Sz 2000 p.q) :
    Calls Tryz.prog 39 #[v, .agg #[.int .i64 p.r, .bool (ng p.q.num), .string (mg p.q.num.natAbs), .bool false, .string (mg (dn p.q))], .bool false] w fun e w' => ∃ v', e = .returned v' ∧ EL w' v' (exitsE r p.q) ∧ Below w.heap.size w w' := by
  rcases lat_pos g hat with ⟨h1, h2⟩ | ⟨n, h1, h2, h3⟩
  · rw [show exitsE r p.q = pairE (!r.o) ⟨r.f, p.q⟩ ⟨r.t, (r.l : Rat) - p.q⟩ from by unfold exitsE; rw [h1]]
    cases ho : r.o
    · have := lends_f_t N r p v w h g hat.f hq h2 ho
      rwa [ho] at this
    · have := lends_f_o N r p v w h g hat.f hq h2 ho
      rwa [ho] at this
  · rw [show exitsE r p.q = [⟨n, 0⟩] from by unfold exitsE; rw [h1]]
    exact lends_on N r p n false v w h g hat.f hq h2 h3

theorem lends_en (N : Net) (r : Rd) (p : Pc) (v : Value) (w : World) (h : NV w v N) (g : Vld N) (hat : Nw.At N r p) (hq : Pl.Sz 2000 p.q) :
    Calls Tryz.prog 39 #[v, .agg #[.int .i64 p.r, .bool (ng p.q.num), .string (mg p.q.num.natAbs), .bool false, .string (mg (dn p.q))], .bool true] w fun e w' => ∃ v', e = .returned v' ∧ EL w' v' (entriesE r p.q) ∧ Below w.heap.size w w' := by
  rcases lat_pos g hat with ⟨h1, h2⟩ | ⟨n, h1, h2, h3⟩
  · rw [show entriesE r p.q = pairE (!r.o) ⟨r.t, (r.l : Rat) - p.q⟩ ⟨r.f, p.q⟩ from by unfold entriesE; rw [h1]]
    cases ho : r.o
    · have := lends_b_t N r p v w h g hat.f hq h2 ho
      rwa [ho] at this
    · have := lends_b_o N r p v w h g hat.f hq h2 ho
      rwa [ho] at this
  · rw [show entriesE r p.q = [⟨n, 0⟩] from by unfold entriesE; rw [h1]]
    exact lends_on N r p n true v w h g hat.f hq h2 h3

theorem pairE_le (b : Bool) (x y : En) : (pairE b x y).length ≤ 1024 := by
  unfold pairE; split
  · split <;> simp
  · simp
theorem exits_le (r : Rd) (q : Rat) : (exitsE r q).length ≤ 1024 := by
  unfold exitsE; split
  · simp
  · exact pairE_le _ _ _
theorem entries_le (r : Rd) (q : Rat) : (entriesE r q).length ≤ 1024 := by
  unfold entriesE; split
  · simp
  · exact pairE_le _ _ _
end Go.Proofs.YtldfencaoaikgaaGreatDoor
