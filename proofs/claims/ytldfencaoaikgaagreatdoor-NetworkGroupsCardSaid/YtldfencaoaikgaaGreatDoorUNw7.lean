/-
  Contracts of package network: normal form, point.
-/
import Derived.Test.YtldfencaoaikgaaGreatDoorUNc
import Derived.Test.YtldfencaoaikgaaGreatDoorUMp
set_option linter.unusedSimpArgs false
set_option linter.unusedVariables false
namespace Go.Proofs.YtldfencaoaikgaaGreatDoor
open Go Go.RowKit Nw

set_option maxRecDepth 100000 in
set_option maxHeartbeats 1000000 in
theorem point_some (N : Net) (r : Rd) (a b : Nd) (p : Pc) (x : Rat × Rat) (v : Value) (w : World) (h : NV w v N) (g : Vld N) (hr : frd N.rs p.r = some r) (hq : Pl.Sz 2000 p.q) (hp : placeE N p = 0) (ha : fnd N.ns r.f = some a) (hb : fnd N.ns r.t = some b) (hx : x = pointE r a b p.q) :
    Calls Tryz.prog 19 #[v, .agg #[.int .i64 p.r, .bool (ng p.q.num), .string (mg p.q.num.natAbs), .bool false, .string (mg (dn p.q))]] w fun e w' => e = .returned (.tuple #[pv x, .int .i64 0]) ∧ Below w.heap.size w w' := by
  have haok := g.on a (fnd_of ha).1
  have hbok := g.on b (fnd_of hb).1
  obtain ⟨_, _, hax1, hax2, hay1, hay2⟩ := haok
  obtain ⟨_, _, hbx1, hbx2, hby1, hby2⟩ := hbok
  have hnz : (r.l : Rat) ≠ 0 := l_ne (g.or r (frd_of hr).1).2.2.1
  have hrok := g.or r (frd_of hr).1
  have hl1 := hrok.2.2.1
  have hl2 := hrok.2.2.2.1
  have HR := Lib.hid hr
  have HROK := Lib.hid hrok
  obtain ⟨ql, hql⟩ : ∃ q : Rat, q = (r.l : Rat) := ⟨_, rfl⟩
  have ZQL : Pl.Sz 4 ql := by rw [hql]; exact sz_small (by omega) (by omega)
  have HQL := Lib.hid hql
  clear hr hql hrok
  obtain ⟨pa, hpa⟩ : ∃ y : Rat × Rat, y = ((a.x : Rat), (a.y : Rat)) := ⟨_, rfl⟩
  obtain ⟨pb, hpb⟩ : ∃ y : Rat × Rat, y = ((b.x : Rat), (b.y : Rat)) := ⟨_, rfl⟩
  have ZPA : Pl.SzP 4 pa := by rw [hpa]; exact ⟨sz_small (by omega) (by omega), sz_small (by omega) (by omega)⟩
  have ZPB : Pl.SzP 4 pb := by rw [hpb]; exact ⟨sz_small (by omega) (by omega), sz_small (by omega) (by omega)⟩
  have HNZ : Hid (ql ≠ 0) := Lib.hid (by rw [HQL.out]; exact hnz)
  have hx2 : x = Pl.divide (pa, pb) (p.q / ql) := by rw [hx, hpa, hpb, HQL.out]; rfl
  have HX := Lib.hid hx2
  have HPA := Lib.hid hpa
  have HPB := Lib.hid hpb
  have HA := Lib.hid ha
  have HB := Lib.hid hb
  have HP := Lib.hid hp
  clear hx hx2 hpa hpb hnz ha hb hp
  obtain ⟨_, _, rfl, hn, hr⟩ := h
  obtain ⟨An, cn, rfl, hcn, hmn, hxn⟩ := hn.open_
  obtain ⟨Ar, cr, rfl, hcr, hmr, hxr⟩ := hr.open_
  have HNV : Hid (NV w (.agg #[.slice An N.ns.length cn, .slice Ar N.rs.length cr]) N) := Lib.hid ⟨_, _, rfl, hn, hr⟩
  have HXN := Lib.hid hxn
  have HXR := Lib.hid hxr
  have HG := Lib.hid g
  have hln := g.ln
  have hlr := g.lr
  generalize hNn : N.ns.length = Nn at *
  generalize hNr : N.rs.length = Nr at *
  have HNn := Lib.hid hNn
  have HNr := Lib.hid hNr
  clear hn hr hxn hxr g hNn hNr
  go_enter Tryz.func19, Tryz.ntmps19
  have K1 := Lib.hid (fun W (hv : NV W (.agg #[.slice An Nn cn, .slice Ar Nr cr]) N) => cplace_any N p _ W hv HG.out hq 0 HP.out)
  go_wp2_with (fail)
  refine calls_named ?_
  intro W1 hW1
  have hL1 : Below w.heap.size w W1 := by
    rw [hW1]
    repeat (first | with_reducible exact Below.refl _ _ | with_reducible refine bel_alloc ?_ _ | refine Below.setCell ?_ (by first | (simp; done) | (simp; omega) | omega) _)
  have c2 : Own W1 (w.heap.size) 0 [.slice An Nn cn, .slice Ar Nr cr] := by
    rw [hW1]
    first
    | (repeat (first | (with_reducible refine own_new (l := [.slice An Nn cn, .slice Ar Nr cr]) ?_; (simp; done)) | with_reducible refine Own.alloc ?_ _ | refine Own.far _ _ (by first | (simp; done) | (simp [*]; done) | (simp; omega)) ?_)); done
    | simp [Own, go_sem]
  have c3 : Own W1 (w.heap.size + 1) 0 [.int .i64 p.r, .bool (ng p.q.num), .string (mg p.q.num.natAbs), .bool false, .string (mg (dn p.q))] := by
    rw [hW1]
    first
    | (repeat (first | (with_reducible refine own_new (l := [.int .i64 p.r, .bool (ng p.q.num), .string (mg p.q.num.natAbs), .bool false, .string (mg (dn p.q))]) ?_; (simp; done)) | with_reducible refine Own.alloc ?_ _ | refine Own.far _ _ (by first | (simp; done) | (simp [*]; done) | (simp; omega)) ?_)); done
    | simp [Own, go_sem]
  have c4 : Own W1 (w.heap.size + 2) 0 [.bool false, .string ⟨#[]⟩, .bool false, .string ⟨#[]⟩, .bool false, .string ⟨#[]⟩, .bool false, .string ⟨#[]⟩] := by
    rw [hW1]
    first
    | (repeat (first | (with_reducible refine own_new (l := [.bool false, .string ⟨#[]⟩, .bool false, .string ⟨#[]⟩, .bool false, .string ⟨#[]⟩, .bool false, .string ⟨#[]⟩]) ?_; (simp; done)) | with_reducible refine Own.alloc ?_ _ | refine Own.far _ _ (by first | (simp; done) | (simp [*]; done) | (simp; omega)) ?_)); done
    | simp [Own, go_sem]
  have hB5 : Below w.heap.size w W1 := by
    rw [hW1]
    repeat (first | with_reducible exact Below.refl _ _ | with_reducible refine bel_alloc ?_ _ | refine Below.setCell ?_ (by first | (simp; done) | (simp; omega) | omega) _)
  clear hW1 hL1
  with_reducible refine (K1.out _ (HNV.out.up hB5)).mono ?_
  rintro e w1 ⟨rfl, hb1⟩
  have c6 := c2.up hb1
  have c7 := c3.up hb1
  have c8 := c4.up hb1
  have hB9 : Below w.heap.size w w1 := bel_up hB5 hb1
  clear c2 c3 c4
  have uc6 := c6; have uc7 := c7; have uc8 := c8
  simp only [At, Own, Nat.reduceAdd, and_true] at uc6 uc7 uc8
  have K10 := Lib.hid (fun W (hv : NV W (.agg #[.slice An Nn cn, .slice Ar Nr cr]) N) => road_some N r p.r _ W hv HG.out HR.out)
  go_wp2_with (fail)
  refine calls_named ?_
  intro W2 hW2
  have hL2 : Below w1.heap.size w1 W2 := by
    rw [hW2]
    repeat (first | with_reducible exact Below.refl _ _ | with_reducible refine bel_alloc ?_ _ | refine Below.setCell ?_ (by first | (simp; done) | (simp; omega) | omega) _)
  have c11 := c6.up hL2
  have c12 := c7.up hL2
  have c13 := c8.up hL2
  have hB14 : Below w.heap.size w W2 := by
    rw [hW2]
    repeat (first | with_reducible exact hB9 | with_reducible refine bel_alloc ?_ _ | refine Below.setCell ?_ (by first | (simp; done) | (simp; omega) | omega) _)
  clear hW2 hL2 uc6 uc7 uc8 c6 c7 c8
  with_reducible refine (K10.out _ (HNV.out.up hB14)).mono ?_
  rintro e w2 ⟨rfl, hb2⟩
  have c15 := c11.up hb2
  have c16 := c12.up hb2
  have c17 := c13.up hb2
  have hB18 : Below w.heap.size w w2 := bel_up hB14 hb2
  clear c11 c12 c13
  have ne19_ : w.heap.size < w2.heap.size := by have := c15.lt; omega
  have ne19 := Nat.ne_of_lt ne19_
  have ne19' := ne19.symm
  have ne20_ : w.heap.size + 1 < w2.heap.size := by have := c16.lt; omega
  have ne20 := Nat.ne_of_lt ne20_
  have ne20' := ne20.symm
  have ne21_ : w.heap.size + 2 < w2.heap.size := by have := c17.lt; omega
  have ne21 := Nat.ne_of_lt ne21_
  have ne21' := ne21.symm
  have uc15 := c15; have uc16 := c16; have uc17 := c17
  simp only [At, Own, Nat.reduceAdd, and_true] at uc15 uc16 uc17
  have K22 := Lib.hid (fun W (hv : NV W (.agg #[.slice An Nn cn, .slice Ar Nr cr]) N) => node_some N a r.f _ W hv HG.out.half HA.out)
  go_wp2_with (fail)
  refine calls_named ?_
  intro W3 hW3
  have hL3 : Below w2.heap.size w2 W3 := by
    rw [hW3]
    repeat (first | with_reducible exact Below.refl _ _ | with_reducible refine bel_alloc ?_ _ | refine Below.setCell ?_ (by first | (simp; done) | (simp; omega) | omega) _)
  have c23 := c15.up hL3
  have c24 := c16.up hL3
  have c25 := c17.up hL3
  have c26 : Own W3 (w2.heap.size) 0 [.int .i64 r.i, .int .i64 r.f, .int .i64 r.t, .int .i64 r.l, .int .i64 r.m, .bool r.o] := by
    rw [hW3]
    first
    | (repeat (first | (with_reducible refine own_new (l := [.int .i64 r.i, .int .i64 r.f, .int .i64 r.t, .int .i64 r.l, .int .i64 r.m, .bool r.o]) ?_; (simp; done)) | with_reducible refine Own.alloc ?_ _ | refine Own.far _ _ (by first | (simp; done) | (simp [*]; done) | (simp; omega)) ?_)); done
    | simp [Own, go_sem, uc15, uc16, uc17, ne19, ne19', ne19_, ne20, ne20', ne20_, ne21, ne21', ne21_]
  have hB27 : Below w.heap.size w W3 := by
    rw [hW3]
    repeat (first | with_reducible exact hB18 | with_reducible refine bel_alloc ?_ _ | refine Below.setCell ?_ (by first | (simp; done) | (simp; omega) | omega) _)
  clear hW3 hL3 uc15 uc16 uc17 c15 c16 c17
  with_reducible refine (K22.out _ (HNV.out.up hB27)).mono ?_
  rintro e w3 ⟨rfl, hb3⟩
  have c28 := c23.up hb3
  have c29 := c24.up hb3
  have c30 := c25.up hb3
  have c31 := c26.up hb3
  have hB32 : Below w.heap.size w w3 := bel_up hB27 hb3
  clear c23 c24 c25 c26
  have ne33_ : w.heap.size < w3.heap.size := by have := c28.lt; omega
  have ne33 := Nat.ne_of_lt ne33_
  have ne33' := ne33.symm
  have ne34_ : w.heap.size + 1 < w3.heap.size := by have := c29.lt; omega
  have ne34 := Nat.ne_of_lt ne34_
  have ne34' := ne34.symm
  have ne35_ : w.heap.size + 2 < w3.heap.size := by have := c30.lt; omega
  have ne35 := Nat.ne_of_lt ne35_
  have ne35' := ne35.symm
  have ne36_ : w2.heap.size < w3.heap.size := by have := c31.lt; omega
  have ne36 := Nat.ne_of_lt ne36_
  have ne36' := ne36.symm
  have uc28 := c28; have uc29 := c29; have uc30 := c30; have uc31 := c31
  simp only [At, Own, Nat.reduceAdd, and_true] at uc28 uc29 uc30 uc31
  have K37 := Lib.hid (fun W (hv : NV W (.agg #[.slice An Nn cn, .slice Ar Nr cr]) N) => node_some N b r.t _ W hv HG.out.half HB.out)
  go_wp2_with (fail)
  refine calls_named ?_
  intro W4 hW4
  have hL4 : Below w3.heap.size w3 W4 := by
    rw [hW4]
    repeat (first | with_reducible exact Below.refl _ _ | with_reducible refine bel_alloc ?_ _ | refine Below.setCell ?_ (by first | (simp; done) | (simp; omega) | omega) _)
  have c38 := c28.up hL4
  have c39 := c29.up hL4
  have c40 := c30.up hL4
  have c41 := c31.up hL4
  have c42 : Own W4 (w3.heap.size) 0 [.int .i64 a.i, .int .i64 a.x, .int .i64 a.y] := by
    rw [hW4]
    first
    | (repeat (first | (with_reducible refine own_new (l := [.int .i64 a.i, .int .i64 a.x, .int .i64 a.y]) ?_; (simp; done)) | with_reducible refine Own.alloc ?_ _ | refine Own.far _ _ (by first | (simp; done) | (simp [*]; done) | (simp; omega)) ?_)); done
    | simp [Own, go_sem, uc28, uc29, uc30, uc31, ne33, ne33', ne33_, ne34, ne34', ne34_, ne35, ne35', ne35_, ne36, ne36', ne36_]
  have hB43 : Below w.heap.size w W4 := by
    rw [hW4]
    repeat (first | with_reducible exact hB32 | with_reducible refine bel_alloc ?_ _ | refine Below.setCell ?_ (by first | (simp; done) | (simp; omega) | omega) _)
  clear hW4 hL4 uc28 uc29 uc30 uc31 c28 c29 c30 c31
  with_reducible refine (K37.out _ (HNV.out.up hB43)).mono ?_
  rintro e w4 ⟨rfl, hb4⟩
  have c44 := c38.up hb4
  have c45 := c39.up hb4
  have c46 := c40.up hb4
  have c47 := c41.up hb4
  have c48 := c42.up hb4
  have hB49 : Below w.heap.size w w4 := bel_up hB43 hb4
  clear c38 c39 c40 c41 c42
  have ne50_ : w.heap.size < w4.heap.size := by have := c44.lt; omega
  have ne50 := Nat.ne_of_lt ne50_
  have ne50' := ne50.symm
  have ne51_ : w.heap.size + 1 < w4.heap.size := by have := c45.lt; omega
  have ne51 := Nat.ne_of_lt ne51_
  have ne51' := ne51.symm
  have ne52_ : w.heap.size + 2 < w4.heap.size := by have := c46.lt; omega
  have ne52 := Nat.ne_of_lt ne52_
  have ne52' := ne52.symm
  have ne53_ : w2.heap.size < w4.heap.size := by have := c47.lt; omega
  have ne53 := Nat.ne_of_lt ne53_
  have ne53' := ne53.symm
  have ne54_ : w3.heap.size < w4.heap.size := by have := c48.lt; omega
  have ne54 := Nat.ne_of_lt ne54_
  have ne54' := ne54.symm
  have uc44 := c44; have uc45 := c45; have uc46 := c46; have uc47 := c47; have uc48 := c48
  simp only [At, Own, Nat.reduceAdd, and_true] at uc44 uc45 uc46 uc47 uc48
  go_upto_region 7 with fail
  refine wp_named ?_
  intro W5 hW5
  have hL5 : Below w4.heap.size w4 W5 := by
    rw [hW5]
    repeat (first | with_reducible exact Below.refl _ _ | with_reducible refine bel_alloc ?_ _ | refine Below.setCell ?_ (by first | (simp; done) | (simp; omega) | omega) _)
  have c55 := c44.up hL5
  have c56 := c45.up hL5
  have c57 := c46.up hL5
  have c58 := c47.up hL5
  have c59 := c48.up hL5
  have c60 : Own W5 (w4.heap.size) 0 [.int .i64 b.i, .int .i64 b.x, .int .i64 b.y] := by
    rw [hW5]
    first
    | (repeat (first | (with_reducible refine own_new (l := [.int .i64 b.i, .int .i64 b.x, .int .i64 b.y]) ?_; (simp; done)) | with_reducible refine Own.alloc ?_ _ | refine Own.far _ _ (by first | (simp; done) | (simp [*]; done) | (simp; omega)) ?_)); done
    | simp [Own, go_sem, uc44, uc45, uc46, uc47, uc48, ne50, ne50', ne50_, ne51, ne51', ne51_, ne52, ne52', ne52_, ne53, ne53', ne53_, ne54, ne54', ne54_]
  have hB61 : Below w.heap.size w W5 := by
    rw [hW5]
    repeat (first | with_reducible exact hB49 | with_reducible refine bel_alloc ?_ _ | refine Below.setCell ?_ (by first | (simp; done) | (simp; omega) | omega) _)
  clear hW5 hL5 uc44 uc45 uc46 uc47 uc48 c44 c45 c46 c47 c48
  have K63 := Lib.hid (fun W => qfi_any r.l ql W HQL.out (by omega) (by omega))
  have K64 := Lib.hid (fun W => qdiv_any p.q ql W HNZ.out (hq.mono (by decide)) (ZQL.mono (by decide)))
  refine wp_region_new1l 10 8 9 13 14 [.bool false, .string ⟨#[]⟩, .bool false, .string ⟨#[]⟩] 40 (by kernel_rfl) rfl rfl rfl rfl (by kernel_rfl) (by kernel_rfl) rfl rfl rfl rfl rfl rfl rfl ⟨(by intro h_; cases h_), (by intro h_; cases h_), (by intro h_; cases h_)⟩ (by kernel_rfl) (by simp) (run_alloc_zero Tryz.zeroValue40 rfl) (by kernel_rfl) ?_
  intro V_62 hV_62
  have vc55 := c55.up hV_62; have dc55 := fun p : Bel V_62 => vc55.bel p
  have vc56 := c56.up hV_62; have dc56 := fun p : Bel V_62 => vc56.bel p
  have vc57 := c57.up hV_62; have dc57 := fun p : Bel V_62 => vc57.bel p
  have vc58 := c58.up hV_62; have dc58 := fun p : Bel V_62 => vc58.bel p
  have vc59 := c59.up hV_62; have dc59 := fun p : Bel V_62 => vc59.bel p
  have vc60 := c60.up hV_62; have dc60 := fun p : Bel V_62 => vc60.bel p
  simp only [At, Own, Nat.reduceAdd, and_true] at dc55 dc56 dc57 dc58 dc59 dc60
  have hBV_62 := bel_up hB61 hV_62
  simp only [waitL, List.getElem?_cons_succ, List.getElem?_cons_zero, List.set_cons_succ, List.set_cons_zero, List.map_cons, List.map_nil, maskOp, List.take_succ_cons, List.take_zero]
  repeat (go_big_quiet_step (first | (go_at_call 37; with_reducible exact Calls.bel (K63.out _)) | (go_at_call 56; with_reducible exact Calls.bel (K64.out _))))
  refine wpQuiet_nil ?_
  refine ⟨[.bool (ng ((p.q / ql).num)), .string (mg ((p.q / ql).num).natAbs), .bool false, .string (mg (dn (p.q / ql)))], rfl, rfl, by simp [Value.oneCell'], ?_⟩
  intro bq65 wn_62 hbn_62 lbq65 mbq65 c66
  simp only [Act.put, List.setIfInBounds_toArray, List.set_cons_zero, List.set_cons_succ]
  have ne67 : w.heap.size ≠ bq65 := by have := c55.lt; omega
  have ne67' := ne67.symm
  have ne68 : w.heap.size + 1 ≠ bq65 := by have := c56.lt; omega
  have ne68' := ne68.symm
  have ne69 : w.heap.size + 2 ≠ bq65 := by have := c57.lt; omega
  have ne69' := ne69.symm
  have ne70 : w2.heap.size ≠ bq65 := by have := c58.lt; omega
  have ne70' := ne70.symm
  have ne71 : w3.heap.size ≠ bq65 := by have := c59.lt; omega
  have ne71' := ne71.symm
  have ne72 : w4.heap.size ≠ bq65 := by have := c60.lt; omega
  have ne72' := ne72.symm
  have wbq65 := Nat.le_trans hB61.size lbq65
  clear hBV_62 dc60 vc60 dc59 vc59 dc58 vc58 dc57 vc57 dc56 vc56 dc55 vc55 hV_62 V_62
  have c73 := c55.up hbn_62
  have c74 := c56.up hbn_62
  have c75 := c57.up hbn_62
  have c76 := c58.up hbn_62
  have c77 := c59.up hbn_62
  have c78 := c60.up hbn_62
  have hB79 : Below w.heap.size w wn_62 := bel_up hB61 hbn_62
  clear c55 c56 c57 c58 c59 c60
  have K80 := Lib.hid (fun W => pat_any a.x a.y pa W HPA.out (by omega) (by omega) (by omega) (by omega))
  have K81 := Lib.hid (fun W => pat_any b.x b.y pb W HPB.out (by omega) (by omega) (by omega) (by omega))
  have K82 := Lib.hid (fun W => pdiv_any (pa, pb) (p.q / ql) W ⟨ZPA, ZPB⟩ (hq.div ZQL) (by decide) (by decide))
  go_wp2_with fail
  refine wp_named ?_
  intro W6 hW6
  have hL6 : Below wn_62.heap.size wn_62 W6 := by
    rw [hW6]
    repeat (first | with_reducible exact Below.refl _ _ | with_reducible refine bel_alloc ?_ _ | refine Below.setCell ?_ (by first | (simp; done) | (simp; omega) | omega) _)
  have c83 := c73.up hL6
  have c84 := c74.up hL6
  have c85 := c75.up hL6
  have c86 := c76.up hL6
  have c87 := c77.up hL6
  have c88 := c78.up hL6
  have c89 := c66.up hL6
  have hB90 : Below w.heap.size w W6 := by
    rw [hW6]
    repeat (first | with_reducible exact hB79 | with_reducible refine bel_alloc ?_ _ | refine Below.setCell ?_ (by first | (simp; done) | (simp; omega) | omega) _)
  clear hW6 hL6 c73 c74 c75 c76 c77 c78 c66
  have dc83 := fun p : Bel W6 => c83.bel p; have dc84 := fun p : Bel W6 => c84.bel p; have dc85 := fun p : Bel W6 => c85.bel p; have dc86 := fun p : Bel W6 => c86.bel p; have dc87 := fun p : Bel W6 => c87.bel p; have dc88 := fun p : Bel W6 => c88.bel p; have dc89 := fun p : Bel W6 => c89.bel p
  simp only [At, Own, Nat.reduceAdd, and_true] at dc83 dc84 dc85 dc86 dc87 dc88 dc89
  refine wp_region_tail 13 (by kernel_rfl) (by kernel_rfl) ?_
  simp only [List.take_succ_cons, List.take_zero, List.drop_succ_cons, List.drop_zero]
  repeat (go_big_quiet_step (first | (go_at_call 58; with_reducible exact Calls.bel (K80.out _)) | (go_at_call 58; with_reducible exact Calls.bel (K81.out _)) | (go_at_call 57; with_reducible exact Calls.bel (K82.out _))))
  refine wpQuiet_nil ?_
  intro w6 hb6
  have c91 := c83.up hb6
  have c92 := c84.up hb6
  have c93 := c85.up hb6
  have c94 := c86.up hb6
  have c95 := c87.up hb6
  have c96 := c88.up hb6
  have c97 := c89.up hb6
  have hB98 : Below w.heap.size w w6 := bel_up hB90 hb6
  clear dc83 dc84 dc85 dc86 dc87 dc88 dc89 c83 c84 c85 c86 c87 c88 c89
  have uc91 := c91; have uc92 := c92; have uc93 := c93; have uc94 := c94; have uc95 := c95; have uc96 := c96; have uc97 := c97
  simp only [At, Own, Nat.reduceAdd, and_true] at uc91 uc92 uc93 uc94 uc95 uc96 uc97
  go_wp2
  refine bodyPost_ret (v := .tuple #[.agg #[.bool (ng (((Pl.divide (pa, pb) (p.q / ql)).1).num)), .string (mg (((Pl.divide (pa, pb) (p.q / ql)).1).num).natAbs), .bool false, .string (mg (dn ((Pl.divide (pa, pb) (p.q / ql)).1))), .bool (ng (((Pl.divide (pa, pb) (p.q / ql)).2).num)), .string (mg (((Pl.divide (pa, pb) (p.q / ql)).2).num).natAbs), .bool false, .string (mg (dn ((Pl.divide (pa, pb) (p.q / ql)).2)))], .int .i64 0]) (by simp [results, Tryz.results19, go_sem, uc91, uc92, uc93, uc94, uc95, uc96, uc97]) rfl ⟨(by rw [HX.out]), ?_⟩
  repeat (first | with_reducible exact hB98 | with_reducible refine bel_alloc ?_ _ | refine Below.setCell ?_ (by first | (simp; done) | (simp; omega) | omega) _)

theorem point_any (N : Net) (r : Rd) (p : Pc) (x : Rat × Rat) (v : Value) (w : World) (h : NV w v N) (g : Vld N) (hat : Nw.At N r p) (hq : Pl.Sz 2000 p.q) (hx : x = pointN N r p.q) :
    Calls Tryz.prog 19 #[v, .agg #[.int .i64 p.r, .bool (ng p.q.num), .string (mg p.q.num.natAbs), .bool false, .string (mg (dn p.q))]] w fun e w' => e = .returned (.tuple #[pv x, .int .i64 0]) ∧ Below w.heap.size w w' := by
  have hok := hat.ok g
  obtain ⟨a, ha⟩ := Option.isSome_iff_exists.1 hok.2.2.2.2.2.2.2.1
  obtain ⟨b, hb⟩ := Option.isSome_iff_exists.1 hok.2.2.2.2.2.2.2.2
  rw [pointN_of ha hb] at hx
  exact point_some N r a b p x v w h g hat.f hq ((at_iff hat.f).2 hat) ha hb hx
end Go.Proofs.YtldfencaoaikgaaGreatDoor
