/-
 The law: the position of a node.
 The law: the node at a position.
 The law: the normal form of a position.
 The law: a number in a list.
 The law: a valid position.
 What the walks of the laws share.
-/
import Derived.Test.YtldfencaoaikgaaGreatDoorTNh
import Derived.Test.YtldfencaoaikgaaGreatDoorUNwi
set_option maxRecDepth 100000
set_option linter.unusedSimpArgs false
set_option linter.unusedVariables false
namespace Go.Proofs.YtldfencaoaikgaaGreatDoor
open Go Go.RowKit Nw

set_option maxHeartbeats 1000000 in
theorem lat_some (N : Net) (r : Rd) (oo : Rat) (id : Int) (v : Value) (w : World) (h : NV w v N) (g : Vld N) (hf : fstR N.rs id = some r) (hoo : oo = offE r id) :
 Calls Tryz.prog 47 #[v, .int .i64 id] w fun e w' => e = .returned (.tuple #[.agg #[.int .i64 r.i, .bool (ng oo.num), .string (mg oo.num.natAbs), .bool false, .string (mg (dn oo))], .bool true]) ∧ Below w.heap.size w w' := by
 have HF := Lib.hid hf
 clear hf
 have HOO := Lib.hid hoo
 clear hoo
 have HG := Lib.hid g
 have hln := g.ln
 have hlr := g.lr
 obtain ⟨_, _, rfl, hn, hr⟩ := h
 obtain ⟨An, cn, rfl, hcn, hmn, hxn⟩ := hn.open_
 obtain ⟨Ar, cr, rfl, hcr, hmr, hxr⟩ := hr.open_
 have HNV : Hid (NV w (.agg #[.slice An N.ns.length cn, .slice Ar N.rs.length cr]) N) := Lib.hid ⟨_, _, rfl, hn, hr⟩
 have HXN := Lib.hid hxn
 have HXR := Lib.hid hxr
 generalize hNn : N.ns.length = Nn at *
 generalize hNr : N.rs.length = Nr at *
 have HNn := Lib.hid hNn
 have HNr := Lib.hid hNr
 clear hn hr hxn hxr hNn hNr
 clear g
 go_enter Tryz.func47, Tryz.ntmps47
 go_wp2_with fail
 refine wp_named ?_
 intro W1 hW1
 have hL1 : Below w.heap.size w W1 := by
  rw [hW1]
  exact bB8
 have c1 : Own W1 (w.heap.size) 0 [.slice An Nn cn, .slice Ar Nr cr] := by
  rw [hW1]
  first
  | (repeat (first | (with_reducible refine own_new (l := [.slice An Nn cn, .slice Ar Nr cr]) ?_; (simp; done)) | with_reducible refine Own.alloc ?_ _ | refine Own.far _ _ (by first | (simp; done) | (simp [*]; done) | (simp; omega)) ?_)); done
  | simp [Own, go_sem]
 have c2 : Own W1 (w.heap.size + 1) 0 [.int .i64 0, .bool false, .string ⟨#[]⟩, .bool false, .string ⟨#[]⟩] := by
  rw [hW1]
  first
  | (repeat (first | (with_reducible refine own_new (l := [.int .i64 0, .bool false, .string ⟨#[]⟩, .bool false, .string ⟨#[]⟩]) ?_; (simp; done)) | with_reducible refine Own.alloc ?_ _ | refine Own.far _ _ (by first | (simp; done) | (simp [*]; done) | (simp; omega)) ?_)); done
  | simp [Own, go_sem]
 have hB3 : Below w.heap.size w W1 := by
  rw [hW1]
  exact bB8
 clear hW1 hL1
 go_loopw [6] (fun s6 wr => ∃ (k : Nat), s6 = .int .i64 k ∧ Own wr (w.heap.size) 0 [.slice An Nn cn, .slice Ar Nr cr] ∧ Own wr (w.heap.size + 1) 0 [.int .i64 0, .bool false, .string ⟨#[]⟩, .bool false, .string ⟨#[]⟩] ∧ Below w.heap.size w wr ∧ k ≤ Nr ∧ Hid (∀ j y, j < k → N.rs[j]? = some y → offTo y id = false)) (fun s6 _ => Nr - (intOf s6).toNat)
 case atStart => exact ⟨0, rfl, c1, c2, hB3, (by omega), Lib.hid (fun j _ h_ => absurd h_ (Nat.not_lt_zero _))⟩
 case round =>
  clear c1 c2 hB3
  obtain ⟨k, rfl, b4, b5, hB6, hk, HE⟩ := hrel
  obtain ⟨wr7, hwr7⟩ : ∃ W_, W_ = wr := ⟨_, rfl⟩
  subst hwr7
  by_cases hltk : k < Nr
  ·skip
   have i1k : (k : Int) < Nr := by omega
   obtain ⟨x8, hx9⟩ : ∃ x, N.rs[k]? = some x := ⟨_, List.getElem?_eq_getElem (by rw [HNr.out]; omega)⟩
   have Hhx9 := Lib.hid hx9
   clear hx9
   have hxok := HG.out.or _ (List.mem_of_getElem? Hhx9.out)
   have hxl1 := hxok.2.2.1
   have hxl2 := hxok.2.2.2.1
   clear hxok
   obtain ⟨qx, hqx⟩ : ∃ o : Rat, o = (x8.l : Rat) := ⟨_, rfl⟩
   have ZQX : Pl.Sz 4 qx := by rw [hqx]; exact sz_small (by omega) (by omega)
   have HQX := Lib.hid hqx
   clear hqx
   have ub4 := b4; have ub5 := b5
   simp only [At, Own, Nat.reduceAdd, and_true] at ub4 ub5
   obtain ⟨g11, o12, ha13, -⟩ := (HXR.out).up kpR hB6 _ _ Hhx9.out
   subst ha13
   have ce10 := LX.at_ ((HXR.out).up kpR hB6) Hhx9.out
   have ce10_ : g11 < wr7.heap.size := World.block_lt_of_cell? _ _ ce10.1
   have uce10 := ce10
   simp only [CR, rdc, At, Nat.reduceMul] at uce10
   by_cases hc14 : (x8.f : Int) = id
   ·skip
    have hc14_ : (((x8.f : Int)) == id) = true := by simpa using hc14
    have Hhc14 := Lib.hid hc14
    clear hc14
    go_wp2
    refine bodyPost_ret (v := .tuple #[.agg #[.int .i64 x8.i, .bool false, .string ⟨#[]⟩, .bool false, .string ⟨#[]⟩], .bool true]) (by simp [results, Tryz.results47, go_sem, ub4, ub5, uce10]) rfl ⟨(by obtain rfl : r = x8 := (by have e_ := HF.out.symm.trans (fst_of Hhx9.out (by unfold offTo; simp [Hhc14.out]) HE.out); injection e_); have e3_ : oo = 0 := HOO.out.trans (if_pos Hhc14.out); subst e3_; rfl), ?_⟩
    exact bB8
   ·skip
    have hc14_ : (((x8.f : Int)) == id) = false := by simpa using hc14
    by_cases hc15 : (x8.t : Int) = id
    ·skip
     have hc15_ : (((x8.t : Int)) == id) = true := by simpa using hc15
     have Hhc15 := Lib.hid hc15
     clear hc15
     have K16 := Lib.hid (fun W => qfi_any x8.l qx W HQX.out (by omega) (by omega))
     go_wp2_with fail
     refine wp_named ?_
     intro W2 hW2
     have hL2 : Below wr7.heap.size wr7 W2 := by
      rw [hW2]
      exact bB8
     have c17 := b4.up hL2
     have c18 := b5.up hL2
     have hB19 : Below w.heap.size w W2 := by
      rw [hW2]
      exact bB8
     clear hW2 hL2 ub4 ub5 uce10 b4 b5
     have dc17 := fun p : Bel W2 => c17.bel p; have dc18 := fun p : Bel W2 => c18.bel p
     simp only [At, Own, Nat.reduceAdd, and_true] at dc17 dc18
     have ce20 := LX.at_ ((HXR.out).up kpR hB19) Hhx9.out
     have ce20_ : g11 < W2.heap.size := World.block_lt_of_cell? _ _ ce20.1
     have dce20 := fun b : Bel W2 => ce20.bel b
     simp only [CR, rdc, At, Nat.reduceMul] at dce20
     refine wp_region_tail 14 (by kernel_rfl) (by kernel_rfl) ?_
     simp only [List.take_succ_cons, List.take_zero, List.drop_succ_cons, List.drop_zero]
     repeat (go_big_quiet_step (first | (go_at_call 37; with_reducible exact Calls.bel (K16.out _))))
     refine wpQuiet_nil ?_
     intro w2 hb2
     have c21 := c17.up hb2
     have c22 := c18.up hb2
     have hB23 : Below w.heap.size w w2 := bel_up hB19 hb2
     clear dc17 dc18 dce20 c17 c18
     have uc21 := c21; have uc22 := c22
     simp only [At, Own, Nat.reduceAdd, and_true] at uc21 uc22
     go_wp2
     refine bodyPost_ret (v := .tuple #[.agg #[.int .i64 x8.i, .bool (ng qx.num), .string (mg qx.num.natAbs), .bool false, .string (mg (dn qx))], .bool true]) (by simp [results, Tryz.results47, go_sem, uc21, uc22]) rfl ⟨(by obtain rfl : r = x8 := (by have e_ := HF.out.symm.trans (fst_of Hhx9.out (by unfold offTo; simp [hc14, Hhc15.out]) HE.out); injection e_); have e3_ : oo = qx := HOO.out.trans ((if_neg hc14).trans HQX.out.symm); subst e3_; rfl), ?_⟩
     exact bB8
    ·skip
     have hc15_ : (((x8.t : Int)) == id) = false := by simpa using hc15
     go_wp2
     go_roundw
     case rel => exact ⟨(k + 1), (by first | rfl | exact congrArg (Value.int .i64) (by omega) | simp [*]), oF8, oF8, (by exact bB8), (by omega), Lib.hid (fun j y hj hy => if e_ : j = k then (by subst e_; have e2_ := Hhx9.out.symm.trans hy; injection e2_ with e2_; subst e2_; exact (by unfold offTo; simp [hc14, hc15])) else HE.out j y (by omega) hy)⟩
     case measure => simp [intOf] <;> omega
  ·skip
   have hkN : Nr = k := by omega
   subst hkN
   exact absurd (HF.out.symm.trans (fst_none fun j y hy => HE.out j y (by have := (List.getElem?_eq_some_iff.1 hy).1; rw [HNr.out] at this; omega) hy)) (by simp)

end Go.Proofs.YtldfencaoaikgaaGreatDoor

namespace Go.Proofs.YtldfencaoaikgaaGreatDoor
open Go Go.RowKit Nw

theorem frd_idx {l : List Rd} {id : Int} {r : Rd} (h : frd l id = some r) : ∃ j : Nat, idxR l id = j ∧ l[j]? = some r := by
 obtain ⟨h1, j, hj, rfl, h2⟩ := List.find?_eq_some_iff_getElem.1 h
 exact ⟨j, idxR_at (List.getElem?_eq_getElem hj) (by simpa using h1) fun k y hk hy => by
  obtain ⟨hk2, rfl⟩ := List.getElem?_eq_some_iff.1 hy
  simpa using h2 k hk, List.getElem?_eq_getElem hj⟩
theorem lroad_j (N : Net) (id : Int) (j : Nat) (v : Value) (w : World) (h : NV w v N) (hl : N.ns.length ≤ 256 ∧ N.rs.length ≤ 1024) (hj : idxR N.rs id = j) :
 Calls Tryz.prog 31 #[v, .int .i64 id] w fun e w' => e = .returned (.int .i64 j) ∧ Below w.heap.size w w' := by
 rw [← hj]; exact lroad_any N id v w h hl
/-- The law's node at a position of a road; 0. -/
def latE (r : Rd) (q : Rat) : Int := if q = 0 then r.f else if q = (r.l : Rat) then r.t else 0
theorem lat1 {r : Rd} {q : Rat} {k sg : Int} (hk : latE r q = k) (h1 : Pl.sgn q = sg) (h2 : sg = 0) : k = r.f := by
 have e : q = 0 := (Pl.sgn_zero_iff q).1 (h1.trans h2)
 rw [← hk, latE, if_pos e]
theorem lat2 {r : Rd} {q : Rat} {k sg cq : Int} (hk : latE r q = k) (h1 : Pl.sgn q = sg) (h2 : ¬ sg = 0) (h3 : Pl.cmpQ q (r.l : Rat) = cq) (h4 : cq = 0) : k = r.t := by
 have e : ¬ q = 0 := fun e_ => h2 (by rw [← h1]; exact (Pl.sgn_zero_iff q).2 e_)
 have e2 : q = (r.l : Rat) := (Pl.cmp_zero_iff _ _).1 (h3.trans h4)
 rw [← hk, latE, if_neg e, if_pos e2]
theorem lat3 {r : Rd} {q : Rat} {k sg cq : Int} (hk : latE r q = k) (h1 : Pl.sgn q = sg) (h2 : ¬ sg = 0) (h3 : Pl.cmpQ q (r.l : Rat) = cq) (h4 : ¬ cq = 0) : k = 0 := by
 have e : ¬ q = 0 := fun e_ => h2 (by rw [← h1]; exact (Pl.sgn_zero_iff q).2 e_)
 have e2 : ¬ q = (r.l : Rat) := fun e_ => h4 (by rw [← h3]; exact (Pl.cmp_zero_iff _ _).2 e_)
 rw [← hk, latE, if_neg e, if_neg e2]

set_option maxHeartbeats 1000000 in
theorem lnodeat_any (N : Net) (r : Rd) (p : Pc) (k : Int) (v : Value) (w : World) (h : NV w v N) (g : Vld N) (hr : frd N.rs p.r = some r) (hq : Pl.Sz 2000 p.q) (hk : latE r p.q = k) :
 Calls Tryz.prog 45 #[v, .agg #[.int .i64 p.r, .bool (ng p.q.num), .string (mg p.q.num.natAbs), .bool false, .string (mg (dn p.q))]] w fun e w' => e = .returned (.int .i64 k) ∧ Below w.heap.size w w' := by
 obtain ⟨j, hj, hj2⟩ := frd_idx hr
 have hrok := g.or r (frd_of hr).1
 have hl1 := hrok.2.2.1
 have hl2 := hrok.2.2.2.1
 have HR := Lib.hid hr
 have HROK := Lib.hid hrok
 obtain ⟨ql, hql⟩ : ∃ q : Rat, q = (r.l : Rat) := ⟨_, rfl⟩
 have ZQL : Pl.Sz 4 ql := by rw [hql]; exact sz_small (by omega) (by omega)
 have HQL := Lib.hid hql
 clear hr hql hrok
 have HJ := Lib.hid hj
 have HJ2 := Lib.hid hj2
 have HK := Lib.hid hk
 have HLEN : Hid (N.ns.length ≤ 256 ∧ N.rs.length ≤ 1024) := Lib.hid ⟨g.ln, g.lr⟩
 have hjl : j < N.rs.length := (List.getElem?_eq_some_iff.1 hj2).1
 obtain ⟨sg, hsg⟩ : ∃ t : Int, Pl.sgn p.q = t := ⟨_, rfl⟩
 have HSG := Lib.hid hsg
 obtain ⟨cq, hcq⟩ : ∃ t : Int, Pl.cmpQ p.q ql = t := ⟨_, rfl⟩
 have HCQ := Lib.hid hcq
 have HCL : Hid (Pl.cmpQ p.q (r.l : Rat) = cq) := Lib.hid (HQL.out ▸ hcq)
 clear hj hj2 hk hsg hcq
 have HG := Lib.hid g
 have hln := g.ln
 have hlr := g.lr
 obtain ⟨_, _, rfl, hn, hr⟩ := h
 obtain ⟨An, cn, rfl, hcn, hmn, hxn⟩ := hn.open_
 obtain ⟨Ar, cr, rfl, hcr, hmr, hxr⟩ := hr.open_
 have HNV : Hid (NV w (.agg #[.slice An N.ns.length cn, .slice Ar N.rs.length cr]) N) := Lib.hid ⟨_, _, rfl, hn, hr⟩
 have HXN := Lib.hid hxn
 have HXR := Lib.hid hxr
 generalize hNn : N.ns.length = Nn at *
 generalize hNr : N.rs.length = Nr at *
 have HNn := Lib.hid hNn
 have HNr := Lib.hid hNr
 clear hn hr hxn hxr hNn hNr
 clear g
 have i1j : (j : Int) < Nr := by omega
 go_enter Tryz.func45, Tryz.ntmps45
 go_upto_region 1 with fail
 refine wp_named ?_
 intro W1 hW1
 have hL1 : Below w.heap.size w W1 := by
  rw [hW1]
  exact bB8
 have c1 : Own W1 (w.heap.size) 0 [.slice An Nn cn, .slice Ar Nr cr] := by
  rw [hW1]
  first
  | (repeat (first | (with_reducible refine own_new (l := [.slice An Nn cn, .slice Ar Nr cr]) ?_; (simp; done)) | with_reducible refine Own.alloc ?_ _ | refine Own.far _ _ (by first | (simp; done) | (simp [*]; done) | (simp; omega)) ?_)); done
  | simp [Own, go_sem]
 have c2 : Own W1 (w.heap.size + 1) 0 [.int .i64 p.r, .bool (ng p.q.num), .string (mg p.q.num.natAbs), .bool false, .string (mg (dn p.q))] := by
  rw [hW1]
  first
  | (repeat (first | (with_reducible refine own_new (l := [.int .i64 p.r, .bool (ng p.q.num), .string (mg p.q.num.natAbs), .bool false, .string (mg (dn p.q))]) ?_; (simp; done)) | with_reducible refine Own.alloc ?_ _ | refine Own.far _ _ (by first | (simp; done) | (simp [*]; done) | (simp; omega)) ?_)); done
  | simp [Own, go_sem]
 have hB3 : Below w.heap.size w W1 := by
  rw [hW1]
  exact bB8
 clear hW1 hL1
 have K5 := Lib.hid (fun W (hv : NV W (.agg #[.slice An Nn cn, .slice Ar Nr cr]) N) => lroad_j N p.r j _ W hv (by rw [HNn.out, HNr.out]; exact HLEN.out) HJ.out)
 obtain ⟨g8, o9, ha10, -⟩ := (HXR.out).up kpR hB3 _ _ HJ2.out
 subst ha10
 have ce7 := LX.at_ ((HXR.out).up kpR hB3) HJ2.out
 have ce7_ : g8 < W1.heap.size := World.block_lt_of_cell? _ _ ce7.1
 refine wp_region_new1 9 8 5 [.int .i64 0, .int .i64 0, .int .i64 0, .int .i64 0, .int .i64 0, .bool false] 67 (by kernel_rfl) (by kernel_rfl) rfl rfl rfl rfl (by intro h_; cases h_) (by simp) (run_alloc_zero Tryz.zeroValue67 rfl) (by kernel_rfl) ?_
 intro V_4 hV_4
 have vc1 := c1.up hV_4; have dc1 := fun p : Bel V_4 => vc1.bel p
 have vc2 := c2.up hV_4; have dc2 := fun p : Bel V_4 => vc2.bel p
 simp only [At, Own, Nat.reduceAdd, and_true] at dc1 dc2
 have vce7 := ce7.up hV_4; have dce7 := fun b : Bel V_4 => vce7.bel b
 simp only [CR, rdc, At, Nat.reduceMul] at dce7
 have hBV_4 := bel_up hB3 hV_4
 simp only [List.map_cons, List.map_nil, maskOp, List.take_succ_cons, List.take_zero]
 repeat (go_big_quiet_step (first | (go_at_call 31; with_reducible exact Calls.bel (K5.out _ (HNV.out.up (bel_up hBV_4 (Bel.h _)))))))
 refine wpQuiet_nil ?_
 refine ⟨[.int .i64 r.i, .int .i64 r.f, .int .i64 r.t, .int .i64 r.l, .int .i64 r.m, .bool r.o], rfl, rfl, by simp [Value.oneCell'], ?_⟩
 intro bq6 wn_4 hbn_4 lbq6 mbq6 c11
 simp only [Act.put, List.setIfInBounds_toArray, List.set_cons_zero, List.set_cons_succ]
 have ne12 : w.heap.size ≠ bq6 := by have := c1.lt; omega
 have ne12' := ne12.symm
 have ne13 : w.heap.size + 1 ≠ bq6 := by have := c2.lt; omega
 have ne13' := ne13.symm
 have wbq6 := Nat.le_trans hB3.size lbq6
 clear hBV_4 dce7 vce7 dc2 vc2 dc1 vc1 hV_4 V_4
 have c14 := c1.up hbn_4
 have c15 := c2.up hbn_4
 have hB16 : Below w.heap.size w wn_4 := bel_up hB3 hbn_4
 clear c1 c2
 have uc14 := c14; have uc15 := c15; have uc11 := c11
 simp only [At, Own, Nat.reduceAdd, and_true] at uc14 uc15 uc11
 have K17 := Lib.hid (fun W => HSG.out ▸ qsign_any p.q W)
 go_wp2_with (fail)
 refine calls_named ?_
 intro W2 hW2
 have hL2 : Below wn_4.heap.size wn_4 W2 := by
  rw [hW2]
  exact bB8
 have c18 := c14.up hL2
 have c19 := c15.up hL2
 have c20 := c11.up hL2
 have hB21 : Below w.heap.size w W2 := by
  rw [hW2]
  exact bB8
 clear hW2 hL2 uc14 uc15 uc11 c14 c15 c11
 with_reducible refine (K17.out _).mono ?_
 rintro e w2 ⟨rfl, hb2⟩
 have c22 := c18.up hb2
 have c23 := c19.up hb2
 have c24 := c20.up hb2
 have hB25 : Below w.heap.size w w2 := bel_up hB21 hb2
 clear c18 c19 c20
 by_cases hc26 : (sg : Int) = 0
 ·skip
  have hc26_ : (((sg : Int)) == 0) = true := by simpa using hc26
  have Hhc26 := Lib.hid hc26
  clear hc26
  have uc22 := c22; have uc23 := c23; have uc24 := c24
  simp only [At, Own, Nat.reduceAdd, and_true] at uc22 uc23 uc24
  go_wp2
  go_ret
  refine ⟨(by have e_ := lat1 HK.out HSG.out Hhc26.out; subst e_; rfl), ?_⟩
  exact bB8
 ·skip
  have hc26_ : (((sg : Int)) == 0) = false := by simpa using hc26
  have K27 := Lib.hid (fun W => qfi_any r.l ql W HQL.out (by omega) (by omega))
  have K28 := Lib.hid (fun W => HCQ.out ▸ qcmp_any p.q ql W (hq.mono (by decide)) (ZQL.mono (by decide)))
  go_wp2_with fail
  refine wp_named ?_
  intro W3 hW3
  have hL3 : Below w2.heap.size w2 W3 := by
   rw [hW3]
   exact bB8
  have c29 := c22.up hL3
  have c30 := c23.up hL3
  have c31 := c24.up hL3
  have hB32 : Below w.heap.size w W3 := by
   rw [hW3]
   exact bB8
  clear hW3 hL3 c22 c23 c24
  have dc29 := fun p : Bel W3 => c29.bel p; have dc30 := fun p : Bel W3 => c30.bel p; have dc31 := fun p : Bel W3 => c31.bel p
  simp only [At, Own, Nat.reduceAdd, and_true] at dc29 dc30 dc31
  refine wp_region_all (by kernel_rfl) (by kernel_rfl) ?_
  repeat (go_big_quiet_step (first | (go_at_call 37; with_reducible exact Calls.bel (K27.out _)) | (go_at_call 61; with_reducible exact Calls.bel (K28.out _))))
  refine wpQuiet_nil ?_
  intro w3 hb3
  have c33 := c29.up hb3
  have c34 := c30.up hb3
  have c35 := c31.up hb3
  have hB36 : Below w.heap.size w w3 := bel_up hB32 hb3
  clear dc29 dc30 dc31 c29 c30 c31
  have uc33 := c33; have uc34 := c34; have uc35 := c35
  simp only [At, Own, Nat.reduceAdd, and_true] at uc33 uc34 uc35
  by_cases hc37 : (cq : Int) = 0
  ·skip
   have hc37_ : (((cq : Int)) == 0) = true := by simpa using hc37
   have Hhc37 := Lib.hid hc37
   clear hc37
   go_wp2
   go_ret
   refine ⟨(by have e_ := lat2 HK.out HSG.out hc26 HCL.out Hhc37.out; subst e_; rfl), ?_⟩
   exact bB8
  ·skip
   have hc37_ : (((cq : Int)) == 0) = false := by simpa using hc37
   go_wp2
   go_ret
   refine ⟨(by have e_ := lat3 HK.out HSG.out hc26 HCL.out hc37; subst e_; rfl), ?_⟩
   exact bB8
end Go.Proofs.YtldfencaoaikgaaGreatDoor

namespace Go.Proofs.YtldfencaoaikgaaGreatDoor
open Go Go.RowKit Nw

theorem lat_off {N : Net} {r : Rd} {q : Rat} (h : Rd.ok N.ns r) (hf : r.f ≠ r.t) (ha : atR r q = none) : latE r q = 0 := by
 unfold atR offE at ha; unfold latE
 rw [if_pos rfl, if_neg hf] at ha
 by_cases h1 : q = 0
 ·rw [if_pos h1] at ha; cases ha
 ·rw [if_neg h1] at ha ⊢
  by_cases h2 : q = (r.l : Rat)
  ·rw [if_pos h2] at ha; cases ha
  ·rw [if_neg h2]
theorem lat_on {r : Rd} {q : Rat} {n : Int} (hf : r.f ≠ r.t) (ha : atR r q = some n) : latE r q = n := by
 unfold atR offE at ha; unfold latE
 rw [if_pos rfl, if_neg hf] at ha
 by_cases h1 : q = 0
 ·rw [if_pos h1] at ha ⊢; injection ha
 ·rw [if_neg h1] at ha ⊢
  by_cases h2 : q = (r.l : Rat)
  ·rw [if_pos h2] at ha ⊢; injection ha
  ·rw [if_neg h2] at ha; cases ha

theorem lnormal_off (N : Net) (r : Rd) (p : Pc) (v : Value) (w : World) (h : NV w v N) (g : Vld N) (hr : frd N.rs p.r = some r) (hq : Pl.Sz 2000 p.q) (hk : latE r p.q = 0) :
 Calls Tryz.prog 46 #[v, .agg #[.int .i64 p.r, .bool (ng p.q.num), .string (mg p.q.num.natAbs), .bool false, .string (mg (dn p.q))]] w fun e w' => e = .returned (.agg #[.int .i64 p.r, .bool (ng p.q.num), .string (mg p.q.num.natAbs), .bool false, .string (mg (dn p.q))]) ∧ Below w.heap.size w w' := by
 have HR := Lib.hid hr
 have HK := Lib.hid hk
 clear hr hk
 have HG := Lib.hid g
 have hln := g.ln
 have hlr := g.lr
 obtain ⟨_, _, rfl, hn, hr⟩ := h
 obtain ⟨An, cn, rfl, hcn, hmn, hxn⟩ := hn.open_
 obtain ⟨Ar, cr, rfl, hcr, hmr, hxr⟩ := hr.open_
 have HNV : Hid (NV w (.agg #[.slice An N.ns.length cn, .slice Ar N.rs.length cr]) N) := Lib.hid ⟨_, _, rfl, hn, hr⟩
 have HXN := Lib.hid hxn
 have HXR := Lib.hid hxr
 generalize hNn : N.ns.length = Nn at *
 generalize hNr : N.rs.length = Nr at *
 have HNn := Lib.hid hNn
 have HNr := Lib.hid hNr
 clear hn hr hxn hxr hNn hNr
 clear g
 go_enter Tryz.func46, Tryz.ntmps46
 have K1 := Lib.hid (fun W (hv : NV W (.agg #[.slice An Nn cn, .slice Ar Nr cr]) N) => lnodeat_any N r p 0 _ W hv HG.out HR.out hq HK.out)
 go_wp2_with (fail)
 refine calls_named ?_
 intro W1 hW1
 have hL1 : Below w.heap.size w W1 := by
  rw [hW1]
  exact bB8
 have c2 : Own W1 (w.heap.size) 0 [.slice An Nn cn, .slice Ar Nr cr] := by
  rw [hW1]
  first
  | (repeat (first | (with_reducible refine own_new (l := [.slice An Nn cn, .slice Ar Nr cr]) ?_; (simp; done)) | with_reducible refine Own.alloc ?_ _ | refine Own.far _ _ (by first | (simp; done) | (simp [*]; done) | (simp; omega)) ?_)); done
  | simp [Own, go_sem]
 have c3 : Own W1 (w.heap.size + 1) 0 [.int .i64 p.r, .bool (ng p.q.num), .string (mg p.q.num.natAbs), .bool false, .string (mg (dn p.q))] := by
  rw [hW1]
  first
  | (repeat (first | (with_reducible refine own_new (l := [.int .i64 p.r, .bool (ng p.q.num), .string (mg p.q.num.natAbs), .bool false, .string (mg (dn p.q))]) ?_; (simp; done)) | with_reducible refine Own.alloc ?_ _ | refine Own.far _ _ (by first | (simp; done) | (simp [*]; done) | (simp; omega)) ?_)); done
  | simp [Own, go_sem]
 have c4 : Own W1 (w.heap.size + 2) 0 [.int .i64 0, .bool false, .string ⟨#[]⟩, .bool false, .string ⟨#[]⟩] := by
  rw [hW1]
  first
  | (repeat (first | (with_reducible refine own_new (l := [.int .i64 0, .bool false, .string ⟨#[]⟩, .bool false, .string ⟨#[]⟩]) ?_; (simp; done)) | with_reducible refine Own.alloc ?_ _ | refine Own.far _ _ (by first | (simp; done) | (simp [*]; done) | (simp; omega)) ?_)); done
  | simp [Own, go_sem]
 have hB5 : Below w.heap.size w W1 := by
  rw [hW1]
  exact bB8
 clear hW1 hL1
 with_reducible refine (K1.out _ (HNV.out.up hB5)).mono ?_
 rintro e w1 ⟨rfl, hb1⟩
 have c6 := c2.up hb1
 have c7 := c3.up hb1
 have c8 := c4.up hb1
 have hB9 : Below w.heap.size w w1 := bel_up hB5 hb1
 clear c2 c3 c4
 have uc6 := c6; have uc7 := c7; have uc8 := c8
 simp only [At, Own, Nat.reduceAdd, and_true] at uc6 uc7 uc8
 go_wp2
 refine bodyPost_ret (v := .agg #[.int .i64 p.r, .bool (ng p.q.num), .string (mg p.q.num.natAbs), .bool false, .string (mg (dn p.q))]) (by simp [results, Tryz.results46, go_sem, uc6, uc7, uc8]) rfl ⟨rfl, ?_⟩
 exact bB8

set_option maxHeartbeats 1000000 in
theorem lnormal_on (N : Net) (r : Rd) (p : Pc) (r' : Rd) (k : Int) (oo : Rat) (v : Value) (w : World) (h : NV w v N) (g : Vld N) (hr : frd N.rs p.r = some r) (hq : Pl.Sz 2000 p.q) (hk : latE r p.q = k) (hk1 : 1 ≤ k) (hf : fstR N.rs k = some r') (hoo : oo = offE r' k) :
 Calls Tryz.prog 46 #[v, .agg #[.int .i64 p.r, .bool (ng p.q.num), .string (mg p.q.num.natAbs), .bool false, .string (mg (dn p.q))]] w fun e w' => e = .returned (.agg #[.int .i64 r'.i, .bool (ng oo.num), .string (mg oo.num.natAbs), .bool false, .string (mg (dn oo))]) ∧ Below w.heap.size w w' := by
 have HR := Lib.hid hr
 have HK := Lib.hid hk
 clear hr hk
 have hk1_ : ¬ ((k : Int) ≤ 0) := by omega
 have HF := Lib.hid hf
 have HOO := Lib.hid hoo
 clear hf hoo
 have HG := Lib.hid g
 have hln := g.ln
 have hlr := g.lr
 obtain ⟨_, _, rfl, hn, hr⟩ := h
 obtain ⟨An, cn, rfl, hcn, hmn, hxn⟩ := hn.open_
 obtain ⟨Ar, cr, rfl, hcr, hmr, hxr⟩ := hr.open_
 have HNV : Hid (NV w (.agg #[.slice An N.ns.length cn, .slice Ar N.rs.length cr]) N) := Lib.hid ⟨_, _, rfl, hn, hr⟩
 have HXN := Lib.hid hxn
 have HXR := Lib.hid hxr
 generalize hNn : N.ns.length = Nn at *
 generalize hNr : N.rs.length = Nr at *
 have HNn := Lib.hid hNn
 have HNr := Lib.hid hNr
 clear hn hr hxn hxr hNn hNr
 clear g
 go_enter Tryz.func46, Tryz.ntmps46
 have K1 := Lib.hid (fun W (hv : NV W (.agg #[.slice An Nn cn, .slice Ar Nr cr]) N) => lnodeat_any N r p k _ W hv HG.out HR.out hq HK.out)
 go_wp2_with (fail)
 refine calls_named ?_
 intro W1 hW1
 have hL1 : Below w.heap.size w W1 := by
  rw [hW1]
  exact bB8
 have c2 : Own W1 (w.heap.size) 0 [.slice An Nn cn, .slice Ar Nr cr] := by
  rw [hW1]
  first
  | (repeat (first | (with_reducible refine own_new (l := [.slice An Nn cn, .slice Ar Nr cr]) ?_; (simp; done)) | with_reducible refine Own.alloc ?_ _ | refine Own.far _ _ (by first | (simp; done) | (simp [*]; done) | (simp; omega)) ?_)); done
  | simp [Own, go_sem]
 have c3 : Own W1 (w.heap.size + 1) 0 [.int .i64 p.r, .bool (ng p.q.num), .string (mg p.q.num.natAbs), .bool false, .string (mg (dn p.q))] := by
  rw [hW1]
  first
  | (repeat (first | (with_reducible refine own_new (l := [.int .i64 p.r, .bool (ng p.q.num), .string (mg p.q.num.natAbs), .bool false, .string (mg (dn p.q))]) ?_; (simp; done)) | with_reducible refine Own.alloc ?_ _ | refine Own.far _ _ (by first | (simp; done) | (simp [*]; done) | (simp; omega)) ?_)); done
  | simp [Own, go_sem]
 have c4 : Own W1 (w.heap.size + 2) 0 [.int .i64 0, .bool false, .string ⟨#[]⟩, .bool false, .string ⟨#[]⟩] := by
  rw [hW1]
  first
  | (repeat (first | (with_reducible refine own_new (l := [.int .i64 0, .bool false, .string ⟨#[]⟩, .bool false, .string ⟨#[]⟩]) ?_; (simp; done)) | with_reducible refine Own.alloc ?_ _ | refine Own.far _ _ (by first | (simp; done) | (simp [*]; done) | (simp; omega)) ?_)); done
  | simp [Own, go_sem]
 have hB5 : Below w.heap.size w W1 := by
  rw [hW1]
  exact bB8
 clear hW1 hL1
 with_reducible refine (K1.out _ (HNV.out.up hB5)).mono ?_
 rintro e w1 ⟨rfl, hb1⟩
 have c6 := c2.up hb1
 have c7 := c3.up hb1
 have c8 := c4.up hb1
 have hB9 : Below w.heap.size w w1 := bel_up hB5 hb1
 clear c2 c3 c4
 have uc6 := c6; have uc7 := c7; have uc8 := c8
 simp only [At, Own, Nat.reduceAdd, and_true] at uc6 uc7 uc8
 have K10 := Lib.hid (fun W (hv : NV W (.agg #[.slice An Nn cn, .slice Ar Nr cr]) N) => lat_some N r' oo k _ W hv HG.out HF.out HOO.out)
 go_wp2_with (fail)
 refine calls_named ?_
 intro W2 hW2
 have hL2 : Below w1.heap.size w1 W2 := by
  rw [hW2]
  exact bB8
 have c11 := c6.up hL2
 have c12 := c7.up hL2
 have c13 := c8.up hL2
 have hB14 : Below w.heap.size w W2 := by
  rw [hW2]
  exact bB8
 clear hW2 hL2 uc6 uc7 uc8 c6 c7 c8
 with_reducible refine (K10.out _ (HNV.out.up hB14)).mono ?_
 rintro e w2 ⟨rfl, hb2⟩
 have c15 := c11.up hb2
 have c16 := c12.up hb2
 have c17 := c13.up hb2
 have hB18 : Below w.heap.size w w2 := bel_up hB14 hb2
 clear c11 c12 c13
 have uc15 := c15; have uc16 := c16; have uc17 := c17
 simp only [At, Own, Nat.reduceAdd, and_true] at uc15 uc16 uc17
 go_upto_region 4 with fail
 refine wp_named ?_
 intro W3 hW3
 have c19 : Own W3 (w.heap.size) 0 [.slice An Nn cn, .slice Ar Nr cr] := by rw [hW3]; simp [Own, go_sem, uc15, uc16, uc17]
 have c20 : Own W3 (w.heap.size + 1) 0 [.int .i64 r'.i, .bool (ng oo.num), .string (mg oo.num.natAbs), .bool false, .string (mg (dn oo))] := by rw [hW3]; simp [Own, go_sem, uc15, uc16, uc17]
 have c21 : Own W3 (w.heap.size + 2) 0 [.int .i64 0, .bool false, .string ⟨#[]⟩, .bool false, .string ⟨#[]⟩] := by rw [hW3]; simp [Own, go_sem, uc15, uc16, uc17]
 have hB22 : Below w.heap.size w W3 := by
  rw [hW3]
  exact bB8
 clear hW3 uc15 uc16 uc17 c15 c16 c17
 have uc19 := c19; have uc20 := c20; have uc21 := c21
 simp only [At, Own, Nat.reduceAdd, and_true] at uc19 uc20 uc21
 go_wp2
 refine bodyPost_ret (v := .agg #[.int .i64 r'.i, .bool (ng oo.num), .string (mg oo.num.natAbs), .bool false, .string (mg (dn oo))]) (by simp [results, Tryz.results46, go_sem, uc19, uc20, uc21]) rfl ⟨rfl, ?_⟩
 exact bB8

theorem at_pos {N : Net} (g : Vld N) {r : Rd} (hr : r ∈ N.rs) {q : Rat} {n : Int} (h : atR r q = some n) : 1 ≤ n := by
 have hok := g.or r hr
 have hn : (fnd N.ns n).isSome = true := by
  rcases offTo_iff.1 (atR_some h).1 with rfl | rfl
  ·exact hok.2.2.2.2.2.2.2.1
  ·exact hok.2.2.2.2.2.2.2.2
 obtain ⟨a, ha⟩ := Option.isSome_iff_exists.1 hn
 have h1 := (g.on a (fnd_of ha).1).1
 rwa [(fnd_of ha).2] at h1
/-- The law's normal form of a valid position. -/
theorem lnormal_any (N : Net) (r : Rd) (p m : Pc) (v : Value) (w : World) (h : NV w v N) (g : Vld N) (hat : Nw.At N r p) (hq : Pl.Sz 2000 p.q) (hm : normE N r p = m) :
 Calls Tryz.prog 46 #[v, .agg #[.int .i64 p.r, .bool (ng p.q.num), .string (mg p.q.num.natAbs), .bool false, .string (mg (dn p.q))]] w fun e w' => e = .returned (.agg #[.int .i64 m.r, .bool (ng m.q.num), .string (mg m.q.num.natAbs), .bool false, .string (mg (dn m.q))]) ∧ Below w.heap.size w w' := by
 have hok := g.or r (frd_of hat.f).1
 have hne := hok.2.2.2.2.2.2.1
 rcases norm_cases g hat with ⟨h1, h2⟩ | ⟨n, r', h1, h2, h3, h4, h5⟩
 ·rw [h2] at hm; subst hm
  exact lnormal_off N r p v w h g hat.f hq (lat_off hok hne h1)
 ·rw [h4] at hm; subst hm
  exact lnormal_on N r p r' n _ v w h g hat.f hq (lat_on hne h1) (at_pos g (frd_of hat.f).1 h1) h2 rfl
end Go.Proofs.YtldfencaoaikgaaGreatDoor

namespace Go.Proofs.YtldfencaoaikgaaGreatDoor
open Go Go.RowKit Nw

end Go.Proofs.YtldfencaoaikgaaGreatDoor

namespace Go.Proofs.YtldfencaoaikgaaGreatDoor
open Go Go.RowKit Nw

end Go.Proofs.YtldfencaoaikgaaGreatDoor

namespace Go.Proofs.YtldfencaoaikgaaGreatDoor
open Go Go.RowKit Nw

theorem nv_ns {w : World} {N : Net} {An Ar : Option Addr} {n cn r cr : Nat} (h : NV w (.agg #[.slice An n cn, .slice Ar r cr]) N) : LX CN 3 w An N.ns := by
 obtain ⟨_, _, e, hn, hr⟩ := h
 cases e
 obtain ⟨A, c, e, _, _, hx⟩ := hn.open_
 cases e; exact hx
theorem nv_rs {w : World} {N : Net} {An Ar : Option Addr} {n cn r cr : Nat} (h : NV w (.agg #[.slice An n cn, .slice Ar r cr]) N) : LX CR 6 w Ar N.rs := by
 obtain ⟨_, _, e, hn, hr⟩ := h
 cases e
 obtain ⟨A, c, e, _, _, hx⟩ := hr.open_
 cases e; exact hx
end Go.Proofs.YtldfencaoaikgaaGreatDoor
