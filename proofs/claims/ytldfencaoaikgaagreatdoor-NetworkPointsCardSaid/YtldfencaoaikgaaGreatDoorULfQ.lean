/-
  The law: the point of a place.
-/
import Derived.Test.YtldfencaoaikgaaGreatDoorUNi
set_option linter.unusedSimpArgs false
set_option linter.unusedVariables false
namespace Go.Proofs.YtldfencaoaikgaaGreatDoor
open Go Go.RowKit Nw

theorem point_law {N : Net} {r : Rd} {a b : Nd} {p : Pc} {ql ax ay dx dy f : Rat} (ha : fnd N.ns r.f = some a) (hb : fnd N.ns r.t = some b) (h1 : ql = (r.l : Rat)) (h2 : ax = (a.x : Rat)) (h3 : ay = (a.y : Rat)) (h4 : dx = ((b.x - a.x : Int) : Rat)) (h5 : dy = ((b.y - a.y : Int) : Rat)) (h6 : p.q / ql = f) :
    pointN N r p.q = (ax + f * dx, ay + f * dy) := by
  rw [pointN_of ha hb]
  subst h1; subst h2; subst h3; subst h4; subst h5; subst h6
  unfold pointE Pl.divide Pl.addP Pl.scaleP Pl.subP
  rw [Rat.intCast_sub, Rat.intCast_sub]
  exact Prod.ext (by show _ + (_ - _) * _ = _; grind) (by show _ + (_ - _) * _ = _; grind)
theorem fnd_bd {N : Net} (g : Vld N) {id : Int} {a : Nd} (h : fnd N.ns id = some a) : -1048576 ≤ a.x ∧ a.x ≤ 1048576 ∧ -1048576 ≤ a.y ∧ a.y ≤ 1048576 := (g.on a (fnd_of h).1).2.2

set_option maxRecDepth 100000 in
set_option maxHeartbeats 2000000 in
theorem lpoint_any (N : Net) (r : Rd) (p : Pc) (x : Rat × Rat) (v : Value) (w : World) (h : NV w v N) (g : Vld N) (hat : Nw.At N r p) (hq : Pl.Sz 2000 p.q) (hx : pointN N r p.q = x) :
    Calls Tryz.prog 22 #[v, .agg #[.int .i64 p.r, .bool (ng p.q.num), .string (mg p.q.num.natAbs), .bool false, .string (mg (dn p.q))]] w fun e w' => e = .returned (.agg #[.bool (ng x.1.num), .string (mg x.1.num.natAbs), .bool false, .string (mg (dn x.1)), .bool (ng x.2.num), .string (mg x.2.num.natAbs), .bool false, .string (mg (dn x.2))]) ∧ Below w.heap.size w w' := by
  have hr := hat.f
  have hrok := hat.ok g
  have hl1 := hrok.2.2.1
  have hl2 := hrok.2.2.2.1
  obtain ⟨a, ha⟩ := Option.isSome_iff_exists.1 hrok.2.2.2.2.2.2.2.1
  obtain ⟨b, hb⟩ := Option.isSome_iff_exists.1 hrok.2.2.2.2.2.2.2.2
  obtain ⟨hax1, hax2, hay1, hay2⟩ := fnd_bd g ha
  obtain ⟨hbx1, hbx2, hby1, hby2⟩ := fnd_bd g hb
  obtain ⟨j, hj, hj2⟩ := frd_idx hr
  obtain ⟨ja, hja, hja2⟩ := fnd_idx ha
  obtain ⟨jb, hjb, hjb2⟩ := fnd_idx hb
  obtain ⟨ql, hql⟩ : ∃ q : Rat, q = (r.l : Rat) := ⟨_, rfl⟩
  obtain ⟨ax, hax⟩ : ∃ q : Rat, q = (a.x : Rat) := ⟨_, rfl⟩
  obtain ⟨ay, hay⟩ : ∃ q : Rat, q = (a.y : Rat) := ⟨_, rfl⟩
  obtain ⟨dx, hdx⟩ : ∃ d : Int, b.x - a.x = d := ⟨_, rfl⟩
  obtain ⟨dy, hdy⟩ : ∃ d : Int, b.y - a.y = d := ⟨_, rfl⟩
  obtain ⟨dxq, hdxq⟩ : ∃ q : Rat, q = (dx : Rat) := ⟨_, rfl⟩
  obtain ⟨dyq, hdyq⟩ : ∃ q : Rat, q = (dy : Rat) := ⟨_, rfl⟩
  obtain ⟨f, hf⟩ : ∃ q : Rat, p.q / ql = q := ⟨_, rfl⟩
  obtain ⟨mx, hmx⟩ : ∃ q : Rat, f * dxq = q := ⟨_, rfl⟩
  obtain ⟨my, hmy⟩ : ∃ q : Rat, f * dyq = q := ⟨_, rfl⟩
  obtain ⟨px, hpx⟩ : ∃ q : Rat, ax + mx = q := ⟨_, rfl⟩
  obtain ⟨py, hpy⟩ : ∃ q : Rat, ay + my = q := ⟨_, rfl⟩
  have ex : x = (px, py) := by
    rw [← hx, point_law (dx := dxq) (dy := dyq) ha hb hql hax hay (by rw [hdxq, ← hdx]) (by rw [hdyq, ← hdy]) hf, hmx, hmy, hpx, hpy]
  subst ex
  have ZQL : Pl.Sz 4 ql := by rw [hql]; exact sz_small (by omega) (by omega)
  have ZAX : Pl.Sz 4 ax := by rw [hax]; exact sz_small (by omega) (by omega)
  have ZAY : Pl.Sz 4 ay := by rw [hay]; exact sz_small (by omega) (by omega)
  have ZDX : Pl.Sz 4 dxq := by rw [hdxq]; exact sz_small (by omega) (by omega)
  have ZDY : Pl.Sz 4 dyq := by rw [hdyq]; exact sz_small (by omega) (by omega)
  have ZF : Pl.Sz 2004 f := by rw [← hf]; exact hq.div ZQL
  have ZMX : Pl.Sz 2008 mx := by rw [← hmx]; exact ZF.mul ZDX
  have ZMY : Pl.Sz 2008 my := by rw [← hmy]; exact ZF.mul ZDY
  have hnz : ql ≠ 0 := by rw [hql]; exact l_ne hl1
  have HWX := Lib.hid (i64_small (a := dx) (by omega) (by omega))
  have HWY := Lib.hid (i64_small (a := dy) (by omega) (by omega))
  have hdx1 : -2097152 ≤ dx := by omega
  have hdx2 : dx ≤ 2097152 := by omega
  have hdy1 : -2097152 ≤ dy := by omega
  have hdy2 : dy ≤ 2097152 := by omega
  have hjl : j < N.rs.length := (List.getElem?_eq_some_iff.1 hj2).1
  have hjal : ja < N.ns.length := (List.getElem?_eq_some_iff.1 hja2).1
  have hjbl : jb < N.ns.length := (List.getElem?_eq_some_iff.1 hjb2).1
  have HJ := Lib.hid hj
  have HJ2 := Lib.hid hj2
  have HJA := Lib.hid hja
  have HJA2 := Lib.hid hja2
  have HJB := Lib.hid hjb
  have HJB2 := Lib.hid hjb2
  have HQL := Lib.hid hql
  have HAX := Lib.hid hax
  have HAY := Lib.hid hay
  have HDX := Lib.hid hdxq
  have HDY := Lib.hid hdyq
  have HF := Lib.hid hf
  have HMX := Lib.hid hmx
  have HMY := Lib.hid hmy
  have HPX := Lib.hid hpx
  have HPY := Lib.hid hpy
  have HNZ := Lib.hid hnz
  have HEX := Lib.hid hdx
  have HEY := Lib.hid hdy
  clear hr hrok ha hb hj hj2 hja hja2 hjb hjb2 hql hax hay hdxq hdyq hf hmx hmy hpx hpy hnz hdx hdy hx hat
  obtain ⟨_, _, rfl, hn, hr⟩ := h
  obtain ⟨An, cn, rfl, hcn, hmn, hxn⟩ := hn.open_
  obtain ⟨Ar, cr, rfl, hcr, hmr, hxr⟩ := hr.open_
  have HNV : Hid (NV w (.agg #[.slice An N.ns.length cn, .slice Ar N.rs.length cr]) N) := Lib.hid ⟨_, _, rfl, hn, hr⟩
  have HXN := Lib.hid hxn
  have HXR := Lib.hid hxr
  have HG := Lib.hid g
  have hln := g.ln
  have hlr := g.lr
  generalize hNn : N.ns.length = Nn at *
  generalize hNr : N.rs.length = Nr at *
  have HNn := Lib.hid hNn
  have HNr := Lib.hid hNr
  clear hn hr hxn hxr g hNn hNr
  have i1j : (j : Int) < Nr := by omega
  have i1ja : (ja : Int) < Nn := by omega
  have i1jb : (jb : Int) < Nn := by omega
  have i0j : (0 : Int) ≤ j := Int.natCast_nonneg _
  have i0ja : (0 : Int) ≤ ja := Int.natCast_nonneg _
  have i0jb : (0 : Int) ≤ jb := Int.natCast_nonneg _
  go_enter Tryz.func22, Tryz.ntmps22
  go_upto_region 1 with fail
  refine wp_named ?_
  intro W1 hW1
  have hL1 : Below w.heap.size w W1 := by
    rw [hW1]
    repeat (first | with_reducible exact Below.refl _ _ | with_reducible refine bel_alloc ?_ _ | refine Below.setCell ?_ (by first | (simp; done) | (simp; omega) | omega) _)
  have c1 : Own W1 (w.heap.size) 0 [.slice An Nn cn, .slice Ar Nr cr] := by
    rw [hW1]
    first
    | (repeat (first | (with_reducible refine own_new (l := [.slice An Nn cn, .slice Ar Nr cr]) ?_; (simp; done)) | with_reducible refine Own.alloc ?_ _ | refine Own.far _ _ (by first | (simp; done) | (simp [*]; done) | (simp; omega)) ?_)); done
    | simp [Own, go_sem]
  have c2 : Own W1 (w.heap.size + 1) 0 [.int .i64 p.r, .bool (ng p.q.num), .string (mg p.q.num.natAbs), .bool false, .string (mg (dn p.q))] := by
    rw [hW1]
    first
    | (repeat (first | (with_reducible refine own_new (l := [.int .i64 p.r, .bool (ng p.q.num), .string (mg p.q.num.natAbs), .bool false, .string (mg (dn p.q))]) ?_; (simp; done)) | with_reducible refine Own.alloc ?_ _ | refine Own.far _ _ (by first | (simp; done) | (simp [*]; done) | (simp; omega)) ?_)); done
    | simp [Own, go_sem]
  have c3 : Own W1 (w.heap.size + 2) 0 [.bool false, .string ⟨#[]⟩, .bool false, .string ⟨#[]⟩, .bool false, .string ⟨#[]⟩, .bool false, .string ⟨#[]⟩] := by
    rw [hW1]
    first
    | (repeat (first | (with_reducible refine own_new (l := [.bool false, .string ⟨#[]⟩, .bool false, .string ⟨#[]⟩, .bool false, .string ⟨#[]⟩, .bool false, .string ⟨#[]⟩]) ?_; (simp; done)) | with_reducible refine Own.alloc ?_ _ | refine Own.far _ _ (by first | (simp; done) | (simp [*]; done) | (simp; omega)) ?_)); done
    | simp [Own, go_sem]
  have hB4 : Below w.heap.size w W1 := by
    rw [hW1]
    repeat (first | with_reducible exact Below.refl _ _ | with_reducible refine bel_alloc ?_ _ | refine Below.setCell ?_ (by first | (simp; done) | (simp; omega) | omega) _)
  clear hW1 hL1
  have K6 := Lib.hid (fun W (hv : NV W (.agg #[.slice An Nn cn, .slice Ar Nr cr]) N) => lroad_j N p.r j _ W hv ⟨by rw [HNn.out]; exact hln, by rw [HNr.out]; exact hlr⟩ HJ.out)
  obtain ⟨g9, o10, ha11, -⟩ := (HXR.out).up kpR hB4 _ _ HJ2.out
  subst ha11
  have ce8 := LX.at_ ((HXR.out).up kpR hB4) HJ2.out
  have ce8_ : g9 < W1.heap.size := World.block_lt_of_cell? _ _ ce8.1
  refine wp_region_new1 9 8 5 [.int .i64 0, .int .i64 0, .int .i64 0, .int .i64 0, .int .i64 0, .bool false] 67 (by kernel_rfl) (by kernel_rfl) rfl rfl rfl rfl (by intro h_; cases h_) (by simp) (run_alloc_zero Tryz.zeroValue67 rfl) (by kernel_rfl) ?_
  intro V_5 hV_5
  have vc1 := c1.up hV_5; have dc1 := fun p : Bel V_5 => vc1.bel p
  have vc2 := c2.up hV_5; have dc2 := fun p : Bel V_5 => vc2.bel p
  have vc3 := c3.up hV_5; have dc3 := fun p : Bel V_5 => vc3.bel p
  simp only [At, Own, Nat.reduceAdd, and_true] at dc1 dc2 dc3
  have vce8 := ce8.up hV_5; have dce8 := fun b : Bel V_5 => vce8.bel b
  simp only [CR, rdc, At, Nat.reduceMul] at dce8
  have hBV_5 := bel_up hB4 hV_5
  simp only [List.map_cons, List.map_nil, maskOp, List.take_succ_cons, List.take_zero]
  repeat (go_big_quiet_step (first | (go_at_call 31; with_reducible exact Calls.bel (K6.out _ (HNV.out.up (bel_up hBV_5 (Bel.h _)))))))
  refine wpQuiet_nil ?_
  refine ⟨[.int .i64 r.i, .int .i64 r.f, .int .i64 r.t, .int .i64 r.l, .int .i64 r.m, .bool r.o], rfl, rfl, by simp [Value.oneCell'], ?_⟩
  intro bq7 wn_5 hbn_5 lbq7 mbq7 c12
  simp only [Act.put, List.setIfInBounds_toArray, List.set_cons_zero, List.set_cons_succ]
  have ne13 : w.heap.size ≠ bq7 := by have := c1.lt; omega
  have ne13' := ne13.symm
  have ne14 : w.heap.size + 1 ≠ bq7 := by have := c2.lt; omega
  have ne14' := ne14.symm
  have ne15 : w.heap.size + 2 ≠ bq7 := by have := c3.lt; omega
  have ne15' := ne15.symm
  have wbq7 := Nat.le_trans hB4.size lbq7
  clear hBV_5 dce8 vce8 dc3 vc3 dc2 vc2 dc1 vc1 hV_5 V_5
  have c16 := c1.up hbn_5
  have c17 := c2.up hbn_5
  have c18 := c3.up hbn_5
  have hB19 : Below w.heap.size w wn_5 := bel_up hB4 hbn_5
  clear c1 c2 c3
  go_upto_region 2 with fail
  refine wp_named ?_
  intro W2 hW2
  have hL2 : Below wn_5.heap.size wn_5 W2 := by
    rw [hW2]
    repeat (first | with_reducible exact Below.refl _ _ | with_reducible refine bel_alloc ?_ _ | refine Below.setCell ?_ (by first | (simp; done) | (simp; omega) | omega) _)
  have c20 := c16.up hL2
  have c21 := c17.up hL2
  have c22 := c18.up hL2
  have c23 := c12.up hL2
  have hB24 : Below w.heap.size w W2 := by
    rw [hW2]
    repeat (first | with_reducible exact hB19 | with_reducible refine bel_alloc ?_ _ | refine Below.setCell ?_ (by first | (simp; done) | (simp; omega) | omega) _)
  clear hW2 hL2 c16 c17 c18 c12
  have K26 := Lib.hid (fun W (hv : NV W (.agg #[.slice An Nn cn, .slice (some ⟨g9, o10, none⟩) Nr cr]) N) => lnode_j N r.f ja _ W hv ⟨by rw [HNn.out]; exact hln, by rw [HNr.out]; exact hlr⟩ HJA.out)
  have K27 := Lib.hid (fun W (hv : NV W (.agg #[.slice An Nn cn, .slice (some ⟨g9, o10, none⟩) Nr cr]) N) => lnode_j N r.t jb _ W hv ⟨by rw [HNn.out]; exact hln, by rw [HNr.out]; exact hlr⟩ HJB.out)
  obtain ⟨g31, o32, ha33, -⟩ := (HXN.out).up kpN hB24 _ _ HJA2.out
  subst ha33
  have ce30 := LX.at_ ((HXN.out).up kpN hB24) HJA2.out
  have ce30_ : g31 < W2.heap.size := World.block_lt_of_cell? _ _ ce30.1
  have ce34 := LX.at_ ((HXN.out).up kpN hB24) HJB2.out
  have ce34_ : g31 < W2.heap.size := World.block_lt_of_cell? _ _ ce34.1
  refine wp_region_new2s 18 16 6 17 7 [.int .i64 0, .int .i64 0, .int .i64 0] [.int .i64 0, .int .i64 0, .int .i64 0] 53 53 (by kernel_rfl) rfl rfl rfl rfl rfl rfl rfl (by kernel_rfl) rfl rfl (by simp) (by simp) (run_alloc_zero Tryz.zeroValue53 rfl) (by kernel_rfl) (run_alloc_zero Tryz.zeroValue53 rfl) (by kernel_rfl) ?_
  intro V_25 hV_25
  have vc20 := c20.up hV_25; have dc20 := fun p : Bel V_25 => vc20.bel p
  have vc21 := c21.up hV_25; have dc21 := fun p : Bel V_25 => vc21.bel p
  have vc22 := c22.up hV_25; have dc22 := fun p : Bel V_25 => vc22.bel p
  have vc23 := c23.up hV_25; have dc23 := fun p : Bel V_25 => vc23.bel p
  simp only [At, Own, Nat.reduceAdd, and_true] at dc20 dc21 dc22 dc23
  have vce30 := ce30.up hV_25; have dce30 := fun b : Bel V_25 => vce30.bel b
  simp only [CN, ndc, At, Nat.reduceMul] at dce30
  have vce34 := ce34.up hV_25; have dce34 := fun b : Bel V_25 => vce34.bel b
  simp only [CN, ndc, At, Nat.reduceMul] at dce34
  have hBV_25 := bel_up hB24 hV_25
  simp only [List.map_cons, List.map_nil, maskS, List.take_succ_cons, List.take_zero]
  repeat (go_big_quiet_step (first | (go_at_call 27; with_reducible exact Calls.bel (K26.out _ (HNV.out.up (bel_up hBV_25 (Bel.h _))))) | (go_at_call 27; with_reducible exact Calls.bel (K27.out _ (HNV.out.up (bel_up hBV_25 (Bel.h _)))))))
  refine wpQuiet_nil ?_
  refine ⟨[.int .i64 a.i, .int .i64 a.x, .int .i64 a.y], [.int .i64 b.i, .int .i64 b.x, .int .i64 b.y], rfl, rfl, by simp [Value.oneCell'], rfl, rfl, by simp [Value.oneCell'], ?_⟩
  intro bq28 bq29 wn_25 hbn_25 lbq28 mbq28 lbq29 mbq29 nbq28 c35 c36
  have nbq28' := nbq28.symm
  simp only [Act.put, List.setIfInBounds_toArray, List.set_cons_zero, List.set_cons_succ]
  have ne37 : w.heap.size ≠ bq28 := by have := c20.lt; omega
  have ne37' := ne37.symm
  have ne38 : w.heap.size + 1 ≠ bq28 := by have := c21.lt; omega
  have ne38' := ne38.symm
  have ne39 : w.heap.size + 2 ≠ bq28 := by have := c22.lt; omega
  have ne39' := ne39.symm
  have ne40 : bq7 ≠ bq28 := by have := c23.lt; omega
  have ne40' := ne40.symm
  have wbq28 := Nat.le_trans hB24.size lbq28
  have ne41 : w.heap.size ≠ bq29 := by have := c20.lt; omega
  have ne41' := ne41.symm
  have ne42 : w.heap.size + 1 ≠ bq29 := by have := c21.lt; omega
  have ne42' := ne42.symm
  have ne43 : w.heap.size + 2 ≠ bq29 := by have := c22.lt; omega
  have ne43' := ne43.symm
  have ne44 : bq7 ≠ bq29 := by have := c23.lt; omega
  have ne44' := ne44.symm
  have wbq29 := Nat.le_trans hB24.size lbq29
  clear hBV_25 dce34 vce34 dce30 vce30 dc23 vc23 dc22 vc22 dc21 vc21 dc20 vc20 hV_25 V_25
  have c45 := c20.up hbn_25
  have c46 := c21.up hbn_25
  have c47 := c22.up hbn_25
  have c48 := c23.up hbn_25
  have hB49 : Below w.heap.size w wn_25 := bel_up hB24 hbn_25
  clear c20 c21 c22 c23
  go_upto_region 3 with fail
  refine wp_named ?_
  intro W3 hW3
  have hL3 : Below wn_25.heap.size wn_25 W3 := by
    rw [hW3]
    repeat (first | with_reducible exact Below.refl _ _ | with_reducible refine bel_alloc ?_ _ | refine Below.setCell ?_ (by first | (simp; done) | (simp; omega) | omega) _)
  have c50 := c45.up hL3
  have c51 := c46.up hL3
  have c52 := c47.up hL3
  have c53 := c48.up hL3
  have c54 := c35.up hL3
  have c55 := c36.up hL3
  have hB56 : Below w.heap.size w W3 := by
    rw [hW3]
    repeat (first | with_reducible exact hB49 | with_reducible refine bel_alloc ?_ _ | refine Below.setCell ?_ (by first | (simp; done) | (simp; omega) | omega) _)
  clear hW3 hL3 c45 c46 c47 c48 c35 c36
  have K58 := Lib.hid (fun W => qfi_any r.l ql W HQL.out (by omega) (by omega))
  have K59 := Lib.hid (fun W => HF.out ▸ qdiv_any p.q ql W HNZ.out (hq.mono (by decide)) (ZQL.mono (by decide)))
  refine wp_region_new1l 10 8 9 8 9 [.bool false, .string ⟨#[]⟩, .bool false, .string ⟨#[]⟩] 40 (by kernel_rfl) rfl rfl rfl rfl (by kernel_rfl) (by kernel_rfl) rfl rfl rfl rfl rfl rfl rfl ⟨(by intro h_; cases h_), (by intro h_; cases h_), (by intro h_; cases h_)⟩ (by kernel_rfl) (by simp) (run_alloc_zero Tryz.zeroValue40 rfl) (by kernel_rfl) ?_
  intro V_57 hV_57
  have vc50 := c50.up hV_57; have dc50 := fun p : Bel V_57 => vc50.bel p
  have vc51 := c51.up hV_57; have dc51 := fun p : Bel V_57 => vc51.bel p
  have vc52 := c52.up hV_57; have dc52 := fun p : Bel V_57 => vc52.bel p
  have vc53 := c53.up hV_57; have dc53 := fun p : Bel V_57 => vc53.bel p
  have vc54 := c54.up hV_57; have dc54 := fun p : Bel V_57 => vc54.bel p
  have vc55 := c55.up hV_57; have dc55 := fun p : Bel V_57 => vc55.bel p
  simp only [At, Own, Nat.reduceAdd, and_true] at dc50 dc51 dc52 dc53 dc54 dc55
  have hBV_57 := bel_up hB56 hV_57
  simp only [waitL, List.getElem?_cons_succ, List.getElem?_cons_zero, List.set_cons_succ, List.set_cons_zero, List.map_cons, List.map_nil, maskOp, List.take_succ_cons, List.take_zero]
  repeat (go_big_quiet_step (first | (go_at_call 37; with_reducible exact Calls.bel (K58.out _)) | (go_at_call 56; with_reducible exact Calls.bel (K59.out _))))
  refine wpQuiet_nil ?_
  refine ⟨[.bool (ng f.num), .string (mg f.num.natAbs), .bool false, .string (mg (dn f))], rfl, rfl, by simp [Value.oneCell'], ?_⟩
  intro bq60 wn_57 hbn_57 lbq60 mbq60 c61
  simp only [Act.put, List.setIfInBounds_toArray, List.set_cons_zero, List.set_cons_succ]
  have ne62 : w.heap.size ≠ bq60 := by have := c50.lt; omega
  have ne62' := ne62.symm
  have ne63 : w.heap.size + 1 ≠ bq60 := by have := c51.lt; omega
  have ne63' := ne63.symm
  have ne64 : w.heap.size + 2 ≠ bq60 := by have := c52.lt; omega
  have ne64' := ne64.symm
  have ne65 : bq7 ≠ bq60 := by have := c53.lt; omega
  have ne65' := ne65.symm
  have ne66 : bq28 ≠ bq60 := by have := c54.lt; omega
  have ne66' := ne66.symm
  have ne67 : bq29 ≠ bq60 := by have := c55.lt; omega
  have ne67' := ne67.symm
  have wbq60 := Nat.le_trans hB56.size lbq60
  clear hBV_57 dc55 vc55 dc54 vc54 dc53 vc53 dc52 vc52 dc51 vc51 dc50 vc50 hV_57 V_57
  have c68 := c50.up hbn_57
  have c69 := c51.up hbn_57
  have c70 := c52.up hbn_57
  have c71 := c53.up hbn_57
  have c72 := c54.up hbn_57
  have c73 := c55.up hbn_57
  have hB74 : Below w.heap.size w wn_57 := bel_up hB56 hbn_57
  clear c50 c51 c52 c53 c54 c55
  have hex := HEX.out
  obtain ⟨wx1, wx2⟩ := HWX.out
  go_upto_region 4 with fail
  refine wp_named ?_
  intro W4 hW4
  have hL4 : Below wn_57.heap.size wn_57 W4 := by
    rw [hW4]
    repeat (first | with_reducible exact Below.refl _ _ | with_reducible refine bel_alloc ?_ _ | refine Below.setCell ?_ (by first | (simp; done) | (simp; omega) | omega) _)
  have c75 := c68.up hL4
  have c76 := c69.up hL4
  have c77 := c70.up hL4
  have c78 := c71.up hL4
  have c79 := c72.up hL4
  have c80 := c73.up hL4
  have c81 := c61.up hL4
  have hB82 : Below w.heap.size w W4 := by
    rw [hW4]
    repeat (first | with_reducible exact hB74 | with_reducible refine bel_alloc ?_ _ | refine Below.setCell ?_ (by first | (simp; done) | (simp; omega) | omega) _)
  clear hW4 hL4 c68 c69 c70 c71 c72 c73 c61
  have K84 := Lib.hid (fun W => qfi_any a.x ax W HAX.out (by omega) (by omega))
  have K85 := Lib.hid (fun W => qfi_any dx dxq W HDX.out (by omega) (by omega))
  have K86 := Lib.hid (fun W => HMX.out ▸ qmul_any f dxq W (ZF.mono (by decide)) (ZDX.mono (by decide)))
  have K87 := Lib.hid (fun W => HPX.out ▸ qadd_any ax mx W (ZAX.mono (by decide)) (ZMX.mono (by decide)))
  refine wp_region_new1 13 12 10 [.bool false, .string ⟨#[]⟩, .bool false, .string ⟨#[]⟩] 40 (by kernel_rfl) (by kernel_rfl) rfl rfl rfl rfl (by intro h_; cases h_) (by simp) (run_alloc_zero Tryz.zeroValue40 rfl) (by kernel_rfl) ?_
  intro V_83 hV_83
  have vc75 := c75.up hV_83; have dc75 := fun p : Bel V_83 => vc75.bel p
  have vc76 := c76.up hV_83; have dc76 := fun p : Bel V_83 => vc76.bel p
  have vc77 := c77.up hV_83; have dc77 := fun p : Bel V_83 => vc77.bel p
  have vc78 := c78.up hV_83; have dc78 := fun p : Bel V_83 => vc78.bel p
  have vc79 := c79.up hV_83; have dc79 := fun p : Bel V_83 => vc79.bel p
  have vc80 := c80.up hV_83; have dc80 := fun p : Bel V_83 => vc80.bel p
  have vc81 := c81.up hV_83; have dc81 := fun p : Bel V_83 => vc81.bel p
  simp only [At, Own, Nat.reduceAdd, and_true] at dc75 dc76 dc77 dc78 dc79 dc80 dc81
  have hBV_83 := bel_up hB82 hV_83
  simp only [List.map_cons, List.map_nil, maskOp, List.take_succ_cons, List.take_zero]
  repeat (go_big_quiet_step (first | (go_at_call 37; with_reducible exact Calls.bel (K84.out _)) | (go_at_call 37; with_reducible exact Calls.bel (K85.out _)) | (go_at_call 63; with_reducible exact Calls.bel (K86.out _)) | (go_at_call 62; with_reducible exact Calls.bel (K87.out _))))
  refine wpQuiet_nil ?_
  refine ⟨[.bool (ng px.num), .string (mg px.num.natAbs), .bool false, .string (mg (dn px))], rfl, rfl, by simp [Value.oneCell'], ?_⟩
  intro bq88 wn_83 hbn_83 lbq88 mbq88 c89
  simp only [Act.put, List.setIfInBounds_toArray, List.set_cons_zero, List.set_cons_succ]
  have ne90 : w.heap.size ≠ bq88 := by have := c75.lt; omega
  have ne90' := ne90.symm
  have ne91 : w.heap.size + 1 ≠ bq88 := by have := c76.lt; omega
  have ne91' := ne91.symm
  have ne92 : w.heap.size + 2 ≠ bq88 := by have := c77.lt; omega
  have ne92' := ne92.symm
  have ne93 : bq7 ≠ bq88 := by have := c78.lt; omega
  have ne93' := ne93.symm
  have ne94 : bq28 ≠ bq88 := by have := c79.lt; omega
  have ne94' := ne94.symm
  have ne95 : bq29 ≠ bq88 := by have := c80.lt; omega
  have ne95' := ne95.symm
  have ne96 : bq60 ≠ bq88 := by have := c81.lt; omega
  have ne96' := ne96.symm
  have wbq88 := Nat.le_trans hB82.size lbq88
  clear hBV_83 dc81 vc81 dc80 vc80 dc79 vc79 dc78 vc78 dc77 vc77 dc76 vc76 dc75 vc75 hV_83 V_83
  have c97 := c75.up hbn_83
  have c98 := c76.up hbn_83
  have c99 := c77.up hbn_83
  have c100 := c78.up hbn_83
  have c101 := c79.up hbn_83
  have c102 := c80.up hbn_83
  have c103 := c81.up hbn_83
  have hB104 : Below w.heap.size w wn_83 := bel_up hB82 hbn_83
  clear c75 c76 c77 c78 c79 c80 c81
  clear hex wx1 wx2
  have hey := HEY.out
  obtain ⟨wy1, wy2⟩ := HWY.out
  go_upto_region 5 with fail
  refine wp_named ?_
  intro W5 hW5
  have hL5 : Below wn_83.heap.size wn_83 W5 := by
    rw [hW5]
    repeat (first | with_reducible exact Below.refl _ _ | with_reducible refine bel_alloc ?_ _ | refine Below.setCell ?_ (by first | (simp; done) | (simp; omega) | omega) _)
  have c105 := c97.up hL5
  have c106 := c98.up hL5
  have c107 := c99.up hL5
  have c108 := c100.up hL5
  have c109 := c101.up hL5
  have c110 := c102.up hL5
  have c111 := c103.up hL5
  have c112 := c89.up hL5
  have hB113 : Below w.heap.size w W5 := by
    rw [hW5]
    repeat (first | with_reducible exact hB104 | with_reducible refine bel_alloc ?_ _ | refine Below.setCell ?_ (by first | (simp; done) | (simp; omega) | omega) _)
  clear hW5 hL5 c97 c98 c99 c100 c101 c102 c103 c89
  have K115 := Lib.hid (fun W => qfi_any a.y ay W HAY.out (by omega) (by omega))
  have K116 := Lib.hid (fun W => qfi_any dy dyq W HDY.out (by omega) (by omega))
  have K117 := Lib.hid (fun W => HMY.out ▸ qmul_any f dyq W (ZF.mono (by decide)) (ZDY.mono (by decide)))
  have K118 := Lib.hid (fun W => HPY.out ▸ qadd_any ay my W (ZAY.mono (by decide)) (ZMY.mono (by decide)))
  refine wp_region_new1 13 12 11 [.bool false, .string ⟨#[]⟩, .bool false, .string ⟨#[]⟩] 40 (by kernel_rfl) (by kernel_rfl) rfl rfl rfl rfl (by intro h_; cases h_) (by simp) (run_alloc_zero Tryz.zeroValue40 rfl) (by kernel_rfl) ?_
  intro V_114 hV_114
  have vc105 := c105.up hV_114; have dc105 := fun p : Bel V_114 => vc105.bel p
  have vc106 := c106.up hV_114; have dc106 := fun p : Bel V_114 => vc106.bel p
  have vc107 := c107.up hV_114; have dc107 := fun p : Bel V_114 => vc107.bel p
  have vc108 := c108.up hV_114; have dc108 := fun p : Bel V_114 => vc108.bel p
  have vc109 := c109.up hV_114; have dc109 := fun p : Bel V_114 => vc109.bel p
  have vc110 := c110.up hV_114; have dc110 := fun p : Bel V_114 => vc110.bel p
  have vc111 := c111.up hV_114; have dc111 := fun p : Bel V_114 => vc111.bel p
  have vc112 := c112.up hV_114; have dc112 := fun p : Bel V_114 => vc112.bel p
  simp only [At, Own, Nat.reduceAdd, and_true] at dc105 dc106 dc107 dc108 dc109 dc110 dc111 dc112
  have hBV_114 := bel_up hB113 hV_114
  simp only [List.map_cons, List.map_nil, maskOp, List.take_succ_cons, List.take_zero]
  repeat (go_big_quiet_step (first | (go_at_call 37; with_reducible exact Calls.bel (K115.out _)) | (go_at_call 37; with_reducible exact Calls.bel (K116.out _)) | (go_at_call 63; with_reducible exact Calls.bel (K117.out _)) | (go_at_call 62; with_reducible exact Calls.bel (K118.out _))))
  refine wpQuiet_nil ?_
  refine ⟨[.bool (ng py.num), .string (mg py.num.natAbs), .bool false, .string (mg (dn py))], rfl, rfl, by simp [Value.oneCell'], ?_⟩
  intro bq119 wn_114 hbn_114 lbq119 mbq119 c120
  simp only [Act.put, List.setIfInBounds_toArray, List.set_cons_zero, List.set_cons_succ]
  have ne121 : w.heap.size ≠ bq119 := by have := c105.lt; omega
  have ne121' := ne121.symm
  have ne122 : w.heap.size + 1 ≠ bq119 := by have := c106.lt; omega
  have ne122' := ne122.symm
  have ne123 : w.heap.size + 2 ≠ bq119 := by have := c107.lt; omega
  have ne123' := ne123.symm
  have ne124 : bq7 ≠ bq119 := by have := c108.lt; omega
  have ne124' := ne124.symm
  have ne125 : bq28 ≠ bq119 := by have := c109.lt; omega
  have ne125' := ne125.symm
  have ne126 : bq29 ≠ bq119 := by have := c110.lt; omega
  have ne126' := ne126.symm
  have ne127 : bq60 ≠ bq119 := by have := c111.lt; omega
  have ne127' := ne127.symm
  have ne128 : bq88 ≠ bq119 := by have := c112.lt; omega
  have ne128' := ne128.symm
  have wbq119 := Nat.le_trans hB113.size lbq119
  clear hBV_114 dc112 vc112 dc111 vc111 dc110 vc110 dc109 vc109 dc108 vc108 dc107 vc107 dc106 vc106 dc105 vc105 hV_114 V_114
  have c129 := c105.up hbn_114
  have c130 := c106.up hbn_114
  have c131 := c107.up hbn_114
  have c132 := c108.up hbn_114
  have c133 := c109.up hbn_114
  have c134 := c110.up hbn_114
  have c135 := c111.up hbn_114
  have c136 := c112.up hbn_114
  have hB137 : Below w.heap.size w wn_114 := bel_up hB113 hbn_114
  clear c105 c106 c107 c108 c109 c110 c111 c112
  clear hey wy1 wy2
  have uc129 := c129; have uc130 := c130; have uc131 := c131; have uc132 := c132; have uc133 := c133; have uc134 := c134; have uc135 := c135; have uc136 := c136; have uc120 := c120
  simp only [At, Own, Nat.reduceAdd, and_true] at uc129 uc130 uc131 uc132 uc133 uc134 uc135 uc136 uc120
  go_wp2
  refine bodyPost_ret (v := .agg #[.bool (ng px.num), .string (mg px.num.natAbs), .bool false, .string (mg (dn px)), .bool (ng py.num), .string (mg py.num.natAbs), .bool false, .string (mg (dn py))]) (by simp [results, Tryz.results22, go_sem, uc129, uc130, uc131, uc132, uc133, uc134, uc135, uc136, uc120]) rfl ⟨rfl, ?_⟩
  repeat (first | with_reducible exact hB137 | with_reducible refine bel_alloc ?_ _ | refine Below.setCell ?_ (by first | (simp; done) | (simp; omega) | omega) _)
end Go.Proofs.YtldfencaoaikgaaGreatDoor
