/-
  The law Nodes.
-/
import Derived.Test.YtldfencaoaikgaaGreatDoorULfS
set_option linter.unusedSimpArgs false
set_option linter.unusedVariables false
namespace Go.Proofs.YtldfencaoaikgaaGreatDoor
open Go Go.RowKit Nw

set_option maxRecDepth 100000 in
set_option maxHeartbeats 4000000 in
theorem nat_none (N : Net) (id : Int) (v : Value) (w : World) (h : NV w v N) (g : Vld N) (ha : fnd N.ns id = none) :
    Calls Tryz.prog 42 #[v, .int .i64 id] w fun e w' => e = .returned (.tuple #[.agg #[.int .i64 0, .bool false, .string ⟨#[]⟩, .bool false, .string ⟨#[]⟩], .int .i64 9]) ∧ Below w.heap.size w w' := by
  have HA := Lib.hid ha
  clear ha
  obtain ⟨_, _, rfl, hn, hr⟩ := h
  obtain ⟨An, cn, rfl, hcn, hmn, hxn⟩ := hn.open_
  obtain ⟨Ar, cr, rfl, hcr, hmr, hxr⟩ := hr.open_
  have HNV : Hid (NV w (.agg #[.slice An N.ns.length cn, .slice Ar N.rs.length cr]) N) := Lib.hid ⟨_, _, rfl, hn, hr⟩
  have HXN := Lib.hid hxn
  have HXR := Lib.hid hxr
  have HG := Lib.hid g
  have hln := g.ln
  have hlr := g.lr
  generalize hNn : N.ns.length = Nn at *
  generalize hNr : N.rs.length = Nr at *
  have HNn := Lib.hid hNn
  have HNr := Lib.hid hNr
  clear hn hr hxn hxr g hNn hNr
  go_enter Tryz.func42, Tryz.ntmps42
  have K1 := Lib.hid (fun W (hv : NV W (.agg #[.slice An Nn cn, .slice Ar Nr cr]) N) => node_none N id _ W hv HG.out.half HA.out)
  go_wp2_with (fail)
  refine calls_named ?_
  intro W1 hW1
  have hL1 : Below w.heap.size w W1 := by
    rw [hW1]
    repeat (first | with_reducible exact Below.refl _ _ | with_reducible refine bel_alloc ?_ _ | refine Below.setCell ?_ (by first | (simp; done) | (simp; omega) | omega) _)
  have c2 : Own W1 (w.heap.size) 0 [.slice An Nn cn, .slice Ar Nr cr] := by
    rw [hW1]
    first
    | (repeat (first | (with_reducible refine own_new (l := [.slice An Nn cn, .slice Ar Nr cr]) ?_; (simp; done)) | with_reducible refine Own.alloc ?_ _ | refine Own.far _ _ (by first | (simp; done) | (simp [*]; done) | (simp; omega)) ?_)); done
    | simp [Own, go_sem]
  have c3 : Own W1 (w.heap.size + 1) 0 [.int .i64 0, .bool false, .string ⟨#[]⟩, .bool false, .string ⟨#[]⟩] := by
    rw [hW1]
    first
    | (repeat (first | (with_reducible refine own_new (l := [.int .i64 0, .bool false, .string ⟨#[]⟩, .bool false, .string ⟨#[]⟩]) ?_; (simp; done)) | with_reducible refine Own.alloc ?_ _ | refine Own.far _ _ (by first | (simp; done) | (simp [*]; done) | (simp; omega)) ?_)); done
    | simp [Own, go_sem]
  have hB4 : Below w.heap.size w W1 := by
    rw [hW1]
    repeat (first | with_reducible exact Below.refl _ _ | with_reducible refine bel_alloc ?_ _ | refine Below.setCell ?_ (by first | (simp; done) | (simp; omega) | omega) _)
  clear hW1 hL1
  with_reducible refine (K1.out _ (HNV.out.up hB4)).mono ?_
  rintro e w1 ⟨rfl, hb1⟩
  have c5 := c2.up hb1
  have c6 := c3.up hb1
  have hB7 : Below w.heap.size w w1 := bel_up hB4 hb1
  clear c2 c3
  have ne8_ : w.heap.size < w1.heap.size := by have := c5.lt; omega
  have ne8 := Nat.ne_of_lt ne8_
  have ne8' := ne8.symm
  have ne9_ : w.heap.size + 1 < w1.heap.size := by have := c6.lt; omega
  have ne9 := Nat.ne_of_lt ne9_
  have ne9' := ne9.symm
  have uc5 := c5; have uc6 := c6
  simp only [At, Own, Nat.reduceAdd, and_true] at uc5 uc6
  go_wp2
  refine bodyPost_ret (v := .tuple #[.agg #[.int .i64 0, .bool false, .string ⟨#[]⟩, .bool false, .string ⟨#[]⟩], .int .i64 9]) (by simp [results, Tryz.results42, go_sem, uc5, uc6, ne8, ne8', ne8_, ne9, ne9', ne9_]) rfl ⟨rfl, ?_⟩
  repeat (first | with_reducible exact hB7 | with_reducible refine bel_alloc ?_ _ | refine Below.setCell ?_ (by first | (simp; done) | (simp; omega) | omega) _)

set_option maxRecDepth 100000 in
theorem nodeat_bad (N : Net) (p : Pc) (c : Int) (v : Value) (w : World) (h : NV w v N) (g : Vld N) (hq : Pl.Sz 2000 p.q) (hp : placeE N p = c) (hc0 : ¬ c = 0) :
    Calls Tryz.prog 43 #[v, .agg #[.int .i64 p.r, .bool (ng p.q.num), .string (mg p.q.num.natAbs), .bool false, .string (mg (dn p.q))]] w fun e w' => e = .returned (.tuple #[.int .i64 0, .bool false]) ∧ Below w.heap.size w w' := by
  have HP := Lib.hid hp
  have hc0_ : (((c : Int)) == 0) = false := by simpa using hc0
  clear hp
  obtain ⟨_, _, rfl, hn, hr⟩ := h
  obtain ⟨An, cn, rfl, hcn, hmn, hxn⟩ := hn.open_
  obtain ⟨Ar, cr, rfl, hcr, hmr, hxr⟩ := hr.open_
  have HNV : Hid (NV w (.agg #[.slice An N.ns.length cn, .slice Ar N.rs.length cr]) N) := Lib.hid ⟨_, _, rfl, hn, hr⟩
  have HXN := Lib.hid hxn
  have HXR := Lib.hid hxr
  have HG := Lib.hid g
  have hln := g.ln
  have hlr := g.lr
  generalize hNn : N.ns.length = Nn at *
  generalize hNr : N.rs.length = Nr at *
  have HNn := Lib.hid hNn
  have HNr := Lib.hid hNr
  clear hn hr hxn hxr g hNn hNr
  go_enter Tryz.func43, Tryz.ntmps43
  have K1 := Lib.hid (fun W (hv : NV W (.agg #[.slice An Nn cn, .slice Ar Nr cr]) N) => cplace_any N p _ W hv HG.out hq c HP.out)
  go_wp2_with (fail)
  refine calls_named ?_
  intro W1 hW1
  have hL1 : Below w.heap.size w W1 := by
    rw [hW1]
    repeat (first | with_reducible exact Below.refl _ _ | with_reducible refine bel_alloc ?_ _ | refine Below.setCell ?_ (by first | (simp; done) | (simp; omega) | omega) _)
  have c2 : Own W1 (w.heap.size) 0 [.slice An Nn cn, .slice Ar Nr cr] := by
    rw [hW1]
    first
    | (repeat (first | (with_reducible refine own_new (l := [.slice An Nn cn, .slice Ar Nr cr]) ?_; (simp; done)) | with_reducible refine Own.alloc ?_ _ | refine Own.far _ _ (by first | (simp; done) | (simp [*]; done) | (simp; omega)) ?_)); done
    | simp [Own, go_sem]
  have c3 : Own W1 (w.heap.size + 1) 0 [.int .i64 p.r, .bool (ng p.q.num), .string (mg p.q.num.natAbs), .bool false, .string (mg (dn p.q))] := by
    rw [hW1]
    first
    | (repeat (first | (with_reducible refine own_new (l := [.int .i64 p.r, .bool (ng p.q.num), .string (mg p.q.num.natAbs), .bool false, .string (mg (dn p.q))]) ?_; (simp; done)) | with_reducible refine Own.alloc ?_ _ | refine Own.far _ _ (by first | (simp; done) | (simp [*]; done) | (simp; omega)) ?_)); done
    | simp [Own, go_sem]
  have hB4 : Below w.heap.size w W1 := by
    rw [hW1]
    repeat (first | with_reducible exact Below.refl _ _ | with_reducible refine bel_alloc ?_ _ | refine Below.setCell ?_ (by first | (simp; done) | (simp; omega) | omega) _)
  clear hW1 hL1
  with_reducible refine (K1.out _ (HNV.out.up hB4)).mono ?_
  rintro e w1 ⟨rfl, hb1⟩
  have c5 := c2.up hb1
  have c6 := c3.up hb1
  have hB7 : Below w.heap.size w w1 := bel_up hB4 hb1
  clear c2 c3
  have uc5 := c5; have uc6 := c6
  simp only [At, Own, Nat.reduceAdd, and_true] at uc5 uc6
  go_wp2
  go_ret2
  refine ⟨rfl, ?_⟩
  repeat (first | with_reducible exact hB7 | with_reducible refine bel_alloc ?_ _ | refine Below.setCell ?_ (by first | (simp; done) | (simp; omega) | omega) _)

theorem eqPc_zero (a : Pc) (w : World) : (Op.equalIn 10000 42 (.agg #[.int .i64 a.r, .bool (ng a.q.num), .string (mg a.q.num.natAbs), .bool false, .string (mg (dn a.q))]) (.agg #[.int .i64 0, .bool false, .string ⟨#[]⟩, .bool false, .string ⟨#[]⟩])).run Tryz.prog w = .ok (decide (a = ⟨0, 0⟩)) w := eqPc_in a ⟨0, 0⟩ w
theorem normal_zero (N : Net) (v : Value) (w : World) (h : NV w v N) (g : Vld N) :
    Calls Tryz.prog 44 #[v, .agg #[.int .i64 0, .bool false, .string ⟨#[]⟩, .bool false, .string ⟨#[]⟩]] w fun e w' => e = .returned (.tuple #[.agg #[.int .i64 0, .bool false, .string ⟨#[]⟩, .bool false, .string ⟨#[]⟩], .int .i64 9]) ∧ Below w.heap.size w w' := by
  have := normal_bad N ⟨0, 0⟩ 9 v w h g (Pl.sz_zero.mono (by decide)) (placeE_none (frd_zero g)) (by decide)
  exact this
/-- What At returns: the place, the error, and whether the law's at finds one. -/
def AtS (N : Net) (id : Int) (a : Pc) (e : Int) (ok : Bool) : Prop :=
  (fnd N.ns id = none ∧ a = ⟨0, 0⟩ ∧ e = 9 ∧ ok = false ∧ fstR N.rs id = none) ∨ (∃ x, fnd N.ns id = some x ∧ fstR N.rs id = none ∧ a = ⟨0, 0⟩ ∧ e = 12 ∧ ok = false) ∨
  (∃ x r, fnd N.ns id = some x ∧ fstR N.rs id = some r ∧ a = ⟨r.i, offE r id⟩ ∧ e = 0 ∧ ok = true)
theorem ats_ex {N : Net} (g : Vld N) (id : Int) : ∃ a e ok, AtS N id a e ok := by
  cases h1 : fnd N.ns id with
  | none =>
    refine ⟨_, _, _, .inl ⟨h1, rfl, rfl, rfl, ?_⟩⟩
    refine List.find?_eq_none.2 fun r hr ho => ?_
    have hok := g.or r hr
    rcases offTo_iff.1 ho with rfl | rfl
    · have e := hok.2.2.2.2.2.2.2.1
      rw [h1] at e; cases e
    · have e := hok.2.2.2.2.2.2.2.2
      rw [h1] at e; cases e
  | some x =>
    cases h2 : fstR N.rs id with
    | none => exact ⟨_, _, _, .inr (.inl ⟨x, h1, h2, rfl, rfl, rfl⟩)⟩
    | some r => exact ⟨_, _, _, .inr (.inr ⟨x, r, h1, h2, rfl, rfl, rfl⟩)⟩
theorem nat_all (N : Net) (id : Int) (a : Pc) (c : Int) (ok : Bool) (v : Value) (w : World) (h : NV w v N) (g : Vld N) (hs : AtS N id a c ok) :
    Calls Tryz.prog 42 #[v, .int .i64 id] w fun e w' => e = .returned (.tuple #[.agg #[.int .i64 a.r, .bool (ng a.q.num), .string (mg a.q.num.natAbs), .bool false, .string (mg (dn a.q))], .int .i64 c]) ∧ Below w.heap.size w w' := by
  rcases hs with ⟨h1, rfl, rfl, _⟩ | ⟨x, h1, h2, rfl, rfl, _⟩ | ⟨x, r, h1, h2, rfl, rfl, _⟩
  · exact nat_none N id v w h g h1
  · exact nat_gap N x id v w h g h1 h2
  · exact nat_some N r _ x id v w h g h1 h2 rfl
theorem lat_all (N : Net) (id : Int) (a : Pc) (c : Int) (ok : Bool) (v : Value) (w : World) (h : NV w v N) (g : Vld N) (hs : AtS N id a c ok) :
    Calls Tryz.prog 47 #[v, .int .i64 id] w fun e w' => e = .returned (.tuple #[.agg #[.int .i64 a.r, .bool (ng a.q.num), .string (mg a.q.num.natAbs), .bool false, .string (mg (dn a.q))], .bool ok]) ∧ Below w.heap.size w w' := by
  rcases hs with ⟨h1, rfl, rfl, rfl, h2⟩ | ⟨x, h1, h2, rfl, rfl, rfl⟩ | ⟨x, r, h1, h2, rfl, rfl, rfl⟩
  · exact lat_gap N id v w h g h2
  · exact lat_gap N id v w h g h2
  · exact lat_some N r _ id v w h g h2 rfl
theorem nodeat_k (N : Net) (r : Rd) (p : Pc) (k : Int) (v : Value) (w : World) (h : NV w v N) (g : Vld N) (hat : Nw.At N r p) (hq : Pl.Sz 2000 p.q) (hk : latE r p.q = k) :
    Calls Tryz.prog 43 #[v, .agg #[.int .i64 p.r, .bool (ng p.q.num), .string (mg p.q.num.natAbs), .bool false, .string (mg (dn p.q))]] w fun e w' => e = .returned (.tuple #[.int .i64 k, .bool (decide ((0 : Int) < k))]) ∧ Below w.heap.size w w' := by
  have hp := (at_iff hat.f).2 hat
  rcases lat_pos g hat with ⟨h1, h2⟩ | ⟨n, h1, h2, h3⟩
  · have e : k = 0 := by rw [← hk, h2]
    subst e
    exact nodeat_any N r p 0 false v w h g hat.f hq hp (.inr ⟨rfl, h1, rfl⟩)
  · have e : k = n := by rw [← hk, h2]
    subst e
    have := nodeat_any N r p k true v w h g hat.f hq hp (.inl ⟨rfl, h1⟩)
    rwa [show decide ((0 : Int) < k) = true from decide_eq_true (by omega)]

set_option maxRecDepth 100000 in
set_option maxHeartbeats 8000000 in
theorem nodes_any (sp : List St) (la : List La) (wr1 wp1 id : Int) (v : Value) (w : World) (h : GV w v sp la) (hu : GU sp la) (hwr1 : U8 wr1) (hwp1 : U8 wp1) :
    Calls Tryz.prog 10 #[v, .agg #[.int .u8 wr1, .int .u8 wp1], .int .i64 id] w fun e w' => e = .returned (.bool true) ∧ Below w.heap.size w w' := by
  have HWR1 := Lib.hid hwr1
  have HWP1 := Lib.hid hwp1
  clear hwr1 hwp1
  obtain ⟨_, _, rfl, ha, hb⟩ := h
  obtain ⟨As, cs, rfl, hcs, hms, hxs⟩ := ha.open_
  obtain ⟨Al, cl, rfl, hcl, hml, hxl⟩ := hb.open_
  have HGV : Hid (GV w (.agg #[.slice As sp.length cs, .slice Al la.length cl]) sp la) := Lib.hid ⟨_, _, rfl, ha, hb⟩
  have HU := Lib.hid hu
  clear ha hb hxs hxl hcs hms hcl hml hu
  go_enter Tryz.func10, Tryz.ntmps10
  go_wp2_with (fail)
  refine calls_named ?_
  intro W1 hW1
  have hL1 : Below w.heap.size w W1 := by
    rw [hW1]
    repeat (first | with_reducible exact Below.refl _ _ | with_reducible refine bel_alloc ?_ _ | refine Below.setCell ?_ (by first | (simp; done) | (simp; omega) | omega) _)
  have c1 : Own W1 (w.heap.size) 0 [.slice As sp.length cs, .slice Al la.length cl] := by
    rw [hW1]
    first
    | (repeat (first | (with_reducible refine own_new (l := [.slice As sp.length cs, .slice Al la.length cl]) ?_; (simp; done)) | with_reducible refine Own.alloc ?_ _ | refine Own.far _ _ (by first | (simp; done) | (simp [*]; done) | (simp; omega)) ?_)); done
    | simp [Own, go_sem]
  have c2 : Own W1 (w.heap.size + 1) 0 [.int .u8 wr1, .int .u8 wp1] := by
    rw [hW1]
    first
    | (repeat (first | (with_reducible refine own_new (l := [.int .u8 wr1, .int .u8 wp1]) ?_; (simp; done)) | with_reducible refine Own.alloc ?_ _ | refine Own.far _ _ (by first | (simp; done) | (simp [*]; done) | (simp; omega)) ?_)); done
    | simp [Own, go_sem]
  have hB3 : Below w.heap.size w W1 := by
    rw [hW1]
    repeat (first | with_reducible exact Below.refl _ _ | with_reducible refine bel_alloc ?_ _ | refine Below.setCell ?_ (by first | (simp; done) | (simp; omega) | omega) _)
  clear hW1 hL1
  with_reducible refine (net_any sp la _ _ (HGV.out.up hB3) HU.out).mono ?_
  rintro e w1 ⟨v1, N, rfl, hv1, hok, hb1⟩
  have c4 := c1.up hb1
  have c5 := c2.up hb1
  have hB6 : Below w.heap.size w w1 := bel_up hB3 hb1
  clear c1 c2
  obtain ⟨va, vb, rfl, hn, hr⟩ := hv1
  obtain ⟨An, cn, rfl, hcn, hmn, hxn⟩ := hn.open_
  obtain ⟨Ar, cr, rfl, hcr, hmr, hxr⟩ := hr.open_
  have HNV1 : Hid (NV w1 (.agg #[.slice An N.ns.length cn, .slice Ar N.rs.length cr]) N) := Lib.hid ⟨_, _, rfl, hn, hr⟩
  generalize hNn : N.ns.length = Nn at *
  generalize hNr : N.rs.length = Nr at *
  clear hn hr hxn hxr
  have an7 : w1.heap.size ≤ w1.heap.size := by omega
  have ne8_ : w.heap.size < w1.heap.size := by have := c4.lt; omega
  have ne8 := Nat.ne_of_lt ne8_
  have ne8' := ne8.symm
  have ne9_ : w.heap.size + 1 < w1.heap.size := by have := c5.lt; omega
  have ne9 := Nat.ne_of_lt ne9_
  have ne9' := ne9.symm
  go_upto_region 2 with fail
  refine wp_named ?_
  intro W2 hW2
  have hL2 : Below w1.heap.size w1 W2 := by
    rw [hW2]
    repeat (first | with_reducible exact Below.refl _ _ | with_reducible refine bel_alloc ?_ _ | refine Below.setCell ?_ (by first | (simp; done) | (simp; omega) | omega) _)
  have c10 := c4.up hL2
  have c11 := c5.up hL2
  have c12 : Own W2 (w1.heap.size) 0 [((.slice An Nn cn)), ((.slice Ar Nr cr))] := by
    rw [hW2]
    first
    | (repeat (first | (with_reducible refine own_new (l := [((.slice An Nn cn)), ((.slice Ar Nr cr))]) ?_; (simp; done)) | with_reducible refine Own.alloc ?_ _ | refine Own.far _ _ (by first | (simp; done) | (simp [*]; done) | (simp; omega)) ?_)); done
    | simp [Own, go_sem, ne8, ne8', ne8_, ne9, ne9', ne9_]
  have hA13 := hL2
  have hB14 : Below w.heap.size w W2 := by
    rw [hW2]
    repeat (first | with_reducible exact hB6 | with_reducible refine bel_alloc ?_ _ | refine Below.setCell ?_ (by first | (simp; done) | (simp; omega) | omega) _)
  clear hW2 hL2 c4 c5
  have HNV2 : Hid (NV W2 (.agg #[.slice An Nn cn, .slice Ar Nr cr]) N) := Lib.hid (HNV1.out.up hA13)
  clear HNV1 hA13
  obtain ⟨w0, hw0⟩ : ∃ W_, W_ = w := ⟨_, rfl⟩
  subst hw0
  obtain ⟨w, hw⟩ : ∃ W_, W_ = W2 := ⟨_, rfl⟩
  subst hw
  have hBw := hB14
  clear hB14
  clear c10
  have HNV := HNV2
  have HG := Lib.hid hok.g
  have HOK := Lib.hid hok
  have hln := hok.g.ln
  have hlr := hok.g.lr
  have hn2 := hok.n2
  have hn8 := hok.n8
  have hr1 := hok.r1
  have hr13 := hok.r13
  rw [hNn] at hln hn2 hn8
  rw [hNr] at hlr hr1 hr13
  have HXN : Hid (LX CN 3 w An N.ns) := Lib.hid (nv_ns HNV.out)
  have HXR : Hid (LX CR 6 w Ar N.rs) := Lib.hid (nv_rs HNV.out)
  have HNn := Lib.hid hNn
  have HNr := Lib.hid hNr
  clear hok hNn hNr HNV2
  obtain ⟨r1, p1, hr_1, hp_1⟩ := place_ex HOK.out wr1 wp1
  obtain ⟨hat1, hz1⟩ := place_at HOK.out HWP1.out hr_1 hp_1
  have hq1 : Pl.Sz 2000 p1.q := hz1.mono (by decide)
  have HR1 := Lib.hid hr_1
  have HP1 := Lib.hid hp_1
  have HAT1 := Lib.hid hat1
  have HZ1 := Lib.hid hz1
  clear hr_1 hp_1 hat1 hz1
  obtain ⟨m1, hm1⟩ : ∃ m, normE N r1 p1 = m := ⟨_, rfl⟩
  obtain ⟨x1, hx1⟩ : ∃ x, pointN N r1 p1.q = x := ⟨_, rfl⟩
  obtain ⟨k, hk⟩ : ∃ k, latE r1 p1.q = k := ⟨_, rfl⟩
  obtain ⟨rm1, ham1, hmm1⟩ := norm_norm HG.out HAT1.out
  have hxm := point_norm HG.out HAT1.out ham1
  rw [hm1] at ham1 hxm
  rw [hx1] at hxm
  have hqm1 : Pl.Sz 2000 m1.q := by rw [← hm1]; exact (norm_sz HG.out HAT1.out HZ1.out).mono (by decide)
  obtain ⟨aP, aE, aO, has⟩ := ats_ex HG.out id
  obtain ⟨qm, hqm⟩ : ∃ q : Rat, q = ((-1 : Int) : Rat) := ⟨_, rfl⟩
  have ZQM : Pl.Sz 2000 qm := by rw [hqm]; exact (sz_small (n := -1) (by decide) (by decide)).mono (by decide)
  have HBD := Lib.hid (neg_place HAT1.out.f hqm)
  have HZP : Hid (placeE N (Pc.mk 0 0) = 9) := Lib.hid (placeE_none (frd_zero HG.out))
  have HQM := Lib.hid hqm
  have HM1 := Lib.hid hm1
  have HX1 := Lib.hid hx1
  have HXM := Lib.hid hxm.symm
  have HATM := Lib.hid ham1
  have HAS := Lib.hid has
  have HK := Lib.hid hk
  have EQa := fun W => eqPc_in m1 m1 W
  rw [decide_eq_true rfl] at EQa
  have EQb := fun W => eqP_in x1 x1 W
  rw [decide_eq_true rfl] at EQb
  clear hqm hm1 hx1 hxm ham1 hmm1 has hk
  have uc11 := c11; have uc12 := c12
  simp only [At, Own, Nat.reduceAdd, and_true] at uc11 uc12
  have K15 := Lib.hid (fun W (hv : NV W (.agg #[.slice An Nn cn, .slice Ar Nr cr]) N) => place_any N r1 p1 wr1 wp1 _ W hv HOK.out HWR1.out HWP1.out HR1.out HP1.out)
  go_wp2_with (fail)
  refine calls_named ?_
  intro W3 hW3
  have hL3 : Below w.heap.size w W3 := by
    rw [hW3]
    repeat (first | with_reducible exact Below.refl _ _ | with_reducible refine bel_alloc ?_ _ | refine Below.setCell ?_ (by first | (simp; done) | (simp; omega) | omega) _)
  have c16 := c11.up hL3
  have c17 := c12.up hL3
  have hB18 : Below w.heap.size w W3 := by
    rw [hW3]
    repeat (first | with_reducible exact Below.refl _ _ | with_reducible refine bel_alloc ?_ _ | refine Below.setCell ?_ (by first | (simp; done) | (simp; omega) | omega) _)
  clear hW3 hL3 uc11 uc12 c11 c12
  with_reducible refine (K15.out _ (HNV.out.up hB18)).mono ?_
  rintro e w3 ⟨rfl, hb3⟩
  have c19 := c16.up hb3
  have c20 := c17.up hb3
  have hB21 : Below w.heap.size w w3 := bel_up hB18 hb3
  clear c16 c17
  have ne22_ : w0.heap.size + 1 < w3.heap.size := by have := c19.lt; omega
  have ne22 := Nat.ne_of_lt ne22_
  have ne22' := ne22.symm
  have ne23_ : w1.heap.size < w3.heap.size := by have := c20.lt; omega
  have ne23 := Nat.ne_of_lt ne23_
  have ne23' := ne23.symm
  have uc19 := c19; have uc20 := c20
  simp only [At, Own, Nat.reduceAdd, and_true] at uc19 uc20
  have K24 := Lib.hid (fun W (hv : NV W (.agg #[.slice An Nn cn, .slice Ar Nr cr]) N) => nat_all N id aP aE aO _ W hv HG.out HAS.out)
  go_wp2_with (fail)
  refine calls_named ?_
  intro W4 hW4
  have hL4 : Below w3.heap.size w3 W4 := by
    rw [hW4]
    repeat (first | with_reducible exact Below.refl _ _ | with_reducible refine bel_alloc ?_ _ | refine Below.setCell ?_ (by first | (simp; done) | (simp; omega) | omega) _)
  have c25 := c19.up hL4
  have c26 := c20.up hL4
  have c27 : Own W4 (w3.heap.size) 0 [.int .i64 p1.r, .bool (ng p1.q.num), .string (mg p1.q.num.natAbs), .bool false, .string (mg (dn p1.q))] := by
    rw [hW4]
    first
    | (repeat (first | (with_reducible refine own_new (l := [.int .i64 p1.r, .bool (ng p1.q.num), .string (mg p1.q.num.natAbs), .bool false, .string (mg (dn p1.q))]) ?_; (simp; done)) | with_reducible refine Own.alloc ?_ _ | refine Own.far _ _ (by first | (simp; done) | (simp [*]; done) | (simp; omega)) ?_)); done
    | simp [Own, go_sem, uc19, uc20, ne22, ne22', ne22_, ne23, ne23', ne23_]
  have hB28 : Below w.heap.size w W4 := by
    rw [hW4]
    repeat (first | with_reducible exact hB21 | with_reducible refine bel_alloc ?_ _ | refine Below.setCell ?_ (by first | (simp; done) | (simp; omega) | omega) _)
  clear hW4 hL4 uc19 uc20 c19 c20
  with_reducible refine (K24.out _ (HNV.out.up hB28)).mono ?_
  rintro e w4 ⟨rfl, hb4⟩
  have c29 := c25.up hb4
  have c30 := c26.up hb4
  have c31 := c27.up hb4
  have hB32 : Below w.heap.size w w4 := bel_up hB28 hb4
  clear c25 c26 c27
  have ne33_ : w0.heap.size + 1 < w4.heap.size := by have := c29.lt; omega
  have ne33 := Nat.ne_of_lt ne33_
  have ne33' := ne33.symm
  have ne34_ : w1.heap.size < w4.heap.size := by have := c30.lt; omega
  have ne34 := Nat.ne_of_lt ne34_
  have ne34' := ne34.symm
  have ne35_ : w3.heap.size < w4.heap.size := by have := c31.lt; omega
  have ne35 := Nat.ne_of_lt ne35_
  have ne35' := ne35.symm
  have uc29 := c29; have uc30 := c30; have uc31 := c31
  simp only [At, Own, Nat.reduceAdd, and_true] at uc29 uc30 uc31
  have K36 := Lib.hid (fun W (hv : NV W (.agg #[.slice An Nn cn, .slice Ar Nr cr]) N) => nodeat_k N r1 p1 k _ W hv HG.out HAT1.out hq1 HK.out)
  go_wp2_with (fail)
  refine calls_named ?_
  intro W5 hW5
  have hL5 : Below w4.heap.size w4 W5 := by
    rw [hW5]
    repeat (first | with_reducible exact Below.refl _ _ | with_reducible refine bel_alloc ?_ _ | refine Below.setCell ?_ (by first | (simp; done) | (simp; omega) | omega) _)
  have c37 := c29.up hL5
  have c38 := c30.up hL5
  have c39 := c31.up hL5
  have c40 : Own W5 (w4.heap.size) 0 [.int .i64 aP.r, .bool (ng aP.q.num), .string (mg aP.q.num.natAbs), .bool false, .string (mg (dn aP.q))] := by
    rw [hW5]
    first
    | (repeat (first | (with_reducible refine own_new (l := [.int .i64 aP.r, .bool (ng aP.q.num), .string (mg aP.q.num.natAbs), .bool false, .string (mg (dn aP.q))]) ?_; (simp; done)) | with_reducible refine Own.alloc ?_ _ | refine Own.far _ _ (by first | (simp; done) | (simp [*]; done) | (simp; omega)) ?_)); done
    | simp [Own, go_sem, uc29, uc30, uc31, ne33, ne33', ne33_, ne34, ne34', ne34_, ne35, ne35', ne35_]
  have hB41 : Below w.heap.size w W5 := by
    rw [hW5]
    repeat (first | with_reducible exact hB32 | with_reducible refine bel_alloc ?_ _ | refine Below.setCell ?_ (by first | (simp; done) | (simp; omega) | omega) _)
  clear hW5 hL5 uc29 uc30 uc31 c29 c30 c31
  with_reducible refine (K36.out _ (HNV.out.up hB41)).mono ?_
  rintro e w5 ⟨rfl, hb5⟩
  have c42 := c37.up hb5
  have c43 := c38.up hb5
  have c44 := c39.up hb5
  have c45 := c40.up hb5
  have hB46 : Below w.heap.size w w5 := bel_up hB41 hb5
  clear c37 c38 c39 c40
  have uc42 := c42; have uc43 := c43; have uc44 := c44; have uc45 := c45
  simp only [At, Own, Nat.reduceAdd, and_true] at uc42 uc43 uc44 uc45
  have K47 := Lib.hid (fun W (hv : NV W (.agg #[.slice An Nn cn, .slice Ar Nr cr]) N) => normal_any N r1 p1 m1 _ W hv HG.out HAT1.out hq1 HM1.out)
  go_wp2_with (fail)
  refine calls_named ?_
  intro W6 hW6
  have hL6 : Below w5.heap.size w5 W6 := by
    rw [hW6]
    repeat (first | with_reducible exact Below.refl _ _ | with_reducible refine bel_alloc ?_ _ | refine Below.setCell ?_ (by first | (simp; done) | (simp; omega) | omega) _)
  have c48 := c42.up hL6
  have c49 := c43.up hL6
  have c50 := c44.up hL6
  have c51 := c45.up hL6
  have hB52 : Below w.heap.size w W6 := by
    rw [hW6]
    repeat (first | with_reducible exact hB46 | with_reducible refine bel_alloc ?_ _ | refine Below.setCell ?_ (by first | (simp; done) | (simp; omega) | omega) _)
  clear hW6 hL6 uc42 uc43 uc44 uc45 c42 c43 c44 c45
  with_reducible refine (K47.out _ (HNV.out.up hB52)).mono ?_
  rintro e w6 ⟨rfl, hb6⟩
  have c53 := c48.up hb6
  have c54 := c49.up hb6
  have c55 := c50.up hb6
  have c56 := c51.up hb6
  have hB57 : Below w.heap.size w w6 := bel_up hB52 hb6
  clear c48 c49 c50 c51
  have ne58_ : w0.heap.size + 1 < w6.heap.size := by have := c53.lt; omega
  have ne58 := Nat.ne_of_lt ne58_
  have ne58' := ne58.symm
  have ne59_ : w1.heap.size < w6.heap.size := by have := c54.lt; omega
  have ne59 := Nat.ne_of_lt ne59_
  have ne59' := ne59.symm
  have ne60_ : w3.heap.size < w6.heap.size := by have := c55.lt; omega
  have ne60 := Nat.ne_of_lt ne60_
  have ne60' := ne60.symm
  have ne61_ : w4.heap.size < w6.heap.size := by have := c56.lt; omega
  have ne61 := Nat.ne_of_lt ne61_
  have ne61' := ne61.symm
  have uc53 := c53; have uc54 := c54; have uc55 := c55; have uc56 := c56
  simp only [At, Own, Nat.reduceAdd, and_true] at uc53 uc54 uc55 uc56
  have K62 := Lib.hid (fun W (hv : NV W (.agg #[.slice An Nn cn, .slice Ar Nr cr]) N) => point_any N rm1 m1 x1 _ W hv HG.out HATM.out hqm1 HXM.out)
  go_wp2_with (fail)
  refine calls_named ?_
  intro W7 hW7
  have hL7 : Below w6.heap.size w6 W7 := by
    rw [hW7]
    repeat (first | with_reducible exact Below.refl _ _ | with_reducible refine bel_alloc ?_ _ | refine Below.setCell ?_ (by first | (simp; done) | (simp; omega) | omega) _)
  have c63 := c53.up hL7
  have c64 := c54.up hL7
  have c65 := c55.up hL7
  have c66 := c56.up hL7
  have c67 : Own W7 (w6.heap.size) 0 [.int .i64 m1.r, .bool (ng m1.q.num), .string (mg m1.q.num.natAbs), .bool false, .string (mg (dn m1.q))] := by
    rw [hW7]
    first
    | (repeat (first | (with_reducible refine own_new (l := [.int .i64 m1.r, .bool (ng m1.q.num), .string (mg m1.q.num.natAbs), .bool false, .string (mg (dn m1.q))]) ?_; (simp; done)) | with_reducible refine Own.alloc ?_ _ | refine Own.far _ _ (by first | (simp; done) | (simp [*]; done) | (simp; omega)) ?_)); done
    | simp [Own, go_sem, uc53, uc54, uc55, uc56, ne58, ne58', ne58_, ne59, ne59', ne59_, ne60, ne60', ne60_, ne61, ne61', ne61_]
  have hB68 : Below w.heap.size w W7 := by
    rw [hW7]
    repeat (first | with_reducible exact hB57 | with_reducible refine bel_alloc ?_ _ | refine Below.setCell ?_ (by first | (simp; done) | (simp; omega) | omega) _)
  clear hW7 hL7 uc53 uc54 uc55 uc56 c53 c54 c55 c56
  with_reducible refine (K62.out _ (HNV.out.up hB68)).mono ?_
  rintro e w7 ⟨rfl, hb7⟩
  have c69 := c63.up hb7
  have c70 := c64.up hb7
  have c71 := c65.up hb7
  have c72 := c66.up hb7
  have c73 := c67.up hb7
  have hB74 : Below w.heap.size w w7 := bel_up hB68 hb7
  clear c63 c64 c65 c66 c67
  have ne75_ : w0.heap.size + 1 < w7.heap.size := by have := c69.lt; omega
  have ne75 := Nat.ne_of_lt ne75_
  have ne75' := ne75.symm
  have ne76_ : w1.heap.size < w7.heap.size := by have := c70.lt; omega
  have ne76 := Nat.ne_of_lt ne76_
  have ne76' := ne76.symm
  have ne77_ : w3.heap.size < w7.heap.size := by have := c71.lt; omega
  have ne77 := Nat.ne_of_lt ne77_
  have ne77' := ne77.symm
  have ne78_ : w4.heap.size < w7.heap.size := by have := c72.lt; omega
  have ne78 := Nat.ne_of_lt ne78_
  have ne78' := ne78.symm
  have ne79_ : w6.heap.size < w7.heap.size := by have := c73.lt; omega
  have ne79 := Nat.ne_of_lt ne79_
  have ne79' := ne79.symm
  have uc69 := c69; have uc70 := c70; have uc71 := c71; have uc72 := c72; have uc73 := c73
  simp only [At, Own, Nat.reduceAdd, and_true] at uc69 uc70 uc71 uc72 uc73
  have K80 := Lib.hid (fun W => known_any W)
  have K81 := Lib.hid (fun W (hv : NV W (.agg #[.slice An Nn cn, .slice Ar Nr cr]) N) => lnodeat_any N r1 p1 k _ W hv HG.out HAT1.out.f hq1 HK.out)
  have K82 := Lib.hid (fun W (hv : NV W (.agg #[.slice An Nn cn, .slice Ar Nr cr]) N) => lnormal_any N r1 p1 m1 _ W hv HG.out HAT1.out hq1 HM1.out)
  have K83 := Lib.hid (fun W (hv : NV W (.agg #[.slice An Nn cn, .slice Ar Nr cr]) N) => lpoint_any N r1 p1 x1 _ W hv HG.out HAT1.out hq1 HX1.out)
  go_wp2_with fail
  refine wp_named ?_
  intro W8 hW8
  have hL8 : Below w7.heap.size w7 W8 := by
    rw [hW8]
    repeat (first | with_reducible exact Below.refl _ _ | with_reducible refine bel_alloc ?_ _ | refine Below.setCell ?_ (by first | (simp; done) | (simp; omega) | omega) _)
  have c84 := c69.up hL8
  have c85 := c70.up hL8
  have c86 := c71.up hL8
  have c87 := c72.up hL8
  have c88 := c73.up hL8
  have c89 : Own W8 (w7.heap.size) 0 [.bool (ng x1.1.num), .string (mg x1.1.num.natAbs), .bool false, .string (mg (dn x1.1)), .bool (ng x1.2.num), .string (mg x1.2.num.natAbs), .bool false, .string (mg (dn x1.2))] := by
    rw [hW8]
    first
    | (repeat (first | (with_reducible refine own_new (l := [.bool (ng x1.1.num), .string (mg x1.1.num.natAbs), .bool false, .string (mg (dn x1.1)), .bool (ng x1.2.num), .string (mg x1.2.num.natAbs), .bool false, .string (mg (dn x1.2))]) ?_; (simp; done)) | with_reducible refine Own.alloc ?_ _ | refine Own.far _ _ (by first | (simp; done) | (simp [*]; done) | (simp; omega)) ?_)); done
    | simp [Own, go_sem, uc69, uc70, uc71, uc72, uc73, ne75, ne75', ne75_, ne76, ne76', ne76_, ne77, ne77', ne77_, ne78, ne78', ne78_, ne79, ne79', ne79_]
  have hB90 : Below w.heap.size w W8 := by
    rw [hW8]
    repeat (first | with_reducible exact hB74 | with_reducible refine bel_alloc ?_ _ | refine Below.setCell ?_ (by first | (simp; done) | (simp; omega) | omega) _)
  clear hW8 hL8 uc69 uc70 uc71 uc72 uc73 c69 c70 c71 c72 c73
  have dc84 := fun p : Bel W8 => c84.bel p; have dc85 := fun p : Bel W8 => c85.bel p; have dc86 := fun p : Bel W8 => c86.bel p; have dc87 := fun p : Bel W8 => c87.bel p; have dc88 := fun p : Bel W8 => c88.bel p; have dc89 := fun p : Bel W8 => c89.bel p
  simp only [At, Own, Nat.reduceAdd, and_true] at dc84 dc85 dc86 dc87 dc88 dc89
  refine wp_region_all (by kernel_rfl) (by kernel_rfl) ?_
  repeat (go_big_quiet_step (first | (go_at_call 13; with_reducible exact Calls.bel (K80.out _)) | (go_at_call 45; with_reducible exact Calls.bel (K81.out _ (HNV.out.up (bel_up hB90 (Bel.h _))))) | (go_at_call 46; with_reducible exact Calls.bel (K82.out _ (HNV.out.up (bel_up hB90 (Bel.h _))))) | (go_at_call 22; with_reducible exact Calls.bel (K83.out _ (HNV.out.up (bel_up hB90 (Bel.h _)))))))
  refine wpQuiet_nil ?_
  intro w8 hb8
  have c91 := c84.up hb8
  have c92 := c85.up hb8
  have c93 := c86.up hb8
  have c94 := c87.up hb8
  have c95 := c88.up hb8
  have c96 := c89.up hb8
  have hB97 : Below w.heap.size w w8 := bel_up hB90 hb8
  clear dc84 dc85 dc86 dc87 dc88 dc89 c84 c85 c86 c87 c88 c89
  have uc91 := c91; have uc92 := c92; have uc93 := c93; have uc94 := c94; have uc95 := c95; have uc96 := c96
  simp only [At, Own, Nat.reduceAdd, and_true] at uc91 uc92 uc93 uc94 uc95 uc96
  have K98 := Lib.hid (fun W (hv : NV W (.agg #[.slice An Nn cn, .slice Ar Nr cr]) N) => normal_zero N _ W hv HG.out)
  go_wp2_with (fail)
  refine calls_named ?_
  intro W9 hW9
  have hL9 : Below w8.heap.size w8 W9 := by
    rw [hW9]
    repeat (first | with_reducible exact Below.refl _ _ | with_reducible refine bel_alloc ?_ _ | refine Below.setCell ?_ (by first | (simp; done) | (simp; omega) | omega) _)
  have c99 := c91.up hL9
  have c100 := c92.up hL9
  have c101 := c93.up hL9
  have c102 := c94.up hL9
  have c103 := c95.up hL9
  have c104 := c96.up hL9
  have hB105 : Below w.heap.size w W9 := by
    rw [hW9]
    repeat (first | with_reducible exact hB97 | with_reducible refine bel_alloc ?_ _ | refine Below.setCell ?_ (by first | (simp; done) | (simp; omega) | omega) _)
  clear hW9 hL9 uc91 uc92 uc93 uc94 uc95 uc96 c91 c92 c93 c94 c95 c96
  with_reducible refine (K98.out _ (HNV.out.up hB105)).mono ?_
  rintro e w9 ⟨rfl, hb9⟩
  have c106 := c99.up hb9
  have c107 := c100.up hb9
  have c108 := c101.up hb9
  have c109 := c102.up hb9
  have c110 := c103.up hb9
  have c111 := c104.up hb9
  have hB112 : Below w.heap.size w w9 := bel_up hB105 hb9
  clear c99 c100 c101 c102 c103 c104
  have ne113_ : w0.heap.size + 1 < w9.heap.size := by have := c106.lt; omega
  have ne113 := Nat.ne_of_lt ne113_
  have ne113' := ne113.symm
  have ne114_ : w1.heap.size < w9.heap.size := by have := c107.lt; omega
  have ne114 := Nat.ne_of_lt ne114_
  have ne114' := ne114.symm
  have ne115_ : w3.heap.size < w9.heap.size := by have := c108.lt; omega
  have ne115 := Nat.ne_of_lt ne115_
  have ne115' := ne115.symm
  have ne116_ : w4.heap.size < w9.heap.size := by have := c109.lt; omega
  have ne116 := Nat.ne_of_lt ne116_
  have ne116' := ne116.symm
  have ne117_ : w6.heap.size < w9.heap.size := by have := c110.lt; omega
  have ne117 := Nat.ne_of_lt ne117_
  have ne117' := ne117.symm
  have ne118_ : w7.heap.size < w9.heap.size := by have := c111.lt; omega
  have ne118 := Nat.ne_of_lt ne118_
  have ne118' := ne118.symm
  have uc106 := c106; have uc107 := c107; have uc108 := c108; have uc109 := c109; have uc110 := c110; have uc111 := c111
  simp only [At, Own, Nat.reduceAdd, and_true] at uc106 uc107 uc108 uc109 uc110 uc111
  go_upto_region 10 with fail
  refine wp_named ?_
  intro W10 hW10
  have hL10 : Below w9.heap.size w9 W10 := by
    rw [hW10]
    repeat (first | with_reducible exact Below.refl _ _ | with_reducible refine bel_alloc ?_ _ | refine Below.setCell ?_ (by first | (simp; done) | (simp; omega) | omega) _)
  have c119 := c106.up hL10
  have c120 := c107.up hL10
  have c121 := c108.up hL10
  have c122 := c109.up hL10
  have c123 := c110.up hL10
  have c124 := c111.up hL10
  have c125 : Own W10 (w9.heap.size) 0 [.int .i64 0, .bool false, .string ⟨#[]⟩, .bool false, .string ⟨#[]⟩] := by
    rw [hW10]
    first
    | (repeat (first | (with_reducible refine own_new (l := [.int .i64 0, .bool false, .string ⟨#[]⟩, .bool false, .string ⟨#[]⟩]) ?_; (simp; done)) | with_reducible refine Own.alloc ?_ _ | refine Own.far _ _ (by first | (simp; done) | (simp [*]; done) | (simp; omega)) ?_)); done
    | simp [Own, go_sem, uc106, uc107, uc108, uc109, uc110, uc111, ne113, ne113', ne113_, ne114, ne114', ne114_, ne115, ne115', ne115_, ne116, ne116', ne116_, ne117, ne117', ne117_, ne118, ne118', ne118_]
  have hB126 : Below w.heap.size w W10 := by
    rw [hW10]
    repeat (first | with_reducible exact hB112 | with_reducible refine bel_alloc ?_ _ | refine Below.setCell ?_ (by first | (simp; done) | (simp; omega) | omega) _)
  clear hW10 hL10 uc106 uc107 uc108 uc109 uc110 uc111 c106 c107 c108 c109 c110 c111
  have K127 := Lib.hid (fun W => qfi_any (-1) qm W HQM.out (by decide) (by decide))
  have K129 := Lib.hid (fun W (hv : NV W (.agg #[.slice An Nn cn, .slice Ar Nr cr]) N) => nodeat_bad N (Pc.mk p1.r qm) 2 _ W hv HG.out ZQM HBD.out (by decide))
  have HSS131 : ∀ w' : World, Below W10.heap.size W10 w' → (w'.cell? ⟨w1.heap.size, 0, none⟩ = some (.slice An Nn cn) ∧ w'.cell? ⟨w1.heap.size, 1, none⟩ = some (.slice Ar Nr cr) ∧ w'.cell? ⟨w3.heap.size, 0, none⟩ = some (.int .i64 p1.r) ∧ w'.cell? ⟨w3.heap.size, 1, none⟩ = some (.bool (ng p1.q.num)) ∧ w'.cell? ⟨w3.heap.size, 2, none⟩ = some (.string (mg p1.q.num.natAbs)) ∧ w'.cell? ⟨w3.heap.size, 3, none⟩ = some (.bool false) ∧ w'.cell? ⟨w3.heap.size, 4, none⟩ = some (.string (mg (dn p1.q)))) := fun w' hb => by
    have qc120 := c120.up hb; have qc121 := c121.up hb
    simp only [At, Own, CE, CS, Nat.reduceAdd, Nat.reduceMul, Nat.zero_mul, Nat.add_zero, Nat.add_assoc, and_true] at qc120 qc121
    try simp only [Nat.add_assoc, Nat.reduceAdd]
    simp [*]
  go_cut [19, 20] (fun x19 x20 wx => x19 = .int .i64 0 ∧ x20 = .bool false ∧ Below W10.heap.size W10 wx)
  case first =>
    have hu := HSS131 W10 (Below.refl _ _)
    go_region_held3 (fun w' => w'.cell? ⟨w1.heap.size, 0, none⟩ = some (.slice An Nn cn) ∧ w'.cell? ⟨w1.heap.size, 1, none⟩ = some (.slice Ar Nr cr) ∧ w'.cell? ⟨w3.heap.size, 0, none⟩ = some (.int .i64 p1.r) ∧ w'.cell? ⟨w3.heap.size, 1, none⟩ = some (.bool (ng p1.q.num)) ∧ w'.cell? ⟨w3.heap.size, 2, none⟩ = some (.string (mg p1.q.num.natAbs)) ∧ w'.cell? ⟨w3.heap.size, 3, none⟩ = some (.bool false) ∧ w'.cell? ⟨w3.heap.size, 4, none⟩ = some (.string (mg (dn p1.q)))) (refine HSS131 _ ?_ <;> (repeat (first | with_reducible exact Below.refl _ _ | with_reducible refine bel_alloc ?_ _ | with_reducible refine Below.drew ?_ | (refine Below.setCell ?_ (by first | (simp; done) | (simp; omega) | omega) _) | with_reducible refine bel_up ?_ (by with_reducible assumption)))) (first
      | (go_at_call 37; with_reducible refine (K127.out _).mono ?_; rintro e v_128 ⟨rfl, hbq_128⟩; have hsz_128 := hbq_128.size; (try simp [size_drewC] at hsz_128))
      | (go_at_call 43; with_reducible refine (K129.out _ (HNV.out.up (bel_up hB126 (by (repeat (first | with_reducible exact Below.refl _ _ | with_reducible refine bel_alloc ?_ _ | with_reducible refine Below.drew ?_ | (refine Below.setCell ?_ (by first | (simp; done) | (simp; omega) | omega) _) | with_reducible refine bel_up ?_ (by with_reducible assumption))))))).mono ?_; rintro e v_130 ⟨rfl, hbq_130⟩; have hsz_130 := hbq_130.size; (try simp [size_drewC] at hsz_130)))
    all_goals
      go_wp2_with fail
      go_meet
      refine ⟨rfl, rfl, ?_⟩
      · (repeat (first | with_reducible exact Below.refl _ _ | with_reducible refine bel_alloc ?_ _ | with_reducible refine Below.drew ?_ | (refine Below.setCell ?_ (by first | (simp; done) | (simp; omega) | omega) _) | with_reducible refine bel_up ?_ (by with_reducible assumption)))
  case rest =>
    obtain ⟨rfl, rfl, hbz10⟩ := hcut
    obtain ⟨wz10, hwz10⟩ : ∃ W_, W_ = wc := ⟨_, rfl⟩
    subst hwz10
    clear HSS131
    have c132 := c119.up hbz10
    have c133 := c120.up hbz10
    have c134 := c121.up hbz10
    have c135 := c122.up hbz10
    have c136 := c123.up hbz10
    have c137 := c124.up hbz10
    have c138 := c125.up hbz10
    have hB139 : Below w.heap.size w wz10 := bel_up hB126 hbz10
    clear c119 c120 c121 c122 c123 c124 c125
    have uc132 := c132; have uc133 := c133; have uc134 := c134; have uc135 := c135; have uc136 := c136; have uc137 := c137; have uc138 := c138
    simp only [At, Own, Nat.reduceAdd, and_true] at uc132 uc133 uc134 uc135 uc136 uc137 uc138
    have K140 := Lib.hid (fun W (hv : NV W (.agg #[.slice An Nn cn, .slice Ar Nr cr]) N) => lat_all N id aP aE aO _ W hv HG.out HAS.out)
    go_wp2_with (fail)
    refine calls_named ?_
    intro W11 hW11
    have hL11 : Below wz10.heap.size wz10 W11 := by
      rw [hW11]
      repeat (first | with_reducible exact Below.refl _ _ | with_reducible refine bel_alloc ?_ _ | refine Below.setCell ?_ (by first | (simp; done) | (simp; omega) | omega) _)
    have c141 := c132.up hL11
    have c142 := c133.up hL11
    have c143 := c134.up hL11
    have c144 := c135.up hL11
    have c145 := c136.up hL11
    have c146 := c137.up hL11
    have c147 := c138.up hL11
    have hB148 : Below w.heap.size w W11 := by
      rw [hW11]
      repeat (first | with_reducible exact hB139 | with_reducible refine bel_alloc ?_ _ | refine Below.setCell ?_ (by first | (simp; done) | (simp; omega) | omega) _)
    clear hW11 hL11 uc132 uc133 uc134 uc135 uc136 uc137 uc138 c132 c133 c134 c135 c136 c137 c138
    with_reducible refine (K140.out _ (HNV.out.up hB148)).mono ?_
    rintro e w11 ⟨rfl, hb11⟩
    have c149 := c141.up hb11
    have c150 := c142.up hb11
    have c151 := c143.up hb11
    have c152 := c144.up hb11
    have c153 := c145.up hb11
    have c154 := c146.up hb11
    have c155 := c147.up hb11
    have hB156 : Below w.heap.size w w11 := bel_up hB148 hb11
    clear c141 c142 c143 c144 c145 c146 c147
    have ne157_ : w0.heap.size + 1 < w11.heap.size := by have := c149.lt; omega
    have ne157 := Nat.ne_of_lt ne157_
    have ne157' := ne157.symm
    have ne158_ : w1.heap.size < w11.heap.size := by have := c150.lt; omega
    have ne158 := Nat.ne_of_lt ne158_
    have ne158' := ne158.symm
    have ne159_ : w3.heap.size < w11.heap.size := by have := c151.lt; omega
    have ne159 := Nat.ne_of_lt ne159_
    have ne159' := ne159.symm
    have ne160_ : w4.heap.size < w11.heap.size := by have := c152.lt; omega
    have ne160 := Nat.ne_of_lt ne160_
    have ne160' := ne160.symm
    have ne161_ : w6.heap.size < w11.heap.size := by have := c153.lt; omega
    have ne161 := Nat.ne_of_lt ne161_
    have ne161' := ne161.symm
    have ne162_ : w7.heap.size < w11.heap.size := by have := c154.lt; omega
    have ne162 := Nat.ne_of_lt ne162_
    have ne162' := ne162.symm
    have ne163_ : w9.heap.size < w11.heap.size := by have := c155.lt; omega
    have ne163 := Nat.ne_of_lt ne163_
    have ne163' := ne163.symm
    have uc149 := c149; have uc150 := c150; have uc151 := c151; have uc152 := c152; have uc153 := c153; have uc154 := c154; have uc155 := c155
    simp only [At, Own, Nat.reduceAdd, and_true] at uc149 uc150 uc151 uc152 uc153 uc154 uc155
    clear EQa EQb
    have has := HAS.out
    rcases has with ⟨ha, hap, rfl, rfl, -⟩ | ⟨x, ha, hf, hap, rfl, rfl⟩ | ⟨x, r, ha, hf, hap, rfl, rfl⟩
    · skip
      have HJ := Lib.hid (fnd_no ha)
      have EQc := fun W => eqPc_zero aP W
      rw [decide_eq_true hap] at EQc
      clear ha hap
      have K164 := Lib.hid (fun W (hv : NV W (.agg #[.slice An Nn cn, .slice Ar Nr cr]) N) => lnode_j N id (-1) _ W hv ⟨by rw [HNn.out]; exact hln, by rw [HNr.out]; exact hlr⟩ HJ.out)
      go_wp2_with (fail)
      refine calls_named ?_
      intro W12 hW12
      have hL12 : Below w11.heap.size w11 W12 := by
        rw [hW12]
        repeat (first | with_reducible exact Below.refl _ _ | with_reducible refine bel_alloc ?_ _ | refine Below.setCell ?_ (by first | (simp; done) | (simp; omega) | omega) _)
      have c165 := c149.up hL12
      have c166 := c150.up hL12
      have c167 := c151.up hL12
      have c168 := c152.up hL12
      have c169 := c153.up hL12
      have c170 := c154.up hL12
      have c171 := c155.up hL12
      have c172 : Own W12 (w11.heap.size) 0 [.int .i64 aP.r, .bool (ng aP.q.num), .string (mg aP.q.num.natAbs), .bool false, .string (mg (dn aP.q))] := by
        rw [hW12]
        first
        | (repeat (first | (with_reducible refine own_new (l := [.int .i64 aP.r, .bool (ng aP.q.num), .string (mg aP.q.num.natAbs), .bool false, .string (mg (dn aP.q))]) ?_; (simp; done)) | with_reducible refine Own.alloc ?_ _ | refine Own.far _ _ (by first | (simp; done) | (simp [*]; done) | (simp; omega)) ?_)); done
        | simp [Own, go_sem, uc149, uc150, uc151, uc152, uc153, uc154, uc155, ne157, ne157', ne157_, ne158, ne158', ne158_, ne159, ne159', ne159_, ne160, ne160', ne160_, ne161, ne161', ne161_, ne162, ne162', ne162_, ne163, ne163', ne163_]
      have hB173 : Below w.heap.size w W12 := by
        rw [hW12]
        repeat (first | with_reducible exact hB156 | with_reducible refine bel_alloc ?_ _ | refine Below.setCell ?_ (by first | (simp; done) | (simp; omega) | omega) _)
      clear hW12 hL12 uc149 uc150 uc151 uc152 uc153 uc154 uc155 c149 c150 c151 c152 c153 c154 c155
      with_reducible refine (K164.out _ (HNV.out.up hB173)).mono ?_
      rintro e w12 ⟨rfl, hb12⟩
      have c174 := c165.up hb12
      have c175 := c166.up hb12
      have c176 := c167.up hb12
      have c177 := c168.up hb12
      have c178 := c169.up hb12
      have c179 := c170.up hb12
      have c180 := c171.up hb12
      have c181 := c172.up hb12
      have hB182 : Below w.heap.size w w12 := bel_up hB173 hb12
      clear c165 c166 c167 c168 c169 c170 c171 c172
      have uc174 := c174; have uc175 := c175; have uc176 := c176; have uc177 := c177; have uc178 := c178; have uc179 := c179; have uc180 := c180; have uc181 := c181
      simp only [At, Own, Nat.reduceAdd, and_true] at uc174 uc175 uc176 uc177 uc178 uc179 uc180 uc181
      go_wp2
      go_ret
      exact ⟨rfl, bel_up hBw (by repeat (first | with_reducible exact hB182 | with_reducible refine bel_alloc ?_ _ | refine Below.setCell ?_ (by first | (simp; done) | (simp; omega) | omega) _))⟩
    · skip
      obtain ⟨j, hj, -⟩ := fnd_idx ha
      have i0j : ¬ (j : Int) < 0 := by omega
      have i2j : (0 : Int) ≤ j := by omega
      have HJ := Lib.hid hj
      clear hj
      have EQc := fun W => eqPc_zero aP W
      rw [decide_eq_true hap] at EQc
      clear ha hap hf
      have K183 := Lib.hid (fun W (hv : NV W (.agg #[.slice An Nn cn, .slice Ar Nr cr]) N) => lnode_j N id j _ W hv ⟨by rw [HNn.out]; exact hln, by rw [HNr.out]; exact hlr⟩ HJ.out)
      go_wp2_with (fail)
      refine calls_named ?_
      intro W13 hW13
      have hL13 : Below w11.heap.size w11 W13 := by
        rw [hW13]
        repeat (first | with_reducible exact Below.refl _ _ | with_reducible refine bel_alloc ?_ _ | refine Below.setCell ?_ (by first | (simp; done) | (simp; omega) | omega) _)
      have c184 := c149.up hL13
      have c185 := c150.up hL13
      have c186 := c151.up hL13
      have c187 := c152.up hL13
      have c188 := c153.up hL13
      have c189 := c154.up hL13
      have c190 := c155.up hL13
      have c191 : Own W13 (w11.heap.size) 0 [.int .i64 aP.r, .bool (ng aP.q.num), .string (mg aP.q.num.natAbs), .bool false, .string (mg (dn aP.q))] := by
        rw [hW13]
        first
        | (repeat (first | (with_reducible refine own_new (l := [.int .i64 aP.r, .bool (ng aP.q.num), .string (mg aP.q.num.natAbs), .bool false, .string (mg (dn aP.q))]) ?_; (simp; done)) | with_reducible refine Own.alloc ?_ _ | refine Own.far _ _ (by first | (simp; done) | (simp [*]; done) | (simp; omega)) ?_)); done
        | simp [Own, go_sem, uc149, uc150, uc151, uc152, uc153, uc154, uc155, ne157, ne157', ne157_, ne158, ne158', ne158_, ne159, ne159', ne159_, ne160, ne160', ne160_, ne161, ne161', ne161_, ne162, ne162', ne162_, ne163, ne163', ne163_]
      have hB192 : Below w.heap.size w W13 := by
        rw [hW13]
        repeat (first | with_reducible exact hB156 | with_reducible refine bel_alloc ?_ _ | refine Below.setCell ?_ (by first | (simp; done) | (simp; omega) | omega) _)
      clear hW13 hL13 uc149 uc150 uc151 uc152 uc153 uc154 uc155 c149 c150 c151 c152 c153 c154 c155
      with_reducible refine (K183.out _ (HNV.out.up hB192)).mono ?_
      rintro e w13 ⟨rfl, hb13⟩
      have c193 := c184.up hb13
      have c194 := c185.up hb13
      have c195 := c186.up hb13
      have c196 := c187.up hb13
      have c197 := c188.up hb13
      have c198 := c189.up hb13
      have c199 := c190.up hb13
      have c200 := c191.up hb13
      have hB201 : Below w.heap.size w w13 := bel_up hB192 hb13
      clear c184 c185 c186 c187 c188 c189 c190 c191
      have uc193 := c193; have uc194 := c194; have uc195 := c195; have uc196 := c196; have uc197 := c197; have uc198 := c198; have uc199 := c199; have uc200 := c200
      simp only [At, Own, Nat.reduceAdd, and_true] at uc193 uc194 uc195 uc196 uc197 uc198 uc199 uc200
      go_wp2
      go_ret
      exact ⟨rfl, bel_up hBw (by repeat (first | with_reducible exact hB201 | with_reducible refine bel_alloc ?_ _ | refine Below.setCell ?_ (by first | (simp; done) | (simp; omega) | omega) _))⟩
    · skip
      obtain ⟨j, hj, -⟩ := fnd_idx ha
      have i0j : ¬ (j : Int) < 0 := by omega
      have i2j : (0 : Int) ≤ j := by omega
      have HJ := Lib.hid hj
      clear hj
      have EQc := fun W => eqPc_in aP aP W
      rw [decide_eq_true rfl] at EQc
      clear ha hap hf
      have K202 := Lib.hid (fun W (hv : NV W (.agg #[.slice An Nn cn, .slice Ar Nr cr]) N) => lnode_j N id j _ W hv ⟨by rw [HNn.out]; exact hln, by rw [HNr.out]; exact hlr⟩ HJ.out)
      go_wp2_with (fail)
      refine calls_named ?_
      intro W14 hW14
      have hL14 : Below w11.heap.size w11 W14 := by
        rw [hW14]
        repeat (first | with_reducible exact Below.refl _ _ | with_reducible refine bel_alloc ?_ _ | refine Below.setCell ?_ (by first | (simp; done) | (simp; omega) | omega) _)
      have c203 := c149.up hL14
      have c204 := c150.up hL14
      have c205 := c151.up hL14
      have c206 := c152.up hL14
      have c207 := c153.up hL14
      have c208 := c154.up hL14
      have c209 := c155.up hL14
      have c210 : Own W14 (w11.heap.size) 0 [.int .i64 aP.r, .bool (ng aP.q.num), .string (mg aP.q.num.natAbs), .bool false, .string (mg (dn aP.q))] := by
        rw [hW14]
        first
        | (repeat (first | (with_reducible refine own_new (l := [.int .i64 aP.r, .bool (ng aP.q.num), .string (mg aP.q.num.natAbs), .bool false, .string (mg (dn aP.q))]) ?_; (simp; done)) | with_reducible refine Own.alloc ?_ _ | refine Own.far _ _ (by first | (simp; done) | (simp [*]; done) | (simp; omega)) ?_)); done
        | simp [Own, go_sem, uc149, uc150, uc151, uc152, uc153, uc154, uc155, ne157, ne157', ne157_, ne158, ne158', ne158_, ne159, ne159', ne159_, ne160, ne160', ne160_, ne161, ne161', ne161_, ne162, ne162', ne162_, ne163, ne163', ne163_]
      have hB211 : Below w.heap.size w W14 := by
        rw [hW14]
        repeat (first | with_reducible exact hB156 | with_reducible refine bel_alloc ?_ _ | refine Below.setCell ?_ (by first | (simp; done) | (simp; omega) | omega) _)
      clear hW14 hL14 uc149 uc150 uc151 uc152 uc153 uc154 uc155 c149 c150 c151 c152 c153 c154 c155
      with_reducible refine (K202.out _ (HNV.out.up hB211)).mono ?_
      rintro e w14 ⟨rfl, hb14⟩
      have c212 := c203.up hb14
      have c213 := c204.up hb14
      have c214 := c205.up hb14
      have c215 := c206.up hb14
      have c216 := c207.up hb14
      have c217 := c208.up hb14
      have c218 := c209.up hb14
      have c219 := c210.up hb14
      have hB220 : Below w.heap.size w w14 := bel_up hB211 hb14
      clear c203 c204 c205 c206 c207 c208 c209 c210
      have uc212 := c212; have uc213 := c213; have uc214 := c214; have uc215 := c215; have uc216 := c216; have uc217 := c217; have uc218 := c218; have uc219 := c219
      simp only [At, Own, Nat.reduceAdd, and_true] at uc212 uc213 uc214 uc215 uc216 uc217 uc218 uc219
      go_wp2
      go_ret
      exact ⟨rfl, bel_up hBw (by repeat (first | with_reducible exact hB220 | with_reducible refine bel_alloc ?_ _ | refine Below.setCell ?_ (by first | (simp; done) | (simp; omega) | omega) _))⟩
end Go.Proofs.YtldfencaoaikgaaGreatDoor
