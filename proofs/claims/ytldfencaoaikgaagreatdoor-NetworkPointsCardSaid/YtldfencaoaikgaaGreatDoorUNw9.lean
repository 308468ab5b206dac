/-
  Contracts of package network: exits, entries, same positions, mirrored positions.
-/
import Derived.Test.YtldfencaoaikgaaGreatDoorUNw8
import Derived.Test.YtldfencaoaikgaaGreatDoorUNb
set_option linter.unusedSimpArgs false
set_option linter.unusedVariables false
namespace Go.Proofs.YtldfencaoaikgaaGreatDoor
open Go Go.RowKit Nw

set_option maxRecDepth 100000 in
theorem exits_any (N : Net) (r : Rd) (p : Pc) (v : Value) (w : World) (h : NV w v N) (g : Vld N) (hat : Nw.At N r p) (hq : Pl.Sz 2000 p.q) :
    Calls Tryz.prog 35 #[v, .agg #[.int .i64 p.r, .bool (ng p.q.num), .string (mg p.q.num.natAbs), .bool false, .string (mg (dn p.q))]] w fun e w' => ∃ v', e = .returned (.tuple #[v', .int .i64 0]) ∧ EL w' v' (exitsE r p.q) ∧ Below w.heap.size w w' := by
  have HNE := Lib.hid (hat.ok g).2.2.2.2.2.2.1
  have HR := Lib.hid hat.f
  have HAT := Lib.hid hat
  clear hat
  obtain ⟨_, _, rfl, hn, hr⟩ := h
  obtain ⟨An, cn, rfl, hcn, hmn, hxn⟩ := hn.open_
  obtain ⟨Ar, cr, rfl, hcr, hmr, hxr⟩ := hr.open_
  have HNV : Hid (NV w (.agg #[.slice An N.ns.length cn, .slice Ar N.rs.length cr]) N) := Lib.hid ⟨_, _, rfl, hn, hr⟩
  have HXN := Lib.hid hxn
  have HXR := Lib.hid hxr
  have HG := Lib.hid g
  have hln := g.ln
  have hlr := g.lr
  generalize hNn : N.ns.length = Nn at *
  generalize hNr : N.rs.length = Nr at *
  have HNn := Lib.hid hNn
  have HNr := Lib.hid hNr
  clear hn hr hxn hxr g hNn hNr
  go_enter Tryz.func35, Tryz.ntmps35
  have K1 := Lib.hid (fun W (hv : NV W (.agg #[.slice An Nn cn, .slice Ar Nr cr]) N) => road_some N r p.r _ W hv HG.out HR.out)
  go_wp2_with (fail)
  refine calls_named ?_
  intro W1 hW1
  have hL1 : Below w.heap.size w W1 := by
    rw [hW1]
    repeat (first | with_reducible exact Below.refl _ _ | with_reducible refine bel_alloc ?_ _ | refine Below.setCell ?_ (by first | (simp; done) | (simp; omega) | omega) _)
  have c2 : Own W1 (w.heap.size) 0 [.slice An Nn cn, .slice Ar Nr cr] := by
    rw [hW1]
    first
    | (repeat (first | (with_reducible refine own_new (l := [.slice An Nn cn, .slice Ar Nr cr]) ?_; (simp; done)) | with_reducible refine Own.alloc ?_ _ | refine Own.far _ _ (by first | (simp; done) | (simp [*]; done) | (simp; omega)) ?_)); done
    | simp [Own, go_sem]
  have c3 : Own W1 (w.heap.size + 1) 0 [.int .i64 p.r, .bool (ng p.q.num), .string (mg p.q.num.natAbs), .bool false, .string (mg (dn p.q))] := by
    rw [hW1]
    first
    | (repeat (first | (with_reducible refine own_new (l := [.int .i64 p.r, .bool (ng p.q.num), .string (mg p.q.num.natAbs), .bool false, .string (mg (dn p.q))]) ?_; (simp; done)) | with_reducible refine Own.alloc ?_ _ | refine Own.far _ _ (by first | (simp; done) | (simp [*]; done) | (simp; omega)) ?_)); done
    | simp [Own, go_sem]
  have hB4 : Below w.heap.size w W1 := by
    rw [hW1]
    repeat (first | with_reducible exact Below.refl _ _ | with_reducible refine bel_alloc ?_ _ | refine Below.setCell ?_ (by first | (simp; done) | (simp; omega) | omega) _)
  clear hW1 hL1
  with_reducible refine (K1.out _ (HNV.out.up hB4)).mono ?_
  rintro e w1 ⟨rfl, hb1⟩
  have c5 := c2.up hb1
  have c6 := c3.up hb1
  have hB7 : Below w.heap.size w w1 := bel_up hB4 hb1
  clear c2 c3
  have ne8_ : w.heap.size < w1.heap.size := by have := c5.lt; omega
  have ne8 := Nat.ne_of_lt ne8_
  have ne8' := ne8.symm
  have ne9_ : w.heap.size + 1 < w1.heap.size := by have := c6.lt; omega
  have ne9 := Nat.ne_of_lt ne9_
  have ne9' := ne9.symm
  have uc5 := c5; have uc6 := c6
  simp only [At, Own, Nat.reduceAdd, and_true] at uc5 uc6
  have K10 := Lib.hid (fun W (hv : NV W (.agg #[.slice An Nn cn, .slice Ar Nr cr]) N) => ends_any N r p (!r.o) true _ W hv HG.out HAT.out hq (by first | exact .inl rfl | exact .inr rfl))
  go_wp2_with (fail)
  refine calls_named ?_
  intro W2 hW2
  have hL2 : Below w1.heap.size w1 W2 := by
    rw [hW2]
    repeat (first | with_reducible exact Below.refl _ _ | with_reducible refine bel_alloc ?_ _ | refine Below.setCell ?_ (by first | (simp; done) | (simp; omega) | omega) _)
  have c11 := c5.up hL2
  have c12 := c6.up hL2
  have c13 : Own W2 (w1.heap.size) 0 [.int .i64 r.i, .int .i64 r.f, .int .i64 r.t, .int .i64 r.l, .int .i64 r.m, .bool r.o] := by
    rw [hW2]
    first
    | (repeat (first | (with_reducible refine own_new (l := [.int .i64 r.i, .int .i64 r.f, .int .i64 r.t, .int .i64 r.l, .int .i64 r.m, .bool r.o]) ?_; (simp; done)) | with_reducible refine Own.alloc ?_ _ | refine Own.far _ _ (by first | (simp; done) | (simp [*]; done) | (simp; omega)) ?_)); done
    | simp [Own, go_sem, uc5, uc6, ne8, ne8', ne8_, ne9, ne9', ne9_]
  have hB14 : Below w.heap.size w W2 := by
    rw [hW2]
    repeat (first | with_reducible exact hB7 | with_reducible refine bel_alloc ?_ _ | refine Below.setCell ?_ (by first | (simp; done) | (simp; omega) | omega) _)
  clear hW2 hL2 uc5 uc6 c5 c6
  with_reducible refine (K10.out _ (HNV.out.up hB14)).mono ?_
  rintro e w2 ⟨v2, rfl, hv2, hb2⟩
  have c15 := c11.up hb2
  have c16 := c12.up hb2
  have c17 := c13.up hb2
  have hB18 : Below w.heap.size w w2 := bel_up hB14 hb2
  clear c11 c12 c13
  have PW2 := Lib.hid hv2
  clear hv2
  have uc15 := c15; have uc16 := c16; have uc17 := c17
  simp only [At, Own, Nat.reduceAdd, and_true] at uc15 uc16 uc17
  go_wp2
  go_ret2
  exact ⟨_, rfl, (by rw [← endsE_exits HNE.out]; exact PW2.out), (by repeat (first | with_reducible exact hB18 | with_reducible refine bel_alloc ?_ _ | refine Below.setCell ?_ (by first | (simp; done) | (simp; omega) | omega) _))⟩

set_option maxRecDepth 100000 in
theorem entries_any (N : Net) (r : Rd) (p : Pc) (v : Value) (w : World) (h : NV w v N) (g : Vld N) (hat : Nw.At N r p) (hq : Pl.Sz 2000 p.q) :
    Calls Tryz.prog 36 #[v, .agg #[.int .i64 p.r, .bool (ng p.q.num), .string (mg p.q.num.natAbs), .bool false, .string (mg (dn p.q))]] w fun e w' => ∃ v', e = .returned (.tuple #[v', .int .i64 0]) ∧ EL w' v' (entriesE r p.q) ∧ Below w.heap.size w w' := by
  have HNE := Lib.hid (hat.ok g).2.2.2.2.2.2.1
  have HR := Lib.hid hat.f
  have HAT := Lib.hid hat
  clear hat
  obtain ⟨_, _, rfl, hn, hr⟩ := h
  obtain ⟨An, cn, rfl, hcn, hmn, hxn⟩ := hn.open_
  obtain ⟨Ar, cr, rfl, hcr, hmr, hxr⟩ := hr.open_
  have HNV : Hid (NV w (.agg #[.slice An N.ns.length cn, .slice Ar N.rs.length cr]) N) := Lib.hid ⟨_, _, rfl, hn, hr⟩
  have HXN := Lib.hid hxn
  have HXR := Lib.hid hxr
  have HG := Lib.hid g
  have hln := g.ln
  have hlr := g.lr
  generalize hNn : N.ns.length = Nn at *
  generalize hNr : N.rs.length = Nr at *
  have HNn := Lib.hid hNn
  have HNr := Lib.hid hNr
  clear hn hr hxn hxr g hNn hNr
  go_enter Tryz.func36, Tryz.ntmps36
  have K1 := Lib.hid (fun W (hv : NV W (.agg #[.slice An Nn cn, .slice Ar Nr cr]) N) => road_some N r p.r _ W hv HG.out HR.out)
  go_wp2_with (fail)
  refine calls_named ?_
  intro W1 hW1
  have hL1 : Below w.heap.size w W1 := by
    rw [hW1]
    repeat (first | with_reducible exact Below.refl _ _ | with_reducible refine bel_alloc ?_ _ | refine Below.setCell ?_ (by first | (simp; done) | (simp; omega) | omega) _)
  have c2 : Own W1 (w.heap.size) 0 [.slice An Nn cn, .slice Ar Nr cr] := by
    rw [hW1]
    first
    | (repeat (first | (with_reducible refine own_new (l := [.slice An Nn cn, .slice Ar Nr cr]) ?_; (simp; done)) | with_reducible refine Own.alloc ?_ _ | refine Own.far _ _ (by first | (simp; done) | (simp [*]; done) | (simp; omega)) ?_)); done
    | simp [Own, go_sem]
  have c3 : Own W1 (w.heap.size + 1) 0 [.int .i64 p.r, .bool (ng p.q.num), .string (mg p.q.num.natAbs), .bool false, .string (mg (dn p.q))] := by
    rw [hW1]
    first
    | (repeat (first | (with_reducible refine own_new (l := [.int .i64 p.r, .bool (ng p.q.num), .string (mg p.q.num.natAbs), .bool false, .string (mg (dn p.q))]) ?_; (simp; done)) | with_reducible refine Own.alloc ?_ _ | refine Own.far _ _ (by first | (simp; done) | (simp [*]; done) | (simp; omega)) ?_)); done
    | simp [Own, go_sem]
  have hB4 : Below w.heap.size w W1 := by
    rw [hW1]
    repeat (first | with_reducible exact Below.refl _ _ | with_reducible refine bel_alloc ?_ _ | refine Below.setCell ?_ (by first | (simp; done) | (simp; omega) | omega) _)
  clear hW1 hL1
  with_reducible refine (K1.out _ (HNV.out.up hB4)).mono ?_
  rintro e w1 ⟨rfl, hb1⟩
  have c5 := c2.up hb1
  have c6 := c3.up hb1
  have hB7 : Below w.heap.size w w1 := bel_up hB4 hb1
  clear c2 c3
  have ne8_ : w.heap.size < w1.heap.size := by have := c5.lt; omega
  have ne8 := Nat.ne_of_lt ne8_
  have ne8' := ne8.symm
  have ne9_ : w.heap.size + 1 < w1.heap.size := by have := c6.lt; omega
  have ne9 := Nat.ne_of_lt ne9_
  have ne9' := ne9.symm
  have uc5 := c5; have uc6 := c6
  simp only [At, Own, Nat.reduceAdd, and_true] at uc5 uc6
  have K10 := Lib.hid (fun W (hv : NV W (.agg #[.slice An Nn cn, .slice Ar Nr cr]) N) => ends_any N r p true (!r.o) _ W hv HG.out HAT.out hq (by first | exact .inl rfl | exact .inr rfl))
  go_wp2_with (fail)
  refine calls_named ?_
  intro W2 hW2
  have hL2 : Below w1.heap.size w1 W2 := by
    rw [hW2]
    repeat (first | with_reducible exact Below.refl _ _ | with_reducible refine bel_alloc ?_ _ | refine Below.setCell ?_ (by first | (simp; done) | (simp; omega) | omega) _)
  have c11 := c5.up hL2
  have c12 := c6.up hL2
  have c13 : Own W2 (w1.heap.size) 0 [.int .i64 r.i, .int .i64 r.f, .int .i64 r.t, .int .i64 r.l, .int .i64 r.m, .bool r.o] := by
    rw [hW2]
    first
    | (repeat (first | (with_reducible refine own_new (l := [.int .i64 r.i, .int .i64 r.f, .int .i64 r.t, .int .i64 r.l, .int .i64 r.m, .bool r.o]) ?_; (simp; done)) | with_reducible refine Own.alloc ?_ _ | refine Own.far _ _ (by first | (simp; done) | (simp [*]; done) | (simp; omega)) ?_)); done
    | simp [Own, go_sem, uc5, uc6, ne8, ne8', ne8_, ne9, ne9', ne9_]
  have hB14 : Below w.heap.size w W2 := by
    rw [hW2]
    repeat (first | with_reducible exact hB7 | with_reducible refine bel_alloc ?_ _ | refine Below.setCell ?_ (by first | (simp; done) | (simp; omega) | omega) _)
  clear hW2 hL2 uc5 uc6 c5 c6
  with_reducible refine (K10.out _ (HNV.out.up hB14)).mono ?_
  rintro e w2 ⟨v2, rfl, hv2, hb2⟩
  have c15 := c11.up hb2
  have c16 := c12.up hb2
  have c17 := c13.up hb2
  have hB18 : Below w.heap.size w w2 := bel_up hB14 hb2
  clear c11 c12 c13
  have PW2 := Lib.hid hv2
  clear hv2
  have uc15 := c15; have uc16 := c16; have uc17 := c17
  simp only [At, Own, Nat.reduceAdd, and_true] at uc15 uc16 uc17
  go_wp2
  go_ret2
  exact ⟨_, rfl, (by rw [← endsE_entries HNE.out]; exact PW2.out), (by repeat (first | with_reducible exact hB18 | with_reducible refine bel_alloc ?_ _ | refine Below.setCell ?_ (by first | (simp; done) | (simp; omega) | omega) _))⟩

set_option maxRecDepth 100000 in
theorem exits_none (N : Net) (p : Pc) (c : Int) (v : Value) (w : World) (h : NV w v N) (g : Vld N) (hr : frd N.rs p.r = none) (hq : Pl.Sz 2000 p.q) (hp : placeE N p = c) (hc0 : ¬ c = 0) :
    Calls Tryz.prog 35 #[v, .agg #[.int .i64 p.r, .bool (ng p.q.num), .string (mg p.q.num.natAbs), .bool false, .string (mg (dn p.q))]] w fun e w' => e = .returned (.tuple #[.slice none 0 0, .int .i64 c]) ∧ Below w.heap.size w w' := by
  have HP := Lib.hid hp
  have HC0 := Lib.hid hc0
  have HR := Lib.hid hr
  clear hp hc0 hr
  obtain ⟨_, _, rfl, hn, hr⟩ := h
  obtain ⟨An, cn, rfl, hcn, hmn, hxn⟩ := hn.open_
  obtain ⟨Ar, cr, rfl, hcr, hmr, hxr⟩ := hr.open_
  have HNV : Hid (NV w (.agg #[.slice An N.ns.length cn, .slice Ar N.rs.length cr]) N) := Lib.hid ⟨_, _, rfl, hn, hr⟩
  have HXN := Lib.hid hxn
  have HXR := Lib.hid hxr
  have HG := Lib.hid g
  have hln := g.ln
  have hlr := g.lr
  generalize hNn : N.ns.length = Nn at *
  generalize hNr : N.rs.length = Nr at *
  have HNn := Lib.hid hNn
  have HNr := Lib.hid hNr
  clear hn hr hxn hxr g hNn hNr
  go_enter Tryz.func35, Tryz.ntmps35
  have K1 := Lib.hid (fun W (hv : NV W (.agg #[.slice An Nn cn, .slice Ar Nr cr]) N) => road_none N p.r _ W hv HG.out HR.out)
  go_wp2_with (fail)
  refine calls_named ?_
  intro W1 hW1
  have hL1 : Below w.heap.size w W1 := by
    rw [hW1]
    repeat (first | with_reducible exact Below.refl _ _ | with_reducible refine bel_alloc ?_ _ | refine Below.setCell ?_ (by first | (simp; done) | (simp; omega) | omega) _)
  have c2 : Own W1 (w.heap.size) 0 [.slice An Nn cn, .slice Ar Nr cr] := by
    rw [hW1]
    first
    | (repeat (first | (with_reducible refine own_new (l := [.slice An Nn cn, .slice Ar Nr cr]) ?_; (simp; done)) | with_reducible refine Own.alloc ?_ _ | refine Own.far _ _ (by first | (simp; done) | (simp [*]; done) | (simp; omega)) ?_)); done
    | simp [Own, go_sem]
  have c3 : Own W1 (w.heap.size + 1) 0 [.int .i64 p.r, .bool (ng p.q.num), .string (mg p.q.num.natAbs), .bool false, .string (mg (dn p.q))] := by
    rw [hW1]
    first
    | (repeat (first | (with_reducible refine own_new (l := [.int .i64 p.r, .bool (ng p.q.num), .string (mg p.q.num.natAbs), .bool false, .string (mg (dn p.q))]) ?_; (simp; done)) | with_reducible refine Own.alloc ?_ _ | refine Own.far _ _ (by first | (simp; done) | (simp [*]; done) | (simp; omega)) ?_)); done
    | simp [Own, go_sem]
  have hB4 : Below w.heap.size w W1 := by
    rw [hW1]
    repeat (first | with_reducible exact Below.refl _ _ | with_reducible refine bel_alloc ?_ _ | refine Below.setCell ?_ (by first | (simp; done) | (simp; omega) | omega) _)
  clear hW1 hL1
  with_reducible refine (K1.out _ (HNV.out.up hB4)).mono ?_
  rintro e w1 ⟨rfl, hb1⟩
  have c5 := c2.up hb1
  have c6 := c3.up hb1
  have hB7 : Below w.heap.size w w1 := bel_up hB4 hb1
  clear c2 c3
  have ne8_ : w.heap.size < w1.heap.size := by have := c5.lt; omega
  have ne8 := Nat.ne_of_lt ne8_
  have ne8' := ne8.symm
  have ne9_ : w.heap.size + 1 < w1.heap.size := by have := c6.lt; omega
  have ne9 := Nat.ne_of_lt ne9_
  have ne9' := ne9.symm
  have uc5 := c5; have uc6 := c6
  simp only [At, Own, Nat.reduceAdd, and_true] at uc5 uc6
  have K10 := Lib.hid (fun W (hv : NV W (.agg #[.slice An Nn cn, .slice Ar Nr cr]) N) => ends_bad N p c true true _ W hv HG.out hq HP.out HC0.out)
  go_wp2_with (fail)
  refine calls_named ?_
  intro W2 hW2
  have hL2 : Below w1.heap.size w1 W2 := by
    rw [hW2]
    repeat (first | with_reducible exact Below.refl _ _ | with_reducible refine bel_alloc ?_ _ | refine Below.setCell ?_ (by first | (simp; done) | (simp; omega) | omega) _)
  have c11 := c5.up hL2
  have c12 := c6.up hL2
  have c13 : Own W2 (w1.heap.size) 0 [.int .i64 0, .int .i64 0, .int .i64 0, .int .i64 0, .int .i64 0, .bool false] := by
    rw [hW2]
    first
    | (repeat (first | (with_reducible refine own_new (l := [.int .i64 0, .int .i64 0, .int .i64 0, .int .i64 0, .int .i64 0, .bool false]) ?_; (simp; done)) | with_reducible refine Own.alloc ?_ _ | refine Own.far _ _ (by first | (simp; done) | (simp [*]; done) | (simp; omega)) ?_)); done
    | simp [Own, go_sem, uc5, uc6, ne8, ne8', ne8_, ne9, ne9', ne9_]
  have hB14 : Below w.heap.size w W2 := by
    rw [hW2]
    repeat (first | with_reducible exact hB7 | with_reducible refine bel_alloc ?_ _ | refine Below.setCell ?_ (by first | (simp; done) | (simp; omega) | omega) _)
  clear hW2 hL2 uc5 uc6 c5 c6
  with_reducible refine (K10.out _ (HNV.out.up hB14)).mono ?_
  rintro e w2 ⟨rfl, hb2⟩
  have c15 := c11.up hb2
  have c16 := c12.up hb2
  have c17 := c13.up hb2
  have hB18 : Below w.heap.size w w2 := bel_up hB14 hb2
  clear c11 c12 c13
  have uc15 := c15; have uc16 := c16; have uc17 := c17
  simp only [At, Own, Nat.reduceAdd, and_true] at uc15 uc16 uc17
  go_wp2
  go_ret2
  refine ⟨rfl, ?_⟩
  repeat (first | with_reducible exact hB18 | with_reducible refine bel_alloc ?_ _ | refine Below.setCell ?_ (by first | (simp; done) | (simp; omega) | omega) _)

set_option maxRecDepth 100000 in
theorem entries_bad (N : Net) (r : Rd) (p : Pc) (c : Int) (v : Value) (w : World) (h : NV w v N) (g : Vld N) (hr : frd N.rs p.r = some r) (hq : Pl.Sz 2000 p.q) (hp : placeE N p = c) (hc0 : ¬ c = 0) :
    Calls Tryz.prog 36 #[v, .agg #[.int .i64 p.r, .bool (ng p.q.num), .string (mg p.q.num.natAbs), .bool false, .string (mg (dn p.q))]] w fun e w' => e = .returned (.tuple #[.slice none 0 0, .int .i64 c]) ∧ Below w.heap.size w w' := by
  have HP := Lib.hid hp
  have HC0 := Lib.hid hc0
  have HR := Lib.hid hr
  clear hp hc0 hr
  obtain ⟨_, _, rfl, hn, hr⟩ := h
  obtain ⟨An, cn, rfl, hcn, hmn, hxn⟩ := hn.open_
  obtain ⟨Ar, cr, rfl, hcr, hmr, hxr⟩ := hr.open_
  have HNV : Hid (NV w (.agg #[.slice An N.ns.length cn, .slice Ar N.rs.length cr]) N) := Lib.hid ⟨_, _, rfl, hn, hr⟩
  have HXN := Lib.hid hxn
  have HXR := Lib.hid hxr
  have HG := Lib.hid g
  have hln := g.ln
  have hlr := g.lr
  generalize hNn : N.ns.length = Nn at *
  generalize hNr : N.rs.length = Nr at *
  have HNn := Lib.hid hNn
  have HNr := Lib.hid hNr
  clear hn hr hxn hxr g hNn hNr
  go_enter Tryz.func36, Tryz.ntmps36
  have K1 := Lib.hid (fun W (hv : NV W (.agg #[.slice An Nn cn, .slice Ar Nr cr]) N) => road_some N r p.r _ W hv HG.out HR.out)
  go_wp2_with (fail)
  refine calls_named ?_
  intro W1 hW1
  have hL1 : Below w.heap.size w W1 := by
    rw [hW1]
    repeat (first | with_reducible exact Below.refl _ _ | with_reducible refine bel_alloc ?_ _ | refine Below.setCell ?_ (by first | (simp; done) | (simp; omega) | omega) _)
  have c2 : Own W1 (w.heap.size) 0 [.slice An Nn cn, .slice Ar Nr cr] := by
    rw [hW1]
    first
    | (repeat (first | (with_reducible refine own_new (l := [.slice An Nn cn, .slice Ar Nr cr]) ?_; (simp; done)) | with_reducible refine Own.alloc ?_ _ | refine Own.far _ _ (by first | (simp; done) | (simp [*]; done) | (simp; omega)) ?_)); done
    | simp [Own, go_sem]
  have c3 : Own W1 (w.heap.size + 1) 0 [.int .i64 p.r, .bool (ng p.q.num), .string (mg p.q.num.natAbs), .bool false, .string (mg (dn p.q))] := by
    rw [hW1]
    first
    | (repeat (first | (with_reducible refine own_new (l := [.int .i64 p.r, .bool (ng p.q.num), .string (mg p.q.num.natAbs), .bool false, .string (mg (dn p.q))]) ?_; (simp; done)) | with_reducible refine Own.alloc ?_ _ | refine Own.far _ _ (by first | (simp; done) | (simp [*]; done) | (simp; omega)) ?_)); done
    | simp [Own, go_sem]
  have hB4 : Below w.heap.size w W1 := by
    rw [hW1]
    repeat (first | with_reducible exact Below.refl _ _ | with_reducible refine bel_alloc ?_ _ | refine Below.setCell ?_ (by first | (simp; done) | (simp; omega) | omega) _)
  clear hW1 hL1
  with_reducible refine (K1.out _ (HNV.out.up hB4)).mono ?_
  rintro e w1 ⟨rfl, hb1⟩
  have c5 := c2.up hb1
  have c6 := c3.up hb1
  have hB7 : Below w.heap.size w w1 := bel_up hB4 hb1
  clear c2 c3
  have ne8_ : w.heap.size < w1.heap.size := by have := c5.lt; omega
  have ne8 := Nat.ne_of_lt ne8_
  have ne8' := ne8.symm
  have ne9_ : w.heap.size + 1 < w1.heap.size := by have := c6.lt; omega
  have ne9 := Nat.ne_of_lt ne9_
  have ne9' := ne9.symm
  have uc5 := c5; have uc6 := c6
  simp only [At, Own, Nat.reduceAdd, and_true] at uc5 uc6
  have K10 := Lib.hid (fun W (hv : NV W (.agg #[.slice An Nn cn, .slice Ar Nr cr]) N) => ends_bad N p c true (!r.o) _ W hv HG.out hq HP.out HC0.out)
  go_wp2_with (fail)
  refine calls_named ?_
  intro W2 hW2
  have hL2 : Below w1.heap.size w1 W2 := by
    rw [hW2]
    repeat (first | with_reducible exact Below.refl _ _ | with_reducible refine bel_alloc ?_ _ | refine Below.setCell ?_ (by first | (simp; done) | (simp; omega) | omega) _)
  have c11 := c5.up hL2
  have c12 := c6.up hL2
  have c13 : Own W2 (w1.heap.size) 0 [.int .i64 r.i, .int .i64 r.f, .int .i64 r.t, .int .i64 r.l, .int .i64 r.m, .bool r.o] := by
    rw [hW2]
    first
    | (repeat (first | (with_reducible refine own_new (l := [.int .i64 r.i, .int .i64 r.f, .int .i64 r.t, .int .i64 r.l, .int .i64 r.m, .bool r.o]) ?_; (simp; done)) | with_reducible refine Own.alloc ?_ _ | refine Own.far _ _ (by first | (simp; done) | (simp [*]; done) | (simp; omega)) ?_)); done
    | simp [Own, go_sem, uc5, uc6, ne8, ne8', ne8_, ne9, ne9', ne9_]
  have hB14 : Below w.heap.size w W2 := by
    rw [hW2]
    repeat (first | with_reducible exact hB7 | with_reducible refine bel_alloc ?_ _ | refine Below.setCell ?_ (by first | (simp; done) | (simp; omega) | omega) _)
  clear hW2 hL2 uc5 uc6 c5 c6
  with_reducible refine (K10.out _ (HNV.out.up hB14)).mono ?_
  rintro e w2 ⟨rfl, hb2⟩
  have c15 := c11.up hb2
  have c16 := c12.up hb2
  have c17 := c13.up hb2
  have hB18 : Below w.heap.size w w2 := bel_up hB14 hb2
  clear c11 c12 c13
  have uc15 := c15; have uc16 := c16; have uc17 := c17
  simp only [At, Own, Nat.reduceAdd, and_true] at uc15 uc16 uc17
  go_wp2
  go_ret2
  refine ⟨rfl, ?_⟩
  repeat (first | with_reducible exact hB18 | with_reducible refine bel_alloc ?_ _ | refine Below.setCell ?_ (by first | (simp; done) | (simp; omega) | omega) _)

set_option maxRecDepth 100000 in
theorem same_any (N : Net) (r1 r2 : Rd) (p q m1 m2 : Pc) (v : Value) (w : World) (h : NV w v N) (g : Vld N) (hat1 : Nw.At N r1 p) (hat2 : Nw.At N r2 q) (hq : Pl.Sz 2000 p.q) (hq2 : Pl.Sz 2000 q.q) (hm1 : normE N r1 p = m1) (hm2 : normE N r2 q = m2) :
    Calls Tryz.prog 48 #[v, .agg #[.int .i64 p.r, .bool (ng p.q.num), .string (mg p.q.num.natAbs), .bool false, .string (mg (dn p.q))], .agg #[.int .i64 q.r, .bool (ng q.q.num), .string (mg q.q.num.natAbs), .bool false, .string (mg (dn q.q))]] w fun e w' => e = .returned (.bool (decide (m1 = m2))) ∧ Below w.heap.size w w' := by
  have HAT1 := Lib.hid hat1
  have HAT2 := Lib.hid hat2
  have HM1 := Lib.hid hm1
  have HM2 := Lib.hid hm2
  clear hat1 hat2 hm1 hm2
  obtain ⟨_, _, rfl, hn, hr⟩ := h
  obtain ⟨An, cn, rfl, hcn, hmn, hxn⟩ := hn.open_
  obtain ⟨Ar, cr, rfl, hcr, hmr, hxr⟩ := hr.open_
  have HNV : Hid (NV w (.agg #[.slice An N.ns.length cn, .slice Ar N.rs.length cr]) N) := Lib.hid ⟨_, _, rfl, hn, hr⟩
  have HXN := Lib.hid hxn
  have HXR := Lib.hid hxr
  have HG := Lib.hid g
  have hln := g.ln
  have hlr := g.lr
  generalize hNn : N.ns.length = Nn at *
  generalize hNr : N.rs.length = Nr at *
  have HNn := Lib.hid hNn
  have HNr := Lib.hid hNr
  clear hn hr hxn hxr g hNn hNr
  go_enter Tryz.func48, Tryz.ntmps48
  have K1 := Lib.hid (fun W (hv : NV W (.agg #[.slice An Nn cn, .slice Ar Nr cr]) N) => normal_any N r1 p m1 _ W hv HG.out HAT1.out hq HM1.out)
  go_wp2_with (fail)
  refine calls_named ?_
  intro W1 hW1
  have hL1 : Below w.heap.size w W1 := by
    rw [hW1]
    repeat (first | with_reducible exact Below.refl _ _ | with_reducible refine bel_alloc ?_ _ | refine Below.setCell ?_ (by first | (simp; done) | (simp; omega) | omega) _)
  have c2 : Own W1 (w.heap.size) 0 [.slice An Nn cn, .slice Ar Nr cr] := by
    rw [hW1]
    first
    | (repeat (first | (with_reducible refine own_new (l := [.slice An Nn cn, .slice Ar Nr cr]) ?_; (simp; done)) | with_reducible refine Own.alloc ?_ _ | refine Own.far _ _ (by first | (simp; done) | (simp [*]; done) | (simp; omega)) ?_)); done
    | simp [Own, go_sem]
  have c3 : Own W1 (w.heap.size + 1) 0 [.int .i64 p.r, .bool (ng p.q.num), .string (mg p.q.num.natAbs), .bool false, .string (mg (dn p.q))] := by
    rw [hW1]
    first
    | (repeat (first | (with_reducible refine own_new (l := [.int .i64 p.r, .bool (ng p.q.num), .string (mg p.q.num.natAbs), .bool false, .string (mg (dn p.q))]) ?_; (simp; done)) | with_reducible refine Own.alloc ?_ _ | refine Own.far _ _ (by first | (simp; done) | (simp [*]; done) | (simp; omega)) ?_)); done
    | simp [Own, go_sem]
  have c4 : Own W1 (w.heap.size + 2) 0 [.int .i64 q.r, .bool (ng q.q.num), .string (mg q.q.num.natAbs), .bool false, .string (mg (dn q.q))] := by
    rw [hW1]
    first
    | (repeat (first | (with_reducible refine own_new (l := [.int .i64 q.r, .bool (ng q.q.num), .string (mg q.q.num.natAbs), .bool false, .string (mg (dn q.q))]) ?_; (simp; done)) | with_reducible refine Own.alloc ?_ _ | refine Own.far _ _ (by first | (simp; done) | (simp [*]; done) | (simp; omega)) ?_)); done
    | simp [Own, go_sem]
  have hB5 : Below w.heap.size w W1 := by
    rw [hW1]
    repeat (first | with_reducible exact Below.refl _ _ | with_reducible refine bel_alloc ?_ _ | refine Below.setCell ?_ (by first | (simp; done) | (simp; omega) | omega) _)
  clear hW1 hL1
  with_reducible refine (K1.out _ (HNV.out.up hB5)).mono ?_
  rintro e w1 ⟨rfl, hb1⟩
  have c6 := c2.up hb1
  have c7 := c3.up hb1
  have c8 := c4.up hb1
  have hB9 : Below w.heap.size w w1 := bel_up hB5 hb1
  clear c2 c3 c4
  have ne10_ : w.heap.size < w1.heap.size := by have := c6.lt; omega
  have ne10 := Nat.ne_of_lt ne10_
  have ne10' := ne10.symm
  have ne11_ : w.heap.size + 1 < w1.heap.size := by have := c7.lt; omega
  have ne11 := Nat.ne_of_lt ne11_
  have ne11' := ne11.symm
  have ne12_ : w.heap.size + 2 < w1.heap.size := by have := c8.lt; omega
  have ne12 := Nat.ne_of_lt ne12_
  have ne12' := ne12.symm
  have uc6 := c6; have uc7 := c7; have uc8 := c8
  simp only [At, Own, Nat.reduceAdd, and_true] at uc6 uc7 uc8
  have K13 := Lib.hid (fun W (hv : NV W (.agg #[.slice An Nn cn, .slice Ar Nr cr]) N) => normal_any N r2 q m2 _ W hv HG.out HAT2.out hq2 HM2.out)
  go_wp2_with (fail)
  refine calls_named ?_
  intro W2 hW2
  have hL2 : Below w1.heap.size w1 W2 := by
    rw [hW2]
    repeat (first | with_reducible exact Below.refl _ _ | with_reducible refine bel_alloc ?_ _ | refine Below.setCell ?_ (by first | (simp; done) | (simp; omega) | omega) _)
  have c14 := c6.up hL2
  have c15 := c7.up hL2
  have c16 := c8.up hL2
  have c17 : Own W2 (w1.heap.size) 0 [.int .i64 m1.r, .bool (ng m1.q.num), .string (mg m1.q.num.natAbs), .bool false, .string (mg (dn m1.q))] := by
    rw [hW2]
    first
    | (repeat (first | (with_reducible refine own_new (l := [.int .i64 m1.r, .bool (ng m1.q.num), .string (mg m1.q.num.natAbs), .bool false, .string (mg (dn m1.q))]) ?_; (simp; done)) | with_reducible refine Own.alloc ?_ _ | refine Own.far _ _ (by first | (simp; done) | (simp [*]; done) | (simp; omega)) ?_)); done
    | simp [Own, go_sem, uc6, uc7, uc8, ne10, ne10', ne10_, ne11, ne11', ne11_, ne12, ne12', ne12_]
  have hB18 : Below w.heap.size w W2 := by
    rw [hW2]
    repeat (first | with_reducible exact hB9 | with_reducible refine bel_alloc ?_ _ | refine Below.setCell ?_ (by first | (simp; done) | (simp; omega) | omega) _)
  clear hW2 hL2 uc6 uc7 uc8 c6 c7 c8
  with_reducible refine (K13.out _ (HNV.out.up hB18)).mono ?_
  rintro e w2 ⟨rfl, hb2⟩
  have c19 := c14.up hb2
  have c20 := c15.up hb2
  have c21 := c16.up hb2
  have c22 := c17.up hb2
  have hB23 : Below w.heap.size w w2 := bel_up hB18 hb2
  clear c14 c15 c16 c17
  have ne24_ : w.heap.size < w2.heap.size := by have := c19.lt; omega
  have ne24 := Nat.ne_of_lt ne24_
  have ne24' := ne24.symm
  have ne25_ : w.heap.size + 1 < w2.heap.size := by have := c20.lt; omega
  have ne25 := Nat.ne_of_lt ne25_
  have ne25' := ne25.symm
  have ne26_ : w.heap.size + 2 < w2.heap.size := by have := c21.lt; omega
  have ne26 := Nat.ne_of_lt ne26_
  have ne26' := ne26.symm
  have ne27_ : w1.heap.size < w2.heap.size := by have := c22.lt; omega
  have ne27 := Nat.ne_of_lt ne27_
  have ne27' := ne27.symm
  have uc19 := c19; have uc20 := c20; have uc21 := c21; have uc22 := c22
  simp only [At, Own, Nat.reduceAdd, and_true] at uc19 uc20 uc21 uc22
  by_cases hq28 : m1 = m2
  · skip
    have EQhq28 := fun W => eqPc_in m1 m2 W
    rw [decide_eq_true hq28] at EQhq28
    have Hhq28 := Lib.hid hq28
    clear hq28
    go_wp2
    go_ret
    refine ⟨(by rw [decide_eq_true Hhq28.out]; rfl), ?_⟩
    repeat (first | with_reducible exact hB23 | with_reducible refine bel_alloc ?_ _ | refine Below.setCell ?_ (by first | (simp; done) | (simp; omega) | omega) _)
  · skip
    have EQhq28 := fun W => eqPc_in m1 m2 W
    rw [decide_eq_false hq28] at EQhq28
    have Hhq28 := Lib.hid hq28
    clear hq28
    go_wp2
    go_ret
    refine ⟨(by rw [decide_eq_false Hhq28.out]; rfl), ?_⟩
    repeat (first | with_reducible exact hB23 | with_reducible refine bel_alloc ?_ _ | refine Below.setCell ?_ (by first | (simp; done) | (simp; omega) | omega) _)

set_option maxRecDepth 100000 in
theorem same_bad (N : Net) (p : Pc) (c : Int) (v : Value) (w : World) (h : NV w v N) (g : Vld N) (hq : Pl.Sz 2000 p.q) (hp : placeE N p = c) (hc0 : ¬ c = 0) :
    Calls Tryz.prog 48 #[v, .agg #[.int .i64 p.r, .bool (ng p.q.num), .string (mg p.q.num.natAbs), .bool false, .string (mg (dn p.q))], .agg #[.int .i64 p.r, .bool (ng p.q.num), .string (mg p.q.num.natAbs), .bool false, .string (mg (dn p.q))]] w fun e w' => e = .returned (.bool false) ∧ Below w.heap.size w w' := by
  have HC0 := Lib.hid hc0
  have HP := Lib.hid hp
  have hc0_ : (((c : Int)) == 0) = false := by simpa using hc0
  clear hp
  obtain ⟨_, _, rfl, hn, hr⟩ := h
  obtain ⟨An, cn, rfl, hcn, hmn, hxn⟩ := hn.open_
  obtain ⟨Ar, cr, rfl, hcr, hmr, hxr⟩ := hr.open_
  have HNV : Hid (NV w (.agg #[.slice An N.ns.length cn, .slice Ar N.rs.length cr]) N) := Lib.hid ⟨_, _, rfl, hn, hr⟩
  have HXN := Lib.hid hxn
  have HXR := Lib.hid hxr
  have HG := Lib.hid g
  have hln := g.ln
  have hlr := g.lr
  generalize hNn : N.ns.length = Nn at *
  generalize hNr : N.rs.length = Nr at *
  have HNn := Lib.hid hNn
  have HNr := Lib.hid hNr
  clear hn hr hxn hxr g hNn hNr
  go_enter Tryz.func48, Tryz.ntmps48
  have K1 := Lib.hid (fun W (hv : NV W (.agg #[.slice An Nn cn, .slice Ar Nr cr]) N) => normal_bad N p c _ W hv HG.out hq HP.out HC0.out)
  go_wp2_with (fail)
  refine calls_named ?_
  intro W1 hW1
  have hL1 : Below w.heap.size w W1 := by
    rw [hW1]
    repeat (first | with_reducible exact Below.refl _ _ | with_reducible refine bel_alloc ?_ _ | refine Below.setCell ?_ (by first | (simp; done) | (simp; omega) | omega) _)
  have c2 : Own W1 (w.heap.size) 0 [.slice An Nn cn, .slice Ar Nr cr] := by
    rw [hW1]
    first
    | (repeat (first | (with_reducible refine own_new (l := [.slice An Nn cn, .slice Ar Nr cr]) ?_; (simp; done)) | with_reducible refine Own.alloc ?_ _ | refine Own.far _ _ (by first | (simp; done) | (simp [*]; done) | (simp; omega)) ?_)); done
    | simp [Own, go_sem]
  have c3 : Own W1 (w.heap.size + 1) 0 [.int .i64 p.r, .bool (ng p.q.num), .string (mg p.q.num.natAbs), .bool false, .string (mg (dn p.q))] := by
    rw [hW1]
    first
    | (repeat (first | (with_reducible refine own_new (l := [.int .i64 p.r, .bool (ng p.q.num), .string (mg p.q.num.natAbs), .bool false, .string (mg (dn p.q))]) ?_; (simp; done)) | with_reducible refine Own.alloc ?_ _ | refine Own.far _ _ (by first | (simp; done) | (simp [*]; done) | (simp; omega)) ?_)); done
    | simp [Own, go_sem]
  have c4 : Own W1 (w.heap.size + 2) 0 [.int .i64 p.r, .bool (ng p.q.num), .string (mg p.q.num.natAbs), .bool false, .string (mg (dn p.q))] := by
    rw [hW1]
    first
    | (repeat (first | (with_reducible refine own_new (l := [.int .i64 p.r, .bool (ng p.q.num), .string (mg p.q.num.natAbs), .bool false, .string (mg (dn p.q))]) ?_; (simp; done)) | with_reducible refine Own.alloc ?_ _ | refine Own.far _ _ (by first | (simp; done) | (simp [*]; done) | (simp; omega)) ?_)); done
    | simp [Own, go_sem]
  have hB5 : Below w.heap.size w W1 := by
    rw [hW1]
    repeat (first | with_reducible exact Below.refl _ _ | with_reducible refine bel_alloc ?_ _ | refine Below.setCell ?_ (by first | (simp; done) | (simp; omega) | omega) _)
  clear hW1 hL1
  with_reducible refine (K1.out _ (HNV.out.up hB5)).mono ?_
  rintro e w1 ⟨rfl, hb1⟩
  have c6 := c2.up hb1
  have c7 := c3.up hb1
  have c8 := c4.up hb1
  have hB9 : Below w.heap.size w w1 := bel_up hB5 hb1
  clear c2 c3 c4
  have ne10_ : w.heap.size < w1.heap.size := by have := c6.lt; omega
  have ne10 := Nat.ne_of_lt ne10_
  have ne10' := ne10.symm
  have ne11_ : w.heap.size + 1 < w1.heap.size := by have := c7.lt; omega
  have ne11 := Nat.ne_of_lt ne11_
  have ne11' := ne11.symm
  have ne12_ : w.heap.size + 2 < w1.heap.size := by have := c8.lt; omega
  have ne12 := Nat.ne_of_lt ne12_
  have ne12' := ne12.symm
  have uc6 := c6; have uc7 := c7; have uc8 := c8
  simp only [At, Own, Nat.reduceAdd, and_true] at uc6 uc7 uc8
  go_wp2_with (fail)
  refine calls_named ?_
  intro W2 hW2
  have hL2 : Below w1.heap.size w1 W2 := by
    rw [hW2]
    repeat (first | with_reducible exact Below.refl _ _ | with_reducible refine bel_alloc ?_ _ | refine Below.setCell ?_ (by first | (simp; done) | (simp; omega) | omega) _)
  have c13 := c6.up hL2
  have c14 := c7.up hL2
  have c15 := c8.up hL2
  have c16 : Own W2 (w1.heap.size) 0 [.int .i64 0, .bool false, .string ⟨#[]⟩, .bool false, .string ⟨#[]⟩] := by
    rw [hW2]
    first
    | (repeat (first | (with_reducible refine own_new (l := [.int .i64 0, .bool false, .string ⟨#[]⟩, .bool false, .string ⟨#[]⟩]) ?_; (simp; done)) | with_reducible refine Own.alloc ?_ _ | refine Own.far _ _ (by first | (simp; done) | (simp [*]; done) | (simp; omega)) ?_)); done
    | simp [Own, go_sem, uc6, uc7, uc8, ne10, ne10', ne10_, ne11, ne11', ne11_, ne12, ne12', ne12_]
  have hB17 : Below w.heap.size w W2 := by
    rw [hW2]
    repeat (first | with_reducible exact hB9 | with_reducible refine bel_alloc ?_ _ | refine Below.setCell ?_ (by first | (simp; done) | (simp; omega) | omega) _)
  clear hW2 hL2 uc6 uc7 uc8 c6 c7 c8
  with_reducible refine (K1.out _ (HNV.out.up hB17)).mono ?_
  rintro e w2 ⟨rfl, hb2⟩
  have c18 := c13.up hb2
  have c19 := c14.up hb2
  have c20 := c15.up hb2
  have c21 := c16.up hb2
  have hB22 : Below w.heap.size w w2 := bel_up hB17 hb2
  clear c13 c14 c15 c16
  have ne23_ : w.heap.size < w2.heap.size := by have := c18.lt; omega
  have ne23 := Nat.ne_of_lt ne23_
  have ne23' := ne23.symm
  have ne24_ : w.heap.size + 1 < w2.heap.size := by have := c19.lt; omega
  have ne24 := Nat.ne_of_lt ne24_
  have ne24' := ne24.symm
  have ne25_ : w.heap.size + 2 < w2.heap.size := by have := c20.lt; omega
  have ne25 := Nat.ne_of_lt ne25_
  have ne25' := ne25.symm
  have ne26_ : w1.heap.size < w2.heap.size := by have := c21.lt; omega
  have ne26 := Nat.ne_of_lt ne26_
  have ne26' := ne26.symm
  have uc18 := c18; have uc19 := c19; have uc20 := c20; have uc21 := c21
  simp only [At, Own, Nat.reduceAdd, and_true] at uc18 uc19 uc20 uc21
  go_wp2
  go_ret
  refine ⟨rfl, ?_⟩
  repeat (first | with_reducible exact hB22 | with_reducible refine bel_alloc ?_ _ | refine Below.setCell ?_ (by first | (simp; done) | (simp; omega) | omega) _)

set_option maxRecDepth 100000 in
theorem mirror_bad (N : Net) (p : Pc) (c : Int) (v : Value) (w : World) (h : NV w v N) (g : Vld N) (hq : Pl.Sz 2000 p.q) (hp : placeE N p = c) (hc0 : ¬ c = 0) :
    Calls Tryz.prog 41 #[v, .agg #[.int .i64 p.r, .bool (ng p.q.num), .string (mg p.q.num.natAbs), .bool false, .string (mg (dn p.q))]] w fun e w' => e = .returned (.tuple #[.agg #[.int .i64 0, .bool false, .string ⟨#[]⟩, .bool false, .string ⟨#[]⟩], .int .i64 c]) ∧ Below w.heap.size w w' := by
  have HP := Lib.hid hp
  have hc0_ : (((c : Int)) == 0) = false := by simpa using hc0
  clear hp
  obtain ⟨_, _, rfl, hn, hr⟩ := h
  obtain ⟨An, cn, rfl, hcn, hmn, hxn⟩ := hn.open_
  obtain ⟨Ar, cr, rfl, hcr, hmr, hxr⟩ := hr.open_
  have HNV : Hid (NV w (.agg #[.slice An N.ns.length cn, .slice Ar N.rs.length cr]) N) := Lib.hid ⟨_, _, rfl, hn, hr⟩
  have HXN := Lib.hid hxn
  have HXR := Lib.hid hxr
  have HG := Lib.hid g
  have hln := g.ln
  have hlr := g.lr
  generalize hNn : N.ns.length = Nn at *
  generalize hNr : N.rs.length = Nr at *
  have HNn := Lib.hid hNn
  have HNr := Lib.hid hNr
  clear hn hr hxn hxr g hNn hNr
  go_enter Tryz.func41, Tryz.ntmps41
  have K1 := Lib.hid (fun W (hv : NV W (.agg #[.slice An Nn cn, .slice Ar Nr cr]) N) => cplace_any N p _ W hv HG.out hq c HP.out)
  go_wp2_with (fail)
  refine calls_named ?_
  intro W1 hW1
  have hL1 : Below w.heap.size w W1 := by
    rw [hW1]
    repeat (first | with_reducible exact Below.refl _ _ | with_reducible refine bel_alloc ?_ _ | refine Below.setCell ?_ (by first | (simp; done) | (simp; omega) | omega) _)
  have c2 : Own W1 (w.heap.size) 0 [.slice An Nn cn, .slice Ar Nr cr] := by
    rw [hW1]
    first
    | (repeat (first | (with_reducible refine own_new (l := [.slice An Nn cn, .slice Ar Nr cr]) ?_; (simp; done)) | with_reducible refine Own.alloc ?_ _ | refine Own.far _ _ (by first | (simp; done) | (simp [*]; done) | (simp; omega)) ?_)); done
    | simp [Own, go_sem]
  have c3 : Own W1 (w.heap.size + 1) 0 [.int .i64 p.r, .bool (ng p.q.num), .string (mg p.q.num.natAbs), .bool false, .string (mg (dn p.q))] := by
    rw [hW1]
    first
    | (repeat (first | (with_reducible refine own_new (l := [.int .i64 p.r, .bool (ng p.q.num), .string (mg p.q.num.natAbs), .bool false, .string (mg (dn p.q))]) ?_; (simp; done)) | with_reducible refine Own.alloc ?_ _ | refine Own.far _ _ (by first | (simp; done) | (simp [*]; done) | (simp; omega)) ?_)); done
    | simp [Own, go_sem]
  have c4 : Own W1 (w.heap.size + 2) 0 [.int .i64 0, .bool false, .string ⟨#[]⟩, .bool false, .string ⟨#[]⟩] := by
    rw [hW1]
    first
    | (repeat (first | (with_reducible refine own_new (l := [.int .i64 0, .bool false, .string ⟨#[]⟩, .bool false, .string ⟨#[]⟩]) ?_; (simp; done)) | with_reducible refine Own.alloc ?_ _ | refine Own.far _ _ (by first | (simp; done) | (simp [*]; done) | (simp; omega)) ?_)); done
    | simp [Own, go_sem]
  have hB5 : Below w.heap.size w W1 := by
    rw [hW1]
    repeat (first | with_reducible exact Below.refl _ _ | with_reducible refine bel_alloc ?_ _ | refine Below.setCell ?_ (by first | (simp; done) | (simp; omega) | omega) _)
  clear hW1 hL1
  with_reducible refine (K1.out _ (HNV.out.up hB5)).mono ?_
  rintro e w1 ⟨rfl, hb1⟩
  have c6 := c2.up hb1
  have c7 := c3.up hb1
  have c8 := c4.up hb1
  have hB9 : Below w.heap.size w w1 := bel_up hB5 hb1
  clear c2 c3 c4
  have uc6 := c6; have uc7 := c7; have uc8 := c8
  simp only [At, Own, Nat.reduceAdd, and_true] at uc6 uc7 uc8
  go_wp2
  refine bodyPost_ret (v := .tuple #[.agg #[.int .i64 0, .bool false, .string ⟨#[]⟩, .bool false, .string ⟨#[]⟩], .int .i64 c]) (by simp [results, Tryz.results41, go_sem, uc6, uc7, uc8]) rfl ⟨rfl, ?_⟩
  repeat (first | with_reducible exact hB9 | with_reducible refine bel_alloc ?_ _ | refine Below.setCell ?_ (by first | (simp; done) | (simp; omega) | omega) _)

set_option maxRecDepth 100000 in
theorem mirror_at (N : Net) (r : Rd) (p : Pc) (o : Rat) (v : Value) (w : World) (h : NV w v N) (g : Vld N) (hat : Nw.At N r p) (hq : Pl.Sz 2000 p.q) (ho : o = (r.l : Rat) - p.q) :
    Calls Tryz.prog 41 #[v, .agg #[.int .i64 p.r, .bool (ng p.q.num), .string (mg p.q.num.natAbs), .bool false, .string (mg (dn p.q))]] w fun e w' => e = .returned (.tuple #[.agg #[.int .i64 p.r, .bool (ng o.num), .string (mg o.num.natAbs), .bool false, .string (mg (dn o))], .int .i64 0]) ∧ Below w.heap.size w w' := by
  have HP := Lib.hid ((at_iff hat.f).2 hat)
  have hr := hat.f
  have HOO := Lib.hid ho
  clear hat ho
  have hrok := g.or r (frd_of hr).1
  have hl1 := hrok.2.2.1
  have hl2 := hrok.2.2.2.1
  have HR := Lib.hid hr
  have HROK := Lib.hid hrok
  obtain ⟨ql, hql⟩ : ∃ q : Rat, q = (r.l : Rat) := ⟨_, rfl⟩
  have ZQL : Pl.Sz 4 ql := by rw [hql]; exact sz_small (by omega) (by omega)
  have HQL := Lib.hid hql
  clear hr hql hrok
  obtain ⟨_, _, rfl, hn, hr⟩ := h
  obtain ⟨An, cn, rfl, hcn, hmn, hxn⟩ := hn.open_
  obtain ⟨Ar, cr, rfl, hcr, hmr, hxr⟩ := hr.open_
  have HNV : Hid (NV w (.agg #[.slice An N.ns.length cn, .slice Ar N.rs.length cr]) N) := Lib.hid ⟨_, _, rfl, hn, hr⟩
  have HXN := Lib.hid hxn
  have HXR := Lib.hid hxr
  have HG := Lib.hid g
  have hln := g.ln
  have hlr := g.lr
  generalize hNn : N.ns.length = Nn at *
  generalize hNr : N.rs.length = Nr at *
  have HNn := Lib.hid hNn
  have HNr := Lib.hid hNr
  clear hn hr hxn hxr g hNn hNr
  go_enter Tryz.func41, Tryz.ntmps41
  have K1 := Lib.hid (fun W (hv : NV W (.agg #[.slice An Nn cn, .slice Ar Nr cr]) N) => cplace_any N p _ W hv HG.out hq 0 HP.out)
  go_wp2_with (fail)
  refine calls_named ?_
  intro W1 hW1
  have hL1 : Below w.heap.size w W1 := by
    rw [hW1]
    repeat (first | with_reducible exact Below.refl _ _ | with_reducible refine bel_alloc ?_ _ | refine Below.setCell ?_ (by first | (simp; done) | (simp; omega) | omega) _)
  have c2 : Own W1 (w.heap.size) 0 [.slice An Nn cn, .slice Ar Nr cr] := by
    rw [hW1]
    first
    | (repeat (first | (with_reducible refine own_new (l := [.slice An Nn cn, .slice Ar Nr cr]) ?_; (simp; done)) | with_reducible refine Own.alloc ?_ _ | refine Own.far _ _ (by first | (simp; done) | (simp [*]; done) | (simp; omega)) ?_)); done
    | simp [Own, go_sem]
  have c3 : Own W1 (w.heap.size + 1) 0 [.int .i64 p.r, .bool (ng p.q.num), .string (mg p.q.num.natAbs), .bool false, .string (mg (dn p.q))] := by
    rw [hW1]
    first
    | (repeat (first | (with_reducible refine own_new (l := [.int .i64 p.r, .bool (ng p.q.num), .string (mg p.q.num.natAbs), .bool false, .string (mg (dn p.q))]) ?_; (simp; done)) | with_reducible refine Own.alloc ?_ _ | refine Own.far _ _ (by first | (simp; done) | (simp [*]; done) | (simp; omega)) ?_)); done
    | simp [Own, go_sem]
  have c4 : Own W1 (w.heap.size + 2) 0 [.int .i64 0, .bool false, .string ⟨#[]⟩, .bool false, .string ⟨#[]⟩] := by
    rw [hW1]
    first
    | (repeat (first | (with_reducible refine own_new (l := [.int .i64 0, .bool false, .string ⟨#[]⟩, .bool false, .string ⟨#[]⟩]) ?_; (simp; done)) | with_reducible refine Own.alloc ?_ _ | refine Own.far _ _ (by first | (simp; done) | (simp [*]; done) | (simp; omega)) ?_)); done
    | simp [Own, go_sem]
  have hB5 : Below w.heap.size w W1 := by
    rw [hW1]
    repeat (first | with_reducible exact Below.refl _ _ | with_reducible refine bel_alloc ?_ _ | refine Below.setCell ?_ (by first | (simp; done) | (simp; omega) | omega) _)
  clear hW1 hL1
  with_reducible refine (K1.out _ (HNV.out.up hB5)).mono ?_
  rintro e w1 ⟨rfl, hb1⟩
  have c6 := c2.up hb1
  have c7 := c3.up hb1
  have c8 := c4.up hb1
  have hB9 : Below w.heap.size w w1 := bel_up hB5 hb1
  clear c2 c3 c4
  have uc6 := c6; have uc7 := c7; have uc8 := c8
  simp only [At, Own, Nat.reduceAdd, and_true] at uc6 uc7 uc8
  have K10 := Lib.hid (fun W (hv : NV W (.agg #[.slice An Nn cn, .slice Ar Nr cr]) N) => road_some N r p.r _ W hv HG.out HR.out)
  go_wp2_with (fail)
  refine calls_named ?_
  intro W2 hW2
  have hL2 : Below w1.heap.size w1 W2 := by
    rw [hW2]
    repeat (first | with_reducible exact Below.refl _ _ | with_reducible refine bel_alloc ?_ _ | refine Below.setCell ?_ (by first | (simp; done) | (simp; omega) | omega) _)
  have c11 := c6.up hL2
  have c12 := c7.up hL2
  have c13 := c8.up hL2
  have hB14 : Below w.heap.size w W2 := by
    rw [hW2]
    repeat (first | with_reducible exact hB9 | with_reducible refine bel_alloc ?_ _ | refine Below.setCell ?_ (by first | (simp; done) | (simp; omega) | omega) _)
  clear hW2 hL2 uc6 uc7 uc8 c6 c7 c8
  with_reducible refine (K10.out _ (HNV.out.up hB14)).mono ?_
  rintro e w2 ⟨rfl, hb2⟩
  have c15 := c11.up hb2
  have c16 := c12.up hb2
  have c17 := c13.up hb2
  have hB18 : Below w.heap.size w w2 := bel_up hB14 hb2
  clear c11 c12 c13
  have ne19_ : w.heap.size < w2.heap.size := by have := c15.lt; omega
  have ne19 := Nat.ne_of_lt ne19_
  have ne19' := ne19.symm
  have ne20_ : w.heap.size + 1 < w2.heap.size := by have := c16.lt; omega
  have ne20 := Nat.ne_of_lt ne20_
  have ne20' := ne20.symm
  have ne21_ : w.heap.size + 2 < w2.heap.size := by have := c17.lt; omega
  have ne21 := Nat.ne_of_lt ne21_
  have ne21' := ne21.symm
  have uc15 := c15; have uc16 := c16; have uc17 := c17
  simp only [At, Own, Nat.reduceAdd, and_true] at uc15 uc16 uc17
  have K22 := Lib.hid (fun W => qfi_any r.l ql W HQL.out (by omega) (by omega))
  have K23 := Lib.hid (fun W => qsub_any ql p.q W (ZQL.mono (by decide)) (hq.mono (by decide)))
  go_wp2_with fail
  refine wp_named ?_
  intro W3 hW3
  have hL3 : Below w2.heap.size w2 W3 := by
    rw [hW3]
    repeat (first | with_reducible exact Below.refl _ _ | with_reducible refine bel_alloc ?_ _ | refine Below.setCell ?_ (by first | (simp; done) | (simp; omega) | omega) _)
  have c24 := c15.up hL3
  have c25 := c16.up hL3
  have c26 := c17.up hL3
  have c27 : Own W3 (w2.heap.size) 0 [.int .i64 r.i, .int .i64 r.f, .int .i64 r.t, .int .i64 r.l, .int .i64 r.m, .bool r.o] := by
    rw [hW3]
    first
    | (repeat (first | (with_reducible refine own_new (l := [.int .i64 r.i, .int .i64 r.f, .int .i64 r.t, .int .i64 r.l, .int .i64 r.m, .bool r.o]) ?_; (simp; done)) | with_reducible refine Own.alloc ?_ _ | refine Own.far _ _ (by first | (simp; done) | (simp [*]; done) | (simp; omega)) ?_)); done
    | simp [Own, go_sem, uc15, uc16, uc17, ne19, ne19', ne19_, ne20, ne20', ne20_, ne21, ne21', ne21_]
  have hB28 : Below w.heap.size w W3 := by
    rw [hW3]
    repeat (first | with_reducible exact hB18 | with_reducible refine bel_alloc ?_ _ | refine Below.setCell ?_ (by first | (simp; done) | (simp; omega) | omega) _)
  clear hW3 hL3 uc15 uc16 uc17 c15 c16 c17
  have dc24 := fun p : Bel W3 => c24.bel p; have dc25 := fun p : Bel W3 => c25.bel p; have dc26 := fun p : Bel W3 => c26.bel p; have dc27 := fun p : Bel W3 => c27.bel p
  simp only [At, Own, Nat.reduceAdd, and_true] at dc24 dc25 dc26 dc27
  refine wp_region_tail 9 (by kernel_rfl) (by kernel_rfl) ?_
  simp only [List.take_succ_cons, List.take_zero, List.drop_succ_cons, List.drop_zero]
  repeat (go_big_quiet_step (first | (go_at_call 37; with_reducible exact Calls.bel (K22.out _)) | (go_at_call 75; with_reducible exact Calls.bel (K23.out _))))
  refine wpQuiet_nil ?_
  intro w3 hb3
  have c29 := c24.up hb3
  have c30 := c25.up hb3
  have c31 := c26.up hb3
  have c32 := c27.up hb3
  have hB33 : Below w.heap.size w w3 := bel_up hB28 hb3
  clear dc24 dc25 dc26 dc27 c24 c25 c26 c27
  have uc29 := c29; have uc30 := c30; have uc31 := c31; have uc32 := c32
  simp only [At, Own, Nat.reduceAdd, and_true] at uc29 uc30 uc31 uc32
  go_wp2
  refine bodyPost_ret (v := .tuple #[.agg #[.int .i64 p.r, .bool (ng ((ql - p.q).num)), .string (mg ((ql - p.q).num).natAbs), .bool false, .string (mg (dn (ql - p.q)))], .int .i64 0]) (by simp [results, Tryz.results41, go_sem, uc29, uc30, uc31, uc32]) rfl ⟨(by rw [HOO.out, ← HQL.out]), ?_⟩
  repeat (first | with_reducible exact hB33 | with_reducible refine bel_alloc ?_ _ | refine Below.setCell ?_ (by first | (simp; done) | (simp; omega) | omega) _)
end Go.Proofs.YtldfencaoaikgaaGreatDoor
