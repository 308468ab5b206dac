/-
  A place of any kind: what the two packages say of it.
-/
import Derived.Test.YtldfencaoaikgaaGreatDoorULfS
import Derived.Test.YtldfencaoaikgaaGreatDoorUPa
set_option linter.unusedSimpArgs false
set_option linter.unusedVariables false
namespace Go.Proofs.YtldfencaoaikgaaGreatDoor
open Go Go.RowKit Nw

theorem frd_no9 {l : List Rd} {id : Int} (h : frd l id = none) : idxR l id = -1 := idxR_none fun j y hy => by
  have := List.find?_eq_none.1 h y (List.mem_of_getElem? hy)
  simpa using this
theorem lroad_i9 (N : Net) (id j : Int) (v : Value) (w : World) (h : NV w v N) (hl : N.ns.length ≤ 256 ∧ N.rs.length ≤ 1024) (hj : idxR N.rs id = j) :
    Calls Tryz.prog 31 #[v, .int .i64 id] w fun e w' => e = .returned (.int .i64 j) ∧ Below w.heap.size w w' := by
  rw [← hj]; exact lroad_any N id v w h hl
theorem eqP_zero9 (p : Rat × Rat) (w : World) : (Op.equalIn 10000 46 (pv p) (.agg #[.bool false, .string ⟨#[]⟩, .bool false, .string ⟨#[]⟩, .bool false, .string ⟨#[]⟩, .bool false, .string ⟨#[]⟩])).run Tryz.prog w = .ok (decide (p = ((0 : Rat), (0 : Rat)))) w := eqP_in p (0, 0) w

set_option maxRecDepth 100000 in
theorem rcp_9 (N : Net) (k : Int) (a : Bool) (x : ByteArray) (b : Bool) (y : ByteArray) (v : Value) (w : World) (h : NV w v N) (g : Vld N) (hr : frd N.rs k = none) :
    Calls Tryz.prog 21 #[v, .agg #[.int .i64 k, .bool a, .string x, .bool b, .string y]] w fun e w' => e = .returned (.int .i64 9) ∧ Below w.heap.size w w' := by
  have HR := Lib.hid hr
  clear hr
  obtain ⟨_, _, rfl, hn, hr⟩ := h
  obtain ⟨An, cn, rfl, hcn, hmn, hxn⟩ := hn.open_
  obtain ⟨Ar, cr, rfl, hcr, hmr, hxr⟩ := hr.open_
  have HNV : Hid (NV w (.agg #[.slice An N.ns.length cn, .slice Ar N.rs.length cr]) N) := Lib.hid ⟨_, _, rfl, hn, hr⟩
  have HXN := Lib.hid hxn
  have HXR := Lib.hid hxr
  have HG := Lib.hid g
  have hln := g.ln
  have hlr := g.lr
  generalize hNn : N.ns.length = Nn at *
  generalize hNr : N.rs.length = Nr at *
  have HNn := Lib.hid hNn
  have HNr := Lib.hid hNr
  clear hn hr hxn hxr g hNn hNr
  go_enter Tryz.func21, Tryz.ntmps21
  have K1 := Lib.hid (fun W (hv : NV W (.agg #[.slice An Nn cn, .slice Ar Nr cr]) N) => road_none N k _ W hv HG.out HR.out)
  go_wp2_with (fail)
  refine calls_named ?_
  intro W1 hW1
  have hL1 : Below w.heap.size w W1 := by
    rw [hW1]
    repeat (first | with_reducible exact Below.refl _ _ | with_reducible refine bel_alloc ?_ _ | refine Below.setCell ?_ (by first | (simp; done) | (simp; omega) | omega) _)
  have c2 : Own W1 (w.heap.size) 0 [.slice An Nn cn, .slice Ar Nr cr] := by
    rw [hW1]
    first
    | (repeat (first | (with_reducible refine own_new (l := [.slice An Nn cn, .slice Ar Nr cr]) ?_; (simp; done)) | with_reducible refine Own.alloc ?_ _ | refine Own.far _ _ (by first | (simp; done) | (simp [*]; done) | (simp; omega)) ?_)); done
    | simp [Own, go_sem]
  have c3 : Own W1 (w.heap.size + 1) 0 [.int .i64 k, .bool a, .string x, .bool b, .string y] := by
    rw [hW1]
    first
    | (repeat (first | (with_reducible refine own_new (l := [.int .i64 k, .bool a, .string x, .bool b, .string y]) ?_; (simp; done)) | with_reducible refine Own.alloc ?_ _ | refine Own.far _ _ (by first | (simp; done) | (simp [*]; done) | (simp; omega)) ?_)); done
    | simp [Own, go_sem]
  have hB4 : Below w.heap.size w W1 := by
    rw [hW1]
    repeat (first | with_reducible exact Below.refl _ _ | with_reducible refine bel_alloc ?_ _ | refine Below.setCell ?_ (by first | (simp; done) | (simp; omega) | omega) _)
  clear hW1 hL1
  with_reducible refine (K1.out _ (HNV.out.up hB4)).mono ?_
  rintro e w1 ⟨rfl, hb1⟩
  have c5 := c2.up hb1
  have c6 := c3.up hb1
  have hB7 : Below w.heap.size w w1 := bel_up hB4 hb1
  clear c2 c3
  have ne8_ : w.heap.size < w1.heap.size := by have := c5.lt; omega
  have ne8 := Nat.ne_of_lt ne8_
  have ne8' := ne8.symm
  have ne9_ : w.heap.size + 1 < w1.heap.size := by have := c6.lt; omega
  have ne9 := Nat.ne_of_lt ne9_
  have ne9' := ne9.symm
  have uc5 := c5; have uc6 := c6
  simp only [At, Own, Nat.reduceAdd, and_true] at uc5 uc6
  go_wp2
  go_ret
  refine ⟨rfl, ?_⟩
  repeat (first | with_reducible exact hB7 | with_reducible refine bel_alloc ?_ _ | refine Below.setCell ?_ (by first | (simp; done) | (simp; omega) | omega) _)

set_option maxRecDepth 100000 in
theorem rcp_5 (N : Net) (r : Rd) (k : Int) (a : Bool) (x : ByteArray) (b : Bool) (y : ByteArray) (v : Value) (w : World) (h : NV w v N) (g : Vld N) (hr : frd N.rs k = some r) (h5 : Hid (∀ w, Calls Tryz.prog 59 #[.agg #[.bool a, .string x, .bool b, .string y]] w fun e w' => e = .returned (.int .i64 5) ∧ Below w.heap.size w w')) :
    Calls Tryz.prog 21 #[v, .agg #[.int .i64 k, .bool a, .string x, .bool b, .string y]] w fun e w' => e = .returned (.int .i64 5) ∧ Below w.heap.size w w' := by
  have HR := Lib.hid hr
  clear hr
  obtain ⟨_, _, rfl, hn, hr⟩ := h
  obtain ⟨An, cn, rfl, hcn, hmn, hxn⟩ := hn.open_
  obtain ⟨Ar, cr, rfl, hcr, hmr, hxr⟩ := hr.open_
  have HNV : Hid (NV w (.agg #[.slice An N.ns.length cn, .slice Ar N.rs.length cr]) N) := Lib.hid ⟨_, _, rfl, hn, hr⟩
  have HXN := Lib.hid hxn
  have HXR := Lib.hid hxr
  have HG := Lib.hid g
  have hln := g.ln
  have hlr := g.lr
  generalize hNn : N.ns.length = Nn at *
  generalize hNr : N.rs.length = Nr at *
  have HNn := Lib.hid hNn
  have HNr := Lib.hid hNr
  clear hn hr hxn hxr g hNn hNr
  go_enter Tryz.func21, Tryz.ntmps21
  have K1 := Lib.hid (fun W (hv : NV W (.agg #[.slice An Nn cn, .slice Ar Nr cr]) N) => road_some N r k _ W hv HG.out HR.out)
  go_wp2_with (fail)
  refine calls_named ?_
  intro W1 hW1
  have hL1 : Below w.heap.size w W1 := by
    rw [hW1]
    repeat (first | with_reducible exact Below.refl _ _ | with_reducible refine bel_alloc ?_ _ | refine Below.setCell ?_ (by first | (simp; done) | (simp; omega) | omega) _)
  have c2 : Own W1 (w.heap.size) 0 [.slice An Nn cn, .slice Ar Nr cr] := by
    rw [hW1]
    first
    | (repeat (first | (with_reducible refine own_new (l := [.slice An Nn cn, .slice Ar Nr cr]) ?_; (simp; done)) | with_reducible refine Own.alloc ?_ _ | refine Own.far _ _ (by first | (simp; done) | (simp [*]; done) | (simp; omega)) ?_)); done
    | simp [Own, go_sem]
  have c3 : Own W1 (w.heap.size + 1) 0 [.int .i64 k, .bool a, .string x, .bool b, .string y] := by
    rw [hW1]
    first
    | (repeat (first | (with_reducible refine own_new (l := [.int .i64 k, .bool a, .string x, .bool b, .string y]) ?_; (simp; done)) | with_reducible refine Own.alloc ?_ _ | refine Own.far _ _ (by first | (simp; done) | (simp [*]; done) | (simp; omega)) ?_)); done
    | simp [Own, go_sem]
  have hB4 : Below w.heap.size w W1 := by
    rw [hW1]
    repeat (first | with_reducible exact Below.refl _ _ | with_reducible refine bel_alloc ?_ _ | refine Below.setCell ?_ (by first | (simp; done) | (simp; omega) | omega) _)
  clear hW1 hL1
  with_reducible refine (K1.out _ (HNV.out.up hB4)).mono ?_
  rintro e w1 ⟨rfl, hb1⟩
  have c5 := c2.up hb1
  have c6 := c3.up hb1
  have hB7 : Below w.heap.size w w1 := bel_up hB4 hb1
  clear c2 c3
  have ne8_ : w.heap.size < w1.heap.size := by have := c5.lt; omega
  have ne8 := Nat.ne_of_lt ne8_
  have ne8' := ne8.symm
  have ne9_ : w.heap.size + 1 < w1.heap.size := by have := c6.lt; omega
  have ne9 := Nat.ne_of_lt ne9_
  have ne9' := ne9.symm
  have uc5 := c5; have uc6 := c6
  simp only [At, Own, Nat.reduceAdd, and_true] at uc5 uc6
  have K10 := Lib.hid (fun W => h5.out W)
  go_wp2_with (fail)
  refine calls_named ?_
  intro W2 hW2
  have hL2 : Below w1.heap.size w1 W2 := by
    rw [hW2]
    repeat (first | with_reducible exact Below.refl _ _ | with_reducible refine bel_alloc ?_ _ | refine Below.setCell ?_ (by first | (simp; done) | (simp; omega) | omega) _)
  have c11 := c5.up hL2
  have c12 := c6.up hL2
  have c13 : Own W2 (w1.heap.size) 0 [.int .i64 r.i, .int .i64 r.f, .int .i64 r.t, .int .i64 r.l, .int .i64 r.m, .bool r.o] := by
    rw [hW2]
    first
    | (repeat (first | (with_reducible refine own_new (l := [.int .i64 r.i, .int .i64 r.f, .int .i64 r.t, .int .i64 r.l, .int .i64 r.m, .bool r.o]) ?_; (simp; done)) | with_reducible refine Own.alloc ?_ _ | refine Own.far _ _ (by first | (simp; done) | (simp [*]; done) | (simp; omega)) ?_)); done
    | simp [Own, go_sem, uc5, uc6, ne8, ne8', ne8_, ne9, ne9', ne9_]
  have hB14 : Below w.heap.size w W2 := by
    rw [hW2]
    repeat (first | with_reducible exact hB7 | with_reducible refine bel_alloc ?_ _ | refine Below.setCell ?_ (by first | (simp; done) | (simp; omega) | omega) _)
  clear hW2 hL2 uc5 uc6 c5 c6
  with_reducible refine (K10.out _).mono ?_
  rintro e w2 ⟨rfl, hb2⟩
  have c15 := c11.up hb2
  have c16 := c12.up hb2
  have c17 := c13.up hb2
  have hB18 : Below w.heap.size w w2 := bel_up hB14 hb2
  clear c11 c12 c13
  have uc15 := c15; have uc16 := c16; have uc17 := c17
  simp only [At, Own, Nat.reduceAdd, and_true] at uc15 uc16 uc17
  go_wp2
  go_ret
  refine ⟨rfl, ?_⟩
  repeat (first | with_reducible exact hB18 | with_reducible refine bel_alloc ?_ _ | refine Below.setCell ?_ (by first | (simp; done) | (simp; omega) | omega) _)

set_option maxRecDepth 100000 in
theorem rpt_bad (N : Net) (c : Int) (k : Int) (a : Bool) (x : ByteArray) (b : Bool) (y : ByteArray) (v : Value) (w : World) (h : NV w v N) (g : Vld N) (hc0 : ¬ c = 0) (HCP : Hid (∀ (v : Value) (w : World), NV w v N → Calls Tryz.prog 21 #[v, .agg #[.int .i64 k, .bool a, .string x, .bool b, .string y]] w fun e w' => e = .returned (.int .i64 c) ∧ Below w.heap.size w w')) :
    Calls Tryz.prog 19 #[v, .agg #[.int .i64 k, .bool a, .string x, .bool b, .string y]] w fun e w' => e = .returned (.tuple #[.agg #[.bool false, .string ⟨#[]⟩, .bool false, .string ⟨#[]⟩, .bool false, .string ⟨#[]⟩, .bool false, .string ⟨#[]⟩], .int .i64 c]) ∧ Below w.heap.size w w' := by
  have hc0_ : (((c : Int)) == 0) = false := by simpa using hc0
  obtain ⟨_, _, rfl, hn, hr⟩ := h
  obtain ⟨An, cn, rfl, hcn, hmn, hxn⟩ := hn.open_
  obtain ⟨Ar, cr, rfl, hcr, hmr, hxr⟩ := hr.open_
  have HNV : Hid (NV w (.agg #[.slice An N.ns.length cn, .slice Ar N.rs.length cr]) N) := Lib.hid ⟨_, _, rfl, hn, hr⟩
  have HXN := Lib.hid hxn
  have HXR := Lib.hid hxr
  have HG := Lib.hid g
  have hln := g.ln
  have hlr := g.lr
  generalize hNn : N.ns.length = Nn at *
  generalize hNr : N.rs.length = Nr at *
  have HNn := Lib.hid hNn
  have HNr := Lib.hid hNr
  clear hn hr hxn hxr g hNn hNr
  go_enter Tryz.func19, Tryz.ntmps19
  have K1 := Lib.hid (fun W (hv : NV W (.agg #[.slice An Nn cn, .slice Ar Nr cr]) N) => HCP.out _ W hv)
  go_wp2_with (fail)
  refine calls_named ?_
  intro W1 hW1
  have hL1 : Below w.heap.size w W1 := by
    rw [hW1]
    repeat (first | with_reducible exact Below.refl _ _ | with_reducible refine bel_alloc ?_ _ | refine Below.setCell ?_ (by first | (simp; done) | (simp; omega) | omega) _)
  have c2 : Own W1 (w.heap.size) 0 [.slice An Nn cn, .slice Ar Nr cr] := by
    rw [hW1]
    first
    | (repeat (first | (with_reducible refine own_new (l := [.slice An Nn cn, .slice Ar Nr cr]) ?_; (simp; done)) | with_reducible refine Own.alloc ?_ _ | refine Own.far _ _ (by first | (simp; done) | (simp [*]; done) | (simp; omega)) ?_)); done
    | simp [Own, go_sem]
  have c3 : Own W1 (w.heap.size + 1) 0 [.int .i64 k, .bool a, .string x, .bool b, .string y] := by
    rw [hW1]
    first
    | (repeat (first | (with_reducible refine own_new (l := [.int .i64 k, .bool a, .string x, .bool b, .string y]) ?_; (simp; done)) | with_reducible refine Own.alloc ?_ _ | refine Own.far _ _ (by first | (simp; done) | (simp [*]; done) | (simp; omega)) ?_)); done
    | simp [Own, go_sem]
  have c4 : Own W1 (w.heap.size + 2) 0 [.bool false, .string ⟨#[]⟩, .bool false, .string ⟨#[]⟩, .bool false, .string ⟨#[]⟩, .bool false, .string ⟨#[]⟩] := by
    rw [hW1]
    first
    | (repeat (first | (with_reducible refine own_new (l := [.bool false, .string ⟨#[]⟩, .bool false, .string ⟨#[]⟩, .bool false, .string ⟨#[]⟩, .bool false, .string ⟨#[]⟩]) ?_; (simp; done)) | with_reducible refine Own.alloc ?_ _ | refine Own.far _ _ (by first | (simp; done) | (simp [*]; done) | (simp; omega)) ?_)); done
    | simp [Own, go_sem]
  have hB5 : Below w.heap.size w W1 := by
    rw [hW1]
    repeat (first | with_reducible exact Below.refl _ _ | with_reducible refine bel_alloc ?_ _ | refine Below.setCell ?_ (by first | (simp; done) | (simp; omega) | omega) _)
  clear hW1 hL1
  with_reducible refine (K1.out _ (HNV.out.up hB5)).mono ?_
  rintro e w1 ⟨rfl, hb1⟩
  have c6 := c2.up hb1
  have c7 := c3.up hb1
  have c8 := c4.up hb1
  have hB9 : Below w.heap.size w w1 := bel_up hB5 hb1
  clear c2 c3 c4
  have uc6 := c6; have uc7 := c7; have uc8 := c8
  simp only [At, Own, Nat.reduceAdd, and_true] at uc6 uc7 uc8
  go_wp2
  refine bodyPost_ret (v := .tuple #[.agg #[.bool false, .string ⟨#[]⟩, .bool false, .string ⟨#[]⟩, .bool false, .string ⟨#[]⟩, .bool false, .string ⟨#[]⟩], .int .i64 c]) (by simp [results, Tryz.results19, go_sem, uc6, uc7, uc8]) rfl ⟨rfl, ?_⟩
  repeat (first | with_reducible exact hB9 | with_reducible refine bel_alloc ?_ _ | refine Below.setCell ?_ (by first | (simp; done) | (simp; omega) | omega) _)

set_option maxRecDepth 100000 in
theorem rlcp_9 (N : Net) (k : Int) (a : Bool) (x : ByteArray) (b : Bool) (y : ByteArray) (v : Value) (w : World) (h : NV w v N) (g : Vld N) (hr : frd N.rs k = none) :
    Calls Tryz.prog 20 #[v, .agg #[.int .i64 k, .bool a, .string x, .bool b, .string y]] w fun e w' => e = .returned (.int .i64 9) ∧ Below w.heap.size w w' := by
  have HK := Lib.hid (frd_no9 hr)
  clear hr
  obtain ⟨_, _, rfl, hn, hr⟩ := h
  obtain ⟨An, cn, rfl, hcn, hmn, hxn⟩ := hn.open_
  obtain ⟨Ar, cr, rfl, hcr, hmr, hxr⟩ := hr.open_
  have HNV : Hid (NV w (.agg #[.slice An N.ns.length cn, .slice Ar N.rs.length cr]) N) := Lib.hid ⟨_, _, rfl, hn, hr⟩
  have HXN := Lib.hid hxn
  have HXR := Lib.hid hxr
  have HG := Lib.hid g
  have hln := g.ln
  have hlr := g.lr
  generalize hNn : N.ns.length = Nn at *
  generalize hNr : N.rs.length = Nr at *
  have HNn := Lib.hid hNn
  have HNr := Lib.hid hNr
  clear hn hr hxn hxr g hNn hNr
  go_enter Tryz.func20, Tryz.ntmps20
  have K1 := Lib.hid (fun W (hv : NV W (.agg #[.slice An Nn cn, .slice Ar Nr cr]) N) => lroad_i9 N k (-1) _ W hv ⟨by rw [HNn.out]; exact hln, by rw [HNr.out]; exact hlr⟩ HK.out)
  go_wp2_with (fail)
  refine calls_named ?_
  intro W1 hW1
  have hL1 : Below w.heap.size w W1 := by
    rw [hW1]
    repeat (first | with_reducible exact Below.refl _ _ | with_reducible refine bel_alloc ?_ _ | refine Below.setCell ?_ (by first | (simp; done) | (simp; omega) | omega) _)
  have c2 : Own W1 (w.heap.size) 0 [.slice An Nn cn, .slice Ar Nr cr] := by
    rw [hW1]
    first
    | (repeat (first | (with_reducible refine own_new (l := [.slice An Nn cn, .slice Ar Nr cr]) ?_; (simp; done)) | with_reducible refine Own.alloc ?_ _ | refine Own.far _ _ (by first | (simp; done) | (simp [*]; done) | (simp; omega)) ?_)); done
    | simp [Own, go_sem]
  have c3 : Own W1 (w.heap.size + 1) 0 [.int .i64 k, .bool a, .string x, .bool b, .string y] := by
    rw [hW1]
    first
    | (repeat (first | (with_reducible refine own_new (l := [.int .i64 k, .bool a, .string x, .bool b, .string y]) ?_; (simp; done)) | with_reducible refine Own.alloc ?_ _ | refine Own.far _ _ (by first | (simp; done) | (simp [*]; done) | (simp; omega)) ?_)); done
    | simp [Own, go_sem]
  have hB4 : Below w.heap.size w W1 := by
    rw [hW1]
    repeat (first | with_reducible exact Below.refl _ _ | with_reducible refine bel_alloc ?_ _ | refine Below.setCell ?_ (by first | (simp; done) | (simp; omega) | omega) _)
  clear hW1 hL1
  with_reducible refine (K1.out _ (HNV.out.up hB4)).mono ?_
  rintro e w1 ⟨rfl, hb1⟩
  have c5 := c2.up hb1
  have c6 := c3.up hb1
  have hB7 : Below w.heap.size w w1 := bel_up hB4 hb1
  clear c2 c3
  have uc5 := c5; have uc6 := c6
  simp only [At, Own, Nat.reduceAdd, and_true] at uc5 uc6
  go_wp2
  go_ret
  refine ⟨rfl, ?_⟩
  repeat (first | with_reducible exact hB7 | with_reducible refine bel_alloc ?_ _ | refine Below.setCell ?_ (by first | (simp; done) | (simp; omega) | omega) _)

set_option maxRecDepth 100000 in
theorem rlcp_5 (N : Net) (r : Rd) (k : Int) (a : Bool) (x : ByteArray) (b : Bool) (y : ByteArray) (v : Value) (w : World) (h : NV w v N) (g : Vld N) (hr : frd N.rs k = some r) (h5 : Hid (∀ w, Calls Tryz.prog 59 #[.agg #[.bool a, .string x, .bool b, .string y]] w fun e w' => e = .returned (.int .i64 5) ∧ Below w.heap.size w w')) :
    Calls Tryz.prog 20 #[v, .agg #[.int .i64 k, .bool a, .string x, .bool b, .string y]] w fun e w' => e = .returned (.int .i64 5) ∧ Below w.heap.size w w' := by
  obtain ⟨j, hj, hj2⟩ := frd_idx hr
  have hj0 : (0 : Int) ≤ j := Int.natCast_nonneg _
  have hj3 : ¬ (j : Int) < 0 := by omega
  have HJ := Lib.hid hj
  clear hj hj2 hr
  obtain ⟨_, _, rfl, hn, hr⟩ := h
  obtain ⟨An, cn, rfl, hcn, hmn, hxn⟩ := hn.open_
  obtain ⟨Ar, cr, rfl, hcr, hmr, hxr⟩ := hr.open_
  have HNV : Hid (NV w (.agg #[.slice An N.ns.length cn, .slice Ar N.rs.length cr]) N) := Lib.hid ⟨_, _, rfl, hn, hr⟩
  have HXN := Lib.hid hxn
  have HXR := Lib.hid hxr
  have HG := Lib.hid g
  have hln := g.ln
  have hlr := g.lr
  generalize hNn : N.ns.length = Nn at *
  generalize hNr : N.rs.length = Nr at *
  have HNn := Lib.hid hNn
  have HNr := Lib.hid hNr
  clear hn hr hxn hxr g hNn hNr
  go_enter Tryz.func20, Tryz.ntmps20
  have K1 := Lib.hid (fun W (hv : NV W (.agg #[.slice An Nn cn, .slice Ar Nr cr]) N) => lroad_j N k j _ W hv ⟨by rw [HNn.out]; exact hln, by rw [HNr.out]; exact hlr⟩ HJ.out)
  go_wp2_with (fail)
  refine calls_named ?_
  intro W1 hW1
  have hL1 : Below w.heap.size w W1 := by
    rw [hW1]
    repeat (first | with_reducible exact Below.refl _ _ | with_reducible refine bel_alloc ?_ _ | refine Below.setCell ?_ (by first | (simp; done) | (simp; omega) | omega) _)
  have c2 : Own W1 (w.heap.size) 0 [.slice An Nn cn, .slice Ar Nr cr] := by
    rw [hW1]
    first
    | (repeat (first | (with_reducible refine own_new (l := [.slice An Nn cn, .slice Ar Nr cr]) ?_; (simp; done)) | with_reducible refine Own.alloc ?_ _ | refine Own.far _ _ (by first | (simp; done) | (simp [*]; done) | (simp; omega)) ?_)); done
    | simp [Own, go_sem]
  have c3 : Own W1 (w.heap.size + 1) 0 [.int .i64 k, .bool a, .string x, .bool b, .string y] := by
    rw [hW1]
    first
    | (repeat (first | (with_reducible refine own_new (l := [.int .i64 k, .bool a, .string x, .bool b, .string y]) ?_; (simp; done)) | with_reducible refine Own.alloc ?_ _ | refine Own.far _ _ (by first | (simp; done) | (simp [*]; done) | (simp; omega)) ?_)); done
    | simp [Own, go_sem]
  have hB4 : Below w.heap.size w W1 := by
    rw [hW1]
    repeat (first | with_reducible exact Below.refl _ _ | with_reducible refine bel_alloc ?_ _ | refine Below.setCell ?_ (by first | (simp; done) | (simp; omega) | omega) _)
  clear hW1 hL1
  with_reducible refine (K1.out _ (HNV.out.up hB4)).mono ?_
  rintro e w1 ⟨rfl, hb1⟩
  have c5 := c2.up hb1
  have c6 := c3.up hb1
  have hB7 : Below w.heap.size w w1 := bel_up hB4 hb1
  clear c2 c3
  have uc5 := c5; have uc6 := c6
  simp only [At, Own, Nat.reduceAdd, and_true] at uc5 uc6
  have K8 := Lib.hid (fun W => h5.out W)
  go_wp2_with (fail)
  refine calls_named ?_
  intro W2 hW2
  have hL2 : Below w1.heap.size w1 W2 := by
    rw [hW2]
    repeat (first | with_reducible exact Below.refl _ _ | with_reducible refine bel_alloc ?_ _ | refine Below.setCell ?_ (by first | (simp; done) | (simp; omega) | omega) _)
  have c9 := c5.up hL2
  have c10 := c6.up hL2
  have hB11 : Below w.heap.size w W2 := by
    rw [hW2]
    repeat (first | with_reducible exact hB7 | with_reducible refine bel_alloc ?_ _ | refine Below.setCell ?_ (by first | (simp; done) | (simp; omega) | omega) _)
  clear hW2 hL2 uc5 uc6 c5 c6
  with_reducible refine (K8.out _).mono ?_
  rintro e w2 ⟨rfl, hb2⟩
  have c12 := c9.up hb2
  have c13 := c10.up hb2
  have hB14 : Below w.heap.size w w2 := bel_up hB11 hb2
  clear c9 c10
  have uc12 := c12; have uc13 := c13
  simp only [At, Own, Nat.reduceAdd, and_true] at uc12 uc13
  go_wp2
  go_ret
  refine ⟨rfl, ?_⟩
  repeat (first | with_reducible exact hB14 | with_reducible refine bel_alloc ?_ _ | refine Below.setCell ?_ (by first | (simp; done) | (simp; omega) | omega) _)

set_option maxRecDepth 100000 in
set_option maxHeartbeats 1000000 in
theorem lcp_2a (N : Net) (r : Rd) (p : Pc) (v : Value) (w : World) (h : NV w v N) (g : Vld N) (hr : frd N.rs p.r = some r) (hq : Pl.Sz 2000 p.q) (hs : Pl.sgn p.q < 0) :
    Calls Tryz.prog 20 #[v, .agg #[.int .i64 p.r, .bool (ng p.q.num), .string (mg p.q.num.natAbs), .bool false, .string (mg (dn p.q))]] w fun e w' => e = .returned (.int .i64 2) ∧ Below w.heap.size w w' := by
  obtain ⟨j, hj, hj2⟩ := frd_idx hr
  have hrok := g.or r (frd_of hr).1
  have hl1 := hrok.2.2.1
  have hl2 := hrok.2.2.2.1
  have HR := Lib.hid hr
  have HROK := Lib.hid hrok
  obtain ⟨ql, hql⟩ : ∃ q : Rat, q = (r.l : Rat) := ⟨_, rfl⟩
  have ZQL : Pl.Sz 4 ql := by rw [hql]; exact sz_small (by omega) (by omega)
  have HQL := Lib.hid hql
  clear hr hql hrok
  have HJ := Lib.hid hj
  have HJ2 := Lib.hid hj2
  have hjl : j < N.rs.length := (List.getElem?_eq_some_iff.1 hj2).1
  obtain ⟨sg, hsg⟩ : ∃ t : Int, Pl.sgn p.q = t := ⟨_, rfl⟩
  have HSG := Lib.hid hsg
  obtain ⟨cq, hcq⟩ : ∃ t : Int, Pl.cmpQ p.q ql = t := ⟨_, rfl⟩
  have HCQ := Lib.hid hcq
  have hs1 : (sg : Int) < 0 := by rw [← hsg]; exact hs
  have hs1_ : ¬ (0 : Int) ≤ sg := by omega
  have hs2 : decide ((sg : Int) < 0) = true := by simpa using hs1
  have hj0 : (0 : Int) ≤ j := Int.natCast_nonneg _
  have hj3 : ¬ (j : Int) < 0 := by omega
  clear hj hj2 hsg hcq hs
  obtain ⟨_, _, rfl, hn, hr⟩ := h
  obtain ⟨An, cn, rfl, hcn, hmn, hxn⟩ := hn.open_
  obtain ⟨Ar, cr, rfl, hcr, hmr, hxr⟩ := hr.open_
  have HNV : Hid (NV w (.agg #[.slice An N.ns.length cn, .slice Ar N.rs.length cr]) N) := Lib.hid ⟨_, _, rfl, hn, hr⟩
  have HXN := Lib.hid hxn
  have HXR := Lib.hid hxr
  have HG := Lib.hid g
  have hln := g.ln
  have hlr := g.lr
  generalize hNn : N.ns.length = Nn at *
  generalize hNr : N.rs.length = Nr at *
  have HNn := Lib.hid hNn
  have HNr := Lib.hid hNr
  clear hn hr hxn hxr g hNn hNr
  have i1j : (j : Int) < Nr := by omega
  go_enter Tryz.func20, Tryz.ntmps20
  have K1 := Lib.hid (fun W (hv : NV W (.agg #[.slice An Nn cn, .slice Ar Nr cr]) N) => lroad_j N p.r j _ W hv ⟨by rw [HNn.out]; exact hln, by rw [HNr.out]; exact hlr⟩ HJ.out)
  go_wp2_with (fail)
  refine calls_named ?_
  intro W1 hW1
  have hL1 : Below w.heap.size w W1 := by
    rw [hW1]
    repeat (first | with_reducible exact Below.refl _ _ | with_reducible refine bel_alloc ?_ _ | refine Below.setCell ?_ (by first | (simp; done) | (simp; omega) | omega) _)
  have c2 : Own W1 (w.heap.size) 0 [.slice An Nn cn, .slice Ar Nr cr] := by
    rw [hW1]
    first
    | (repeat (first | (with_reducible refine own_new (l := [.slice An Nn cn, .slice Ar Nr cr]) ?_; (simp; done)) | with_reducible refine Own.alloc ?_ _ | refine Own.far _ _ (by first | (simp; done) | (simp [*]; done) | (simp; omega)) ?_)); done
    | simp [Own, go_sem]
  have c3 : Own W1 (w.heap.size + 1) 0 [.int .i64 p.r, .bool (ng p.q.num), .string (mg p.q.num.natAbs), .bool false, .string (mg (dn p.q))] := by
    rw [hW1]
    first
    | (repeat (first | (with_reducible refine own_new (l := [.int .i64 p.r, .bool (ng p.q.num), .string (mg p.q.num.natAbs), .bool false, .string (mg (dn p.q))]) ?_; (simp; done)) | with_reducible refine Own.alloc ?_ _ | refine Own.far _ _ (by first | (simp; done) | (simp [*]; done) | (simp; omega)) ?_)); done
    | simp [Own, go_sem]
  have hB4 : Below w.heap.size w W1 := by
    rw [hW1]
    repeat (first | with_reducible exact Below.refl _ _ | with_reducible refine bel_alloc ?_ _ | refine Below.setCell ?_ (by first | (simp; done) | (simp; omega) | omega) _)
  clear hW1 hL1
  with_reducible refine (K1.out _ (HNV.out.up hB4)).mono ?_
  rintro e w1 ⟨rfl, hb1⟩
  have c5 := c2.up hb1
  have c6 := c3.up hb1
  have hB7 : Below w.heap.size w w1 := bel_up hB4 hb1
  clear c2 c3
  have uc5 := c5; have uc6 := c6
  simp only [At, Own, Nat.reduceAdd, and_true] at uc5 uc6
  have K8 := Lib.hid (fun W => qcheck_any p.q W (hq.mono (by decide)))
  go_wp2_with (fail)
  refine calls_named ?_
  intro W2 hW2
  have hL2 : Below w1.heap.size w1 W2 := by
    rw [hW2]
    repeat (first | with_reducible exact Below.refl _ _ | with_reducible refine bel_alloc ?_ _ | refine Below.setCell ?_ (by first | (simp; done) | (simp; omega) | omega) _)
  have c9 := c5.up hL2
  have c10 := c6.up hL2
  have hB11 : Below w.heap.size w W2 := by
    rw [hW2]
    repeat (first | with_reducible exact hB7 | with_reducible refine bel_alloc ?_ _ | refine Below.setCell ?_ (by first | (simp; done) | (simp; omega) | omega) _)
  clear hW2 hL2 uc5 uc6 c5 c6
  with_reducible refine (K8.out _).mono ?_
  rintro e w2 ⟨rfl, hb2⟩
  have c12 := c9.up hb2
  have c13 := c10.up hb2
  have hB14 : Below w.heap.size w w2 := bel_up hB11 hb2
  clear c9 c10
  have K15 := Lib.hid (fun W => HSG.out ▸ qsign_any p.q W)
  go_wp2_with fail
  refine wp_named ?_
  intro W3 hW3
  have hL3 : Below w2.heap.size w2 W3 := by
    rw [hW3]
    repeat (first | with_reducible exact Below.refl _ _ | with_reducible refine bel_alloc ?_ _ | refine Below.setCell ?_ (by first | (simp; done) | (simp; omega) | omega) _)
  have c16 := c12.up hL3
  have c17 := c13.up hL3
  have hB18 : Below w.heap.size w W3 := by
    rw [hW3]
    repeat (first | with_reducible exact hB14 | with_reducible refine bel_alloc ?_ _ | refine Below.setCell ?_ (by first | (simp; done) | (simp; omega) | omega) _)
  clear hW3 hL3 c12 c13
  have dc16 := fun p : Bel W3 => c16.bel p; have dc17 := fun p : Bel W3 => c17.bel p
  simp only [At, Own, Nat.reduceAdd, and_true] at dc16 dc17
  refine wp_region_tail 17 (by kernel_rfl) (by kernel_rfl) ?_
  simp only [List.take_succ_cons, List.take_zero, List.drop_succ_cons, List.drop_zero]
  repeat (go_big_quiet_step (first | (go_at_call 60; with_reducible exact Calls.bel (K15.out _))))
  refine wpQuiet_nil ?_
  intro w3 hb3
  have c19 := c16.up hb3
  have c20 := c17.up hb3
  have hB21 : Below w.heap.size w w3 := bel_up hB18 hb3
  clear dc16 dc17 c16 c17
  have uc19 := c19; have uc20 := c20
  simp only [At, Own, Nat.reduceAdd, and_true] at uc19 uc20
  go_wp2
  go_ret
  refine ⟨rfl, ?_⟩
  repeat (first | with_reducible exact hB21 | with_reducible refine bel_alloc ?_ _ | refine Below.setCell ?_ (by first | (simp; done) | (simp; omega) | omega) _)

set_option maxRecDepth 100000 in
set_option maxHeartbeats 1000000 in
theorem lcp_2b (N : Net) (r : Rd) (p : Pc) (v : Value) (w : World) (h : NV w v N) (g : Vld N) (hr : frd N.rs p.r = some r) (hq : Pl.Sz 2000 p.q) (hs : ¬ Pl.sgn p.q < 0) (hc : 0 < Pl.cmpQ p.q (r.l : Rat)) :
    Calls Tryz.prog 20 #[v, .agg #[.int .i64 p.r, .bool (ng p.q.num), .string (mg p.q.num.natAbs), .bool false, .string (mg (dn p.q))]] w fun e w' => e = .returned (.int .i64 2) ∧ Below w.heap.size w w' := by
  obtain ⟨j, hj, hj2⟩ := frd_idx hr
  have hrok := g.or r (frd_of hr).1
  have hl1 := hrok.2.2.1
  have hl2 := hrok.2.2.2.1
  have HR := Lib.hid hr
  have HROK := Lib.hid hrok
  obtain ⟨ql, hql⟩ : ∃ q : Rat, q = (r.l : Rat) := ⟨_, rfl⟩
  have ZQL : Pl.Sz 4 ql := by rw [hql]; exact sz_small (by omega) (by omega)
  have HQL := Lib.hid hql
  clear hr hql hrok
  have HJ := Lib.hid hj
  have HJ2 := Lib.hid hj2
  have hjl : j < N.rs.length := (List.getElem?_eq_some_iff.1 hj2).1
  obtain ⟨sg, hsg⟩ : ∃ t : Int, Pl.sgn p.q = t := ⟨_, rfl⟩
  have HSG := Lib.hid hsg
  obtain ⟨cq, hcq⟩ : ∃ t : Int, Pl.cmpQ p.q ql = t := ⟨_, rfl⟩
  have HCQ := Lib.hid hcq
  have hs1 : ¬ (sg : Int) < 0 := by rw [← hsg]; exact hs
  have hs0 : (0 : Int) ≤ sg := by omega
  have hs2 : decide ((sg : Int) < 0) = false := by simpa using hs0
  have hc1 : (0 : Int) < cq := by rw [← hcq, HQL.out]; exact hc
  have hc1_ : ¬ (cq : Int) ≤ 0 := by omega
  have hc2 : decide ((0 : Int) < cq) = true := by simpa using hc1
  clear hc
  have hj0 : (0 : Int) ≤ j := Int.natCast_nonneg _
  have hj3 : ¬ (j : Int) < 0 := by omega
  clear hj hj2 hsg hcq hs
  obtain ⟨_, _, rfl, hn, hr⟩ := h
  obtain ⟨An, cn, rfl, hcn, hmn, hxn⟩ := hn.open_
  obtain ⟨Ar, cr, rfl, hcr, hmr, hxr⟩ := hr.open_
  have HNV : Hid (NV w (.agg #[.slice An N.ns.length cn, .slice Ar N.rs.length cr]) N) := Lib.hid ⟨_, _, rfl, hn, hr⟩
  have HXN := Lib.hid hxn
  have HXR := Lib.hid hxr
  have HG := Lib.hid g
  have hln := g.ln
  have hlr := g.lr
  generalize hNn : N.ns.length = Nn at *
  generalize hNr : N.rs.length = Nr at *
  have HNn := Lib.hid hNn
  have HNr := Lib.hid hNr
  clear hn hr hxn hxr g hNn hNr
  have i1j : (j : Int) < Nr := by omega
  go_enter Tryz.func20, Tryz.ntmps20
  have K1 := Lib.hid (fun W (hv : NV W (.agg #[.slice An Nn cn, .slice Ar Nr cr]) N) => lroad_j N p.r j _ W hv ⟨by rw [HNn.out]; exact hln, by rw [HNr.out]; exact hlr⟩ HJ.out)
  go_wp2_with (fail)
  refine calls_named ?_
  intro W1 hW1
  have hL1 : Below w.heap.size w W1 := by
    rw [hW1]
    repeat (first | with_reducible exact Below.refl _ _ | with_reducible refine bel_alloc ?_ _ | refine Below.setCell ?_ (by first | (simp; done) | (simp; omega) | omega) _)
  have c2 : Own W1 (w.heap.size) 0 [.slice An Nn cn, .slice Ar Nr cr] := by
    rw [hW1]
    first
    | (repeat (first | (with_reducible refine own_new (l := [.slice An Nn cn, .slice Ar Nr cr]) ?_; (simp; done)) | with_reducible refine Own.alloc ?_ _ | refine Own.far _ _ (by first | (simp; done) | (simp [*]; done) | (simp; omega)) ?_)); done
    | simp [Own, go_sem]
  have c3 : Own W1 (w.heap.size + 1) 0 [.int .i64 p.r, .bool (ng p.q.num), .string (mg p.q.num.natAbs), .bool false, .string (mg (dn p.q))] := by
    rw [hW1]
    first
    | (repeat (first | (with_reducible refine own_new (l := [.int .i64 p.r, .bool (ng p.q.num), .string (mg p.q.num.natAbs), .bool false, .string (mg (dn p.q))]) ?_; (simp; done)) | with_reducible refine Own.alloc ?_ _ | refine Own.far _ _ (by first | (simp; done) | (simp [*]; done) | (simp; omega)) ?_)); done
    | simp [Own, go_sem]
  have hB4 : Below w.heap.size w W1 := by
    rw [hW1]
    repeat (first | with_reducible exact Below.refl _ _ | with_reducible refine bel_alloc ?_ _ | refine Below.setCell ?_ (by first | (simp; done) | (simp; omega) | omega) _)
  clear hW1 hL1
  with_reducible refine (K1.out _ (HNV.out.up hB4)).mono ?_
  rintro e w1 ⟨rfl, hb1⟩
  have c5 := c2.up hb1
  have c6 := c3.up hb1
  have hB7 : Below w.heap.size w w1 := bel_up hB4 hb1
  clear c2 c3
  have uc5 := c5; have uc6 := c6
  simp only [At, Own, Nat.reduceAdd, and_true] at uc5 uc6
  have K8 := Lib.hid (fun W => qcheck_any p.q W (hq.mono (by decide)))
  go_wp2_with (fail)
  refine calls_named ?_
  intro W2 hW2
  have hL2 : Below w1.heap.size w1 W2 := by
    rw [hW2]
    repeat (first | with_reducible exact Below.refl _ _ | with_reducible refine bel_alloc ?_ _ | refine Below.setCell ?_ (by first | (simp; done) | (simp; omega) | omega) _)
  have c9 := c5.up hL2
  have c10 := c6.up hL2
  have hB11 : Below w.heap.size w W2 := by
    rw [hW2]
    repeat (first | with_reducible exact hB7 | with_reducible refine bel_alloc ?_ _ | refine Below.setCell ?_ (by first | (simp; done) | (simp; omega) | omega) _)
  clear hW2 hL2 uc5 uc6 c5 c6
  with_reducible refine (K8.out _).mono ?_
  rintro e w2 ⟨rfl, hb2⟩
  have c12 := c9.up hb2
  have c13 := c10.up hb2
  have hB14 : Below w.heap.size w w2 := bel_up hB11 hb2
  clear c9 c10
  have K15 := Lib.hid (fun W => HSG.out ▸ qsign_any p.q W)
  have K16 := Lib.hid (fun W => qfi_any r.l ql W HQL.out (by omega) (by omega))
  have K17 := Lib.hid (fun W => HCQ.out ▸ qcmp_any p.q ql W (hq.mono (by decide)) (ZQL.mono (by decide)))
  go_wp2_with fail
  refine wp_named ?_
  intro W3 hW3
  have hL3 : Below w2.heap.size w2 W3 := by
    rw [hW3]
    repeat (first | with_reducible exact Below.refl _ _ | with_reducible refine bel_alloc ?_ _ | refine Below.setCell ?_ (by first | (simp; done) | (simp; omega) | omega) _)
  have c18 := c12.up hL3
  have c19 := c13.up hL3
  have hB20 : Below w.heap.size w W3 := by
    rw [hW3]
    repeat (first | with_reducible exact hB14 | with_reducible refine bel_alloc ?_ _ | refine Below.setCell ?_ (by first | (simp; done) | (simp; omega) | omega) _)
  clear hW3 hL3 c12 c13
  have dc18 := fun p : Bel W3 => c18.bel p; have dc19 := fun p : Bel W3 => c19.bel p
  simp only [At, Own, Nat.reduceAdd, and_true] at dc18 dc19
  obtain ⟨g22, o23, ha24, -⟩ := (HXR.out).up kpR hB20 _ _ HJ2.out
  subst ha24
  have ce21 := LX.at_ ((HXR.out).up kpR hB20) HJ2.out
  have ce21_ : g22 < W3.heap.size := World.block_lt_of_cell? _ _ ce21.1
  have dce21 := fun b : Bel W3 => ce21.bel b
  simp only [CR, rdc, At, Nat.reduceMul] at dce21
  refine wp_region_tail 17 (by kernel_rfl) (by kernel_rfl) ?_
  simp only [List.take_succ_cons, List.take_zero, List.drop_succ_cons, List.drop_zero]
  repeat (go_big_quiet_step (first | (go_at_call 60; with_reducible exact Calls.bel (K15.out _)) | (go_at_call 37; with_reducible exact Calls.bel (K16.out _)) | (go_at_call 61; with_reducible exact Calls.bel (K17.out _))))
  refine wpQuiet_nil ?_
  intro w3 hb3
  have c25 := c18.up hb3
  have c26 := c19.up hb3
  have hB27 : Below w.heap.size w w3 := bel_up hB20 hb3
  clear dc18 dc19 dce21 c18 c19
  have uc25 := c25; have uc26 := c26
  simp only [At, Own, Nat.reduceAdd, and_true] at uc25 uc26
  go_wp2
  go_ret
  refine ⟨rfl, ?_⟩
  repeat (first | with_reducible exact hB27 | with_reducible refine bel_alloc ?_ _ | refine Below.setCell ?_ (by first | (simp; done) | (simp; omega) | omega) _)

/-- What the two packages say of a place of any kind. -/
structure PSum (N : Net) (k : Int) (a : Bool) (x : ByteArray) (b : Bool) (y : ByteArray) (c : Int) (X : Rat × Rat) : Prop where
  cp : Hid (∀ (v : Value) (w : World), NV w v N → Calls Tryz.prog 21 #[v, .agg #[.int .i64 k, .bool a, .string x, .bool b, .string y]] w fun e w' => e = .returned (.int .i64 c) ∧ Below w.heap.size w w')
  pt : Hid (∀ (v : Value) (w : World), NV w v N → Calls Tryz.prog 19 #[v, .agg #[.int .i64 k, .bool a, .string x, .bool b, .string y]] w fun e w' => e = .returned (.tuple #[.agg #[.bool (ng X.1.num), .string (mg X.1.num.natAbs), .bool false, .string (mg (dn X.1)), .bool (ng X.2.num), .string (mg X.2.num.natAbs), .bool false, .string (mg (dn X.2))], .int .i64 c]) ∧ Below w.heap.size w w')
  lc : Hid (∀ (v : Value) (w : World), NV w v N → Calls Tryz.prog 20 #[v, .agg #[.int .i64 k, .bool a, .string x, .bool b, .string y]] w fun e w' => e = .returned (.int .i64 c) ∧ Below w.heap.size w w')
  res : ((c = 9 ∨ c = 5 ∨ c = 2) ∧ X = (0, 0)) ∨ (c = 0 ∧ Hid (∀ (v : Value) (w : World), NV w v N → Calls Tryz.prog 22 #[v, .agg #[.int .i64 k, .bool a, .string x, .bool b, .string y]] w fun e w' => e = .returned (.agg #[.bool (ng X.1.num), .string (mg X.1.num.natAbs), .bool false, .string (mg (dn X.1)), .bool (ng X.2.num), .string (mg X.2.num.natAbs), .bool false, .string (mg (dn X.2))]) ∧ Below w.heap.size w w'))
theorem psum_bad {N : Net} (g : Vld N) {k c : Int} {a b : Bool} {x y : ByteArray} (hc : c = 9 ∨ c = 5 ∨ c = 2) (h1 : ∀ (v : Value) (w : World), NV w v N → Calls Tryz.prog 21 #[v, .agg #[.int .i64 k, .bool a, .string x, .bool b, .string y]] w fun e w' => e = .returned (.int .i64 c) ∧ Below w.heap.size w w')
    (h2 : ∀ (v : Value) (w : World), NV w v N → Calls Tryz.prog 20 #[v, .agg #[.int .i64 k, .bool a, .string x, .bool b, .string y]] w fun e w' => e = .returned (.int .i64 c) ∧ Below w.heap.size w w') : PSum N k a x b y c (0, 0) :=
  ⟨Lib.hid h1, Lib.hid fun v w h => rpt_bad N c k a x b y v w h g (by omega) (Lib.hid h1), Lib.hid h2, .inl ⟨hc, rfl⟩⟩
theorem psum_ex {N : Net} (g : Vld N) (k : Int) (a : Bool) (x : ByteArray) (b : Bool) (y : ByteArray) (hs : x.size + y.size ≤ 20) : ∃ c X, PSum N k a x b y c X := by
  cases hr : frd N.rs k with
  | none => exact ⟨9, _, psum_bad g (by simp) (fun v w h => rcp_9 N k a x b y v w h g hr) (fun v w h => rlcp_9 N k a x b y v w h g hr)⟩
  | some r =>
    rcases q_cases a x b y hs with ⟨q, hz, rfl, rfl, rfl, rfl⟩ | h5
    · have hq : Pl.Sz 2000 (Pc.mk k q).q := hz.mono (by decide)
      by_cases hp : placeE N (Pc.mk k q) = 0
      · have hat := (at_iff (p := Pc.mk k q) hr).1 hp
        refine ⟨0, pointN N r q, Lib.hid fun v w h => cplace_any N (Pc.mk k q) v w h g hq 0 hp, Lib.hid fun v w h => point_any N r (Pc.mk k q) _ v w h g hat hq rfl, Lib.hid fun v w h => lcplace_ok N r (Pc.mk k q) v w h g hat hq, .inr ⟨rfl, Lib.hid fun v w h => lpoint_any N r (Pc.mk k q) _ v w h g hat hq rfl⟩⟩
      · have e2 : placeE N (Pc.mk k q) = 2 := by
          rw [placeE_some (p := Pc.mk k q) hr] at hp ⊢
          unfold placeR at hp ⊢
          split
          · rfl
          · rename_i h_; rw [if_neg h_] at hp; exact absurd rfl hp
        have e3 : Pl.sgn q < 0 ∨ 0 < Pl.cmpQ q (r.l : Rat) := by
          rw [placeE_some (p := Pc.mk k q) hr] at hp
          unfold placeR at hp
          by_cases h_ : Pl.sgn q < 0 ∨ 0 < Pl.cmpQ q (r.l : Rat)
          · exact h_
          · rw [if_neg h_] at hp; exact absurd rfl hp
        refine ⟨2, _, psum_bad g (by simp) (fun v w h => cplace_any N (Pc.mk k q) v w h g hq 2 e2) (fun v w h => ?_)⟩
        by_cases hs_ : Pl.sgn q < 0
        · exact lcp_2a N r (Pc.mk k q) v w h g hr hq hs_
        · exact lcp_2b N r (Pc.mk k q) v w h g hr hq hs_ (e3.resolve_left hs_)
    · exact ⟨5, _, psum_bad g (by simp) (fun v w h => rcp_5 N r k a x b y v w h g hr h5) (fun v w h => rlcp_5 N r k a x b y v w h g hr h5)⟩

set_option maxRecDepth 100000 in
theorem wshort_any (a : Bool) (x : ByteArray) (b : Bool) (y : ByteArray) (c : Bool) (w : World) (h1 : x.size ≤ 140737488355328) (h2 : y.size ≤ 140737488355328) (hc : decide (x.size + y.size ≤ 20) = c) :
    Calls Tryz.prog 17 #[.agg #[.bool a, .string x, .bool b, .string y]] w fun e w' => e = .returned (.bool c) ∧ Below w.heap.size w w' := by
  have e1 : IntKind.i64.wrap ((x.size : Int) + y.size) = (x.size : Int) + y.size := by simp [IntKind.wrap, IntKind.bits, IntKind.signed]; omega
  have e2 : wrap64 ((x.size : Int) + y.size) = (x.size : Int) + y.size := by unfold wrap64; omega
  have e3 : decide (((x.size : Int) + y.size) ≤ 20) = c := by rw [← hc]; exact decide_eq_decide.2 (by omega)
  clear hc h1 h2
  go_enter Tryz.func17, Tryz.ntmps17
  go_wp2
  go_ret
  refine ⟨rfl, ?_⟩
  repeat (first | with_reducible exact Below.refl _ _ | with_reducible refine bel_alloc ?_ _)
end Go.Proofs.YtldfencaoaikgaaGreatDoor
