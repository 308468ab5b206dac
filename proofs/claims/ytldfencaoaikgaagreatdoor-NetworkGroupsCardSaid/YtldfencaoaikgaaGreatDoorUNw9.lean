/-
  Contracts of package network: exits, entries, same positions, mirrored positions.
-/
import Derived.Test.YtldfencaoaikgaaGreatDoorUNw8
import Derived.Test.YtldfencaoaikgaaGreatDoorUNb
set_option linter.unusedSimpArgs false
set_option linter.unusedVariables false
namespace Go.Proofs.YtldfencaoaikgaaGreatDoor
open Go Go.RowKit Nw

set_option maxRecDepth 100000 in
theorem exits_any (N : Net) (r : Rd) (p : Pc) (v : Value) (w : World) (h : NV w v N) (g : Vld N) (hat : Nw.At N r p) (hq : Pl.Sz 2000 p.q) :
    Calls Tryz.prog 35 #[v, .agg #[.int .i64 p.r, .bool (ng p.q.num), .string (mg p.q.num.natAbs), .bool false, .string (mg (dn p.q))]] w fun e w' => ∃ v', e = .returned (.tuple #[v', .int .i64 0]) ∧ EL w' v' (exitsE r p.q) ∧ Below w.heap.size w w' := by
  have HNE := Lib.hid (hat.ok g).2.2.2.2.2.2.1
  have HR := Lib.hid hat.f
  have HAT := Lib.hid hat
  clear hat
  obtain ⟨_, _, rfl, hn, hr⟩ := h
  obtain ⟨An, cn, rfl, hcn, hmn, hxn⟩ := hn.open_
  obtain ⟨Ar, cr, rfl, hcr, hmr, hxr⟩ := hr.open_
  have HNV : Hid (NV w (.agg #[.slice An N.ns.length cn, .slice Ar N.rs.length cr]) N) := Lib.hid ⟨_, _, rfl, hn, hr⟩
  have HXN := Lib.hid hxn
  have HXR := Lib.hid hxr
  have HG := Lib.hid g
  have hln := g.ln
  have hlr := g.lr
  generalize hNn : N.ns.length = Nn at *
  generalize hNr : N.rs.length = Nr at *
  have HNn := Lib.hid hNn
  have HNr := Lib.hid hNr
  clear hn hr hxn hxr g hNn hNr
  go_enter Tryz.func35, Tryz.ntmps35
  have K1 := Lib.hid (fun W (hv : NV W (.agg #[.slice An Nn cn, .slice Ar Nr cr]) N) => road_some N r p.r _ W hv HG.out HR.out)
  go_wp2_with (fail)
  refine calls_named ?_
  intro W1 hW1
  have hL1 : Below w.heap.size w W1 := by
    rw [hW1]
    repeat (first | with_reducible exact Below.refl _ _ | with_reducible refine bel_alloc ?_ _ | refine Below.setCell ?_ (by first | (simp; done) | (simp; omega) | omega) _)
  have c2 : Own W1 (w.heap.size) 0 [.slice An Nn cn, .slice Ar Nr cr] := by
    rw [hW1]
    first
    | (repeat (first | (with_reducible refine own_new (l := [.slice An Nn cn, .slice Ar Nr cr]) ?_; (simp; done)) | with_reducible refine Own.alloc ?_ _ | refine Own.far _ _ (by first | (simp; done) | (simp [*]; done) | (simp; omega)) ?_)); done
    | simp [Own, go_sem]
  have c3 : Own W1 (w.heap.size + 1) 0 [.int .i64 p.r, .bool (ng p.q.num), .string (mg p.q.num.natAbs), .bool false, .string (mg (dn p.q))] := by
    rw [hW1]
    first
    | (repeat (first | (with_reducible refine own_new (l := [.int .i64 p.r, .bool (ng p.q.num), .string (mg p.q.num.natAbs), .bool false, .string (mg (dn p.q))]) ?_; (simp; done)) | with_reducible refine Own.alloc ?_ _ | refine Own.far _ _ (by first | (simp; done) | (simp [*]; done) | (simp; omega)) ?_)); done
    | simp [Own, go_sem]
  have hB4 : Below w.heap.size w W1 := by
    rw [hW1]
    repeat (first | with_reducible exact Below.refl _ _ | with_reducible refine bel_alloc ?_ _ | refine Below.setCell ?_ (by first | (simp; done) | (simp; omega) | omega) _)
  clear hW1 hL1
  with_reducible refine (K1.out _ (HNV.out.up hB4)).mono ?_
  rintro e w1 ⟨rfl, hb1⟩
  have c5 := c2.up hb1
  have c6 := c3.up hb1
  have hB7 : Below w.heap.size w w1 := bel_up hB4 hb1
  clear c2 c3
  have ne8_ : w.heap.size < w1.heap.size := by have := c5.lt; omega
  have ne8 := Nat.ne_of_lt ne8_
  have ne8' := ne8.symm
  have ne9_ : w.heap.size + 1 < w1.heap.size := by have := c6.lt; omega
  have ne9 := Nat.ne_of_lt ne9_
  have ne9' := ne9.symm
  have uc5 := c5; have uc6 := c6
  simp only [At, Own, Nat.reduceAdd, and_true] at uc5 uc6
  have K10 := Lib.hid (fun W (hv : NV W (.agg #[.slice An Nn cn, .slice Ar Nr cr]) N) => ends_any N r p (!r.o) true _ W hv HG.out HAT.out hq (by first | exact .inl rfl | exact .inr rfl))
  go_wp2_with (fail)
  refine calls_named ?_
  intro W2 hW2
  have hL2 : Below w1.heap.size w1 W2 := by
    rw [hW2]
    repeat (first | with_reducible exact Below.refl _ _ | with_reducible refine bel_alloc ?_ _ | refine Below.setCell ?_ (by first | (simp; done) | (simp; omega) | omega) _)
  have c11 := c5.up hL2
  have c12 := c6.up hL2
  have c13 : Own W2 (w1.heap.size) 0 [.int .i64 r.i, .int .i64 r.f, .int .i64 r.t, .int .i64 r.l, .int .i64 r.m, .bool r.o] := by
    rw [hW2]
    first
    | (repeat (first | (with_reducible refine own_new (l := [.int .i64 r.i, .int .i64 r.f, .int .i64 r.t, .int .i64 r.l, .int .i64 r.m, .bool r.o]) ?_; (simp; done)) | with_reducible refine Own.alloc ?_ _ | refine Own.far _ _ (by first | (simp; done) | (simp [*]; done) | (simp; omega)) ?_)); done
    | simp [Own, go_sem, uc5, uc6, ne8, ne8', ne8_, ne9, ne9', ne9_]
  have hB14 : Below w.heap.size w W2 := by
    rw [hW2]
    repeat (first | with_reducible exact hB7 | with_reducible refine bel_alloc ?_ _ | refine Below.setCell ?_ (by first | (simp; done) | (simp; omega) | omega) _)
  clear hW2 hL2 uc5 uc6 c5 c6
  with_reducible refine (K10.out _ (HNV.out.up hB14)).mono ?_
  rintro e w2 ⟨v2, rfl, hv2, hb2⟩
  have c15 := c11.up hb2
  have c16 := c12.up hb2
  have c17 := c13.up hb2
  have hB18 : Below w.heap.size w w2 := bel_up hB14 hb2
  clear c11 c12 c13
  have PW2 := Lib.hid hv2
  clear hv2
  have uc15 := c15; have uc16 := c16; have uc17 := c17
  simp only [At, Own, Nat.reduceAdd, and_true] at uc15 uc16 uc17
  go_wp2
  go_ret2
  exact ⟨_, rfl, (by rw [← endsE_exits HNE.out]; exact PW2.out), (by repeat (first | with_reducible exact hB18 | with_reducible refine bel_alloc ?_ _ | refine Below.setCell ?_ (by first | (simp; done) | (simp; omega) | omega) _))⟩

end Go.Proofs.YtldfencaoaikgaaGreatDoor
