/-
  Contracts of package network: positions.
  Contracts of package network: the position of a node, and the node at a position.
-/
import Derived.Test.YtldfencaoaikgaaGreatDoorUNb
set_option linter.unusedSimpArgs false
set_option linter.unusedVariables false
namespace Go.Proofs.YtldfencaoaikgaaGreatDoor
open Go Go.RowKit Nw

theorem sgnS {q : Rat} {t : Int} (h : Pl.sgn q = t) : t = -1 ∨ t = 0 ∨ t = 1 := h ▸ sgn_three _
theorem qfi_any (n : Int) (q : Rat) (w : World) (h : q = (n : Rat)) (h1 : -1073741824 ≤ n) (h2 : n ≤ 1073741824) : Calls Tryz.prog 37 #[.int .i64 n] w fun e w' => e = .returned (qv q) ∧ Below w.heap.size w w' := by
  subst h; exact qfromInt_any n w (by omega) (by omega)
set_option maxRecDepth 100000 in
theorem pat_any (x y : Int) (p : Rat × Rat) (w : World) (h : p = ((x : Rat), (y : Rat))) (h1 : -1048576 ≤ x) (h2 : x ≤ 1048576) (h3 : -1048576 ≤ y) (h4 : y ≤ 1048576) : Calls Tryz.prog 58 #[.int .i64 x, .int .i64 y] w fun e w' => e = .returned (pv p) ∧ Below w.heap.size w w' := by
  obtain ⟨px, py⟩ := p
  injection h with hx hy
  have HX := Lib.hid hx
  have HY := Lib.hid hy
  clear hx hy
  go_enter Tryz.func58, Tryz.ntmps58
  have K1 := Lib.hid (fun W => qfi_any x px W HX.out (by omega) (by omega))
  go_wp2_with (fail)
  refine calls_named ?_
  intro W1 hW1
  have hL1 : Below w.heap.size w W1 := by
    rw [hW1]
    repeat (first | with_reducible exact Below.refl _ _ | with_reducible refine bel_alloc ?_ _ | refine Below.setCell ?_ (by first | (simp; done) | (simp; omega) | omega) _)
  have c2 : Own W1 (w.heap.size) 0 [.bool false, .string ⟨#[]⟩, .bool false, .string ⟨#[]⟩, .bool false, .string ⟨#[]⟩, .bool false, .string ⟨#[]⟩] := by
    rw [hW1]
    first
    | (repeat (first | (with_reducible refine own_new (l := [.bool false, .string ⟨#[]⟩, .bool false, .string ⟨#[]⟩, .bool false, .string ⟨#[]⟩, .bool false, .string ⟨#[]⟩]) ?_; (simp; done)) | with_reducible refine Own.alloc ?_ _ | refine Own.far _ _ (by first | (simp; done) | (simp [*]; done) | (simp; omega)) ?_)); done
    | simp [Own, go_sem]
  have hB3 : Below w.heap.size w W1 := by
    rw [hW1]
    repeat (first | with_reducible exact Below.refl _ _ | with_reducible refine bel_alloc ?_ _ | refine Below.setCell ?_ (by first | (simp; done) | (simp; omega) | omega) _)
  clear hW1 hL1
  with_reducible refine (K1.out _).mono ?_
  rintro e w1 ⟨rfl, hb1⟩
  have c4 := c2.up hb1
  have hB5 : Below w.heap.size w w1 := bel_up hB3 hb1
  clear c2
  have K6 := Lib.hid (fun W => qfi_any y py W HY.out (by omega) (by omega))
  have uc4 := c4
  simp only [At, Own, Nat.reduceAdd, and_true] at uc4
  go_wp2_with (fail)
  refine calls_named ?_
  intro W2 hW2
  have hL2 : Below w1.heap.size w1 W2 := by
    rw [hW2]
    repeat (first | with_reducible exact Below.refl _ _ | with_reducible refine bel_alloc ?_ _ | refine Below.setCell ?_ (by first | (simp; done) | (simp; omega) | omega) _)
  have c7 := c4.up hL2
  have hB8 : Below w.heap.size w W2 := by
    rw [hW2]
    repeat (first | with_reducible exact hB5 | with_reducible refine bel_alloc ?_ _ | refine Below.setCell ?_ (by first | (simp; done) | (simp; omega) | omega) _)
  clear hW2 hL2 uc4 c4
  with_reducible refine (K6.out _).mono ?_
  rintro e w2 ⟨rfl, hb2⟩
  have c9 := c7.up hb2
  have hB10 : Below w.heap.size w w2 := bel_up hB8 hb2
  clear c7
  have uc9 := c9
  simp only [At, Own, Nat.reduceAdd, and_true] at uc9
  go_wp2
  refine bodyPost_ret (v := .agg #[.bool (ng px.num), .string (mg px.num.natAbs), .bool false, .string (mg (dn px)), .bool (ng py.num), .string (mg py.num.natAbs), .bool false, .string (mg (dn py))]) (by simp [results, Tryz.results58, go_sem, uc9]) rfl ⟨rfl, ?_⟩
  repeat (first | with_reducible exact hB10 | with_reducible refine bel_alloc ?_ _ | refine Below.setCell ?_ (by first | (simp; done) | (simp; omega) | omega) _)

set_option maxRecDepth 100000 in
theorem cplace_none (N : Net) (p : Pc) (v : Value) (w : World) (h : NV w v N) (g : Vld N) (hr : frd N.rs p.r = none) :
    Calls Tryz.prog 21 #[v, .agg #[.int .i64 p.r, .bool (ng p.q.num), .string (mg p.q.num.natAbs), .bool false, .string (mg (dn p.q))]] w fun e w' => e = .returned (.int .i64 9) ∧ Below w.heap.size w w' := by
  have HR := Lib.hid hr
  clear hr
  obtain ⟨_, _, rfl, hn, hr⟩ := h
  obtain ⟨An, cn, rfl, hcn, hmn, hxn⟩ := hn.open_
  obtain ⟨Ar, cr, rfl, hcr, hmr, hxr⟩ := hr.open_
  have HNV : Hid (NV w (.agg #[.slice An N.ns.length cn, .slice Ar N.rs.length cr]) N) := Lib.hid ⟨_, _, rfl, hn, hr⟩
  have HXN := Lib.hid hxn
  have HXR := Lib.hid hxr
  have HG := Lib.hid g
  have hln := g.ln
  have hlr := g.lr
  generalize hNn : N.ns.length = Nn at *
  generalize hNr : N.rs.length = Nr at *
  have HNn := Lib.hid hNn
  have HNr := Lib.hid hNr
  clear hn hr hxn hxr g hNn hNr
  go_enter Tryz.func21, Tryz.ntmps21
  have K1 := Lib.hid (fun W (hv : NV W (.agg #[.slice An Nn cn, .slice Ar Nr cr]) N) => road_none N p.r _ W hv HG.out HR.out)
  go_wp2_with (fail)
  refine calls_named ?_
  intro W1 hW1
  have hL1 : Below w.heap.size w W1 := by
    rw [hW1]
    repeat (first | with_reducible exact Below.refl _ _ | with_reducible refine bel_alloc ?_ _ | refine Below.setCell ?_ (by first | (simp; done) | (simp; omega) | omega) _)
  have c2 : Own W1 (w.heap.size) 0 [.slice An Nn cn, .slice Ar Nr cr] := by
    rw [hW1]
    first
    | (repeat (first | (with_reducible refine own_new (l := [.slice An Nn cn, .slice Ar Nr cr]) ?_; (simp; done)) | with_reducible refine Own.alloc ?_ _ | refine Own.far _ _ (by first | (simp; done) | (simp [*]; done) | (simp; omega)) ?_)); done
    | simp [Own, go_sem]
  have c3 : Own W1 (w.heap.size + 1) 0 [.int .i64 p.r, .bool (ng p.q.num), .string (mg p.q.num.natAbs), .bool false, .string (mg (dn p.q))] := by
    rw [hW1]
    first
    | (repeat (first | (with_reducible refine own_new (l := [.int .i64 p.r, .bool (ng p.q.num), .string (mg p.q.num.natAbs), .bool false, .string (mg (dn p.q))]) ?_; (simp; done)) | with_reducible refine Own.alloc ?_ _ | refine Own.far _ _ (by first | (simp; done) | (simp [*]; done) | (simp; omega)) ?_)); done
    | simp [Own, go_sem]
  have hB4 : Below w.heap.size w W1 := by
    rw [hW1]
    repeat (first | with_reducible exact Below.refl _ _ | with_reducible refine bel_alloc ?_ _ | refine Below.setCell ?_ (by first | (simp; done) | (simp; omega) | omega) _)
  clear hW1 hL1
  with_reducible refine (K1.out _ (HNV.out.up hB4)).mono ?_
  rintro e w1 ⟨rfl, hb1⟩
  have c5 := c2.up hb1
  have c6 := c3.up hb1
  have hB7 : Below w.heap.size w w1 := bel_up hB4 hb1
  clear c2 c3
  have ne8_ : w.heap.size < w1.heap.size := by have := c5.lt; omega
  have ne8 := Nat.ne_of_lt ne8_
  have ne8' := ne8.symm
  have ne9_ : w.heap.size + 1 < w1.heap.size := by have := c6.lt; omega
  have ne9 := Nat.ne_of_lt ne9_
  have ne9' := ne9.symm
  have uc5 := c5; have uc6 := c6
  simp only [At, Own, Nat.reduceAdd, and_true] at uc5 uc6
  go_wp2
  go_ret
  refine ⟨rfl, ?_⟩
  repeat (first | with_reducible exact hB7 | with_reducible refine bel_alloc ?_ _ | refine Below.setCell ?_ (by first | (simp; done) | (simp; omega) | omega) _)

set_option maxRecDepth 100000 in
theorem cplace_some (N : Net) (r : Rd) (p : Pc) (v : Value) (w : World) (h : NV w v N) (g : Vld N) (hr : frd N.rs p.r = some r) (hq : Pl.Sz 2000 p.q) :
    Calls Tryz.prog 21 #[v, .agg #[.int .i64 p.r, .bool (ng p.q.num), .string (mg p.q.num.natAbs), .bool false, .string (mg (dn p.q))]] w fun e w' => e = .returned (.int .i64 (placeR r p)) ∧ Below w.heap.size w w' := by
  have hrok := g.or r (frd_of hr).1
  have hl1 := hrok.2.2.1
  have hl2 := hrok.2.2.2.1
  have HR := Lib.hid hr
  have HROK := Lib.hid hrok
  obtain ⟨ql, hql⟩ : ∃ q : Rat, q = (r.l : Rat) := ⟨_, rfl⟩
  have ZQL : Pl.Sz 4 ql := by rw [hql]; exact sz_small (by omega) (by omega)
  have HQL := Lib.hid hql
  clear hr hql hrok
  obtain ⟨_, _, rfl, hn, hr⟩ := h
  obtain ⟨An, cn, rfl, hcn, hmn, hxn⟩ := hn.open_
  obtain ⟨Ar, cr, rfl, hcr, hmr, hxr⟩ := hr.open_
  have HNV : Hid (NV w (.agg #[.slice An N.ns.length cn, .slice Ar N.rs.length cr]) N) := Lib.hid ⟨_, _, rfl, hn, hr⟩
  have HXN := Lib.hid hxn
  have HXR := Lib.hid hxr
  have HG := Lib.hid g
  have hln := g.ln
  have hlr := g.lr
  generalize hNn : N.ns.length = Nn at *
  generalize hNr : N.rs.length = Nr at *
  have HNn := Lib.hid hNn
  have HNr := Lib.hid hNr
  clear hn hr hxn hxr g hNn hNr
  go_enter Tryz.func21, Tryz.ntmps21
  have K1 := Lib.hid (fun W (hv : NV W (.agg #[.slice An Nn cn, .slice Ar Nr cr]) N) => road_some N r p.r _ W hv HG.out HR.out)
  go_wp2_with (fail)
  refine calls_named ?_
  intro W1 hW1
  have hL1 : Below w.heap.size w W1 := by
    rw [hW1]
    repeat (first | with_reducible exact Below.refl _ _ | with_reducible refine bel_alloc ?_ _ | refine Below.setCell ?_ (by first | (simp; done) | (simp; omega) | omega) _)
  have c2 : Own W1 (w.heap.size) 0 [.slice An Nn cn, .slice Ar Nr cr] := by
    rw [hW1]
    first
    | (repeat (first | (with_reducible refine own_new (l := [.slice An Nn cn, .slice Ar Nr cr]) ?_; (simp; done)) | with_reducible refine Own.alloc ?_ _ | refine Own.far _ _ (by first | (simp; done) | (simp [*]; done) | (simp; omega)) ?_)); done
    | simp [Own, go_sem]
  have c3 : Own W1 (w.heap.size + 1) 0 [.int .i64 p.r, .bool (ng p.q.num), .string (mg p.q.num.natAbs), .bool false, .string (mg (dn p.q))] := by
    rw [hW1]
    first
    | (repeat (first | (with_reducible refine own_new (l := [.int .i64 p.r, .bool (ng p.q.num), .string (mg p.q.num.natAbs), .bool false, .string (mg (dn p.q))]) ?_; (simp; done)) | with_reducible refine Own.alloc ?_ _ | refine Own.far _ _ (by first | (simp; done) | (simp [*]; done) | (simp; omega)) ?_)); done
    | simp [Own, go_sem]
  have hB4 : Below w.heap.size w W1 := by
    rw [hW1]
    repeat (first | with_reducible exact Below.refl _ _ | with_reducible refine bel_alloc ?_ _ | refine Below.setCell ?_ (by first | (simp; done) | (simp; omega) | omega) _)
  clear hW1 hL1
  with_reducible refine (K1.out _ (HNV.out.up hB4)).mono ?_
  rintro e w1 ⟨rfl, hb1⟩
  have c5 := c2.up hb1
  have c6 := c3.up hb1
  have hB7 : Below w.heap.size w w1 := bel_up hB4 hb1
  clear c2 c3
  have ne8_ : w.heap.size < w1.heap.size := by have := c5.lt; omega
  have ne8 := Nat.ne_of_lt ne8_
  have ne8' := ne8.symm
  have ne9_ : w.heap.size + 1 < w1.heap.size := by have := c6.lt; omega
  have ne9 := Nat.ne_of_lt ne9_
  have ne9' := ne9.symm
  have uc5 := c5; have uc6 := c6
  simp only [At, Own, Nat.reduceAdd, and_true] at uc5 uc6
  have K10 := Lib.hid (fun W => qcheck_any p.q W (hq.mono (by decide)))
  go_wp2_with (fail)
  refine calls_named ?_
  intro W2 hW2
  have hL2 : Below w1.heap.size w1 W2 := by
    rw [hW2]
    repeat (first | with_reducible exact Below.refl _ _ | with_reducible refine bel_alloc ?_ _ | refine Below.setCell ?_ (by first | (simp; done) | (simp; omega) | omega) _)
  have c11 := c5.up hL2
  have c12 := c6.up hL2
  have c13 : Own W2 (w1.heap.size) 0 [.int .i64 r.i, .int .i64 r.f, .int .i64 r.t, .int .i64 r.l, .int .i64 r.m, .bool r.o] := by
    rw [hW2]
    first
    | (repeat (first | (with_reducible refine own_new (l := [.int .i64 r.i, .int .i64 r.f, .int .i64 r.t, .int .i64 r.l, .int .i64 r.m, .bool r.o]) ?_; (simp; done)) | with_reducible refine Own.alloc ?_ _ | refine Own.far _ _ (by first | (simp; done) | (simp [*]; done) | (simp; omega)) ?_)); done
    | simp [Own, go_sem, uc5, uc6, ne8, ne8', ne8_, ne9, ne9', ne9_]
  have hB14 : Below w.heap.size w W2 := by
    rw [hW2]
    repeat (first | with_reducible exact hB7 | with_reducible refine bel_alloc ?_ _ | refine Below.setCell ?_ (by first | (simp; done) | (simp; omega) | omega) _)
  clear hW2 hL2 uc5 uc6 c5 c6
  with_reducible refine (K10.out _).mono ?_
  rintro e w2 ⟨rfl, hb2⟩
  have c15 := c11.up hb2
  have c16 := c12.up hb2
  have c17 := c13.up hb2
  have hB18 : Below w.heap.size w w2 := bel_up hB14 hb2
  clear c11 c12 c13
  have kK19 := fun W => qsign_any p.q W
  generalize hT21 : Pl.sgn p.q = t20 at kK19
  have K19 := Lib.hid kK19
  clear kK19
  have T22 := Lib.hid (sgnS hT21)
  have HhT21 := Lib.hid hT21
  clear hT21
  have kK23 := fun W => qcmp_any p.q ql W (hq.mono (by decide)) (ZQL.mono (by decide))
  generalize hT25 : Pl.cmpQ p.q ql = t24 at kK23
  have K23 := Lib.hid kK23
  clear kK23
  have T26 := Lib.hid (sgnQ hT25)
  have HhT25 := Lib.hid hT25
  clear hT25
  rcases T22.out with rfl | rfl | rfl
  · skip
    go_wp2_with fail
    refine wp_named ?_
    intro W3 hW3
    have hL3 : Below w2.heap.size w2 W3 := by
      rw [hW3]
      repeat (first | with_reducible exact Below.refl _ _ | with_reducible refine bel_alloc ?_ _ | refine Below.setCell ?_ (by first | (simp; done) | (simp; omega) | omega) _)
    have c27 := c15.up hL3
    have c28 := c16.up hL3
    have c29 := c17.up hL3
    have hB30 : Below w.heap.size w W3 := by
      rw [hW3]
      repeat (first | with_reducible exact hB18 | with_reducible refine bel_alloc ?_ _ | refine Below.setCell ?_ (by first | (simp; done) | (simp; omega) | omega) _)
    clear hW3 hL3 c15 c16 c17
    have dc27 := fun p : Bel W3 => c27.bel p; have dc28 := fun p : Bel W3 => c28.bel p; have dc29 := fun p : Bel W3 => c29.bel p
    simp only [At, Own, Nat.reduceAdd, and_true] at dc27 dc28 dc29
    refine wp_region_tail 13 (by kernel_rfl) (by kernel_rfl) ?_
    simp only [List.take_succ_cons, List.take_zero, List.drop_succ_cons, List.drop_zero]
    repeat (go_big_quiet_step (first | (go_at_call 60; with_reducible exact Calls.bel (K19.out _))))
    refine wpQuiet_nil ?_
    intro w3 hb3
    have c31 := c27.up hb3
    have c32 := c28.up hb3
    have c33 := c29.up hb3
    have hB34 : Below w.heap.size w w3 := bel_up hB30 hb3
    clear dc27 dc28 dc29 c27 c28 c29
    have uc31 := c31; have uc32 := c32; have uc33 := c33
    simp only [At, Own, Nat.reduceAdd, and_true] at uc31 uc32 uc33
    go_wp2
    go_ret
    refine ⟨(by rw [show placeR r p = 2 from by unfold placeR; rw [← HQL.out, HhT21.out, HhT25.out]; simp] <;> rfl), ?_⟩
    repeat (first | with_reducible exact hB34 | with_reducible refine bel_alloc ?_ _ | refine Below.setCell ?_ (by first | (simp; done) | (simp; omega) | omega) _)
  · skip
    have K35 := Lib.hid (fun W => qfi_any r.l ql W HQL.out (by omega) (by omega))
    go_wp2_with fail
    refine wp_named ?_
    intro W4 hW4
    have hL4 : Below w2.heap.size w2 W4 := by
      rw [hW4]
      repeat (first | with_reducible exact Below.refl _ _ | with_reducible refine bel_alloc ?_ _ | refine Below.setCell ?_ (by first | (simp; done) | (simp; omega) | omega) _)
    have c36 := c15.up hL4
    have c37 := c16.up hL4
    have c38 := c17.up hL4
    have hB39 : Below w.heap.size w W4 := by
      rw [hW4]
      repeat (first | with_reducible exact hB18 | with_reducible refine bel_alloc ?_ _ | refine Below.setCell ?_ (by first | (simp; done) | (simp; omega) | omega) _)
    clear hW4 hL4 c15 c16 c17
    have dc36 := fun p : Bel W4 => c36.bel p; have dc37 := fun p : Bel W4 => c37.bel p; have dc38 := fun p : Bel W4 => c38.bel p
    simp only [At, Own, Nat.reduceAdd, and_true] at dc36 dc37 dc38
    refine wp_region_tail 13 (by kernel_rfl) (by kernel_rfl) ?_
    simp only [List.take_succ_cons, List.take_zero, List.drop_succ_cons, List.drop_zero]
    repeat (go_big_quiet_step (first | (go_at_call 60; with_reducible exact Calls.bel (K19.out _)) | (go_at_call 37; with_reducible exact Calls.bel (K35.out _)) | (go_at_call 61; with_reducible exact Calls.bel (K23.out _))))
    refine wpQuiet_nil ?_
    intro w4 hb4
    have c40 := c36.up hb4
    have c41 := c37.up hb4
    have c42 := c38.up hb4
    have hB43 : Below w.heap.size w w4 := bel_up hB39 hb4
    clear dc36 dc37 dc38 c36 c37 c38
    have uc40 := c40; have uc41 := c41; have uc42 := c42
    simp only [At, Own, Nat.reduceAdd, and_true] at uc40 uc41 uc42
    rcases T26.out with rfl | rfl | rfl
    · skip
      go_wp2
      go_ret
      refine ⟨(by rw [show placeR r p = 0 from by unfold placeR; rw [← HQL.out, HhT21.out, HhT25.out]; simp] <;> rfl), ?_⟩
      repeat (first | with_reducible exact hB43 | with_reducible refine bel_alloc ?_ _ | refine Below.setCell ?_ (by first | (simp; done) | (simp; omega) | omega) _)
    · skip
      go_wp2
      go_ret
      refine ⟨(by rw [show placeR r p = 0 from by unfold placeR; rw [← HQL.out, HhT21.out, HhT25.out]; simp] <;> rfl), ?_⟩
      repeat (first | with_reducible exact hB43 | with_reducible refine bel_alloc ?_ _ | refine Below.setCell ?_ (by first | (simp; done) | (simp; omega) | omega) _)
    · skip
      go_wp2
      go_ret
      refine ⟨(by rw [show placeR r p = 2 from by unfold placeR; rw [← HQL.out, HhT21.out, HhT25.out]; simp] <;> rfl), ?_⟩
      repeat (first | with_reducible exact hB43 | with_reducible refine bel_alloc ?_ _ | refine Below.setCell ?_ (by first | (simp; done) | (simp; omega) | omega) _)
  · skip
    have K44 := Lib.hid (fun W => qfi_any r.l ql W HQL.out (by omega) (by omega))
    go_wp2_with fail
    refine wp_named ?_
    intro W5 hW5
    have hL5 : Below w2.heap.size w2 W5 := by
      rw [hW5]
      repeat (first | with_reducible exact Below.refl _ _ | with_reducible refine bel_alloc ?_ _ | refine Below.setCell ?_ (by first | (simp; done) | (simp; omega) | omega) _)
    have c45 := c15.up hL5
    have c46 := c16.up hL5
    have c47 := c17.up hL5
    have hB48 : Below w.heap.size w W5 := by
      rw [hW5]
      repeat (first | with_reducible exact hB18 | with_reducible refine bel_alloc ?_ _ | refine Below.setCell ?_ (by first | (simp; done) | (simp; omega) | omega) _)
    clear hW5 hL5 c15 c16 c17
    have dc45 := fun p : Bel W5 => c45.bel p; have dc46 := fun p : Bel W5 => c46.bel p; have dc47 := fun p : Bel W5 => c47.bel p
    simp only [At, Own, Nat.reduceAdd, and_true] at dc45 dc46 dc47
    refine wp_region_tail 13 (by kernel_rfl) (by kernel_rfl) ?_
    simp only [List.take_succ_cons, List.take_zero, List.drop_succ_cons, List.drop_zero]
    repeat (go_big_quiet_step (first | (go_at_call 60; with_reducible exact Calls.bel (K19.out _)) | (go_at_call 37; with_reducible exact Calls.bel (K44.out _)) | (go_at_call 61; with_reducible exact Calls.bel (K23.out _))))
    refine wpQuiet_nil ?_
    intro w5 hb5
    have c49 := c45.up hb5
    have c50 := c46.up hb5
    have c51 := c47.up hb5
    have hB52 : Below w.heap.size w w5 := bel_up hB48 hb5
    clear dc45 dc46 dc47 c45 c46 c47
    have uc49 := c49; have uc50 := c50; have uc51 := c51
    simp only [At, Own, Nat.reduceAdd, and_true] at uc49 uc50 uc51
    rcases T26.out with rfl | rfl | rfl
    · skip
      go_wp2
      go_ret
      refine ⟨(by rw [show placeR r p = 0 from by unfold placeR; rw [← HQL.out, HhT21.out, HhT25.out]; simp] <;> rfl), ?_⟩
      repeat (first | with_reducible exact hB52 | with_reducible refine bel_alloc ?_ _ | refine Below.setCell ?_ (by first | (simp; done) | (simp; omega) | omega) _)
    · skip
      go_wp2
      go_ret
      refine ⟨(by rw [show placeR r p = 0 from by unfold placeR; rw [← HQL.out, HhT21.out, HhT25.out]; simp] <;> rfl), ?_⟩
      repeat (first | with_reducible exact hB52 | with_reducible refine bel_alloc ?_ _ | refine Below.setCell ?_ (by first | (simp; done) | (simp; omega) | omega) _)
    · skip
      go_wp2
      go_ret
      refine ⟨(by rw [show placeR r p = 2 from by unfold placeR; rw [← HQL.out, HhT21.out, HhT25.out]; simp] <;> rfl), ?_⟩
      repeat (first | with_reducible exact hB52 | with_reducible refine bel_alloc ?_ _ | refine Below.setCell ?_ (by first | (simp; done) | (simp; omega) | omega) _)

theorem cplace_any (N : Net) (p : Pc) (v : Value) (w : World) (h : NV w v N) (g : Vld N) (hq : Pl.Sz 2000 p.q) (c : Int) (hc : placeE N p = c) :
    Calls Tryz.prog 21 #[v, .agg #[.int .i64 p.r, .bool (ng p.q.num), .string (mg p.q.num.natAbs), .bool false, .string (mg (dn p.q))]] w fun e w' => e = .returned (.int .i64 c) ∧ Below w.heap.size w w' := by
  subst hc
  cases hr : frd N.rs p.r with
  | none => rw [placeE_none hr]; exact cplace_none N p v w h g hr
  | some r => rw [placeE_some hr]; exact cplace_some N r p v w h g hr hq
end Go.Proofs.YtldfencaoaikgaaGreatDoor

namespace Go.Proofs.YtldfencaoaikgaaGreatDoor
open Go Go.RowKit Nw

set_option maxRecDepth 100000 in
theorem offset_any (r : Rd) (n : Int) (o : Rat) (w : World) (ho : o = offE r n) (h1 : -1073741824 ≤ r.l) (h2 : r.l ≤ 1073741824) :
    Calls Tryz.prog 78 #[.agg #[.int .i64 r.i, .int .i64 r.f, .int .i64 r.t, .int .i64 r.l, .int .i64 r.m, .bool r.o], .int .i64 n] w fun e w' => e = .returned (qv o) ∧ Below w.heap.size w w' := by
  have HO := Lib.hid ho
  obtain ⟨ql, hql⟩ : ∃ q : Rat, q = (r.l : Rat) := ⟨_, rfl⟩
  have HQL := Lib.hid hql
  clear ho hql
  go_enter Tryz.func78, Tryz.ntmps78
  by_cases hc1 : (r.f : Int) = n
  · skip
    go_wp2
    refine bodyPost_ret (v := .agg #[.bool false, .string ⟨#[]⟩, .bool false, .string ⟨#[]⟩]) (by simp [results, Tryz.results78, go_sem, ]) rfl ⟨(by rw [HO.out, offE, if_pos hc1] <;> rfl), ?_⟩
    repeat (first | with_reducible exact Below.refl _ _ | with_reducible refine bel_alloc ?_ _ | refine Below.setCell ?_ (by first | (simp; done) | (simp; omega) | omega) _)
  · skip
    have hc1_ : (((r.f : Int)) == n) = false := by simpa using hc1
    have K2 := Lib.hid (fun W => qfi_any r.l ql W HQL.out (by omega) (by omega))
    go_wp2_with (fail)
    refine calls_named ?_
    intro W1 hW1
    have hL1 : Below w.heap.size w W1 := by
      rw [hW1]
      repeat (first | with_reducible exact Below.refl _ _ | with_reducible refine bel_alloc ?_ _ | refine Below.setCell ?_ (by first | (simp; done) | (simp; omega) | omega) _)
    have c3 : Own W1 (w.heap.size) 0 [.int .i64 r.i, .int .i64 r.f, .int .i64 r.t, .int .i64 r.l, .int .i64 r.m, .bool r.o] := by
      rw [hW1]
      first
      | (repeat (first | (with_reducible refine own_new (l := [.int .i64 r.i, .int .i64 r.f, .int .i64 r.t, .int .i64 r.l, .int .i64 r.m, .bool r.o]) ?_; (simp; done)) | with_reducible refine Own.alloc ?_ _ | refine Own.far _ _ (by first | (simp; done) | (simp [*]; done) | (simp; omega)) ?_)); done
      | simp [Own, go_sem]
    have c4 : Own W1 (w.heap.size + 1) 0 [.bool false, .string ⟨#[]⟩, .bool false, .string ⟨#[]⟩] := by
      rw [hW1]
      first
      | (repeat (first | (with_reducible refine own_new (l := [.bool false, .string ⟨#[]⟩, .bool false, .string ⟨#[]⟩]) ?_; (simp; done)) | with_reducible refine Own.alloc ?_ _ | refine Own.far _ _ (by first | (simp; done) | (simp [*]; done) | (simp; omega)) ?_)); done
      | simp [Own, go_sem]
    have hB5 : Below w.heap.size w W1 := by
      rw [hW1]
      repeat (first | with_reducible exact Below.refl _ _ | with_reducible refine bel_alloc ?_ _ | refine Below.setCell ?_ (by first | (simp; done) | (simp; omega) | omega) _)
    clear hW1 hL1
    with_reducible refine (K2.out _).mono ?_
    rintro e w1 ⟨rfl, hb1⟩
    have c6 := c3.up hb1
    have c7 := c4.up hb1
    have hB8 : Below w.heap.size w w1 := bel_up hB5 hb1
    clear c3 c4
    have uc6 := c6; have uc7 := c7
    simp only [At, Own, Nat.reduceAdd, and_true] at uc6 uc7
    go_wp2
    refine bodyPost_ret (v := .agg #[.bool (ng ql.num), .string (mg ql.num.natAbs), .bool false, .string (mg (dn ql))]) (by simp [results, Tryz.results78, go_sem, uc6, uc7]) rfl ⟨(by rw [HO.out, offE, if_neg hc1, ← HQL.out] <;> rfl), ?_⟩
    repeat (first | with_reducible exact hB8 | with_reducible refine bel_alloc ?_ _ | refine Below.setCell ?_ (by first | (simp; done) | (simp; omega) | omega) _)

theorem idx2_0 (a b : Int) (w : World) : (Instr.index 129 (.agg #[.int .i64 a, .int .i64 b]) (.int .i64 0)).run Tryz.prog w = .ok (.int .i64 a) w := by
  simp [Instr.index, run_underlying Tryz.underlying129, asIntOf, go_sem, part]
theorem idx2_1 (a b : Int) (w : World) : (Instr.index 129 (.agg #[.int .i64 a, .int .i64 b]) (.int .i64 1)).run Tryz.prog w = .ok (.int .i64 b) w := by
  simp [Instr.index, run_underlying Tryz.underlying129, asIntOf, go_sem, part]
theorem off_sz {r : Rd} {n : Int} {o : Rat} (h : o = offE r n) (h1 : -1073741824 ≤ r.l) (h2 : r.l ≤ 1073741824) : Pl.Sz 4 o := by
  subst h; unfold offE; split
  · exact Pl.sz_zero.mono (by decide)
  · exact sz_small h1 h2
/-- What NodeAt returns. -/
def AtRes (r : Rd) (q : Rat) (k : Int) (b : Bool) : Prop := (b = true ∧ atR r q = some k) ∨ (b = false ∧ atR r q = none ∧ k = 0)
theorem atres_1 {r : Rd} {q : Rat} {k : Int} {b : Bool} (h : AtRes r q k b) (e : q = offE r r.f) : k = r.f ∧ b = true := by
  have : atR r q = some r.f := by unfold atR; rw [if_pos e]
  rcases h with ⟨h1, h2⟩ | ⟨_, h2, _⟩
  · rw [this] at h2; injection h2 with h2; exact ⟨h2.symm, h1⟩
  · rw [this] at h2; cases h2
theorem atres_2 {r : Rd} {q : Rat} {k : Int} {b : Bool} (h : AtRes r q k b) (e1 : q ≠ offE r r.f) (e : q = offE r r.t) : k = r.t ∧ b = true := by
  have : atR r q = some r.t := by unfold atR; rw [if_neg e1, if_pos e]
  rcases h with ⟨h1, h2⟩ | ⟨_, h2, _⟩
  · rw [this] at h2; injection h2 with h2; exact ⟨h2.symm, h1⟩
  · rw [this] at h2; cases h2
theorem atres_3 {r : Rd} {q : Rat} {k : Int} {b : Bool} (h : AtRes r q k b) (e1 : q ≠ offE r r.f) (e : q ≠ offE r r.t) : k = 0 ∧ b = false := by
  have : atR r q = none := by unfold atR; rw [if_neg e1, if_neg e]
  rcases h with ⟨_, h2⟩ | ⟨h1, _, h2⟩
  · rw [this] at h2; cases h2
  · exact ⟨h2, h1⟩

set_option maxRecDepth 100000 in
set_option maxHeartbeats 1000000 in
theorem nodeat_any (N : Net) (r : Rd) (p : Pc) (k : Int) (b : Bool) (v : Value) (w : World) (h : NV w v N) (g : Vld N)(hr : frd N.rs p.r = some r) (hq : Pl.Sz 2000 p.q) (hp : placeE N p = 0) (ha : AtRes r p.q k b) :
    Calls Tryz.prog 43 #[v, .agg #[.int .i64 p.r, .bool (ng p.q.num), .string (mg p.q.num.natAbs), .bool false, .string (mg (dn p.q))]] w fun e w' => e = .returned (.tuple #[.int .i64 k, .bool b]) ∧ Below w.heap.size w w' := by
  have hrok := g.or r (frd_of hr).1
  have hl1 := hrok.2.2.1
  have hl2 := hrok.2.2.2.1
  have HR := Lib.hid hr
  have HROK := Lib.hid hrok
  obtain ⟨ql, hql⟩ : ∃ q : Rat, q = (r.l : Rat) := ⟨_, rfl⟩
  have ZQL : Pl.Sz 4 ql := by rw [hql]; exact sz_small (by omega) (by omega)
  have HQL := Lib.hid hql
  clear hr hql hrok
  obtain ⟨o1, ho1⟩ : ∃ o : Rat, o = offE r r.f := ⟨_, rfl⟩
  obtain ⟨o2, ho2⟩ : ∃ o : Rat, o = offE r r.t := ⟨_, rfl⟩
  have ZO1 := off_sz ho1 (by omega) (by omega)
  have ZO2 := off_sz ho2 (by omega) (by omega)
  have HO1 := Lib.hid ho1
  have HO2 := Lib.hid ho2
  clear ho1 ho2
  have ix0 := fun W => idx2_0 r.f r.t W
  have ix1 := fun W => idx2_1 r.f r.t W
  have HA := Lib.hid ha
  have HP := Lib.hid hp
  clear ha hp
  obtain ⟨_, _, rfl, hn, hr⟩ := h
  obtain ⟨An, cn, rfl, hcn, hmn, hxn⟩ := hn.open_
  obtain ⟨Ar, cr, rfl, hcr, hmr, hxr⟩ := hr.open_
  have HNV : Hid (NV w (.agg #[.slice An N.ns.length cn, .slice Ar N.rs.length cr]) N) := Lib.hid ⟨_, _, rfl, hn, hr⟩
  have HXN := Lib.hid hxn
  have HXR := Lib.hid hxr
  have HG := Lib.hid g
  have hln := g.ln
  have hlr := g.lr
  generalize hNn : N.ns.length = Nn at *
  generalize hNr : N.rs.length = Nr at *
  have HNn := Lib.hid hNn
  have HNr := Lib.hid hNr
  clear hn hr hxn hxr g hNn hNr
  go_enter Tryz.func43, Tryz.ntmps43
  have K1 := Lib.hid (fun W (hv : NV W (.agg #[.slice An Nn cn, .slice Ar Nr cr]) N) => cplace_any N p _ W hv HG.out hq 0 HP.out)
  go_wp2_with (fail)
  refine calls_named ?_
  intro W1 hW1
  have hL1 : Below w.heap.size w W1 := by
    rw [hW1]
    repeat (first | with_reducible exact Below.refl _ _ | with_reducible refine bel_alloc ?_ _ | refine Below.setCell ?_ (by first | (simp; done) | (simp; omega) | omega) _)
  have c2 : Own W1 (w.heap.size) 0 [.slice An Nn cn, .slice Ar Nr cr] := by
    rw [hW1]
    first
    | (repeat (first | (with_reducible refine own_new (l := [.slice An Nn cn, .slice Ar Nr cr]) ?_; (simp; done)) | with_reducible refine Own.alloc ?_ _ | refine Own.far _ _ (by first | (simp; done) | (simp [*]; done) | (simp; omega)) ?_)); done
    | simp [Own, go_sem]
  have c3 : Own W1 (w.heap.size + 1) 0 [.int .i64 p.r, .bool (ng p.q.num), .string (mg p.q.num.natAbs), .bool false, .string (mg (dn p.q))] := by
    rw [hW1]
    first
    | (repeat (first | (with_reducible refine own_new (l := [.int .i64 p.r, .bool (ng p.q.num), .string (mg p.q.num.natAbs), .bool false, .string (mg (dn p.q))]) ?_; (simp; done)) | with_reducible refine Own.alloc ?_ _ | refine Own.far _ _ (by first | (simp; done) | (simp [*]; done) | (simp; omega)) ?_)); done
    | simp [Own, go_sem]
  have hB4 : Below w.heap.size w W1 := by
    rw [hW1]
    repeat (first | with_reducible exact Below.refl _ _ | with_reducible refine bel_alloc ?_ _ | refine Below.setCell ?_ (by first | (simp; done) | (simp; omega) | omega) _)
  clear hW1 hL1
  with_reducible refine (K1.out _ (HNV.out.up hB4)).mono ?_
  rintro e w1 ⟨rfl, hb1⟩
  have c5 := c2.up hb1
  have c6 := c3.up hb1
  have hB7 : Below w.heap.size w w1 := bel_up hB4 hb1
  clear c2 c3
  have uc5 := c5; have uc6 := c6
  simp only [At, Own, Nat.reduceAdd, and_true] at uc5 uc6
  have K8 := Lib.hid (fun W (hv : NV W (.agg #[.slice An Nn cn, .slice Ar Nr cr]) N) => road_some N r p.r _ W hv HG.out HR.out)
  go_wp2_with (fail)
  refine calls_named ?_
  intro W2 hW2
  have hL2 : Below w1.heap.size w1 W2 := by
    rw [hW2]
    repeat (first | with_reducible exact Below.refl _ _ | with_reducible refine bel_alloc ?_ _ | refine Below.setCell ?_ (by first | (simp; done) | (simp; omega) | omega) _)
  have c9 := c5.up hL2
  have c10 := c6.up hL2
  have hB11 : Below w.heap.size w W2 := by
    rw [hW2]
    repeat (first | with_reducible exact hB7 | with_reducible refine bel_alloc ?_ _ | refine Below.setCell ?_ (by first | (simp; done) | (simp; omega) | omega) _)
  clear hW2 hL2 uc5 uc6 c5 c6
  with_reducible refine (K8.out _ (HNV.out.up hB11)).mono ?_
  rintro e w2 ⟨rfl, hb2⟩
  have c12 := c9.up hb2
  have c13 := c10.up hb2
  have hB14 : Below w.heap.size w w2 := bel_up hB11 hb2
  clear c9 c10
  have ne15_ : w.heap.size < w2.heap.size := by have := c12.lt; omega
  have ne15 := Nat.ne_of_lt ne15_
  have ne15' := ne15.symm
  have ne16_ : w.heap.size + 1 < w2.heap.size := by have := c13.lt; omega
  have ne16 := Nat.ne_of_lt ne16_
  have ne16' := ne16.symm
  have uc12 := c12; have uc13 := c13
  simp only [At, Own, Nat.reduceAdd, and_true] at uc12 uc13
  go_wp2_with fail
  refine wp_named ?_
  intro W3 hW3
  have hL3 : Below w2.heap.size w2 W3 := by
    rw [hW3]
    repeat (first | with_reducible exact Below.refl _ _ | with_reducible refine bel_alloc ?_ _ | refine Below.setCell ?_ (by first | (simp; done) | (simp; omega) | omega) _)
  have c17 := c13.up hL3
  have c18 : Own W3 (w2.heap.size) 0 [.int .i64 r.i, .int .i64 r.f, .int .i64 r.t, .int .i64 r.l, .int .i64 r.m, .bool r.o] := by
    rw [hW3]
    first
    | (repeat (first | (with_reducible refine own_new (l := [.int .i64 r.i, .int .i64 r.f, .int .i64 r.t, .int .i64 r.l, .int .i64 r.m, .bool r.o]) ?_; (simp; done)) | with_reducible refine Own.alloc ?_ _ | refine Own.far _ _ (by first | (simp; done) | (simp [*]; done) | (simp; omega)) ?_)); done
    | simp [Own, go_sem, uc12, uc13, ne15, ne15', ne15_, ne16, ne16', ne16_]
  have hB19 : Below w.heap.size w W3 := by
    rw [hW3]
    repeat (first | with_reducible exact hB14 | with_reducible refine bel_alloc ?_ _ | refine Below.setCell ?_ (by first | (simp; done) | (simp; omega) | omega) _)
  clear hW3 hL3 uc12 uc13 c13
  go_loopw [26] (fun s26 wr => ∃ (i : Nat), s26 = .int .i64 i ∧ Own wr (w.heap.size + 1) 0 [.int .i64 p.r, .bool (ng p.q.num), .string (mg p.q.num.natAbs), .bool false, .string (mg (dn p.q))] ∧ Own wr (w2.heap.size) 0 [.int .i64 r.i, .int .i64 r.f, .int .i64 r.t, .int .i64 r.l, .int .i64 r.m, .bool r.o] ∧ Below w.heap.size w wr ∧ i ≤ 2 ∧ Hid (1 ≤ i → p.q ≠ o1) ∧ Hid (2 ≤ i → p.q ≠ o2)) (fun s26 _ => 2 - (intOf s26).toNat)
  case atStart => exact ⟨0, rfl, c17, c18, hB19, (by omega), Lib.hid (fun h_ => absurd h_ (by decide)), Lib.hid (fun h_ => absurd h_ (by decide))⟩
  case round =>
    clear c17 c18 hB19
    obtain ⟨i, rfl, b20, b21, hB22, hi, HI1, HI2⟩ := hrel
    obtain ⟨wr23, hwr23⟩ : ∃ W_, W_ = wr := ⟨_, rfl⟩
    subst hwr23
    rcases (show i = 0 ∨ i = 1 ∨ i = 2 by omega) with rfl | rfl | rfl
    · skip
      have K24 := Lib.hid (fun W => offset_any r r.f o1 W HO1.out (by omega) (by omega))
      by_cases hq25 : p.q = o1
      · skip
        have EQhq25 := fun W => eqQ_in p.q o1 W
        rw [decide_eq_true hq25] at EQhq25
        have Hhq25 := Lib.hid hq25
        clear hq25
        go_wp2_with fail
        refine wp_named ?_
        intro W4 hW4
        have hL4 : Below wr23.heap.size wr23 W4 := by
          rw [hW4]
          repeat (first | with_reducible exact Below.refl _ _ | with_reducible refine bel_alloc ?_ _ | refine Below.setCell ?_ (by first | (simp; done) | (simp; omega) | omega) _)
        have c26 := b20.up hL4
        have c27 := b21.up hL4
        have hB28 : Below w.heap.size w W4 := by
          rw [hW4]
          repeat (first | with_reducible exact hB22 | with_reducible refine bel_alloc ?_ _ | refine Below.setCell ?_ (by first | (simp; done) | (simp; omega) | omega) _)
        clear hW4 hL4 b20 b21
        have dc26 := fun p : Bel W4 => c26.bel p; have dc27 := fun p : Bel W4 => c27.bel p
        simp only [At, Own, Nat.reduceAdd, and_true] at dc26 dc27
        refine wp_region_all (by kernel_rfl) (by kernel_rfl) ?_
        repeat (go_big_quiet_step (first | (go_at_call 78; with_reducible exact Calls.bel (K24.out _))))
        refine wpQuiet_nil ?_
        intro w4 hb4
        have c29 := c26.up hb4
        have c30 := c27.up hb4
        have hB31 : Below w.heap.size w w4 := bel_up hB28 hb4
        clear dc26 dc27 c26 c27
        have uc29 := c29; have uc30 := c30
        simp only [At, Own, Nat.reduceAdd, and_true] at uc29 uc30
        go_wp2
        go_ret2
        refine ⟨(by obtain ⟨rfl, rfl⟩ := atres_1 HA.out (by rw [← HO1.out]; exact Hhq25.out); rfl), ?_⟩
        repeat (first | with_reducible exact hB31 | with_reducible refine bel_alloc ?_ _ | refine Below.setCell ?_ (by first | (simp; done) | (simp; omega) | omega) _)
      · skip
        have EQhq25 := fun W => eqQ_in p.q o1 W
        rw [decide_eq_false hq25] at EQhq25
        have Hhq25 := Lib.hid hq25
        clear hq25
        go_wp2_with fail
        refine wp_named ?_
        intro W5 hW5
        have hL5 : Below wr23.heap.size wr23 W5 := by
          rw [hW5]
          repeat (first | with_reducible exact Below.refl _ _ | with_reducible refine bel_alloc ?_ _ | refine Below.setCell ?_ (by first | (simp; done) | (simp; omega) | omega) _)
        have c32 := b20.up hL5
        have c33 := b21.up hL5
        have hB34 : Below w.heap.size w W5 := by
          rw [hW5]
          repeat (first | with_reducible exact hB22 | with_reducible refine bel_alloc ?_ _ | refine Below.setCell ?_ (by first | (simp; done) | (simp; omega) | omega) _)
        clear hW5 hL5 b20 b21
        have dc32 := fun p : Bel W5 => c32.bel p; have dc33 := fun p : Bel W5 => c33.bel p
        simp only [At, Own, Nat.reduceAdd, and_true] at dc32 dc33
        refine wp_region_all (by kernel_rfl) (by kernel_rfl) ?_
        repeat (go_big_quiet_step (first | (go_at_call 78; with_reducible exact Calls.bel (K24.out _))))
        refine wpQuiet_nil ?_
        intro w5 hb5
        have c35 := c32.up hb5
        have c36 := c33.up hb5
        have hB37 : Below w.heap.size w w5 := bel_up hB34 hb5
        clear dc32 dc33 c32 c33
        have uc35 := c35; have uc36 := c36
        simp only [At, Own, Nat.reduceAdd, and_true] at uc35 uc36
        go_wp2
        go_roundw
        case rel => exact ⟨1, (by first | rfl | exact congrArg (Value.int .i64) (by omega) | simp [*]), (by repeat (first | with_reducible exact c35 | refine Own.far _ _ (by simp <;> omega) ?_ | with_reducible refine Own.alloc ?_ _)), (by repeat (first | with_reducible exact c36 | refine Own.far _ _ (by simp <;> omega) ?_ | with_reducible refine Own.alloc ?_ _)), (by repeat (first | with_reducible exact hB37 | with_reducible refine bel_alloc ?_ _ | refine Below.setCell ?_ (by first | (simp; done) | (simp; omega) | omega) _)), (by omega), Lib.hid (fun _ => Hhq25.out), Lib.hid (fun h_ => absurd h_ (by decide))⟩
        case measure => simp [intOf] <;> omega
    · skip
      have K38 := Lib.hid (fun W => offset_any r r.t o2 W HO2.out (by omega) (by omega))
      by_cases hq39 : p.q = o2
      · skip
        have EQhq39 := fun W => eqQ_in p.q o2 W
        rw [decide_eq_true hq39] at EQhq39
        have Hhq39 := Lib.hid hq39
        clear hq39
        go_wp2_with fail
        refine wp_named ?_
        intro W6 hW6
        have hL6 : Below wr23.heap.size wr23 W6 := by
          rw [hW6]
          repeat (first | with_reducible exact Below.refl _ _ | with_reducible refine bel_alloc ?_ _ | refine Below.setCell ?_ (by first | (simp; done) | (simp; omega) | omega) _)
        have c40 := b20.up hL6
        have c41 := b21.up hL6
        have hB42 : Below w.heap.size w W6 := by
          rw [hW6]
          repeat (first | with_reducible exact hB22 | with_reducible refine bel_alloc ?_ _ | refine Below.setCell ?_ (by first | (simp; done) | (simp; omega) | omega) _)
        clear hW6 hL6 b20 b21
        have dc40 := fun p : Bel W6 => c40.bel p; have dc41 := fun p : Bel W6 => c41.bel p
        simp only [At, Own, Nat.reduceAdd, and_true] at dc40 dc41
        refine wp_region_all (by kernel_rfl) (by kernel_rfl) ?_
        repeat (go_big_quiet_step (first | (go_at_call 78; with_reducible exact Calls.bel (K38.out _))))
        refine wpQuiet_nil ?_
        intro w6 hb6
        have c43 := c40.up hb6
        have c44 := c41.up hb6
        have hB45 : Below w.heap.size w w6 := bel_up hB42 hb6
        clear dc40 dc41 c40 c41
        have uc43 := c43; have uc44 := c44
        simp only [At, Own, Nat.reduceAdd, and_true] at uc43 uc44
        go_wp2
        go_ret2
        refine ⟨(by obtain ⟨rfl, rfl⟩ := atres_2 HA.out (by rw [← HO1.out]; exact HI1.out (by decide)) (by rw [← HO2.out]; exact Hhq39.out); rfl), ?_⟩
        repeat (first | with_reducible exact hB45 | with_reducible refine bel_alloc ?_ _ | refine Below.setCell ?_ (by first | (simp; done) | (simp; omega) | omega) _)
      · skip
        have EQhq39 := fun W => eqQ_in p.q o2 W
        rw [decide_eq_false hq39] at EQhq39
        have Hhq39 := Lib.hid hq39
        clear hq39
        go_wp2_with fail
        refine wp_named ?_
        intro W7 hW7
        have hL7 : Below wr23.heap.size wr23 W7 := by
          rw [hW7]
          repeat (first | with_reducible exact Below.refl _ _ | with_reducible refine bel_alloc ?_ _ | refine Below.setCell ?_ (by first | (simp; done) | (simp; omega) | omega) _)
        have c46 := b20.up hL7
        have c47 := b21.up hL7
        have hB48 : Below w.heap.size w W7 := by
          rw [hW7]
          repeat (first | with_reducible exact hB22 | with_reducible refine bel_alloc ?_ _ | refine Below.setCell ?_ (by first | (simp; done) | (simp; omega) | omega) _)
        clear hW7 hL7 b20 b21
        have dc46 := fun p : Bel W7 => c46.bel p; have dc47 := fun p : Bel W7 => c47.bel p
        simp only [At, Own, Nat.reduceAdd, and_true] at dc46 dc47
        refine wp_region_all (by kernel_rfl) (by kernel_rfl) ?_
        repeat (go_big_quiet_step (first | (go_at_call 78; with_reducible exact Calls.bel (K38.out _))))
        refine wpQuiet_nil ?_
        intro w7 hb7
        have c49 := c46.up hb7
        have c50 := c47.up hb7
        have hB51 : Below w.heap.size w w7 := bel_up hB48 hb7
        clear dc46 dc47 c46 c47
        have uc49 := c49; have uc50 := c50
        simp only [At, Own, Nat.reduceAdd, and_true] at uc49 uc50
        go_wp2
        go_roundw
        case rel => exact ⟨2, (by first | rfl | exact congrArg (Value.int .i64) (by omega) | simp [*]), (by repeat (first | with_reducible exact c49 | refine Own.far _ _ (by simp <;> omega) ?_ | with_reducible refine Own.alloc ?_ _)), (by repeat (first | with_reducible exact c50 | refine Own.far _ _ (by simp <;> omega) ?_ | with_reducible refine Own.alloc ?_ _)), (by repeat (first | with_reducible exact hB51 | with_reducible refine bel_alloc ?_ _ | refine Below.setCell ?_ (by first | (simp; done) | (simp; omega) | omega) _)), (by omega), Lib.hid (fun _ => HI1.out (by decide)), Lib.hid (fun _ => Hhq39.out)⟩
        case measure => simp [intOf] <;> omega
    · skip
      have ub20 := b20; have ub21 := b21
      simp only [At, Own, Nat.reduceAdd, and_true] at ub20 ub21
      go_wp2
      go_ret2
      refine ⟨(by obtain ⟨rfl, rfl⟩ := atres_3 HA.out (by rw [← HO1.out]; exact HI1.out (by decide)) (by rw [← HO2.out]; exact HI2.out (by decide)); rfl), ?_⟩
      repeat (first | with_reducible exact hB22 | with_reducible refine bel_alloc ?_ _ | refine Below.setCell ?_ (by first | (simp; done) | (simp; omega) | omega) _)

theorem fst_of {l : List Rd} {n : Int} {k : Nat} {x : Rd} (hx : l[k]? = some x) (h : offTo x n = true) (hb : ∀ (j : Nat) (y : Rd), j < k → l[j]? = some y → offTo y n = false) : fstR l n = some x := by
  obtain ⟨hk, rfl⟩ := List.getElem?_eq_some_iff.1 hx
  refine List.find?_eq_some_iff_getElem.2 ⟨h, k, hk, rfl, fun j hj => ?_⟩
  rw [hb j _ hj (List.getElem?_eq_getElem (by omega))]; rfl
theorem fst_none {l : List Rd} {n : Int} (hb : ∀ (j : Nat) (y : Rd), l[j]? = some y → offTo y n = false) : fstR l n = none := by
  refine List.find?_eq_none.2 fun x hx => ?_
  obtain ⟨j, hj, rfl⟩ := List.mem_iff_getElem.1 hx
  rw [hb j _ (List.getElem?_eq_getElem hj)]; simp

set_option maxRecDepth 100000 in
set_option maxHeartbeats 1000000 in
theorem nat_some (N : Net) (r : Rd) (oo : Rat) (a : Nd) (id : Int) (v : Value) (w : World) (h : NV w v N) (g : Vld N) (ha : fnd N.ns id = some a) (hf : fstR N.rs id = some r) (hoo : oo = offE r id) :
    Calls Tryz.prog 42 #[v, .int .i64 id] w fun e w' => e = .returned (.tuple #[.agg #[.int .i64 r.i, .bool (ng oo.num), .string (mg oo.num.natAbs), .bool false, .string (mg (dn oo))], .int .i64 0]) ∧ Below w.heap.size w w' := by
  have HA := Lib.hid ha
  have HF := Lib.hid hf
  clear ha hf
  have HOO := Lib.hid hoo
  clear hoo
  obtain ⟨_, _, rfl, hn, hr⟩ := h
  obtain ⟨An, cn, rfl, hcn, hmn, hxn⟩ := hn.open_
  obtain ⟨Ar, cr, rfl, hcr, hmr, hxr⟩ := hr.open_
  have HNV : Hid (NV w (.agg #[.slice An N.ns.length cn, .slice Ar N.rs.length cr]) N) := Lib.hid ⟨_, _, rfl, hn, hr⟩
  have HXN := Lib.hid hxn
  have HXR := Lib.hid hxr
  have HG := Lib.hid g
  have hln := g.ln
  have hlr := g.lr
  generalize hNn : N.ns.length = Nn at *
  generalize hNr : N.rs.length = Nr at *
  have HNn := Lib.hid hNn
  have HNr := Lib.hid hNr
  clear hn hr hxn hxr g hNn hNr
  go_enter Tryz.func42, Tryz.ntmps42
  have K1 := Lib.hid (fun W (hv : NV W (.agg #[.slice An Nn cn, .slice Ar Nr cr]) N) => node_some N a id _ W hv HG.out.half HA.out)
  go_wp2_with (fail)
  refine calls_named ?_
  intro W1 hW1
  have hL1 : Below w.heap.size w W1 := by
    rw [hW1]
    repeat (first | with_reducible exact Below.refl _ _ | with_reducible refine bel_alloc ?_ _ | refine Below.setCell ?_ (by first | (simp; done) | (simp; omega) | omega) _)
  have c2 : Own W1 (w.heap.size) 0 [.slice An Nn cn, .slice Ar Nr cr] := by
    rw [hW1]
    first
    | (repeat (first | (with_reducible refine own_new (l := [.slice An Nn cn, .slice Ar Nr cr]) ?_; (simp; done)) | with_reducible refine Own.alloc ?_ _ | refine Own.far _ _ (by first | (simp; done) | (simp [*]; done) | (simp; omega)) ?_)); done
    | simp [Own, go_sem]
  have c3 : Own W1 (w.heap.size + 1) 0 [.int .i64 0, .bool false, .string ⟨#[]⟩, .bool false, .string ⟨#[]⟩] := by
    rw [hW1]
    first
    | (repeat (first | (with_reducible refine own_new (l := [.int .i64 0, .bool false, .string ⟨#[]⟩, .bool false, .string ⟨#[]⟩]) ?_; (simp; done)) | with_reducible refine Own.alloc ?_ _ | refine Own.far _ _ (by first | (simp; done) | (simp [*]; done) | (simp; omega)) ?_)); done
    | simp [Own, go_sem]
  have hB4 : Below w.heap.size w W1 := by
    rw [hW1]
    repeat (first | with_reducible exact Below.refl _ _ | with_reducible refine bel_alloc ?_ _ | refine Below.setCell ?_ (by first | (simp; done) | (simp; omega) | omega) _)
  clear hW1 hL1
  with_reducible refine (K1.out _ (HNV.out.up hB4)).mono ?_
  rintro e w1 ⟨rfl, hb1⟩
  have c5 := c2.up hb1
  have c6 := c3.up hb1
  have hB7 : Below w.heap.size w w1 := bel_up hB4 hb1
  clear c2 c3
  have ne8_ : w.heap.size < w1.heap.size := by have := c5.lt; omega
  have ne8 := Nat.ne_of_lt ne8_
  have ne8' := ne8.symm
  have ne9_ : w.heap.size + 1 < w1.heap.size := by have := c6.lt; omega
  have ne9 := Nat.ne_of_lt ne9_
  have ne9' := ne9.symm
  have uc5 := c5; have uc6 := c6
  simp only [At, Own, Nat.reduceAdd, and_true] at uc5 uc6
  go_wp2_with fail
  refine wp_named ?_
  intro W2 hW2
  have hL2 : Below w1.heap.size w1 W2 := by
    rw [hW2]
    repeat (first | with_reducible exact Below.refl _ _ | with_reducible refine bel_alloc ?_ _ | refine Below.setCell ?_ (by first | (simp; done) | (simp; omega) | omega) _)
  have c10 := c6.up hL2
  have c11 : Own W2 (w1.heap.size) 0 [.int .i64 a.i, .int .i64 a.x, .int .i64 a.y] := by
    rw [hW2]
    first
    | (repeat (first | (with_reducible refine own_new (l := [.int .i64 a.i, .int .i64 a.x, .int .i64 a.y]) ?_; (simp; done)) | with_reducible refine Own.alloc ?_ _ | refine Own.far _ _ (by first | (simp; done) | (simp [*]; done) | (simp; omega)) ?_)); done
    | simp [Own, go_sem, uc5, uc6, ne8, ne8', ne8_, ne9, ne9', ne9_]
  have hB12 : Below w.heap.size w W2 := by
    rw [hW2]
    repeat (first | with_reducible exact hB7 | with_reducible refine bel_alloc ?_ _ | refine Below.setCell ?_ (by first | (simp; done) | (simp; omega) | omega) _)
  clear hW2 hL2 uc5 uc6 c6
  go_loopw [22] (fun s22 wr => ∃ (k : Nat), s22 = .int .i64 k ∧ Own wr (w.heap.size + 1) 0 [.int .i64 0, .bool false, .string ⟨#[]⟩, .bool false, .string ⟨#[]⟩] ∧ Below w.heap.size w wr ∧ k ≤ Nr ∧ Hid (∀ j y, j < k → N.rs[j]? = some y → offTo y id = false)) (fun s22 _ => Nr - (intOf s22).toNat)
  case atStart => exact ⟨0, rfl, c10, hB12, (by omega), Lib.hid (fun j _ h_ => absurd h_ (Nat.not_lt_zero _))⟩
  case round =>
    clear c10 hB12
    obtain ⟨k, rfl, b13, hB14, hk, HE⟩ := hrel
    obtain ⟨wr15, hwr15⟩ : ∃ W_, W_ = wr := ⟨_, rfl⟩
    subst hwr15
    by_cases hltk : k < Nr
    · skip
      have i1k : (k : Int) < Nr := by omega
      obtain ⟨x16, hx17⟩ : ∃ x, N.rs[k]? = some x := ⟨_, List.getElem?_eq_getElem (by rw [HNr.out]; omega)⟩
      have Hhx17 := Lib.hid hx17
      clear hx17
      have hxok := HG.out.or _ (List.mem_of_getElem? Hhx17.out)
      have hxl1 := hxok.2.2.1
      have hxl2 := hxok.2.2.2.1
      clear hxok
      obtain ⟨ox, hox⟩ : ∃ o : Rat, o = offE x16 id := ⟨_, rfl⟩
      have ZOX := off_sz hox (by omega) (by omega)
      have HOX := Lib.hid hox
      clear hox
      obtain ⟨g19, o20, ha21, -⟩ := (HXR.out).up kpR hB14 _ _ Hhx17.out
      subst ha21
      have ce18 := LX.at_ ((HXR.out).up kpR hB14) Hhx17.out
      have ce18_ : g19 < wr15.heap.size := World.block_lt_of_cell? _ _ ce18.1
      have uce18 := ce18
      simp only [CR, rdc, At, Nat.reduceMul] at uce18
      have ne22_ : w.heap.size + 1 < wr15.heap.size := by have := b13.lt; omega
      have ne22 := Nat.ne_of_lt ne22_
      have ne22' := ne22.symm
      have ub13 := b13
      simp only [At, Own, Nat.reduceAdd, and_true] at ub13
      by_cases hc23 : (x16.f : Int) = id
      · skip
        have hc23_ : (((x16.f : Int)) == id) = true := by simpa using hc23
        have Hhc23 := Lib.hid hc23
        clear hc23
        have K24 := Lib.hid (fun W => offset_any x16 id ox W HOX.out (by omega) (by omega))
        go_wp2_with fail
        refine wp_named ?_
        intro W3 hW3
        have hL3 : Below wr15.heap.size wr15 W3 := by
          rw [hW3]
          repeat (first | with_reducible exact Below.refl _ _ | with_reducible refine bel_alloc ?_ _ | refine Below.setCell ?_ (by first | (simp; done) | (simp; omega) | omega) _)
        have c25 := b13.up hL3
        have c26 : Own W3 (wr15.heap.size) 0 [.int .i64 x16.i, .int .i64 x16.f, .int .i64 x16.t, .int .i64 x16.l, .int .i64 x16.m, .bool x16.o] := by
          rw [hW3]
          first
          | (repeat (first | (with_reducible refine own_new (l := [.int .i64 x16.i, .int .i64 x16.f, .int .i64 x16.t, .int .i64 x16.l, .int .i64 x16.m, .bool x16.o]) ?_; (simp; done)) | with_reducible refine Own.alloc ?_ _ | refine Own.far _ _ (by first | (simp; done) | (simp [*]; done) | (simp; omega)) ?_)); done
          | simp [Own, go_sem, uce18, ub13, ne22, ne22', ne22_]
        have hB27 : Below w.heap.size w W3 := by
          rw [hW3]
          repeat (first | with_reducible exact hB14 | with_reducible refine bel_alloc ?_ _ | refine Below.setCell ?_ (by first | (simp; done) | (simp; omega) | omega) _)
        clear hW3 hL3 uce18 ub13 b13
        have dc25 := fun p : Bel W3 => c25.bel p; have dc26 := fun p : Bel W3 => c26.bel p
        simp only [At, Own, Nat.reduceAdd, and_true] at dc25 dc26
        refine wp_region_tail 6 (by kernel_rfl) (by kernel_rfl) ?_
        simp only [List.take_succ_cons, List.take_zero, List.drop_succ_cons, List.drop_zero]
        repeat (go_big_quiet_step (first | (go_at_call 78; with_reducible exact Calls.bel (K24.out _))))
        refine wpQuiet_nil ?_
        intro w3 hb3
        have c28 := c25.up hb3
        have c29 := c26.up hb3
        have hB30 : Below w.heap.size w w3 := bel_up hB27 hb3
        clear dc25 dc26 c25 c26
        have uc28 := c28; have uc29 := c29
        simp only [At, Own, Nat.reduceAdd, and_true] at uc28 uc29
        go_wp2
        refine bodyPost_ret (v := .tuple #[.agg #[.int .i64 x16.i, .bool (ng ox.num), .string (mg ox.num.natAbs), .bool false, .string (mg (dn ox))], .int .i64 0]) (by simp [results, Tryz.results42, go_sem, uc28, uc29]) rfl ⟨(by obtain rfl : r = x16 := (by have e_ := HF.out.symm.trans (fst_of Hhx17.out (by unfold offTo; simp [Hhc23.out]) HE.out); injection e_); have e2_ := HOO.out.trans HOX.out.symm; subst e2_; rfl), ?_⟩
        repeat (first | with_reducible exact hB30 | with_reducible refine bel_alloc ?_ _ | refine Below.setCell ?_ (by first | (simp; done) | (simp; omega) | omega) _)
      · skip
        have hc23_ : (((x16.f : Int)) == id) = false := by simpa using hc23
        by_cases hc31 : (x16.t : Int) = id
        · skip
          have hc31_ : (((x16.t : Int)) == id) = true := by simpa using hc31
          have Hhc31 := Lib.hid hc31
          clear hc31
          have K32 := Lib.hid (fun W => offset_any x16 id ox W HOX.out (by omega) (by omega))
          go_wp2_with fail
          refine wp_named ?_
          intro W4 hW4
          have hL4 : Below wr15.heap.size wr15 W4 := by
            rw [hW4]
            repeat (first | with_reducible exact Below.refl _ _ | with_reducible refine bel_alloc ?_ _ | refine Below.setCell ?_ (by first | (simp; done) | (simp; omega) | omega) _)
          have c33 := b13.up hL4
          have c34 : Own W4 (wr15.heap.size) 0 [.int .i64 x16.i, .int .i64 x16.f, .int .i64 x16.t, .int .i64 x16.l, .int .i64 x16.m, .bool x16.o] := by
            rw [hW4]
            first
            | (repeat (first | (with_reducible refine own_new (l := [.int .i64 x16.i, .int .i64 x16.f, .int .i64 x16.t, .int .i64 x16.l, .int .i64 x16.m, .bool x16.o]) ?_; (simp; done)) | with_reducible refine Own.alloc ?_ _ | refine Own.far _ _ (by first | (simp; done) | (simp [*]; done) | (simp; omega)) ?_)); done
            | simp [Own, go_sem, uce18, ub13, ne22, ne22', ne22_]
          have hB35 : Below w.heap.size w W4 := by
            rw [hW4]
            repeat (first | with_reducible exact hB14 | with_reducible refine bel_alloc ?_ _ | refine Below.setCell ?_ (by first | (simp; done) | (simp; omega) | omega) _)
          clear hW4 hL4 uce18 ub13 b13
          have dc33 := fun p : Bel W4 => c33.bel p; have dc34 := fun p : Bel W4 => c34.bel p
          simp only [At, Own, Nat.reduceAdd, and_true] at dc33 dc34
          refine wp_region_tail 6 (by kernel_rfl) (by kernel_rfl) ?_
          simp only [List.take_succ_cons, List.take_zero, List.drop_succ_cons, List.drop_zero]
          repeat (go_big_quiet_step (first | (go_at_call 78; with_reducible exact Calls.bel (K32.out _))))
          refine wpQuiet_nil ?_
          intro w4 hb4
          have c36 := c33.up hb4
          have c37 := c34.up hb4
          have hB38 : Below w.heap.size w w4 := bel_up hB35 hb4
          clear dc33 dc34 c33 c34
          have uc36 := c36; have uc37 := c37
          simp only [At, Own, Nat.reduceAdd, and_true] at uc36 uc37
          go_wp2
          refine bodyPost_ret (v := .tuple #[.agg #[.int .i64 x16.i, .bool (ng ox.num), .string (mg ox.num.natAbs), .bool false, .string (mg (dn ox))], .int .i64 0]) (by simp [results, Tryz.results42, go_sem, uc36, uc37]) rfl ⟨(by obtain rfl : r = x16 := (by have e_ := HF.out.symm.trans (fst_of Hhx17.out (by unfold offTo; simp [hc23, Hhc31.out]) HE.out); injection e_); have e2_ := HOO.out.trans HOX.out.symm; subst e2_; rfl), ?_⟩
          repeat (first | with_reducible exact hB38 | with_reducible refine bel_alloc ?_ _ | refine Below.setCell ?_ (by first | (simp; done) | (simp; omega) | omega) _)
        · skip
          have hc31_ : (((x16.t : Int)) == id) = false := by simpa using hc31
          go_wp2
          go_roundw
          case rel => exact ⟨(k + 1), (by first | rfl | exact congrArg (Value.int .i64) (by omega) | simp [*]), (by repeat (first | with_reducible exact b13 | refine Own.far _ _ (by simp <;> omega) ?_ | with_reducible refine Own.alloc ?_ _)), (by repeat (first | with_reducible exact hB14 | with_reducible refine bel_alloc ?_ _ | refine Below.setCell ?_ (by first | (simp; done) | (simp; omega) | omega) _)), (by omega), Lib.hid (fun j y hj hy => if e_ : j = k then (by subst e_; have := Hhx17.out.symm.trans hy; injection this with this; subst this; exact (by unfold offTo; simp [hc23, hc31])) else HE.out j y (by omega) hy)⟩
          case measure => simp [intOf] <;> omega
    · skip
      have hkN : Nr = k := by omega
      subst hkN
      exact absurd (HF.out.symm.trans (fst_none fun j y hy => HE.out j y (by have := (List.getElem?_eq_some_iff.1 hy).1; rw [HNr.out] at this; omega) hy)) (by simp)

end Go.Proofs.YtldfencaoaikgaaGreatDoor
