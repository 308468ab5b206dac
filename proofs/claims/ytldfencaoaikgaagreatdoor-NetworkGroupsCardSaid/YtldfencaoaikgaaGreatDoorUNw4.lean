/-
  Contracts of package network: the first error of a network.
-/
import Derived.Test.YtldfencaoaikgaaGreatDoorUNa
import Derived.Deep.RegionHeld3
import Derived.Deep.DeepCutAuto
set_option linter.unusedSimpArgs false
set_option linter.unusedVariables false
namespace Go.Proofs.YtldfencaoaikgaaGreatDoor
open Go Go.RowKit Nw

theorem node_any (N : Net) (id : Int) (a : Nd) (b : Bool) (v : Value) (w : World) (h : NV w v N) (g : Half N) (hr : NRes N id a b) :
    Calls Tryz.prog 29 #[v, .int .i64 id] w fun e w' => e = .returned (.tuple #[.agg #[.int .i64 a.i, .int .i64 a.x, .int .i64 a.y], .bool b]) ∧ Below w.heap.size w w' := by
  rcases hr with ⟨rfl, hf⟩ | ⟨rfl, hf, rfl⟩
  · exact node_some N a id v w h g hf
  · exact node_none N id v w h g hf

set_option maxRecDepth 100000 in
set_option maxHeartbeats 2000000 in
theorem croad_any (N : Net) (x : Rd) (v : Value) (w : World) (h : NV w v N) (g : Half N) :
    Calls Tryz.prog 55 #[v, .agg #[.int .i64 x.i, .int .i64 x.f, .int .i64 x.t, .int .i64 x.l, .int .i64 x.m, .bool x.o]] w fun e w' => e = .returned (.int .i64 (roadE N.ns x)) ∧ Below w.heap.size w w' := by
  obtain ⟨a, ba, hra⟩ := nres_ex N x.f
  obtain ⟨b, bb, hrb⟩ := nres_ex N x.t
  obtain ⟨a1, a2, a3, a4⟩ := hra.bd g
  obtain ⟨b1, b2, b3, b4⟩ := hrb.bd g
  have dx1 : IntKind.i64.wrap (a.x - b.x) = a.x - b.x := by simp [IntKind.wrap, IntKind.bits, IntKind.signed]; omega
  have dx2 : wrap64 (a.x - b.x) = a.x - b.x := by unfold wrap64; omega
  have dy1 : IntKind.i64.wrap (a.y - b.y) = a.y - b.y := by simp [IntKind.wrap, IntKind.bits, IntKind.signed]; omega
  have dy2 : wrap64 (a.y - b.y) = a.y - b.y := by unfold wrap64; omega
  obtain ⟨sx1, sx2⟩ := sq_bd (x := a.x - b.x) (by omega) (by omega)
  obtain ⟨sy1, sy2⟩ := sq_bd (x := a.y - b.y) (by omega) (by omega)
  have HRA := Lib.hid hra
  have HRB := Lib.hid hrb
  clear hra hrb
  obtain ⟨_, _, rfl, hn, hr⟩ := h
  obtain ⟨An, cn, rfl, hcn, hmn, hxn⟩ := hn.open_
  obtain ⟨Ar, cr, rfl, hcr, hmr, hxr⟩ := hr.open_
  have HNV : Hid (NV w (.agg #[.slice An N.ns.length cn, .slice Ar N.rs.length cr]) N) := Lib.hid ⟨_, _, rfl, hn, hr⟩
  have HXN := Lib.hid hxn
  have HXR := Lib.hid hxr
  have HG := Lib.hid g
  have hln := g.ln
  have hlr := g.lr
  generalize hNn : N.ns.length = Nn at *
  generalize hNr : N.rs.length = Nr at *
  have HNn := Lib.hid hNn
  have HNr := Lib.hid hNr
  clear hn hr hxn hxr g hNn hNr
  go_enter Tryz.func55, Tryz.ntmps55
  have K1 := Lib.hid (fun W (hv : NV W (.agg #[.slice An Nn cn, .slice Ar Nr cr]) N) => node_any N x.f a ba _ W hv HG.out HRA.out)
  go_wp2_with (fail)
  refine calls_named ?_
  intro W1 hW1
  have hL1 : Below w.heap.size w W1 := by
    rw [hW1]
    repeat (first | with_reducible exact Below.refl _ _ | with_reducible refine bel_alloc ?_ _ | refine Below.setCell ?_ (by first | (simp; done) | (simp; omega) | omega) _)
  have c2 : Own W1 (w.heap.size) 0 [.slice An Nn cn, .slice Ar Nr cr] := by
    rw [hW1]
    first
    | (repeat (first | (with_reducible refine own_new (l := [.slice An Nn cn, .slice Ar Nr cr]) ?_; (simp; done)) | with_reducible refine Own.alloc ?_ _ | refine Own.far _ _ (by first | (simp; done) | (simp [*]; done) | (simp; omega)) ?_)); done
    | simp [Own, go_sem]
  have c3 : Own W1 (w.heap.size + 1) 0 [.int .i64 x.i, .int .i64 x.f, .int .i64 x.t, .int .i64 x.l, .int .i64 x.m, .bool x.o] := by
    rw [hW1]
    first
    | (repeat (first | (with_reducible refine own_new (l := [.int .i64 x.i, .int .i64 x.f, .int .i64 x.t, .int .i64 x.l, .int .i64 x.m, .bool x.o]) ?_; (simp; done)) | with_reducible refine Own.alloc ?_ _ | refine Own.far _ _ (by first | (simp; done) | (simp [*]; done) | (simp; omega)) ?_)); done
    | simp [Own, go_sem]
  have hB4 : Below w.heap.size w W1 := by
    rw [hW1]
    repeat (first | with_reducible exact Below.refl _ _ | with_reducible refine bel_alloc ?_ _ | refine Below.setCell ?_ (by first | (simp; done) | (simp; omega) | omega) _)
  clear hW1 hL1
  with_reducible refine (K1.out _ (HNV.out.up hB4)).mono ?_
  rintro e w1 ⟨rfl, hb1⟩
  have c5 := c2.up hb1
  have c6 := c3.up hb1
  have hB7 : Below w.heap.size w w1 := bel_up hB4 hb1
  clear c2 c3
  have ne8_ : w.heap.size < w1.heap.size := by have := c5.lt; omega
  have ne8 := Nat.ne_of_lt ne8_
  have ne8' := ne8.symm
  have ne9_ : w.heap.size + 1 < w1.heap.size := by have := c6.lt; omega
  have ne9 := Nat.ne_of_lt ne9_
  have ne9' := ne9.symm
  have uc5 := c5; have uc6 := c6
  simp only [At, Own, Nat.reduceAdd, and_true] at uc5 uc6
  have K10 := Lib.hid (fun W (hv : NV W (.agg #[.slice An Nn cn, .slice Ar Nr cr]) N) => node_any N x.t b bb _ W hv HG.out HRB.out)
  go_wp2_with (fail)
  refine calls_named ?_
  intro W2 hW2
  have hL2 : Below w1.heap.size w1 W2 := by
    rw [hW2]
    repeat (first | with_reducible exact Below.refl _ _ | with_reducible refine bel_alloc ?_ _ | refine Below.setCell ?_ (by first | (simp; done) | (simp; omega) | omega) _)
  have c11 := c5.up hL2
  have c12 := c6.up hL2
  have c13 : Own W2 (w1.heap.size) 0 [.int .i64 a.i, .int .i64 a.x, .int .i64 a.y] := by
    rw [hW2]
    first
    | (repeat (first | (with_reducible refine own_new (l := [.int .i64 a.i, .int .i64 a.x, .int .i64 a.y]) ?_; (simp; done)) | with_reducible refine Own.alloc ?_ _ | refine Own.far _ _ (by first | (simp; done) | (simp [*]; done) | (simp; omega)) ?_)); done
    | simp [Own, go_sem, uc5, uc6, ne8, ne8', ne8_, ne9, ne9', ne9_]
  have hB14 : Below w.heap.size w W2 := by
    rw [hW2]
    repeat (first | with_reducible exact hB7 | with_reducible refine bel_alloc ?_ _ | refine Below.setCell ?_ (by first | (simp; done) | (simp; omega) | omega) _)
  clear hW2 hL2 uc5 uc6 c5 c6
  with_reducible refine (K10.out _ (HNV.out.up hB14)).mono ?_
  rintro e w2 ⟨rfl, hb2⟩
  have c15 := c11.up hb2
  have c16 := c12.up hb2
  have c17 := c13.up hb2
  have hB18 : Below w.heap.size w w2 := bel_up hB14 hb2
  clear c11 c12 c13
  have ne19_ : w.heap.size < w2.heap.size := by have := c15.lt; omega
  have ne19 := Nat.ne_of_lt ne19_
  have ne19' := ne19.symm
  have ne20_ : w.heap.size + 1 < w2.heap.size := by have := c16.lt; omega
  have ne20 := Nat.ne_of_lt ne20_
  have ne20' := ne20.symm
  have ne21_ : w1.heap.size < w2.heap.size := by have := c17.lt; omega
  have ne21 := Nat.ne_of_lt ne21_
  have ne21' := ne21.symm
  have uc15 := c15; have uc16 := c16; have uc17 := c17
  simp only [At, Own, Nat.reduceAdd, and_true] at uc15 uc16 uc17
  go_upto_region 3 with fail
  refine wp_named ?_
  intro W3 hW3
  have hL3 : Below w2.heap.size w2 W3 := by
    rw [hW3]
    repeat (first | with_reducible exact Below.refl _ _ | with_reducible refine bel_alloc ?_ _ | refine Below.setCell ?_ (by first | (simp; done) | (simp; omega) | omega) _)
  have c22 := c15.up hL3
  have c23 := c16.up hL3
  have c24 := c17.up hL3
  have c25 : Own W3 (w2.heap.size) 0 [.int .i64 b.i, .int .i64 b.x, .int .i64 b.y] := by
    rw [hW3]
    first
    | (repeat (first | (with_reducible refine own_new (l := [.int .i64 b.i, .int .i64 b.x, .int .i64 b.y]) ?_; (simp; done)) | with_reducible refine Own.alloc ?_ _ | refine Own.far _ _ (by first | (simp; done) | (simp [*]; done) | (simp; omega)) ?_)); done
    | simp [Own, go_sem, uc15, uc16, uc17, ne19, ne19', ne19_, ne20, ne20', ne20_, ne21, ne21', ne21_]
  have hB26 : Below w.heap.size w W3 := by
    rw [hW3]
    repeat (first | with_reducible exact hB18 | with_reducible refine bel_alloc ?_ _ | refine Below.setCell ?_ (by first | (simp; done) | (simp; omega) | omega) _)
  clear hW3 hL3 uc15 uc16 uc17 c15 c16 c17
  have HSS27 : ∀ w' : World, Below W3.heap.size W3 w' → (w'.cell? ⟨w.heap.size, 0, none⟩ = some (.slice An Nn cn) ∧ w'.cell? ⟨w.heap.size, 1, none⟩ = some (.slice Ar Nr cr) ∧ w'.cell? ⟨w.heap.size + 1, 0, none⟩ = some (.int .i64 x.i) ∧ w'.cell? ⟨w.heap.size + 1, 1, none⟩ = some (.int .i64 x.f) ∧ w'.cell? ⟨w.heap.size + 1, 2, none⟩ = some (.int .i64 x.t) ∧ w'.cell? ⟨w.heap.size + 1, 3, none⟩ = some (.int .i64 x.l) ∧ w'.cell? ⟨w.heap.size + 1, 4, none⟩ = some (.int .i64 x.m) ∧ w'.cell? ⟨w.heap.size + 1, 5, none⟩ = some (.bool x.o) ∧ w'.cell? ⟨w1.heap.size, 0, none⟩ = some (.int .i64 a.i) ∧ w'.cell? ⟨w1.heap.size, 1, none⟩ = some (.int .i64 a.x) ∧ w'.cell? ⟨w1.heap.size, 2, none⟩ = some (.int .i64 a.y) ∧ w'.cell? ⟨w2.heap.size, 0, none⟩ = some (.int .i64 b.i) ∧ w'.cell? ⟨w2.heap.size, 1, none⟩ = some (.int .i64 b.x) ∧ w'.cell? ⟨w2.heap.size, 2, none⟩ = some (.int .i64 b.y)) := fun w' hb => by
    have qc22 := c22.up hb; have qc23 := c23.up hb; have qc24 := c24.up hb; have qc25 := c25.up hb
    simp only [At, Own, CE, CS, Nat.reduceAdd, Nat.reduceMul, Nat.zero_mul, Nat.add_zero, Nat.add_assoc, and_true] at qc22 qc23 qc24 qc25
    try simp only [Nat.add_assoc, Nat.reduceAdd]
    simp [*]
  go_cut [9, 10] (fun x9 x10 wx => x9 = .int .i64 (a.x - b.x) ∧ x10 = .int .i64 (a.y - b.y) ∧ Below W3.heap.size W3 wx)
  case first =>
    have hu := HSS27 W3 (Below.refl _ _)
    go_region_held3 (fun w' => w'.cell? ⟨w.heap.size, 0, none⟩ = some (.slice An Nn cn) ∧ w'.cell? ⟨w.heap.size, 1, none⟩ = some (.slice Ar Nr cr) ∧ w'.cell? ⟨w.heap.size + 1, 0, none⟩ = some (.int .i64 x.i) ∧ w'.cell? ⟨w.heap.size + 1, 1, none⟩ = some (.int .i64 x.f) ∧ w'.cell? ⟨w.heap.size + 1, 2, none⟩ = some (.int .i64 x.t) ∧ w'.cell? ⟨w.heap.size + 1, 3, none⟩ = some (.int .i64 x.l) ∧ w'.cell? ⟨w.heap.size + 1, 4, none⟩ = some (.int .i64 x.m) ∧ w'.cell? ⟨w.heap.size + 1, 5, none⟩ = some (.bool x.o) ∧ w'.cell? ⟨w1.heap.size, 0, none⟩ = some (.int .i64 a.i) ∧ w'.cell? ⟨w1.heap.size, 1, none⟩ = some (.int .i64 a.x) ∧ w'.cell? ⟨w1.heap.size, 2, none⟩ = some (.int .i64 a.y) ∧ w'.cell? ⟨w2.heap.size, 0, none⟩ = some (.int .i64 b.i) ∧ w'.cell? ⟨w2.heap.size, 1, none⟩ = some (.int .i64 b.x) ∧ w'.cell? ⟨w2.heap.size, 2, none⟩ = some (.int .i64 b.y)) (refine HSS27 _ ?_ <;> (repeat (first | with_reducible exact Below.refl _ _ | with_reducible refine bel_alloc ?_ _ | with_reducible refine Below.drew ?_ | (refine Below.setCell ?_ (by first | (simp; done) | (simp; omega) | omega) _) | with_reducible refine bel_up ?_ (by with_reducible assumption)))) (first
      | fail)
    all_goals
      go_wp2_with fail
      go_meet
      refine ⟨rfl, rfl, ?_⟩
      · (repeat (first | with_reducible exact Below.refl _ _ | with_reducible refine bel_alloc ?_ _ | with_reducible refine Below.drew ?_ | (refine Below.setCell ?_ (by first | (simp; done) | (simp; omega) | omega) _) | with_reducible refine bel_up ?_ (by with_reducible assumption)))
  case rest =>
    obtain ⟨rfl, rfl, hbz3⟩ := hcut
    obtain ⟨wz3, hwz3⟩ : ∃ W_, W_ = wc := ⟨_, rfl⟩
    subst hwz3
    clear HSS27
    have c28 := c22.up hbz3
    have c29 := c23.up hbz3
    have c30 := c24.up hbz3
    have c31 := c25.up hbz3
    have hB32 : Below w.heap.size w wz3 := bel_up hB26 hbz3
    clear c22 c23 c24 c25
    cases ba
    · skip
      have uc28 := c28; have uc29 := c29; have uc30 := c30; have uc31 := c31
      simp only [At, Own, Nat.reduceAdd, and_true] at uc28 uc29 uc30 uc31
      go_wp2
      go_ret
      refine ⟨(by rw [roadE_no1 HRA.out] <;> rfl), ?_⟩
      repeat (first | with_reducible exact hB32 | with_reducible refine bel_alloc ?_ _ | refine Below.setCell ?_ (by first | (simp; done) | (simp; omega) | omega) _)
    · skip
      cases bb
      · skip
        have uc28 := c28; have uc29 := c29; have uc30 := c30; have uc31 := c31
        simp only [At, Own, Nat.reduceAdd, and_true] at uc28 uc29 uc30 uc31
        go_wp2
        go_ret
        refine ⟨(by rw [roadE_no2 HRB.out] <;> rfl), ?_⟩
        repeat (first | with_reducible exact hB32 | with_reducible refine bel_alloc ?_ _ | refine Below.setCell ?_ (by first | (simp; done) | (simp; omega) | omega) _)
      · skip
        have uc28 := c28; have uc29 := c29; have uc30 := c30; have uc31 := c31
        simp only [At, Own, Nat.reduceAdd, and_true] at uc28 uc29 uc30 uc31
        by_cases hc33 : (x.f : Int) = x.t
        · skip
          go_wp2
          go_ret
          refine ⟨(by rw [roadE_yes HRA.out HRB.out]; congr 2; unfold roadX; (repeat' split) <;> first | rfl | omega), ?_⟩
          repeat (first | with_reducible exact hB32 | with_reducible refine bel_alloc ?_ _ | refine Below.setCell ?_ (by first | (simp; done) | (simp; omega) | omega) _)
        · skip
          have hc33_ : (((x.f : Int)) == x.t) = false := by simpa using hc33
          by_cases hc34 : (x.m : Int) < 1
          · skip
            have hc34_ : ¬ ((1 : Int) ≤ x.m) := by omega
            go_wp2
            go_ret
            refine ⟨(by rw [roadE_yes HRA.out HRB.out]; congr 2; unfold roadX; (repeat' split) <;> first | rfl | omega), ?_⟩
            repeat (first | with_reducible exact hB32 | with_reducible refine bel_alloc ?_ _ | refine Below.setCell ?_ (by first | (simp; done) | (simp; omega) | omega) _)
          · skip
            have hc34_ : ((1 : Int) ≤ x.m) := by omega
            by_cases hc35 : (1048576 : Int) < x.m
            · skip
              have hc35_ : ¬ ((x.m : Int) ≤ 1048576) := by omega
              go_wp2
              go_ret
              refine ⟨(by rw [roadE_yes HRA.out HRB.out]; congr 2; unfold roadX; (repeat' split) <;> first | rfl | omega), ?_⟩
              repeat (first | with_reducible exact hB32 | with_reducible refine bel_alloc ?_ _ | refine Below.setCell ?_ (by first | (simp; done) | (simp; omega) | omega) _)
            · skip
              have hc35_ : ((x.m : Int) ≤ 1048576) := by omega
              by_cases hc36 : (x.l : Int) < 1
              · skip
                have hc36_ : ¬ ((1 : Int) ≤ x.l) := by omega
                go_wp2
                go_ret
                refine ⟨(by rw [roadE_yes HRA.out HRB.out]; congr 2; unfold roadX; (repeat' split) <;> first | rfl | omega), ?_⟩
                repeat (first | with_reducible exact hB32 | with_reducible refine bel_alloc ?_ _ | refine Below.setCell ?_ (by first | (simp; done) | (simp; omega) | omega) _)
              · skip
                have hc36_ : ((1 : Int) ≤ x.l) := by omega
                by_cases hc37 : (1073741824 : Int) < x.l
                · skip
                  have hc37_ : ¬ ((x.l : Int) ≤ 1073741824) := by omega
                  go_wp2
                  go_ret
                  refine ⟨(by rw [roadE_yes HRA.out HRB.out]; congr 2; unfold roadX; (repeat' split) <;> first | rfl | omega), ?_⟩
                  repeat (first | with_reducible exact hB32 | with_reducible refine bel_alloc ?_ _ | refine Below.setCell ?_ (by first | (simp; done) | (simp; omega) | omega) _)
                · skip
                  have hc37_ : ((x.l : Int) ≤ 1073741824) := by omega
                  obtain ⟨sq1, sq2⟩ := sq_bd2 (x := x.l) (by omega) (by omega)
                  by_cases hc38 : ((x.l * x.l) : Int) < (((a.x - b.x) * (a.x - b.x)) + ((a.y - b.y) * (a.y - b.y)))
                  · skip
                    have hc38_ : ¬ (((((a.x - b.x) * (a.x - b.x)) + ((a.y - b.y) * (a.y - b.y))) : Int) ≤ (x.l * x.l)) := by omega
                    go_wp2
                    go_ret
                    refine ⟨(by rw [roadE_yes HRA.out HRB.out]; congr 2; unfold roadX; (repeat' split) <;> first | rfl | omega), ?_⟩
                    repeat (first | with_reducible exact hB32 | with_reducible refine bel_alloc ?_ _ | refine Below.setCell ?_ (by first | (simp; done) | (simp; omega) | omega) _)
                  · skip
                    have hc38_ : (((((a.x - b.x) * (a.x - b.x)) + ((a.y - b.y) * (a.y - b.y))) : Int) ≤ (x.l * x.l)) := by omega
                    go_wp2
                    go_ret
                    refine ⟨(by rw [roadE_yes HRA.out HRB.out]; congr 2; unfold roadX; (repeat' split) <;> first | rfl | omega), ?_⟩
                    repeat (first | with_reducible exact hB32 | with_reducible refine bel_alloc ?_ _ | refine Below.setCell ?_ (by first | (simp; done) | (simp; omega) | omega) _)

set_option maxRecDepth 100000 in
set_option maxHeartbeats 2000000 in
theorem ncheck_any (N : Net) (v : Value) (w : World) (h : NV w v N) :
    Calls Tryz.prog 14 #[v] w fun e w' => e = .returned (.int .i64 (checkE N)) ∧ Below w.heap.size w w' := by
  obtain ⟨_, _, rfl, hn, hr⟩ := h
  obtain ⟨An, cn, rfl, hcn, hmn, hxn⟩ := hn.open_
  obtain ⟨Ar, cr, rfl, hcr, hmr, hxr⟩ := hr.open_
  have HNV : Hid (NV w (.agg #[.slice An N.ns.length cn, .slice Ar N.rs.length cr]) N) := Lib.hid ⟨_, _, rfl, hn, hr⟩
  have HXN := Lib.hid hxn
  have HXR := Lib.hid hxr
  generalize hNn : N.ns.length = Nn at *
  generalize hNr : N.rs.length = Nr at *
  have HNn := Lib.hid hNn
  have HNr := Lib.hid hNr
  clear hn hr hxn hxr hNn hNr
  go_enter Tryz.func14, Tryz.ntmps14
  by_cases hc1 : (256 : Int) < Nn
  · skip
    have hc1_ : ¬ ((Nn : Int) ≤ 256) := by omega
    go_wp2
    go_ret
    refine ⟨(by unfold checkE; rw [if_pos (by rw [HNn.out, HNr.out]; omega)] <;> rfl), ?_⟩
    repeat (first | with_reducible exact Below.refl _ _ | with_reducible refine bel_alloc ?_ _ | refine Below.setCell ?_ (by first | (simp; done) | (simp; omega) | omega) _)
  · skip
    have hc1_ : ((Nn : Int) ≤ 256) := by omega
    by_cases hc2 : (1024 : Int) < Nr
    · skip
      have hc2_ : ¬ ((Nr : Int) ≤ 1024) := by omega
      go_wp2
      go_ret
      refine ⟨(by unfold checkE; rw [if_pos (by rw [HNn.out, HNr.out]; omega)] <;> rfl), ?_⟩
      repeat (first | with_reducible exact Below.refl _ _ | with_reducible refine bel_alloc ?_ _ | refine Below.setCell ?_ (by first | (simp; done) | (simp; omega) | omega) _)
    · skip
      have hc2_ : ((Nr : Int) ≤ 1024) := by omega
      go_wp2_with fail
      refine wp_named ?_
      intro W1 hW1
      have hL1 : Below w.heap.size w W1 := by
        rw [hW1]
        repeat (first | with_reducible exact Below.refl _ _ | with_reducible refine bel_alloc ?_ _ | refine Below.setCell ?_ (by first | (simp; done) | (simp; omega) | omega) _)
      have c3 : Own W1 (w.heap.size) 0 [.slice An Nn cn, .slice Ar Nr cr] := by
        rw [hW1]
        first
        | (repeat (first | (with_reducible refine own_new (l := [.slice An Nn cn, .slice Ar Nr cr]) ?_; (simp; done)) | with_reducible refine Own.alloc ?_ _ | refine Own.far _ _ (by first | (simp; done) | (simp [*]; done) | (simp; omega)) ?_)); done
        | simp [Own, go_sem]
      have hB4 : Below w.heap.size w W1 := by
        rw [hW1]
        repeat (first | with_reducible exact Below.refl _ _ | with_reducible refine bel_alloc ?_ _ | refine Below.setCell ?_ (by first | (simp; done) | (simp; omega) | omega) _)
      clear hW1 hL1
      go_loopw [3, 24] (fun s3 s24 wr => ∃ (k : Nat) (b : Int), s3 = .int .i64 b ∧ s24 = .int .i64 k ∧ Own wr (w.heap.size) 0 [.slice An Nn cn, .slice Ar Nr cr] ∧ Below w.heap.size w wr ∧ k ≤ Nn ∧ Hid (nodesE (N.ns.drop k) b = nodesE N.ns 0)) (fun _ s24 _ => Nn - (intOf s24).toNat)
      case atStart => exact ⟨0, 0, rfl, rfl, c3, hB4, (by omega), Lib.hid rfl⟩
      case round =>
        clear c3 hB4
        obtain ⟨k, b, rfl, rfl, b5, hB6, hk, HE⟩ := hrel
        obtain ⟨wr7, hwr7⟩ : ∃ W_, W_ = wr := ⟨_, rfl⟩
        subst hwr7
        by_cases hltk : k < Nn
        · skip
          have i1k : (k : Int) < Nn := by omega
          obtain ⟨x8, hx9⟩ : ∃ x, N.ns[k]? = some x := ⟨_, List.getElem?_eq_getElem (by rw [HNn.out]; omega)⟩
          have Hhx9 := Lib.hid hx9
          clear hx9
          have HT := Lib.hid (nodesE_get (b := b) Hhx9.out)
          have kK10 := fun W => nwide_any x8.x W
          generalize hT12 : wide x8.x = b11 at kK10
          have K10 := Lib.hid kK10
          clear kK10
          have HhT12 := Lib.hid hT12
          clear hT12
          have kK13 := fun W => nwide_any x8.y W
          generalize hT15 : wide x8.y = b14 at kK13
          have K13 := Lib.hid kK13
          clear kK13
          have HhT15 := Lib.hid hT15
          clear hT15
          obtain ⟨g17, o18, ha19, -⟩ := (HXN.out).up kpN hB6 _ _ Hhx9.out
          subst ha19
          have ce16 := LX.at_ ((HXN.out).up kpN hB6) Hhx9.out
          have ce16_ : g17 < wr7.heap.size := World.block_lt_of_cell? _ _ ce16.1
          have uce16 := ce16
          simp only [CN, ndc, At, Nat.reduceMul] at uce16
          have ne20_ : w.heap.size < wr7.heap.size := by have := b5.lt; omega
          have ne20 := Nat.ne_of_lt ne20_
          have ne20' := ne20.symm
          have ub5 := b5
          simp only [At, Own, Nat.reduceAdd, and_true] at ub5
          have K21 := Lib.hid (fun W => nid_any x8.i b W)
          go_wp2_with (fail)
          refine calls_named ?_
          intro W2 hW2
          have hL2 : Below wr7.heap.size wr7 W2 := by
            rw [hW2]
            repeat (first | with_reducible exact Below.refl _ _ | with_reducible refine bel_alloc ?_ _ | refine Below.setCell ?_ (by first | (simp; done) | (simp; omega) | omega) _)
          have c22 := b5.up hL2
          have c23 : Own W2 (wr7.heap.size) 0 [.int .i64 x8.i, .int .i64 x8.x, .int .i64 x8.y] := by
            rw [hW2]
            first
            | (repeat (first | (with_reducible refine own_new (l := [.int .i64 x8.i, .int .i64 x8.x, .int .i64 x8.y]) ?_; (simp; done)) | with_reducible refine Own.alloc ?_ _ | refine Own.far _ _ (by first | (simp; done) | (simp [*]; done) | (simp; omega)) ?_)); done
            | simp [Own, go_sem, uce16, ub5, ne20, ne20', ne20_]
          have hB24 : Below w.heap.size w W2 := by
            rw [hW2]
            repeat (first | with_reducible exact hB6 | with_reducible refine bel_alloc ?_ _ | refine Below.setCell ?_ (by first | (simp; done) | (simp; omega) | omega) _)
          clear hW2 hL2 uce16 ub5 b5
          with_reducible refine (K21.out _).mono ?_
          rintro e w2 ⟨rfl, hb2⟩
          have c25 := c22.up hb2
          have c26 := c23.up hb2
          have hB27 : Below w.heap.size w w2 := bel_up hB24 hb2
          clear c22 c23
          by_cases hc28 : ((idE x8.i b) : Int) = 0
          · skip
            cases b11
            · skip
              have uc25 := c25; have uc26 := c26
              simp only [At, Own, Nat.reduceAdd, and_true] at uc25 uc26
              go_wp2_with (fail)
              refine calls_named ?_
              intro W4 hW4
              have hL4 : Below w2.heap.size w2 W4 := by
                rw [hW4]
                repeat (first | with_reducible exact Below.refl _ _ | with_reducible refine bel_alloc ?_ _ | refine Below.setCell ?_ (by first | (simp; done) | (simp; omega) | omega) _)
              have c35 := c25.up hL4
              have c36 := c26.up hL4
              have hB37 : Below w.heap.size w W4 := by
                rw [hW4]
                repeat (first | with_reducible exact hB27 | with_reducible refine bel_alloc ?_ _ | refine Below.setCell ?_ (by first | (simp; done) | (simp; omega) | omega) _)
              clear hW4 hL4 uc25 uc26 c25 c26
              with_reducible refine (K10.out _).mono ?_
              rintro e w4 ⟨rfl, hb4⟩
              have c38 := c35.up hb4
              have c39 := c36.up hb4
              have hB40 : Below w.heap.size w w4 := bel_up hB37 hb4
              clear c35 c36
              have uc38 := c38; have uc39 := c39
              simp only [At, Own, Nat.reduceAdd, and_true] at uc38 uc39
              go_wp2_with (fail)
              refine calls_named ?_
              intro W5 hW5
              have hL5 : Below w4.heap.size w4 W5 := by
                rw [hW5]
                repeat (first | with_reducible exact Below.refl _ _ | with_reducible refine bel_alloc ?_ _ | refine Below.setCell ?_ (by first | (simp; done) | (simp; omega) | omega) _)
              have c41 := c38.up hL5
              have c42 := c39.up hL5
              have hB43 : Below w.heap.size w W5 := by
                rw [hW5]
                repeat (first | with_reducible exact hB40 | with_reducible refine bel_alloc ?_ _ | refine Below.setCell ?_ (by first | (simp; done) | (simp; omega) | omega) _)
              clear hW5 hL5 uc38 uc39 c38 c39
              with_reducible refine (K13.out _).mono ?_
              rintro e w5 ⟨rfl, hb5⟩
              have c44 := c41.up hb5
              have c45 := c42.up hb5
              have hB46 : Below w.heap.size w w5 := bel_up hB43 hb5
              clear c41 c42
              cases b14
              · skip
                have uc44 := c44; have uc45 := c45
                simp only [At, Own, Nat.reduceAdd, and_true] at uc44 uc45
                go_wp2
                go_roundw
                case rel => exact ⟨(k + 1), x8.i, (by first | rfl | exact congrArg (Value.int .i64) (by omega) | simp [*]), (by first | rfl | exact congrArg (Value.int .i64) (by omega) | simp [*]), (by repeat (first | with_reducible exact c44 | refine Own.far _ _ (by simp <;> omega) ?_ | with_reducible refine Own.alloc ?_ _)), (by repeat (first | with_reducible exact hB46 | with_reducible refine bel_alloc ?_ _ | refine Below.setCell ?_ (by first | (simp; done) | (simp; omega) | omega) _)), (by omega), Lib.hid (by rw [← HE.out, HT.out, if_neg (Classical.not_not.2 (by assumption)), if_neg (by simp only [HhT12.out, HhT15.out]; decide)])⟩
                case measure => simp [intOf] <;> omega
              · skip
                have uc44 := c44; have uc45 := c45
                simp only [At, Own, Nat.reduceAdd, and_true] at uc44 uc45
                go_wp2
                go_ret
                refine ⟨(by rw [chk_nodes (by rw [HNn.out, HNr.out]; omega) (HE.out.symm.trans (HT.out.trans (by rw [if_neg (Classical.not_not.2 (by assumption)), if_pos (by simp only [HhT12.out, HhT15.out]; rfl)]))) (by decide)] <;> rfl), ?_⟩
                repeat (first | with_reducible exact hB46 | with_reducible refine bel_alloc ?_ _ | refine Below.setCell ?_ (by first | (simp; done) | (simp; omega) | omega) _)
            · skip
              have uc25 := c25; have uc26 := c26
              simp only [At, Own, Nat.reduceAdd, and_true] at uc25 uc26
              go_wp2_with (fail)
              refine calls_named ?_
              intro W6 hW6
              have hL6 : Below w2.heap.size w2 W6 := by
                rw [hW6]
                repeat (first | with_reducible exact Below.refl _ _ | with_reducible refine bel_alloc ?_ _ | refine Below.setCell ?_ (by first | (simp; done) | (simp; omega) | omega) _)
              have c47 := c25.up hL6
              have c48 := c26.up hL6
              have hB49 : Below w.heap.size w W6 := by
                rw [hW6]
                repeat (first | with_reducible exact hB27 | with_reducible refine bel_alloc ?_ _ | refine Below.setCell ?_ (by first | (simp; done) | (simp; omega) | omega) _)
              clear hW6 hL6 uc25 uc26 c25 c26
              with_reducible refine (K10.out _).mono ?_
              rintro e w6 ⟨rfl, hb6⟩
              have c50 := c47.up hb6
              have c51 := c48.up hb6
              have hB52 : Below w.heap.size w w6 := bel_up hB49 hb6
              clear c47 c48
              have uc50 := c50; have uc51 := c51
              simp only [At, Own, Nat.reduceAdd, and_true] at uc50 uc51
              go_wp2
              go_ret
              refine ⟨(by rw [chk_nodes (by rw [HNn.out, HNr.out]; omega) (HE.out.symm.trans (HT.out.trans (by rw [if_neg (Classical.not_not.2 (by assumption)), if_pos (by simp only [HhT12.out, HhT15.out]; rfl)]))) (by decide)] <;> rfl), ?_⟩
              repeat (first | with_reducible exact hB52 | with_reducible refine bel_alloc ?_ _ | refine Below.setCell ?_ (by first | (simp; done) | (simp; omega) | omega) _)
          · skip
            have hc28_ : ((((idE x8.i b) : Int)) == 0) = false := by simpa using hc28
            have uc25 := c25; have uc26 := c26
            simp only [At, Own, Nat.reduceAdd, and_true] at uc25 uc26
            go_wp2
            go_ret
            refine ⟨(by rw [chk_nodes (by rw [HNn.out, HNr.out]; omega) (HE.out.symm.trans (HT.out.trans (if_pos hc28))) hc28] <;> rfl), ?_⟩
            repeat (first | with_reducible exact hB27 | with_reducible refine bel_alloc ?_ _ | refine Below.setCell ?_ (by first | (simp; done) | (simp; omega) | omega) _)
        · skip
          have hkN : Nn = k := by omega
          subst hkN
          have H0 : Hid (nodesE N.ns 0 = 0) := Lib.hid (by rw [← HE.out, List.drop_of_length_le (by rw [HNn.out]; omega)]; rfl)
          have HH : Hid (Half N) := Lib.hid (half_of (by rw [HNn.out]; omega) (by rw [HNr.out]; omega) H0.out)
          have ub5 := b5
          simp only [At, Own, Nat.reduceAdd, and_true] at ub5
          go_wp2_with fail
          go_loopw [3, 49] (fun s3 s49 wr => ∃ (j : Nat) (b2 : Int), s3 = .int .i64 b2 ∧ s49 = .int .i64 j ∧ Own wr (w.heap.size) 0 [.slice An Nn cn, .slice Ar Nr cr] ∧ Below w.heap.size w wr ∧ j ≤ Nr ∧ Hid (roadsE N.ns (N.rs.drop j) b2 = roadsE N.ns N.rs 0)) (fun _ s49 _ => Nr - (intOf s49).toNat)
          case atStart => exact ⟨0, 0, rfl, rfl, b5, hB6, (by omega), Lib.hid rfl⟩
          case round =>
            clear b5 hB6 ub5
            obtain ⟨j, b2, rfl, rfl, b53, hB54, hj, HE2⟩ := hrel
            obtain ⟨wr55, hwr55⟩ : ∃ W_, W_ = wr := ⟨_, rfl⟩
            subst hwr55
            by_cases hltj : j < Nr
            · skip
              have i1j : (j : Int) < Nr := by omega
              obtain ⟨x56, hx57⟩ : ∃ x, N.rs[j]? = some x := ⟨_, List.getElem?_eq_getElem (by rw [HNr.out]; omega)⟩
              have Hhx57 := Lib.hid hx57
              clear hx57
              have HT := Lib.hid (roadsE_get (ns := N.ns) (b := b2) Hhx57.out)
              obtain ⟨g59, o60, ha61, -⟩ := (HXR.out).up kpR hB54 _ _ Hhx57.out
              subst ha61
              have ce58 := LX.at_ ((HXR.out).up kpR hB54) Hhx57.out
              have ce58_ : g59 < wr55.heap.size := World.block_lt_of_cell? _ _ ce58.1
              have uce58 := ce58
              simp only [CR, rdc, At, Nat.reduceMul] at uce58
              have ne62_ : w.heap.size < wr55.heap.size := by have := b53.lt; omega
              have ne62 := Nat.ne_of_lt ne62_
              have ne62' := ne62.symm
              have ub53 := b53
              simp only [At, Own, Nat.reduceAdd, and_true] at ub53
              have K63 := Lib.hid (fun W => nid_any x56.i b2 W)
              go_wp2_with (fail)
              refine calls_named ?_
              intro W7 hW7
              have hL7 : Below wr55.heap.size wr55 W7 := by
                rw [hW7]
                repeat (first | with_reducible exact Below.refl _ _ | with_reducible refine bel_alloc ?_ _ | refine Below.setCell ?_ (by first | (simp; done) | (simp; omega) | omega) _)
              have c64 := b53.up hL7
              have c65 : Own W7 (wr55.heap.size) 0 [.int .i64 x56.i, .int .i64 x56.f, .int .i64 x56.t, .int .i64 x56.l, .int .i64 x56.m, .bool x56.o] := by
                rw [hW7]
                first
                | (repeat (first | (with_reducible refine own_new (l := [.int .i64 x56.i, .int .i64 x56.f, .int .i64 x56.t, .int .i64 x56.l, .int .i64 x56.m, .bool x56.o]) ?_; (simp; done)) | with_reducible refine Own.alloc ?_ _ | refine Own.far _ _ (by first | (simp; done) | (simp [*]; done) | (simp; omega)) ?_)); done
                | simp [Own, go_sem, uce58, ub53, ne62, ne62', ne62_]
              have hB66 : Below w.heap.size w W7 := by
                rw [hW7]
                repeat (first | with_reducible exact hB54 | with_reducible refine bel_alloc ?_ _ | refine Below.setCell ?_ (by first | (simp; done) | (simp; omega) | omega) _)
              clear hW7 hL7 uce58 ub53 b53
              with_reducible refine (K63.out _).mono ?_
              rintro e w7 ⟨rfl, hb7⟩
              have c67 := c64.up hb7
              have c68 := c65.up hb7
              have hB69 : Below w.heap.size w w7 := bel_up hB66 hb7
              clear c64 c65
              by_cases hc70 : ((idE x56.i b2) : Int) = 0
              · skip
                have uc67 := c67; have uc68 := c68
                simp only [At, Own, Nat.reduceAdd, and_true] at uc67 uc68
                have K71 := Lib.hid (fun W (hv : NV W (.agg #[.slice An Nn cn, .slice (some ⟨g59, o60, none⟩) Nr cr]) N) => croad_any N x56 _ W hv HH.out)
                go_wp2_with (fail)
                refine calls_named ?_
                intro W8 hW8
                have hL8 : Below w7.heap.size w7 W8 := by
                  rw [hW8]
                  repeat (first | with_reducible exact Below.refl _ _ | with_reducible refine bel_alloc ?_ _ | refine Below.setCell ?_ (by first | (simp; done) | (simp; omega) | omega) _)
                have c72 := c67.up hL8
                have c73 := c68.up hL8
                have hB74 : Below w.heap.size w W8 := by
                  rw [hW8]
                  repeat (first | with_reducible exact hB69 | with_reducible refine bel_alloc ?_ _ | refine Below.setCell ?_ (by first | (simp; done) | (simp; omega) | omega) _)
                clear hW8 hL8 uc67 uc68 c67 c68
                with_reducible refine (K71.out _ (HNV.out.up hB74)).mono ?_
                rintro e w8 ⟨rfl, hb8⟩
                have c75 := c72.up hb8
                have c76 := c73.up hb8
                have hB77 : Below w.heap.size w w8 := bel_up hB74 hb8
                clear c72 c73
                by_cases hc78 : ((roadE N.ns x56) : Int) = 0
                · skip
                  have uc75 := c75; have uc76 := c76
                  simp only [At, Own, Nat.reduceAdd, and_true] at uc75 uc76
                  go_wp2
                  go_roundw
                  case rel => exact ⟨(j + 1), x56.i, (by first | rfl | exact congrArg (Value.int .i64) (by omega) | simp [*]), (by first | rfl | exact congrArg (Value.int .i64) (by omega) | simp [*]), (by repeat (first | with_reducible exact c75 | refine Own.far _ _ (by simp <;> omega) ?_ | with_reducible refine Own.alloc ?_ _)), (by repeat (first | with_reducible exact hB77 | with_reducible refine bel_alloc ?_ _ | refine Below.setCell ?_ (by first | (simp; done) | (simp; omega) | omega) _)), (by omega), Lib.hid (by rw [← HE2.out, HT.out, if_neg (Classical.not_not.2 (by assumption)), if_neg (Classical.not_not.2 (by assumption))])⟩
                  case measure => simp [intOf] <;> omega
                · skip
                  have hc78_ : ((((roadE N.ns x56) : Int)) == 0) = false := by simpa using hc78
                  have uc75 := c75; have uc76 := c76
                  simp only [At, Own, Nat.reduceAdd, and_true] at uc75 uc76
                  go_wp2
                  go_ret
                  refine ⟨(by rw [chk_roads (by rw [HNn.out, HNr.out]; omega) H0.out, ← HE2.out, HT.out]; rw [if_neg (Classical.not_not.2 (by assumption)), if_pos hc78] <;> rfl), ?_⟩
                  repeat (first | with_reducible exact hB77 | with_reducible refine bel_alloc ?_ _ | refine Below.setCell ?_ (by first | (simp; done) | (simp; omega) | omega) _)
              · skip
                have hc70_ : ((((idE x56.i b2) : Int)) == 0) = false := by simpa using hc70
                have uc67 := c67; have uc68 := c68
                simp only [At, Own, Nat.reduceAdd, and_true] at uc67 uc68
                go_wp2
                go_ret
                refine ⟨(by rw [chk_roads (by rw [HNn.out, HNr.out]; omega) H0.out, ← HE2.out, HT.out]; rw [if_pos hc70] <;> rfl), ?_⟩
                repeat (first | with_reducible exact hB69 | with_reducible refine bel_alloc ?_ _ | refine Below.setCell ?_ (by first | (simp; done) | (simp; omega) | omega) _)
            · skip
              have hkN : Nr = j := by omega
              subst hkN
              have H1 : Hid (roadsE N.ns N.rs 0 = 0) := Lib.hid (by rw [← HE2.out, List.drop_of_length_le (by rw [HNr.out]; omega)]; rfl)
              have ub53 := b53
              simp only [At, Own, Nat.reduceAdd, and_true] at ub53
              go_wp2
              go_ret
              refine ⟨(by rw [chk_roads (by rw [HNn.out, HNr.out]; omega) H0.out, H1.out] <;> rfl), ?_⟩
              repeat (first | with_reducible exact hB54 | with_reducible refine bel_alloc ?_ _ | refine Below.setCell ?_ (by first | (simp; done) | (simp; omega) | omega) _)
end Go.Proofs.YtldfencaoaikgaaGreatDoor
