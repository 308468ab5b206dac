/-
  Contracts of package network: the ends beside a position.
-/
import Derived.Test.YtldfencaoaikgaaGreatDoorUNw7
import Derived.Test.YtldfencaoaikgaaGreatDoorUNb
set_option linter.unusedSimpArgs false
set_option linter.unusedVariables false
namespace Go.Proofs.YtldfencaoaikgaaGreatDoor
open Go Go.RowKit Nw

set_option maxRecDepth 100000 in
theorem ends_on (N : Net) (r : Rd) (p : Pc) (k : Int) (a b : Bool) (v : Value) (w : World) (h : NV w v N) (g : Vld N) (hr : frd N.rs p.r = some r) (hq : Pl.Sz 2000 p.q) (hp : placeE N p = 0) (ha : AtRes r p.q k true) :
    Calls Tryz.prog 73 #[v, .agg #[.int .i64 p.r, .bool (ng p.q.num), .string (mg p.q.num.natAbs), .bool false, .string (mg (dn p.q))], .bool a, .bool b] w fun e w' => ∃ v', e = .returned (.tuple #[v', .int .i64 0]) ∧ EL w' v' ([En.mk k (0 : Rat)]) ∧ Below w.heap.size w w' := by
  have HR := Lib.hid hr
  have HP := Lib.hid hp
  have HA := Lib.hid ha
  clear hr hp ha
  obtain ⟨_, _, rfl, hn, hr⟩ := h
  obtain ⟨An, cn, rfl, hcn, hmn, hxn⟩ := hn.open_
  obtain ⟨Ar, cr, rfl, hcr, hmr, hxr⟩ := hr.open_
  have HNV : Hid (NV w (.agg #[.slice An N.ns.length cn, .slice Ar N.rs.length cr]) N) := Lib.hid ⟨_, _, rfl, hn, hr⟩
  have HXN := Lib.hid hxn
  have HXR := Lib.hid hxr
  have HG := Lib.hid g
  have hln := g.ln
  have hlr := g.lr
  generalize hNn : N.ns.length = Nn at *
  generalize hNr : N.rs.length = Nr at *
  have HNn := Lib.hid hNn
  have HNr := Lib.hid hNr
  clear hn hr hxn hxr g hNn hNr
  go_enter Tryz.func73, Tryz.ntmps73
  have K1 := Lib.hid (fun W (hv : NV W (.agg #[.slice An Nn cn, .slice Ar Nr cr]) N) => cplace_any N p _ W hv HG.out hq 0 HP.out)
  go_wp2_with (fail)
  refine calls_named ?_
  intro W1 hW1
  have hL1 : Below w.heap.size w W1 := by
    rw [hW1]
    repeat (first | with_reducible exact Below.refl _ _ | with_reducible refine bel_alloc ?_ _ | refine Below.setCell ?_ (by first | (simp; done) | (simp; omega) | omega) _)
  have c2 : Own W1 (w.heap.size) 0 [.slice An Nn cn, .slice Ar Nr cr] := by
    rw [hW1]
    first
    | (repeat (first | (with_reducible refine own_new (l := [.slice An Nn cn, .slice Ar Nr cr]) ?_; (simp; done)) | with_reducible refine Own.alloc ?_ _ | refine Own.far _ _ (by first | (simp; done) | (simp [*]; done) | (simp; omega)) ?_)); done
    | simp [Own, go_sem]
  have c3 : Own W1 (w.heap.size + 1) 0 [.int .i64 p.r, .bool (ng p.q.num), .string (mg p.q.num.natAbs), .bool false, .string (mg (dn p.q))] := by
    rw [hW1]
    first
    | (repeat (first | (with_reducible refine own_new (l := [.int .i64 p.r, .bool (ng p.q.num), .string (mg p.q.num.natAbs), .bool false, .string (mg (dn p.q))]) ?_; (simp; done)) | with_reducible refine Own.alloc ?_ _ | refine Own.far _ _ (by first | (simp; done) | (simp [*]; done) | (simp; omega)) ?_)); done
    | simp [Own, go_sem]
  have hB4 : Below w.heap.size w W1 := by
    rw [hW1]
    repeat (first | with_reducible exact Below.refl _ _ | with_reducible refine bel_alloc ?_ _ | refine Below.setCell ?_ (by first | (simp; done) | (simp; omega) | omega) _)
  clear hW1 hL1
  with_reducible refine (K1.out _ (HNV.out.up hB4)).mono ?_
  rintro e w1 ⟨rfl, hb1⟩
  have c5 := c2.up hb1
  have c6 := c3.up hb1
  have hB7 : Below w.heap.size w w1 := bel_up hB4 hb1
  clear c2 c3
  have uc5 := c5; have uc6 := c6
  simp only [At, Own, Nat.reduceAdd, and_true] at uc5 uc6
  have K8 := Lib.hid (fun W (hv : NV W (.agg #[.slice An Nn cn, .slice Ar Nr cr]) N) => nodeat_any N r p k true _ W hv HG.out HR.out hq HP.out HA.out)
  go_wp2_with (fail)
  refine calls_named ?_
  intro W2 hW2
  have hL2 : Below w1.heap.size w1 W2 := by
    rw [hW2]
    repeat (first | with_reducible exact Below.refl _ _ | with_reducible refine bel_alloc ?_ _ | refine Below.setCell ?_ (by first | (simp; done) | (simp; omega) | omega) _)
  have c9 := c5.up hL2
  have c10 := c6.up hL2
  have hB11 : Below w.heap.size w W2 := by
    rw [hW2]
    repeat (first | with_reducible exact hB7 | with_reducible refine bel_alloc ?_ _ | refine Below.setCell ?_ (by first | (simp; done) | (simp; omega) | omega) _)
  clear hW2 hL2 uc5 uc6 c5 c6
  with_reducible refine (K8.out _ (HNV.out.up hB11)).mono ?_
  rintro e w2 ⟨rfl, hb2⟩
  have c12 := c9.up hb2
  have c13 := c10.up hb2
  have hB14 : Below w.heap.size w w2 := bel_up hB11 hb2
  clear c9 c10
  have uc12 := c12; have uc13 := c13
  simp only [At, Own, Nat.reduceAdd, and_true] at uc12 uc13
  go_wp2
  go_ret2
  exact ⟨_, rfl, (by skip; exact el_one _ (En.mk k (0 : Rat))), (by repeat (first | with_reducible exact hB14 | with_reducible refine bel_alloc ?_ _ | refine Below.setCell ?_ (by first | (simp; done) | (simp; omega) | omega) _))⟩

set_option maxRecDepth 100000 in
set_option maxHeartbeats 1000000 in
theorem ends_ft (N : Net) (r : Rd) (p : Pc) (k : Int) (v : Value) (w : World) (h : NV w v N) (g : Vld N) (hr : frd N.rs p.r = some r) (hq : Pl.Sz 2000 p.q) (hp : placeE N p = 0) (ha : AtRes r p.q k false) :
    Calls Tryz.prog 73 #[v, .agg #[.int .i64 p.r, .bool (ng p.q.num), .string (mg p.q.num.natAbs), .bool false, .string (mg (dn p.q))], .bool true, .bool true] w fun e w' => ∃ v', e = .returned (.tuple #[v', .int .i64 0]) ∧ EL w' v' (sortE [(En.mk r.f p.q), (En.mk r.t ((r.l : Rat) - p.q))]) ∧ Below w.heap.size w w' := by
  have hrok := g.or r (frd_of hr).1
  have hl1 := hrok.2.2.1
  have hl2 := hrok.2.2.2.1
  have HR := Lib.hid hr
  have HROK := Lib.hid hrok
  obtain ⟨ql, hql⟩ : ∃ q : Rat, q = (r.l : Rat) := ⟨_, rfl⟩
  have ZQL : Pl.Sz 4 ql := by rw [hql]; exact sz_small (by omega) (by omega)
  have HQL := Lib.hid hql
  clear hr hql hrok
  have HP := Lib.hid hp
  have HA := Lib.hid ha
  have HNE : Hid (r.f ≠ r.t) := Lib.hid HROK.out.2.2.2.2.2.2.1
  clear hp ha
  obtain ⟨_, _, rfl, hn, hr⟩ := h
  obtain ⟨An, cn, rfl, hcn, hmn, hxn⟩ := hn.open_
  obtain ⟨Ar, cr, rfl, hcr, hmr, hxr⟩ := hr.open_
  have HNV : Hid (NV w (.agg #[.slice An N.ns.length cn, .slice Ar N.rs.length cr]) N) := Lib.hid ⟨_, _, rfl, hn, hr⟩
  have HXN := Lib.hid hxn
  have HXR := Lib.hid hxr
  have HG := Lib.hid g
  have hln := g.ln
  have hlr := g.lr
  generalize hNn : N.ns.length = Nn at *
  generalize hNr : N.rs.length = Nr at *
  have HNn := Lib.hid hNn
  have HNr := Lib.hid hNr
  clear hn hr hxn hxr g hNn hNr
  go_enter Tryz.func73, Tryz.ntmps73
  have K1 := Lib.hid (fun W (hv : NV W (.agg #[.slice An Nn cn, .slice Ar Nr cr]) N) => cplace_any N p _ W hv HG.out hq 0 HP.out)
  go_wp2_with (fail)
  refine calls_named ?_
  intro W1 hW1
  have hL1 : Below w.heap.size w W1 := by
    rw [hW1]
    repeat (first | with_reducible exact Below.refl _ _ | with_reducible refine bel_alloc ?_ _ | refine Below.setCell ?_ (by first | (simp; done) | (simp; omega) | omega) _)
  have c2 : Own W1 (w.heap.size) 0 [.slice An Nn cn, .slice Ar Nr cr] := by
    rw [hW1]
    first
    | (repeat (first | (with_reducible refine own_new (l := [.slice An Nn cn, .slice Ar Nr cr]) ?_; (simp; done)) | with_reducible refine Own.alloc ?_ _ | refine Own.far _ _ (by first | (simp; done) | (simp [*]; done) | (simp; omega)) ?_)); done
    | simp [Own, go_sem]
  have c3 : Own W1 (w.heap.size + 1) 0 [.int .i64 p.r, .bool (ng p.q.num), .string (mg p.q.num.natAbs), .bool false, .string (mg (dn p.q))] := by
    rw [hW1]
    first
    | (repeat (first | (with_reducible refine own_new (l := [.int .i64 p.r, .bool (ng p.q.num), .string (mg p.q.num.natAbs), .bool false, .string (mg (dn p.q))]) ?_; (simp; done)) | with_reducible refine Own.alloc ?_ _ | refine Own.far _ _ (by first | (simp; done) | (simp [*]; done) | (simp; omega)) ?_)); done
    | simp [Own, go_sem]
  have hB4 : Below w.heap.size w W1 := by
    rw [hW1]
    repeat (first | with_reducible exact Below.refl _ _ | with_reducible refine bel_alloc ?_ _ | refine Below.setCell ?_ (by first | (simp; done) | (simp; omega) | omega) _)
  clear hW1 hL1
  with_reducible refine (K1.out _ (HNV.out.up hB4)).mono ?_
  rintro e w1 ⟨rfl, hb1⟩
  have c5 := c2.up hb1
  have c6 := c3.up hb1
  have hB7 : Below w.heap.size w w1 := bel_up hB4 hb1
  clear c2 c3
  have uc5 := c5; have uc6 := c6
  simp only [At, Own, Nat.reduceAdd, and_true] at uc5 uc6
  have K8 := Lib.hid (fun W (hv : NV W (.agg #[.slice An Nn cn, .slice Ar Nr cr]) N) => nodeat_any N r p k false _ W hv HG.out HR.out hq HP.out HA.out)
  go_wp2_with (fail)
  refine calls_named ?_
  intro W2 hW2
  have hL2 : Below w1.heap.size w1 W2 := by
    rw [hW2]
    repeat (first | with_reducible exact Below.refl _ _ | with_reducible refine bel_alloc ?_ _ | refine Below.setCell ?_ (by first | (simp; done) | (simp; omega) | omega) _)
  have c9 := c5.up hL2
  have c10 := c6.up hL2
  have hB11 : Below w.heap.size w W2 := by
    rw [hW2]
    repeat (first | with_reducible exact hB7 | with_reducible refine bel_alloc ?_ _ | refine Below.setCell ?_ (by first | (simp; done) | (simp; omega) | omega) _)
  clear hW2 hL2 uc5 uc6 c5 c6
  with_reducible refine (K8.out _ (HNV.out.up hB11)).mono ?_
  rintro e w2 ⟨rfl, hb2⟩
  have c12 := c9.up hb2
  have c13 := c10.up hb2
  have hB14 : Below w.heap.size w w2 := bel_up hB11 hb2
  clear c9 c10
  have uc12 := c12; have uc13 := c13
  simp only [At, Own, Nat.reduceAdd, and_true] at uc12 uc13
  have K15 := Lib.hid (fun W (hv : NV W (.agg #[.slice An Nn cn, .slice Ar Nr cr]) N) => road_some N r p.r _ W hv HG.out HR.out)
  go_wp2_with (fail)
  refine calls_named ?_
  intro W3 hW3
  have hL3 : Below w2.heap.size w2 W3 := by
    rw [hW3]
    repeat (first | with_reducible exact Below.refl _ _ | with_reducible refine bel_alloc ?_ _ | refine Below.setCell ?_ (by first | (simp; done) | (simp; omega) | omega) _)
  have c16 := c12.up hL3
  have c17 := c13.up hL3
  have hB18 : Below w.heap.size w W3 := by
    rw [hW3]
    repeat (first | with_reducible exact hB14 | with_reducible refine bel_alloc ?_ _ | refine Below.setCell ?_ (by first | (simp; done) | (simp; omega) | omega) _)
  clear hW3 hL3 uc12 uc13 c12 c13
  with_reducible refine (K15.out _ (HNV.out.up hB18)).mono ?_
  rintro e w3 ⟨rfl, hb3⟩
  have c19 := c16.up hb3
  have c20 := c17.up hb3
  have hB21 : Below w.heap.size w w3 := bel_up hB18 hb3
  clear c16 c17
  have ne22_ : w.heap.size < w3.heap.size := by have := c19.lt; omega
  have ne22 := Nat.ne_of_lt ne22_
  have ne22' := ne22.symm
  have ne23_ : w.heap.size + 1 < w3.heap.size := by have := c20.lt; omega
  have ne23 := Nat.ne_of_lt ne23_
  have ne23' := ne23.symm
  have uc19 := c19; have uc20 := c20
  simp only [At, Own, Nat.reduceAdd, and_true] at uc19 uc20
  go_upto_region 10 with fail
  refine wp_named ?_
  intro W4 hW4
  have hL4 : Below w3.heap.size w3 W4 := by
    rw [hW4]
    repeat (first | with_reducible exact Below.refl _ _ | with_reducible refine bel_alloc ?_ _ | refine Below.setCell ?_ (by first | (simp; done) | (simp; omega) | omega) _)
  have c24 := c19.up hL4
  have c25 := c20.up hL4
  have c26 : Own W4 (w3.heap.size) 0 [.int .i64 r.i, .int .i64 r.f, .int .i64 r.t, .int .i64 r.l, .int .i64 r.m, .bool r.o] := by
    rw [hW4]
    first
    | (repeat (first | (with_reducible refine own_new (l := [.int .i64 r.i, .int .i64 r.f, .int .i64 r.t, .int .i64 r.l, .int .i64 r.m, .bool r.o]) ?_; (simp; done)) | with_reducible refine Own.alloc ?_ _ | refine Own.far _ _ (by first | (simp; done) | (simp [*]; done) | (simp; omega)) ?_)); done
    | simp [Own, go_sem, uc19, uc20, ne22, ne22', ne22_, ne23, ne23', ne23_]
  have hB27 : Below w.heap.size w W4 := by
    rw [hW4]
    repeat (first | with_reducible exact hB21 | with_reducible refine bel_alloc ?_ _ | refine Below.setCell ?_ (by first | (simp; done) | (simp; omega) | omega) _)
  clear hW4 hL4 uc19 uc20 c19 c20
  have uc24 := c24; have uc25 := c25; have uc26 := c26
  simp only [At, Own, Nat.reduceAdd, and_true] at uc24 uc25 uc26
  go_wp2_with (at_builtin; refine wpList_appF rfl _ _ _ rfl ti_en (World.ownsRow_nil _ w.heap.size _ _) (hB27).size rfl rfl rfl rfl (etc_one (En.mk r.f p.q)) (by omega) (by decide) ?_)
  intro v28 w_v28 hown_v28 hst_v28
  have O30 : Hid (w_v28.ownsRow w.heap.size 98 5 v28 (0 + 1) (ens [(En.mk r.f p.q)])) := Lib.hid (by first | exact hown_v28 | simpa [ens] using hown_v28)
  have c31 := Own.step hst_v28 (by simp [Value.ownBlock]) c24
  have f32 := hst_v28.far _ c24.lt (by simp [Value.ownBlock])
  have c33 := Own.step hst_v28 (by simp [Value.ownBlock]) c25
  have f34 := hst_v28.far _ c25.lt (by simp [Value.ownBlock])
  have c35 := Own.step hst_v28 (by simp [Value.ownBlock]) c26
  have f36 := hst_v28.far _ c26.lt (by simp [Value.ownBlock])
  have hB37 : Below w.heap.size w w_v28 := hst_v28.below hB27 (hB27).size (fun r hr => by simp [Value.ownBlock] at hr)
  clear uc24 uc25 uc26 hown_v28 c24 c25 c26
  have K38 := Lib.hid (fun W => qfi_any r.l ql W HQL.out (by omega) (by omega))
  have K39 := Lib.hid (fun W => qsub_any ql p.q W (ZQL.mono (by decide)) (hq.mono (by decide)))
  go_wp2_with fail
  refine wp_named ?_
  intro W5 hW5
  have hL5 : Below w_v28.heap.size w_v28 W5 := by
    rw [hW5]
    repeat (first | with_reducible exact Below.refl _ _ | with_reducible refine bel_alloc ?_ _ | refine Below.setCell ?_ (by first | (simp; done) | (simp; omega) | omega) _)
  have c40 := c31.up hL5
  have c41 := c33.up hL5
  have c42 := c35.up hL5
  have O43 := Lib.hid (owns_up O30.out hL5)
  have hB44 : Below w.heap.size w W5 := by
    rw [hW5]
    repeat (first | with_reducible exact hB37 | with_reducible refine bel_alloc ?_ _ | refine Below.setCell ?_ (by first | (simp; done) | (simp; omega) | omega) _)
  clear hW5 hL5 c31 c33 c35
  have dc40 := fun p : Bel W5 => c40.bel p; have dc41 := fun p : Bel W5 => c41.bel p; have dc42 := fun p : Bel W5 => c42.bel p
  simp only [At, Own, Nat.reduceAdd, and_true] at dc40 dc41 dc42
  refine wp_region_tail1 9 (.tmp 15) (by kernel_rfl) (by kernel_rfl) rfl rfl (fun _ _ _ h => h) ?_
  simp only [List.take_succ_cons, List.take_zero, List.drop_succ_cons, List.drop_zero]
  go_simp
  repeat (go_big_quiet_step (first | (go_at_call 37; with_reducible exact Calls.bel (K38.out _)) | (go_at_call 75; with_reducible exact Calls.bel (K39.out _))))
  refine wpQuiet_nil ?_
  intro w5 hb5
  have c45 := c40.up hb5
  have c46 := c41.up hb5
  have c47 := c42.up hb5
  have O48 := Lib.hid (owns_up O43.out hb5)
  have hB49 : Below w.heap.size w w5 := bel_up hB44 hb5
  clear dc40 dc41 dc42 c40 c41 c42 O43
  have uc45 := c45; have uc46 := c46; have uc47 := c47
  simp only [At, Own, Nat.reduceAdd, and_true] at uc45 uc46 uc47
  go_wp2_with (at_builtin; refine wpList_appF rfl _ _ _ rfl ti_en O48.out (hB49).size rfl rfl rfl rfl (etc_one (En.mk r.t (ql - p.q))) (by omega) (by decide) ?_)
  intro v50 w_v50 hown_v50 hst_v50
  have O52 : Hid (w_v50.ownsRow w.heap.size 98 5 v50 (1 + 1) (ens ([(En.mk r.f p.q)] ++ [(En.mk r.t (ql - p.q))]))) := Lib.hid (by rw [ens_snoc]; exact hown_v50)
  have c53 := Own.step hst_v50 f32 c45
  have f54 := hst_v50.far _ c45.lt f32
  have c55 := Own.step hst_v50 f34 c46
  have f56 := hst_v50.far _ c46.lt f34
  have c57 := Own.step hst_v50 f36 c47
  have f58 := hst_v50.far _ c47.lt f36
  have hB59 : Below w.heap.size w w_v50 := hst_v50.below hB49 (hB49).size (fun r hr => (O48.out.lt r hr).1)
  clear uc45 uc46 uc47 hown_v50 c45 c46 c47
  have uc53 := c53; have uc55 := c55; have uc57 := c57
  simp only [At, Own, Nat.reduceAdd, and_true] at uc53 uc55 uc57
  go_wp2_with (fail)
  refine calls_named ?_
  intro W6 hW6
  have hL6 : Below w_v50.heap.size w_v50 W6 := by
    rw [hW6]
    repeat (first | with_reducible exact Below.refl _ _ | with_reducible refine bel_alloc ?_ _ | refine Below.setCell ?_ (by first | (simp; done) | (simp; omega) | omega) _)
  have c60 := c53.up hL6
  have c61 := c55.up hL6
  have c62 := c57.up hL6
  have O63 := Lib.hid (owns_up O52.out hL6)
  have hB64 : Below w.heap.size w W6 := by
    rw [hW6]
    repeat (first | with_reducible exact hB59 | with_reducible refine bel_alloc ?_ _ | refine Below.setCell ?_ (by first | (simp; done) | (simp; omega) | omega) _)
  clear hW6 hL6 uc53 uc55 uc57 c53 c55 c57
  with_reducible refine (sort_any v50 2 w.heap.size ([(En.mk r.f p.q)] ++ [(En.mk r.t (ql - p.q))]) _ O63.out (by simp only [List.cons_append, List.nil_append, List.mem_cons, List.not_mem_nil, or_false]; rintro x (rfl | rfl) y (rfl | rfl) h_ <;> first | rfl | exact absurd h_ HNE.out | exact absurd h_.symm HNE.out) (by omega)).mono ?_
  rintro e w6 ⟨rfl, hp6, hst6⟩
  have O65 := Lib.hid hp6
  clear hp6
  have c66 := Own.step hst6 f54 c60
  have c67 := Own.step hst6 f56 c61
  have c68 := Own.step hst6 f58 c62
  have hB69 : Below w.heap.size w w6 := hst6.below hB64 (hB64).size (fun r hr => (O63.out.lt r hr).1)
  clear c60 c61 c62 O63 hB64
  have uc66 := c66; have uc67 := c67; have uc68 := c68
  simp only [At, Own, Nat.reduceAdd, and_true] at uc66 uc67 uc68
  go_wp2
  go_ret2
  exact ⟨_, rfl, (by (try rw [← HQL.out]); exact el_own O65.out), (by repeat (first | with_reducible exact hB69 | with_reducible refine bel_alloc ?_ _ | refine Below.setCell ?_ (by first | (simp; done) | (simp; omega) | omega) _))⟩

set_option maxRecDepth 100000 in
set_option maxHeartbeats 1000000 in
theorem ends_t (N : Net) (r : Rd) (p : Pc) (k : Int) (v : Value) (w : World) (h : NV w v N) (g : Vld N) (hr : frd N.rs p.r = some r) (hq : Pl.Sz 2000 p.q) (hp : placeE N p = 0) (ha : AtRes r p.q k false) :
    Calls Tryz.prog 73 #[v, .agg #[.int .i64 p.r, .bool (ng p.q.num), .string (mg p.q.num.natAbs), .bool false, .string (mg (dn p.q))], .bool false, .bool true] w fun e w' => ∃ v', e = .returned (.tuple #[v', .int .i64 0]) ∧ EL w' v' (sortE [(En.mk r.t ((r.l : Rat) - p.q))]) ∧ Below w.heap.size w w' := by
  have hrok := g.or r (frd_of hr).1
  have hl1 := hrok.2.2.1
  have hl2 := hrok.2.2.2.1
  have HR := Lib.hid hr
  have HROK := Lib.hid hrok
  obtain ⟨ql, hql⟩ : ∃ q : Rat, q = (r.l : Rat) := ⟨_, rfl⟩
  have ZQL : Pl.Sz 4 ql := by rw [hql]; exact sz_small (by omega) (by omega)
  have HQL := Lib.hid hql
  clear hr hql hrok
  have HP := Lib.hid hp
  have HA := Lib.hid ha
  have HNE : Hid (r.f ≠ r.t) := Lib.hid HROK.out.2.2.2.2.2.2.1
  clear hp ha
  obtain ⟨_, _, rfl, hn, hr⟩ := h
  obtain ⟨An, cn, rfl, hcn, hmn, hxn⟩ := hn.open_
  obtain ⟨Ar, cr, rfl, hcr, hmr, hxr⟩ := hr.open_
  have HNV : Hid (NV w (.agg #[.slice An N.ns.length cn, .slice Ar N.rs.length cr]) N) := Lib.hid ⟨_, _, rfl, hn, hr⟩
  have HXN := Lib.hid hxn
  have HXR := Lib.hid hxr
  have HG := Lib.hid g
  have hln := g.ln
  have hlr := g.lr
  generalize hNn : N.ns.length = Nn at *
  generalize hNr : N.rs.length = Nr at *
  have HNn := Lib.hid hNn
  have HNr := Lib.hid hNr
  clear hn hr hxn hxr g hNn hNr
  go_enter Tryz.func73, Tryz.ntmps73
  have K1 := Lib.hid (fun W (hv : NV W (.agg #[.slice An Nn cn, .slice Ar Nr cr]) N) => cplace_any N p _ W hv HG.out hq 0 HP.out)
  go_wp2_with (fail)
  refine calls_named ?_
  intro W1 hW1
  have hL1 : Below w.heap.size w W1 := by
    rw [hW1]
    repeat (first | with_reducible exact Below.refl _ _ | with_reducible refine bel_alloc ?_ _ | refine Below.setCell ?_ (by first | (simp; done) | (simp; omega) | omega) _)
  have c2 : Own W1 (w.heap.size) 0 [.slice An Nn cn, .slice Ar Nr cr] := by
    rw [hW1]
    first
    | (repeat (first | (with_reducible refine own_new (l := [.slice An Nn cn, .slice Ar Nr cr]) ?_; (simp; done)) | with_reducible refine Own.alloc ?_ _ | refine Own.far _ _ (by first | (simp; done) | (simp [*]; done) | (simp; omega)) ?_)); done
    | simp [Own, go_sem]
  have c3 : Own W1 (w.heap.size + 1) 0 [.int .i64 p.r, .bool (ng p.q.num), .string (mg p.q.num.natAbs), .bool false, .string (mg (dn p.q))] := by
    rw [hW1]
    first
    | (repeat (first | (with_reducible refine own_new (l := [.int .i64 p.r, .bool (ng p.q.num), .string (mg p.q.num.natAbs), .bool false, .string (mg (dn p.q))]) ?_; (simp; done)) | with_reducible refine Own.alloc ?_ _ | refine Own.far _ _ (by first | (simp; done) | (simp [*]; done) | (simp; omega)) ?_)); done
    | simp [Own, go_sem]
  have hB4 : Below w.heap.size w W1 := by
    rw [hW1]
    repeat (first | with_reducible exact Below.refl _ _ | with_reducible refine bel_alloc ?_ _ | refine Below.setCell ?_ (by first | (simp; done) | (simp; omega) | omega) _)
  clear hW1 hL1
  with_reducible refine (K1.out _ (HNV.out.up hB4)).mono ?_
  rintro e w1 ⟨rfl, hb1⟩
  have c5 := c2.up hb1
  have c6 := c3.up hb1
  have hB7 : Below w.heap.size w w1 := bel_up hB4 hb1
  clear c2 c3
  have uc5 := c5; have uc6 := c6
  simp only [At, Own, Nat.reduceAdd, and_true] at uc5 uc6
  have K8 := Lib.hid (fun W (hv : NV W (.agg #[.slice An Nn cn, .slice Ar Nr cr]) N) => nodeat_any N r p k false _ W hv HG.out HR.out hq HP.out HA.out)
  go_wp2_with (fail)
  refine calls_named ?_
  intro W2 hW2
  have hL2 : Below w1.heap.size w1 W2 := by
    rw [hW2]
    repeat (first | with_reducible exact Below.refl _ _ | with_reducible refine bel_alloc ?_ _ | refine Below.setCell ?_ (by first | (simp; done) | (simp; omega) | omega) _)
  have c9 := c5.up hL2
  have c10 := c6.up hL2
  have hB11 : Below w.heap.size w W2 := by
    rw [hW2]
    repeat (first | with_reducible exact hB7 | with_reducible refine bel_alloc ?_ _ | refine Below.setCell ?_ (by first | (simp; done) | (simp; omega) | omega) _)
  clear hW2 hL2 uc5 uc6 c5 c6
  with_reducible refine (K8.out _ (HNV.out.up hB11)).mono ?_
  rintro e w2 ⟨rfl, hb2⟩
  have c12 := c9.up hb2
  have c13 := c10.up hb2
  have hB14 : Below w.heap.size w w2 := bel_up hB11 hb2
  clear c9 c10
  have uc12 := c12; have uc13 := c13
  simp only [At, Own, Nat.reduceAdd, and_true] at uc12 uc13
  have K15 := Lib.hid (fun W (hv : NV W (.agg #[.slice An Nn cn, .slice Ar Nr cr]) N) => road_some N r p.r _ W hv HG.out HR.out)
  go_wp2_with (fail)
  refine calls_named ?_
  intro W3 hW3
  have hL3 : Below w2.heap.size w2 W3 := by
    rw [hW3]
    repeat (first | with_reducible exact Below.refl _ _ | with_reducible refine bel_alloc ?_ _ | refine Below.setCell ?_ (by first | (simp; done) | (simp; omega) | omega) _)
  have c16 := c12.up hL3
  have c17 := c13.up hL3
  have hB18 : Below w.heap.size w W3 := by
    rw [hW3]
    repeat (first | with_reducible exact hB14 | with_reducible refine bel_alloc ?_ _ | refine Below.setCell ?_ (by first | (simp; done) | (simp; omega) | omega) _)
  clear hW3 hL3 uc12 uc13 c12 c13
  with_reducible refine (K15.out _ (HNV.out.up hB18)).mono ?_
  rintro e w3 ⟨rfl, hb3⟩
  have c19 := c16.up hb3
  have c20 := c17.up hb3
  have hB21 : Below w.heap.size w w3 := bel_up hB18 hb3
  clear c16 c17
  have ne22_ : w.heap.size < w3.heap.size := by have := c19.lt; omega
  have ne22 := Nat.ne_of_lt ne22_
  have ne22' := ne22.symm
  have ne23_ : w.heap.size + 1 < w3.heap.size := by have := c20.lt; omega
  have ne23 := Nat.ne_of_lt ne23_
  have ne23' := ne23.symm
  have uc19 := c19; have uc20 := c20
  simp only [At, Own, Nat.reduceAdd, and_true] at uc19 uc20
  go_upto_region 12 with fail
  refine wp_named ?_
  intro W4 hW4
  have hL4 : Below w3.heap.size w3 W4 := by
    rw [hW4]
    repeat (first | with_reducible exact Below.refl _ _ | with_reducible refine bel_alloc ?_ _ | refine Below.setCell ?_ (by first | (simp; done) | (simp; omega) | omega) _)
  have c24 := c19.up hL4
  have c25 := c20.up hL4
  have c26 : Own W4 (w3.heap.size) 0 [.int .i64 r.i, .int .i64 r.f, .int .i64 r.t, .int .i64 r.l, .int .i64 r.m, .bool r.o] := by
    rw [hW4]
    first
    | (repeat (first | (with_reducible refine own_new (l := [.int .i64 r.i, .int .i64 r.f, .int .i64 r.t, .int .i64 r.l, .int .i64 r.m, .bool r.o]) ?_; (simp; done)) | with_reducible refine Own.alloc ?_ _ | refine Own.far _ _ (by first | (simp; done) | (simp [*]; done) | (simp; omega)) ?_)); done
    | simp [Own, go_sem, uc19, uc20, ne22, ne22', ne22_, ne23, ne23', ne23_]
  have hB27 : Below w.heap.size w W4 := by
    rw [hW4]
    repeat (first | with_reducible exact hB21 | with_reducible refine bel_alloc ?_ _ | refine Below.setCell ?_ (by first | (simp; done) | (simp; omega) | omega) _)
  clear hW4 hL4 uc19 uc20 c19 c20
  have K28 := Lib.hid (fun W => qfi_any r.l ql W HQL.out (by omega) (by omega))
  have K29 := Lib.hid (fun W => qsub_any ql p.q W (ZQL.mono (by decide)) (hq.mono (by decide)))
  go_wp2_with fail
  refine wp_named ?_
  intro W5 hW5
  have hL5 : Below W4.heap.size W4 W5 := by
    rw [hW5]
    repeat (first | with_reducible exact Below.refl _ _ | with_reducible refine bel_alloc ?_ _ | refine Below.setCell ?_ (by first | (simp; done) | (simp; omega) | omega) _)
  have c30 := c24.up hL5
  have c31 := c25.up hL5
  have c32 := c26.up hL5
  have hB33 : Below w.heap.size w W5 := by
    rw [hW5]
    repeat (first | with_reducible exact hB27 | with_reducible refine bel_alloc ?_ _ | refine Below.setCell ?_ (by first | (simp; done) | (simp; omega) | omega) _)
  clear hW5 hL5 c24 c25 c26
  have dc30 := fun p : Bel W5 => c30.bel p; have dc31 := fun p : Bel W5 => c31.bel p; have dc32 := fun p : Bel W5 => c32.bel p
  simp only [At, Own, Nat.reduceAdd, and_true] at dc30 dc31 dc32
  refine wp_region_tail1 9 (.tmp 15) (by kernel_rfl) (by kernel_rfl) rfl rfl (fun _ _ _ h => h) ?_
  simp only [List.take_succ_cons, List.take_zero, List.drop_succ_cons, List.drop_zero]
  go_simp
  repeat (go_big_quiet_step (first | (go_at_call 37; with_reducible exact Calls.bel (K28.out _)) | (go_at_call 75; with_reducible exact Calls.bel (K29.out _))))
  refine wpQuiet_nil ?_
  intro w5 hb5
  have c34 := c30.up hb5
  have c35 := c31.up hb5
  have c36 := c32.up hb5
  have hB37 : Below w.heap.size w w5 := bel_up hB33 hb5
  clear dc30 dc31 dc32 c30 c31 c32
  have uc34 := c34; have uc35 := c35; have uc36 := c36
  simp only [At, Own, Nat.reduceAdd, and_true] at uc34 uc35 uc36
  go_wp2_with (at_builtin; refine wpList_appF rfl _ _ _ rfl ti_en (World.ownsRow_nil _ w.heap.size _ _) (hB37).size rfl rfl rfl rfl (etc_one (En.mk r.t (ql - p.q))) (by omega) (by decide) ?_)
  intro v38 w_v38 hown_v38 hst_v38
  have O40 : Hid (w_v38.ownsRow w.heap.size 98 5 v38 (0 + 1) (ens [(En.mk r.t (ql - p.q))])) := Lib.hid (by first | exact hown_v38 | simpa [ens] using hown_v38)
  have c41 := Own.step hst_v38 (by simp [Value.ownBlock]) c34
  have f42 := hst_v38.far _ c34.lt (by simp [Value.ownBlock])
  have c43 := Own.step hst_v38 (by simp [Value.ownBlock]) c35
  have f44 := hst_v38.far _ c35.lt (by simp [Value.ownBlock])
  have c45 := Own.step hst_v38 (by simp [Value.ownBlock]) c36
  have f46 := hst_v38.far _ c36.lt (by simp [Value.ownBlock])
  have hB47 : Below w.heap.size w w_v38 := hst_v38.below hB37 (hB37).size (fun r hr => by simp [Value.ownBlock] at hr)
  clear uc34 uc35 uc36 hown_v38 c34 c35 c36
  have uc41 := c41; have uc43 := c43; have uc45 := c45
  simp only [At, Own, Nat.reduceAdd, and_true] at uc41 uc43 uc45
  go_wp2_with (fail)
  refine calls_named ?_
  intro W6 hW6
  have hL6 : Below w_v38.heap.size w_v38 W6 := by
    rw [hW6]
    repeat (first | with_reducible exact Below.refl _ _ | with_reducible refine bel_alloc ?_ _ | refine Below.setCell ?_ (by first | (simp; done) | (simp; omega) | omega) _)
  have c48 := c41.up hL6
  have c49 := c43.up hL6
  have c50 := c45.up hL6
  have O51 := Lib.hid (owns_up O40.out hL6)
  have hB52 : Below w.heap.size w W6 := by
    rw [hW6]
    repeat (first | with_reducible exact hB47 | with_reducible refine bel_alloc ?_ _ | refine Below.setCell ?_ (by first | (simp; done) | (simp; omega) | omega) _)
  clear hW6 hL6 uc41 uc43 uc45 c41 c43 c45
  with_reducible refine (sort_any v38 1 w.heap.size ([(En.mk r.t (ql - p.q))]) _ O51.out (by simp only [List.mem_singleton]; rintro x rfl y rfl _; rfl) (by omega)).mono ?_
  rintro e w6 ⟨rfl, hp6, hst6⟩
  have O53 := Lib.hid hp6
  clear hp6
  have c54 := Own.step hst6 f42 c48
  have c55 := Own.step hst6 f44 c49
  have c56 := Own.step hst6 f46 c50
  have hB57 : Below w.heap.size w w6 := hst6.below hB52 (hB52).size (fun r hr => (O51.out.lt r hr).1)
  clear c48 c49 c50 O51 hB52
  have uc54 := c54; have uc55 := c55; have uc56 := c56
  simp only [At, Own, Nat.reduceAdd, and_true] at uc54 uc55 uc56
  go_wp2
  go_ret2
  exact ⟨_, rfl, (by (try rw [← HQL.out]); exact el_own O53.out), (by repeat (first | with_reducible exact hB57 | with_reducible refine bel_alloc ?_ _ | refine Below.setCell ?_ (by first | (simp; done) | (simp; omega) | omega) _))⟩

set_option maxRecDepth 100000 in
set_option maxHeartbeats 1000000 in
theorem ends_f (N : Net) (r : Rd) (p : Pc) (k : Int) (v : Value) (w : World) (h : NV w v N) (g : Vld N) (hr : frd N.rs p.r = some r) (hq : Pl.Sz 2000 p.q) (hp : placeE N p = 0) (ha : AtRes r p.q k false) :
    Calls Tryz.prog 73 #[v, .agg #[.int .i64 p.r, .bool (ng p.q.num), .string (mg p.q.num.natAbs), .bool false, .string (mg (dn p.q))], .bool true, .bool false] w fun e w' => ∃ v', e = .returned (.tuple #[v', .int .i64 0]) ∧ EL w' v' (sortE [(En.mk r.f p.q)]) ∧ Below w.heap.size w w' := by
  have hrok := g.or r (frd_of hr).1
  have hl1 := hrok.2.2.1
  have hl2 := hrok.2.2.2.1
  have HR := Lib.hid hr
  have HROK := Lib.hid hrok
  obtain ⟨ql, hql⟩ : ∃ q : Rat, q = (r.l : Rat) := ⟨_, rfl⟩
  have ZQL : Pl.Sz 4 ql := by rw [hql]; exact sz_small (by omega) (by omega)
  have HQL := Lib.hid hql
  clear hr hql hrok
  have HP := Lib.hid hp
  have HA := Lib.hid ha
  have HNE : Hid (r.f ≠ r.t) := Lib.hid HROK.out.2.2.2.2.2.2.1
  clear hp ha
  obtain ⟨_, _, rfl, hn, hr⟩ := h
  obtain ⟨An, cn, rfl, hcn, hmn, hxn⟩ := hn.open_
  obtain ⟨Ar, cr, rfl, hcr, hmr, hxr⟩ := hr.open_
  have HNV : Hid (NV w (.agg #[.slice An N.ns.length cn, .slice Ar N.rs.length cr]) N) := Lib.hid ⟨_, _, rfl, hn, hr⟩
  have HXN := Lib.hid hxn
  have HXR := Lib.hid hxr
  have HG := Lib.hid g
  have hln := g.ln
  have hlr := g.lr
  generalize hNn : N.ns.length = Nn at *
  generalize hNr : N.rs.length = Nr at *
  have HNn := Lib.hid hNn
  have HNr := Lib.hid hNr
  clear hn hr hxn hxr g hNn hNr
  go_enter Tryz.func73, Tryz.ntmps73
  have K1 := Lib.hid (fun W (hv : NV W (.agg #[.slice An Nn cn, .slice Ar Nr cr]) N) => cplace_any N p _ W hv HG.out hq 0 HP.out)
  go_wp2_with (fail)
  refine calls_named ?_
  intro W1 hW1
  have hL1 : Below w.heap.size w W1 := by
    rw [hW1]
    repeat (first | with_reducible exact Below.refl _ _ | with_reducible refine bel_alloc ?_ _ | refine Below.setCell ?_ (by first | (simp; done) | (simp; omega) | omega) _)
  have c2 : Own W1 (w.heap.size) 0 [.slice An Nn cn, .slice Ar Nr cr] := by
    rw [hW1]
    first
    | (repeat (first | (with_reducible refine own_new (l := [.slice An Nn cn, .slice Ar Nr cr]) ?_; (simp; done)) | with_reducible refine Own.alloc ?_ _ | refine Own.far _ _ (by first | (simp; done) | (simp [*]; done) | (simp; omega)) ?_)); done
    | simp [Own, go_sem]
  have c3 : Own W1 (w.heap.size + 1) 0 [.int .i64 p.r, .bool (ng p.q.num), .string (mg p.q.num.natAbs), .bool false, .string (mg (dn p.q))] := by
    rw [hW1]
    first
    | (repeat (first | (with_reducible refine own_new (l := [.int .i64 p.r, .bool (ng p.q.num), .string (mg p.q.num.natAbs), .bool false, .string (mg (dn p.q))]) ?_; (simp; done)) | with_reducible refine Own.alloc ?_ _ | refine Own.far _ _ (by first | (simp; done) | (simp [*]; done) | (simp; omega)) ?_)); done
    | simp [Own, go_sem]
  have hB4 : Below w.heap.size w W1 := by
    rw [hW1]
    repeat (first | with_reducible exact Below.refl _ _ | with_reducible refine bel_alloc ?_ _ | refine Below.setCell ?_ (by first | (simp; done) | (simp; omega) | omega) _)
  clear hW1 hL1
  with_reducible refine (K1.out _ (HNV.out.up hB4)).mono ?_
  rintro e w1 ⟨rfl, hb1⟩
  have c5 := c2.up hb1
  have c6 := c3.up hb1
  have hB7 : Below w.heap.size w w1 := bel_up hB4 hb1
  clear c2 c3
  have uc5 := c5; have uc6 := c6
  simp only [At, Own, Nat.reduceAdd, and_true] at uc5 uc6
  have K8 := Lib.hid (fun W (hv : NV W (.agg #[.slice An Nn cn, .slice Ar Nr cr]) N) => nodeat_any N r p k false _ W hv HG.out HR.out hq HP.out HA.out)
  go_wp2_with (fail)
  refine calls_named ?_
  intro W2 hW2
  have hL2 : Below w1.heap.size w1 W2 := by
    rw [hW2]
    repeat (first | with_reducible exact Below.refl _ _ | with_reducible refine bel_alloc ?_ _ | refine Below.setCell ?_ (by first | (simp; done) | (simp; omega) | omega) _)
  have c9 := c5.up hL2
  have c10 := c6.up hL2
  have hB11 : Below w.heap.size w W2 := by
    rw [hW2]
    repeat (first | with_reducible exact hB7 | with_reducible refine bel_alloc ?_ _ | refine Below.setCell ?_ (by first | (simp; done) | (simp; omega) | omega) _)
  clear hW2 hL2 uc5 uc6 c5 c6
  with_reducible refine (K8.out _ (HNV.out.up hB11)).mono ?_
  rintro e w2 ⟨rfl, hb2⟩
  have c12 := c9.up hb2
  have c13 := c10.up hb2
  have hB14 : Below w.heap.size w w2 := bel_up hB11 hb2
  clear c9 c10
  have uc12 := c12; have uc13 := c13
  simp only [At, Own, Nat.reduceAdd, and_true] at uc12 uc13
  have K15 := Lib.hid (fun W (hv : NV W (.agg #[.slice An Nn cn, .slice Ar Nr cr]) N) => road_some N r p.r _ W hv HG.out HR.out)
  go_wp2_with (fail)
  refine calls_named ?_
  intro W3 hW3
  have hL3 : Below w2.heap.size w2 W3 := by
    rw [hW3]
    repeat (first | with_reducible exact Below.refl _ _ | with_reducible refine bel_alloc ?_ _ | refine Below.setCell ?_ (by first | (simp; done) | (simp; omega) | omega) _)
  have c16 := c12.up hL3
  have c17 := c13.up hL3
  have hB18 : Below w.heap.size w W3 := by
    rw [hW3]
    repeat (first | with_reducible exact hB14 | with_reducible refine bel_alloc ?_ _ | refine Below.setCell ?_ (by first | (simp; done) | (simp; omega) | omega) _)
  clear hW3 hL3 uc12 uc13 c12 c13
  with_reducible refine (K15.out _ (HNV.out.up hB18)).mono ?_
  rintro e w3 ⟨rfl, hb3⟩
  have c19 := c16.up hb3
  have c20 := c17.up hb3
  have hB21 : Below w.heap.size w w3 := bel_up hB18 hb3
  clear c16 c17
  have ne22_ : w.heap.size < w3.heap.size := by have := c19.lt; omega
  have ne22 := Nat.ne_of_lt ne22_
  have ne22' := ne22.symm
  have ne23_ : w.heap.size + 1 < w3.heap.size := by have := c20.lt; omega
  have ne23 := Nat.ne_of_lt ne23_
  have ne23' := ne23.symm
  have uc19 := c19; have uc20 := c20
  simp only [At, Own, Nat.reduceAdd, and_true] at uc19 uc20
  go_upto_region 10 with fail
  refine wp_named ?_
  intro W4 hW4
  have hL4 : Below w3.heap.size w3 W4 := by
    rw [hW4]
    repeat (first | with_reducible exact Below.refl _ _ | with_reducible refine bel_alloc ?_ _ | refine Below.setCell ?_ (by first | (simp; done) | (simp; omega) | omega) _)
  have c24 := c19.up hL4
  have c25 := c20.up hL4
  have c26 : Own W4 (w3.heap.size) 0 [.int .i64 r.i, .int .i64 r.f, .int .i64 r.t, .int .i64 r.l, .int .i64 r.m, .bool r.o] := by
    rw [hW4]
    first
    | (repeat (first | (with_reducible refine own_new (l := [.int .i64 r.i, .int .i64 r.f, .int .i64 r.t, .int .i64 r.l, .int .i64 r.m, .bool r.o]) ?_; (simp; done)) | with_reducible refine Own.alloc ?_ _ | refine Own.far _ _ (by first | (simp; done) | (simp [*]; done) | (simp; omega)) ?_)); done
    | simp [Own, go_sem, uc19, uc20, ne22, ne22', ne22_, ne23, ne23', ne23_]
  have hB27 : Below w.heap.size w W4 := by
    rw [hW4]
    repeat (first | with_reducible exact hB21 | with_reducible refine bel_alloc ?_ _ | refine Below.setCell ?_ (by first | (simp; done) | (simp; omega) | omega) _)
  clear hW4 hL4 uc19 uc20 c19 c20
  have uc24 := c24; have uc25 := c25; have uc26 := c26
  simp only [At, Own, Nat.reduceAdd, and_true] at uc24 uc25 uc26
  go_wp2_with (at_builtin; refine wpList_appF rfl _ _ _ rfl ti_en (World.ownsRow_nil _ w.heap.size _ _) (hB27).size rfl rfl rfl rfl (etc_one (En.mk r.f p.q)) (by omega) (by decide) ?_)
  intro v28 w_v28 hown_v28 hst_v28
  have O30 : Hid (w_v28.ownsRow w.heap.size 98 5 v28 (0 + 1) (ens [(En.mk r.f p.q)])) := Lib.hid (by first | exact hown_v28 | simpa [ens] using hown_v28)
  have c31 := Own.step hst_v28 (by simp [Value.ownBlock]) c24
  have f32 := hst_v28.far _ c24.lt (by simp [Value.ownBlock])
  have c33 := Own.step hst_v28 (by simp [Value.ownBlock]) c25
  have f34 := hst_v28.far _ c25.lt (by simp [Value.ownBlock])
  have c35 := Own.step hst_v28 (by simp [Value.ownBlock]) c26
  have f36 := hst_v28.far _ c26.lt (by simp [Value.ownBlock])
  have hB37 : Below w.heap.size w w_v28 := hst_v28.below hB27 (hB27).size (fun r hr => by simp [Value.ownBlock] at hr)
  clear uc24 uc25 uc26 hown_v28 c24 c25 c26
  have uc31 := c31; have uc33 := c33; have uc35 := c35
  simp only [At, Own, Nat.reduceAdd, and_true] at uc31 uc33 uc35
  go_wp2_with (fail)
  refine calls_named ?_
  intro W5 hW5
  have hL5 : Below w_v28.heap.size w_v28 W5 := by
    rw [hW5]
    repeat (first | with_reducible exact Below.refl _ _ | with_reducible refine bel_alloc ?_ _ | refine Below.setCell ?_ (by first | (simp; done) | (simp; omega) | omega) _)
  have c38 := c31.up hL5
  have c39 := c33.up hL5
  have c40 := c35.up hL5
  have O41 := Lib.hid (owns_up O30.out hL5)
  have hB42 : Below w.heap.size w W5 := by
    rw [hW5]
    repeat (first | with_reducible exact hB37 | with_reducible refine bel_alloc ?_ _ | refine Below.setCell ?_ (by first | (simp; done) | (simp; omega) | omega) _)
  clear hW5 hL5 uc31 uc33 uc35 c31 c33 c35
  with_reducible refine (sort_any v28 1 w.heap.size ([(En.mk r.f p.q)]) _ O41.out (by simp only [List.mem_singleton]; rintro x rfl y rfl _; rfl) (by omega)).mono ?_
  rintro e w5 ⟨rfl, hp5, hst5⟩
  have O43 := Lib.hid hp5
  clear hp5
  have c44 := Own.step hst5 f32 c38
  have c45 := Own.step hst5 f34 c39
  have c46 := Own.step hst5 f36 c40
  have hB47 : Below w.heap.size w w5 := hst5.below hB42 (hB42).size (fun r hr => (O41.out.lt r hr).1)
  clear c38 c39 c40 O41 hB42
  have uc44 := c44; have uc45 := c45; have uc46 := c46
  simp only [At, Own, Nat.reduceAdd, and_true] at uc44 uc45 uc46
  go_wp2
  go_ret2
  exact ⟨_, rfl, (by (try rw [← HQL.out]); exact el_own O43.out), (by repeat (first | with_reducible exact hB47 | with_reducible refine bel_alloc ?_ _ | refine Below.setCell ?_ (by first | (simp; done) | (simp; omega) | omega) _))⟩

/-- The nodes at the ends of the road of a position. -/
def endsE (r : Rd) (q : Rat) (a b : Bool) : List En :=
  match atR r q with
  | some n => [⟨n, 0⟩]
  | none => sortE ((if a then [⟨r.f, q⟩] else []) ++ (if b then [⟨r.t, (r.l : Rat) - q⟩] else []))
theorem ends_any (N : Net) (r : Rd) (p : Pc) (a b : Bool) (v : Value) (w : World) (h : NV w v N) (g : Vld N) (hat : Nw.At N r p) (hq : Pl.Sz 2000 p.q) (hab : a = true ∨ b = true) :
    Calls Tryz.prog 73 #[v, .agg #[.int .i64 p.r, .bool (ng p.q.num), .string (mg p.q.num.natAbs), .bool false, .string (mg (dn p.q))], .bool a, .bool b] w fun e w' => ∃ v', e = .returned (.tuple #[v', .int .i64 0]) ∧ EL w' v' (endsE r p.q a b) ∧ Below w.heap.size w w' := by
  have hp := (at_iff hat.f).2 hat
  cases hr : atR r p.q with
  | some n =>
    rw [show endsE r p.q a b = [⟨n, 0⟩] from by unfold endsE; rw [hr]]
    exact ends_on N r p n a b v w h g hat.f hq hp (.inl ⟨rfl, hr⟩)
  | none =>
    rw [show endsE r p.q a b = sortE ((if a then [⟨r.f, p.q⟩] else []) ++ (if b then [⟨r.t, (r.l : Rat) - p.q⟩] else [])) from by unfold endsE; rw [hr]]
    cases a <;> cases b
    · simp at hab
    · exact ends_t N r p 0 v w h g hat.f hq hp (.inr ⟨rfl, hr, rfl⟩)
    · exact ends_f N r p 0 v w h g hat.f hq hp (.inr ⟨rfl, hr, rfl⟩)
    · exact ends_ft N r p 0 v w h g hat.f hq hp (.inr ⟨rfl, hr, rfl⟩)
theorem sortE_one (x : En) : sortE [x] = [x] := by simp [sortE]
theorem sortE_two (x y : En) : sortE [x, y] = if y.n < x.n then [y, x] else [x, y] := by
  unfold sortE
  by_cases h : y.n < x.n <;> simp [List.mergeSort, List.MergeSort.Internal.splitInTwo, List.merge, h]
theorem endsE_exits {r : Rd} (h : r.f ≠ r.t) (q : Rat) : endsE r q (!r.o) true = exitsE r q := by
  unfold endsE exitsE
  cases atR r q with
  | some n => rfl
  | none =>
    cases r.o
    · simp only [Bool.not_false, if_true, List.cons_append, List.nil_append, sortE_two, pairE]
      by_cases q : r.t < r.f
      · rw [if_pos q, if_neg (by omega)]
      · rw [if_neg q, if_pos (by omega)]
    · simp [sortE_one, pairE]
end Go.Proofs.YtldfencaoaikgaaGreatDoor
