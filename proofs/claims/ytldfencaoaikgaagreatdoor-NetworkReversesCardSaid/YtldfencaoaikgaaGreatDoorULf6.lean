/-
  The law Reverses.
-/
import Derived.Test.YtldfencaoaikgaaGreatDoorULfE
set_option linter.unusedSimpArgs false
set_option linter.unusedVariables false
namespace Go.Proofs.YtldfencaoaikgaaGreatDoor
open Go Go.RowKit Nw

theorem nodesE_of : ∀ {l : List Nd} {b : Int}, SrtN l → (∀ x ∈ l, b < x.i) → (∀ x ∈ l, x.ok) → nodesE l b = 0
  | [], _, _, _, _ => rfl
  | a :: l, b, hs, hb, hk => by
    have ha := hk a (by simp)
    have h1 : idE a.i b = 0 := idE_zero.2 ⟨ha.1, ha.2.1, hb a (by simp)⟩
    have h2 : wide a.x = false := wide_no.2 ⟨ha.2.2.1, ha.2.2.2.1⟩
    have h3 : wide a.y = false := wide_no.2 ⟨ha.2.2.2.2.1, ha.2.2.2.2.2⟩
    obtain ⟨k1, k2⟩ := List.pairwise_cons.1 hs
    unfold nodesE
    rw [if_neg (by omega), h2, h3, if_neg (by decide)]
    exact nodesE_of k2 k1 fun x hx => hk x (by simp [hx])
theorem roadsE_of {ns : List Nd} : ∀ {l : List Rd} {b : Int}, SrtR l → (∀ x ∈ l, b < x.i) → (∀ x ∈ l, 1 ≤ x.i ∧ x.i ≤ 1073741824 ∧ roadE ns x = 0) → roadsE ns l b = 0
  | [], _, _, _, _ => rfl
  | a :: l, b, hs, hb, hk => by
    have ha := hk a (by simp)
    have h1 : idE a.i b = 0 := idE_zero.2 ⟨ha.1, ha.2.1, hb a (by simp)⟩
    obtain ⟨k1, k2⟩ := List.pairwise_cons.1 hs
    unfold roadsE
    rw [if_neg (by omega), if_neg (by rw [ha.2.2]; exact fun h => h rfl)]
    exact roadsE_of k2 k1 fun x hx => hk x (by simp [hx])
theorem chk_zero {N : Net} (g : Vld N) (c : ∀ r ∈ N.rs, roadE N.ns r = 0) : checkE N = 0 := by
  have h1 : nodesE N.ns 0 = 0 := nodesE_of g.sn (fun x hx => by have := (g.on x hx).1; omega) g.on
  unfold checkE
  rw [if_neg (by have := g.ln; have := g.lr; omega), if_neg (by omega)]
  exact roadsE_of g.sr (fun x hx => by have := (g.or x hx).1; omega) fun x hx => ⟨(g.or x hx).1, (g.or x hx).2.1, c x hx⟩
theorem rev_c {N : Net} (c : ∀ r ∈ N.rs, roadE N.ns r = 0) : ∀ r ∈ (rev N).rs, roadE (rev N).ns r = 0 := by
  intro r hr
  obtain ⟨x, hx, rfl⟩ := List.mem_map.1 hr
  have h := c x hx
  show roadE N.ns ⟨x.i, x.t, x.f, x.l, x.m, x.o⟩ = 0
  unfold roadE at h ⊢
  cases h1 : fnd N.ns x.f with
  | none => rw [h1] at h; cases h
  | some a =>
    cases h2 : fnd N.ns x.t with
    | none => rw [h1, h2] at h; cases h
    | some b =>
      rw [h1, h2] at h
      show roadX b a _ = 0
      simp only [roadX] at h ⊢
      split at h
      · cases h
      rename_i q1
      split at h
      · cases h
      rename_i q2
      rw [if_neg (fun e => q1 e.symm), if_neg]
      rintro (q | q | q | q | q)
      · exact q2 (.inl q)
      · exact q2 (.inr (.inl q))
      · exact q2 (.inr (.inr (.inl q)))
      · exact q2 (.inr (.inr (.inr (.inl q))))
      · refine q2 (.inr (.inr (.inr (.inr ?_))))
        have e1 : (a.x - b.x) * (a.x - b.x) = (b.x - a.x) * (b.x - a.x) := by rw [← Int.neg_sub b.x a.x, Int.neg_mul_neg]
        have e2 : (a.y - b.y) * (a.y - b.y) = (b.y - a.y) * (b.y - a.y) := by rw [← Int.neg_sub b.y a.y, Int.neg_mul_neg]
        rw [e1, e2]; exact q
theorem reverse_back (N : Net) (v : Value) (w : World) (h : NV w v (rev N)) (g : Vld N) :
    Calls Tryz.prog 40 #[v] w fun e w' => ∃ v', e = .returned v' ∧ NV w' v' N ∧ Below w.heap.size w w' := by
  have := reverse_any (rev N) v w h (rev_vld g)
  rwa [rev_rev] at this
theorem mirror_zero (N : Net) (v : Value) (w : World) (h : NV w v N) (g : Vld N) :
    Calls Tryz.prog 41 #[v, .agg #[.int .i64 0, .bool false, .string ⟨#[]⟩, .bool false, .string ⟨#[]⟩]] w fun e w' => e = .returned (.tuple #[.agg #[.int .i64 0, .bool false, .string ⟨#[]⟩, .bool false, .string ⟨#[]⟩], .int .i64 9]) ∧ Below w.heap.size w w' := by
  have := mirror_bad N ⟨0, 0⟩ 9 v w h g (Pl.sz_zero.mono (by decide)) (placeE_none (frd_zero g)) (by decide)
  exact this
theorem ncheck_zero (N : Net) (v : Value) (w : World) (h : NV w v N) (hc : checkE N = 0) :
    Calls Tryz.prog 14 #[v] w fun e w' => e = .returned (.int .i64 0) ∧ Below w.heap.size w w' := by
  have := ncheck_any N v w h
  rwa [hc] at this

theorem exits_mir (N : Net) (r : Rd) (p : Pc) (o : Rat) (v : Value) (w : World) (h : NV w v (rev N)) (g : Vld N) (g2 : Vld (rev N)) (hat : Nw.At N r p) (hatr : Nw.At (rev N) r.rev ⟨p.r, o⟩) (hz : Pl.Sz 2000 o) (ho : o = (r.l : Rat) - p.q) :
    Calls Tryz.prog 35 #[v, .agg #[.int .i64 p.r, .bool (ng o.num), .string (mg o.num.natAbs), .bool false, .string (mg (dn o))]] w fun e w' => ∃ v', e = .returned (.tuple #[v', .int .i64 0]) ∧ EL w' v' (entriesE r p.q) ∧ Below w.heap.size w w' := by
  have := exits_any (rev N) r.rev ⟨p.r, o⟩ v w h g2 hatr hz
  have hok := hat.ok g
  have e : exitsE r.rev o = entriesE r p.q := by rw [ho]; exact exits_rev hok.2.2.2.2.2.2.1 hok.2.2.1 p.q
  rwa [show exitsE r.rev (⟨p.r, o⟩ : Pc).q = entriesE r p.q from e] at this

set_option maxRecDepth 100000 in
set_option maxHeartbeats 8000000 in
theorem reverses_any (sp : List St) (la : List La) (wr1 wp1 : Int) (v : Value) (w : World) (h : GV w v sp la) (hu : GU sp la) (hwr1 : U8 wr1) (hwp1 : U8 wp1) :
    Calls Tryz.prog 9 #[v, .agg #[.int .u8 wr1, .int .u8 wp1]] w fun e w' => e = .returned (.bool true) ∧ Below w.heap.size w w' := by
  have HWR1 := Lib.hid hwr1
  have HWP1 := Lib.hid hwp1
  clear hwr1 hwp1
  obtain ⟨_, _, rfl, ha, hb⟩ := h
  obtain ⟨As, cs, rfl, hcs, hms, hxs⟩ := ha.open_
  obtain ⟨Al, cl, rfl, hcl, hml, hxl⟩ := hb.open_
  have HGV : Hid (GV w (.agg #[.slice As sp.length cs, .slice Al la.length cl]) sp la) := Lib.hid ⟨_, _, rfl, ha, hb⟩
  have HU := Lib.hid hu
  clear ha hb hxs hxl hcs hms hcl hml hu
  go_enter Tryz.func9, Tryz.ntmps9
  go_wp2_with (fail)
  refine calls_named ?_
  intro W1 hW1
  have hL1 : Below w.heap.size w W1 := by
    rw [hW1]
    repeat (first | with_reducible exact Below.refl _ _ | with_reducible refine bel_alloc ?_ _ | refine Below.setCell ?_ (by first | (simp; done) | (simp; omega) | omega) _)
  have c1 : Own W1 (w.heap.size) 0 [.slice As sp.length cs, .slice Al la.length cl] := by
    rw [hW1]
    first
    | (repeat (first | (with_reducible refine own_new (l := [.slice As sp.length cs, .slice Al la.length cl]) ?_; (simp; done)) | with_reducible refine Own.alloc ?_ _ | refine Own.far _ _ (by first | (simp; done) | (simp [*]; done) | (simp; omega)) ?_)); done
    | simp [Own, go_sem]
  have c2 : Own W1 (w.heap.size + 1) 0 [.int .u8 wr1, .int .u8 wp1] := by
    rw [hW1]
    first
    | (repeat (first | (with_reducible refine own_new (l := [.int .u8 wr1, .int .u8 wp1]) ?_; (simp; done)) | with_reducible refine Own.alloc ?_ _ | refine Own.far _ _ (by first | (simp; done) | (simp [*]; done) | (simp; omega)) ?_)); done
    | simp [Own, go_sem]
  have hB3 : Below w.heap.size w W1 := by
    rw [hW1]
    repeat (first | with_reducible exact Below.refl _ _ | with_reducible refine bel_alloc ?_ _ | refine Below.setCell ?_ (by first | (simp; done) | (simp; omega) | omega) _)
  clear hW1 hL1
  with_reducible refine (net_any sp la _ _ (HGV.out.up hB3) HU.out).mono ?_
  rintro e w1 ⟨v1, N, rfl, hv1, hok, hb1⟩
  have c4 := c1.up hb1
  have c5 := c2.up hb1
  have hB6 : Below w.heap.size w w1 := bel_up hB3 hb1
  clear c1 c2
  obtain ⟨va, vb, rfl, hn, hr⟩ := hv1
  obtain ⟨An, cn, rfl, hcn, hmn, hxn⟩ := hn.open_
  obtain ⟨Ar, cr, rfl, hcr, hmr, hxr⟩ := hr.open_
  have HNV1 : Hid (NV w1 (.agg #[.slice An N.ns.length cn, .slice Ar N.rs.length cr]) N) := Lib.hid ⟨_, _, rfl, hn, hr⟩
  generalize hNn : N.ns.length = Nn at *
  generalize hNr : N.rs.length = Nr at *
  clear hn hr hxn hxr
  have an7 : w1.heap.size ≤ w1.heap.size := by omega
  have ne8_ : w.heap.size < w1.heap.size := by have := c4.lt; omega
  have ne8 := Nat.ne_of_lt ne8_
  have ne8' := ne8.symm
  have ne9_ : w.heap.size + 1 < w1.heap.size := by have := c5.lt; omega
  have ne9 := Nat.ne_of_lt ne9_
  have ne9' := ne9.symm
  go_upto_region 2 with fail
  refine wp_named ?_
  intro W2 hW2
  have hL2 : Below w1.heap.size w1 W2 := by
    rw [hW2]
    repeat (first | with_reducible exact Below.refl _ _ | with_reducible refine bel_alloc ?_ _ | refine Below.setCell ?_ (by first | (simp; done) | (simp; omega) | omega) _)
  have c10 := c4.up hL2
  have c11 := c5.up hL2
  have c12 : Own W2 (w1.heap.size) 0 [((.slice An Nn cn)), ((.slice Ar Nr cr))] := by
    rw [hW2]
    first
    | (repeat (first | (with_reducible refine own_new (l := [((.slice An Nn cn)), ((.slice Ar Nr cr))]) ?_; (simp; done)) | with_reducible refine Own.alloc ?_ _ | refine Own.far _ _ (by first | (simp; done) | (simp [*]; done) | (simp; omega)) ?_)); done
    | simp [Own, go_sem, ne8, ne8', ne8_, ne9, ne9', ne9_]
  have hA13 := hL2
  have hB14 : Below w.heap.size w W2 := by
    rw [hW2]
    repeat (first | with_reducible exact hB6 | with_reducible refine bel_alloc ?_ _ | refine Below.setCell ?_ (by first | (simp; done) | (simp; omega) | omega) _)
  clear hW2 hL2 c4 c5
  have HNV2 : Hid (NV W2 (.agg #[.slice An Nn cn, .slice Ar Nr cr]) N) := Lib.hid (HNV1.out.up hA13)
  clear HNV1 hA13
  obtain ⟨w0, hw0⟩ : ∃ W_, W_ = w := ⟨_, rfl⟩
  subst hw0
  obtain ⟨w, hw⟩ : ∃ W_, W_ = W2 := ⟨_, rfl⟩
  subst hw
  have hBw := hB14
  clear hB14
  clear c10
  have HNV := HNV2
  have HG := Lib.hid hok.g
  have HOK := Lib.hid hok
  have hln := hok.g.ln
  have hlr := hok.g.lr
  have hn2 := hok.n2
  have hn8 := hok.n8
  have hr1 := hok.r1
  have hr13 := hok.r13
  rw [hNn] at hln hn2 hn8
  rw [hNr] at hlr hr1 hr13
  have HXN : Hid (LX CN 3 w An N.ns) := Lib.hid (nv_ns HNV.out)
  have HXR : Hid (LX CR 6 w Ar N.rs) := Lib.hid (nv_rs HNV.out)
  have HNn := Lib.hid hNn
  have HNr := Lib.hid hNr
  clear hok hNn hNr HNV2
  obtain ⟨r1, p1, hr_1, hp_1⟩ := place_ex HOK.out wr1 wp1
  obtain ⟨hat1, hz1⟩ := place_at HOK.out HWP1.out hr_1 hp_1
  have hq1 : Pl.Sz 2000 p1.q := hz1.mono (by decide)
  have HR1 := Lib.hid hr_1
  have HP1 := Lib.hid hp_1
  have HAT1 := Lib.hid hat1
  have HZ1 := Lib.hid hz1
  clear hr_1 hp_1 hat1 hz1
  obtain ⟨x1, hx1⟩ : ∃ x, pointN N r1 p1.q = x := ⟨_, rfl⟩
  obtain ⟨oq, hoq⟩ : ∃ q : Rat, q = (r1.l : Rat) - p1.q := ⟨_, rfl⟩
  have hrok := HAT1.out.ok HG.out
  have ZOQ : Pl.Sz 2000 oq := by rw [hoq]; exact ((sz_small (n := r1.l) (by have := hrok.2.2.1; omega) hrok.2.2.2.1).sub HZ1.out).mono (by decide)
  have hatr := at_rev HAT1.out
  have hx2 := point_rev (N := N) hrok.2.2.1 p1.q
  rw [← hoq] at hatr hx2
  rw [hx1] at hx2
  have HG2 := Lib.hid (rev_vld HG.out)
  have HCK := Lib.hid (chk_zero (rev_vld HG.out) (rev_c HOK.out.c))
  have HATR := Lib.hid hatr
  have HX1 := Lib.hid hx1
  have HX2 : Hid (pointN (rev N) r1.rev (Pc.mk p1.r oq).q = x1) := Lib.hid hx2
  have HOQ := Lib.hid hoq
  have EQb := fun W => eqP_in x1 x1 W
  rw [decide_eq_true rfl] at EQb
  clear hx1 hx2 hoq hatr hrok
  have uc11 := c11; have uc12 := c12
  simp only [At, Own, Nat.reduceAdd, and_true] at uc11 uc12
  have K15 := Lib.hid (fun W (hv : NV W (.agg #[.slice An Nn cn, .slice Ar Nr cr]) N) => place_any N r1 p1 wr1 wp1 _ W hv HOK.out HWR1.out HWP1.out HR1.out HP1.out)
  go_wp2_with (fail)
  refine calls_named ?_
  intro W3 hW3
  have hL3 : Below w.heap.size w W3 := by
    rw [hW3]
    repeat (first | with_reducible exact Below.refl _ _ | with_reducible refine bel_alloc ?_ _ | refine Below.setCell ?_ (by first | (simp; done) | (simp; omega) | omega) _)
  have c16 := c11.up hL3
  have c17 := c12.up hL3
  have hB18 : Below w.heap.size w W3 := by
    rw [hW3]
    repeat (first | with_reducible exact Below.refl _ _ | with_reducible refine bel_alloc ?_ _ | refine Below.setCell ?_ (by first | (simp; done) | (simp; omega) | omega) _)
  clear hW3 hL3 uc11 uc12 c11 c12
  with_reducible refine (K15.out _ (HNV.out.up hB18)).mono ?_
  rintro e w3 ⟨rfl, hb3⟩
  have c19 := c16.up hb3
  have c20 := c17.up hb3
  have hB21 : Below w.heap.size w w3 := bel_up hB18 hb3
  clear c16 c17
  have ne22_ : w0.heap.size + 1 < w3.heap.size := by have := c19.lt; omega
  have ne22 := Nat.ne_of_lt ne22_
  have ne22' := ne22.symm
  have ne23_ : w1.heap.size < w3.heap.size := by have := c20.lt; omega
  have ne23 := Nat.ne_of_lt ne23_
  have ne23' := ne23.symm
  have uc19 := c19; have uc20 := c20
  simp only [At, Own, Nat.reduceAdd, and_true] at uc19 uc20
  go_wp2_with (fail)
  refine calls_named ?_
  intro W4 hW4
  have hL4 : Below w3.heap.size w3 W4 := by
    rw [hW4]
    repeat (first | with_reducible exact Below.refl _ _ | with_reducible refine bel_alloc ?_ _ | refine Below.setCell ?_ (by first | (simp; done) | (simp; omega) | omega) _)
  have c24 := c19.up hL4
  have c25 := c20.up hL4
  have c26 : Own W4 (w3.heap.size) 0 [.int .i64 p1.r, .bool (ng p1.q.num), .string (mg p1.q.num.natAbs), .bool false, .string (mg (dn p1.q))] := by
    rw [hW4]
    first
    | (repeat (first | (with_reducible refine own_new (l := [.int .i64 p1.r, .bool (ng p1.q.num), .string (mg p1.q.num.natAbs), .bool false, .string (mg (dn p1.q))]) ?_; (simp; done)) | with_reducible refine Own.alloc ?_ _ | refine Own.far _ _ (by first | (simp; done) | (simp [*]; done) | (simp; omega)) ?_)); done
    | simp [Own, go_sem, uc19, uc20, ne22, ne22', ne22_, ne23, ne23', ne23_]
  have hB27 : Below w.heap.size w W4 := by
    rw [hW4]
    repeat (first | with_reducible exact hB21 | with_reducible refine bel_alloc ?_ _ | refine Below.setCell ?_ (by first | (simp; done) | (simp; omega) | omega) _)
  clear hW4 hL4 uc19 uc20 c19 c20
  with_reducible refine (reverse_any N _ _ (HNV.out.up hB27) HG.out).mono ?_
  rintro e w4 ⟨v2, rfl, hv2, hb4⟩
  have c28 := c24.up hb4
  have c29 := c25.up hb4
  have c30 := c26.up hb4
  have hB31 : Below w.heap.size w w4 := bel_up hB27 hb4
  clear c24 c25 c26
  obtain ⟨va2, vb2, rfl, hn2, hr2⟩ := hv2
  have hnl2 : (rev N).ns.length = Nn := HNn.out
  have hrl2 : (rev N).rs.length = Nr := by show (N.rs.map _).length = Nr; rw [List.length_map]; exact HNr.out
  obtain ⟨An2, cn2, hva2, -, -, hxn2⟩ := hn2.open_
  obtain ⟨Ar2, cr2, hvb2, -, -, hxr2⟩ := hr2.open_
  rw [hnl2] at hva2
  rw [hrl2] at hvb2
  subst hva2
  subst hvb2
  have HNV2 : Hid (NV w4 (.agg #[.slice An2 Nn cn2, .slice Ar2 Nr cr2]) (rev N)) := Lib.hid ⟨_, _, rfl, hn2, hr2⟩
  have HXR2 : Hid (LX CR 6 w4 Ar2 (N.rs.map Rd.rev)) := Lib.hid hxr2
  clear hn2 hr2 hxn2 hxr2 hnl2 hrl2
  have an32 : w4.heap.size ≤ w4.heap.size := by omega
  have ne33_ : w0.heap.size + 1 < w4.heap.size := by have := c28.lt; omega
  have ne33 := Nat.ne_of_lt ne33_
  have ne33' := ne33.symm
  have ne34_ : w1.heap.size < w4.heap.size := by have := c29.lt; omega
  have ne34 := Nat.ne_of_lt ne34_
  have ne34' := ne34.symm
  have ne35_ : w3.heap.size < w4.heap.size := by have := c30.lt; omega
  have ne35 := Nat.ne_of_lt ne35_
  have ne35' := ne35.symm
  have uc28 := c28; have uc29 := c29; have uc30 := c30
  simp only [At, Own, Nat.reduceAdd, and_true] at uc28 uc29 uc30
  have K36 := Lib.hid (fun W (hv : NV W (.agg #[.slice An Nn cn, .slice Ar Nr cr]) N) => mirror_at N r1 p1 oq _ W hv HG.out HAT1.out hq1 HOQ.out)
  go_wp2_with (fail)
  refine calls_named ?_
  intro W5 hW5
  have hL5 : Below w4.heap.size w4 W5 := by
    rw [hW5]
    repeat (first | with_reducible exact Below.refl _ _ | with_reducible refine bel_alloc ?_ _ | refine Below.setCell ?_ (by first | (simp; done) | (simp; omega) | omega) _)
  have c37 := c28.up hL5
  have c38 := c29.up hL5
  have c39 := c30.up hL5
  have c40 : Own W5 (w4.heap.size) 0 [.slice An2 Nn cn2, .slice Ar2 Nr cr2] := by
    rw [hW5]
    first
    | (repeat (first | (with_reducible refine own_new (l := [.slice An2 Nn cn2, .slice Ar2 Nr cr2]) ?_; (simp; done)) | with_reducible refine Own.alloc ?_ _ | refine Own.far _ _ (by first | (simp; done) | (simp [*]; done) | (simp; omega)) ?_)); done
    | simp [Own, go_sem, uc28, uc29, uc30, ne33, ne33', ne33_, ne34, ne34', ne34_, ne35, ne35', ne35_]
  have hA41 := hL5
  have hB42 : Below w.heap.size w W5 := by
    rw [hW5]
    repeat (first | with_reducible exact hB31 | with_reducible refine bel_alloc ?_ _ | refine Below.setCell ?_ (by first | (simp; done) | (simp; omega) | omega) _)
  clear hW5 hL5 uc28 uc29 uc30 c28 c29 c30
  with_reducible refine (K36.out _ (HNV.out.up hB42)).mono ?_
  rintro e w5 ⟨rfl, hb5⟩
  have c43 := c37.up hb5
  have c44 := c38.up hb5
  have c45 := c39.up hb5
  have c46 := c40.up hb5
  have hA47 := bel_up hA41 hb5
  have hB48 : Below w.heap.size w w5 := bel_up hB42 hb5
  clear c37 c38 c39 c40 hA41
  have an49 : w4.heap.size ≤ w5.heap.size := by have := hA47.size; omega
  have ne50_ : w0.heap.size + 1 < w5.heap.size := by have := c43.lt; omega
  have ne50 := Nat.ne_of_lt ne50_
  have ne50' := ne50.symm
  have ne51_ : w1.heap.size < w5.heap.size := by have := c44.lt; omega
  have ne51 := Nat.ne_of_lt ne51_
  have ne51' := ne51.symm
  have ne52_ : w3.heap.size < w5.heap.size := by have := c45.lt; omega
  have ne52 := Nat.ne_of_lt ne52_
  have ne52' := ne52.symm
  have ne53_ : w4.heap.size < w5.heap.size := by have := c46.lt; omega
  have ne53 := Nat.ne_of_lt ne53_
  have ne53' := ne53.symm
  have uc43 := c43; have uc44 := c44; have uc45 := c45; have uc46 := c46
  simp only [At, Own, Nat.reduceAdd, and_true] at uc43 uc44 uc45 uc46
  go_wp2_with (fail)
  refine calls_named ?_
  intro W6 hW6
  have hL6 : Below w5.heap.size w5 W6 := by
    rw [hW6]
    repeat (first | with_reducible exact Below.refl _ _ | with_reducible refine bel_alloc ?_ _ | refine Below.setCell ?_ (by first | (simp; done) | (simp; omega) | omega) _)
  have c54 := c43.up hL6
  have c55 := c44.up hL6
  have c56 := c45.up hL6
  have c57 := c46.up hL6
  have c58 : Own W6 (w5.heap.size) 0 [.int .i64 p1.r, .bool (ng oq.num), .string (mg oq.num.natAbs), .bool false, .string (mg (dn oq))] := by
    rw [hW6]
    first
    | (repeat (first | (with_reducible refine own_new (l := [.int .i64 p1.r, .bool (ng oq.num), .string (mg oq.num.natAbs), .bool false, .string (mg (dn oq))]) ?_; (simp; done)) | with_reducible refine Own.alloc ?_ _ | refine Own.far _ _ (by first | (simp; done) | (simp [*]; done) | (simp; omega)) ?_)); done
    | simp [Own, go_sem, uc43, uc44, uc45, uc46, ne50, ne50', ne50_, ne51, ne51', ne51_, ne52, ne52', ne52_, ne53, ne53', ne53_]
  have hA59 := bel_up hA47 hL6
  have hB60 : Below w.heap.size w W6 := by
    rw [hW6]
    repeat (first | with_reducible exact hB48 | with_reducible refine bel_alloc ?_ _ | refine Below.setCell ?_ (by first | (simp; done) | (simp; omega) | omega) _)
  clear hW6 hL6 uc43 uc44 uc45 uc46 c43 c44 c45 c46 hA47
  with_reducible refine (reverse_back N _ _ (HNV2.out.up hA59) HG.out).mono ?_
  rintro e w6 ⟨v3, rfl, hv3, hb6⟩
  have c61 := c54.up hb6
  have c62 := c55.up hb6
  have c63 := c56.up hb6
  have c64 := c57.up hb6
  have c65 := c58.up hb6
  have hA66 := bel_up hA59 hb6
  have hB67 : Below w.heap.size w w6 := bel_up hB60 hb6
  clear c54 c55 c56 c57 c58 hA59
  obtain ⟨va3, vb3, rfl, hn3, hr3⟩ := hv3
  have hnl3 : (N).ns.length = Nn := HNn.out
  have hrl3 : (N).rs.length = Nr := HNr.out
  obtain ⟨An3, cn3, hva3, -, -, hxn3⟩ := hn3.open_
  obtain ⟨Ar3, cr3, hvb3, -, -, hxr3⟩ := hr3.open_
  rw [hnl3] at hva3
  rw [hrl3] at hvb3
  subst hva3
  subst hvb3
  have HNV3 : Hid (NV w6 (.agg #[.slice An3 Nn cn3, .slice Ar3 Nr cr3]) (N)) := Lib.hid ⟨_, _, rfl, hn3, hr3⟩
  have HXR3 : Hid (LX CR 6 w6 Ar3 N.rs) := Lib.hid hxr3
  clear hn3 hr3 hxn3 hxr3 hnl3 hrl3
  have an68 : w4.heap.size ≤ w6.heap.size := by have := hA66.size; omega
  have an69 : w6.heap.size ≤ w6.heap.size := by omega
  have ne70_ : w0.heap.size + 1 < w6.heap.size := by have := c61.lt; omega
  have ne70 := Nat.ne_of_lt ne70_
  have ne70' := ne70.symm
  have ne71_ : w1.heap.size < w6.heap.size := by have := c62.lt; omega
  have ne71 := Nat.ne_of_lt ne71_
  have ne71' := ne71.symm
  have ne72_ : w3.heap.size < w6.heap.size := by have := c63.lt; omega
  have ne72 := Nat.ne_of_lt ne72_
  have ne72' := ne72.symm
  have ne73_ : w4.heap.size < w6.heap.size := by have := c64.lt; omega
  have ne73 := Nat.ne_of_lt ne73_
  have ne73' := ne73.symm
  have ne74_ : w5.heap.size < w6.heap.size := by have := c65.lt; omega
  have ne74 := Nat.ne_of_lt ne74_
  have ne74' := ne74.symm
  have uc61 := c61; have uc62 := c62; have uc63 := c63; have uc64 := c64; have uc65 := c65
  simp only [At, Own, Nat.reduceAdd, and_true] at uc61 uc62 uc63 uc64 uc65
  have K75 := Lib.hid (fun W (hv : NV W (.agg #[.slice An Nn cn, .slice Ar Nr cr]) N) => mirror_zero N _ W hv HG.out)
  go_wp2_with (fail)
  refine calls_named ?_
  intro W7 hW7
  have hL7 : Below w6.heap.size w6 W7 := by
    rw [hW7]
    repeat (first | with_reducible exact Below.refl _ _ | with_reducible refine bel_alloc ?_ _ | refine Below.setCell ?_ (by first | (simp; done) | (simp; omega) | omega) _)
  have c76 := c61.up hL7
  have c77 := c62.up hL7
  have c78 := c63.up hL7
  have c79 := c64.up hL7
  have c80 := c65.up hL7
  have c81 : Own W7 (w6.heap.size) 0 [.slice An3 Nn cn3, .slice Ar3 Nr cr3] := by
    rw [hW7]
    first
    | (repeat (first | (with_reducible refine own_new (l := [.slice An3 Nn cn3, .slice Ar3 Nr cr3]) ?_; (simp; done)) | with_reducible refine Own.alloc ?_ _ | refine Own.far _ _ (by first | (simp; done) | (simp [*]; done) | (simp; omega)) ?_)); done
    | simp [Own, go_sem, uc61, uc62, uc63, uc64, uc65, ne70, ne70', ne70_, ne71, ne71', ne71_, ne72, ne72', ne72_, ne73, ne73', ne73_, ne74, ne74', ne74_]
  have hA82 := bel_up hA66 hL7
  have hA83 := hL7
  have hB84 : Below w.heap.size w W7 := by
    rw [hW7]
    repeat (first | with_reducible exact hB67 | with_reducible refine bel_alloc ?_ _ | refine Below.setCell ?_ (by first | (simp; done) | (simp; omega) | omega) _)
  clear hW7 hL7 uc61 uc62 uc63 uc64 uc65 c61 c62 c63 c64 c65 hA66
  with_reducible refine (K75.out _ (HNV.out.up hB84)).mono ?_
  rintro e w7 ⟨rfl, hb7⟩
  have c85 := c76.up hb7
  have c86 := c77.up hb7
  have c87 := c78.up hb7
  have c88 := c79.up hb7
  have c89 := c80.up hb7
  have c90 := c81.up hb7
  have hA91 := bel_up hA82 hb7
  have hA92 := bel_up hA83 hb7
  have hB93 : Below w.heap.size w w7 := bel_up hB84 hb7
  clear c76 c77 c78 c79 c80 c81 hA82 hA83
  have an94 : w4.heap.size ≤ w7.heap.size := by have := hA91.size; omega
  have an95 : w6.heap.size ≤ w7.heap.size := by have := hA92.size; omega
  have ne96_ : w0.heap.size + 1 < w7.heap.size := by have := c85.lt; omega
  have ne96 := Nat.ne_of_lt ne96_
  have ne96' := ne96.symm
  have ne97_ : w1.heap.size < w7.heap.size := by have := c86.lt; omega
  have ne97 := Nat.ne_of_lt ne97_
  have ne97' := ne97.symm
  have ne98_ : w3.heap.size < w7.heap.size := by have := c87.lt; omega
  have ne98 := Nat.ne_of_lt ne98_
  have ne98' := ne98.symm
  have ne99_ : w4.heap.size < w7.heap.size := by have := c88.lt; omega
  have ne99 := Nat.ne_of_lt ne99_
  have ne99' := ne99.symm
  have ne100_ : w5.heap.size < w7.heap.size := by have := c89.lt; omega
  have ne100 := Nat.ne_of_lt ne100_
  have ne100' := ne100.symm
  have ne101_ : w6.heap.size < w7.heap.size := by have := c90.lt; omega
  have ne101 := Nat.ne_of_lt ne101_
  have ne101' := ne101.symm
  have uc85 := c85; have uc86 := c86; have uc87 := c87; have uc88 := c88; have uc89 := c89; have uc90 := c90
  simp only [At, Own, Nat.reduceAdd, and_true] at uc85 uc86 uc87 uc88 uc89 uc90
  have K102 := Lib.hid (fun W => known_any W)
  go_wp2_with (fail)
  refine calls_named ?_
  intro W8 hW8
  have hL8 : Below w7.heap.size w7 W8 := by
    rw [hW8]
    repeat (first | with_reducible exact Below.refl _ _ | with_reducible refine bel_alloc ?_ _ | refine Below.setCell ?_ (by first | (simp; done) | (simp; omega) | omega) _)
  have c103 := c85.up hL8
  have c104 := c86.up hL8
  have c105 := c87.up hL8
  have c106 := c88.up hL8
  have c107 := c89.up hL8
  have c108 := c90.up hL8
  have c109 : Own W8 (w7.heap.size) 0 [.int .i64 0, .bool false, .string ⟨#[]⟩, .bool false, .string ⟨#[]⟩] := by
    rw [hW8]
    first
    | (repeat (first | (with_reducible refine own_new (l := [.int .i64 0, .bool false, .string ⟨#[]⟩, .bool false, .string ⟨#[]⟩]) ?_; (simp; done)) | with_reducible refine Own.alloc ?_ _ | refine Own.far _ _ (by first | (simp; done) | (simp [*]; done) | (simp; omega)) ?_)); done
    | simp [Own, go_sem, uc85, uc86, uc87, uc88, uc89, uc90, ne96, ne96', ne96_, ne97, ne97', ne97_, ne98, ne98', ne98_, ne99, ne99', ne99_, ne100, ne100', ne100_, ne101, ne101', ne101_]
  have hA110 := bel_up hA91 hL8
  have hA111 := bel_up hA92 hL8
  have hB112 : Below w.heap.size w W8 := by
    rw [hW8]
    repeat (first | with_reducible exact hB93 | with_reducible refine bel_alloc ?_ _ | refine Below.setCell ?_ (by first | (simp; done) | (simp; omega) | omega) _)
  clear hW8 hL8 uc85 uc86 uc87 uc88 uc89 uc90 c85 c86 c87 c88 c89 c90 hA91 hA92
  with_reducible refine (K102.out _).mono ?_
  rintro e w8 ⟨rfl, hb8⟩
  have c113 := c103.up hb8
  have c114 := c104.up hb8
  have c115 := c105.up hb8
  have c116 := c106.up hb8
  have c117 := c107.up hb8
  have c118 := c108.up hb8
  have c119 := c109.up hb8
  have hA120 := bel_up hA110 hb8
  have hA121 := bel_up hA111 hb8
  have hB122 : Below w.heap.size w w8 := bel_up hB112 hb8
  clear c103 c104 c105 c106 c107 c108 c109 hA110 hA111
  have uc113 := c113; have uc114 := c114; have uc115 := c115; have uc116 := c116; have uc117 := c117; have uc118 := c118; have uc119 := c119
  simp only [At, Own, Nat.reduceAdd, and_true] at uc113 uc114 uc115 uc116 uc117 uc118 uc119
  have K123 := Lib.hid (fun W (hv : NV W (.agg #[.slice An2 Nn cn2, .slice Ar2 Nr cr2]) (rev N)) => ncheck_zero (rev N) _ W hv HCK.out)
  go_wp2_with (fail)
  refine calls_named ?_
  intro W9 hW9
  have hL9 : Below w8.heap.size w8 W9 := by
    rw [hW9]
    repeat (first | with_reducible exact Below.refl _ _ | with_reducible refine bel_alloc ?_ _ | refine Below.setCell ?_ (by first | (simp; done) | (simp; omega) | omega) _)
  have c124 := c113.up hL9
  have c125 := c114.up hL9
  have c126 := c115.up hL9
  have c127 := c116.up hL9
  have c128 := c117.up hL9
  have c129 := c118.up hL9
  have c130 := c119.up hL9
  have hA131 := bel_up hA120 hL9
  have hA132 := bel_up hA121 hL9
  have hB133 : Below w.heap.size w W9 := by
    rw [hW9]
    repeat (first | with_reducible exact hB122 | with_reducible refine bel_alloc ?_ _ | refine Below.setCell ?_ (by first | (simp; done) | (simp; omega) | omega) _)
  clear hW9 hL9 uc113 uc114 uc115 uc116 uc117 uc118 uc119 c113 c114 c115 c116 c117 c118 c119 hA120 hA121
  with_reducible refine (K123.out _ (HNV2.out.up hA131)).mono ?_
  rintro e w9 ⟨rfl, hb9⟩
  have c134 := c124.up hb9
  have c135 := c125.up hb9
  have c136 := c126.up hb9
  have c137 := c127.up hb9
  have c138 := c128.up hb9
  have c139 := c129.up hb9
  have c140 := c130.up hb9
  have hA141 := bel_up hA131 hb9
  have hA142 := bel_up hA132 hb9
  have hB143 : Below w.heap.size w w9 := bel_up hB133 hb9
  clear c124 c125 c126 c127 c128 c129 c130 hA131 hA132
  have uc134 := c134; have uc135 := c135; have uc136 := c136; have uc137 := c137; have uc138 := c138; have uc139 := c139; have uc140 := c140
  simp only [At, Own, Nat.reduceAdd, and_true] at uc134 uc135 uc136 uc137 uc138 uc139 uc140
  go_wp2_with fail
  go_loopw [13] (fun s13 wr => ∃ (i : Nat), s13 = .int .i64 i ∧ Own wr (w1.heap.size) 0 [.slice An Nn cn, .slice Ar Nr cr] ∧ Own wr (w3.heap.size) 0 [.int .i64 p1.r, .bool (ng p1.q.num), .string (mg p1.q.num.natAbs), .bool false, .string (mg (dn p1.q))] ∧ Own wr (w4.heap.size) 0 [.slice An2 Nn cn2, .slice Ar2 Nr cr2] ∧ Own wr (w5.heap.size) 0 [.int .i64 p1.r, .bool (ng oq.num), .string (mg oq.num.natAbs), .bool false, .string (mg (dn oq))] ∧ Own wr (w6.heap.size) 0 [.slice An3 Nn cn3, .slice Ar3 Nr cr3] ∧ Below w4.heap.size w4 wr ∧ Below w6.heap.size w6 wr ∧ Below w.heap.size w wr ∧ i ≤ Nr) (fun s13 _ => Nr - (intOf s13).toNat)
  case atStart => exact ⟨0, rfl, c135, c136, c137, c138, c139, hA141, hA142, hB143, (by omega)⟩
  case round =>
    clear c135 c136 c137 c138 c139 hB143 uc134 uc135 uc136 uc137 uc138 uc139 uc140 hA141 hA142
    obtain ⟨i, rfl, b144, b145, b146, b147, b148, hA149, hA150, hB151, hi⟩ := hrel
    obtain ⟨wr152, hwr152⟩ : ∃ W_, W_ = wr := ⟨_, rfl⟩
    subst hwr152
    by_cases hlti : i < Nr
    · skip
      have i1i : (i : Int) < Nr := by omega
      have hszr := (hB151).size
      obtain ⟨x153, hx154⟩ : ∃ x, N.rs[i]? = some x := ⟨_, List.getElem?_eq_getElem (by rw [HNr.out]; omega)⟩
      have Hhx154 := Lib.hid hx154
      clear hx154
      obtain ⟨y, hy⟩ : ∃ y, y = x153.rev := ⟨_, rfl⟩
      have HY2 : Hid ((N.rs.map Rd.rev)[i]? = some y) := Lib.hid (by rw [List.getElem?_map, Hhx154.out, hy]; rfl)
      have EQ0 := fun W => eqRd_in x153 x153 W
      rw [decide_eq_true rfl] at EQ0
      have EQ1 := fun W => eqRd_in y (Rd.mk x153.i x153.t x153.f x153.l x153.m x153.o) W
      rw [decide_eq_true (show y = Rd.mk x153.i x153.t x153.f x153.l x153.m x153.o from hy)] at EQ1
      dsimp only at EQ1
      clear hy
      have ub144 := b144; have ub145 := b145; have ub146 := b146; have ub147 := b147; have ub148 := b148
      simp only [At, Own, Nat.reduceAdd, and_true] at ub144 ub145 ub146 ub147 ub148
      obtain ⟨g156, o157, ha158, -⟩ := (HXR.out).up kpR hB151 _ _ Hhx154.out
      subst ha158
      have ce155 := LX.at_ ((HXR.out).up kpR hB151) Hhx154.out
      have ce155_ : g156 < wr152.heap.size := World.block_lt_of_cell? _ _ ce155.1
      have uce155 := ce155
      simp only [CR, rdc, At, Nat.reduceMul] at uce155
      have an159 : w4.heap.size ≤ wr152.heap.size := by have := hA149.size; omega
      have an160 : w6.heap.size ≤ wr152.heap.size := by have := hA150.size; omega
      have ne161_ : w1.heap.size < wr152.heap.size := by have := b144.lt; omega
      have ne161 := Nat.ne_of_lt ne161_
      have ne161' := ne161.symm
      have ne162_ : w3.heap.size < wr152.heap.size := by have := b145.lt; omega
      have ne162 := Nat.ne_of_lt ne162_
      have ne162' := ne162.symm
      have ne163_ : w4.heap.size < wr152.heap.size := by have := b146.lt; omega
      have ne163 := Nat.ne_of_lt ne163_
      have ne163' := ne163.symm
      have ne164_ : w5.heap.size < wr152.heap.size := by have := b147.lt; omega
      have ne164 := Nat.ne_of_lt ne164_
      have ne164' := ne164.symm
      have ne165_ : w6.heap.size < wr152.heap.size := by have := b148.lt; omega
      have ne165 := Nat.ne_of_lt ne165_
      have ne165' := ne165.symm
      have ne166_ : g156 < wr152.heap.size := by omega
      have ne166 := Nat.ne_of_lt ne166_
      have ne166' := ne166.symm
      go_wp2_with fail
      refine wp_named ?_
      intro W10 hW10
      have hL10 : Below wr152.heap.size wr152 W10 := by
        rw [hW10]
        repeat (first | with_reducible exact Below.refl _ _ | with_reducible refine bel_alloc ?_ _ | refine Below.setCell ?_ (by first | (simp; done) | (simp; omega) | omega) _)
      have c167 := b144.up hL10
      have c168 := b145.up hL10
      have c169 := b146.up hL10
      have c170 := b147.up hL10
      have c171 := b148.up hL10
      have c172 : Own W10 (wr152.heap.size) 0 [.int .i64 x153.i, .int .i64 x153.f, .int .i64 x153.t, .int .i64 x153.l, .int .i64 x153.m, .bool x153.o] := by
        rw [hW10]
        first
        | (repeat (first | (with_reducible refine own_new (l := [.int .i64 x153.i, .int .i64 x153.f, .int .i64 x153.t, .int .i64 x153.l, .int .i64 x153.m, .bool x153.o]) ?_; (simp; done)) | with_reducible refine Own.alloc ?_ _ | refine Own.far _ _ (by first | (simp; done) | (simp [*]; done) | (simp; omega)) ?_)); done
        | simp [Own, go_sem, ub144, ub145, ub146, ub147, ub148, uce155, ne161, ne161', ne161_, ne162, ne162', ne162_, ne163, ne163', ne163_, ne164, ne164', ne164_, ne165, ne165', ne165_, ne166, ne166', ne166_]
      have hA173 := bel_up hA149 hL10
      have hA174 := bel_up hA150 hL10
      have hB175 : Below w.heap.size w W10 := by
        rw [hW10]
        repeat (first | with_reducible exact hB151 | with_reducible refine bel_alloc ?_ _ | refine Below.setCell ?_ (by first | (simp; done) | (simp; omega) | omega) _)
      clear hW10 hL10 ub144 ub145 ub146 ub147 ub148 uce155 b144 b145 b146 b147 b148 hA149 hA150
      have dc167 := fun p : Bel W10 => c167.bel p; have dc168 := fun p : Bel W10 => c168.bel p; have dc169 := fun p : Bel W10 => c169.bel p; have dc170 := fun p : Bel W10 => c170.bel p; have dc171 := fun p : Bel W10 => c171.bel p; have dc172 := fun p : Bel W10 => c172.bel p
      simp only [At, Own, Nat.reduceAdd, and_true] at dc167 dc168 dc169 dc170 dc171 dc172
      obtain ⟨g177, o178, ha179, -⟩ := (LX.up HXR3.out kpR hA174) _ _ Hhx154.out
      subst ha179
      have ce176 := LX.at_ ((LX.up HXR3.out kpR hA174)) Hhx154.out
      have ce176_ : g177 < W10.heap.size := World.block_lt_of_cell? _ _ ce176.1
      have dce176 := fun b : Bel W10 => ce176.bel b
      simp only [CR, rdc, At, Nat.reduceMul] at dce176
      refine wp_region_all (by kernel_rfl) (by kernel_rfl) ?_
      repeat (go_big_quiet_step (fail))
      refine wpQuiet_nil ?_
      intro w10 hb10
      have c180 := c167.up hb10
      have c181 := c168.up hb10
      have c182 := c169.up hb10
      have c183 := c170.up hb10
      have c184 := c171.up hb10
      have c185 := c172.up hb10
      have hA186 := bel_up hA173 hb10
      have hA187 := bel_up hA174 hb10
      have hB188 : Below w.heap.size w w10 := bel_up hB175 hb10
      clear dc167 dc168 dc169 dc170 dc171 dc172 dce176 c167 c168 c169 c170 c171 c172 hA173 hA174
      have uc180 := c180; have uc181 := c181; have uc182 := c182; have uc183 := c183; have uc184 := c184; have uc185 := c185
      simp only [At, Own, Nat.reduceAdd, and_true] at uc180 uc181 uc182 uc183 uc184 uc185
      go_wp2_with fail
      refine wp_named ?_
      intro W11 hW11
      have c189 : Own W11 (w1.heap.size) 0 [.slice An Nn cn, .slice (some ⟨g156, o157, none⟩) Nr cr] := by rw [hW11]; simp [Own, go_sem, uc180, uc181, uc182, uc183, uc184, uc185]
      have c190 : Own W11 (w3.heap.size) 0 [.int .i64 p1.r, .bool (ng p1.q.num), .string (mg p1.q.num.natAbs), .bool false, .string (mg (dn p1.q))] := by rw [hW11]; simp [Own, go_sem, uc180, uc181, uc182, uc183, uc184, uc185]
      have c191 : Own W11 (w4.heap.size) 0 [.slice An2 Nn cn2, .slice Ar2 Nr cr2] := by rw [hW11]; simp [Own, go_sem, uc180, uc181, uc182, uc183, uc184, uc185]
      have c192 : Own W11 (w5.heap.size) 0 [.int .i64 p1.r, .bool (ng oq.num), .string (mg oq.num.natAbs), .bool false, .string (mg (dn oq))] := by rw [hW11]; simp [Own, go_sem, uc180, uc181, uc182, uc183, uc184, uc185]
      have c193 : Own W11 (w6.heap.size) 0 [.slice An3 Nn cn3, .slice (some ⟨g177, o178, none⟩) Nr cr3] := by rw [hW11]; simp [Own, go_sem, uc180, uc181, uc182, uc183, uc184, uc185]
      have c194 : Own W11 (wr152.heap.size) 0 [.int .i64 x153.i, .int .i64 x153.t, .int .i64 x153.f, .int .i64 x153.l, .int .i64 x153.m, .bool x153.o] := by rw [hW11]; simp [Own, go_sem, uc180, uc181, uc182, uc183, uc184, uc185]
      have hA195 : Below w4.heap.size w4 W11 := by
        rw [hW11]
        repeat (first | with_reducible exact hA186 | with_reducible refine bel_alloc ?_ _ | refine Below.setCell ?_ (by first | (simp; done) | (simp; omega) | omega) _)
      have hA196 : Below w6.heap.size w6 W11 := by
        rw [hW11]
        repeat (first | with_reducible exact hA187 | with_reducible refine bel_alloc ?_ _ | refine Below.setCell ?_ (by first | (simp; done) | (simp; omega) | omega) _)
      have hB197 : Below w.heap.size w W11 := by
        rw [hW11]
        repeat (first | with_reducible exact hB188 | with_reducible refine bel_alloc ?_ _ | refine Below.setCell ?_ (by first | (simp; done) | (simp; omega) | omega) _)
      clear hW11 uc180 uc181 uc182 uc183 uc184 uc185 c180 c181 c182 c183 c184 c185 hA186 hA187
      have dc189 := fun p : Bel W11 => c189.bel p; have dc190 := fun p : Bel W11 => c190.bel p; have dc191 := fun p : Bel W11 => c191.bel p; have dc192 := fun p : Bel W11 => c192.bel p; have dc193 := fun p : Bel W11 => c193.bel p; have dc194 := fun p : Bel W11 => c194.bel p
      simp only [At, Own, Nat.reduceAdd, and_true] at dc189 dc190 dc191 dc192 dc193 dc194
      obtain ⟨g199, o200, ha201, -⟩ := (LX.up HXR2.out kpR hA195) _ _ HY2.out
      subst ha201
      have ce198 := LX.at_ ((LX.up HXR2.out kpR hA195)) HY2.out
      have ce198_ : g199 < W11.heap.size := World.block_lt_of_cell? _ _ ce198.1
      have dce198 := fun b : Bel W11 => ce198.bel b
      simp only [CR, rdc, At, Nat.reduceMul] at dce198
      refine wp_region_all (by kernel_rfl) (by kernel_rfl) ?_
      repeat (go_big_quiet_step (fail))
      refine wpQuiet_nil ?_
      intro w11 hb11
      have c202 := c189.up hb11
      have c203 := c190.up hb11
      have c204 := c191.up hb11
      have c205 := c192.up hb11
      have c206 := c193.up hb11
      have c207 := c194.up hb11
      have hA208 := bel_up hA195 hb11
      have hA209 := bel_up hA196 hb11
      have hB210 : Below w.heap.size w w11 := bel_up hB197 hb11
      clear dc189 dc190 dc191 dc192 dc193 dc194 dce198 c189 c190 c191 c192 c193 c194 hA195 hA196
      have uc202 := c202; have uc203 := c203; have uc204 := c204; have uc205 := c205; have uc206 := c206; have uc207 := c207
      simp only [At, Own, Nat.reduceAdd, and_true] at uc202 uc203 uc204 uc205 uc206 uc207
      go_wp2
      go_roundw
      case rel => exact ⟨(i + 1), (by first | rfl | exact congrArg (Value.int .i64) (by omega) | simp [*]), (by repeat (first | with_reducible exact c202 | refine Own.far _ _ (by simp <;> omega) ?_ | with_reducible refine Own.alloc ?_ _)), (by repeat (first | with_reducible exact c203 | refine Own.far _ _ (by simp <;> omega) ?_ | with_reducible refine Own.alloc ?_ _)), (by repeat (first | with_reducible exact c204 | refine Own.far _ _ (by simp <;> omega) ?_ | with_reducible refine Own.alloc ?_ _)), (by repeat (first | with_reducible exact c205 | refine Own.far _ _ (by simp <;> omega) ?_ | with_reducible refine Own.alloc ?_ _)), (by repeat (first | with_reducible exact c206 | refine Own.far _ _ (by simp <;> omega) ?_ | with_reducible refine Own.alloc ?_ _)), (by repeat (first | with_reducible exact hA208 | with_reducible refine bel_alloc ?_ _ | refine Below.setCell ?_ (by first | (simp; done) | (simp; omega) | omega) _)), (by repeat (first | with_reducible exact hA209 | with_reducible refine bel_alloc ?_ _ | refine Below.setCell ?_ (by first | (simp; done) | (simp; omega) | omega) _)), (by repeat (first | with_reducible exact hB210 | with_reducible refine bel_alloc ?_ _ | refine Below.setCell ?_ (by first | (simp; done) | (simp; omega) | omega) _)), (by omega)⟩
      case measure => simp [intOf] <;> omega
    · skip
      have i1i : ¬ (i : Int) < Nr := by omega
      have ub144 := b144; have ub145 := b145; have ub146 := b146; have ub147 := b147; have ub148 := b148
      simp only [At, Own, Nat.reduceAdd, and_true] at ub144 ub145 ub146 ub147 ub148
      have K211 := Lib.hid (fun W (hv : NV W (.agg #[.slice An2 Nn cn2, .slice Ar2 Nr cr2]) (rev N)) => exits_mir N r1 p1 oq _ W hv HG.out HG2.out HAT1.out HATR.out ZOQ HOQ.out)
      go_wp2_with (fail)
      refine calls_named ?_
      intro W12 hW12
      have hL12 : Below wr152.heap.size wr152 W12 := by
        rw [hW12]
        repeat (first | with_reducible exact Below.refl _ _ | with_reducible refine bel_alloc ?_ _ | refine Below.setCell ?_ (by first | (simp; done) | (simp; omega) | omega) _)
      have c212 := b144.up hL12
      have c213 := b145.up hL12
      have c214 := b146.up hL12
      have c215 := b147.up hL12
      have c216 := b148.up hL12
      have hA217 := bel_up hA149 hL12
      have hA218 := bel_up hA150 hL12
      have hB219 : Below w.heap.size w W12 := by
        rw [hW12]
        repeat (first | with_reducible exact hB151 | with_reducible refine bel_alloc ?_ _ | refine Below.setCell ?_ (by first | (simp; done) | (simp; omega) | omega) _)
      clear hW12 hL12 ub144 ub145 ub146 ub147 ub148 b144 b145 b146 b147 b148 hA149 hA150
      with_reducible refine (K211.out _ (HNV2.out.up hA217)).mono ?_
      rintro e w12 ⟨v12, rfl, hv12, hb12⟩
      have c220 := c212.up hb12
      have c221 := c213.up hb12
      have c222 := c214.up hb12
      have c223 := c215.up hb12
      have c224 := c216.up hb12
      have hA225 := bel_up hA217 hb12
      have hA226 := bel_up hA218 hb12
      have hB227 : Below w.heap.size w w12 := bel_up hB219 hb12
      clear c212 c213 c214 c215 c216 hA217 hA218
      have PW12 := Lib.hid hv12
      clear hv12
      go_upto_region 19 with fail
      refine wp_named ?_
      intro W13 hW13
      have hL13 : Below w12.heap.size w12 W13 := by
        rw [hW13]
        repeat (first | with_reducible exact Below.refl _ _ | with_reducible refine bel_alloc ?_ _ | refine Below.setCell ?_ (by first | (simp; done) | (simp; omega) | omega) _)
      have c228 := c220.up hL13
      have c229 := c221.up hL13
      have c230 := c222.up hL13
      have c231 := c223.up hL13
      have c232 := c224.up hL13
      have hA233 := bel_up hA225 hL13
      have hA234 := bel_up hA226 hL13
      have hA235 := hL13
      have hB236 : Below w.heap.size w W13 := by
        rw [hW13]
        repeat (first | with_reducible exact hB227 | with_reducible refine bel_alloc ?_ _ | refine Below.setCell ?_ (by first | (simp; done) | (simp; omega) | omega) _)
      clear hW13 hL13 c220 c221 c222 c223 c224 hA225 hA226
      have K237 := Lib.hid (fun W (hv : NV W (.agg #[.slice An2 Nn cn2, .slice Ar2 Nr cr2]) (rev N)) => lcplace_ok (rev N) r1.rev (Pc.mk p1.r oq) _ W hv HG2.out HATR.out ZOQ)
      have K239 := Lib.hid (fun W (hv : NV W (.agg #[.slice An2 Nn cn2, .slice Ar2 Nr cr2]) (rev N)) => lpoint_any (rev N) r1.rev (Pc.mk p1.r oq) x1 _ W hv HG2.out HATR.out ZOQ HX2.out)
      have K241 := Lib.hid (fun W (hv : NV W (.agg #[.slice An Nn cn, .slice Ar Nr cr]) N) => lpoint_any N r1 p1 x1 _ W hv HG.out HAT1.out hq1 HX1.out)
      have K243 := Lib.hid (fun W (hv : NV W (.agg #[.slice An Nn cn, .slice Ar Nr cr]) N) => lends_en N r1 p1 _ W hv HG.out HAT1.out hq1)
      have K245 := Lib.hid (fun W va vb (ha : EL W va (entriesE r1 p1.q)) (hb : EL W vb (entriesE r1 p1.q)) => lsends_eq (entriesE r1 p1.q) va vb W ha hb (entries_le _ _))
      have HSS247 : ∀ w' : World, Below W13.heap.size W13 w' → (w'.cell? ⟨w1.heap.size, 0, none⟩ = some (.slice An Nn cn) ∧ w'.cell? ⟨w1.heap.size, 1, none⟩ = some (.slice Ar Nr cr) ∧ w'.cell? ⟨w3.heap.size, 0, none⟩ = some (.int .i64 p1.r) ∧ w'.cell? ⟨w3.heap.size, 1, none⟩ = some (.bool (ng p1.q.num)) ∧ w'.cell? ⟨w3.heap.size, 2, none⟩ = some (.string (mg p1.q.num.natAbs)) ∧ w'.cell? ⟨w3.heap.size, 3, none⟩ = some (.bool false) ∧ w'.cell? ⟨w3.heap.size, 4, none⟩ = some (.string (mg (dn p1.q))) ∧ w'.cell? ⟨w4.heap.size, 0, none⟩ = some (.slice An2 Nn cn2) ∧ w'.cell? ⟨w4.heap.size, 1, none⟩ = some (.slice Ar2 Nr cr2) ∧ w'.cell? ⟨w5.heap.size, 0, none⟩ = some (.int .i64 p1.r) ∧ w'.cell? ⟨w5.heap.size, 1, none⟩ = some (.bool (ng oq.num)) ∧ w'.cell? ⟨w5.heap.size, 2, none⟩ = some (.string (mg oq.num.natAbs)) ∧ w'.cell? ⟨w5.heap.size, 3, none⟩ = some (.bool false) ∧ w'.cell? ⟨w5.heap.size, 4, none⟩ = some (.string (mg (dn oq)))) := fun w' hb => by
        have qc228 := c228.up hb; have qc229 := c229.up hb; have qc230 := c230.up hb; have qc231 := c231.up hb
        simp only [At, Own, CE, CS, Nat.reduceAdd, Nat.reduceMul, Nat.zero_mul, Nat.add_zero, Nat.add_assoc, and_true] at qc228 qc229 qc230 qc231
        try simp only [Nat.add_assoc, Nat.reduceAdd]
        simp [*]
      go_cut [4] (fun x4 wx => x4 = .bool true ∧ Below W13.heap.size W13 wx)
      case first =>
        have hu := HSS247 W13 (Below.refl _ _)
        go_region_held3 (fun w' => w'.cell? ⟨w1.heap.size, 0, none⟩ = some (.slice An Nn cn) ∧ w'.cell? ⟨w1.heap.size, 1, none⟩ = some (.slice Ar Nr cr) ∧ w'.cell? ⟨w3.heap.size, 0, none⟩ = some (.int .i64 p1.r) ∧ w'.cell? ⟨w3.heap.size, 1, none⟩ = some (.bool (ng p1.q.num)) ∧ w'.cell? ⟨w3.heap.size, 2, none⟩ = some (.string (mg p1.q.num.natAbs)) ∧ w'.cell? ⟨w3.heap.size, 3, none⟩ = some (.bool false) ∧ w'.cell? ⟨w3.heap.size, 4, none⟩ = some (.string (mg (dn p1.q))) ∧ w'.cell? ⟨w4.heap.size, 0, none⟩ = some (.slice An2 Nn cn2) ∧ w'.cell? ⟨w4.heap.size, 1, none⟩ = some (.slice Ar2 Nr cr2) ∧ w'.cell? ⟨w5.heap.size, 0, none⟩ = some (.int .i64 p1.r) ∧ w'.cell? ⟨w5.heap.size, 1, none⟩ = some (.bool (ng oq.num)) ∧ w'.cell? ⟨w5.heap.size, 2, none⟩ = some (.string (mg oq.num.natAbs)) ∧ w'.cell? ⟨w5.heap.size, 3, none⟩ = some (.bool false) ∧ w'.cell? ⟨w5.heap.size, 4, none⟩ = some (.string (mg (dn oq)))) (refine HSS247 _ ?_ <;> (repeat (first | with_reducible exact Below.refl _ _ | with_reducible refine bel_alloc ?_ _ | with_reducible refine Below.drew ?_ | (refine Below.setCell ?_ (by first | (simp; done) | (simp; omega) | omega) _) | with_reducible refine bel_up ?_ (by with_reducible assumption)))) (first
          | (go_at_call 20; with_reducible refine (K237.out _ (HNV2.out.up (bel_up hA233 (by (repeat (first | with_reducible exact Below.refl _ _ | with_reducible refine bel_alloc ?_ _ | with_reducible refine Below.drew ?_ | (refine Below.setCell ?_ (by first | (simp; done) | (simp; omega) | omega) _) | with_reducible refine bel_up ?_ (by with_reducible assumption))))))).mono ?_; rintro e v_238 ⟨rfl, hbq_238⟩; have hsz_238 := hbq_238.size; (try simp [size_drewC] at hsz_238))
          | (go_at_call 22; with_reducible refine (K239.out _ (HNV2.out.up (bel_up hA233 (by (repeat (first | with_reducible exact Below.refl _ _ | with_reducible refine bel_alloc ?_ _ | with_reducible refine Below.drew ?_ | (refine Below.setCell ?_ (by first | (simp; done) | (simp; omega) | omega) _) | with_reducible refine bel_up ?_ (by with_reducible assumption))))))).mono ?_; rintro e v_240 ⟨rfl, hbq_240⟩; have hsz_240 := hbq_240.size; (try simp [size_drewC] at hsz_240))
          | (go_at_call 22; with_reducible refine (K241.out _ (HNV.out.up (bel_up hB236 (by (repeat (first | with_reducible exact Below.refl _ _ | with_reducible refine bel_alloc ?_ _ | with_reducible refine Below.drew ?_ | (refine Below.setCell ?_ (by first | (simp; done) | (simp; omega) | omega) _) | with_reducible refine bel_up ?_ (by with_reducible assumption))))))).mono ?_; rintro e v_242 ⟨rfl, hbq_242⟩; have hsz_242 := hbq_242.size; (try simp [size_drewC] at hsz_242))
          | (go_at_call 39; with_reducible refine (K243.out _ (HNV.out.up (bel_up hB236 (by (repeat (first | with_reducible exact Below.refl _ _ | with_reducible refine bel_alloc ?_ _ | with_reducible refine Below.drew ?_ | (refine Below.setCell ?_ (by first | (simp; done) | (simp; omega) | omega) _) | with_reducible refine bel_up ?_ (by with_reducible assumption))))))).mono ?_; rintro e v_244 ⟨vv_244, rfl, hv_244, hbq_244⟩; have hsz_244 := hbq_244.size; (try simp [size_drewC] at hsz_244))
          | (go_at_call 38; with_reducible refine (K245.out _ _ _ ((PW12.out.up hA235).up (by (repeat (first | with_reducible exact Below.refl _ _ | with_reducible refine bel_alloc ?_ _ | with_reducible refine Below.drew ?_ | (refine Below.setCell ?_ (by first | (simp; done) | (simp; omega) | omega) _) | with_reducible refine bel_up ?_ (by with_reducible assumption))))) (hv_244.up (by (repeat (first | with_reducible exact Below.refl _ _ | with_reducible refine bel_alloc ?_ _ | with_reducible refine Below.drew ?_ | (refine Below.setCell ?_ (by first | (simp; done) | (simp; omega) | omega) _) | with_reducible refine bel_up ?_ (by with_reducible assumption)))))).mono ?_; rintro e v_246 ⟨rfl, hbq_246⟩; have hsz_246 := hbq_246.size; (try simp [size_drewC] at hsz_246)))
        all_goals
          go_wp2_with fail
          go_meet
          refine ⟨rfl, ?_⟩
          · (repeat (first | with_reducible exact Below.refl _ _ | with_reducible refine bel_alloc ?_ _ | with_reducible refine Below.drew ?_ | (refine Below.setCell ?_ (by first | (simp; done) | (simp; omega) | omega) _) | with_reducible refine bel_up ?_ (by with_reducible assumption)))
      case rest =>
        obtain ⟨rfl, hbz13⟩ := hcut
        obtain ⟨wz13, hwz13⟩ : ∃ W_, W_ = wc := ⟨_, rfl⟩
        subst hwz13
        clear HSS247
        have c248 := c228.up hbz13
        have c249 := c229.up hbz13
        have c250 := c230.up hbz13
        have c251 := c231.up hbz13
        have c252 := c232.up hbz13
        have hA253 := bel_up hA233 hbz13
        have hA254 := bel_up hA234 hbz13
        have hA255 := bel_up hA235 hbz13
        have hB256 : Below w.heap.size w wz13 := bel_up hB236 hbz13
        clear c228 c229 c230 c231 c232 hA233 hA234 hA235
        have uc248 := c248; have uc249 := c249; have uc250 := c250; have uc251 := c251; have uc252 := c252
        simp only [At, Own, Nat.reduceAdd, and_true] at uc248 uc249 uc250 uc251 uc252
        go_wp2
        go_ret
        exact ⟨rfl, bel_up hBw (by repeat (first | with_reducible exact hB256 | with_reducible refine bel_alloc ?_ _ | refine Below.setCell ?_ (by first | (simp; done) | (simp; omega) | omega) _))⟩
end Go.Proofs.YtldfencaoaikgaaGreatDoor
