/-
  The law Exits.
-/
import Derived.Test.YtldfencaoaikgaaGreatDoorULfE
set_option linter.unusedSimpArgs false
set_option linter.unusedVariables false
namespace Go.Proofs.YtldfencaoaikgaaGreatDoor
open Go Go.RowKit Nw

theorem exits_zero (N : Net) (v : Value) (w : World) (h : NV w v N) (g : Vld N) :
    Calls Tryz.prog 35 #[v, .agg #[.int .i64 0, .bool false, .string ⟨#[]⟩, .bool false, .string ⟨#[]⟩]] w fun e w' => e = .returned (.tuple #[.slice none 0 0, .int .i64 9]) ∧ Below w.heap.size w w' := by
  have := exits_none N ⟨0, 0⟩ 9 v w h g (frd_zero g) (Pl.sz_zero.mono (by decide)) (placeE_none (frd_zero g)) (by decide)
  exact this

set_option maxRecDepth 100000 in
set_option maxHeartbeats 8000000 in
theorem lexits_any (sp : List St) (la : List La) (wr1 wp1 : Int) (v : Value) (w : World) (h : GV w v sp la) (hu : GU sp la) (hwr1 : U8 wr1) (hwp1 : U8 wp1) :
    Calls Tryz.prog 8 #[v, .agg #[.int .u8 wr1, .int .u8 wp1]] w fun e w' => e = .returned (.bool true) ∧ Below w.heap.size w w' := by
  have HWR1 := Lib.hid hwr1
  have HWP1 := Lib.hid hwp1
  clear hwr1 hwp1
  obtain ⟨_, _, rfl, ha, hb⟩ := h
  obtain ⟨As, cs, rfl, hcs, hms, hxs⟩ := ha.open_
  obtain ⟨Al, cl, rfl, hcl, hml, hxl⟩ := hb.open_
  have HGV : Hid (GV w (.agg #[.slice As sp.length cs, .slice Al la.length cl]) sp la) := Lib.hid ⟨_, _, rfl, ha, hb⟩
  have HU := Lib.hid hu
  clear ha hb hxs hxl hcs hms hcl hml hu
  go_enter Tryz.func8, Tryz.ntmps8
  go_wp2_with (fail)
  refine calls_named ?_
  intro W1 hW1
  have hL1 : Below w.heap.size w W1 := by
    rw [hW1]
    repeat (first | with_reducible exact Below.refl _ _ | with_reducible refine bel_alloc ?_ _ | refine Below.setCell ?_ (by first | (simp; done) | (simp; omega) | omega) _)
  have c1 : Own W1 (w.heap.size) 0 [.slice As sp.length cs, .slice Al la.length cl] := by
    rw [hW1]
    first
    | (repeat (first | (with_reducible refine own_new (l := [.slice As sp.length cs, .slice Al la.length cl]) ?_; (simp; done)) | with_reducible refine Own.alloc ?_ _ | refine Own.far _ _ (by first | (simp; done) | (simp [*]; done) | (simp; omega)) ?_)); done
    | simp [Own, go_sem]
  have c2 : Own W1 (w.heap.size + 1) 0 [.int .u8 wr1, .int .u8 wp1] := by
    rw [hW1]
    first
    | (repeat (first | (with_reducible refine own_new (l := [.int .u8 wr1, .int .u8 wp1]) ?_; (simp; done)) | with_reducible refine Own.alloc ?_ _ | refine Own.far _ _ (by first | (simp; done) | (simp [*]; done) | (simp; omega)) ?_)); done
    | simp [Own, go_sem]
  have hB3 : Below w.heap.size w W1 := by
    rw [hW1]
    repeat (first | with_reducible exact Below.refl _ _ | with_reducible refine bel_alloc ?_ _ | refine Below.setCell ?_ (by first | (simp; done) | (simp; omega) | omega) _)
  clear hW1 hL1
  with_reducible refine (net_any sp la _ _ (HGV.out.up hB3) HU.out).mono ?_
  rintro e w1 ⟨v1, N, rfl, hv1, hok, hb1⟩
  have c4 := c1.up hb1
  have c5 := c2.up hb1
  have hB6 : Below w.heap.size w w1 := bel_up hB3 hb1
  clear c1 c2
  obtain ⟨va, vb, rfl, hn, hr⟩ := hv1
  obtain ⟨An, cn, rfl, hcn, hmn, hxn⟩ := hn.open_
  obtain ⟨Ar, cr, rfl, hcr, hmr, hxr⟩ := hr.open_
  have HNV1 : Hid (NV w1 (.agg #[.slice An N.ns.length cn, .slice Ar N.rs.length cr]) N) := Lib.hid ⟨_, _, rfl, hn, hr⟩
  generalize hNn : N.ns.length = Nn at *
  generalize hNr : N.rs.length = Nr at *
  clear hn hr hxn hxr
  have an7 : w1.heap.size ≤ w1.heap.size := by omega
  have ne8_ : w.heap.size < w1.heap.size := by have := c4.lt; omega
  have ne8 := Nat.ne_of_lt ne8_
  have ne8' := ne8.symm
  have ne9_ : w.heap.size + 1 < w1.heap.size := by have := c5.lt; omega
  have ne9 := Nat.ne_of_lt ne9_
  have ne9' := ne9.symm
  go_upto_region 2 with fail
  refine wp_named ?_
  intro W2 hW2
  have hL2 : Below w1.heap.size w1 W2 := by
    rw [hW2]
    repeat (first | with_reducible exact Below.refl _ _ | with_reducible refine bel_alloc ?_ _ | refine Below.setCell ?_ (by first | (simp; done) | (simp; omega) | omega) _)
  have c10 := c4.up hL2
  have c11 := c5.up hL2
  have c12 : Own W2 (w1.heap.size) 0 [((.slice An Nn cn)), ((.slice Ar Nr cr))] := by
    rw [hW2]
    first
    | (repeat (first | (with_reducible refine own_new (l := [((.slice An Nn cn)), ((.slice Ar Nr cr))]) ?_; (simp; done)) | with_reducible refine Own.alloc ?_ _ | refine Own.far _ _ (by first | (simp; done) | (simp [*]; done) | (simp; omega)) ?_)); done
    | simp [Own, go_sem, ne8, ne8', ne8_, ne9, ne9', ne9_]
  have hA13 := hL2
  have hB14 : Below w.heap.size w W2 := by
    rw [hW2]
    repeat (first | with_reducible exact hB6 | with_reducible refine bel_alloc ?_ _ | refine Below.setCell ?_ (by first | (simp; done) | (simp; omega) | omega) _)
  clear hW2 hL2 c4 c5
  have HNV2 : Hid (NV W2 (.agg #[.slice An Nn cn, .slice Ar Nr cr]) N) := Lib.hid (HNV1.out.up hA13)
  clear HNV1 hA13
  obtain ⟨w0, hw0⟩ : ∃ W_, W_ = w := ⟨_, rfl⟩
  subst hw0
  obtain ⟨w, hw⟩ : ∃ W_, W_ = W2 := ⟨_, rfl⟩
  subst hw
  have hBw := hB14
  clear hB14
  clear c10
  have HNV := HNV2
  have HG := Lib.hid hok.g
  have HOK := Lib.hid hok
  have hln := hok.g.ln
  have hlr := hok.g.lr
  have hn2 := hok.n2
  have hn8 := hok.n8
  have hr1 := hok.r1
  have hr13 := hok.r13
  rw [hNn] at hln hn2 hn8
  rw [hNr] at hlr hr1 hr13
  have HXN : Hid (LX CN 3 w An N.ns) := Lib.hid (nv_ns HNV.out)
  have HXR : Hid (LX CR 6 w Ar N.rs) := Lib.hid (nv_rs HNV.out)
  have HNn := Lib.hid hNn
  have HNr := Lib.hid hNr
  clear hok hNn hNr HNV2
  obtain ⟨r1, p1, hr_1, hp_1⟩ := place_ex HOK.out wr1 wp1
  obtain ⟨hat1, hz1⟩ := place_at HOK.out HWP1.out hr_1 hp_1
  have hq1 : Pl.Sz 2000 p1.q := hz1.mono (by decide)
  have HR1 := Lib.hid hr_1
  have HP1 := Lib.hid hp_1
  have HAT1 := Lib.hid hat1
  have HZ1 := Lib.hid hz1
  clear hr_1 hp_1 hat1 hz1
  obtain ⟨qm, hqm⟩ : ∃ q : Rat, q = ((-1 : Int) : Rat) := ⟨_, rfl⟩
  have ZQM : Pl.Sz 2000 qm := by rw [hqm]; exact (sz_small (n := -1) (by decide) (by decide)).mono (by decide)
  have HBD := Lib.hid (neg_place HAT1.out.f hqm)
  have HFZ := Lib.hid (frd_zero HG.out)
  have HZP : Hid (placeE N (Pc.mk 0 0) = 9) := Lib.hid (placeE_none HFZ.out)
  have HQM := Lib.hid hqm
  clear hqm
  have uc11 := c11; have uc12 := c12
  simp only [At, Own, Nat.reduceAdd, and_true] at uc11 uc12
  have K15 := Lib.hid (fun W (hv : NV W (.agg #[.slice An Nn cn, .slice Ar Nr cr]) N) => place_any N r1 p1 wr1 wp1 _ W hv HOK.out HWR1.out HWP1.out HR1.out HP1.out)
  go_wp2_with (fail)
  refine calls_named ?_
  intro W3 hW3
  have hL3 : Below w.heap.size w W3 := by
    rw [hW3]
    repeat (first | with_reducible exact Below.refl _ _ | with_reducible refine bel_alloc ?_ _ | refine Below.setCell ?_ (by first | (simp; done) | (simp; omega) | omega) _)
  have c16 := c11.up hL3
  have c17 := c12.up hL3
  have hB18 : Below w.heap.size w W3 := by
    rw [hW3]
    repeat (first | with_reducible exact Below.refl _ _ | with_reducible refine bel_alloc ?_ _ | refine Below.setCell ?_ (by first | (simp; done) | (simp; omega) | omega) _)
  clear hW3 hL3 uc11 uc12 c11 c12
  with_reducible refine (K15.out _ (HNV.out.up hB18)).mono ?_
  rintro e w3 ⟨rfl, hb3⟩
  have c19 := c16.up hb3
  have c20 := c17.up hb3
  have hB21 : Below w.heap.size w w3 := bel_up hB18 hb3
  clear c16 c17
  have ne22_ : w0.heap.size + 1 < w3.heap.size := by have := c19.lt; omega
  have ne22 := Nat.ne_of_lt ne22_
  have ne22' := ne22.symm
  have ne23_ : w1.heap.size < w3.heap.size := by have := c20.lt; omega
  have ne23 := Nat.ne_of_lt ne23_
  have ne23' := ne23.symm
  have uc19 := c19; have uc20 := c20
  simp only [At, Own, Nat.reduceAdd, and_true] at uc19 uc20
  have K24 := Lib.hid (fun W (hv : NV W (.agg #[.slice An Nn cn, .slice Ar Nr cr]) N) => exits_any N r1 p1 _ W hv HG.out HAT1.out hq1)
  go_wp2_with (fail)
  refine calls_named ?_
  intro W4 hW4
  have hL4 : Below w3.heap.size w3 W4 := by
    rw [hW4]
    repeat (first | with_reducible exact Below.refl _ _ | with_reducible refine bel_alloc ?_ _ | refine Below.setCell ?_ (by first | (simp; done) | (simp; omega) | omega) _)
  have c25 := c19.up hL4
  have c26 := c20.up hL4
  have c27 : Own W4 (w3.heap.size) 0 [.int .i64 p1.r, .bool (ng p1.q.num), .string (mg p1.q.num.natAbs), .bool false, .string (mg (dn p1.q))] := by
    rw [hW4]
    first
    | (repeat (first | (with_reducible refine own_new (l := [.int .i64 p1.r, .bool (ng p1.q.num), .string (mg p1.q.num.natAbs), .bool false, .string (mg (dn p1.q))]) ?_; (simp; done)) | with_reducible refine Own.alloc ?_ _ | refine Own.far _ _ (by first | (simp; done) | (simp [*]; done) | (simp; omega)) ?_)); done
    | simp [Own, go_sem, uc19, uc20, ne22, ne22', ne22_, ne23, ne23', ne23_]
  have hB28 : Below w.heap.size w W4 := by
    rw [hW4]
    repeat (first | with_reducible exact hB21 | with_reducible refine bel_alloc ?_ _ | refine Below.setCell ?_ (by first | (simp; done) | (simp; omega) | omega) _)
  clear hW4 hL4 uc19 uc20 c19 c20
  with_reducible refine (K24.out _ (HNV.out.up hB28)).mono ?_
  rintro e w4 ⟨v4, rfl, hv4, hb4⟩
  have c29 := c25.up hb4
  have c30 := c26.up hb4
  have c31 := c27.up hb4
  have hB32 : Below w.heap.size w w4 := bel_up hB28 hb4
  clear c25 c26 c27
  have PW4 := Lib.hid hv4
  clear hv4
  have uc29 := c29; have uc30 := c30; have uc31 := c31
  simp only [At, Own, Nat.reduceAdd, and_true] at uc29 uc30 uc31
  have K33 := Lib.hid (fun W (hv : NV W (.agg #[.slice An Nn cn, .slice Ar Nr cr]) N) => entries_any N r1 p1 _ W hv HG.out HAT1.out hq1)
  go_wp2_with (fail)
  refine calls_named ?_
  intro W5 hW5
  have hL5 : Below w4.heap.size w4 W5 := by
    rw [hW5]
    repeat (first | with_reducible exact Below.refl _ _ | with_reducible refine bel_alloc ?_ _ | refine Below.setCell ?_ (by first | (simp; done) | (simp; omega) | omega) _)
  have c34 := c29.up hL5
  have c35 := c30.up hL5
  have c36 := c31.up hL5
  have hA37 := hL5
  have hB38 : Below w.heap.size w W5 := by
    rw [hW5]
    repeat (first | with_reducible exact hB32 | with_reducible refine bel_alloc ?_ _ | refine Below.setCell ?_ (by first | (simp; done) | (simp; omega) | omega) _)
  clear hW5 hL5 uc29 uc30 uc31 c29 c30 c31
  with_reducible refine (K33.out _ (HNV.out.up hB38)).mono ?_
  rintro e w5 ⟨v5, rfl, hv5, hb5⟩
  have c39 := c34.up hb5
  have c40 := c35.up hb5
  have c41 := c36.up hb5
  have hA42 := bel_up hA37 hb5
  have hB43 : Below w.heap.size w w5 := bel_up hB38 hb5
  clear c34 c35 c36 hA37
  have PW5 := Lib.hid hv5
  clear hv5
  have uc39 := c39; have uc40 := c40; have uc41 := c41
  simp only [At, Own, Nat.reduceAdd, and_true] at uc39 uc40 uc41
  have K44 := Lib.hid (fun W (hv : NV W (.agg #[.slice An Nn cn, .slice Ar Nr cr]) N) => exits_zero N _ W hv HG.out)
  go_wp2_with (fail)
  refine calls_named ?_
  intro W6 hW6
  have hL6 : Below w5.heap.size w5 W6 := by
    rw [hW6]
    repeat (first | with_reducible exact Below.refl _ _ | with_reducible refine bel_alloc ?_ _ | refine Below.setCell ?_ (by first | (simp; done) | (simp; omega) | omega) _)
  have c45 := c39.up hL6
  have c46 := c40.up hL6
  have c47 := c41.up hL6
  have hA48 := bel_up hA42 hL6
  have hA49 := hL6
  have hB50 : Below w.heap.size w W6 := by
    rw [hW6]
    repeat (first | with_reducible exact hB43 | with_reducible refine bel_alloc ?_ _ | refine Below.setCell ?_ (by first | (simp; done) | (simp; omega) | omega) _)
  clear hW6 hL6 uc39 uc40 uc41 c39 c40 c41 hA42
  with_reducible refine (K44.out _ (HNV.out.up hB50)).mono ?_
  rintro e w6 ⟨rfl, hb6⟩
  have c51 := c45.up hb6
  have c52 := c46.up hb6
  have c53 := c47.up hb6
  have hA54 := bel_up hA48 hb6
  have hA55 := bel_up hA49 hb6
  have hB56 : Below w.heap.size w w6 := bel_up hB50 hb6
  clear c45 c46 c47 hA48 hA49
  go_upto_region 6 with fail
  refine wp_named ?_
  intro W7 hW7
  have hL7 : Below w6.heap.size w6 W7 := by
    rw [hW7]
    repeat (first | with_reducible exact Below.refl _ _ | with_reducible refine bel_alloc ?_ _ | refine Below.setCell ?_ (by first | (simp; done) | (simp; omega) | omega) _)
  have c57 := c51.up hL7
  have c58 := c52.up hL7
  have c59 := c53.up hL7
  have hA60 := bel_up hA54 hL7
  have hA61 := bel_up hA55 hL7
  have hB62 : Below w.heap.size w W7 := by
    rw [hW7]
    repeat (first | with_reducible exact hB56 | with_reducible refine bel_alloc ?_ _ | refine Below.setCell ?_ (by first | (simp; done) | (simp; omega) | omega) _)
  clear hW7 hL7 c51 c52 c53 hA54 hA55
  have K63 := Lib.hid (fun W => qfi_any (-1) qm W HQM.out (by decide) (by decide))
  have K65 := Lib.hid (fun W (hv : NV W (.agg #[.slice An Nn cn, .slice Ar Nr cr]) N) => entries_bad N r1 (Pc.mk p1.r qm) 2 _ W hv HG.out HAT1.out.f ZQM HBD.out (by decide))
  have HSS67 : ∀ w' : World, Below W7.heap.size W7 w' → (w'.cell? ⟨w1.heap.size, 0, none⟩ = some (.slice An Nn cn) ∧ w'.cell? ⟨w1.heap.size, 1, none⟩ = some (.slice Ar Nr cr) ∧ w'.cell? ⟨w3.heap.size, 0, none⟩ = some (.int .i64 p1.r) ∧ w'.cell? ⟨w3.heap.size, 1, none⟩ = some (.bool (ng p1.q.num)) ∧ w'.cell? ⟨w3.heap.size, 2, none⟩ = some (.string (mg p1.q.num.natAbs)) ∧ w'.cell? ⟨w3.heap.size, 3, none⟩ = some (.bool false) ∧ w'.cell? ⟨w3.heap.size, 4, none⟩ = some (.string (mg (dn p1.q)))) := fun w' hb => by
    have qc58 := c58.up hb; have qc59 := c59.up hb
    simp only [At, Own, CE, CS, Nat.reduceAdd, Nat.reduceMul, Nat.zero_mul, Nat.add_zero, Nat.add_assoc, and_true] at qc58 qc59
    try simp only [Nat.add_assoc, Nat.reduceAdd]
    simp [*]
  go_cut [13, 14] (fun x13 x14 wx => x13 = .slice none 0 0 ∧ x14 = .int .i64 2 ∧ Below W7.heap.size W7 wx)
  case first =>
    have hu := HSS67 W7 (Below.refl _ _)
    go_region_held3 (fun w' => w'.cell? ⟨w1.heap.size, 0, none⟩ = some (.slice An Nn cn) ∧ w'.cell? ⟨w1.heap.size, 1, none⟩ = some (.slice Ar Nr cr) ∧ w'.cell? ⟨w3.heap.size, 0, none⟩ = some (.int .i64 p1.r) ∧ w'.cell? ⟨w3.heap.size, 1, none⟩ = some (.bool (ng p1.q.num)) ∧ w'.cell? ⟨w3.heap.size, 2, none⟩ = some (.string (mg p1.q.num.natAbs)) ∧ w'.cell? ⟨w3.heap.size, 3, none⟩ = some (.bool false) ∧ w'.cell? ⟨w3.heap.size, 4, none⟩ = some (.string (mg (dn p1.q)))) (refine HSS67 _ ?_ <;> (repeat (first | with_reducible exact Below.refl _ _ | with_reducible refine bel_alloc ?_ _ | with_reducible refine Below.drew ?_ | (refine Below.setCell ?_ (by first | (simp; done) | (simp; omega) | omega) _) | with_reducible refine bel_up ?_ (by with_reducible assumption)))) (first
      | (go_at_call 37; with_reducible refine (K63.out _).mono ?_; rintro e v_64 ⟨rfl, hbq_64⟩; have hsz_64 := hbq_64.size; (try simp [size_drewC] at hsz_64))
      | (go_at_call 36; with_reducible refine (K65.out _ (HNV.out.up (bel_up hB62 (by (repeat (first | with_reducible exact Below.refl _ _ | with_reducible refine bel_alloc ?_ _ | with_reducible refine Below.drew ?_ | (refine Below.setCell ?_ (by first | (simp; done) | (simp; omega) | omega) _) | with_reducible refine bel_up ?_ (by with_reducible assumption))))))).mono ?_; rintro e v_66 ⟨rfl, hbq_66⟩; have hsz_66 := hbq_66.size; (try simp [size_drewC] at hsz_66)))
    all_goals
      go_wp2_with fail
      go_meet
      refine ⟨rfl, rfl, ?_⟩
      · (repeat (first | with_reducible exact Below.refl _ _ | with_reducible refine bel_alloc ?_ _ | with_reducible refine Below.drew ?_ | (refine Below.setCell ?_ (by first | (simp; done) | (simp; omega) | omega) _) | with_reducible refine bel_up ?_ (by with_reducible assumption)))
  case rest =>
    obtain ⟨rfl, rfl, hbz7⟩ := hcut
    obtain ⟨wz7, hwz7⟩ : ∃ W_, W_ = wc := ⟨_, rfl⟩
    subst hwz7
    clear HSS67
    have c68 := c57.up hbz7
    have c69 := c58.up hbz7
    have c70 := c59.up hbz7
    have hA71 := bel_up hA60 hbz7
    have hA72 := bel_up hA61 hbz7
    have hB73 : Below w.heap.size w wz7 := bel_up hB62 hbz7
    clear c57 c58 c59 hA60 hA61
    have K74 := Lib.hid (fun W => known_any W)
    have uc68 := c68; have uc69 := c69; have uc70 := c70
    simp only [At, Own, Nat.reduceAdd, and_true] at uc68 uc69 uc70
    go_wp2_with (fail)
    refine calls_named ?_
    intro W8 hW8
    have hL8 : Below wz7.heap.size wz7 W8 := by
      rw [hW8]
      repeat (first | with_reducible exact Below.refl _ _ | with_reducible refine bel_alloc ?_ _ | refine Below.setCell ?_ (by first | (simp; done) | (simp; omega) | omega) _)
    have c75 := c68.up hL8
    have c76 := c69.up hL8
    have c77 := c70.up hL8
    have hA78 := bel_up hA71 hL8
    have hA79 := bel_up hA72 hL8
    have hB80 : Below w.heap.size w W8 := by
      rw [hW8]
      repeat (first | with_reducible exact hB73 | with_reducible refine bel_alloc ?_ _ | refine Below.setCell ?_ (by first | (simp; done) | (simp; omega) | omega) _)
    clear hW8 hL8 uc68 uc69 uc70 c68 c69 c70 hA71 hA72
    with_reducible refine (K74.out _).mono ?_
    rintro e w8 ⟨rfl, hb8⟩
    have c81 := c75.up hb8
    have c82 := c76.up hb8
    have c83 := c77.up hb8
    have hA84 := bel_up hA78 hb8
    have hA85 := bel_up hA79 hb8
    have hB86 : Below w.heap.size w w8 := bel_up hB80 hb8
    clear c75 c76 c77 hA78 hA79
    have uc81 := c81; have uc82 := c82; have uc83 := c83
    simp only [At, Own, Nat.reduceAdd, and_true] at uc81 uc82 uc83
    have K87 := Lib.hid (fun W (hv : NV W (.agg #[.slice An Nn cn, .slice Ar Nr cr]) N) => lends_ex N r1 p1 _ W hv HG.out HAT1.out hq1)
    go_wp2_with (fail)
    refine calls_named ?_
    intro W9 hW9
    have hL9 : Below w8.heap.size w8 W9 := by
      rw [hW9]
      repeat (first | with_reducible exact Below.refl _ _ | with_reducible refine bel_alloc ?_ _ | refine Below.setCell ?_ (by first | (simp; done) | (simp; omega) | omega) _)
    have c88 := c81.up hL9
    have c89 := c82.up hL9
    have c90 := c83.up hL9
    have hA91 := bel_up hA84 hL9
    have hA92 := bel_up hA85 hL9
    have hB93 : Below w.heap.size w W9 := by
      rw [hW9]
      repeat (first | with_reducible exact hB86 | with_reducible refine bel_alloc ?_ _ | refine Below.setCell ?_ (by first | (simp; done) | (simp; omega) | omega) _)
    clear hW9 hL9 uc81 uc82 uc83 c81 c82 c83 hA84 hA85
    with_reducible refine (K87.out _ (HNV.out.up hB93)).mono ?_
    rintro e w9 ⟨v9, rfl, hv9, hb9⟩
    have c94 := c88.up hb9
    have c95 := c89.up hb9
    have c96 := c90.up hb9
    have hA97 := bel_up hA91 hb9
    have hA98 := bel_up hA92 hb9
    have hB99 : Below w.heap.size w w9 := bel_up hB93 hb9
    clear c88 c89 c90 hA91 hA92
    have PW9 := Lib.hid hv9
    clear hv9
    have K100 := Lib.hid (fun W va vb (ha : EL W va (exitsE r1 p1.q)) (hb : EL W vb (exitsE r1 p1.q)) => lsends_eq (exitsE r1 p1.q) va vb W ha hb (exits_le _ _))
    have uc94 := c94; have uc95 := c95; have uc96 := c96
    simp only [At, Own, Nat.reduceAdd, and_true] at uc94 uc95 uc96
    go_wp2_with (fail)
    refine calls_named ?_
    intro W10 hW10
    have hL10 : Below w9.heap.size w9 W10 := by
      rw [hW10]
      repeat (first | with_reducible exact Below.refl _ _ | with_reducible refine bel_alloc ?_ _ | refine Below.setCell ?_ (by first | (simp; done) | (simp; omega) | omega) _)
    have c101 := c94.up hL10
    have c102 := c95.up hL10
    have c103 := c96.up hL10
    have hA104 := bel_up hA97 hL10
    have hA105 := bel_up hA98 hL10
    have hA106 := hL10
    have hB107 : Below w.heap.size w W10 := by
      rw [hW10]
      repeat (first | with_reducible exact hB99 | with_reducible refine bel_alloc ?_ _ | refine Below.setCell ?_ (by first | (simp; done) | (simp; omega) | omega) _)
    clear hW10 hL10 uc94 uc95 uc96 c94 c95 c96 hA97 hA98
    with_reducible refine (K100.out _ _ _ (PW4.out.up hA104) (PW9.out.up hA106)).mono ?_
    rintro e w10 ⟨rfl, hb10⟩
    have c108 := c101.up hb10
    have c109 := c102.up hb10
    have c110 := c103.up hb10
    have hA111 := bel_up hA104 hb10
    have hA112 := bel_up hA105 hb10
    have hA113 := bel_up hA106 hb10
    have hB114 : Below w.heap.size w w10 := bel_up hB107 hb10
    clear c101 c102 c103 hA104 hA105 hA106
    have uc108 := c108; have uc109 := c109; have uc110 := c110
    simp only [At, Own, Nat.reduceAdd, and_true] at uc108 uc109 uc110
    have K115 := Lib.hid (fun W (hv : NV W (.agg #[.slice An Nn cn, .slice Ar Nr cr]) N) => lends_en N r1 p1 _ W hv HG.out HAT1.out hq1)
    go_wp2_with (fail)
    refine calls_named ?_
    intro W11 hW11
    have hL11 : Below w10.heap.size w10 W11 := by
      rw [hW11]
      repeat (first | with_reducible exact Below.refl _ _ | with_reducible refine bel_alloc ?_ _ | refine Below.setCell ?_ (by first | (simp; done) | (simp; omega) | omega) _)
    have c116 := c108.up hL11
    have c117 := c109.up hL11
    have c118 := c110.up hL11
    have hA119 := bel_up hA111 hL11
    have hA120 := bel_up hA112 hL11
    have hA121 := bel_up hA113 hL11
    have hB122 : Below w.heap.size w W11 := by
      rw [hW11]
      repeat (first | with_reducible exact hB114 | with_reducible refine bel_alloc ?_ _ | refine Below.setCell ?_ (by first | (simp; done) | (simp; omega) | omega) _)
    clear hW11 hL11 uc108 uc109 uc110 c108 c109 c110 hA111 hA112 hA113
    with_reducible refine (K115.out _ (HNV.out.up hB122)).mono ?_
    rintro e w11 ⟨v11, rfl, hv11, hb11⟩
    have c123 := c116.up hb11
    have c124 := c117.up hb11
    have c125 := c118.up hb11
    have hA126 := bel_up hA119 hb11
    have hA127 := bel_up hA120 hb11
    have hA128 := bel_up hA121 hb11
    have hB129 : Below w.heap.size w w11 := bel_up hB122 hb11
    clear c116 c117 c118 hA119 hA120 hA121
    have PW11 := Lib.hid hv11
    clear hv11
    have K130 := Lib.hid (fun W va vb (ha : EL W va (entriesE r1 p1.q)) (hb : EL W vb (entriesE r1 p1.q)) => lsends_eq (entriesE r1 p1.q) va vb W ha hb (entries_le _ _))
    have uc123 := c123; have uc124 := c124; have uc125 := c125
    simp only [At, Own, Nat.reduceAdd, and_true] at uc123 uc124 uc125
    go_wp2_with (fail)
    refine calls_named ?_
    intro W12 hW12
    have hL12 : Below w11.heap.size w11 W12 := by
      rw [hW12]
      repeat (first | with_reducible exact Below.refl _ _ | with_reducible refine bel_alloc ?_ _ | refine Below.setCell ?_ (by first | (simp; done) | (simp; omega) | omega) _)
    have c131 := c123.up hL12
    have c132 := c124.up hL12
    have c133 := c125.up hL12
    have hA134 := bel_up hA126 hL12
    have hA135 := bel_up hA127 hL12
    have hA136 := bel_up hA128 hL12
    have hA137 := hL12
    have hB138 : Below w.heap.size w W12 := by
      rw [hW12]
      repeat (first | with_reducible exact hB129 | with_reducible refine bel_alloc ?_ _ | refine Below.setCell ?_ (by first | (simp; done) | (simp; omega) | omega) _)
    clear hW12 hL12 uc123 uc124 uc125 c123 c124 c125 hA126 hA127 hA128
    with_reducible refine (K130.out _ _ _ (PW5.out.up hA135) (PW11.out.up hA137)).mono ?_
    rintro e w12 ⟨rfl, hb12⟩
    have c139 := c131.up hb12
    have c140 := c132.up hb12
    have c141 := c133.up hb12
    have hA142 := bel_up hA134 hb12
    have hA143 := bel_up hA135 hb12
    have hA144 := bel_up hA136 hb12
    have hA145 := bel_up hA137 hb12
    have hB146 : Below w.heap.size w w12 := bel_up hB138 hb12
    clear c131 c132 c133 hA134 hA135 hA136 hA137
    have uc139 := c139; have uc140 := c140; have uc141 := c141
    simp only [At, Own, Nat.reduceAdd, and_true] at uc139 uc140 uc141
    go_wp2
    go_ret
    exact ⟨rfl, bel_up hBw (by repeat (first | with_reducible exact hB146 | with_reducible refine bel_alloc ?_ _ | refine Below.setCell ?_ (by first | (simp; done) | (simp; omega) | omega) _))⟩
end Go.Proofs.YtldfencaoaikgaaGreatDoor
