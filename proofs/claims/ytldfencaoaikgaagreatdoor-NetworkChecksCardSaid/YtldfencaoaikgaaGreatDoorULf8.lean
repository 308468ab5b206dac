/-
  The law Checks.
-/
import Derived.Test.YtldfencaoaikgaaGreatDoorULfC
set_option linter.unusedSimpArgs false
set_option linter.unusedVariables false
namespace Go.Proofs.YtldfencaoaikgaaGreatDoor
open Go Go.RowKit Nw

theorem nodesE_of : ∀ {l : List Nd} {b : Int}, SrtN l → (∀ x ∈ l, b < x.i) → (∀ x ∈ l, x.ok) → nodesE l b = 0
  | [], _, _, _, _ => rfl
  | a :: l, b, hs, hb, hk => by
    have ha := hk a (by simp)
    have h1 : idE a.i b = 0 := idE_zero.2 ⟨ha.1, ha.2.1, hb a (by simp)⟩
    have h2 : wide a.x = false := wide_no.2 ⟨ha.2.2.1, ha.2.2.2.1⟩
    have h3 : wide a.y = false := wide_no.2 ⟨ha.2.2.2.2.1, ha.2.2.2.2.2⟩
    obtain ⟨k1, k2⟩ := List.pairwise_cons.1 hs
    unfold nodesE
    rw [if_neg (by omega), h2, h3, if_neg (by decide)]
    exact nodesE_of k2 k1 fun x hx => hk x (by simp [hx])
theorem roadsE_of {ns : List Nd} : ∀ {l : List Rd} {b : Int}, SrtR l → (∀ x ∈ l, b < x.i) → (∀ x ∈ l, 1 ≤ x.i ∧ x.i ≤ 1073741824 ∧ roadE ns x = 0) → roadsE ns l b = 0
  | [], _, _, _, _ => rfl
  | a :: l, b, hs, hb, hk => by
    have ha := hk a (by simp)
    have h1 : idE a.i b = 0 := idE_zero.2 ⟨ha.1, ha.2.1, hb a (by simp)⟩
    obtain ⟨k1, k2⟩ := List.pairwise_cons.1 hs
    unfold roadsE
    rw [if_neg (by omega), if_neg (by rw [ha.2.2]; exact fun h => h rfl)]
    exact roadsE_of k2 k1 fun x hx => hk x (by simp [hx])
theorem chk_zero {N : Net} (g : Vld N) (c : ∀ r ∈ N.rs, roadE N.ns r = 0) : checkE N = 0 := by
  have h1 : nodesE N.ns 0 = 0 := nodesE_of g.sn (fun x hx => by have := (g.on x hx).1; omega) g.on
  unfold checkE
  rw [if_neg (by have := g.ln; have := g.lr; omega), if_neg (by omega)]
  exact roadsE_of g.sr (fun x hx => by have := (g.or x hx).1; omega) fun x hx => ⟨(g.or x hx).1, (g.or x hx).2.1, c x hx⟩
theorem ncheck_zero (N : Net) (v : Value) (w : World) (h : NV w v N) (hc : checkE N = 0) :
    Calls Tryz.prog 14 #[v] w fun e w' => e = .returned (.int .i64 0) ∧ Below w.heap.size w w' := by
  have := ncheck_any N v w h
  rwa [hc] at this

theorem ncheck_c (N : Net) (c : Int) (v : Value) (w : World) (h : NV w v N) (hc : checkE N = c) :
    Calls Tryz.prog 14 #[v] w fun e w' => e = .returned (.int .i64 c) ∧ Below w.heap.size w w' := by
  have := ncheck_any N v w h
  rwa [hc] at this
theorem lcheck_c (N : Net) (c : Int) (v : Value) (w : World) (h : NV w v N) (hc : checkE N = c) :
    Calls Tryz.prog 15 #[v] w fun e w' => e = .returned (.int .i64 c) ∧ Below w.heap.size w w' := by
  have := lcheck_any N v w h
  rwa [hc] at this

set_option maxRecDepth 100000 in
set_option maxHeartbeats 4000000 in
theorem checks_any (N : Net) (sp : List St) (la : List La) (v vg : Value) (w : World) (h : NV w v N) (hg : GV w vg sp la) (hu : GU sp la) :
    Calls Tryz.prog 3 #[v, vg] w fun e w' => e = .returned (.bool true) ∧ Below w.heap.size w w' := by
  obtain ⟨c, hc0⟩ : ∃ c, checkE N = c := ⟨_, rfl⟩
  have HC := Lib.hid hc0
  clear hc0
  obtain ⟨_, _, rfl, ha, hb⟩ := hg
  obtain ⟨As, cs, rfl, hcs, hms, hxs⟩ := ha.open_
  obtain ⟨Al, cl, rfl, hcl, hml, hxl⟩ := hb.open_
  have HGV : Hid (GV w (.agg #[.slice As sp.length cs, .slice Al la.length cl]) sp la) := Lib.hid ⟨_, _, rfl, ha, hb⟩
  have HU := Lib.hid hu
  clear ha hb hxs hxl hcs hms hcl hml hu
  obtain ⟨_, _, rfl, hn, hr⟩ := h
  obtain ⟨An, cn, rfl, hcn, hmn, hxn⟩ := hn.open_
  obtain ⟨Ar, cr, rfl, hcr, hmr, hxr⟩ := hr.open_
  have HNV : Hid (NV w (.agg #[.slice An N.ns.length cn, .slice Ar N.rs.length cr]) N) := Lib.hid ⟨_, _, rfl, hn, hr⟩
  have HXN := Lib.hid hxn
  have HXR := Lib.hid hxr
  generalize hNn : N.ns.length = Nn at *
  generalize hNr : N.rs.length = Nr at *
  have HNn := Lib.hid hNn
  have HNr := Lib.hid hNr
  clear hn hr hxn hxr hNn hNr
  go_enter Tryz.func3, Tryz.ntmps3
  by_cases hc8 : (20 : Int) < Nn
  · skip
    have hc8_ : ¬ ((Nn : Int) ≤ 20) := by omega
    have K9 := Lib.hid (fun W => known_any W)
    go_wp2_with (fail)
    refine calls_named ?_
    intro W2 hW2
    have hL2 : Below w.heap.size w W2 := by
      rw [hW2]
      repeat (first | with_reducible exact Below.refl _ _ | with_reducible refine bel_alloc ?_ _ | refine Below.setCell ?_ (by first | (simp; done) | (simp; omega) | omega) _)
    have c10 : Own W2 (w.heap.size) 0 [.slice An Nn cn, .slice Ar Nr cr] := by
      rw [hW2]
      first
      | (repeat (first | (with_reducible refine own_new (l := [.slice An Nn cn, .slice Ar Nr cr]) ?_; (simp; done)) | with_reducible refine Own.alloc ?_ _ | refine Own.far _ _ (by first | (simp; done) | (simp [*]; done) | (simp; omega)) ?_)); done
      | simp [Own, go_sem]
    have c11 : Own W2 (w.heap.size + 1) 0 [.slice As sp.length cs, .slice Al la.length cl] := by
      rw [hW2]
      first
      | (repeat (first | (with_reducible refine own_new (l := [.slice As sp.length cs, .slice Al la.length cl]) ?_; (simp; done)) | with_reducible refine Own.alloc ?_ _ | refine Own.far _ _ (by first | (simp; done) | (simp [*]; done) | (simp; omega)) ?_)); done
      | simp [Own, go_sem]
    have hB12 : Below w.heap.size w W2 := by
      rw [hW2]
      repeat (first | with_reducible exact Below.refl _ _ | with_reducible refine bel_alloc ?_ _ | refine Below.setCell ?_ (by first | (simp; done) | (simp; omega) | omega) _)
    clear hW2 hL2
    with_reducible refine (K9.out _).mono ?_
    rintro e w2 ⟨rfl, hb2⟩
    have c13 := c10.up hb2
    have c14 := c11.up hb2
    have hB15 : Below w.heap.size w w2 := bel_up hB12 hb2
    clear c10 c11
    have uc13 := c13; have uc14 := c14
    simp only [At, Own, Nat.reduceAdd, and_true] at uc13 uc14
    go_wp2_with (fail)
    refine calls_named ?_
    intro W3 hW3
    have hL3 : Below w2.heap.size w2 W3 := by
      rw [hW3]
      repeat (first | with_reducible exact Below.refl _ _ | with_reducible refine bel_alloc ?_ _ | refine Below.setCell ?_ (by first | (simp; done) | (simp; omega) | omega) _)
    have c16 := c13.up hL3
    have c17 := c14.up hL3
    have hB18 : Below w.heap.size w W3 := by
      rw [hW3]
      repeat (first | with_reducible exact hB15 | with_reducible refine bel_alloc ?_ _ | refine Below.setCell ?_ (by first | (simp; done) | (simp; omega) | omega) _)
    clear hW3 hL3 uc13 uc14 c13 c14
    with_reducible refine (K9.out _).mono ?_
    rintro e w3 ⟨rfl, hb3⟩
    have c19 := c16.up hb3
    have c20 := c17.up hb3
    have hB21 : Below w.heap.size w w3 := bel_up hB18 hb3
    clear c16 c17
    have uc19 := c19; have uc20 := c20
    simp only [At, Own, Nat.reduceAdd, and_true] at uc19 uc20
    go_wp2
    go_ret
    exact ⟨rfl, by repeat (first | with_reducible exact hB21 | with_reducible refine bel_alloc ?_ _ | refine Below.setCell ?_ (by first | (simp; done) | (simp; omega) | omega) _)⟩
  · skip
    have hc8_ : ((Nn : Int) ≤ 20) := by omega
    have K22 := Lib.hid (fun W => known_any W)
    go_wp2_with (fail)
    refine calls_named ?_
    intro W4 hW4
    have hL4 : Below w.heap.size w W4 := by
      rw [hW4]
      repeat (first | with_reducible exact Below.refl _ _ | with_reducible refine bel_alloc ?_ _ | refine Below.setCell ?_ (by first | (simp; done) | (simp; omega) | omega) _)
    have c23 : Own W4 (w.heap.size) 0 [.slice An Nn cn, .slice Ar Nr cr] := by
      rw [hW4]
      first
      | (repeat (first | (with_reducible refine own_new (l := [.slice An Nn cn, .slice Ar Nr cr]) ?_; (simp; done)) | with_reducible refine Own.alloc ?_ _ | refine Own.far _ _ (by first | (simp; done) | (simp [*]; done) | (simp; omega)) ?_)); done
      | simp [Own, go_sem]
    have c24 : Own W4 (w.heap.size + 1) 0 [.slice As sp.length cs, .slice Al la.length cl] := by
      rw [hW4]
      first
      | (repeat (first | (with_reducible refine own_new (l := [.slice As sp.length cs, .slice Al la.length cl]) ?_; (simp; done)) | with_reducible refine Own.alloc ?_ _ | refine Own.far _ _ (by first | (simp; done) | (simp [*]; done) | (simp; omega)) ?_)); done
      | simp [Own, go_sem]
    have hB25 : Below w.heap.size w W4 := by
      rw [hW4]
      repeat (first | with_reducible exact Below.refl _ _ | with_reducible refine bel_alloc ?_ _ | refine Below.setCell ?_ (by first | (simp; done) | (simp; omega) | omega) _)
    clear hW4 hL4
    with_reducible refine (K22.out _).mono ?_
    rintro e w4 ⟨rfl, hb4⟩
    have c26 := c23.up hb4
    have c27 := c24.up hb4
    have hB28 : Below w.heap.size w w4 := bel_up hB25 hb4
    clear c23 c24
    have uc26 := c26; have uc27 := c27
    simp only [At, Own, Nat.reduceAdd, and_true] at uc26 uc27
    by_cases hc29 : (20 : Int) < Nr
    · skip
      have hc29_ : ¬ ((Nr : Int) ≤ 20) := by omega
      go_wp2_with (fail)
      refine calls_named ?_
      intro W5 hW5
      have hL5 : Below w4.heap.size w4 W5 := by
        rw [hW5]
        repeat (first | with_reducible exact Below.refl _ _ | with_reducible refine bel_alloc ?_ _ | refine Below.setCell ?_ (by first | (simp; done) | (simp; omega) | omega) _)
      have c30 := c26.up hL5
      have c31 := c27.up hL5
      have hB32 : Below w.heap.size w W5 := by
        rw [hW5]
        repeat (first | with_reducible exact hB28 | with_reducible refine bel_alloc ?_ _ | refine Below.setCell ?_ (by first | (simp; done) | (simp; omega) | omega) _)
      clear hW5 hL5 uc26 uc27 c26 c27
      with_reducible refine (K22.out _).mono ?_
      rintro e w5 ⟨rfl, hb5⟩
      have c33 := c30.up hb5
      have c34 := c31.up hb5
      have hB35 : Below w.heap.size w w5 := bel_up hB32 hb5
      clear c30 c31
      have uc33 := c33; have uc34 := c34
      simp only [At, Own, Nat.reduceAdd, and_true] at uc33 uc34
      go_wp2
      go_ret
      exact ⟨rfl, by repeat (first | with_reducible exact hB35 | with_reducible refine bel_alloc ?_ _ | refine Below.setCell ?_ (by first | (simp; done) | (simp; omega) | omega) _)⟩
    · skip
      have hc29_ : ((Nr : Int) ≤ 20) := by omega
      go_upto_region 3 with fail
      refine wp_named ?_
      intro W6 hW6
      have hL6 : Below w4.heap.size w4 W6 := by
        rw [hW6]
        repeat (first | with_reducible exact Below.refl _ _ | with_reducible refine bel_alloc ?_ _ | refine Below.setCell ?_ (by first | (simp; done) | (simp; omega) | omega) _)
      have c36 := c26.up hL6
      have c37 := c27.up hL6
      have hB38 : Below w.heap.size w W6 := by
        rw [hW6]
        repeat (first | with_reducible exact hB28 | with_reducible refine bel_alloc ?_ _ | refine Below.setCell ?_ (by first | (simp; done) | (simp; omega) | omega) _)
      clear hW6 hL6 uc26 uc27 c26 c27
      have HSS : ∀ w' : World, Below W6.heap.size W6 w' → (w'.cell? ⟨w.heap.size, 0, none⟩ = some (.slice An Nn cn) ∧ w'.cell? ⟨w.heap.size, 1, none⟩ = some (.slice Ar Nr cr) ∧ w'.cell? ⟨w.heap.size + 1, 0, none⟩ = some (.slice As sp.length cs) ∧ w'.cell? ⟨w.heap.size + 1, 1, none⟩ = some (.slice Al la.length cl)) := fun w' hb => by
        have qc36 := c36.up hb; have qc37 := c37.up hb
        simp only [At, Own, Nat.reduceAdd, and_true] at qc36 qc37
        simp [*]
      go_cut [4] (fun x4 wx => x4 = .bool true ∧ Below W6.heap.size W6 wx)
      case first =>
        have hu := HSS W6 (Below.refl _ _)
        go_region_held3 (fun w' => w'.cell? ⟨w.heap.size, 0, none⟩ = some (.slice An Nn cn) ∧ w'.cell? ⟨w.heap.size, 1, none⟩ = some (.slice Ar Nr cr) ∧ w'.cell? ⟨w.heap.size + 1, 0, none⟩ = some (.slice As sp.length cs) ∧ w'.cell? ⟨w.heap.size + 1, 1, none⟩ = some (.slice Al la.length cl)) (refine HSS _ ?_ <;> (repeat (first | with_reducible exact Below.refl _ _ | with_reducible refine Below.drew ?_ | with_reducible refine bel_up ?_ (by with_reducible assumption)))) (first
          | (go_at_call 14; with_reducible refine (ncheck_c N c _ _ (HNV.out.up (bel_up hB38 (by (repeat (first | with_reducible exact Below.refl _ _ | with_reducible refine Below.drew ?_ | with_reducible refine bel_up ?_ (by with_reducible assumption)))))) HC.out).mono ?_; rintro e v_1 ⟨rfl, hbq_1⟩)
          | (go_at_call 15; with_reducible refine (lcheck_c N c _ _ (HNV.out.up (bel_up hB38 (by (repeat (first | with_reducible exact Below.refl _ _ | with_reducible refine Below.drew ?_ | with_reducible refine bel_up ?_ (by with_reducible assumption)))))) HC.out).mono ?_; rintro e v_2 ⟨rfl, hbq_2⟩)
          | (go_at_call 16; refine (net_any sp la _ _ (HGV.out.up (bel_up hB38 (by (repeat (first | with_reducible exact Below.refl _ _ | with_reducible refine Below.drew ?_ | with_reducible refine bel_up ?_ (by with_reducible assumption)))))) HU.out).mono ?_; rintro e v_3 ⟨vn, M, rfl, hvn, hok, hbq_3⟩)
          | (go_at_call 14; with_reducible refine (ncheck_zero M _ _ (hvn.up (by (repeat (first | with_reducible exact Below.refl _ _ | with_reducible refine Below.drew ?_ | with_reducible refine bel_up ?_ (by with_reducible assumption))))) (chk_zero hok.g hok.c)).mono ?_; rintro e v_4 ⟨rfl, hbq_4⟩))
        all_goals
          go_wp2_with fail
          go_meet
          exact ⟨rfl, by (repeat (first | with_reducible exact Below.refl _ _ | with_reducible refine Below.drew ?_ | with_reducible refine bel_up ?_ (by with_reducible assumption)))⟩
      case rest =>
        obtain ⟨rfl, hbz⟩ := hcut
        obtain ⟨wz, hwz⟩ : ∃ W_, W_ = wc := ⟨_, rfl⟩
        subst hwz
        clear HSS
        have c39 := c36.up hbz
        have c40 := c37.up hbz
        have hB41 : Below w.heap.size w wz := bel_up hB38 hbz
        clear c36 c37
        have uc39 := c39; have uc40 := c40
        simp only [At, Own, Nat.reduceAdd, and_true] at uc39 uc40
        go_wp2
        go_ret
        exact ⟨rfl, by repeat (first | with_reducible exact hB41 | with_reducible refine bel_alloc ?_ _ | refine Below.setCell ?_ (by first | (simp; done) | (simp; omega) | omega) _)⟩
end Go.Proofs.YtldfencaoaikgaaGreatDoor
