/-
  The law Reaches.
-/
import Derived.Test.YtldfencaoaikgaaGreatDoorVLfR
set_option linter.unusedSimpArgs false
set_option linter.unusedVariables false
namespace Go.Proofs.YtldfencaoaikgaaGreatDoor
open Go Go.RowKit Nw

theorem reach_1024 {N : Net} (g : Vld N) (s : Int) : (reachE N s).length ≤ 1024 := by
  have h : (reachE N s).length ≤ N.ns.length := by
    unfold reachE
    split
    · exact Nat.le_trans (List.length_filter_le _ _) (by simp [ids])
    · exact Nat.zero_le _
  have := g.ln; omega

set_option maxRecDepth 100000 in
set_option maxHeartbeats 4000000 in
theorem reaches_any (sp : List St) (la : List La) (id : Int) (v : Value) (w : World) (h : GV w v sp la) (hu : GU sp la) :
    Calls Tryz.prog 5 #[v, .int .i64 id] w fun e w' => e = .returned (.bool true) ∧ Below w.heap.size w w' := by
  obtain ⟨_, _, rfl, ha, hb⟩ := h
  obtain ⟨As, cs, rfl, hcs, hms, hxs⟩ := ha.open_
  obtain ⟨Al, cl, rfl, hcl, hml, hxl⟩ := hb.open_
  have HGV : Hid (GV w (.agg #[.slice As sp.length cs, .slice Al la.length cl]) sp la) := Lib.hid ⟨_, _, rfl, ha, hb⟩
  have HU := Lib.hid hu
  clear ha hb hxs hxl hcs hms hcl hml hu
  go_enter Tryz.func5, Tryz.ntmps5
  go_wp2_with (fail)
  refine calls_named ?_
  intro W1 hW1
  have hL1 : Below w.heap.size w W1 := by
    rw [hW1]
    repeat (first | with_reducible exact Below.refl _ _ | with_reducible refine bel_alloc ?_ _ | refine Below.setCell ?_ (by first | (simp; done) | (simp; omega) | omega) _)
  have c1 : Own W1 (w.heap.size) 0 [.slice As sp.length cs, .slice Al la.length cl] := by
    rw [hW1]
    first
    | (repeat (first | (with_reducible refine own_new (l := [.slice As sp.length cs, .slice Al la.length cl]) ?_; (simp; done)) | with_reducible refine Own.alloc ?_ _ | refine Own.far _ _ (by first | (simp; done) | (simp [*]; done) | (simp; omega)) ?_)); done
    | simp [Own, go_sem]
  have hB2 : Below w.heap.size w W1 := by
    rw [hW1]
    repeat (first | with_reducible exact Below.refl _ _ | with_reducible refine bel_alloc ?_ _ | refine Below.setCell ?_ (by first | (simp; done) | (simp; omega) | omega) _)
  clear hW1 hL1
  with_reducible refine (net_any sp la _ _ (HGV.out.up hB2) HU.out).mono ?_
  rintro e w1 ⟨v1, N, rfl, hv1, hok, hb1⟩
  have c3 := c1.up hb1
  have hB4 : Below w.heap.size w w1 := bel_up hB2 hb1
  clear c1
  obtain ⟨va, vb, rfl, hn, hr⟩ := hv1
  obtain ⟨An, cn, rfl, hcn, hmn, hxn⟩ := hn.open_
  obtain ⟨Ar, cr, rfl, hcr, hmr, hxr⟩ := hr.open_
  have HNV1 : Hid (NV w1 (.agg #[.slice An N.ns.length cn, .slice Ar N.rs.length cr]) N) := Lib.hid ⟨_, _, rfl, hn, hr⟩
  generalize hNn : N.ns.length = Nn at *
  generalize hNr : N.rs.length = Nr at *
  clear hn hr hxn hxr
  have an5 : w1.heap.size ≤ w1.heap.size := by omega
  have ne6_ : w.heap.size < w1.heap.size := by have := c3.lt; omega
  have ne6 := Nat.ne_of_lt ne6_
  have ne6' := ne6.symm
  go_upto_region 2 with fail
  refine wp_named ?_
  intro W2 hW2
  have hL2 : Below w1.heap.size w1 W2 := by
    rw [hW2]
    repeat (first | with_reducible exact Below.refl _ _ | with_reducible refine bel_alloc ?_ _ | refine Below.setCell ?_ (by first | (simp; done) | (simp; omega) | omega) _)
  have c7 := c3.up hL2
  have c8 : Own W2 (w1.heap.size) 0 [((.slice An Nn cn)), ((.slice Ar Nr cr))] := by
    rw [hW2]
    first
    | (repeat (first | (with_reducible refine own_new (l := [((.slice An Nn cn)), ((.slice Ar Nr cr))]) ?_; (simp; done)) | with_reducible refine Own.alloc ?_ _ | refine Own.far _ _ (by first | (simp; done) | (simp [*]; done) | (simp; omega)) ?_)); done
    | simp [Own, go_sem, ne6, ne6', ne6_]
  have hA9 := hL2
  have hB10 : Below w.heap.size w W2 := by
    rw [hW2]
    repeat (first | with_reducible exact hB4 | with_reducible refine bel_alloc ?_ _ | refine Below.setCell ?_ (by first | (simp; done) | (simp; omega) | omega) _)
  clear hW2 hL2 c3
  have HNV2 : Hid (NV W2 (.agg #[.slice An Nn cn, .slice Ar Nr cr]) N) := Lib.hid (HNV1.out.up hA9)
  clear HNV1 hA9
  obtain ⟨w0, hw0⟩ : ∃ W_, W_ = w := ⟨_, rfl⟩
  subst hw0
  obtain ⟨w, hw⟩ : ∃ W_, W_ = W2 := ⟨_, rfl⟩
  subst hw
  have hBw := hB10
  clear hB10
  clear c7
  have HNV := HNV2
  have HG := Lib.hid hok.g
  have HOK := Lib.hid hok
  have hln := hok.g.ln
  have hlr := hok.g.lr
  have hn2 := hok.n2
  have hn8 := hok.n8
  have hr1 := hok.r1
  have hr13 := hok.r13
  rw [hNn] at hln hn2 hn8
  rw [hNr] at hlr hr1 hr13
  have HXN : Hid (LX CN 3 w An N.ns) := Lib.hid (nv_ns HNV.out)
  have HXR : Hid (LX CR 6 w Ar N.rs) := Lib.hid (nv_rs HNV.out)
  have HNn := Lib.hid hNn
  have HNr := Lib.hid hNr
  clear hok hNn hNr HNV2
  obtain ⟨m, hm⟩ : ∃ m, Nn = m + 1 := ⟨Nn - 1, by omega⟩
  have hmn : m < Nn := by omega
  have i1m : (m : Int) < Nn := by omega
  obtain ⟨y, hy⟩ : ∃ x, N.ns[m]? = some x := ⟨_, List.getElem?_eq_getElem (by rw [HNn.out]; omega)⟩
  have HY := Lib.hid hy
  have hmm : (Nn : Int) - 1 = m := by omega
  obtain ⟨hw1, hw2⟩ := i64_small (a := (m : Int)) (by omega) (by omega)
  clear hm hy
  have uc8 := c8
  simp only [At, Own, Nat.reduceAdd, and_true] at uc8
  obtain ⟨g12, o13, ha14, -⟩ := HXN.out _ _ HY.out
  subst ha14
  have ce11 := LX.at_ (HXN.out) HY.out
  have ce11_ : g12 < w.heap.size := World.block_lt_of_cell? _ _ ce11.1
  have uce11 := ce11
  simp only [CN, ndc, At, Nat.reduceMul] at uce11
  go_upto_region 3 with fail
  refine wp_named ?_
  intro W3 hW3
  have hL3 : Below w.heap.size w W3 := by
    rw [hW3]
    repeat (first | with_reducible exact Below.refl _ _ | with_reducible refine bel_alloc ?_ _ | refine Below.setCell ?_ (by first | (simp; done) | (simp; omega) | omega) _)
  have c15 := c8.up hL3
  have hB16 : Below w.heap.size w W3 := by
    rw [hW3]
    repeat (first | with_reducible exact Below.refl _ _ | with_reducible refine bel_alloc ?_ _ | refine Below.setCell ?_ (by first | (simp; done) | (simp; omega) | omega) _)
  clear hW3 hL3 uc8 uce11 c8
  have K17 := Lib.hid (fun W => known_any W)
  have K19 := Lib.hid (fun W (hv : NV W (.agg #[.slice (some ⟨g12, o13, none⟩) Nn cn, .slice Ar Nr cr]) N) => own_list (reach_any N id _ W hv HG.out))
  have K21 := Lib.hid (fun W (hv : NV W (.agg #[.slice (some ⟨g12, o13, none⟩) Nn cn, .slice Ar Nr cr]) N) => own_list (lreach_any N id _ W hv HG.out))
  have K23 := Lib.hid (fun W va vb (ha : IL W va (reachE N id)) (hb : IL W vb (reachE N id)) => lsame_eq (reachE N id) (reachE N id) va vb W ha hb (reach_1024 HG.out _) rfl)
  have K25 := Lib.hid (fun W (hv : NV W (.agg #[.slice (some ⟨g12, o13, none⟩) Nn cn, .slice Ar Nr cr]) N) => own_list (reach_any N y.i _ W hv HG.out))
  have K27 := Lib.hid (fun W (hv : NV W (.agg #[.slice (some ⟨g12, o13, none⟩) Nn cn, .slice Ar Nr cr]) N) => own_list (lreach_any N y.i _ W hv HG.out))
  have K29 := Lib.hid (fun W va vb (ha : IL W va (reachE N y.i)) (hb : IL W vb (reachE N y.i)) => lsame_eq (reachE N y.i) (reachE N y.i) va vb W ha hb (reach_1024 HG.out _) rfl)
  have HSS31 : ∀ w' : World, Below W3.heap.size W3 w' → (w'.cell? ⟨w1.heap.size, 0, none⟩ = some (.slice (some ⟨g12, o13, none⟩) Nn cn) ∧ w'.cell? ⟨w1.heap.size, 1, none⟩ = some (.slice Ar Nr cr)) := fun w' hb => by
    have qc15 := c15.up hb
    simp only [At, Own, CE, CS, Nat.reduceAdd, Nat.reduceMul, Nat.zero_mul, Nat.add_zero, Nat.add_assoc, and_true] at qc15
    try simp only [Nat.add_assoc, Nat.reduceAdd]
    simp [*]
  go_cut [4] (fun x4 wx => x4 = .bool true ∧ Below W3.heap.size W3 wx)
  case first =>
    have hu := HSS31 W3 (Below.refl _ _)
    go_region_held3 (fun w' => w'.cell? ⟨w1.heap.size, 0, none⟩ = some (.slice (some ⟨g12, o13, none⟩) Nn cn) ∧ w'.cell? ⟨w1.heap.size, 1, none⟩ = some (.slice Ar Nr cr)) (refine HSS31 _ ?_ <;> (repeat (first | with_reducible exact Below.refl _ _ | with_reducible refine bel_alloc ?_ _ | with_reducible refine Below.drew ?_ | (refine Below.setCell ?_ (by first | (simp; done) | (simp; omega) | omega) _) | with_reducible refine bel_up ?_ (by with_reducible assumption)))) (first
      | (go_at_call 13; with_reducible refine (K17.out _).mono ?_; rintro e v_18 ⟨rfl, hbq_18⟩; have hsz_18 := hbq_18.size; (try simp [size_drewC] at hsz_18))
      | (go_at_call 24; with_reducible refine (K19.out _ (HNV.out.up (bel_up hB16 (by (repeat (first | with_reducible exact Below.refl _ _ | with_reducible refine bel_alloc ?_ _ | with_reducible refine Below.drew ?_ | (refine Below.setCell ?_ (by first | (simp; done) | (simp; omega) | omega) _) | with_reducible refine bel_up ?_ (by with_reducible assumption))))))).mono ?_; rintro e v_20 ⟨vv_20, rfl, hv_20, hbq_20⟩; have hsz_20 := hbq_20.size; (try simp [size_drewC] at hsz_20))
      | (go_at_call 25; with_reducible refine (K21.out _ (HNV.out.up (bel_up hB16 (by (repeat (first | with_reducible exact Below.refl _ _ | with_reducible refine bel_alloc ?_ _ | with_reducible refine Below.drew ?_ | (refine Below.setCell ?_ (by first | (simp; done) | (simp; omega) | omega) _) | with_reducible refine bel_up ?_ (by with_reducible assumption))))))).mono ?_; rintro e v_22 ⟨vv_22, rfl, hv_22, hbq_22⟩; have hsz_22 := hbq_22.size; (try simp [size_drewC] at hsz_22))
      | (go_at_call 23; with_reducible refine (K23.out _ _ _ (hv_20.up (by (repeat (first | with_reducible exact Below.refl _ _ | with_reducible refine bel_alloc ?_ _ | with_reducible refine Below.drew ?_ | (refine Below.setCell ?_ (by first | (simp; done) | (simp; omega) | omega) _) | with_reducible refine bel_up ?_ (by with_reducible assumption))))) (hv_22.up (by (repeat (first | with_reducible exact Below.refl _ _ | with_reducible refine bel_alloc ?_ _ | with_reducible refine Below.drew ?_ | (refine Below.setCell ?_ (by first | (simp; done) | (simp; omega) | omega) _) | with_reducible refine bel_up ?_ (by with_reducible assumption)))))).mono ?_; rintro e v_24 ⟨rfl, hbq_24⟩; have hsz_24 := hbq_24.size; (try simp [size_drewC] at hsz_24))
      | (go_at_call 24; with_reducible refine (K25.out _ (HNV.out.up (bel_up hB16 (by (repeat (first | with_reducible exact Below.refl _ _ | with_reducible refine bel_alloc ?_ _ | with_reducible refine Below.drew ?_ | (refine Below.setCell ?_ (by first | (simp; done) | (simp; omega) | omega) _) | with_reducible refine bel_up ?_ (by with_reducible assumption))))))).mono ?_; rintro e v_26 ⟨vv_26, rfl, hv_26, hbq_26⟩; have hsz_26 := hbq_26.size; (try simp [size_drewC] at hsz_26))
      | (go_at_call 25; with_reducible refine (K27.out _ (HNV.out.up (bel_up hB16 (by (repeat (first | with_reducible exact Below.refl _ _ | with_reducible refine bel_alloc ?_ _ | with_reducible refine Below.drew ?_ | (refine Below.setCell ?_ (by first | (simp; done) | (simp; omega) | omega) _) | with_reducible refine bel_up ?_ (by with_reducible assumption))))))).mono ?_; rintro e v_28 ⟨vv_28, rfl, hv_28, hbq_28⟩; have hsz_28 := hbq_28.size; (try simp [size_drewC] at hsz_28))
      | (go_at_call 23; with_reducible refine (K29.out _ _ _ (hv_26.up (by (repeat (first | with_reducible exact Below.refl _ _ | with_reducible refine bel_alloc ?_ _ | with_reducible refine Below.drew ?_ | (refine Below.setCell ?_ (by first | (simp; done) | (simp; omega) | omega) _) | with_reducible refine bel_up ?_ (by with_reducible assumption))))) (hv_28.up (by (repeat (first | with_reducible exact Below.refl _ _ | with_reducible refine bel_alloc ?_ _ | with_reducible refine Below.drew ?_ | (refine Below.setCell ?_ (by first | (simp; done) | (simp; omega) | omega) _) | with_reducible refine bel_up ?_ (by with_reducible assumption)))))).mono ?_; rintro e v_30 ⟨rfl, hbq_30⟩; have hsz_30 := hbq_30.size; (try simp [size_drewC] at hsz_30)))
    all_goals
      go_wp2_with fail
      go_meet
      refine ⟨rfl, ?_⟩
      · (repeat (first | with_reducible exact Below.refl _ _ | with_reducible refine bel_alloc ?_ _ | with_reducible refine Below.drew ?_ | (refine Below.setCell ?_ (by first | (simp; done) | (simp; omega) | omega) _) | with_reducible refine bel_up ?_ (by with_reducible assumption)))
  case rest =>
    obtain ⟨rfl, hbz3⟩ := hcut
    obtain ⟨wz3, hwz3⟩ : ∃ W_, W_ = wc := ⟨_, rfl⟩
    subst hwz3
    clear HSS31
    have c32 := c15.up hbz3
    have hB33 : Below w.heap.size w wz3 := bel_up hB16 hbz3
    clear c15
    have uc32 := c32
    simp only [At, Own, Nat.reduceAdd, and_true] at uc32
    go_wp2
    go_ret
    exact ⟨rfl, bel_up hBw (by repeat (first | with_reducible exact hB33 | with_reducible refine bel_alloc ?_ _ | refine Below.setCell ?_ (by first | (simp; done) | (simp; omega) | omega) _))⟩
end Go.Proofs.YtldfencaoaikgaaGreatDoor
