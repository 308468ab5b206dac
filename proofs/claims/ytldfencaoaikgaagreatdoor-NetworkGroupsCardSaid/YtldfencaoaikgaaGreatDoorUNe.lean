/-
  Contracts of package network: the roads by which a node can be left and reached.
  Contracts of package network: a network the other way round.
-/
import Derived.Test.YtldfencaoaikgaaGreatDoorUNw9
import Derived.Test.YtldfencaoaikgaaGreatDoorUNwM
import Derived.Deep.Onto
import Derived.Lib.SliceRun
import Derived.Deep.RegionHeld3
import Derived.Deep.DeepCutAuto
set_option linter.unusedSimpArgs false
set_option linter.unusedVariables false
namespace Go.Proofs.YtldfencaoaikgaaGreatDoor
open Go Go.RowKit Nw

/-- By which roads a node can be left, and reached. -/
def outP (id : Int) (r : Rd) : Bool := decide (r.f = id) || (decide (r.t = id) && !r.o)
/-- The ids of the roads for which a condition holds. -/
def idsOf (pr : Rd → Bool) (l : List Rd) : List Int := (l.filter pr).map fun r => r.i
theorem idsOf_yes {pr : Rd → Bool} {l : List Rd} {k : Nat} {x : Rd} (h : l[k]? = some x) (hp : pr x = true) : idsOf pr (l.take (k + 1)) = idsOf pr (l.take k) ++ [x.i] := by
  unfold idsOf; rw [List.take_add_one, h, List.filter_append]; simp [hp]
theorem idsOf_no {pr : Rd → Bool} {l : List Rd} {k : Nat} {x : Rd} (h : l[k]? = some x) (hp : pr x = false) : idsOf pr (l.take (k + 1)) = idsOf pr (l.take k) := by
  unfold idsOf; rw [List.take_add_one, h, List.filter_append]; simp [hp]

set_option maxRecDepth 100000 in
theorem outc_any (x : Rd) (id : Int) (gb : Nat) (w : World) (hgb : Own w gb 0 [.int .i64 id]) :
    Calls Tryz.prog 71 #[.agg #[.int .i64 x.i, .int .i64 x.f, .int .i64 x.t, .int .i64 x.l, .int .i64 x.m, .bool x.o], .pointer (some ⟨gb, 0, none⟩)] w fun e w' => e = .returned (.bool (outP id x)) ∧ Below w.heap.size w w' := by
  go_enter Tryz.func71, Tryz.ntmps71
  have ne1_ : gb < w.heap.size := by have := hgb.lt; omega
  have ne1 := Nat.ne_of_lt ne1_
  have ne1' := ne1.symm
  by_cases hc2 : (x.f : Int) = id
  · skip
    have hc2_ : (((x.f : Int)) == id) = true := by simpa using hc2
    have Hhc2 := Lib.hid hc2
    clear hc2
    have uhgb := hgb
    simp only [At, Own, Nat.reduceAdd, and_true] at uhgb
    go_wp2
    go_ret
    refine ⟨(by unfold outP; simp [Hhc2.out]), ?_⟩
    repeat (first | with_reducible exact Below.refl _ _ | with_reducible refine bel_alloc ?_ _ | refine Below.setCell ?_ (by first | (simp; done) | (simp; omega) | omega) _)
  · skip
    have hc2_ : (((x.f : Int)) == id) = false := by simpa using hc2
    by_cases hc3 : (x.t : Int) = id
    · skip
      have hc3_ : (((x.t : Int)) == id) = true := by simpa using hc3
      have Hhc3 := Lib.hid hc3
      clear hc3
      have uhgb := hgb
      simp only [At, Own, Nat.reduceAdd, and_true] at uhgb
      go_wp2
      go_ret
      refine ⟨(by unfold outP; simp [hc2, Hhc3.out]), ?_⟩
      repeat (first | with_reducible exact Below.refl _ _ | with_reducible refine bel_alloc ?_ _ | refine Below.setCell ?_ (by first | (simp; done) | (simp; omega) | omega) _)
    · skip
      have hc3_ : (((x.t : Int)) == id) = false := by simpa using hc3
      have uhgb := hgb
      simp only [At, Own, Nat.reduceAdd, and_true] at uhgb
      go_wp2
      go_ret
      refine ⟨(by unfold outP; simp [hc2, hc3]), ?_⟩
      repeat (first | with_reducible exact Below.refl _ _ | with_reducible refine bel_alloc ?_ _ | refine Below.setCell ?_ (by first | (simp; done) | (simp; omega) | omega) _)

set_option maxRecDepth 100000 in
set_option maxHeartbeats 1000000 in
theorem where_out (N : Net) (gb : Nat) (id : Int) (v : Value) (w : World) (h : NV w v N) (g : Vld N) (hgb : Own w gb 0 [.int .i64 id]) :
    Calls Tryz.prog 70 #[v, (.func (.func 71) #[] #[.pointer (some ⟨gb, 0, none⟩)])] w fun e w' => ∃ v' n', e = .returned v' ∧ w'.ownsRow w.heap.size 3 1 v' n' (its (idsOf (outP id) N.rs)) ∧ Below w.heap.size w w' := by
  have HGB := Lib.hid hgb
  clear hgb
  obtain ⟨_, _, rfl, hn, hr⟩ := h
  obtain ⟨An, cn, rfl, hcn, hmn, hxn⟩ := hn.open_
  obtain ⟨Ar, cr, rfl, hcr, hmr, hxr⟩ := hr.open_
  have HNV : Hid (NV w (.agg #[.slice An N.ns.length cn, .slice Ar N.rs.length cr]) N) := Lib.hid ⟨_, _, rfl, hn, hr⟩
  have HXN := Lib.hid hxn
  have HXR := Lib.hid hxr
  have HG := Lib.hid g
  have hln := g.ln
  have hlr := g.lr
  generalize hNn : N.ns.length = Nn at *
  generalize hNr : N.rs.length = Nr at *
  have HNn := Lib.hid hNn
  have HNr := Lib.hid hNr
  clear hn hr hxn hxr g hNn hNr
  go_enter Tryz.func70, Tryz.ntmps70
  go_wp2_with fail
  refine wp_named ?_
  intro W1 hW1
  have hL1 : Below w.heap.size w W1 := by
    rw [hW1]
    repeat (first | with_reducible exact Below.refl _ _ | with_reducible refine bel_alloc ?_ _ | refine Below.setCell ?_ (by first | (simp; done) | (simp; omega) | omega) _)
  have c1 : Own W1 (w.heap.size) 0 [.slice An Nn cn, .slice Ar Nr cr] := by
    rw [hW1]
    first
    | (repeat (first | (with_reducible refine own_new (l := [.slice An Nn cn, .slice Ar Nr cr]) ?_; (simp; done)) | with_reducible refine Own.alloc ?_ _ | refine Own.far _ _ (by first | (simp; done) | (simp [*]; done) | (simp; omega)) ?_)); done
    | simp [Own, go_sem]
  have hB2 : Below w.heap.size w W1 := by
    rw [hW1]
    repeat (first | with_reducible exact Below.refl _ _ | with_reducible refine bel_alloc ?_ _ | refine Below.setCell ?_ (by first | (simp; done) | (simp; omega) | omega) _)
  clear hW1 hL1
  go_loopw [5, 11] (fun s5 s11 wr => ∃ (k : Nat) (n : Nat) (L : List Int), s11 = .int .i64 k ∧ wr.ownsRow w.heap.size 3 1 s5 n (its L) ∧ Below w.heap.size w wr ∧ k ≤ Nr ∧ n ≤ k ∧ Hid (L = idsOf (outP id) (N.rs.take k))) (fun _ s11 _ => Nr - (intOf s11).toNat)
  case atStart => exact ⟨0, 0, ([]), rfl, World.ownsRow_nil _ _ _ _, hB2, (by omega), (by omega), Lib.hid rfl⟩
  case round =>
    clear hB2
    obtain ⟨k, n, L, rfl, o3, hB4, hk, hn, HE⟩ := hrel
    obtain ⟨wr5, hwr5⟩ : ∃ W_, W_ = wr := ⟨_, rfl⟩
    subst hwr5
    have O6 := Lib.hid o3
    clear o3
    by_cases hltk : k < Nr
    · skip
      have i1k : (k : Int) < Nr := by omega
      obtain ⟨x7, hx8⟩ : ∃ x, N.rs[k]? = some x := ⟨_, List.getElem?_eq_getElem (by rw [HNr.out]; omega)⟩
      have Hhx8 := Lib.hid hx8
      clear hx8
      obtain ⟨g10, o11, ha12, -⟩ := (HXR.out).up kpR hB4 _ _ Hhx8.out
      subst ha12
      have ce9 := LX.at_ ((HXR.out).up kpR hB4) Hhx8.out
      have ce9_ : g10 < wr5.heap.size := World.block_lt_of_cell? _ _ ce9.1
      have uce9 := ce9
      simp only [CR, rdc, At, Nat.reduceMul] at uce9
      have f13 := owns_new0 O6.out
      have K14 := Lib.hid (fun W (hg : Own W gb 0 [.int .i64 id]) => outc_any x7 id gb W hg)
      go_wp2_with (fail)
      refine calls_named ?_
      intro W2 hW2
      have hL2 : Below wr5.heap.size wr5 W2 := by
        rw [hW2]
        repeat (first | with_reducible exact Below.refl _ _ | with_reducible refine bel_alloc ?_ _ | refine Below.setCell ?_ (by first | (simp; done) | (simp; omega) | omega) _)
      have c15 : Own W2 (wr5.heap.size) 0 [.int .i64 x7.i, .int .i64 x7.f, .int .i64 x7.t, .int .i64 x7.l, .int .i64 x7.m, .bool x7.o] := by
        rw [hW2]
        first
        | (repeat (first | (with_reducible refine own_new (l := [.int .i64 x7.i, .int .i64 x7.f, .int .i64 x7.t, .int .i64 x7.l, .int .i64 x7.m, .bool x7.o]) ?_; (simp; done)) | with_reducible refine Own.alloc ?_ _ | refine Own.far _ _ (by first | (simp; done) | (simp [*]; done) | (simp; omega)) ?_)); done
        | simp [Own, go_sem, uce9]
      have O16 := Lib.hid (owns_up O6.out hL2)
      have hB17 : Below w.heap.size w W2 := by
        rw [hW2]
        repeat (first | with_reducible exact hB4 | with_reducible refine bel_alloc ?_ _ | refine Below.setCell ?_ (by first | (simp; done) | (simp; omega) | omega) _)
      clear hW2 hL2 uce9
      with_reducible refine (K14.out _ (HGB.out.up hB17)).mono ?_
      rintro e w2 ⟨rfl, hb2⟩
      have c18 := c15.up hb2
      have O19 := Lib.hid (owns_up O16.out hb2)
      have hB20 : Below w.heap.size w w2 := bel_up hB17 hb2
      clear c15 O16
      rcases hb21 : (outP id x7) with _ | _
      · skip
        have uc18 := c18
        simp only [At, Own, Nat.reduceAdd, and_true] at uc18
        go_wp2
        go_roundw
        case rel => exact ⟨(k + 1), n, L, (by first | rfl | exact congrArg (Value.int .i64) (by omega) | simp [*]), (by repeat (first | with_reducible exact O19.out | refine owns_far ?_ _ (by first | exact f13) _ | with_reducible refine World.ownsRow.alloc ?_ _)), (by repeat (first | with_reducible exact hB20 | with_reducible refine bel_alloc ?_ _ | refine Below.setCell ?_ (by first | (simp; done) | (simp; omega) | omega) _)), (by omega), (by omega), Lib.hid (by rw [idsOf_no Hhx8.out hb21, HE.out])⟩
        case measure => simp [intOf] <;> omega
      · skip
        have uc18 := c18
        simp only [At, Own, Nat.reduceAdd, and_true] at uc18
        go_wp2_with (at_builtin; refine wpList_appF rfl _ _ _ rfl ti_it O19.out (hB20).size rfl rfl rfl rfl (itc_one x7.i) (by omega) (by decide) ?_)
        intro v22 w_v22 hown_v22 hst_v22
        have O24 : Hid (w_v22.ownsRow w.heap.size 3 1 v22 ((n + 1)) (its (L ++ [x7.i]))) := Lib.hid (by rw [its_snoc]; exact hown_v22)
        have c25 := Own.step hst_v22 f13 c18
        have f26 := hst_v22.far _ c18.lt f13
        have hB27 : Below w.heap.size w w_v22 := hst_v22.below hB20 (hB20).size (fun r hr => (O19.out.lt r hr).1)
        clear uc18 hown_v22 c18
        have uc25 := c25
        simp only [At, Own, Nat.reduceAdd, and_true] at uc25
        go_wp2
        go_roundw
        case rel => exact ⟨(k + 1), (n + 1), (L ++ [x7.i]), (by first | rfl | exact congrArg (Value.int .i64) (by omega) | simp [*]), (by repeat (first | with_reducible exact O24.out | refine owns_far ?_ _ (by first | exact f26) _ | with_reducible refine World.ownsRow.alloc ?_ _)), (by repeat (first | with_reducible exact hB27 | with_reducible refine bel_alloc ?_ _ | refine Below.setCell ?_ (by first | (simp; done) | (simp; omega) | omega) _)), (by omega), (by omega), Lib.hid (by rw [idsOf_yes Hhx8.out hb21, HE.out])⟩
        case measure => simp [intOf] <;> omega
    · skip
      have hkN : Nr = k := by omega
      subst hkN
      go_wp2
      go_ret
      exact ⟨_, _, rfl, (by rw [show idsOf (outP id) N.rs = L from by rw [HE.out, List.take_of_length_le (by rw [HNr.out]; exact Nat.le_refl _)]]; exact O6.out), (by repeat (first | with_reducible exact hB4 | with_reducible refine bel_alloc ?_ _ | refine Below.setCell ?_ (by first | (simp; done) | (simp; omega) | omega) _))⟩

set_option maxRecDepth 100000 in
theorem out_any (N : Net) (id : Int) (v : Value) (w : World) (h : NV w v N) (g : Vld N) :
    Calls Tryz.prog 33 #[v, .int .i64 id] w fun e w' => ∃ v' n', e = .returned v' ∧ w'.ownsRow w.heap.size 3 1 v' n' (its (idsOf (outP id) N.rs)) ∧ Below w.heap.size w w' := by
  obtain ⟨_, _, rfl, hn, hr⟩ := h
  obtain ⟨An, cn, rfl, hcn, hmn, hxn⟩ := hn.open_
  obtain ⟨Ar, cr, rfl, hcr, hmr, hxr⟩ := hr.open_
  have HNV : Hid (NV w (.agg #[.slice An N.ns.length cn, .slice Ar N.rs.length cr]) N) := Lib.hid ⟨_, _, rfl, hn, hr⟩
  have HXN := Lib.hid hxn
  have HXR := Lib.hid hxr
  have HG := Lib.hid g
  have hln := g.ln
  have hlr := g.lr
  generalize hNn : N.ns.length = Nn at *
  generalize hNr : N.rs.length = Nr at *
  have HNn := Lib.hid hNn
  have HNr := Lib.hid hNr
  clear hn hr hxn hxr g hNn hNr
  go_enter Tryz.func33, Tryz.ntmps33
  have K1 := Lib.hid (fun W (hv : NV W (.agg #[.slice An Nn cn, .slice Ar Nr cr]) N) (ho : Own W (w.heap.size + 1) 0 [.int .i64 id]) => where_out N (w.heap.size + 1) id _ W hv HG.out ho)
  go_wp2_with (fail)
  refine calls_named ?_
  intro W1 hW1
  have hL1 : Below w.heap.size w W1 := by
    rw [hW1]
    repeat (first | with_reducible exact Below.refl _ _ | with_reducible refine bel_alloc ?_ _ | refine Below.setCell ?_ (by first | (simp; done) | (simp; omega) | omega) _)
  have c2 : Own W1 (w.heap.size) 0 [.slice An Nn cn, .slice Ar Nr cr] := by
    rw [hW1]
    first
    | (repeat (first | (with_reducible refine own_new (l := [.slice An Nn cn, .slice Ar Nr cr]) ?_; (simp; done)) | with_reducible refine Own.alloc ?_ _ | refine Own.far _ _ (by first | (simp; done) | (simp [*]; done) | (simp; omega)) ?_)); done
    | simp [Own, go_sem]
  have c3 : Own W1 (w.heap.size + 1) 0 [.int .i64 id] := by
    rw [hW1]
    first
    | (repeat (first | (with_reducible refine own_new (l := [.int .i64 id]) ?_; (simp; done)) | with_reducible refine Own.alloc ?_ _ | refine Own.far _ _ (by first | (simp; done) | (simp [*]; done) | (simp; omega)) ?_)); done
    | simp [Own, go_sem]
  have hB4 : Below w.heap.size w W1 := by
    rw [hW1]
    repeat (first | with_reducible exact Below.refl _ _ | with_reducible refine bel_alloc ?_ _ | refine Below.setCell ?_ (by first | (simp; done) | (simp; omega) | omega) _)
  clear hW1 hL1
  with_reducible refine (K1.out _ (HNV.out.up hB4) c3).mono ?_
  rintro e w1 ⟨v1, n1, rfl, ho1, hb1⟩
  have f5 : Value.ownBlock v1 ≠ some (w.heap.size) := fun e_ => by have := (ho1.lt _ e_).1; have := c2.lt; omega
  have f6 : Value.ownBlock v1 ≠ some (w.heap.size + 1) := fun e_ => by have := (ho1.lt _ e_).1; have := c3.lt; omega
  have OC1 := Lib.hid (ho1.mono (hB4).size)
  clear ho1
  have c7 := c2.up hb1
  have c8 := c3.up hb1
  have hB9 : Below w.heap.size w w1 := bel_up hB4 hb1
  clear c2 c3
  have uc7 := c7; have uc8 := c8
  simp only [At, Own, Nat.reduceAdd, and_true] at uc7 uc8
  go_wp2
  go_ret
  exact ⟨_, _, rfl, (by skip; exact OC1.out), (by repeat (first | with_reducible exact hB9 | with_reducible refine bel_alloc ?_ _ | refine Below.setCell ?_ (by first | (simp; done) | (simp; omega) | omega) _))⟩

end Go.Proofs.YtldfencaoaikgaaGreatDoor

namespace Go.Proofs.YtldfencaoaikgaaGreatDoor
open Go Go.RowKit Nw

theorem ti_nd : TI Tryz.prog 22 53 3 24 := ⟨Tryz.underlying22, by kernel_rfl, by decide⟩
theorem ti_rd : TI Tryz.prog 23 67 6 48 := ⟨Tryz.underlying23, by kernel_rfl, by decide⟩
theorem ndc_one (x : Nd) : ∀ u ∈ ndc x, u.oneCell' = true := by
  intro u hu
  simp only [ndc, List.mem_cons, List.not_mem_nil, or_false] at hu
  rcases hu with rfl | rfl | rfl <;> rfl
theorem rdc_one (x : Rd) : ∀ u ∈ rdc x, u.oneCell' = true := by
  intro u hu
  simp only [rdc, List.mem_cons, List.not_mem_nil, or_false] at hu
  rcases hu with rfl | rfl | rfl | rfl | rfl | rfl <;> rfl
theorem rds_length (l : List Rd) : (rds l).length = l.length * 6 := by rw [rds, flat_length rdc 6 (fun _ => rfl)]
theorem rds_get : ∀ (l : List Rd) (k j : Nat) (x : Rd), l[k]? = some x → j < 6 → (rds l)[k * 6 + j]? = (rdc x)[j]? := flat_get rdc 6 (fun _ => rfl)
theorem nl_own {w : World} {base n : Nat} {v : Value} {l : List Nd} (h : w.ownsRow base 53 3 v n (nds l)) : NL w v l := by
  left
  have e : n = l.length := by have := h.1; rw [nds, flat_length ndc 3 (fun _ => rfl)] at this; omega
  subst e
  exact Sl.of_own h
theorem rl_own {w : World} {base n : Nat} {v : Value} {l : List Rd} (h : w.ownsRow base 67 6 v n (rds l)) : RL w v l := by
  left
  have e : n = l.length := by have := h.1; rw [rds_length] at this; omega
  subst e
  exact Sl.of_own h
theorem owns_viewR {w : World} {base n g cap : Nat} {l : List Rd} (h : w.ownsRow base 67 6 (.slice (some ⟨g, 0, none⟩) n cap) n (rds l)) : LX CR 6 w (some ⟨g, 0, none⟩) l := by
  obtain ⟨A, c, hv, _, _, hx⟩ := (rl_own h).open_
  have e : n = l.length := by have := h.1; rw [rds_length] at this; omega
  subst e
  cases hv
  exact hx
/-- A road turned round in its row. -/
theorem own_turn {w : World} {base n g cap k : Nat} {l : List Rd} {x : Rd} (h : w.ownsRow base 67 6 (.slice (some ⟨g, 0, none⟩) n cap) n (rds l)) (hx : l[k]? = some x) :
    ((w.setCell ⟨g, k * 6 + 1, none⟩ (.int .i64 x.t)).setCell ⟨g, k * 6 + 2, none⟩ (.int .i64 x.f)).ownsRow base 67 6 (.slice (some ⟨g, 0, none⟩) n cap) n (rds (l.set k x.rev)) := by
  have hk := (List.getElem?_eq_some_iff.1 hx).1
  have hlen := h.1
  rw [rds_length] at hlen
  refine ⟨by rw [rds_length, List.length_set]; exact hlen, .inr ?_⟩
  rcases h.2 with ⟨h2, _⟩ | ⟨g', cap', cur, hv, hbg, hg, hnc, hcm, hcs, htake⟩
  · cases h2
  · cases hv
    have hgs := (Array.getElem?_eq_some_iff.1 hg).1
    refine ⟨g, cap, (cur.setIfInBounds (k * 6 + 1) (.int .i64 x.t)).setIfInBounds (k * 6 + 2) (.int .i64 x.f), rfl, hbg, ?_, hnc, hcm, by simpa using hcs, ?_⟩
    · have h1 : (w.setCell ⟨g, k * 6 + 1, none⟩ (.int .i64 x.t)).heap[g]? = some (.cells (cur.setIfInBounds (k * 6 + 1) (.int .i64 x.t)) 67 (0, 0)) := by
        simp [World.setCell, hg, Array.getElem?_modify]
      simp [World.setCell, h1, hg, Array.getElem?_modify]
    · apply List.ext_getElem?
      intro t
      have ht0 : (rds l)[t]? = if t < n * 6 then cur[t]? else none := by rw [← htake, List.getElem?_take, Array.getElem?_toList]
      rw [List.getElem?_take]
      by_cases ht : t < n * 6
      · rw [if_pos ht] at ht0 ⊢
        rw [Array.getElem?_toList]
        have hj := Nat.mod_lt t (show 0 < 6 by decide)
        have e : t / 6 * 6 + t % 6 = t := by omega
        have htl : t / 6 < l.length := by omega
        by_cases q : t / 6 = k
        · have h3 := rds_get (l.set k x.rev) k (t % 6) x.rev (by simp [hk]) hj
          have h4 := rds_get l k (t % 6) x hx hj
          have ek : k * 6 + t % 6 = t := by omega
          rw [ek] at h3 h4
          rw [h3]
          rw [h4] at ht0
          have hsz : t < cur.size := by
            have : n * 6 ≤ cap * 6 := Nat.mul_le_mul_right _ hnc
            omega
          obtain ⟨m, hm⟩ : ∃ m, m = t % 6 := ⟨_, rfl⟩
          rw [← hm] at ht0 ⊢
          have et : t = k * 6 + m := by omega
          subst et
          rcases (show m = 0 ∨ m = 1 ∨ m = 2 ∨ m = 3 ∨ m = 4 ∨ m = 5 by omega) with rfl | rfl | rfl | rfl | rfl | rfl
          · rw [Array.getElem?_setIfInBounds_ne (by omega), Array.getElem?_setIfInBounds_ne (by omega), ← ht0]; rfl
          · rw [Array.getElem?_setIfInBounds_ne (by omega), Array.getElem?_setIfInBounds_self, if_pos hsz]; rfl
          · rw [Array.getElem?_setIfInBounds_self, if_pos (by simpa using hsz)]; rfl
          · rw [Array.getElem?_setIfInBounds_ne (by omega), Array.getElem?_setIfInBounds_ne (by omega), ← ht0]; rfl
          · rw [Array.getElem?_setIfInBounds_ne (by omega), Array.getElem?_setIfInBounds_ne (by omega), ← ht0]; rfl
          · rw [Array.getElem?_setIfInBounds_ne (by omega), Array.getElem?_setIfInBounds_ne (by omega), ← ht0]; rfl
        · have h3 := rds_get (l.set k x.rev) (t / 6) (t % 6) l[t / 6] (by rw [List.getElem?_set_ne (Ne.symm q)]; exact List.getElem?_eq_getElem htl) hj
          have h4 := rds_get l (t / 6) (t % 6) l[t / 6] (List.getElem?_eq_getElem htl) hj
          rw [e] at h3 h4
          rw [h3, ← h4, ht0, Array.getElem?_setIfInBounds_ne (by omega), Array.getElem?_setIfInBounds_ne (by omega)]
      · rw [if_neg ht, List.getElem?_eq_none (by rw [rds_length, List.length_set]; omega)]

theorem nclone_empty (w : World) : (w.alloc (.cells #[] 53)).ownsRow w.heap.size 53 3 (.slice (some ⟨w.heap.size, 0, none⟩) 0 0) 0 [] :=
  ⟨rfl, .inr ⟨w.heap.size, 0, #[], rfl, Nat.le_refl _, heap_alloc_new w _, Nat.le_refl _, by simp [maxLen], rfl, rfl⟩⟩
set_option maxRecDepth 100000 in
theorem nclone_any (v : Value) (l : List Nd) (w : World) (h : NL w v l) (hn : l.length ≤ 1000000) :
    Calls Tryz.prog 76 #[v] w fun e w' => ∃ v', e = .returned v' ∧ w'.ownsRow w.heap.size 53 3 v' l.length (nds l) ∧ Below w.heap.size w w' := by
  have q22 : ∀ (w : World) (a : Option Addr) (n c n' c' : Nat), (binOp .eql 22 (.slice a n c) (.slice none n' c')).run Tryz.prog w = .ok (.bool a.isNone) w := fun w a n c n' c' => Lib.run_eql_slice_nil w _ _ a n c n' c' Tryz.underlying22
  rcases h with h | ⟨h0, a, c, rfl, hm⟩
  case inr =>
    have hl : l = [] := List.eq_nil_of_length_eq_zero h0
    subst hl
    go_enter Tryz.func76, Tryz.ntmps76
    go_wp2_with (at_builtin; refine wpList_appE rfl _ _ _ rfl ti_nd (nclone_empty w) (by simp) rfl rfl (.inr ⟨⟨rfl, a, c, rfl, hm⟩, rfl⟩) (by simp) (by omega) (by decide) ?_)
    intro v' w' hown hst
    have hb : Below w.heap.size w w' := hst.below ((Below.refl _ w).alloc (Nat.le_refl _) _) (by simp) (fun r hr => by simp [Value.ownBlock] at hr; omega)
    have hown' := Lib.hid hown
    clear hown
    go_wp2
    go_ret
    exact ⟨_, rfl, hown'.out, hb⟩
  rcases h.2 with ⟨rfl, h0⟩ | ⟨g, o, c, rfl, hc, hm, hx⟩
  · have hl : l = [] := List.eq_nil_of_length_eq_zero h0
    subst hl
    go_enter Tryz.func76, Tryz.ntmps76
    go_wp2
    go_ret
    exact ⟨_, rfl, World.ownsRow_nil _ _ _ _, Below.refl _ _⟩
  · have HS := Lib.hid (Sl.up h ((Below.refl _ w).alloc (Nat.le_refl _) (.cells #[] 53)))
    have hone : ∀ u ∈ nds l, u.oneCell' = true := fun u hu => by
      obtain ⟨p, _, hp⟩ := List.mem_flatMap.1 hu
      exact ndc_one p u hp
    have HO := Lib.hid hone
    generalize hN : l.length = N at *
    have HN := Lib.hid hN
    clear h hx hone hN
    have HS2 : Hid (Sl (w.alloc (.cells #[] 53)) (.slice (some ⟨g, o, none⟩) N c) N 3 (nds l)) := Lib.hid (by have := HS.out; first | exact this | (rw [HN.out] at this; exact this))
    go_enter Tryz.func76, Tryz.ntmps76
    go_wp2_with (at_builtin; refine wpList_appX rfl _ _ _ rfl ti_nd (nclone_empty w) (by simp) rfl rfl HS2.out HO.out (by omega) (by decide) ?_)
    intro v' w' hown hst
    have hb : Below w.heap.size w w' := hst.below ((Below.refl _ w).alloc (Nat.le_refl _) _) (by simp) (fun r hr => by simp [Value.ownBlock] at hr; omega)
    have hown' : Hid (w'.ownsRow w.heap.size 53 3 v' N (nds l)) := Lib.hid (by simpa using hown)
    clear hown
    go_wp2
    go_ret
    exact ⟨_, rfl, hown'.out, hb⟩


theorem rclone_empty (w : World) : (w.alloc (.cells #[] 67)).ownsRow w.heap.size 67 6 (.slice (some ⟨w.heap.size, 0, none⟩) 0 0) 0 [] :=
  ⟨rfl, .inr ⟨w.heap.size, 0, #[], rfl, Nat.le_refl _, heap_alloc_new w _, Nat.le_refl _, by simp [maxLen], rfl, rfl⟩⟩
set_option maxRecDepth 100000 in
theorem rclone_any (v : Value) (l : List Rd) (w : World) (h : RL w v l) (hn : l.length ≤ 1000000) :
    Calls Tryz.prog 77 #[v] w fun e w' => ∃ v', e = .returned v' ∧ w'.ownsRow w.heap.size 67 6 v' l.length (rds l) ∧ Below w.heap.size w w' := by
  have q22 : ∀ (w : World) (a : Option Addr) (n c n' c' : Nat), (binOp .eql 23 (.slice a n c) (.slice none n' c')).run Tryz.prog w = .ok (.bool a.isNone) w := fun w a n c n' c' => Lib.run_eql_slice_nil w _ _ a n c n' c' Tryz.underlying23
  rcases h with h | ⟨h0, a, c, rfl, hm⟩
  case inr =>
    have hl : l = [] := List.eq_nil_of_length_eq_zero h0
    subst hl
    go_enter Tryz.func77, Tryz.ntmps77
    go_wp2_with (at_builtin; refine wpList_appE rfl _ _ _ rfl ti_rd (rclone_empty w) (by simp) rfl rfl (.inr ⟨⟨rfl, a, c, rfl, hm⟩, rfl⟩) (by simp) (by omega) (by decide) ?_)
    intro v' w' hown hst
    have hb : Below w.heap.size w w' := hst.below ((Below.refl _ w).alloc (Nat.le_refl _) _) (by simp) (fun r hr => by simp [Value.ownBlock] at hr; omega)
    have hown' := Lib.hid hown
    clear hown
    go_wp2
    go_ret
    exact ⟨_, rfl, hown'.out, hb⟩
  rcases h.2 with ⟨rfl, h0⟩ | ⟨g, o, c, rfl, hc, hm, hx⟩
  · have hl : l = [] := List.eq_nil_of_length_eq_zero h0
    subst hl
    go_enter Tryz.func77, Tryz.ntmps77
    go_wp2
    go_ret
    exact ⟨_, rfl, World.ownsRow_nil _ _ _ _, Below.refl _ _⟩
  · have HS := Lib.hid (Sl.up h ((Below.refl _ w).alloc (Nat.le_refl _) (.cells #[] 67)))
    have hone : ∀ u ∈ rds l, u.oneCell' = true := fun u hu => by
      obtain ⟨p, _, hp⟩ := List.mem_flatMap.1 hu
      exact rdc_one p u hp
    have HO := Lib.hid hone
    generalize hN : l.length = N at *
    have HN := Lib.hid hN
    clear h hx hone hN
    have HS2 : Hid (Sl (w.alloc (.cells #[] 67)) (.slice (some ⟨g, o, none⟩) N c) N 6 (rds l)) := Lib.hid (by have := HS.out; first | exact this | (rw [HN.out] at this; exact this))
    go_enter Tryz.func77, Tryz.ntmps77
    go_wp2_with (at_builtin; refine wpList_appX rfl _ _ _ rfl ti_rd (rclone_empty w) (by simp) rfl rfl HS2.out HO.out (by omega) (by decide) ?_)
    intro v' w' hown hst
    have hb : Below w.heap.size w w' := hst.below ((Below.refl _ w).alloc (Nat.le_refl _) _) (by simp) (fun r hr => by simp [Value.ownBlock] at hr; omega)
    have hown' : Hid (w'.ownsRow w.heap.size 67 6 v' N (rds l)) := Lib.hid (by simpa using hown)
    clear hown
    go_wp2
    go_ret
    exact ⟨_, rfl, hown'.out, hb⟩


theorem Own.drew {w : World} {b : Nat} : ∀ {l : List Value} {i : Nat}, Own w b i l → Own w.drew b i l
  | [], _, _ => trivial
  | _ :: _, _, h => ⟨h.1, Own.drew h.2⟩
theorem size_drewK (w : World) : w.drew.heap.size = w.heap.size := rfl
theorem rev_take {l : List Rd} {k : Nat} {x : Rd} (h : l[k]? = some x) : ((l.take k).map Rd.rev ++ l.drop k).set k x.rev = (l.take (k + 1)).map Rd.rev ++ l.drop (k + 1) := by
  have hk := (List.getElem?_eq_some_iff.1 h).1
  have hl : ((l.take k).map Rd.rev).length = k := by simp; omega
  rw [List.set_append_right _ _ (by omega), hl, Nat.sub_self, drop_get h, List.set_cons_zero, List.take_add_one, h]
  simp
theorem rev_at {l : List Rd} {k : Nat} {x : Rd} (h : l[k]? = some x) : ((l.take k).map Rd.rev ++ l.drop k)[k]? = some x := by
  have hk := (List.getElem?_eq_some_iff.1 h).1
  have hl : ((l.take k).map Rd.rev).length = k := by simp; omega
  rw [List.getElem?_append_right (by omega), hl, Nat.sub_self, List.getElem?_drop]; exact h
theorem rev_end (l : List Rd) : (l.take l.length).map Rd.rev ++ l.drop l.length = l.map Rd.rev := by simp
theorem owns_openR {w : World} {base n : Nat} {v : Value} {l : List Rd} (h : w.ownsRow base 67 6 v n (rds l)) : ∃ A c, v = .slice A n c ∧ n ≤ c := by
  have e : n = l.length := by have := h.1; rw [rds_length] at this; omega
  subst e
  obtain ⟨A, c, hv, hc, _⟩ := (rl_own h).open_
  exact ⟨A, c, hv, hc⟩
theorem owns_openN {w : World} {base n : Nat} {v : Value} {l : List Nd} (h : w.ownsRow base 53 3 v n (nds l)) : ∃ A c, v = .slice A n c := by
  have e : n = l.length := by have := h.1; rw [nds, flat_length ndc 3 (fun _ => rfl)] at this; omega
  subst e
  obtain ⟨A, c, hv, _⟩ := (nl_own h).open_
  exact ⟨A, c, hv⟩
theorem put2 {w : World} {b : Nat} {x y u v : Value} (h : Own w b 0 [u, v]) : Own ((w.setCell ⟨b, 0, none⟩ x).setCell ⟨b, 1, none⟩ y) b 0 [x, y] := own_setL (vs := [x, y]) h rfl
theorem far2 {w : World} {base n b : Nat} {e : TypeId} {k : Nat} {v x y : Value} {xs : List Value} {i j : Nat} (h : w.ownsRow base e k v n xs) (hp : v.ownBlock ≠ some b) : ((w.setCell ⟨b, i, none⟩ x).setCell ⟨b, j, none⟩ y).ownsRow base e k v n xs :=
  owns_far (owns_far h ⟨b, i, none⟩ hp x) ⟨b, j, none⟩ hp y
theorem bel2 {w0 w : World} {B b i j : Nat} {x y : Value} (h : Below B w0 w) (hb : B ≤ b) : Below B w0 ((w.setCell ⟨b, i, none⟩ x).setCell ⟨b, j, none⟩ y) := Below.setCell (Below.setCell h hb x) hb y
theorem own2 {w : World} {g b i j : Nat} {x y : Value} {l : List Value} (h : Own w b 0 l) (hp : b ≠ g) : Own ((w.setCell ⟨g, i, none⟩ x).setCell ⟨g, j, none⟩ y) b 0 l := Own.far _ _ hp (Own.far _ _ hp h)
set_option maxRecDepth 100000 in
set_option maxHeartbeats 2000000 in
theorem reverse_any (N : Net) (v : Value) (w : World) (h : NV w v N) (g : Vld N) :
    Calls Tryz.prog 40 #[v] w fun e w' => ∃ v', e = .returned v' ∧ NV w' v' (rev N) ∧ Below w.heap.size w w' := by
  obtain ⟨a, b, rfl, hn, hr⟩ := h
  have HN := Lib.hid hn
  have HR := Lib.hid hr
  have hln := g.ln
  have hlr := g.lr
  clear hn hr g
  go_enter Tryz.func40, Tryz.ntmps40
  go_upto_region 1 with fail
  refine wp_named ?_
  intro W1 hW1
  have c1 : Own W1 w.heap.size 0 [a, b] := by rw [hW1]; simp [Own, go_sem]
  have c2 : Own W1 (w.heap.size + 1) 0 [.slice none 0 0, .slice none 0 0] := by rw [hW1]; simp [Own, go_sem]
  have hB1 : Below w.heap.size w W1 := by
    rw [hW1]
    repeat (first | with_reducible exact Below.refl _ _ | with_reducible refine bel_alloc ?_ _ | refine Below.setCell ?_ (by first | (simp; done) | (simp; omega) | omega) _)
  clear hW1
  have HSS : ∀ w' : World, Below W1.heap.size W1 w' → (w'.cell? ⟨w.heap.size, 0, none⟩ = some a ∧ w'.cell? ⟨w.heap.size, 1, none⟩ = some b) := fun w' hb => by
    have q := c1.up hb
    simp only [Own, Nat.reduceAdd, and_true] at q
    exact ⟨q.1.1, q.2.1⟩
  go_cut [3] (fun x3 wx => ∃ (bq : Nat) (vN vR : Value), x3 = .pointer (some ⟨bq, 0, none⟩) ∧ W1.heap.size ≤ bq ∧ Own wx bq 0 [vN, vR] ∧ wx.ownsRow W1.heap.size 53 3 vN N.ns.length (nds N.ns) ∧ wx.ownsRow W1.heap.size 67 6 vR N.rs.length (rds N.rs) ∧ vN.ownBlock ≠ some bq ∧ vR.ownBlock ≠ some bq ∧ FarR vR vN ∧ Below W1.heap.size W1 wx)
  case first =>
    have hu := HSS W1 (Below.refl _ _)
    go_region_held3 (fun w' => w'.cell? ⟨w.heap.size, 0, none⟩ = some a ∧ w'.cell? ⟨w.heap.size, 1, none⟩ = some b) (refine HSS _ ?_ <;> (repeat (first | with_reducible exact Below.refl _ _ | with_reducible refine bel_alloc ?_ _ | with_reducible refine Below.drew ?_ | (refine Below.setCell ?_ (by first | (simp; done) | (simp; omega) | omega) _) | with_reducible refine bel_up ?_ (by with_reducible assumption)))) (first
      | (go_at_call 76; with_reducible refine (nclone_any a N.ns _ (HN.out.up (bel_up hB1 (by (repeat (first | with_reducible exact Below.refl _ _ | with_reducible refine bel_alloc ?_ _ | with_reducible refine Below.drew ?_ | with_reducible refine bel_up ?_ (by with_reducible assumption)))))) (by omega)).mono ?_; rintro e v_1 ⟨vv_1, rfl, ho_1, hbq_1⟩; obtain ⟨Ai_1, ci_1, hvi_1⟩ := owns_openN ho_1; subst hvi_1; have hs_1 : W1.heap.size ≤ v_1.heap.size := Nat.le_trans (by first | exact Nat.le_refl _ | (simp; done) | (simp; omega)) hbq_1.size; have hl_1 := fun r hr => (ho_1.lt r hr); (try simp [size_drewK] at hl_1); have hp_1 := World.ownsRow.mono ho_1 (show W1.heap.size ≤ _ from (by first | exact Nat.le_refl _ | (simp; done) | (simp; omega))); clear ho_1; (try (refine (have hz_1 : Own v_1 W1.heap.size 0 [.slice none 0 0, .slice none 0 0] := ?_; ?_); (focus (refine Own.up ?_ hbq_1; (repeat (first | (with_reducible refine own_new (l := [.slice none 0 0, .slice none 0 0]) ?_; (focus (first | with_reducible rfl | (simp [size_drewK]; (fail_if_success (focus skip)))))) | with_reducible refine Own.alloc ?_ _ | with_reducible refine Own.drew ?_)); (fail_if_success (focus skip)))))); (try (have yhz_1 := hz_1; simp only [Own, Nat.reduceAdd, and_true] at yhz_1)); (try (have hlt_1 : W1.heap.size < v_1.heap.size := hz_1.lt)))
      | (go_at_call 77; with_reducible refine (rclone_any b N.rs _ (HR.out.up (bel_up hB1 (by (repeat (first | with_reducible exact Below.refl _ _ | with_reducible refine bel_alloc ?_ _ | with_reducible refine Below.drew ?_ | with_reducible refine bel_up ?_ (by with_reducible assumption)))))) (by omega)).mono ?_; rintro e v_2 ⟨vv_2, rfl, ho_2, hbq_2⟩; obtain ⟨Ai_2, ci_2, hvi_2, _⟩ := owns_openR ho_2; subst hvi_2; have hs_2 : v_1.heap.size ≤ v_2.heap.size := Nat.le_trans (by first | exact Nat.le_refl _ | (simp; done) | (simp; omega)) hbq_2.size; have hl_2 := fun r hr => (ho_2.lt r hr); (try simp [size_drewK] at hl_2); have hp_2 := World.ownsRow.mono ho_2 (show v_1.heap.size ≤ _ from (by first | exact Nat.le_refl _ | (simp; done) | (simp; omega))); clear ho_2; have hp_3 := owns_up hp_1 (show Below v_1.heap.size v_1 v_2 from by (repeat (first | with_reducible exact Below.refl _ _ | with_reducible refine bel_alloc ?_ _ | with_reducible refine Below.drew ?_ | with_reducible refine bel_up ?_ (by with_reducible assumption)))); have hW_2 : Below W1.heap.size W1 v_2 := (by (repeat (first | with_reducible exact Below.refl _ _ | with_reducible refine bel_alloc ?_ _ | with_reducible refine Below.drew ?_ | with_reducible refine bel_up ?_ (by with_reducible assumption)))); have hf_2 : FarR (.slice Ai_2 N.rs.length ci_2) (.slice Ai_1 N.ns.length ci_1) := FarR.of (fun r hr => (hp_2.lt r hr).1) (fun r hr => (hp_1.lt r hr).2); (try (refine (have hz_2 : Own v_2 W1.heap.size 0 [.slice none 0 0, .slice none 0 0] := ?_; ?_); (focus (refine Own.up ?_ hbq_2; (repeat (first | with_reducible exact hz_1 | with_reducible refine Own.alloc ?_ _ | with_reducible refine Own.drew ?_)); (fail_if_success (focus skip)))))); (try (have yhz_2 := hz_2; simp only [Own, Nat.reduceAdd, and_true] at yhz_2)); (try (refine (have hz_4 : Own v_2 v_1.heap.size 0 [.slice none 0 0, .slice none 0 0] := ?_; ?_); (focus (refine Own.up ?_ hbq_2; (repeat (first | (with_reducible refine own_new (l := [.slice none 0 0, .slice none 0 0]) ?_; (focus (first | with_reducible rfl | (simp [size_drewK]; (fail_if_success (focus skip)))))) | with_reducible refine Own.alloc ?_ _ | with_reducible refine Own.drew ?_)); (fail_if_success (focus skip)))))); (try (have yhz_4 := hz_4; simp only [Own, Nat.reduceAdd, and_true] at yhz_4)); (try (have hlt_4 : v_1.heap.size < v_2.heap.size := hz_4.lt))))
    all_goals
      go_wp2_with fail
      go_meet
      first
      | exact ⟨v_2.heap.size, (.slice Ai_1 N.ns.length ci_1), (.slice Ai_2 N.rs.length ci_2), rfl, (by omega), own_new (l := [(.slice Ai_1 N.ns.length ci_1), (.slice Ai_2 N.rs.length ci_2)]) rfl, hp_3.alloc _, (World.ownsRow.mono hp_2 hs_1).alloc _, (fun e_ => by have h1_ := hl_1 _ e_; omega), (fun e_ => by have h1_ := hl_2 _ e_; omega), hf_2, bel_alloc hW_2 _⟩
      | exact ⟨v_1.heap.size, (.slice Ai_1 N.ns.length ci_1), (.slice Ai_2 N.rs.length ci_2), rfl, (by omega), put2 hz_4, far2 hp_3 (fun e_ => by have h1_ := hl_1 _ e_; omega), far2 (World.ownsRow.mono hp_2 hs_1) (fun e_ => by have h1_ := hl_2 _ e_; omega), (fun e_ => by have h1_ := hl_1 _ e_; omega), (fun e_ => by have h1_ := hl_2 _ e_; omega), hf_2, bel2 hW_2 (by omega)⟩
      | exact ⟨W1.heap.size, (.slice Ai_1 N.ns.length ci_1), (.slice Ai_2 N.rs.length ci_2), rfl, (by omega), put2 hz_2, far2 hp_3 (fun e_ => by have h1_ := hl_1 _ e_; omega), far2 (World.ownsRow.mono hp_2 hs_1) (fun e_ => by have h1_ := hl_2 _ e_; omega), (fun e_ => by have h1_ := hl_1 _ e_; omega), (fun e_ => by have h1_ := hl_2 _ e_; omega), hf_2, bel2 hW_2 (by omega)⟩
  case rest =>
    obtain ⟨bq, vN, vR, rfl, hbq, ob, oN, oR, fN, fR, fNR, hbz⟩ := hcut
    obtain ⟨W2, hW2⟩ : ∃ W_, W_ = wc := ⟨_, rfl⟩
    subst hW2
    have c3 := c2.up hbz
    have hB2 : Below w.heap.size w W2 := bel_up hB1 hbz
    have hs := hB1.size
    have hlt2 := c2.lt
    obtain ⟨A, c, rfl, hnc⟩ := owns_openR oR
    clear c1 c2 HSS HR
    have ON := Lib.hid oN
    have OR := Lib.hid oR
    have HLEN : Hid (N.rs.length = N.rs.length) := Lib.hid rfl
    clear oN oR
    generalize hn : N.rs.length = n at hlr hnc OR fR fNR ob ⊢
    have HN2 := Lib.hid hn
    clear hn HLEN
    have uob := ob; have uc3 := c3
    simp only [At, Own, Nat.reduceAdd, and_true] at uob uc3
    go_wp2_with fail
    go_loopw [16] (fun s16 wr => ∃ (k : Nat) (M : List Rd), s16 = .int .i64 k ∧ k ≤ n ∧ Own wr bq 0 [vN, .slice A n c] ∧ Own wr (w.heap.size + 1) 0 [.slice none 0 0, .slice none 0 0] ∧ wr.ownsRow W1.heap.size 53 3 vN N.ns.length (nds N.ns) ∧ wr.ownsRow W1.heap.size 67 6 (.slice A n c) n (rds M) ∧ Hid (M = (N.rs.take k).map Rd.rev ++ N.rs.drop k) ∧ Below w.heap.size w wr) (fun s16 _ => n - (intOf s16).toNat)
    case atStart => exact ⟨0, N.rs, rfl, Nat.zero_le _, ob, c3, ON.out, OR.out, Lib.hid (by simp), hB2⟩
    case round =>
      clear uob uc3 ob c3 ON OR hB2
      obtain ⟨k, M, rfl, hk, b1, b2, o1, o2, HM, hb⟩ := hrel
      by_cases hlt : k < n
      · have i1 : (k : Int) < n := by omega
        obtain ⟨x, hx⟩ : ∃ x, N.rs[k]? = some x := ⟨_, List.getElem?_eq_getElem (by rw [HN2.out]; omega)⟩
        have HX := Lib.hid hx
        clear hx
        obtain ⟨g, cap, hv, _, _, hgl, hbg⟩ := owns_form o2 (by omega)
        injection hv with hv1 _ hv2
        subst hv1; subst hv2
        have hxM : Hid (M[k]? = some x) := Lib.hid (by rw [HM.out]; exact rev_at HX.out)
        have ce := LX.at_ (owns_viewR o2) hxM.out
        have uce := ce; have ub1 := b1
        simp only [CR, rdc, At, Own, Nat.reduceAdd, Nat.zero_add, Nat.add_assoc, and_true] at uce ub1
        have hgb : g ≠ bq := fun e_ => fR (by rw [e_]; rfl)
        have O1 := Lib.hid o1
        have O2 := Lib.hid o2
        clear o1 o2
        go_upto_region 5 with fail
        refine wp_named ?_
        intro W3 hW3
        have hL3 : Below wr.heap.size wr W3 := by
          rw [hW3]
          repeat (first | with_reducible exact Below.refl _ _ | with_reducible refine bel_alloc ?_ _ | refine Below.setCell ?_ (by first | (simp; done) | (simp; omega) | omega) _)
        have c5 : Own W3 wr.heap.size 0 [.int .i64 x.i, .int .i64 x.f, .int .i64 x.t, .int .i64 x.l, .int .i64 x.m, .bool x.o] := by
          rw [hW3]
          first
          | (repeat (first | (with_reducible refine own_new (l := [.int .i64 x.i, .int .i64 x.f, .int .i64 x.t, .int .i64 x.l, .int .i64 x.m, .bool x.o]) ?_; (simp; done)) | with_reducible refine Own.alloc ?_ _ | refine Own.far _ _ (by first | (simp; done) | (simp [*]; done) | (simp; omega)) ?_)); done
          | simp [Own, go_sem]
        have b1x := b1.up hL3
        have b2x := b2.up hL3
        have O1x := Lib.hid (owns_up O1.out hL3)
        have O2x := Lib.hid (owns_up O2.out hL3)
        have hB3 : Below w.heap.size w W3 := bel_up hb hL3
        have hbl := b1.lt
        have hgl3 : g ≠ wr.heap.size := Nat.ne_of_lt hgl
        clear hW3 hL3 ub1 uce ce b1 b2 O1 O2
        have hcel : W3.cell? ⟨g, k * 6 + 1, none⟩ = some (.int .i64 x.f) ∧ W3.cell? ⟨g, k * 6 + 2, none⟩ = some (.int .i64 x.t) := by
          have ce := LX.at_ (owns_viewR O2x.out) hxM.out
          simp only [CR, rdc, At, Nat.zero_add, Nat.add_assoc, Nat.reduceAdd] at ce
          exact ⟨ce.2.1, ce.2.2.1⟩
        have hfro : ∀ j, W3.frozen? ⟨g, j, none⟩ = false := fun j => by
          rcases O2x.out.2 with ⟨h_, _⟩ | ⟨g', cap', cur, hv, _, hg, _⟩
          · cases h_
          · cases hv; simp [World.frozen?, hg]
        have hf1 := hfro (k * 6 + 1)
        have hf2 := hfro (k * 6 + 2)
        have ub1 := b1x; have uc5 := c5
        simp only [At, Own, Nat.reduceAdd, and_true] at ub1 uc5
        go_region_held3 (fun w' => w'.cell? ⟨bq, 1, none⟩ = some (.slice (some ⟨g, 0, none⟩) n c) ∧ w'.cell? ⟨wr.heap.size, 1, none⟩ = some (.int .i64 x.f) ∧ w'.cell? ⟨wr.heap.size, 2, none⟩ = some (.int .i64 x.t)) (go_keep) (fail)
        all_goals
          go_wp2
          go_roundw
          case rel =>
            have e1 : bq ≠ g := hgb.symm
            have e2 : w.heap.size + 1 ≠ g := by omega
            first
            | exact ⟨k + 1, M.set k x.rev, (by first | rfl | exact congrArg (Value.int .i64) (by omega)), by omega, own2 b1x e1, own2 b2x e2, far2 O1x.out (fun e_ => fNR g rfl e_), own_turn O2x.out hxM.out, Lib.hid (by rw [HM.out]; exact rev_take HX.out), bel2 hB3 (by omega)⟩
            | exact ⟨k + 1, M.set k x.rev, (by first | rfl | exact congrArg (Value.int .i64) (by omega)), by omega, own2 (Own.drew b1x) e1, own2 (Own.drew b2x) e2, far2 (w := W3.drew) O1x.out (fun e_ => fNR g rfl e_), own_turn (w := W3.drew) O2x.out hxM.out, Lib.hid (by rw [HM.out]; exact rev_take HX.out), bel2 (Below.drew hB3) (by omega)⟩
          case measure => simp [intOf] <;> omega
      · obtain rfl : k = n := by omega
        have ub1 := b1; have ub2 := b2
        simp only [At, Own, Nat.reduceAdd, and_true] at ub1 ub2
        have HF : Hid (wr.ownsRow W1.heap.size 53 3 vN N.ns.length (nds N.ns)) := Lib.hid o1
        have HG : Hid (wr.ownsRow W1.heap.size 67 6 (.slice A k c) k (rds M)) := Lib.hid o2
        obtain ⟨An, cn, rfl⟩ := owns_openN o1
        have hbl := b1.lt
        have hbl2 := b2.lt
        have hne : bq ≠ w.heap.size + 1 := by omega
        clear o1 o2
        go_wp2_with fail
        refine bodyPost_ret (v := .agg #[.slice An N.ns.length cn, .slice A k c]) (by simp [results, Tryz.results40, go_sem, ub2]) rfl ⟨_, rfl, ?_, ?_⟩
        · refine ⟨_, _, rfl, ?_, ?_⟩
          · exact nl_own (far2 (b := w.heap.size + 1) HF.out (fun e_ => by have := (HF.out.lt _ e_).1; omega))
          · have hM : rds M = rds (rev N).rs := by rw [HM.out, ← HN2.out, rev_end]; rfl
            have HG2 := HG.out
            rw [hM] at HG2
            exact rl_own (far2 (b := w.heap.size + 1) HG2 (fun e_ => by have := (HG2.lt _ e_).1; omega))
        · exact bel2 hb (by omega)

end Go.Proofs.YtldfencaoaikgaaGreatDoor
