/-
  The law: the index of a node and of a road.
  The law: two lists of numbers compared.
-/
import Derived.Test.YtldfencaoaikgaaGreatDoorUNg
set_option linter.unusedSimpArgs false
set_option linter.unusedVariables false
namespace Go.Proofs.YtldfencaoaikgaaGreatDoor
open Go Go.RowKit Nw

/-- The index of the first node, or road, with an id; -1. -/
def idxN (l : List Nd) (id : Int) : Int := match l.findIdx? (fun x => decide (x.i = id)) with | some k => (k : Int) | none => -1
def idxR (l : List Rd) (id : Int) : Int := match l.findIdx? (fun x => decide (x.i = id)) with | some k => (k : Int) | none => -1
theorem idxN_at {l : List Nd} {id : Int} {k : Nat} {x : Nd} (h : l[k]? = some x) (hx : x.i = id) (hb : ∀ (j : Nat) (y : Nd), j < k → l[j]? = some y → y.i ≠ id) : idxN l id = k := by
  obtain ⟨hk, rfl⟩ := List.getElem?_eq_some_iff.1 h
  have : l.findIdx? (fun x => decide (x.i = id)) = some k := List.findIdx?_eq_some_iff_getElem.2 ⟨hk, by simpa using hx, fun j hj => by simpa using hb j _ hj (List.getElem?_eq_getElem (by omega))⟩
  unfold idxN; rw [this]
theorem idxN_none {l : List Nd} {id : Int} (hb : ∀ (j : Nat) (y : Nd), l[j]? = some y → y.i ≠ id) : idxN l id = -1 := by
  have : l.findIdx? (fun x => decide (x.i = id)) = none := List.findIdx?_eq_none_iff.2 fun x hx => by
    obtain ⟨j, hj, rfl⟩ := List.mem_iff_getElem.1 hx
    simpa using hb j _ (List.getElem?_eq_getElem hj)
  unfold idxN; rw [this]
theorem idxR_at {l : List Rd} {id : Int} {k : Nat} {x : Rd} (h : l[k]? = some x) (hx : x.i = id) (hb : ∀ (j : Nat) (y : Rd), j < k → l[j]? = some y → y.i ≠ id) : idxR l id = k := by
  obtain ⟨hk, rfl⟩ := List.getElem?_eq_some_iff.1 h
  have : l.findIdx? (fun x => decide (x.i = id)) = some k := List.findIdx?_eq_some_iff_getElem.2 ⟨hk, by simpa using hx, fun j hj => by simpa using hb j _ hj (List.getElem?_eq_getElem (by omega))⟩
  unfold idxR; rw [this]
theorem idxR_none {l : List Rd} {id : Int} (hb : ∀ (j : Nat) (y : Rd), l[j]? = some y → y.i ≠ id) : idxR l id = -1 := by
  have : l.findIdx? (fun x => decide (x.i = id)) = none := List.findIdx?_eq_none_iff.2 fun x hx => by
    obtain ⟨j, hj, rfl⟩ := List.mem_iff_getElem.1 hx
    simpa using hb j _ (List.getElem?_eq_getElem hj)
  unfold idxR; rw [this]

set_option maxRecDepth 100000 in
theorem lnode_any (N : Net) (id : Int) (v : Value) (w : World) (h : NV w v N) (hl : N.ns.length ≤ 256 ∧ N.rs.length ≤ 1024) :
    Calls Tryz.prog 27 #[v, .int .i64 id] w fun e w' => e = .returned (.int .i64 (idxN N.ns id)) ∧ Below w.heap.size w w' := by
  obtain ⟨hln, hlr⟩ := hl
  obtain ⟨_, _, rfl, hn, hr⟩ := h
  obtain ⟨An, cn, rfl, hcn, hmn, hxn⟩ := hn.open_
  obtain ⟨Ar, cr, rfl, hcr, hmr, hxr⟩ := hr.open_
  have HNV : Hid (NV w (.agg #[.slice An N.ns.length cn, .slice Ar N.rs.length cr]) N) := Lib.hid ⟨_, _, rfl, hn, hr⟩
  have HXN := Lib.hid hxn
  have HXR := Lib.hid hxr
  generalize hNn : N.ns.length = Nn at *
  generalize hNr : N.rs.length = Nr at *
  have HNn := Lib.hid hNn
  have HNr := Lib.hid hNr
  clear hn hr hxn hxr hNn hNr
  go_enter Tryz.func27, Tryz.ntmps27
  go_wp2_with fail
  refine wp_named ?_
  intro W1 hW1
  have hL1 : Below w.heap.size w W1 := by
    rw [hW1]
    repeat (first | with_reducible exact Below.refl _ _ | with_reducible refine bel_alloc ?_ _ | refine Below.setCell ?_ (by first | (simp; done) | (simp; omega) | omega) _)
  have c1 : Own W1 (w.heap.size) 0 [.slice An Nn cn, .slice Ar Nr cr] := by
    rw [hW1]
    first
    | (repeat (first | (with_reducible refine own_new (l := [.slice An Nn cn, .slice Ar Nr cr]) ?_; (simp; done)) | with_reducible refine Own.alloc ?_ _ | refine Own.far _ _ (by first | (simp; done) | (simp [*]; done) | (simp; omega)) ?_)); done
    | simp [Own, go_sem]
  have hB2 : Below w.heap.size w W1 := by
    rw [hW1]
    repeat (first | with_reducible exact Below.refl _ _ | with_reducible refine bel_alloc ?_ _ | refine Below.setCell ?_ (by first | (simp; done) | (simp; omega) | omega) _)
  clear hW1 hL1
  go_loopw [5] (fun s5 wr => ∃ (k : Nat), s5 = .int .i64 k ∧ Own wr (w.heap.size) 0 [.slice An Nn cn, .slice Ar Nr cr] ∧ Below w.heap.size w wr ∧ k ≤ Nn ∧ Hid (∀ (j : Nat) (y : Nd), j < k → N.ns[j]? = some y → y.i ≠ id)) (fun s5 _ => Nn - (intOf s5).toNat)
  case atStart => exact ⟨0, rfl, c1, hB2, (by omega), Lib.hid (fun j _ h_ => absurd h_ (Nat.not_lt_zero _))⟩
  case round =>
    clear c1 hB2
    obtain ⟨k, rfl, b3, hB4, hk, HE⟩ := hrel
    obtain ⟨wr5, hwr5⟩ : ∃ W_, W_ = wr := ⟨_, rfl⟩
    subst hwr5
    by_cases hltk : k < Nn
    · skip
      have i1k : (k : Int) < Nn := by omega
      obtain ⟨x6, hx7⟩ : ∃ x, N.ns[k]? = some x := ⟨_, List.getElem?_eq_getElem (by rw [HNn.out]; omega)⟩
      have Hhx7 := Lib.hid hx7
      clear hx7
      have ub3 := b3
      simp only [At, Own, Nat.reduceAdd, and_true] at ub3
      obtain ⟨g9, o10, ha11, -⟩ := (HXN.out).up kpN hB4 _ _ Hhx7.out
      subst ha11
      have ce8 := LX.at_ ((HXN.out).up kpN hB4) Hhx7.out
      have ce8_ : g9 < wr5.heap.size := World.block_lt_of_cell? _ _ ce8.1
      have uce8 := ce8
      simp only [CN, ndc, At, Nat.reduceMul] at uce8
      by_cases hc12 : (x6.i : Int) = id
      · skip
        have hc12_ : (((x6.i : Int)) == id) = true := by simpa using hc12
        have Hhc12 := Lib.hid hc12
        clear hc12
        go_wp2
        go_ret
        refine ⟨(by rw [idxN_at Hhx7.out Hhc12.out HE.out]; rfl), ?_⟩
        repeat (first | with_reducible exact hB4 | with_reducible refine bel_alloc ?_ _ | refine Below.setCell ?_ (by first | (simp; done) | (simp; omega) | omega) _)
      · skip
        have hc12_ : (((x6.i : Int)) == id) = false := by simpa using hc12
        go_wp2
        go_roundw
        case rel => exact ⟨(k + 1), (by first | rfl | exact congrArg (Value.int .i64) (by omega) | simp [*]), (by repeat (first | with_reducible exact b3 | refine Own.far _ _ (by simp <;> omega) ?_ | with_reducible refine Own.alloc ?_ _)), (by repeat (first | with_reducible exact hB4 | with_reducible refine bel_alloc ?_ _ | refine Below.setCell ?_ (by first | (simp; done) | (simp; omega) | omega) _)), (by omega), Lib.hid (fun j y hj hy => if e_ : j = k then (by subst e_; have e2_ := Hhx7.out.symm.trans hy; injection e2_ with e2_; subst e2_; exact hc12) else HE.out j y (by omega) hy)⟩
        case measure => simp [intOf] <;> omega
    · skip
      have hkN : Nn = k := by omega
      subst hkN
      have ub3 := b3
      simp only [At, Own, Nat.reduceAdd, and_true] at ub3
      go_wp2
      go_ret
      refine ⟨(by rw [idxN_none (fun j y hy => HE.out j y (by have := (List.getElem?_eq_some_iff.1 hy).1; rw [HNn.out] at this; omega) hy)]; rfl), ?_⟩
      repeat (first | with_reducible exact hB4 | with_reducible refine bel_alloc ?_ _ | refine Below.setCell ?_ (by first | (simp; done) | (simp; omega) | omega) _)

set_option maxRecDepth 100000 in
theorem lroad_any (N : Net) (id : Int) (v : Value) (w : World) (h : NV w v N) (hl : N.ns.length ≤ 256 ∧ N.rs.length ≤ 1024) :
    Calls Tryz.prog 31 #[v, .int .i64 id] w fun e w' => e = .returned (.int .i64 (idxR N.rs id)) ∧ Below w.heap.size w w' := by
  obtain ⟨hln, hlr⟩ := hl
  obtain ⟨_, _, rfl, hn, hr⟩ := h
  obtain ⟨An, cn, rfl, hcn, hmn, hxn⟩ := hn.open_
  obtain ⟨Ar, cr, rfl, hcr, hmr, hxr⟩ := hr.open_
  have HNV : Hid (NV w (.agg #[.slice An N.ns.length cn, .slice Ar N.rs.length cr]) N) := Lib.hid ⟨_, _, rfl, hn, hr⟩
  have HXN := Lib.hid hxn
  have HXR := Lib.hid hxr
  generalize hNn : N.ns.length = Nn at *
  generalize hNr : N.rs.length = Nr at *
  have HNn := Lib.hid hNn
  have HNr := Lib.hid hNr
  clear hn hr hxn hxr hNn hNr
  go_enter Tryz.func31, Tryz.ntmps31
  go_wp2_with fail
  refine wp_named ?_
  intro W1 hW1
  have hL1 : Below w.heap.size w W1 := by
    rw [hW1]
    repeat (first | with_reducible exact Below.refl _ _ | with_reducible refine bel_alloc ?_ _ | refine Below.setCell ?_ (by first | (simp; done) | (simp; omega) | omega) _)
  have c1 : Own W1 (w.heap.size) 0 [.slice An Nn cn, .slice Ar Nr cr] := by
    rw [hW1]
    first
    | (repeat (first | (with_reducible refine own_new (l := [.slice An Nn cn, .slice Ar Nr cr]) ?_; (simp; done)) | with_reducible refine Own.alloc ?_ _ | refine Own.far _ _ (by first | (simp; done) | (simp [*]; done) | (simp; omega)) ?_)); done
    | simp [Own, go_sem]
  have hB2 : Below w.heap.size w W1 := by
    rw [hW1]
    repeat (first | with_reducible exact Below.refl _ _ | with_reducible refine bel_alloc ?_ _ | refine Below.setCell ?_ (by first | (simp; done) | (simp; omega) | omega) _)
  clear hW1 hL1
  go_loopw [5] (fun s5 wr => ∃ (k : Nat), s5 = .int .i64 k ∧ Own wr (w.heap.size) 0 [.slice An Nn cn, .slice Ar Nr cr] ∧ Below w.heap.size w wr ∧ k ≤ Nr ∧ Hid (∀ (j : Nat) (y : Rd), j < k → N.rs[j]? = some y → y.i ≠ id)) (fun s5 _ => Nr - (intOf s5).toNat)
  case atStart => exact ⟨0, rfl, c1, hB2, (by omega), Lib.hid (fun j _ h_ => absurd h_ (Nat.not_lt_zero _))⟩
  case round =>
    clear c1 hB2
    obtain ⟨k, rfl, b3, hB4, hk, HE⟩ := hrel
    obtain ⟨wr5, hwr5⟩ : ∃ W_, W_ = wr := ⟨_, rfl⟩
    subst hwr5
    by_cases hltk : k < Nr
    · skip
      have i1k : (k : Int) < Nr := by omega
      obtain ⟨x6, hx7⟩ : ∃ x, N.rs[k]? = some x := ⟨_, List.getElem?_eq_getElem (by rw [HNr.out]; omega)⟩
      have Hhx7 := Lib.hid hx7
      clear hx7
      have ub3 := b3
      simp only [At, Own, Nat.reduceAdd, and_true] at ub3
      obtain ⟨g9, o10, ha11, -⟩ := (HXR.out).up kpR hB4 _ _ Hhx7.out
      subst ha11
      have ce8 := LX.at_ ((HXR.out).up kpR hB4) Hhx7.out
      have ce8_ : g9 < wr5.heap.size := World.block_lt_of_cell? _ _ ce8.1
      have uce8 := ce8
      simp only [CR, rdc, At, Nat.reduceMul] at uce8
      by_cases hc12 : (x6.i : Int) = id
      · skip
        have hc12_ : (((x6.i : Int)) == id) = true := by simpa using hc12
        have Hhc12 := Lib.hid hc12
        clear hc12
        go_wp2
        go_ret
        refine ⟨(by rw [idxR_at Hhx7.out Hhc12.out HE.out]; rfl), ?_⟩
        repeat (first | with_reducible exact hB4 | with_reducible refine bel_alloc ?_ _ | refine Below.setCell ?_ (by first | (simp; done) | (simp; omega) | omega) _)
      · skip
        have hc12_ : (((x6.i : Int)) == id) = false := by simpa using hc12
        go_wp2
        go_roundw
        case rel => exact ⟨(k + 1), (by first | rfl | exact congrArg (Value.int .i64) (by omega) | simp [*]), (by repeat (first | with_reducible exact b3 | refine Own.far _ _ (by simp <;> omega) ?_ | with_reducible refine Own.alloc ?_ _)), (by repeat (first | with_reducible exact hB4 | with_reducible refine bel_alloc ?_ _ | refine Below.setCell ?_ (by first | (simp; done) | (simp; omega) | omega) _)), (by omega), Lib.hid (fun j y hj hy => if e_ : j = k then (by subst e_; have e2_ := Hhx7.out.symm.trans hy; injection e2_ with e2_; subst e2_; exact hc12) else HE.out j y (by omega) hy)⟩
        case measure => simp [intOf] <;> omega
    · skip
      have hkN : Nr = k := by omega
      subst hkN
      have ub3 := b3
      simp only [At, Own, Nat.reduceAdd, and_true] at ub3
      go_wp2
      go_ret
      refine ⟨(by rw [idxR_none (fun j y hy => HE.out j y (by have := (List.getElem?_eq_some_iff.1 hy).1; rw [HNr.out] at this; omega) hy)]; rfl), ?_⟩
      repeat (first | with_reducible exact hB4 | with_reducible refine bel_alloc ?_ _ | refine Below.setCell ?_ (by first | (simp; done) | (simp; omega) | omega) _)
end Go.Proofs.YtldfencaoaikgaaGreatDoor

namespace Go.Proofs.YtldfencaoaikgaaGreatDoor
open Go Go.RowKit Nw

theorem same_ne {a b : List Int} {k : Nat} {x y : Int} (h1 : a[k]? = some x) (h2 : b[k]? = some y) (h : ¬ x = y) : decide (a = b) = false :=
  decide_eq_false fun e_ => by subst e_; exact h (Option.some.inj (h1.symm.trans h2))
theorem same_len {a b : List Int} {m n : Nat} (h1 : a.length = m) (h2 : b.length = n) (h : ¬ (m : Int) = n) : decide (a = b) = false :=
  decide_eq_false fun e_ => by subst e_; exact h (congrArg Int.ofNat (h1.symm.trans h2))
theorem same_all {a b : List Int} {m n k : Nat} (h1 : a.length = m) (h2 : b.length = n) (h : (m : Int) = n) (hk : m ≤ k) (hb : ∀ j : Nat, j < k → a[j]? = b[j]?) : decide (a = b) = true :=
  decide_eq_true (List.ext_getElem? fun j => by
    by_cases hj : j < k
    · exact hb j hj
    · rw [List.getElem?_eq_none (by omega), List.getElem?_eq_none (by omega)])

set_option maxRecDepth 100000 in
theorem lsame_any (a b : List Int) (v v2 : Value) (w : World) (h : IL w v a) (h2 : IL w v2 b) (hl : a.length ≤ 1024) :
    Calls Tryz.prog 23 #[v, v2] w fun e w' => e = .returned (.bool (decide (a = b))) ∧ Below w.heap.size w w' := by
  obtain ⟨Aa, ca, rfl, hca, hma, hxa⟩ := h.open_
  obtain ⟨Ab, cb, rfl, hcb, hmb, hxb⟩ := h2.open_
  have HXa := Lib.hid hxa
  have HXb := Lib.hid hxb
  clear h h2 hxa hxb
  generalize hNa : a.length = Na at *
  generalize hNb : b.length = Nb at *
  have HNa := Lib.hid hNa
  have HNb := Lib.hid hNb
  clear hNa hNb
  go_enter Tryz.func23, Tryz.ntmps23
  by_cases hc1 : (Na : Int) = Nb
  · skip
    have hc1_ : (((Na : Int)) == Nb) = true := by simpa using hc1
    have Hhc1 := Lib.hid hc1
    clear hc1
    go_wp2_with fail
    go_loopw [5] (fun s5 wr => ∃ (k : Nat), s5 = .int .i64 k ∧ Below w.heap.size w wr ∧ k ≤ Na ∧ Hid (∀ j : Nat, j < k → a[j]? = b[j]?)) (fun s5 _ => Na - (intOf s5).toNat)
    case atStart => exact ⟨0, rfl, Below.refl _ _, (by omega), Lib.hid (fun j h_ => absurd h_ (Nat.not_lt_zero _))⟩
    case round =>
      obtain ⟨k, rfl, hB2, hk, HE⟩ := hrel
      obtain ⟨wr3, hwr3⟩ : ∃ W_, W_ = wr := ⟨_, rfl⟩
      subst hwr3
      by_cases hltk : k < Na
      · skip
        have i1k : (k : Int) < Na := by omega
        obtain ⟨x4, hx5⟩ : ∃ x, a[k]? = some x := ⟨_, List.getElem?_eq_getElem (by rw [HNa.out]; omega)⟩
        have Hhx5 := Lib.hid hx5
        clear hx5
        have hkb : k < Nb := by have := Hhc1.out; omega
        have i1kb : (k : Int) < Nb := by omega
        obtain ⟨x6, hx7⟩ : ∃ x, b[k]? = some x := ⟨_, List.getElem?_eq_getElem (by rw [HNb.out]; omega)⟩
        have Hhx7 := Lib.hid hx7
        clear hx7
        go_wp2_with fail
        refine wp_named ?_
        intro W1 hW1
        have hL1 : Below wr3.heap.size wr3 W1 := by
          rw [hW1]
          repeat (first | with_reducible exact Below.refl _ _ | with_reducible refine bel_alloc ?_ _ | refine Below.setCell ?_ (by first | (simp; done) | (simp; omega) | omega) _)
        have hB8 : Below w.heap.size w W1 := by
          rw [hW1]
          repeat (first | with_reducible exact hB2 | with_reducible refine bel_alloc ?_ _ | refine Below.setCell ?_ (by first | (simp; done) | (simp; omega) | omega) _)
        clear hW1 hL1
        obtain ⟨g10, o11, ha12, -⟩ := (HXa.out).up kpI hB8 _ _ Hhx5.out
        subst ha12
        have ce9 := LX.at_ ((HXa.out).up kpI hB8) Hhx5.out
        have ce9_ : g10 < W1.heap.size := World.block_lt_of_cell? _ _ ce9.1
        have dce9 := fun b : Bel W1 => ce9.bel b
        simp only [CI, itc, At, Nat.mul_one, Nat.reduceMul] at dce9
        obtain ⟨g14, o15, ha16, -⟩ := (HXb.out).up kpI hB8 _ _ Hhx7.out
        subst ha16
        have ce13 := LX.at_ ((HXb.out).up kpI hB8) Hhx7.out
        have ce13_ : g14 < W1.heap.size := World.block_lt_of_cell? _ _ ce13.1
        have dce13 := fun b : Bel W1 => ce13.bel b
        simp only [CI, itc, At, Nat.mul_one, Nat.reduceMul] at dce13
        refine wp_region_all (by kernel_rfl) (by kernel_rfl) ?_
        repeat (go_big_quiet_step (fail))
        refine wpQuiet_nil ?_
        intro w1 hb1
        have hB17 : Below w.heap.size w w1 := bel_up hB8 hb1
        clear dce9 dce13
        by_cases hc18 : (x4 : Int) = x6
        · skip
          have hc18_ : (((x4 : Int)) == x6) = true := by simpa using hc18
          have Hhc18 := Lib.hid hc18
          clear hc18
          go_wp2
          go_roundw
          case rel => exact ⟨(k + 1), (by first | rfl | exact congrArg (Value.int .i64) (by omega) | simp [*]), (by repeat (first | with_reducible exact hB17 | with_reducible refine bel_alloc ?_ _ | refine Below.setCell ?_ (by first | (simp; done) | (simp; omega) | omega) _)), (by omega), Lib.hid (fun j hj => if e_ : j = k then (by subst e_; rw [Hhx5.out, Hhx7.out, Hhc18.out]) else HE.out j (by omega))⟩
          case measure => simp [intOf] <;> omega
        · skip
          have hc18_ : (((x4 : Int)) == x6) = false := by simpa using hc18
          go_wp2
          go_ret
          refine ⟨(by rw [same_ne Hhx5.out Hhx7.out hc18]; rfl), ?_⟩
          repeat (first | with_reducible exact hB17 | with_reducible refine bel_alloc ?_ _ | refine Below.setCell ?_ (by first | (simp; done) | (simp; omega) | omega) _)
      · skip
        have hkN : Na = k := by omega
        subst hkN
        go_wp2
        go_ret
        refine ⟨(by rw [same_all HNa.out HNb.out Hhc1.out (by omega) HE.out]; rfl), ?_⟩
        repeat (first | with_reducible exact hB2 | with_reducible refine bel_alloc ?_ _ | refine Below.setCell ?_ (by first | (simp; done) | (simp; omega) | omega) _)
  · skip
    have hc1_ : (((Na : Int)) == Nb) = false := by simpa using hc1
    go_wp2
    go_ret
    refine ⟨(by rw [same_len HNa.out HNb.out hc1]; rfl), ?_⟩
    repeat (first | with_reducible exact Below.refl _ _ | with_reducible refine bel_alloc ?_ _ | refine Below.setCell ?_ (by first | (simp; done) | (simp; omega) | omega) _)

end Go.Proofs.YtldfencaoaikgaaGreatDoor
