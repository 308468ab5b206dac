/-
  The law: the index of a node and of a road.
  The law: two lists of numbers compared.
-/
import Derived.Test.YtldfencaoaikgaaGreatDoorUNg
set_option linter.unusedSimpArgs false
set_option linter.unusedVariables false
namespace Go.Proofs.YtldfencaoaikgaaGreatDoor
open Go Go.RowKit Nw

/-- The index of the first node, or road, with an id; -1. -/
def idxN (l : List Nd) (id : Int) : Int := match l.findIdx? (fun x => decide (x.i = id)) with | some k => (k : Int) | none => -1
theorem idxN_at {l : List Nd} {id : Int} {k : Nat} {x : Nd} (h : l[k]? = some x) (hx : x.i = id) (hb : ∀ (j : Nat) (y : Nd), j < k → l[j]? = some y → y.i ≠ id) : idxN l id = k := by
  obtain ⟨hk, rfl⟩ := List.getElem?_eq_some_iff.1 h
  have : l.findIdx? (fun x => decide (x.i = id)) = some k := List.findIdx?_eq_some_iff_getElem.2 ⟨hk, by simpa using hx, fun j hj => by simpa using hb j _ hj (List.getElem?_eq_getElem (by omega))⟩
  unfold idxN; rw [this]
theorem idxN_none {l : List Nd} {id : Int} (hb : ∀ (j : Nat) (y : Nd), l[j]? = some y → y.i ≠ id) : idxN l id = -1 := by
  have : l.findIdx? (fun x => decide (x.i = id)) = none := List.findIdx?_eq_none_iff.2 fun x hx => by
    obtain ⟨j, hj, rfl⟩ := List.mem_iff_getElem.1 hx
    simpa using hb j _ (List.getElem?_eq_getElem hj)
  unfold idxN; rw [this]
set_option maxRecDepth 100000 in
theorem lnode_any (N : Net) (id : Int) (v : Value) (w : World) (h : NV w v N) (hl : N.ns.length ≤ 256 ∧ N.rs.length ≤ 1024) :
    Calls Tryz.prog 27 #[v, .int .i64 id] w fun e w' => e = .returned (.int .i64 (idxN N.ns id)) ∧ Below w.heap.size w w' := by
  obtain ⟨hln, hlr⟩ := hl
  obtain ⟨_, _, rfl, hn, hr⟩ := h
  obtain ⟨An, cn, rfl, hcn, hmn, hxn⟩ := hn.open_
  obtain ⟨Ar, cr, rfl, hcr, hmr, hxr⟩ := hr.open_
  have HNV : Hid (NV w (.agg #[.slice An N.ns.length cn, .slice Ar N.rs.length cr]) N) := Lib.hid ⟨_, _, rfl, hn, hr⟩
  have HXN := Lib.hid hxn
  have HXR := Lib.hid hxr
  generalize hNn : N.ns.length = Nn at *
  generalize hNr : N.rs.length = Nr at *
  have HNn := Lib.hid hNn
  have HNr := Lib.hid hNr
  clear hn hr hxn hxr hNn hNr
  go_enter Tryz.func27, Tryz.ntmps27
  go_wp2_with fail
  refine wp_named ?_
  intro W1 hW1
  have hL1 : Below w.heap.size w W1 := by
    rw [hW1]
    repeat (first | with_reducible exact Below.refl _ _ | with_reducible refine bel_alloc ?_ _ | refine Below.setCell ?_ (by first | (simp; done) | (simp; omega) | omega) _)
  have c1 : Own W1 (w.heap.size) 0 [.slice An Nn cn, .slice Ar Nr cr] := by
    rw [hW1]
    first
    | (repeat (first | (with_reducible refine own_new (l := [.slice An Nn cn, .slice Ar Nr cr]) ?_; (simp; done)) | with_reducible refine Own.alloc ?_ _ | refine Own.far _ _ (by first | (simp; done) | (simp [*]; done) | (simp; omega)) ?_)); done
    | simp [Own, go_sem]
  have hB2 : Below w.heap.size w W1 := by
    rw [hW1]
    repeat (first | with_reducible exact Below.refl _ _ | with_reducible refine bel_alloc ?_ _ | refine Below.setCell ?_ (by first | (simp; done) | (simp; omega) | omega) _)
  clear hW1 hL1
  go_loopw [5] (fun s5 wr => ∃ (k : Nat), s5 = .int .i64 k ∧ Own wr (w.heap.size) 0 [.slice An Nn cn, .slice Ar Nr cr] ∧ Below w.heap.size w wr ∧ k ≤ Nn ∧ Hid (∀ (j : Nat) (y : Nd), j < k → N.ns[j]? = some y → y.i ≠ id)) (fun s5 _ => Nn - (intOf s5).toNat)
  case atStart => exact ⟨0, rfl, c1, hB2, (by omega), Lib.hid (fun j _ h_ => absurd h_ (Nat.not_lt_zero _))⟩
  case round =>
    clear c1 hB2
    obtain ⟨k, rfl, b3, hB4, hk, HE⟩ := hrel
    obtain ⟨wr5, hwr5⟩ : ∃ W_, W_ = wr := ⟨_, rfl⟩
    subst hwr5
    by_cases hltk : k < Nn
    · skip
      have i1k : (k : Int) < Nn := by omega
      obtain ⟨x6, hx7⟩ : ∃ x, N.ns[k]? = some x := ⟨_, List.getElem?_eq_getElem (by rw [HNn.out]; omega)⟩
      have Hhx7 := Lib.hid hx7
      clear hx7
      have ub3 := b3
      simp only [At, Own, Nat.reduceAdd, and_true] at ub3
      obtain ⟨g9, o10, ha11, -⟩ := (HXN.out).up kpN hB4 _ _ Hhx7.out
      subst ha11
      have ce8 := LX.at_ ((HXN.out).up kpN hB4) Hhx7.out
      have ce8_ : g9 < wr5.heap.size := World.block_lt_of_cell? _ _ ce8.1
      have uce8 := ce8
      simp only [CN, ndc, At, Nat.reduceMul] at uce8
      by_cases hc12 : (x6.i : Int) = id
      · skip
        have hc12_ : (((x6.i : Int)) == id) = true := by simpa using hc12
        have Hhc12 := Lib.hid hc12
        clear hc12
        go_wp2
        go_ret
        refine ⟨(by rw [idxN_at Hhx7.out Hhc12.out HE.out]; rfl), ?_⟩
        repeat (first | with_reducible exact hB4 | with_reducible refine bel_alloc ?_ _ | refine Below.setCell ?_ (by first | (simp; done) | (simp; omega) | omega) _)
      · skip
        have hc12_ : (((x6.i : Int)) == id) = false := by simpa using hc12
        go_wp2
        go_roundw
        case rel => exact ⟨(k + 1), (by first | rfl | exact congrArg (Value.int .i64) (by omega) | simp [*]), (by repeat (first | with_reducible exact b3 | refine Own.far _ _ (by simp <;> omega) ?_ | with_reducible refine Own.alloc ?_ _)), (by repeat (first | with_reducible exact hB4 | with_reducible refine bel_alloc ?_ _ | refine Below.setCell ?_ (by first | (simp; done) | (simp; omega) | omega) _)), (by omega), Lib.hid (fun j y hj hy => if e_ : j = k then (by subst e_; have e2_ := Hhx7.out.symm.trans hy; injection e2_ with e2_; subst e2_; exact hc12) else HE.out j y (by omega) hy)⟩
        case measure => simp [intOf] <;> omega
    · skip
      have hkN : Nn = k := by omega
      subst hkN
      have ub3 := b3
      simp only [At, Own, Nat.reduceAdd, and_true] at ub3
      go_wp2
      go_ret
      refine ⟨(by rw [idxN_none (fun j y hy => HE.out j y (by have := (List.getElem?_eq_some_iff.1 hy).1; rw [HNn.out] at this; omega) hy)]; rfl), ?_⟩
      repeat (first | with_reducible exact hB4 | with_reducible refine bel_alloc ?_ _ | refine Below.setCell ?_ (by first | (simp; done) | (simp; omega) | omega) _)

end Go.Proofs.YtldfencaoaikgaaGreatDoor

namespace Go.Proofs.YtldfencaoaikgaaGreatDoor
open Go Go.RowKit Nw

end Go.Proofs.YtldfencaoaikgaaGreatDoor
