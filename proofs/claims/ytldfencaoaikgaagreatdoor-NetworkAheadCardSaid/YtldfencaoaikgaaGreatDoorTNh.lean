/-
 The law: the index of a node and of a road.
 The law: two lists of numbers compared.
-/
import Derived.Test.YtldfencaoaikgaaGreatDoorTNg
set_option maxRecDepth 100000
set_option linter.unusedSimpArgs false
set_option linter.unusedVariables false
namespace Go.Proofs.YtldfencaoaikgaaGreatDoor
open Go Go.RowKit Nw

def idxR (l : List Rd) (id : Int) : Int := match l.findIdx? (fun x => decide (x.i = id)) with | some k => (k : Int) | none => -1
theorem idxR_at {l : List Rd} {id : Int} {k : Nat} {x : Rd} (h : l[k]? = some x) (hx : x.i = id) (hb : ∀ (j : Nat) (y : Rd), j < k → l[j]? = some y → y.i ≠ id) : idxR l id = k := by
 obtain ⟨hk, rfl⟩ := List.getElem?_eq_some_iff.1 h
 have : l.findIdx? (fun x => decide (x.i = id)) = some k := List.findIdx?_eq_some_iff_getElem.2 ⟨hk, by simpa using hx, fun j hj => by simpa using hb j _ hj (List.getElem?_eq_getElem (by omega))⟩
 unfold idxR; rw [this]
theorem idxR_none {l : List Rd} {id : Int} (hb : ∀ (j : Nat) (y : Rd), l[j]? = some y → y.i ≠ id) : idxR l id = -1 := by
 have : l.findIdx? (fun x => decide (x.i = id)) = none := List.findIdx?_eq_none_iff.2 fun x hx => by
  obtain ⟨j, hj, rfl⟩ := List.mem_iff_getElem.1 hx
  simpa using hb j _ (List.getElem?_eq_getElem hj)
 unfold idxR; rw [this]

theorem lroad_any (N : Net) (id : Int) (v : Value) (w : World) (h : NV w v N) (hl : N.ns.length ≤ 256 ∧ N.rs.length ≤ 1024) :
 Calls Tryz.prog 31 #[v, .int .i64 id] w fun e w' => e = .returned (.int .i64 (idxR N.rs id)) ∧ Below w.heap.size w w' := by
 obtain ⟨hln, hlr⟩ := hl
 obtain ⟨_, _, rfl, hn, hr⟩ := h
 obtain ⟨An, cn, rfl, hcn, hmn, hxn⟩ := hn.open_
 obtain ⟨Ar, cr, rfl, hcr, hmr, hxr⟩ := hr.open_
 have HNV : Hid (NV w (.agg #[.slice An N.ns.length cn, .slice Ar N.rs.length cr]) N) := Lib.hid ⟨_, _, rfl, hn, hr⟩
 have HXN := Lib.hid hxn
 have HXR := Lib.hid hxr
 generalize hNn : N.ns.length = Nn at *
 generalize hNr : N.rs.length = Nr at *
 have HNn := Lib.hid hNn
 have HNr := Lib.hid hNr
 clear hn hr hxn hxr hNn hNr
 go_enter Tryz.func31, Tryz.ntmps31
 go_wp2_with fail
 refine wp_named ?_
 intro W1 hW1
 have hL1 : Below w.heap.size w W1 := by
  rw [hW1]
  exact bB8
 have c1 : Own W1 (w.heap.size) 0 [.slice An Nn cn, .slice Ar Nr cr] := by
  rw [hW1]
  first
  | (repeat (first | (with_reducible refine own_new (l := [.slice An Nn cn, .slice Ar Nr cr]) ?_; (simp; done)) | with_reducible refine Own.alloc ?_ _ | refine Own.far _ _ (by first | (simp; done) | (simp [*]; done) | (simp; omega)) ?_)); done
  | simp [Own, go_sem]
 have hB2 : Below w.heap.size w W1 := by
  rw [hW1]
  exact bB8
 clear hW1 hL1
 go_loopw [5] (fun s5 wr => ∃ (k : Nat), s5 = .int .i64 k ∧ Own wr (w.heap.size) 0 [.slice An Nn cn, .slice Ar Nr cr] ∧ Below w.heap.size w wr ∧ k ≤ Nr ∧ Hid (∀ (j : Nat) (y : Rd), j < k → N.rs[j]? = some y → y.i ≠ id)) (fun s5 _ => Nr - (intOf s5).toNat)
 case atStart => exact ⟨0, rfl, c1, hB2, (by omega), Lib.hid (fun j _ h_ => absurd h_ (Nat.not_lt_zero _))⟩
 case round =>
  clear c1 hB2
  obtain ⟨k, rfl, b3, hB4, hk, HE⟩ := hrel
  obtain ⟨wr5, hwr5⟩ : ∃ W_, W_ = wr := ⟨_, rfl⟩
  subst hwr5
  by_cases hltk : k < Nr
  ·skip
   have i1k : (k : Int) < Nr := by omega
   obtain ⟨x6, hx7⟩ : ∃ x, N.rs[k]? = some x := ⟨_, List.getElem?_eq_getElem (by rw [HNr.out]; omega)⟩
   have Hhx7 := Lib.hid hx7
   clear hx7
   have ub3 := b3
   simp only [At, Own, Nat.reduceAdd, and_true] at ub3
   obtain ⟨g9, o10, ha11, -⟩ := (HXR.out).up kpR hB4 _ _ Hhx7.out
   subst ha11
   have ce8 := LX.at_ ((HXR.out).up kpR hB4) Hhx7.out
   have ce8_ : g9 < wr5.heap.size := World.block_lt_of_cell? _ _ ce8.1
   have uce8 := ce8
   simp only [CR, rdc, At, Nat.reduceMul] at uce8
   by_cases hc12 : (x6.i : Int) = id
   ·skip
    have hc12_ : (((x6.i : Int)) == id) = true := by simpa using hc12
    have Hhc12 := Lib.hid hc12
    clear hc12
    go_wp2
    go_ret
    refine ⟨(by rw [idxR_at Hhx7.out Hhc12.out HE.out]; rfl), ?_⟩
    exact bB8
   ·skip
    have hc12_ : (((x6.i : Int)) == id) = false := by simpa using hc12
    go_wp2
    go_roundw
    case rel => exact ⟨(k + 1), (by first | rfl | exact congrArg (Value.int .i64) (by omega) | simp [*]), oF8, (by exact bB8), (by omega), Lib.hid (fun j y hj hy => if e_ : j = k then (by subst e_; have e2_ := Hhx7.out.symm.trans hy; injection e2_ with e2_; subst e2_; exact hc12) else HE.out j y (by omega) hy)⟩
    case measure => simp [intOf] <;> omega
  ·skip
   have hkN : Nr = k := by omega
   subst hkN
   have ub3 := b3
   simp only [At, Own, Nat.reduceAdd, and_true] at ub3
   go_wp2
   go_ret
   refine ⟨(by rw [idxR_none (fun j y hy => HE.out j y (by have := (List.getElem?_eq_some_iff.1 hy).1; rw [HNr.out] at this; omega) hy)]; rfl), ?_⟩
   exact bB8
end Go.Proofs.YtldfencaoaikgaaGreatDoor

namespace Go.Proofs.YtldfencaoaikgaaGreatDoor
open Go Go.RowKit Nw

end Go.Proofs.YtldfencaoaikgaaGreatDoor
