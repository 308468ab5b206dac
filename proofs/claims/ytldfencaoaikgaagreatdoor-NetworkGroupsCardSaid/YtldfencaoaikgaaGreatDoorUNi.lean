/-
  The law: the position of a node.
  The law: the node at a position.
  The law: the normal form of a position.
  The law: a number in a list.
  The law: a valid position.
  What the walks of the laws share.
-/
import Derived.Test.YtldfencaoaikgaaGreatDoorUNh
import Derived.Test.YtldfencaoaikgaaGreatDoorUNwi
set_option linter.unusedSimpArgs false
set_option linter.unusedVariables false
namespace Go.Proofs.YtldfencaoaikgaaGreatDoor
open Go Go.RowKit Nw

end Go.Proofs.YtldfencaoaikgaaGreatDoor

namespace Go.Proofs.YtldfencaoaikgaaGreatDoor
open Go Go.RowKit Nw

end Go.Proofs.YtldfencaoaikgaaGreatDoor

namespace Go.Proofs.YtldfencaoaikgaaGreatDoor
open Go Go.RowKit Nw

end Go.Proofs.YtldfencaoaikgaaGreatDoor

namespace Go.Proofs.YtldfencaoaikgaaGreatDoor
open Go Go.RowKit Nw

theorem has_yes {l : List Int} {k : Nat} {y x : Int} (h : l[k]? = some y) (e : y = x) : decide (x ∈ l) = true := decide_eq_true (e ▸ List.mem_of_getElem? h)
theorem has_no {l : List Int} {n k : Nat} {x : Int} (hl : l.length = n) (hn : n ≤ k) (hb : ∀ (j : Nat) (y : Int), j < k → l[j]? = some y → y ≠ x) : decide (x ∈ l) = false :=
  decide_eq_false fun h => by
    obtain ⟨j, hj, he⟩ := List.mem_iff_getElem.1 h
    exact hb j _ (by omega) (List.getElem?_eq_getElem hj) he

set_option maxRecDepth 100000 in
theorem lhas_any (l : List Int) (x : Int) (v : Value) (w : World) (h : IL w v l) (hl : l.length ≤ 1024) :
    Calls Tryz.prog 28 #[v, .int .i64 x] w fun e w' => e = .returned (.bool (decide (x ∈ l))) ∧ Below w.heap.size w w' := by
  obtain ⟨Aa, ca, rfl, hca, hma, hxa⟩ := h.open_
  have HXa := Lib.hid hxa
  clear h hxa
  generalize hNa : l.length = Na at *
  have HNa := Lib.hid hNa
  clear hNa
  go_enter Tryz.func28, Tryz.ntmps28
  go_wp2_with fail
  go_loopw [5] (fun s5 wr => ∃ (k : Nat), s5 = .int .i64 k ∧ Below w.heap.size w wr ∧ k ≤ Na ∧ Hid (∀ (j : Nat) (y : Int), j < k → l[j]? = some y → y ≠ x)) (fun s5 _ => Na - (intOf s5).toNat)
  case atStart => exact ⟨0, rfl, Below.refl _ _, (by omega), Lib.hid (fun j y h_ => absurd h_ (Nat.not_lt_zero _))⟩
  case round =>
    obtain ⟨k, rfl, hB1, hk, HE⟩ := hrel
    obtain ⟨wr2, hwr2⟩ : ∃ W_, W_ = wr := ⟨_, rfl⟩
    subst hwr2
    by_cases hltk : k < Na
    · skip
      have i1k : (k : Int) < Na := by omega
      obtain ⟨x3, hx4⟩ : ∃ x, l[k]? = some x := ⟨_, List.getElem?_eq_getElem (by rw [HNa.out]; omega)⟩
      have Hhx4 := Lib.hid hx4
      clear hx4
      obtain ⟨g6, o7, ha8, -⟩ := (HXa.out).up kpI hB1 _ _ Hhx4.out
      subst ha8
      have ce5 := LX.at_ ((HXa.out).up kpI hB1) Hhx4.out
      have ce5_ : g6 < wr2.heap.size := World.block_lt_of_cell? _ _ ce5.1
      have uce5 := ce5
      simp only [CI, itc, At, Nat.mul_one, Nat.reduceMul] at uce5
      by_cases hc9 : (x3 : Int) = x
      · skip
        have hc9_ : (((x3 : Int)) == x) = true := by simpa using hc9
        have Hhc9 := Lib.hid hc9
        clear hc9
        go_wp2
        go_ret
        refine ⟨(by rw [has_yes Hhx4.out Hhc9.out]; rfl), ?_⟩
        repeat (first | with_reducible exact hB1 | with_reducible refine bel_alloc ?_ _ | refine Below.setCell ?_ (by first | (simp; done) | (simp; omega) | omega) _)
      · skip
        have hc9_ : (((x3 : Int)) == x) = false := by simpa using hc9
        go_wp2
        go_roundw
        case rel => exact ⟨(k + 1), (by first | rfl | exact congrArg (Value.int .i64) (by omega) | simp [*]), (by repeat (first | with_reducible exact hB1 | with_reducible refine bel_alloc ?_ _ | refine Below.setCell ?_ (by first | (simp; done) | (simp; omega) | omega) _)), (by omega), Lib.hid (fun j y hj hy => if e_ : j = k then (by subst e_; have e2_ := Hhx4.out.symm.trans hy; injection e2_ with e2_; subst e2_; exact hc9) else HE.out j y (by omega) hy)⟩
        case measure => simp [intOf] <;> omega
    · skip
      have hkN : Na = k := by omega
      subst hkN
      go_wp2
      go_ret
      refine ⟨(by rw [has_no HNa.out (by omega) HE.out]; rfl), ?_⟩
      repeat (first | with_reducible exact hB1 | with_reducible refine bel_alloc ?_ _ | refine Below.setCell ?_ (by first | (simp; done) | (simp; omega) | omega) _)
end Go.Proofs.YtldfencaoaikgaaGreatDoor

namespace Go.Proofs.YtldfencaoaikgaaGreatDoor
open Go Go.RowKit Nw

end Go.Proofs.YtldfencaoaikgaaGreatDoor

namespace Go.Proofs.YtldfencaoaikgaaGreatDoor
open Go Go.RowKit Nw

theorem nv_ns {w : World} {N : Net} {An Ar : Option Addr} {n cn r cr : Nat} (h : NV w (.agg #[.slice An n cn, .slice Ar r cr]) N) : LX CN 3 w An N.ns := by
  obtain ⟨_, _, e, hn, hr⟩ := h
  cases e
  obtain ⟨A, c, e, _, _, hx⟩ := hn.open_
  cases e; exact hx
theorem nv_rs {w : World} {N : Net} {An Ar : Option Addr} {n cn r cr : Nat} (h : NV w (.agg #[.slice An n cn, .slice Ar r cr]) N) : LX CR 6 w Ar N.rs := by
  obtain ⟨_, _, e, hn, hr⟩ := h
  cases e
  obtain ⟨A, c, e, _, _, hx⟩ := hr.open_
  cases e; exact hx
theorem own_list {f : FuncId} {args : Array Value} {w : World} {l : List Int} (h : Calls Tryz.prog f args w fun e w' => ∃ v' n', e = .returned v' ∧ w'.ownsRow w.heap.size 3 1 v' n' (its l) ∧ Below w.heap.size w w') :
    Calls Tryz.prog f args w fun e w' => ∃ v', e = .returned v' ∧ IL w' v' l ∧ Below w.heap.size w w' :=
  h.mono fun _ _ ⟨v', _, h1, h2, h3⟩ => ⟨v', h1, il_own h2, h3⟩
theorem fnd_idx {l : List Nd} {id : Int} {a : Nd} (h : fnd l id = some a) : ∃ j : Nat, idxN l id = j ∧ l[j]? = some a := by
  obtain ⟨h1, j, hj, rfl, h2⟩ := List.find?_eq_some_iff_getElem.1 h
  exact ⟨j, idxN_at (List.getElem?_eq_getElem hj) (by simpa using h1) fun k y hk hy => by
    obtain ⟨hk2, rfl⟩ := List.getElem?_eq_some_iff.1 hy
    simpa using h2 k hk, List.getElem?_eq_getElem hj⟩
theorem fnd_no {l : List Nd} {id : Int} (h : fnd l id = none) : idxN l id = -1 := idxN_none fun j y hy => by
  have := List.find?_eq_none.1 h y (List.mem_of_getElem? hy)
  simpa using this
theorem lnode_j (N : Net) (id j : Int) (v : Value) (w : World) (h : NV w v N) (hl : N.ns.length ≤ 256 ∧ N.rs.length ≤ 1024) (hj : idxN N.ns id = j) :
    Calls Tryz.prog 27 #[v, .int .i64 id] w fun e w' => e = .returned (.int .i64 j) ∧ Below w.heap.size w w' := by
  rw [← hj]; exact lnode_any N id v w h hl
end Go.Proofs.YtldfencaoaikgaaGreatDoor
