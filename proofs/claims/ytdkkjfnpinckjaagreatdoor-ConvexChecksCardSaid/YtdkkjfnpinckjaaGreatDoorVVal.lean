/-
  Contracts of the reference for convex sets: valid sets.
-/
import Derived.Test.YtdkkjfnpinckjaaGreatDoorVMo
import Derived.Test.YtdkkjfnpinckjaaGreatDoorVMl
set_option linter.unusedSimpArgs false
set_option linter.unusedVariables false
namespace Go.Proofs.YtdkkjfnpinckjaaGreatDoor
open Go Go.RowKit

theorem wrapGo_le (S : List (Rat × Rat)) (f : Rat × Rat) : ∀ (n : Nat) (a : Rat × Rat), (Pl.wrapGo S f n a).length ≤ n
  | 0, _ => by simp [Pl.wrapGo]
  | n + 1, a => by
    rw [Pl.wrapGo]
    split
    · simp
    · have := wrapGo_le S f n (Pl.nxt S a)
      simp only [List.length_cons]; omega
theorem wrap_le (S : List (Rat × Rat)) : (Pl.wrap S).length ≤ S.length + 1 := by
  unfold Pl.wrap
  split
  · simp
  · exact wrapGo_le _ _ _ _

set_option maxRecDepth 100000 in
theorem hvalid_any {S : Nat} (v : Value) (l : List (Rat × Rat)) (w : World) (h : PV w v l) (hs : ∀ q ∈ l, Pl.SzP S q) (hn : l.length ≤ 100000) (hS : S ≤ 100000) :
    Calls Tryz.prog 43 #[v] w fun e w' => e = .returned (.bool (Pl.sameB (Pl.wrap l) l)) ∧ Below w.heap.size w w' := by
  go_enter Tryz.func43, Tryz.ntmps43
  have K1 := Lib.hid (fun W h0 => hHull_any v l W h0 hs (Nat.le_trans hn (by decide)) hS)
  go_wp2_with (fail)
  refine calls_named ?_
  intro W1 hW1
  have hL1 : Below w.heap.size w W1 := by
    rw [hW1]
    repeat (first | with_reducible exact Below.refl _ _ | with_reducible refine bel_alloc ?_ _ | refine Below.setCell ?_ (by first | (simp; done) | (simp; omega) | omega) _)
  have hB2 : Below w.heap.size w W1 := by
    rw [hW1]
    repeat (first | with_reducible exact Below.refl _ _ | with_reducible refine bel_alloc ?_ _ | refine Below.setCell ?_ (by first | (simp; done) | (simp; omega) | omega) _)
  clear hW1 hL1
  with_reducible refine (K1.out _ (h.up hB2)).mono ?_
  rintro e w1 ⟨v1, rfl, hv1, hb1⟩
  have hB3 : Below w.heap.size w w1 := bel_up hB2 hb1
  have PW1 := Lib.hid hv1
  clear hv1
  have K4 := Lib.hid (fun va W h0 h1 => hsame_any va v (Pl.wrap l) l W h0 h1 (Nat.le_trans (wrap_le l) (by omega)))
  go_wp2_with (fail)
  refine calls_named ?_
  intro W2 hW2
  have hL2 : Below w1.heap.size w1 W2 := by
    rw [hW2]
    repeat (first | with_reducible exact Below.refl _ _ | with_reducible refine bel_alloc ?_ _ | refine Below.setCell ?_ (by first | (simp; done) | (simp; omega) | omega) _)
  have PV5 := Lib.hid (PW1.out.up hL2)
  have hB6 : Below w.heap.size w W2 := by
    rw [hW2]
    repeat (first | with_reducible exact hB3 | with_reducible refine bel_alloc ?_ _ | refine Below.setCell ?_ (by first | (simp; done) | (simp; omega) | omega) _)
  clear hW2 hL2 PW1
  with_reducible refine (K4.out _ _ PV5.out (h.up hB6)).mono ?_
  rintro e w2 ⟨rfl, hb2⟩
  have PV7 := Lib.hid (PV5.out.up hb2)
  have hB8 : Below w.heap.size w w2 := bel_up hB6 hb2
  clear PV5
  go_wp2
  go_ret
  refine ⟨rfl, ?_⟩
  repeat (first | with_reducible exact hB8 | with_reducible refine bel_alloc ?_ _ | refine Below.setCell ?_ (by first | (simp; done) | (simp; omega) | omega) _)
end Go.Proofs.YtdkkjfnpinckjaaGreatDoor
