/-
 Small sets; fewer spots; equal lists.
-/
import Derived.Test.YtdkkjfnpinckjaaGreatDoorWMr
import Derived.Test.YtdkkjfnpinckjaaGreatDoorWMo
set_option maxRecDepth 100000
set_option linter.unusedSimpArgs false
set_option linter.unusedVariables false
namespace Go.Proofs.YtdkkjfnpinckjaaGreatDoor
open Go Go.RowKit

/-- Fewer spots. -/
theorem TV.take {w : World} {A : Option Addr} {c M : Nat} {l : List (Int × Int × Bool)} (h : TV w (.slice A l.length c) l) (hM : M ≤ l.length) : TV w (.slice A M c) (l.take M) := by
 obtain ⟨A', c', h1, h2, h3, h4⟩ := h
 cases h1
 exact ⟨A, c, by rw [List.length_take, Nat.min_eq_left hM], by rw [List.length_take, Nat.min_eq_left hM]; omega, h3, fun k x hx => h4 k x (by
  rw [List.getElem?_take] at hx
  split at hx
  ·exact hx
  ·cases hx)⟩
theorem same_true (va vb : Value) (l : List (Rat × Rat)) (w : World) (ha : PV w va l) (hb : PV w vb l) (hn : l.length ≤ 1000000) :
 Calls Tryz.prog 25 #[va, vb] w fun e w' => e = .returned (.bool true) ∧ Below w.heap.size w w' := by
 have h := hsame_any va vb l l w ha hb hn
 rwa [Pl.sameB_iff, decide_eq_true rfl] at h
/-- A list of a hull, of few points with short numbers. -/
structure Small (X : List (Rat × Rat)) : Prop where
 wrap : Pl.wrap X = X
 sz : ∀ q ∈ X, Pl.SzP 1 q
 len : X.length ≤ 12
end Go.Proofs.YtdkkjfnpinckjaaGreatDoor
