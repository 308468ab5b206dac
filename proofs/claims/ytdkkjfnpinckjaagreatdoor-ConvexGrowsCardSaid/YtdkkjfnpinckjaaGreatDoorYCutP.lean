/-
 Cuts of convex sets in the plain: the part of a set to the left of a line is shown by its points there and by the points at which its edges cross the line.
-/
import Derived.Test.YtdkkjfnpinckjaaGreatDoorYConvL
set_option maxRecDepth 100000
set_option linter.unusedSimpArgs false
set_option linter.unusedVariables false
namespace Go.Proofs.YtdkkjfnpinckjaaGreatDoor
namespace Pl

theorem max_of : ∀ (l : List Rat), l ≠ [] → ∃ m ∈ l, ∀ x ∈ l, x ≤ m
 | [], h => absurd rfl h
 | a :: l, _ => by
  rcases Classical.em (l = []) with h | h
  ·subst h; exact ⟨a, by simp, fun x hx => by rw [List.mem_singleton] at hx; subst hx; exact Rat.le_refl⟩
  ·obtain ⟨m, hm, hall⟩ := max_of l h
   by_cases hle : a ≤ m
   ·refine ⟨m, by simp [hm], fun x hx => ?_⟩
    rcases List.mem_cons.1 hx with rfl | hx
    ·exact hle
    ·exact hall x hx
   ·refine ⟨a, by simp, fun x hx => ?_⟩
    rcases List.mem_cons.1 hx with rfl | hx
    ·exact Rat.le_refl
    ·have := hall x hx; grind
theorem between (A B : List Rat) (h : ∀ l ∈ A, ∀ u ∈ B, l < u) : ∃ x, (∀ l ∈ A, l < x) ∧ ∀ u ∈ B, x < u := by
 rcases Classical.em (A = []) with hA | hA
 ·subst hA
  rcases Classical.em (B = []) with hB | hB
  ·subst hB; exact ⟨0, (fun _ h => by cases h), (fun _ h => by cases h)⟩
  ·obtain ⟨m, hm, hall⟩ := max_of (B.map fun x => -x) (by simpa using hB)
   refine ⟨-m - 1, (fun _ h => by cases h), fun u hu => ?_⟩
   have := hall (-u) (List.mem_map.2 ⟨u, hu, rfl⟩)
   grind
 ·obtain ⟨m, hm, hall⟩ := max_of A hA
  rcases Classical.em (B = []) with hB | hB
  ·subst hB
   exact ⟨m + 1, (fun l hl => by have := hall l hl; grind), (fun _ h => by cases h)⟩
  ·obtain ⟨n, hn, hall2⟩ := max_of (B.map fun x => -x) (by simpa using hB)
   obtain ⟨u, hu, rfl⟩ := List.mem_map.1 hn
   have := h m hm u hu
   refine ⟨(m + u) / 2, fun l hl => ?_, fun v hv => ?_⟩
   ·have := hall l hl; grind
   ·have := hall2 (-v) (List.mem_map.2 ⟨v, hv, rfl⟩); grind
end Pl
end Go.Proofs.YtdkkjfnpinckjaaGreatDoor
