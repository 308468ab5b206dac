/-
  What laws with places share.
-/
import Derived.Test.YtldfencaoaikgaaGreatDoorTLfQ
import Derived.Test.YtldfencaoaikgaaGreatDoorTLfP
set_option linter.unusedSimpArgs false
set_option linter.unusedVariables false
namespace Go.Proofs.YtldfencaoaikgaaGreatDoor
open Go Go.RowKit Nw

theorem lat_pos {N : Net} (g : Vld N) {r : Rd} {p : Pc} (h : Nw.At N r p) : (atR r p.q = none ∧ latE r p.q = 0) ∨ (∃ n, atR r p.q = some n ∧ latE r p.q = n ∧ 1 ≤ n) := by
  have hok := h.ok g
  have hne := hok.2.2.2.2.2.2.1
  cases ha : atR r p.q with
  | none => exact .inl ⟨rfl, lat_off hok hne ha⟩
  | some n => exact .inr ⟨n, rfl, lat_on hne ha, at_pos g (frd_of h.f).1 ha⟩
theorem frd_zero {N : Net} (g : Vld N) : frd N.rs 0 = none := by
  refine List.find?_eq_none.2 fun r hr h => ?_
  have := (g.or r hr).1
  simp at h; omega
end Go.Proofs.YtldfencaoaikgaaGreatDoor
