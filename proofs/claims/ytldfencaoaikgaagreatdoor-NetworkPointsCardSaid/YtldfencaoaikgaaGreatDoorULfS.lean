/-
  What laws with places share.
-/
import Derived.Test.YtldfencaoaikgaaGreatDoorULfQ
import Derived.Test.YtldfencaoaikgaaGreatDoorULfP
set_option linter.unusedSimpArgs false
set_option linter.unusedVariables false
namespace Go.Proofs.YtldfencaoaikgaaGreatDoor
open Go Go.RowKit Nw

theorem norm_sz {N : Net} (g : Vld N) {r : Rd} {p : Pc} (h : Nw.At N r p) (hz : Pl.Sz 20 p.q) : Pl.Sz 20 (normE N r p).q := by
  rcases norm_cases g h with ⟨_, h2⟩ | ⟨n, r', _, _, _, h4, h5⟩
  · rw [h2]; exact hz
  · rw [h4]
    have hok := h5.ok g
    show Pl.Sz 20 (offE r' n)
    exact (off_sz rfl (by have := hok.2.2.1; omega) (by have := hok.2.2.2.1; omega)).mono (by decide)
theorem lat_pos {N : Net} (g : Vld N) {r : Rd} {p : Pc} (h : Nw.At N r p) : (atR r p.q = none ∧ latE r p.q = 0) ∨ (∃ n, atR r p.q = some n ∧ latE r p.q = n ∧ 1 ≤ n) := by
  have hok := h.ok g
  have hne := hok.2.2.2.2.2.2.1
  cases ha : atR r p.q with
  | none => exact .inl ⟨rfl, lat_off hok hne ha⟩
  | some n => exact .inr ⟨n, rfl, lat_on hne ha, at_pos g (frd_of h.f).1 ha⟩
theorem frd_zero {N : Net} (g : Vld N) : frd N.rs 0 = none := by
  refine List.find?_eq_none.2 fun r hr h => ?_
  have := (g.or r hr).1
  simp at h; omega
theorem neg_place {N : Net} {r : Rd} {k : Int} {q : Rat} (h : frd N.rs k = some r) (hq : q = ((-1 : Int) : Rat)) : placeE N ⟨k, q⟩ = 2 := by
  rw [placeE_some (p := ⟨k, q⟩) h]
  unfold placeR
  rw [if_pos (.inl ((Pl.sgn_lt_iff _).2 (by rw [hq]; show ((-1 : Int) : Rat) < 0; decide +kernel)))]
end Go.Proofs.YtldfencaoaikgaaGreatDoor
