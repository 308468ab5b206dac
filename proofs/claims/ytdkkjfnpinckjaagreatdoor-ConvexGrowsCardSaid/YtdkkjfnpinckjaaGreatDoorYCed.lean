/-
 Contracts for convex sets: edges as a row of the call's own; cuts.
-/
import Derived.Test.YtdkkjfnpinckjaaGreatDoorYMo
import Derived.Test.YtdkkjfnpinckjaaGreatDoorYReg4
import Derived.Test.YtdkkjfnpinckjaaGreatDoorYCutQ
import Derived.Deep.Onto
set_option maxRecDepth 100000
set_option linter.unusedSimpArgs false
set_option linter.unusedVariables false
namespace Go.Proofs.YtdkkjfnpinckjaaGreatDoor
open Go Go.RowKit

/-- The rows lie in different blocks. -/
def FarR (u v : Value) : Prop := ∀ r, u.ownBlock = some r → v.ownBlock ≠ some r
theorem FarR.symm {u v : Value} (h : FarR u v) : FarR v u := fun r h1 h2 => h r h2 h1
theorem FarR.step {W w' : World} {v v' u : Value} (s : Step W w' v v') {base k n : Nat} {e : TypeId} {xs : List Value} (h : W.ownsRow base e k u n xs) (hf : FarR u v) : FarR u v' := fun r hr => s.far r (h.lt r hr).2 (hf r hr)
theorem size_drewK (w : World) : w.drew.heap.size = w.heap.size := rfl
end Go.Proofs.YtdkkjfnpinckjaaGreatDoor
