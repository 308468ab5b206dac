/-
 Cuts and intersections in the plain: what the two ways to cut give; common points of two sets.
-/
import Derived.Test.YtdkkjfnpinckjaaGreatDoorYCutP
set_option maxRecDepth 100000
set_option linter.unusedSimpArgs false
set_option linter.unusedVariables false
namespace Go.Proofs.YtdkkjfnpinckjaaGreatDoor
namespace Pl

end Pl
end Go.Proofs.YtdkkjfnpinckjaaGreatDoor
