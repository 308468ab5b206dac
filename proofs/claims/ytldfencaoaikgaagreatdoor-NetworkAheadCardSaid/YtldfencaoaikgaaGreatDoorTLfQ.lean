/-
  The law: the point of a place.
-/
import Derived.Test.YtldfencaoaikgaaGreatDoorTNi
set_option linter.unusedSimpArgs false
set_option linter.unusedVariables false
namespace Go.Proofs.YtldfencaoaikgaaGreatDoor
open Go Go.RowKit Nw

end Go.Proofs.YtldfencaoaikgaaGreatDoor
