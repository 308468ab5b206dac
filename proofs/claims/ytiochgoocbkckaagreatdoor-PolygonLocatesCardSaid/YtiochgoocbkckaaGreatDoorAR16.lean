/-
 Contracts of the reference for fractions: Div.
-/
import Derived.Test.YtiochgoocbkckaaGreatDoorAR15
import Derived.Deep.DeepCutAuto
set_option maxRecDepth 100000
set_option linter.unusedSimpArgs false
set_option linter.unusedVariables false
namespace Go.Proofs.YtiochgoocbkckaaGreatDoor
open Go Go.RowKit

end Go.Proofs.YtiochgoocbkckaaGreatDoor
