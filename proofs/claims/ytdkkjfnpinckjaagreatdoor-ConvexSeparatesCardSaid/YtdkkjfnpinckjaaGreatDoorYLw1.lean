/-
 The law ConvexContains: the walk.
-/
import Derived.Test.YtdkkjfnpinckjaaGreatDoorYKnw
import Derived.Test.YtdkkjfnpinckjaaGreatDoorYMr
import Derived.Test.YtdkkjfnpinckjaaGreatDoorYMo
set_option maxRecDepth 100000
set_option linter.unusedSimpArgs false
set_option linter.unusedVariables false
namespace Go.Proofs.YtdkkjfnpinckjaaGreatDoor
open Go Go.RowKit

theorem wrapGo_len (S:List (Rat×Rat)) (f:Rat×Rat):∀ (n:Nat) (a:Rat×Rat),(Pl.wrapGo S f n a).length≤n
 | 0,_=>by simp [Pl.wrapGo]
 | n+1,a=>by
  rw [Pl.wrapGo]
  split
  ·simp
  ·have:=wrapGo_len S f n (Pl.nxt S a)
   simp only [List.length_cons];omega
theorem wrap_len (S:List (Rat×Rat)):(Pl.wrap S).length≤S.length+1:=by
 unfold Pl.wrap
 split
 ·simp
 ·exact wrapGo_len _ _ _ _
theorem wrap_sz {n:Nat} {S:List (Rat×Rat)} (h:∀ q∈S,Pl.SzP n q):∀ q∈Pl.wrap S,Pl.SzP n q:=fun q hq=>h q ((Pl.wrap_isHull S).sub q hq)

end Go.Proofs.YtdkkjfnpinckjaaGreatDoor
