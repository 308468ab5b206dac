/-
  The law Reaches.
-/
import Derived.Test.YtldfencaoaikgaaGreatDoorULfR
set_option linter.unusedSimpArgs false
set_option linter.unusedVariables false
namespace Go.Proofs.YtldfencaoaikgaaGreatDoor
open Go Go.RowKit Nw

theorem reach_1024 {N : Net} (g : Vld N) (s : Int) : (reachE N s).length ≤ 1024 := by
  have h : (reachE N s).length ≤ N.ns.length := by
    unfold reachE
    split
    · exact Nat.le_trans (List.length_filter_le _ _) (by simp [ids])
    · exact Nat.zero_le _
  have := g.ln; omega

end Go.Proofs.YtldfencaoaikgaaGreatDoor
