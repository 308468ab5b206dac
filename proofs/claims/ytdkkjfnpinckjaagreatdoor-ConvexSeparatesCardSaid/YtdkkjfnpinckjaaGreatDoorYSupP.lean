/-
 The farthest point in the plain: of the hull's list it is as far as of the points; of a sum it is as far as of both.
-/
import Derived.Test.YtdkkjfnpinckjaaGreatDoorYDd
set_option maxRecDepth 100000
set_option linter.unusedSimpArgs false
set_option linter.unusedVariables false
namespace Go.Proofs.YtdkkjfnpinckjaaGreatDoor
namespace Pl

theorem wrap_ne {S:List Pt} (h:S≠[]):wrap S≠[]:=by
 intro e;rcases wrap_isHull S with ⟨h1,_⟩|⟨p,h1,_⟩|⟨p,_,h1⟩
 ·exact h h1
 ·rw [e] at h1;cases h1
 ·obtain ⟨m,hm⟩:=h1.head
  rw [e] at hm;cases hm
theorem wrap_far {S:List Pt} (h:S≠[]) (d:Pt):∃ v∈wrap S,∀ s∈S,dotP s d≤dotP v d:=by
 rcases Classical.em (d=(0,0)) with hd|hd
 ·subst hd
  obtain ⟨v,hv⟩:=List.exists_mem_of_ne_nil _ (wrap_ne h);exact ⟨v,hv,fun s _=>by unfold dotP;grind⟩
 ·have he:((-d.2,d.1):Pt)≠(0,0):=by
   intro e;apply hd;have e1:=congrArg Prod.fst e;have e2:=congrArg Prod.snd e;refine Prod.ext ?_ ?_<;>grind
  obtain ⟨v,hv,hfar⟩:=far_point he S h;refine ⟨v,(wrap_isHull S).extreme hv fun s hs hne=>(hfar s hs).resolve_left hne,fun s hs => ?_⟩;rcases hfar s hs with rfl|h2
  ·exact Rat.le_refl
  ·have:=h2.cr
   unfold crossP subP at this;unfold dotP;grind
end Pl
end Go.Proofs.YtdkkjfnpinckjaaGreatDoor
