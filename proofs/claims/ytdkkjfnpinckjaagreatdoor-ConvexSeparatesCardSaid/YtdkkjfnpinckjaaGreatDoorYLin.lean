/-
 The law ConvexIntersects: the walk.
-/
import Derived.Test.YtdkkjfnpinckjaaGreatDoorYKnw
import Derived.Test.YtdkkjfnpinckjaaGreatDoorYMr
import Derived.Test.YtdkkjfnpinckjaaGreatDoorYLw1
import Derived.Test.YtdkkjfnpinckjaaGreatDoorYCutI
import Derived.Test.YtdkkjfnpinckjaaGreatDoorYHin
import Derived.Deep.RegionHeld3
import Derived.Deep.DeepCutAuto
set_option maxRecDepth 100000
set_option linter.unusedSimpArgs false
set_option linter.unusedVariables false
namespace Go.Proofs.YtdkkjfnpinckjaaGreatDoor
open Go Go.RowKit

def linesH (X Y:List (Rat×Rat)):List ((Rat×Rat)×(Rat×Rat)):=Pl.edges X++(linesR Y Y.length++endsR Y)
theorem linesH_sz {X Y:List (Rat×Rat)} (hX:Small X) (hY:Small Y):∀ m∈linesH X Y,Pl.SzS 5 m:=fun m hm=>by
 have g:=getD_sz (Nat.le_refl _) hY.sz;rcases List.mem_append.1 hm with h|h
 ·exact (Pl.edges_sz hX.sz m h).mono (by decide)
 ·rcases List.mem_append.1 h with h|h
  ·obtain ⟨i,_,rfl⟩:=lines_mem h
   exact ⟨(g _).mono (by decide),(g _).mono (by decide)⟩
  ·have hd:=(g 1).sub (g 0)
   have ht:Pl.SzP 3 (turnedP (Pl.subP (Y.getD 1 (0,0)) (Y.getD 0 (0,0)))):=⟨hd.2.neg,hd.1⟩
   unfold endsR at h;simp only [List.mem_cons,List.not_mem_nil,or_false] at h;rcases h with rfl|rfl
   ·exact ⟨(g 0).add ht,(g 0).mono (by decide)⟩
   ·exact ⟨(g 1).mono (by decide),(g 1).add ht⟩
theorem hinter_small (va vb:Value) (X Y:List (Rat×Rat)) (w:World) (ha:PV w va X) (hb:PV w vb Y) (hX:Small X) (hY:Small Y) :
 Calls Tryz.prog 50 #[va,vb] w fun e w'=>∃ v',e=.returned v'∧PV w' v' (Pl.interC X Y)∧Below w.heap.size w w' :=
 hinter_any (I:=5) (K:=153) va vb X Y (linesH X Y) w ha hb ⟨hX.wrap,(Pl.car_own hX.wrap).mono fun m hm=>List.mem_append_left _ hm,fun q hq=>(hX.sz q hq).mono (by decide)⟩ hY.wrap hY.sz (Nat.le_trans hX.len (by decide)) (Nat.le_trans hY.len (by decide)) (linesH_sz hX hY)
  (fun i hi=>List.mem_append_right _ (List.mem_append_left _ (List.mem_map.2 ⟨i,List.mem_range.2 hi,rfl⟩))) (fun s hs=>List.mem_append_right _ (List.mem_append_right _ hs))
  (by
   have h1:=Pl.edges_length X;have h2:(linesR Y Y.length).length=Y.length:=by unfold linesR;simp
   have h3:(endsR Y).length=2:=rfl;have:=hX.len;have:=hY.len;unfold linesH
   rw [List.length_append,List.length_append,h2,h3];omega) (by decide) (by decide) (by decide)

end Go.Proofs.YtdkkjfnpinckjaaGreatDoor
