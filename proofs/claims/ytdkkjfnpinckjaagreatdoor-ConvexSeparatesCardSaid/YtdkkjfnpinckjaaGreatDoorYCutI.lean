/-
  Small sets; fewer spots; equal lists.
  Intersections of small sets: the lines and how long their numbers are; the contract of Intersect for them.
-/
import Derived.Test.YtdkkjfnpinckjaaGreatDoorYMr
import Derived.Test.YtdkkjfnpinckjaaGreatDoorYMo
import Derived.Test.YtdkkjfnpinckjaaGreatDoorYCin
set_option linter.unusedSimpArgs false
set_option linter.unusedVariables false
set_option maxRecDepth 100000
namespace Go.Proofs.YtdkkjfnpinckjaaGreatDoor
open Go Go.RowKit

theorem TV.take {w:World} {A:Option Addr} {c M:Nat} {l:List (Int×Int×Bool)} (h:TV w (.slice A l.length c) l) (hM:M≤l.length):TV w (.slice A M c) (l.take M):=by
 obtain ⟨A',c',h1,h2,h3,h4⟩:=h;cases h1
 exact ⟨A,c,by rw [List.length_take,Nat.min_eq_left hM],by rw [List.length_take,Nat.min_eq_left hM];omega,h3,fun k x hx=>h4 k x (by
  rw [List.getElem?_take] at hx
  split at hx
  ·exact hx
  ·cases hx)⟩
structure Small (X:List (Rat×Rat)):Prop where
 wrap:Pl.wrap X=X
 sz:∀ q∈X,Pl.SzP 1 q
 len:X.length≤12
end Go.Proofs.YtdkkjfnpinckjaaGreatDoor
set_option maxRecDepth 100000
namespace Go.Proofs.YtdkkjfnpinckjaaGreatDoor
open Go Go.RowKit

theorem getD_sz {S:Nat} {l:List (Rat×Rat)} (hS:1≤S) (h:∀ q∈l,Pl.SzP S q) (i:Nat):Pl.SzP S (l.getD i (0,0)):=by
 rcases Nat.lt_or_ge i l.length with hi|hi
 ·rw [Pl.getD_of (List.getElem?_eq_getElem hi)];exact h _ (List.getElem_mem hi)
 ·rw [List.getD_eq_getElem?_getD,List.getElem?_eq_none hi]
  exact ⟨Pl.sz_zero.mono hS,Pl.sz_zero.mono hS⟩
theorem sides_sz {S:Nat} {l:List (Rat×Rat)} (hS:1≤S) (h:∀ q∈l,Pl.SzP S q):∀ s∈Pl.sides l,Pl.SzS (3*S+2) s:=by
 intro s hs;unfold Pl.sides at hs;have g:=getD_sz hS h
 have A:∀ i j,Pl.SzS (3*S+2) (Pl.aheadS (l.getD i (0,0)) (Pl.subP (l.getD j (0,0)) (l.getD i (0,0)))):=fun i j=>by
  have hd:=(g j).sub (g i);have:Pl.SzP (S+S+1) ((Pl.subP (l.getD j (0,0)) (l.getD i (0,0))).2,-(Pl.subP (l.getD j (0,0)) (l.getD i (0,0))).1):=⟨hd.2,hd.1.neg⟩
  exact ⟨(g i).mono (by omega),((g i).add this).mono (by omega)⟩
 split at hs
 ·exact (Pl.edges_sz h s hs).mono (by omega)
 ·simp only [List.mem_cons,List.not_mem_nil,or_false] at hs
  rcases hs with rfl|rfl|rfl|rfl
  ·exact ⟨(g 0).mono (by omega),(g 1).mono (by omega)⟩
  ·exact ⟨(g 1).mono (by omega),(g 0).mono (by omega)⟩
  ·exact A 0 1
  ·exact A 1 0
theorem sides_len (l:List (Rat×Rat)):(Pl.sides l).length≤l.length+4:=by
 unfold Pl.sides
 split
 ·have:=Pl.edges_length l;omega
 ·simp
def linesOf (X Y:List (Rat×Rat)):List ((Rat×Rat)×(Rat×Rat)):=Pl.edges X++Pl.sides Y
theorem linesOf_len (X Y:List (Rat×Rat)):(linesOf X Y).length≤X.length+Y.length+4:=by
 unfold linesOf;have:=Pl.edges_length X;have:=sides_len Y;rw [List.length_append];omega
theorem Good.mono {LN LM:List ((Rat×Rat)×(Rat×Rat))} {K K':Nat} {h:List (Rat×Rat)} (g:Good LN K h) (hs:∀ m∈LN,m∈LM) (hK:K≤K'):Good LM K' h:=⟨g.wrap,g.car.mono hs,fun q hq=>(g.sz q hq).mono hK⟩
theorem good_flat {LN:List ((Rat×Rat)×(Rat×Rat))} {K:Nat} {h:List (Rat×Rat)} (hw:Pl.wrap h=h) (hl:h.length≤1) (hs:∀ q∈h,Pl.SzP K q):Good LN K h:=by
 refine ⟨hw,fun z w e => ?_,hs⟩
 match h,hl,e with
 | [],_,e=>exact absurd e.ma (by simp)
 | [q],_,e =>
  have h1:=e.ma;have h2:=e.mb;rw [List.mem_singleton] at h1 h2;exact absurd (h1.trans h2.symm) e.ne
theorem good_inter {LN:List ((Rat×Rat)×(Rat×Rat))} {I K:Nat} {a b:List (Rat×Rat)} (g:Good LN K a) (hwb:Pl.wrap b=b) (hsb:∀ q∈b,Pl.SzP K q) (hLN:∀ m∈LN,Pl.SzS I m) (hsub:∀ s∈Pl.sides b,s∈LN) (hIK:27*I+18≤K):Good LN K (Pl.interC a b):=by
 match b,hwb,hsb,hsub with
 | [],_,_,_=>exact good_flat rfl (by simp [Pl.interC]) (fun _ h=>by simp [Pl.interC] at h)
 | [q],hwb,hsb,_ =>
  rw [interC_one]
  split
  ·exact good_flat rfl (by simp) (fun _ h=>by cases h)
  ·exact good_flat hwb (by simp) hsb
 | x :: y :: l,hwb,hsb,hsub =>
  rw [interC_fold (by simp)];exact Good.fold hLN hIK _ g fun s hs=>⟨hsub s hs,Pl.sides_ne hwb (by simp) s hs⟩
theorem lines_sz {X Y:List (Rat×Rat)} (hX:Small X) (hY:Small Y):∀ m∈linesOf X Y,Pl.SzS 5 m:=fun m hm=>by
 rcases List.mem_append.1 hm with h|h
 ·exact (Pl.edges_sz hX.sz m h).mono (by decide)
 ·exact sides_sz (Nat.le_refl _) hY.sz m h
theorem Small.good {X Y:List (Rat×Rat)} (hX:Small X):Good (linesOf X Y) 153 X:=⟨hX.wrap,(Pl.car_own hX.wrap).mono fun m hm=>List.mem_append_left _ hm,fun q hq=>(hX.sz q hq).mono (by decide)⟩
theorem inter_good {X Y:List (Rat×Rat)} (hX:Small X) (hY:Small Y):Good (linesOf X Y) 153 (Pl.interC X Y) :=
 good_inter hX.good hY.wrap (fun q hq=>(hY.sz q hq).mono (by decide)) (lines_sz hX hY) (fun _ hs=>List.mem_append_right _ hs) (by decide)
theorem inter_small (va vb:Value) (X Y:List (Rat×Rat)) (w:World) (ha:PV w va X) (hb:PV w vb Y) (hX:Small X) (hY:Small Y) :
 Calls Tryz.prog 49 #[va,vb] w fun e w'=>∃ v',e=.returned v'∧PV w' v' (Pl.interC X Y)∧Below w.heap.size w w' :=
 inter_any (I:=5) (K:=153) (S:=1) va vb X Y (linesOf X Y) w ha hb hX.good hY.wrap hY.sz (Nat.le_trans hX.len (by decide)) (Nat.le_trans hY.len (by decide)) (lines_sz hX hY) (fun _ hs=>List.mem_append_right _ hs)
  (by have:=linesOf_len X Y;have:=hX.len;have:=hY.len;omega) (by decide) (by decide) (by decide) (by decide)
end Go.Proofs.YtdkkjfnpinckjaaGreatDoor
