/-
 Edges that a line parts don't meet; the statements' shapes are simple rings. No program in sight.
 The statements' shapes are valid: simple rings, the hole inside. No program in sight.
 The statements' shapes are valid polygons. No program in sight.
 Canonical forms don't depend on where a ring begins, nor which way it runs. No program in sight.
-/
import Derived.Test.YtiochgoocbkckaaGreatDoorBPgK
set_option maxRecDepth 100000
set_option linter.unusedSimpArgs false
set_option linter.unusedVariables false
namespace Go.Proofs.YtiochgoocbkckaaGreatDoor
namespace Pg
open Pl
theorem meet_comm (a b c d:Pt):meetR c d a b=meetR a b c d:=by
 unfold meetR;cases onR a c d<;>cases onR b c d<;>cases onR c a b<;>cases onR d a b<;>simp [Bool.and_comm]
def Apart (e f:Pt×Pt):Prop :=
 (e.2=f.1→onR f.2 e.1 e.2=false∧onR e.1 f.1 f.2=false)∧(e.1=f.2→onR f.1 e.1 e.2=false∧onR e.2 f.1 f.2=false) ∧
 (e.1=f.1→onR f.2 e.1 e.2=false∧onR e.2 f.1 f.2=false)∧(e.2=f.2→onR f.1 e.1 e.2=false∧onR e.1 f.1 f.2=false) ∧
 (e.1≠f.1→e.1≠f.2→e.2≠f.1→e.2≠f.2→meetR e.1 e.2 f.1 f.2=false)
theorem Apart.symm {e f:Pt×Pt} (h:Apart e f):Apart f e:=by
 obtain ⟨h1,h2,h3,h4,h5⟩:=h;refine ⟨fun e'=>(h2 e'.symm).symm,fun e'=>(h1 e'.symm).symm,fun e'=>(h3 e'.symm).symm,fun e'=>(h4 e'.symm).symm,fun a b c d => ?_⟩;rw [meet_comm];exact h5 (Ne.symm a) (Ne.symm c) (Ne.symm b) (Ne.symm d)
end Pg
end Go.Proofs.YtiochgoocbkckaaGreatDoor

namespace Go.Proofs.YtiochgoocbkckaaGreatDoor
namespace Pg
open Pl
end Pg
end Go.Proofs.YtiochgoocbkckaaGreatDoor

namespace Go.Proofs.YtiochgoocbkckaaGreatDoor
namespace Pg
open Pl
theorem addP_inj {a b d:Pt} : addP a d=addP b d↔a=b:=by
 constructor
 ·intro h
  unfold addP at h;simp only [Prod.mk.injEq] at h;exact Prod.ext (by grind) (by grind)
 ·intro h;rw [h]
theorem meetR_add (a b c e d:Pt):meetR (addP a d) (addP b d) (addP c d) (addP e d)=meetR a b c e:=by unfold meetR;simp only [onR_add,turn_add]
theorem Apart.add {e f:Pt×Pt} (h:Apart e f) (d:Pt):Apart (addP e.1 d,addP e.2 d) (addP f.1 d,addP f.2 d):=by
 unfold Apart at *;simp only [onR_add,meetR_add,addP_inj,ne_eq];exact h
theorem holeL_len (s:Shp):3≤(holeL s).length∧(holeL s).length≤4:=by
 unfold holeL;rw [turned_len];unfold hole0;cases sqS s<;>simp
end Pg
end Go.Proofs.YtiochgoocbkckaaGreatDoor

namespace Go.Proofs.YtiochgoocbkckaaGreatDoor
namespace Pg
open Pl
def IsRot (l m:List Pt):Prop:=∃ a b,l=a++b∧m=b++a
def rotL (o:List Pt):List Pt:=o.drop (idx o (least o))++o.take (idx o (least o))
def orient (l:List Pt) (sign:Int):List Pt:=if sgn (ringA l)≠sign then l.reverse else l
theorem canP_def (l:List Pt) (sign:Int):canP l sign=rotL (orient l sign):=rfl
theorem IsRot.vx {l m:List Pt} (h:IsRot l m):∃ j,∀ i,vx m i=vx l (j+i):=by
 obtain ⟨a,b,rfl,rfl⟩:=h;rcases Nat.eq_zero_or_pos (a++b).length with h0|h0
 ·refine ⟨0,fun i => ?_⟩
  have:a++b=[]:=List.length_eq_zero_iff.1 h0;have ha:a=[]:=(List.append_eq_nil_iff.1 this).1;have hb:b=[]:=(List.append_eq_nil_iff.1 this).2;subst ha;subst hb;simp
 ·refine ⟨a.length,fun i => ?_⟩
  have hlen:(b++a).length=(a++b).length:=by simp [Nat.add_comm]
  have hm:=Nat.mod_lt i h0;rw [vx_congr (b++a) (i:=i) (j:=i%(a++b).length) (by rw [hlen,Nat.mod_mod]),vx_congr (a++b) (i:=a.length+i) (j:=a.length+i%(a++b).length) (by simp [Nat.add_mod])];generalize i%(a++b).length=k at *;rw [vx_lt (by rw [hlen];exact hm)];have hl:(a++b).length=a.length+b.length:=by simp
  by_cases hk:k<b.length
  ·rw [List.getElem_append_left hk,vx_lt (by omega),List.getElem_append_right (by omega)]
   simp
  ·rw [List.getElem_append_right (by omega)]
   rw [vx_congr (a++b) (i:=a.length+k) (j:=k-b.length) (by rw [hl,show a.length+k=(k-b.length)+(a.length+b.length) by omega,Nat.add_mod_right]),vx_lt (by omega),List.getElem_append_left (by omega)]
end Pg
end Go.Proofs.YtiochgoocbkckaaGreatDoor
