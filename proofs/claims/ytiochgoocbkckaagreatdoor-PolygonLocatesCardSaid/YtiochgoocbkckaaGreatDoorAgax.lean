/-
 Places for the statements' shapes: outer rings and holes. No program in sight.
 Places for the statements' polygons: a hole lies inside of the outer ring. No program in sight.
 Places for the statements' polygons: the package and the reference agree. No program in sight.
 Places for the statements' polygons: a hole's points are inside of the outer ring. No program in sight.
 The statements' polygons: places, areas, canonical forms. No program in sight.
 Contracts for polygons: edges.
 Whether a ring is simple, as a test; the first error of a ring. No program in sight.
-/
import Derived.Test.YtiochgoocbkckaaGreatDoorAgaw
import Derived.Test.YtiochgoocbkckaaGreatDoorAgao
set_option maxRecDepth 100000
set_option linter.unusedSimpArgs false
set_option linter.unusedVariables false
namespace Go.Proofs.YtiochgoocbkckaaGreatDoor
namespace Pg
open Pl
theorem filter_star (R:Nat→Nat):(List.range 8).filter (has8 R)=starL (has8 R 1) (has8 R 3) (has8 R 5) (has8 R 7):=by
 have e:List.range 8=[0,1,2,3,4,5,6,7]:=rfl;rw [e];unfold starL
 cases h1:has8 R 1<;>cases h3:has8 R 3<;>cases h5:has8 R 5<;>cases h7:has8 R 7 <;>
  simp [List.filter,h1,h3,h5,h7,show has8 R 0=true from rfl,show has8 R 2=true from rfl,show has8 R 4=true from rfl,show has8 R 6=true from rfl]
def radQ (R:Nat→Nat) (i:Nat):Rat:=(rad R i:Rat)
theorem radQ_two (R:Nat→Nat) (i:Nat):2≤radQ R i:=by unfold radQ;exact_mod_cast (rad_bd R i).1
theorem outer_star (R:Nat→Nat) (x y:Int):outer0 R x y=((starL (has8 R 1) (has8 R 3) (has8 R 5) (has8 R 7)).map (vt (radQ R))).map fun q=>addP q (ptI x y):=by
 unfold outer0;rw [filter_star,List.map_map];refine List.map_congr_left fun i _ => ?_
 unfold addP ptI vt radQ Function.comp
 push_cast
 refine Prod.ext ?_ ?_<;>(simp only;grind)
theorem add_sub (p d:Pt):addP (subP p d) d=p:=by unfold addP subP;refine Prod.ext ?_ ?_<;>(simp only;grind)
theorem outer_wind (R:Nat→Nat) (x y:Int) (p:Pt):wsum p (ringE (outer0 R x y))=0∨wsum p (ringE (outer0 R x y))=1:=by
 rw [outer_star,← add_sub p (ptI x y),wsum_ring_move];exact star_wind (fun i=>by have:=radQ_two R i;grind) _ _ _ _ _
def holeV (sq:Bool):List Pt:=[(1/2,0),(0,1/2),(-1/2,0)]++if sq then [(0,-1/2)] else []
def hole0 (x y:Int) (sq:Bool):List Pt:=[(((2*x+1:Int):Rat)/2,(y:Rat)),((x:Rat),((2*y+1:Int):Rat)/2),(((2*x-1:Int):Rat)/2,(y:Rat))]++if sq then [((x:Rat),((2*y-1:Int):Rat)/2)] else []
theorem hole_star (x y:Int) (sq:Bool):hole0 x y sq=(holeV sq).map fun q=>addP q (ptI x y):=by
 unfold hole0 holeV;cases sq<;>simp [addP,ptI]<;>grind
theorem hole_area (x y:Int) (sq:Bool):ringA (hole0 x y sq)=if sq then 1 else 1/2:=by
 rw [hole_star,ringA_move];cases sq
 ·exact (by decide +kernel:ringA (holeV false)=1/2)
 ·exact (by decide +kernel:ringA (holeV true)=1)
theorem hole_nodup (x y:Int) (sq:Bool):(hole0 x y sq).Nodup:=by
 rw [hole_star]
 have inj:∀ p q:Pt,addP p (ptI x y)=addP q (ptI x y)→p=q:=fun p q h=>by
  unfold addP at h;simp only [Prod.mk.injEq] at h;exact Prod.ext (by grind) (by grind)
 unfold List.Nodup;rw [List.pairwise_map];have:(holeV sq).Nodup:=by cases sq<;>decide +kernel
 exact this.imp fun {a b} h e=>h (inj a b e)
theorem hole_ord {y z:Rat} (hz:z≠0):Ord y [(1/2,0),(0,z),(-1/2,0)]:=by
 unfold Ord;simp only [prs,List.pairwise_cons,List.mem_cons,List.not_mem_nil,or_false,forall_eq,List.Pairwise.nil,and_true,false_imp_iff,implies_true];intro h1 h2;rcases Rat.le_total (a:=z) (b:=0) with hs|hs
 ·refine sep (d:=(0,-z)) ?_ ?_ ?_ ?_ ?_ h1 h2<;>simp only [crossP]<;>grind
 ·refine sep (d:=(0,z)) ?_ ?_ ?_ ?_ ?_ h1 h2<;>simp only [crossP]<;>grind
theorem holeV_wind (sq:Bool) (p:Pt):wsum p (ringE (holeV sq))=0∨wsum p (ringE (holeV sq))=1:=by
 have e:holeV sq=(1/2,0) :: ([(0,1/2)]++(-1/2,0) :: (if sq then [(0,-1/2)] else [])):=by unfold holeV;rfl
 rw [e];refine star_w p rfl rfl ?_ ?_ ?_ ?_
 ·intro q hq;simp only [List.mem_singleton] at hq;subst hq;decide +kernel
 ·intro q hq;cases sq<;>simp at hq;subst hq;decide +kernel
 ·exact hole_ord (by decide +kernel)
 ·cases sq
  ·simp [Ord,prs]
  ·exact hole_ord (by decide +kernel)
theorem hole_wind (x y:Int) (sq:Bool) (p:Pt):wsum p (ringE (hole0 x y sq))=0∨wsum p (ringE (hole0 x y sq))=1:=by
 rw [hole_star,← add_sub p (ptI x y),wsum_ring_move];exact holeV_wind sq _
theorem turned_loc {l:List Pt} (h:∀ p,wsum p (ringE l)=0∨wsum p (ringE l)=1) (start:Nat) (back:Bool) (p:Pt) :
 locW p (ringE (turned l start back)) 0=locO p (ringE (turned l start back)) (-1):=by
 refine loc_eq fun _ => ?_
 rw [wsum_turned];rcases h p with h|h<;>cases back<;>simp [h]
end Pg
end Go.Proofs.YtiochgoocbkckaaGreatDoor

namespace Go.Proofs.YtiochgoocbkckaaGreatDoor
namespace Pg
open Pl
def above (p:Pt) (q:Pt):Int:=if q.2≤p.2 then 0 else 1
theorem wnd_all {p:Pt} {e:Pt×Pt} (h:crsg p.2 e→p.1<xs e p.2):wnd p e=above p e.2-above p e.1:=by
 unfold above
 by_cases ha:e.1.2≤p.2<;>by_cases hb:e.2.2≤p.2
 ·rw [wnd_no ⟨fun _=>hb,fun _=>ha⟩];simp [ha,hb]
 ·have hb':p.2<e.2.2:=by grind
  rw [wnd_up ha hb',if_pos (h (.inl ⟨ha,hb'⟩))];simp [ha,hb]
 ·have ha':p.2<e.1.2:=by grind
  rw [wnd_dn hb ha',if_pos (h (.inr ⟨hb,ha'⟩))];simp [ha,hb]
 ·rw [wnd_no ⟨fun c=>absurd c ha,fun c=>absurd c hb⟩];simp [ha,hb]
theorem wsum_all {p:Pt} (z:Pt):∀ (l:List Pt) (a:Pt),(∀ e∈prs (a :: (l++[z])),crsg p.2 e→p.1<xs e p.2)→wsum p (prs (a :: (l++[z])))=above p z-above p a
 | [],a,h=>by
  simp only [List.nil_append,prs,wsum] at *;rw [wnd_all (h (a,z) (by simp))];simp
 | b :: l,a,h=>by
  simp only [List.cons_append,prs,wsum] at *;rw [wsum_all z l b fun e he=>h e (List.mem_cons_of_mem _ he),wnd_all (h (a,b) (by simp))];simp only;omega
theorem wsum_nil {p:Pt} : ∀ {es:List (Pt×Pt)},(∀ e∈es,crsg p.2 e→¬ p.1<xs e p.2)→wsum p es=0
 | [],_=>rfl
 | e :: es,h=>by
  have ih:=wsum_nil (es:=es) fun e' he=>h e' (List.mem_cons_of_mem _ he)
  have h0:=h e (by simp);simp only [wsum];rw [ih]
  by_cases ha:e.1.2≤p.2<;>by_cases hb:e.2.2≤p.2
  ·rw [wnd_no ⟨fun _=>hb,fun _=>ha⟩];rfl
  ·have hb':p.2<e.2.2:=by grind
   rw [wnd_up ha hb',if_neg (h0 (.inl ⟨ha,hb'⟩))];rfl
  ·have ha':p.2<e.1.2:=by grind
   rw [wnd_dn hb ha',if_neg (h0 (.inr ⟨hb,ha'⟩))];rfl
  ·rw [wnd_no ⟨fun c=>absurd c ha,fun c=>absurd c hb⟩];rfl
theorem sideK {e:Pt×Pt} {y u v K:Rat} (hc:crsg y e) (h1:u*e.1.1+v*e.1.2≤K) (h2:u*e.2.1+v*e.2.2≤K):u*xs e y+v*y≤K:=by
 have hne:e.1.2≠e.2.2:=by rcases hc with h|h<;>grind
 have hm:=congrArg (fun z=>u*z) (xs_mul (e:=e) (y:=y) hne);try simp only at hm
 generalize xs e y=X at *;obtain ⟨⟨a1,a2⟩,b1,b2⟩:=e;try simp only at *
 have key:0≤K-(u*X+v*y):=by
  rcases hc with ⟨c1,c2⟩|⟨c1,c2⟩
  ·have hd:0<b2-a2:=by grind
   refine mul_nonneg_of hd ?_;have k1:=Rat.mul_nonneg (show 0≤b2-y by grind) (show 0≤K-(u*a1+v*a2) by grind);have k2:=Rat.mul_nonneg (show 0≤y-a2 by grind) (show 0≤K-(u*b1+v*b2) by grind);have e:(b2-a2)*(K-(u*X+v*y))=(b2-y)*(K-(u*a1+v*a2))+(y-a2)*(K-(u*b1+v*b2)):=by grind
   grind
  ·have hd:0<a2-b2:=by grind
   refine mul_nonneg_of hd ?_;have k1:=Rat.mul_nonneg (show 0≤y-b2 by grind) (show 0≤K-(u*a1+v*a2) by grind);have k2:=Rat.mul_nonneg (show 0≤a2-y by grind) (show 0≤K-(u*b1+v*b2) by grind);have e:(a2-b2)*(K-(u*X+v*y))=(y-b2)*(K-(u*a1+v*a2))+(a2-y)*(K-(u*b1+v*b2)):=by grind
   grind
 grind
theorem ringE_mem {l:List Pt} {e:Pt×Pt} (h:e∈ringE l):e.1∈l∧e.2∈l:=by
 unfold ringE at h;obtain ⟨i,hi,rfl⟩:=List.mem_map.1 h;have hl:0<l.length:=Nat.lt_of_le_of_lt (Nat.zero_le i) (List.mem_range.1 hi)
 have hv:∀ k,vx l k∈l:=fun k=>by
  have e:vx l k=vx l (k%l.length):=vx_congr _ (by rw [Nat.mod_mod]);rw [e];exact vx_mem (Nat.mod_lt k hl)
 exact ⟨hv _,hv _⟩
theorem far_wind {l:List Pt} {p:Pt} {u v K:Rat} (h:∀ q∈l,u*q.1+v*q.2≤K) (hp:K<u*p.1+v*p.2):wsum p (ringE l)=0:=by
 have hx:∀ e∈ringE l,crsg p.2 e→u*xs e p.2<u*p.1:=fun e he hc=>by
  have:=sideK hc (h _ (ringE_mem he).1) (h _ (ringE_mem he).2);grind
 rcases Rat.le_total (a:=u) (b:=0) with hu|hu
 ·cases l with
  | nil=>rfl
  | cons a l =>
   have e0:ringE (a :: l)=prs (a :: (l++[a])):=ringE_prs a l;rw [e0]
   have hall:∀ e∈prs (a :: (l++[a])),crsg p.2 e→p.1<xs e p.2:=fun e he hc=>by
    have h1:=hx e (by rw [e0];exact he) hc;have h2:0<(-u)*(xs e p.2-p.1):=by grind
    have hu':0 < -u:=by
     rcases Classical.em (u=0) with e0|e0
     ·subst e0;grind
     ·grind
    have:=mul_pos_of hu' h2;grind
   rw [wsum_all a l a hall];omega
 ·refine wsum_nil fun e he hc hlt => ?_
  have h1:=hx e he hc;have:=Rat.mul_nonneg hu (show 0≤xs e p.2-p.1 by grind);grind
theorem on_side {p a b:Pt} {u v K:Rat} (h:onSeg p a b=true) (ha:u*a.1+v*a.2≤K) (hb:u*b.1+v*b.2≤K):u*p.1+v*p.2≤K:=by
 rw [← onR_eq] at h;unfold onR at h;simp only [Bool.and_eq_true,Bool.or_eq_true,decide_eq_true_eq] at h;obtain ⟨ht,hb2⟩:=h;have hd:det a b p=0:=(sgn_zero_iff _).1 ht
 have lex:∀ s t:Pt,cmpP s t≤0→s.1<t.1∨s.1=t.1∧s.2≤t.2:=fun s t h=>by
  rcases less_total s t with h'|h'|h'
  ·rcases (less_iff s t).1 h' with h''|h''
   ·exact .inl h''
   ·exact .inr ⟨h''.1,by grind⟩
  ·subst h';exact .inr ⟨rfl,by grind⟩
  ·have:=(cmpP_lt_iff t s).2 h'
   rw [cmpP_swap s t] at this;omega
 have two:∀ {a b:Pt},(a.1<p.1∨a.1=p.1∧a.2≤p.2)→(p.1<b.1∨p.1=b.1∧p.2≤b.2)→det a b p=0→u*a.1+v*a.2≤K→u*b.1+v*b.2≤K→u*p.1+v*p.2≤K:=by
  intro a b h1 h2 hd ha hb;unfold det crossP subP at hd;obtain ⟨a1,a2⟩:=a;obtain ⟨b1,b2⟩:=b;obtain ⟨p1,p2⟩:=p;simp only at *
  have key:0≤K-(u*p1+v*p2):=by
   rcases Classical.em (a1<b1) with h|h
   ·have hp:0<b1-a1:=by grind
    refine mul_nonneg_of hp ?_;have k1:=Rat.mul_nonneg (show 0≤b1-p1 by grind) (show 0≤K-(u*a1+v*a2) by grind);have k2:=Rat.mul_nonneg (show 0≤p1-a1 by grind) (show 0≤K-(u*b1+v*b2) by grind);have hv:=congrArg (fun z=>v*z) hd;try simp only at hv
    have e:(b1-a1)*(K-(u*p1+v*p2))=(b1-p1)*(K-(u*a1+v*a2))+(p1-a1)*(K-(u*b1+v*b2)):=by grind
    grind
   ·have e1:a1=p1:=by grind
    have e2:p1=b1:=by grind
    subst e1;subst e2;have l1:a2≤p2:=by grind
    have l2:p2≤b2:=by grind
    rcases Rat.le_total (a:=v) (b:=0) with hv|hv
    ·have:=Rat.mul_nonneg (show 0≤-v by grind) (show 0≤p2-a2 by grind)
     grind
    ·have:=Rat.mul_nonneg hv (show 0≤b2-p2 by grind)
     grind
  grind
 rcases hb2 with ⟨h1,h2⟩|⟨h1,h2⟩
 ·exact two (lex _ _ h1) (lex _ _ h2) hd ha hb
 ·exact two (lex _ _ h1) (lex _ _ h2) (by rw [show det b a p=- det a b p by unfold det crossP subP;grind,hd];grind) hb ha
theorem loc_near {l:List Pt} {p:Pt} {u v K:Rat} (hl:locW p (ringE l) 0≠-1) (h:∀ q∈l,u*q.1+v*q.2≤K):u*p.1+v*p.2≤K:=by
 rcases Classical.em (∃ e∈ringE l,onSeg p e.1 e.2=true) with ⟨e,he,ho⟩|hb
 ·exact on_side ho (h _ (ringE_mem he).1) (h _ (ringE_mem he).2)
 ·rcases Classical.em (u*p.1+v*p.2≤K) with h'|h'
  ·exact h'
  ·exfalso
   have hz:=far_wind h (by grind:K<u*p.1+v*p.2);refine hl ?_;have hb':∀ e∈ringE l,¬ onSeg p e.1 e.2=true:=fun e he ho=>hb ⟨e,he,ho⟩
   have:∀ (es:List (Pt×Pt)) (t:Int),(∀ e∈es,¬ onSeg p e.1 e.2=true)→t+wsum p es=0→locW p es t=-1:=by
    intro es
    induction es with
    | nil=>intro t _ h;simp only [wsum,Int.add_zero] at h;simp [locW,h]
    | cons e es ih =>
     intro t hn h;simp only [wsum] at h;simp only [locW];rw [if_neg (hn e (by simp))];exact ih _ (fun e' he'=>hn e' (by simp [he'])) (by omega)
   exact this _ 0 hb' (by omega)
end Pg
end Go.Proofs.YtiochgoocbkckaaGreatDoor

namespace Go.Proofs.YtiochgoocbkckaaGreatDoor
namespace Pg
open Pl
theorem ringE_any {l:List Pt} (hl:0<l.length) (k:Nat):(vx l k,vx l (k+1))∈ringE l:=by
 unfold ringE;refine List.mem_map.2 ⟨k%l.length,List.mem_range.2 (Nat.mod_lt k hl),?_⟩;rw [vx_congr l (i:=k%l.length) (j:=k) (Nat.mod_mod _ _),vx_congr l (i:=k%l.length+1) (j:=k+1) (by simp [Nat.add_mod])]
theorem turned_vx {l:List Pt} (hl:0<l.length) (start:Nat) (back:Bool) (i:Nat):vx (turned l start back) i=vx (if back then l.reverse else l) (start+i):=by
 have hm:=Nat.mod_lt i hl;rw [vx_congr (turned l start back) (i:=i) (j:=i%l.length) (by rw [turned_len,Nat.mod_mod]),vx_lt (by rw [turned_len];exact hm)];unfold turned;rw [List.getElem_map,List.getElem_range];have hm2:=Nat.mod_lt (start+i%l.length) hl
 cases back with
 | false=>simp only [Bool.false_eq_true,if_false];exact vx_congr _ (by simp [Nat.add_mod])
 | true =>
  simp only [if_true];rw [← vx_rev hm2];exact vx_congr _ (by simp [Nat.add_mod])
theorem turned_edges {l:List Pt} {Q:Pt→Pt→Prop} (hs:∀ a b,Q a b→Q b a) (h:∀ e∈ringE l,Q e.1 e.2) (start:Nat) (back:Bool):∀ e∈ringE (turned l start back),Q e.1 e.2:=fun e he=>by
 unfold ringE at he;obtain ⟨i,hi,rfl⟩:=List.mem_map.1 he;have hl:0<l.length:=by have:=List.mem_range.1 hi;rw [turned_len] at this;omega
 simp only;rw [turned_vx hl,turned_vx hl]
 cases back with
 | false=>exact h _ (ringE_any hl (start+i))
 | true =>
  simp only [if_true];have hrl:l.reverse.length=l.length:=by simp
  have hm:=Nat.mod_lt (start+i) hl;have hm2:=Nat.mod_lt (start+(i+1)) hl;rw [vx_congr l.reverse (i:=start+i) (j:=(start+i)%l.length) (by rw [hrl,Nat.mod_mod]),vx_congr l.reverse (i:=start+(i+1)) (j:=(start+(i+1))%l.length) (by rw [hrl,Nat.mod_mod]),vx_rev hm,vx_rev hm2];have e:=h _ (ringE_any hl (l.length-1-(start+(i+1))%l.length));simp only at e
  have:vx l (l.length-1-(start+(i+1))%l.length+1)=vx l (l.length-1-(start+i)%l.length):=by
   refine vx_congr l ?_;have d1:=Nat.div_add_mod (start+i) l.length
   have d2:(start+(i+1))%l.length=if (start+i)%l.length+1=l.length then 0 else (start+i)%l.length+1:=by
    rw [← Nat.add_assoc,Nat.add_mod]
    by_cases h1:l.length=1
    ·rw [h1];simp [Nat.mod_one]
    ·rw [Nat.mod_eq_of_lt (a:=1) (by omega)]
     split
     ·rename_i h2;rw [h2,Nat.mod_self]
     ·rw [Nat.mod_eq_of_lt (by omega)]
   rw [d2]
   split
   ·rename_i h2
    rw [show l.length-1-0+1=l.length by omega,Nat.mod_self,show l.length-1-(start+i)%l.length=0 by omega,Nat.zero_mod]
   ·congr 1
    omega
  rw [this] at e;exact hs _ _ e
theorem turned_map (l:List Pt) (d:Pt) (start:Nat) (back:Bool):turned (l.map fun q=>addP q d) start back=(turned l start back).map fun q=>addP q d:=by
 unfold turned;rw [List.length_map,List.map_map];refine List.map_congr_left fun i hi => ?_
 have h:0<l.length:=Nat.lt_of_le_of_lt (Nat.zero_le i) (List.mem_range.1 hi);exact vx_map l d h
theorem onSeg_add (p a b d:Pt):onSeg (addP p d) (addP a d) (addP b d)=onSeg p a b:=by rw [← onR_eq,← onR_eq,onR_add]
theorem locW_add (p d:Pt):∀ (es:List (Pt×Pt)) (t:Int),locW (addP p d) (es.map fun e=>(addP e.1 d,addP e.2 d)) t=locW p es t
 | [],_=>rfl
 | e :: es,t=>by simp only [List.map_cons,locW,onSeg_add,wnd_move,locW_add p d es]
theorem locW_in {p:Pt} : ∀ {es:List (Pt×Pt)} {t:Int},(∀ e∈es,onSeg p e.1 e.2=false)→t+wsum p es≠0→locW p es t=1
 | [],t,_,h=>by simp only [wsum,Int.add_zero] at h;simp [locW,h]
 | e :: es,t,hb,h=>by
  simp only [wsum] at h;simp only [locW,hb e (by simp),Bool.false_eq_true,if_false];exact locW_in (fun e' he=>hb e' (by simp [he])) (by omega)
structure Near (p:Pt):Prop where
 a:p.1+p.2≤1/2
 b : -p.1+p.2≤1/2
 c : -p.1-p.2≤1/2
 d:p.1-p.2≤1/2
def Far2 (a b:Pt):Prop:=∃ u v:Rat,(u=1∨u=-1)∧(v=1∨v=-1)∧2≤u*a.1+v*a.2∧2≤u*b.1+v*b.2
theorem Far2.symm {a b:Pt} (h:Far2 a b):Far2 b a:=by obtain ⟨u,v,h1,h2,h3,h4⟩:=h;exact ⟨u,v,h1,h2,h4,h3⟩
theorem Far2.off {a b p:Pt} (h:Far2 a b) (hp:Near p):onSeg p a b=false:=by
 obtain ⟨u,v,h1,h2,h3,h4⟩:=h
 cases ho:onSeg p a b with
 | false=>rfl
 | true =>
  exfalso;have:=on_side (u := -u) (v := -v) (K := -2) ho (by grind) (by grind);obtain ⟨a1,a2,a3,a4⟩:=hp;rcases h1 with rfl|rfl<;>rcases h2 with rfl|rfl<;>grind
theorem vt_val (r:Nat→Rat):vt r 0=(r 0,0)∧vt r 1=(r 1,r 1)∧vt r 2=(0,r 2)∧vt r 3=(-r 3,r 3)∧vt r 4=(-r 4,0)∧vt r 5=(-r 5,-r 5)∧vt r 6=(0,-r 6)∧vt r 7=(r 7,-r 7):=by
 refine ⟨?_,?_,?_,?_,?_,?_,?_,?_⟩<;>simp [vt,dxI,dyI,dxs,dys]<;>grind
theorem star_far {r:Nat→Rat} (hr:∀ i,2≤r i) (b1 b3 b5 b7:Bool):∀ e∈ringE ((starL b1 b3 b5 b7).map (vt r)),Far2 e.1 e.2:=by
 obtain ⟨v0,v1,v2,v3,v4,v5,v6,v7⟩:=vt_val r;have r0:=hr 0;have r1:=hr 1;have r2:=hr 2;have r3:=hr 3;have r4:=hr 4;have r5:=hr 5;have r6:=hr 6;have r7:=hr 7;unfold starL;have f1:∀ {a b:Pt},2≤a.1+a.2→2≤b.1+b.2→Far2 a b:=fun h1 h2=>⟨1,1,.inl rfl,.inl rfl,by grind,by grind⟩
 have f2:∀ {a b:Pt},2≤-a.1+a.2→2≤-b.1+b.2→Far2 a b:=fun h1 h2=>⟨-1,1,.inr rfl,.inl rfl,by grind,by grind⟩
 have f3:∀ {a b:Pt},2≤-a.1-a.2→2≤-b.1-b.2→Far2 a b:=fun h1 h2=>⟨-1,-1,.inr rfl,.inr rfl,by grind,by grind⟩
 have f4:∀ {a b:Pt},2≤a.1-a.2→2≤b.1-b.2→Far2 a b:=fun h1 h2=>⟨1,-1,.inl rfl,.inr rfl,by grind,by grind⟩
 have pr:∀ {L:List Pt},(∀ e∈prs L,Far2 e.1 e.2)→∀ e∈prs L,Far2 e.1 e.2:=fun h=>h
 have cns:∀ {a b:Pt} {l:List Pt},Far2 a b→(∀ e∈prs (b :: l),Far2 e.1 e.2)→∀ e∈prs (a :: b :: l),Far2 e.1 e.2:=fun h1 h2 e he=>by
  simp only [prs] at he;rcases List.mem_cons.1 he with rfl|he
  ·exact h1
  ·exact h2 e he
 have one:∀ a:Pt,∀ e∈prs [a],Far2 e.1 e.2:=fun a e he=>by simp [prs] at he
 have g01:Far2 (vt r 0) (vt r 1):=by rw [v0,v1];exact f1 (by grind) (by grind)
 have g12:Far2 (vt r 1) (vt r 2):=by rw [v1,v2];exact f1 (by grind) (by grind)
 have g02:Far2 (vt r 0) (vt r 2):=by rw [v0,v2];exact f1 (by grind) (by grind)
 have g23:Far2 (vt r 2) (vt r 3):=by rw [v2,v3];exact f2 (by grind) (by grind)
 have g34:Far2 (vt r 3) (vt r 4):=by rw [v3,v4];exact f2 (by grind) (by grind)
 have g24:Far2 (vt r 2) (vt r 4):=by rw [v2,v4];exact f2 (by grind) (by grind)
 have g45:Far2 (vt r 4) (vt r 5):=by rw [v4,v5];exact f3 (by grind) (by grind)
 have g56:Far2 (vt r 5) (vt r 6):=by rw [v5,v6];exact f3 (by grind) (by grind)
 have g46:Far2 (vt r 4) (vt r 6):=by rw [v4,v6];exact f3 (by grind) (by grind)
 have g67:Far2 (vt r 6) (vt r 7):=by rw [v6,v7];exact f4 (by grind) (by grind)
 have g70:Far2 (vt r 7) (vt r 0):=by rw [v7,v0];exact f4 (by grind) (by grind)
 have g60:Far2 (vt r 6) (vt r 0):=by rw [v6,v0];exact f4 (by grind) (by grind)
 clear f1 f2 f3 f4 v0 v1 v2 v3 v4 v5 v6 v7 r0 r1 r2 r3 r4 r5 r6 r7 hr pr
 cases b1<;>cases b3<;>cases b5<;>cases b7 <;>
  (simp only [Bool.false_eq_true,if_true,if_false,List.nil_append,List.cons_append,List.map_cons,List.map_nil]
   rw [ringE_prs];simp only [List.cons_append,List.nil_append]
   repeat (first|exact one _|refine cns (by assumption) ?_))
end Pg
end Go.Proofs.YtiochgoocbkckaaGreatDoor

namespace Go.Proofs.YtiochgoocbkckaaGreatDoor
namespace Pg
open Pl
theorem Near.top {p:Pt} (h:Near p):p.2≤1/2∧-1/2≤p.2:=by obtain ⟨a,b,c,d⟩:=h;constructor<;>grind
theorem w_mid {p a b:Pt} (hp:Near p) (ha:2≤a.2) (hb:2≤b.2):wnd p (a,b)=0:=by
 have:=hp.top;exact wnd_no ⟨fun c=>by simp only at c;grind,fun c=>by simp only at c;grind⟩
theorem w_low {p a b:Pt} (h:0≤p.2) (ha:a.2≤0) (hb:b.2≤0):wnd p (a,b)=0:=wnd_no ⟨fun _=>by simp only;grind,fun _=>by simp only;grind⟩
theorem w_high {p a b:Pt} (h:p.2<0) (ha:0≤a.2) (hb:0≤b.2):wnd p (a,b)=0:=wnd_no ⟨fun c=>by simp only at c;grind,fun c=>by simp only at c;grind⟩
theorem w_bot {p a b:Pt} (hp:Near p) (ha:a.2≤-2) (hb:b.2≤-2):wnd p (a,b)=0:=by
 have:=hp.top;exact wnd_no ⟨fun _=>by simp only;grind,fun _=>by simp only;grind⟩
theorem w_first {p a b:Pt} (hp:Near p) (h:0≤p.2) (ha:a.2=0) (hb:2≤b.2) (h1:2≤a.1+a.2) (h2:2≤b.1+b.2):wnd p (a,b)=1:=by
 have ht:=hp.top;obtain ⟨a',b',c',d'⟩:=hp;have g1:a.2≤p.2:=by grind
 have g2:p.2<b.2:=by grind
 have:=sideK (e:=(a,b)) (y:=p.2) (u := -1) (v := -1) (K := -2) (.inl ⟨g1,g2⟩) (by simp only;grind) (by simp only;grind);rw [wnd_up (e:=(a,b)) g1 g2,if_pos (by grind)]
theorem w_last {p a b:Pt} (hp:Near p) (h:0≤p.2) (ha:2≤a.2) (hb:b.2=0) (h1:2≤-a.1+a.2) (h2:2≤-b.1+b.2):wnd p (a,b)=0:=by
 have ht:=hp.top;obtain ⟨a',b',c',d'⟩:=hp;have g1:b.2≤p.2:=by grind
 have g2:p.2<a.2:=by grind
 have:=sideK (e:=(a,b)) (y:=p.2) (u:=1) (v := -1) (K := -2) (.inr ⟨g1,g2⟩) (by simp only;grind) (by simp only;grind);rw [wnd_dn (e:=(a,b)) g1 g2,if_neg (by grind)]
theorem w_left {p a b:Pt} (hp:Near p) (h:p.2<0) (ha:a.2=0) (hb:b.2≤-2) (h1:2≤-a.1-a.2) (h2:2≤-b.1-b.2):wnd p (a,b)=0:=by
 have ht:=hp.top;obtain ⟨a',b',c',d'⟩:=hp;have g1:b.2≤p.2:=by grind
 have g2:p.2<a.2:=by grind
 have:=sideK (e:=(a,b)) (y:=p.2) (u:=1) (v:=1) (K := -2) (.inr ⟨g1,g2⟩) (by simp only;grind) (by simp only;grind);rw [wnd_dn (e:=(a,b)) g1 g2,if_neg (by grind)]
theorem w_right {p a b:Pt} (hp:Near p) (h:p.2<0) (ha:a.2≤-2) (hb:b.2=0) (h1:2≤a.1-a.2) (h2:2≤b.1-b.2):wnd p (a,b)=1:=by
 have ht:=hp.top;obtain ⟨a',b',c',d'⟩:=hp;have g1:a.2≤p.2:=by grind
 have g2:p.2<b.2:=by grind
 have:=sideK (e:=(a,b)) (y:=p.2) (u := -1) (v:=1) (K := -2) (.inl ⟨g1,g2⟩) (by simp only;grind) (by simp only;grind);rw [wnd_up (e:=(a,b)) g1 g2,if_pos (by grind)]
theorem star_one {r:Nat→Rat} (hr:∀ i,2≤r i) (b1 b3 b5 b7:Bool) {p:Pt} (hp:Near p):wsum p (ringE ((starL b1 b3 b5 b7).map (vt r)))=1:=by
 obtain ⟨v0,v1,v2,v3,v4,v5,v6,v7⟩:=vt_val r;have r0:=hr 0;have r1:=hr 1;have r2:=hr 2;have r3:=hr 3;have r4:=hr 4;have r5:=hr 5;have r6:=hr 6;have r7:=hr 7;unfold starL;rcases Classical.em (0≤p.2) with h|h
 ·have g01:wnd p (vt r 0,vt r 1)=1:=by rw [v0,v1];exact w_first hp h (by grind) (by grind) (by grind) (by grind)
  have g02:wnd p (vt r 0,vt r 2)=1:=by rw [v0,v2];exact w_first hp h (by grind) (by grind) (by grind) (by grind)
  have g12:wnd p (vt r 1,vt r 2)=0:=by rw [v1,v2];exact w_mid hp (by grind) (by grind)
  have g23:wnd p (vt r 2,vt r 3)=0:=by rw [v2,v3];exact w_mid hp (by grind) (by grind)
  have g34:wnd p (vt r 3,vt r 4)=0:=by rw [v3,v4];exact w_last hp h (by grind) (by grind) (by grind) (by grind)
  have g24:wnd p (vt r 2,vt r 4)=0:=by rw [v2,v4];exact w_last hp h (by grind) (by grind) (by grind) (by grind)
  have g45:wnd p (vt r 4,vt r 5)=0:=by rw [v4,v5];exact w_low h (by grind) (by grind)
  have g46:wnd p (vt r 4,vt r 6)=0:=by rw [v4,v6];exact w_low h (by grind) (by grind)
  have g56:wnd p (vt r 5,vt r 6)=0:=by rw [v5,v6];exact w_low h (by grind) (by grind)
  have g67:wnd p (vt r 6,vt r 7)=0:=by rw [v6,v7];exact w_low h (by grind) (by grind)
  have g60:wnd p (vt r 6,vt r 0)=0:=by rw [v6,v0];exact w_low h (by grind) (by grind)
  have g70:wnd p (vt r 7,vt r 0)=0:=by rw [v7,v0];exact w_low h (by grind) (by grind)
  cases b1<;>cases b3<;>cases b5<;>cases b7 <;>
   (simp only [Bool.false_eq_true,if_true,if_false,List.nil_append,List.cons_append,List.map_cons,List.map_nil]
    rw [ringE_prs];simp only [List.cons_append,List.nil_append,prs,wsum,g01,g02,g12,g23,g34,g24,g45,g46,g56,g67,g60,g70]
    rfl)
 ·have h:p.2<0:=by grind
  have g01:wnd p (vt r 0,vt r 1)=0:=by rw [v0,v1];exact w_high h (by grind) (by grind)
  have g02:wnd p (vt r 0,vt r 2)=0:=by rw [v0,v2];exact w_high h (by grind) (by grind)
  have g12:wnd p (vt r 1,vt r 2)=0:=by rw [v1,v2];exact w_high h (by grind) (by grind)
  have g23:wnd p (vt r 2,vt r 3)=0:=by rw [v2,v3];exact w_high h (by grind) (by grind)
  have g34:wnd p (vt r 3,vt r 4)=0:=by rw [v3,v4];exact w_high h (by grind) (by grind)
  have g24:wnd p (vt r 2,vt r 4)=0:=by rw [v2,v4];exact w_high h (by grind) (by grind)
  have g45:wnd p (vt r 4,vt r 5)=0:=by rw [v4,v5];exact w_left hp h (by grind) (by grind) (by grind) (by grind)
  have g46:wnd p (vt r 4,vt r 6)=0:=by rw [v4,v6];exact w_left hp h (by grind) (by grind) (by grind) (by grind)
  have g56:wnd p (vt r 5,vt r 6)=0:=by rw [v5,v6];exact w_bot hp (by grind) (by grind)
  have g67:wnd p (vt r 6,vt r 7)=0:=by rw [v6,v7];exact w_bot hp (by grind) (by grind)
  have g60:wnd p (vt r 6,vt r 0)=1:=by rw [v6,v0];exact w_right hp h (by grind) (by grind) (by grind) (by grind)
  have g70:wnd p (vt r 7,vt r 0)=1:=by rw [v7,v0];exact w_right hp h (by grind) (by grind) (by grind) (by grind)
  cases b1<;>cases b3<;>cases b5<;>cases b7 <;>
   (simp only [Bool.false_eq_true,if_true,if_false,List.nil_append,List.cons_append,List.map_cons,List.map_nil]
    rw [ringE_prs];simp only [List.cons_append,List.nil_append,prs,wsum,g01,g02,g12,g23,g34,g24,g45,g46,g56,g67,g60,g70]
    rfl)
def locPG (o:List Pt) (h:Option (List Pt)) (p:Pt):Int :=
 let a:=locW p (ringE o) 0
 if a≠1 then a else match h with
  | none=>1
  | some l=>if locW p (ringE l) 0≠-1 then-locW p (ringE l) 0 else 1
def locRG (o:List Pt) (h:Option (List Pt)) (p:Pt):Int :=
 let a:=locO p (ringE o) (-1)
 match h with
  | none=>a
  | some l=>if locO p (ringE l) (-1)=1 then -1 else if locO p (ringE l) (-1)=0 then 0 else a
theorem locW3 (p:Pt):∀ (es:List (Pt×Pt)) (t:Int),locW p es t=-1∨locW p es t=0∨locW p es t=1
 | [],t=>by simp only [locW];split<;>simp
 | e :: es,t=>by
  simp only [locW]
  split
  ·simp
  ·exact locW3 p es _
theorem hole_near {sq:Bool} {start:Nat} {back:Bool} {p:Pt} (h:locW p (ringE (turned (holeV sq) start back)) 0≠-1):Near p:=by
 have hm:∀ (u v:Rat),(∀ q∈holeV sq,u*q.1+v*q.2≤1/2)→u*p.1+v*p.2≤1/2:=fun u v hq =>
  loc_near h fun q hq'=>hq q ((turned_perm _ _ _).mem_iff.1 hq')
 have all:∀ (u v:Rat),u≤1→-1≤u→v≤1→-1≤v→∀ q∈holeV sq,u*q.1+v*q.2≤1/2:=fun u v h1 h2 h3 h4 q hq=>by
  unfold holeV at hq;cases sq<;>simp at hq
  ·rcases hq with rfl|rfl|rfl<;>simp only<;>grind
  ·rcases hq with rfl|rfl|rfl|rfl<;>simp only<;>grind
 have a:=hm 1 1 (all 1 1 (by decide) (by decide) (by decide) (by decide));have b:=hm (-1) 1 (all (-1) 1 (by decide) (by decide) (by decide) (by decide));have c:=hm (-1) (-1) (all (-1) (-1) (by decide) (by decide) (by decide) (by decide));have d:=hm 1 (-1) (all 1 (-1) (by decide) (by decide) (by decide) (by decide));exact ⟨by grind,by grind,by grind,by grind⟩
theorem locG_star {r:Nat→Rat} (hr:∀ i,2≤r i) (b1 b3 b5 b7:Bool) (start start':Nat) (back back' hole sq:Bool) (p:Pt) :
 locPG (turned ((starL b1 b3 b5 b7).map (vt r)) start back) (if hole then some (turned (holeV sq) start' back') else none) p =
 locRG (turned ((starL b1 b3 b5 b7).map (vt r)) start back) (if hole then some (turned (holeV sq) start' back') else none) p:=by
 have e1:=turned_loc (fun p=>star_wind (r:=r) (fun i=>by have:=hr i;grind) b1 b3 b5 b7 p) start back p;have e2:=turned_loc (holeV_wind sq) start' back' p
 have hin:locW p (ringE (turned (holeV sq) start' back')) 0≠-1→locW p (ringE (turned ((starL b1 b3 b5 b7).map (vt r)) start back)) 0=1:=fun h=>by
  have hn:=hole_near h;refine locW_in (turned_edges (Q:=fun a b=>onSeg p a b=false) (fun a b h => ?_) (fun e he=>(star_far hr b1 b3 b5 b7 e he).off hn) start back) ?_
  ·rw [← onR_eq] at h ⊢
   unfold onR at *;rw [turn_rev a b p];simp only [Int.neg_eq_zero] at *;rw [Bool.or_comm];exact h
  ·rw [wsum_turned,star_one hr b1 b3 b5 b7 hn]
   cases back<;>decide
 unfold locPG locRG;rw [← e1,];cases hole
 ·simp only [Bool.false_eq_true,if_false]
  have h3:=locW3 p (ringE (turned ((starL b1 b3 b5 b7).map (vt r)) start back)) 0
  split<;>omega
 ·simp only [if_true]
  rw [← e2];have h3:=locW3 p (ringE (turned (holeV sq) start' back')) 0
  by_cases hh:locW p (ringE (turned (holeV sq) start' back')) 0=-1
  ·rw [hh]
   simp;intro h;exact h.symm
  ·rw [hin hh,if_neg (by simp),if_pos hh]
   rcases h3 with h|h|h
   ·exact absurd h hh
   ·rw [h];rfl
   ·rw [h];rfl
end Pg
end Go.Proofs.YtiochgoocbkckaaGreatDoor

namespace Go.Proofs.YtiochgoocbkckaaGreatDoor
namespace Pg
open Pl
structure Shp where
 R:Nat→Nat
 x:Int
 y:Int
 hole:Nat
 start:Nat
 back:Bool
def outerS (s:Shp):List Pt:=turned (outer0 s.R s.x s.y) s.start s.back
def sqS (s:Shp):Bool:=decide (s.hole%4=3)
def holeL (s:Shp):List Pt:=turned (hole0 s.x s.y (sqS s)) (s.hole/4) s.back
def holeS (s:Shp):Option (List Pt):=if decide (s.hole%2=1)=true then some (holeL s) else none
theorem outerS_star (s:Shp):outerS s=(turned ((starL (has8 s.R 1) (has8 s.R 3) (has8 s.R 5) (has8 s.R 7)).map (vt (radQ s.R))) s.start s.back).map fun q=>addP q (ptI s.x s.y):=by
 unfold outerS;rw [outer_star,turned_map]
theorem holeL_star (s:Shp):holeL s=(turned (holeV (sqS s)) (s.hole/4) s.back).map fun q=>addP q (ptI s.x s.y):=by
 unfold holeL;rw [hole_star,turned_map]
theorem locPG_move (o h:List Pt) (b:Bool) (p d:Pt):locPG (o.map fun q=>addP q d) (if b then some (h.map fun q=>addP q d) else none) (addP p d)=locPG o (if b then some h else none) p:=by
 unfold locPG;cases b<;>simp only [ringE_map,locW_add,Bool.false_eq_true,if_true,if_false]
theorem locRG_move (o h:List Pt) (b:Bool) (p d:Pt):locRG (o.map fun q=>addP q d) (if b then some (h.map fun q=>addP q d) else none) (addP p d)=locRG o (if b then some h else none) p:=by
 unfold locRG;cases b<;>simp only [ringE_map,locO_add,Bool.false_eq_true,if_true,if_false]
theorem locS (s:Shp) (p:Pt):locPG (outerS s) (holeS s) p=locRG (outerS s) (holeS s) p:=by
 unfold holeS;rw [outerS_star,holeL_star,← add_sub p (ptI s.x s.y),locPG_move,locRG_move];exact locG_star (radQ_two s.R) _ _ _ _ _ _ _ _ _ _ _
theorem loc_outer (s:Shp) (p:Pt):locW p (ringE (outerS s)) 0=locO p (ringE (outerS s)) (-1):=turned_loc (fun p=>outer_wind s.R s.x s.y p) s.start s.back p
theorem loc_hole (s:Shp) (p:Pt):locW p (ringE (holeL s)) 0=locO p (ringE (holeL s)) (-1):=turned_loc (fun p=>hole_wind s.x s.y (sqS s) p) (s.hole/4) s.back p
def absQ (q:Rat):Rat:=if sgn q<0 then -q else q
theorem absQ_neg (q:Rat):absQ (-q)=absQ q:=by
 unfold absQ;rw [sgn_neg];rcases sgn_cases q with h|h|h
 ·rw [if_neg (by omega),if_pos (by omega)]
 ·rw [if_neg (by omega),if_neg (by omega),h.1];rfl
 ·rw [if_pos (by omega),if_neg (by omega)];grind
theorem absQ_pos {q:Rat} (h:0<q):absQ q=q:=by
 unfold absQ;rw [if_neg];rw [sgn_lt_iff];grind
def areaG (o:List Pt) (h:Option (List Pt)):Rat:=match h with
 | none=>absQ (ringA o)
 | some l=>absQ (ringA o)-absQ (ringA l)
theorem outer_abs (s:Shp):16≤absQ (ringA (outerS s)):=by
 have h:=outer_area s.R s.x s.y;unfold outerS;rw [turned_area];cases s.back
 ·simp only [Bool.false_eq_true,if_false];rw [absQ_pos (by grind)];exact h
 ·simp only [if_true];rw [absQ_neg,absQ_pos (by grind)];exact h
theorem hole_abs (s:Shp):absQ (ringA (holeL s))=if sqS s then 1 else 1/2:=by
 unfold holeL;rw [turned_area,hole_area];cases s.back
 ·simp only [Bool.false_eq_true,if_false];rw [absQ_pos];split<;>decide +kernel
 ·simp only [if_true];rw [absQ_neg,absQ_pos];split<;>decide +kernel
theorem areaS_pos (s:Shp):0<areaG (outerS s) (holeS s):=by
 have h1:=outer_abs s;have h2:=hole_abs s;unfold holeS areaG
 split
 ·grind
 ·rename_i l hl
  split at hl
  ·cases hl
   rw [h2]
   split<;>grind
  ·cases hl
theorem absQ_zero {q:Rat} (h:absQ q≠0):q≠0:=fun e=>h (by subst e;decide +kernel)
theorem outer_nz (s:Shp):ringA (outerS s)≠0:=absQ_zero (by have:=outer_abs s;grind)
theorem hole_nz (s:Shp):ringA (holeL s)≠0:=absQ_zero (by rw [hole_abs];split<;>decide +kernel)
theorem outerS_nodup (s:Shp):(outerS s).Nodup:=(turned_perm _ _ _).nodup_iff.2 (outer_nodup _ _ _)
theorem holeL_nodup (s:Shp):(holeL s).Nodup:=(turned_perm _ _ _).nodup_iff.2 (hole_nodup _ _ _)
def formP (l:List Pt) (sign:Int):List Pt:=canP (thinP 300 l 0) sign
def formR (l:List Pt) (sign:Int):List Pt:=canR (thinR 300 l 0) sign
theorem form_eq {l:List Pt} (sign:Int) (ha:ringA l≠0) (hn:l.Nodup):formP l sign=formR l sign:=by
 unfold formP formR;rw [← thin_eq _ _ _ ha];refine can_eq sign ?_ (List.Nodup.sublist (thin_sub _ _ _) hn);rcases Nat.eq_zero_or_pos (thinP 300 l 0).length with h|h
 ·exfalso
  refine ha ?_;rw [← thin_area 300 l 0 ha,ringA_short (by omega)]
 ·exact h
theorem can_area (l:List Pt) (sign:Int):absQ (ringA (canP l sign))=absQ (ringA l):=by
 unfold canP;simp only;rw [ringA_rot,List.take_append_drop]
 split
 ·rw [ringA_rev,absQ_neg]
 ·rfl
theorem form_area {l:List Pt} (sign:Int) (ha:ringA l≠0):absQ (ringA (formP l sign))=absQ (ringA l):=by
 unfold formP;rw [can_area,thin_area _ _ _ ha]
theorem thinP_more:∀ (f:Nat) (l:List Pt) (i:Nat),l.length*(l.length+1)-i<f→∀ g,f≤g→thinP g l i=thinP f l i
 | 0,_,_,h,_,_=>by omega
 | f+1,l,i,h,0,hg=>by omega
 | f+1,l,i,h,g+1,hg=>by
  unfold thinP
  by_cases hi:i<l.length
  ·simp only [hi,if_true]
   have hsq:l.length≤l.length*l.length:=Nat.le_mul_self _;have e:l.length*(l.length+1)=l.length*l.length+l.length:=Nat.mul_succ _ _
   split
   ·refine thinP_more f _ _ ?_ g (by omega)
    rw [List.length_eraseIdx_of_lt hi];have e2:(l.length-1)*(l.length-1+1)=l.length*l.length-l.length:=by rw [show l.length-1+1=l.length by omega,Nat.sub_mul];omega
    omega
   ·refine thinP_more f _ _ ?_ g (by omega)
    omega
  ·simp [hi]
end Pg
end Go.Proofs.YtiochgoocbkckaaGreatDoor

namespace Go.Proofs.YtiochgoocbkckaaGreatDoor
open Go Go.RowKit

set_option maxHeartbeats 4000000 in
theorem pedge_any {S:Nat} (v:Value) (l:List (Rat×Rat)) (k:Nat) (w:World) (h:PV w v l) (hs:∀ q∈l,Pl.SzP S q) (hn:l.length≤1000000) (hS:S≤100000) (hk:k<l.length) :
 Calls Tryz.prog 71 #[v,.int .i64 k] w fun e w'=>e=.returned (sv (Pg.vx l k,Pg.vx l (k+1)))∧Below w.heap.size w w':=by
 obtain ⟨A,c,rfl,hc,hm,hx⟩:=h.open_;have HV:=Lib.hid h;have HX:=Lib.hid hx;have HS:=Lib.hid hs;have i1:(k:Int)<(l.length:Int):=by omega
 have j0:¬ (l.length:Int)=0:=by omega
 have j1:((l.length:Int)==0)=false:=by simpa using j0
 have HF:Hid (l.take l.length=l):=Lib.hid List.take_length;generalize hN:l.length=N at *;have HN:=Lib.hid hN;clear h hx hs hN;go_enter Tryz.func71,Tryz.ntmps71;obtain ⟨x1,hx2⟩:∃ x,l[k]?=some x:=⟨_,List.getElem?_eq_getElem (by rw [HN.out];omega)⟩
 have Hhx2:=Lib.hid hx2;have Zhx2:=Lib.hid (HS.out _ (List.mem_of_getElem? hx2));clear hx2;obtain ⟨m,hm1⟩:∃ m,m=(k+1)%N:=⟨_,rfl⟩
 have hm2:m<N:=hm1▸Nat.mod_lt _ (by omega);have i2:(m:Int)<N:=by omega
 obtain ⟨r1,r2,r3,r4,r5,r6⟩:=remS k N m hm1 (by omega) (by omega);have HM:=Lib.hid hm1;clear hm1;obtain ⟨x3,hx4⟩:∃ x,l[m]?=some x:=⟨_,List.getElem?_eq_getElem (by rw [HN.out];omega)⟩
 have Hhx4:=Lib.hid hx4;have Zhx4:=Lib.hid (HS.out _ (List.mem_of_getElem? hx4));clear hx4;have HT:=Lib.hid (⟨Pg.vx_some (by rw [HN.out,Nat.mod_eq_of_lt hk];exact Hhx2.out),Pg.vx_some (by rw [HN.out,← HM.out];exact Hhx4.out)⟩:Pg.vx l k=x1∧Pg.vx l (k+1)=x3);clear r2 r4 r5 r6 hm2 j0;go_wp2_with fail;refine wp_named ?_;intro W1 hW1;have hL1:Below w.heap.size w W1:=by rw [hW1];exact bB
 have c5:Own W1 w.heap.size 0 [.bool false,.string ⟨#[]⟩,.bool false,.string ⟨#[]⟩,.bool false,.string ⟨#[]⟩,.bool false,.string ⟨#[]⟩,.bool false,.string ⟨#[]⟩,.bool false,.string ⟨#[]⟩,.bool false,.string ⟨#[]⟩,.bool false,.string ⟨#[]⟩]:=by
  rw [hW1]
  first
  | (repeat (first|(with_reducible refine own_new (l:=[.bool false,.string ⟨#[]⟩,.bool false,.string ⟨#[]⟩,.bool false,.string ⟨#[]⟩,.bool false,.string ⟨#[]⟩,.bool false,.string ⟨#[]⟩,.bool false,.string ⟨#[]⟩,.bool false,.string ⟨#[]⟩,.bool false,.string ⟨#[]⟩]) ?_;(simp;done))|with_reducible refine Own.alloc ?_ _|refine Own.far _ _ (by first|(simp;done)|(simp [*];done)|(simp;omega)) ?_));done
  | simp [Own,go_sem]
 have hB6:Below w.heap.size w W1:=by rw [hW1];exact bB
 clear hW1 hL1;have dc5:=fun p:Bel W1=>c5.bel p
 simp only [At,Own,Nat.reduceAdd,and_true] at dc5;obtain ⟨g8,o9,ha10,-⟩:=(HX.out).up kpP hB6 _ _ Hhx2.out;subst ha10;have ce7:=LX.at_ ((HX.out).up kpP hB6) Hhx2.out;have ce7_:g8<W1.heap.size:=World.block_lt_of_cell? _ _ ce7.1;have dce7:=fun b:Bel W1=>ce7.bel b
 simp only [CE,Nat.reduceMul] at dce7;have ce11:=LX.at_ ((HX.out).up kpP hB6) Hhx4.out;have ce11_:g8<W1.heap.size:=World.block_lt_of_cell? _ _ ce11.1;have dce11:=fun b:Bel W1=>ce11.bel b
 simp only [CE,Nat.reduceMul] at dce11;refine wp_region_tail 13 (by kernel_rfl) (by kernel_rfl) ?_;simp only [List.take_succ_cons,List.take_zero,List.drop_succ_cons,List.drop_zero];repeat (go_big_quiet_step (fail))
 refine wpQuiet_nil ?_;intro w1 hb1;have c12:=c5.up hb1;have hB13:Below w.heap.size w w1:=bel_up hB6 hb1;clear dc5 dce7 dce11 c5;have uc12:=c12;simp only [At,Own,Nat.reduceAdd,and_true] at uc12;go_wp2;refine bodyPost_ret (v:=.agg #[.bool (ng x1.1.num),.string (mg x1.1.num.natAbs),.bool false,.string (mg (dn x1.1)),.bool (ng x1.2.num),.string (mg x1.2.num.natAbs),.bool false,.string (mg (dn x1.2)),.bool (ng x3.1.num),.string (mg x3.1.num.natAbs),.bool false,.string (mg (dn x3.1)),.bool (ng x3.2.num),.string (mg x3.2.num.natAbs),.bool false,.string (mg (dn x3.2))]) (by simp [results,Tryz.results71,go_sem,uc12]) rfl ⟨(by rw [HT.out.1,HT.out.2]),?_⟩;exact bB

theorem pedges_any {S:Nat} (v:Value) (l:List (Rat×Rat)) (w:World) (h:PV w v l) (hs:∀ q∈l,Pl.SzP S q) (hn:l.length≤1000000) (hS:S≤100000) :
 Calls Tryz.prog 60 #[v] w fun e w'=>∃ v',e=.returned v'∧SV w' v' (Pg.ringE l)∧Below w.heap.size w w':=by
 obtain ⟨A,c,rfl,hc,hm,hx⟩:=h.open_;have HV:=Lib.hid h;have HX:=Lib.hid hx;have HS:=Lib.hid hs;have HR:Hid (Pg.ringE l=(List.range l.length).map fun i=>(Pg.vx l i,Pg.vx l (i+1))):=Lib.hid rfl;have HF:Hid (l.take l.length=l):=Lib.hid List.take_length;generalize hN:l.length=N at *;have HN:=Lib.hid hN;clear h hx hs hN;go_enter Tryz.func60,Tryz.ntmps60;go_wp2_with fail;go_loopw [3,7] (fun s3 s7 wr=>∃ (k:Nat) (L:List ((Rat×Rat)×(Rat×Rat))),s7=.int .i64 k∧wr.ownsRow w.heap.size 73 16 s3 k (segs L)∧Below w.heap.size w wr∧k≤N∧Hid (L=(List.range k).map fun i=>(Pg.vx l i,Pg.vx l (i+1)))) (fun _ s7 _=>N-(intOf s7).toNat)
 case atStart=>exact ⟨0,([]),rfl,World.ownsRow_nil _ _ _ _,Below.refl _ _,(by omega),Lib.hid rfl⟩
 case round =>
  obtain ⟨k,L,rfl,o1,hB2,hk,HE⟩:=hrel;obtain ⟨wr3,hwr3⟩:∃ W_,W_=wr:=⟨_,rfl⟩
  subst hwr3;have O4:=Lib.hid o1;clear o1
  by_cases hltk:k<N
  ·skip
   have i1k:(k:Int)<N:=by omega
   have HT:Hid ((List.range (k+1)).map (fun i=>(Pg.vx l i,Pg.vx l (i+1)))=(List.range k).map (fun i=>(Pg.vx l i,Pg.vx l (i+1)))++[(Pg.vx l k,Pg.vx l (k+1))]):=Lib.hid (by rw [List.range_succ,List.map_append,List.map_cons,List.map_nil]);have K5:=Lib.hid (fun W (hW:PV W (.slice A N c) l)=>pedge_any _ l k W hW HS.out (by rw [HN.out];exact hn) hS (by rw [HN.out];omega));go_wp2_with (fail)
   refine calls_named ?_;intro W1 hW1;have hL1:Below wr3.heap.size wr3 W1:=by rw [hW1];exact bB
   have O6:=Lib.hid (owns_up O4.out hL1);have hB7:Below w.heap.size w W1:=by rw [hW1];exact bB
   clear hW1 hL1;with_reducible refine (K5.out _ (HV.out.up hB7)).mono ?_
   rintro e w1 ⟨rfl,hb1⟩;have O8:=Lib.hid (owns_up O6.out hb1);have hB9:Below w.heap.size w w1:=bel_up hB7 hb1;clear O6;go_wp2_with (at_builtin;refine wpList_appF rfl _ _ _ rfl ti_sg O8.out (hB9).size rfl rfl rfl rfl (scells_one (Pg.vx l k,Pg.vx l (k+1))) (by omega) (by decide) ?_)
   intro v10 w_v10 hown_v10 hst_v10;have O12:Hid (w_v10.ownsRow w.heap.size 73 16 v10 ((k+1)) (segs (L++[(Pg.vx l k,Pg.vx l (k+1))]))):=Lib.hid (by rw [segs_snoc];exact hown_v10);have hB13:Below w.heap.size w w_v10:=hst_v10.below hB9 (hB9).size (fun r hr=>(O8.out.lt r hr).1);clear hown_v10;go_wp2;go_roundw
   case rel=>exact ⟨(k+1),(L++[(Pg.vx l k,Pg.vx l (k+1))]),(by first|rfl|exact congrArg (Value.int .i64) (by omega)|simp [*]),(by repeat (first|with_reducible exact O12.out|refine owns_far ?_ _ (by omega) _|with_reducible refine World.ownsRow.alloc ?_ _)),(by exact bB),(by omega),Lib.hid (by rw [HT.out,HE.out])⟩
   case measure=>simp [intOf]<;>omega
  ·skip
   have hkN:N=k:=by omega
   subst hkN;go_wp2;go_ret;exact ⟨_,rfl,(by rw [HR.out,← HE.out];exact sv_own O4.out),(by exact bB)⟩
end Go.Proofs.YtiochgoocbkckaaGreatDoor

namespace Go.Proofs.YtiochgoocbkckaaGreatDoor
namespace Pg
open Pl
def simB (bad:List Pt→Nat→Nat→Bool) (l:List Pt):Bool :=
 decide (3≤l.length)&&(List.range l.length).all fun i=>decide (vx l i≠vx l (i+1))&&(List.range l.length).all fun k => !(decide (i<k)&&bad l i k)
theorem simB_iff (bad:List Pt→Nat→Nat→Bool) (l:List Pt):simB bad l=true↔Sim bad l:=by
 unfold simB Sim;simp only [Bool.and_eq_true,decide_eq_true_eq,List.all_eq_true,List.mem_range,Bool.not_eq_true',Bool.and_eq_false_iff,decide_eq_false_iff_not];constructor
 ·rintro ⟨h3,h⟩
  refine ⟨h3,fun i hi=>(h i hi).1,fun i k hik hk => ?_⟩;rcases (h i (by omega)).2 k hk with c|c
  ·exact absurd hik c
  ·exact c
 ·rintro ⟨h3,h1,h2⟩
  refine ⟨h3,fun i hi=>⟨h1 i hi,fun k hk => ?_⟩⟩
  by_cases hik:i<k
  ·exact .inr (h2 i k hik hk)
  ·exact .inl hik
theorem simB_eq (l:List Pt):simB badP l=simB badR l:=by
 rw [Bool.eq_iff_iff,simB_iff,simB_iff,sim_iff]
theorem sim_short {bad:List Pt→Nat→Nat→Bool} {l:List Pt} (h:l.length<3):simB bad l=false:=by
 rcases hb:simB bad l with _|_
 ·rfl
 ·have:=((simB_iff bad l).1 hb).1;omega
theorem sim_same {bad:List Pt→Nat→Nat→Bool} {l:List Pt} {i:Nat} (hi:i<l.length) (h:vx l i=vx l (i+1)):simB bad l=false:=by
 rcases hb:simB bad l with _|_
 ·rfl
 ·exact absurd h (((simB_iff bad l).1 hb).2.1 i hi)
theorem sim_bad {bad:List Pt→Nat→Nat→Bool} {l:List Pt} {i k:Nat} (hik:i<k) (hk:k<l.length) (h:bad l i k=true):simB bad l=false:=by
 rcases hb:simB bad l with _|_
 ·rfl
 ·rw [((simB_iff bad l).1 hb).2.2 i k hik hk] at h;cases h
theorem sim_yes {bad:List Pt→Nat→Nat→Bool} {l:List Pt} (h3:¬ l.length<3) (h:∀ i,i<l.length→vx l i≠vx l (i+1)∧∀ k,i<k→k<l.length→bad l i k=false):simB bad l=true:=by
 rw [simB_iff];exact ⟨by omega,fun i hi=>(h i hi).1,fun i k hik hk=>(h i (by omega)).2 k hik hk⟩
def errR (l:List Pt):Int:=if 12<l.length then 3 else if simB badP l=true then 0 else 13
theorem errR_ref (l:List Pt):errR l=if 12<l.length then 3 else if simB badR l=true then 0 else 13:=by unfold errR;rw [simB_eq]
theorem ringE_vx {l:List Pt} {i:Nat} {x:Pt×Pt} (h:(ringE l)[i]?=some x):i<l.length∧x=(vx l i,vx l (i+1)):=by
 have hi:i<l.length:=by rw [← ringE_len l];exact (List.getElem?_eq_some_iff.1 h).1
 rw [ringE_get l hi] at h;exact ⟨hi,(Option.some.inj h).symm⟩
theorem bad_f {l:List Pt} {i k:Nat} {x y:Pt×Pt} (hx:(ringE l)[i]?=some x) (hy:(ringE l)[k]?=some y) (h:k=i+1∨i=0∧k+1=l.length):badP l i k=decide (kindM x y=3):=by
 unfold badP;rw [if_pos h,← (ringE_vx hx).2,← (ringE_vx hy).2]
theorem bad_n {l:List Pt} {i k:Nat} {x y:Pt×Pt} (hx:(ringE l)[i]?=some x) (hy:(ringE l)[k]?=some y) (h:¬ (k=i+1∨i=0∧k+1=l.length)):badP l i k=decide (kindM x y≠0):=by
 unfold badP;rw [if_neg h,← (ringE_vx hx).2,← (ringE_vx hy).2]
theorem ringE_sz {S:Nat} {l:List Pt} (h:∀ q∈l,SzP S q):∀ s∈ringE l,SzS S s:=by
 intro s hs;obtain ⟨i,hi⟩:=List.getElem?_of_mem hs;obtain ⟨h1,rfl⟩:=ringE_vx hi
 have k:∀ j,SzP S (vx l j):=fun j=>h _ (vx_mod l j▸by
  have hm:=Nat.mod_lt j (show 0<l.length by omega);rw [List.getD_eq_getElem?_getD,List.getElem?_eq_getElem hm]
  exact List.getElem_mem hm)
 exact ⟨k i,k (i+1)⟩
end Pg
end Go.Proofs.YtiochgoocbkckaaGreatDoor
