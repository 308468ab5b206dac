/-
  Disks in the plain: the points of the rings, and that all of them are corners.
  Disks in the plain: the law.
  Growing in the plain: the squared distance of a point from a set; the rings around a disk; the sums with both.
  Separation in the plain: the nearest points of two sets without a common one, and that the middle between them parts the sets.
-/
import Derived.Test.YtdkkjfnpinckjaaGreatDoorYCutS
import Derived.Test.YtdkkjfnpinckjaaGreatDoorYSupP
set_option linter.unusedSimpArgs false
set_option linter.unusedVariables false
set_option maxRecDepth 100000
namespace Go.Proofs.YtdkkjfnpinckjaaGreatDoor
namespace Pl

def tri (n k:Nat):Int×Int×Int:=((n:Int)*n-k*k,2*n*k,(n:Int)*n+k*k)
def nx (n i:Nat):Nat:=(i+1)%(4*n)
def tV (t:Int×Int×Int):Pt:=((t.1:Rat)/(t.2.2:Rat),(t.2.1:Rat)/(t.2.2:Rat))
def rotP (p:Pt):Pt:=(-p.2,p.1)
def rotN:Nat→Pt→Pt
 | 0,p=>p
 | q+1,p=>rotP (rotN q p)
def dp (n:Nat) (r:Rat) (i:Nat):Pt:=rotN (i/n) (scaleP (tV (tri n (i%n))) r)
end Pl
end Go.Proofs.YtdkkjfnpinckjaaGreatDoor
set_option maxRecDepth 100000
namespace Go.Proofs.YtdkkjfnpinckjaaGreatDoor
namespace Pl

theorem ext_mem {S:List Pt} {p d:Pt} (hp:p∈S) (h:∀ s∈S,s≠p→dotP s d<dotP p d):p∈wrap S:=by
 obtain ⟨v,hv,hf⟩:=wrap_far (S:=S) (fun e=>by rw [e] at hp;cases hp) d;rcases Classical.em (v=p) with e|e
 ·exact e▸hv
 ·have h1:=h v ((wrap_isHull S).sub v hv) e
  have h2:=hf p hp;grind
theorem wrap_nodup (S:List Pt):(wrap S).Nodup:=by
 rcases wrap_isHull S with ⟨_,e⟩|⟨p,e,_⟩|⟨p,_,hr⟩
 ·rw [e];simp
 ·rw [e];simp
 ·exact hr.nodup
theorem wrap_len {S:List Pt} (hn:S.Nodup) (hx:∀ p∈S,∃ d,∀ s∈S,s≠p→dotP s d<dotP p d):(wrap S).length=S.length :=
 Nat.le_antisymm (length_le_of_nodup _ _ (wrap_nodup S) fun x hx=>(wrap_isHull S).sub x hx) (length_le_of_nodup _ _ hn fun p hp=>by
  obtain ⟨d,hd⟩:=hx p hp
  exact ext_mem hp hd)
def outP (r2:Rat) (p q:Pt):Pt:=scaleP (addP p q) (r2/(r2+dotP p q))
def os (n:Nat) (r:Rat) (i:Nat):Pt:=outP (r*r) (dp n r i) (dp n r (nx n i))
end Pl
end Go.Proofs.YtdkkjfnpinckjaaGreatDoor
set_option maxRecDepth 100000
namespace Go.Proofs.YtdkkjfnpinckjaaGreatDoor
namespace Pl

theorem seg_mem {S:List Pt} {a b:Pt} {t:Rat} (ha:Mem S a) (hb:Mem S b) (h0:0≤t) (h1:t≤1):Mem S (addP a (scaleP (subP b a) t)):=fun d=>by
 have e:dotP (addP a (scaleP (subP b a) t)) d=(1-t)*dotP a d+t*dotP b d:=by unfold dotP addP scaleP subP;grind
 rw [e];rcases Classical.em (dotP a d≤dotP b d) with h|h
 ·obtain ⟨s,hs,h2⟩:=hb d
  refine ⟨s,hs,Rat.le_trans ?_ h2⟩;have:=Rat.mul_nonneg (show 0≤1-t by grind) (show 0≤dotP b d-dotP a d by grind);grind
 ·obtain ⟨s,hs,h2⟩:=ha d
  refine ⟨s,hs,Rat.le_trans ?_ h2⟩;have:=Rat.mul_nonneg h0 (show 0≤dotP a d-dotP b d by grind);grind
theorem exists_min {α:Type} (f:α→Rat):∀ (l:List α),l≠[]→∃ x∈l,∀ y∈l,f x≤f y
 | [x],_=>⟨x,by simp,fun y hy=>by simp at hy;subst hy;exact Rat.le_refl⟩
 | x :: y :: l,_=>by
  obtain ⟨z,hz,h⟩:=exists_min f (y :: l) (by simp);rcases Classical.em (f x≤f z) with h1|h1
  ·exact ⟨x,by simp,fun w hw=>(List.mem_cons.1 hw).elim (fun e=>e▸Rat.le_refl) fun hw=>Rat.le_trans h1 (h w hw)⟩
  ·exact ⟨z,List.mem_cons_of_mem _ hz,fun w hw=>(List.mem_cons.1 hw).elim (fun e=>by subst e;grind) fun hw=>h w hw⟩
theorem crossing {S h:List Pt} {f x p:Pt} (hr:Ring S f f h) (H:IsHull S h) (hx:Mem S x) (hp:¬ Mem S p) :
 ∃ (i:Nat) (hi:i<h.length) (y:Pt),btwB y h[i] (h[(i+1)%h.length]'(Nat.mod_lt _ (by omega)))=true∧dist2 y p≤dist2 x p:=by
 have E:=ring_edge hr;have h2:=ring_len hr;rcases Nat.lt_or_ge h.length 3 with h3|h3
 ·-- a segment: x lies on it
  have hl:h.length=2:=by omega
  refine ⟨0,by omega,x,?_,Rat.le_refl⟩;have e1:=E 0 (by omega);have e2:=E 1 (by omega);have q1:(0+1)%h.length=1:=by rw [hl]
  have q2:(1+1)%h.length=0:=by rw [hl]
  simp only [q1,q2] at e1 e2 ⊢;have l1:=hx.half e1.left;have l2:=hx.half e2.left;rw [det_swap] at l2;exact Mem.on e2 e1 hx (by grind)
 ·let D:Nat→Pt→Rat:=fun i q=>det (edge h i).1 (edge h i).2 q
  have DE:∀ i (hi:i<h.length) q,D i q=det h[i] (h[(i+1)%h.length]'(Nat.mod_lt _ (by omega))) q:=fun i hi q=>by
   show det (edge h i).1 (edge h i).2 q=_;rw [edge_get hi]
  have Dx:∀ i,i<h.length→0≤D i x:=fun i hi=>by rw [DE i hi];exact hx.half (E i hi).left
  let V:=(List.range h.length).filter fun i=>decide (D i p<0)
  have hV:V≠[]:=by
   intro e;refine hp (mem_locR H ?_);unfold locR;rw [if_neg (by omega),if_neg (by omega),if_neg (by omega)];refine locF_nonneg (fun i hi=>turn_nonneg ?_) _ (Nat.le_refl _);refine Classical.byContradiction fun hc => ?_
   have:i∈V:=List.mem_filter.2 ⟨List.mem_range.2 hi,decide_eq_true (Rat.not_le.1 hc)⟩;rw [e] at this;cases this
  obtain ⟨i,hi,hmin⟩:=exists_min (fun i=>D i x/(D i x-D i p)) V hV
  have hVi:∀ j,j∈V↔j<h.length∧D j p<0:=fun j=>by
   simp only [V,List.mem_filter,List.mem_range,decide_eq_true_eq]
  obtain ⟨hil,hin⟩:=(hVi i).1 hi
  have tau:∀ j∈V,D j x/(D j x-D j p)*(D j x-D j p)=D j x:=fun j hj=>by
   have h1:=(hVi j).1 hj;have:=Dx j h1.1;exact Rat.div_mul_cancel (by grind)
  obtain ⟨t,ht⟩:∃ t,t=D i x/(D i x-D i p):=⟨_,rfl⟩
  have hti:=tau i hi;simp only [← ht] at hti hmin;have hxi:=Dx i hil;have t0:0≤t:=mul_nonneg_of (show 0<D i x-D i p by grind) (by grind)
  have t1:t≤1:=Classical.byContradiction fun hc=>by
   have:=Rat.mul_pos (show 0<t-1 by grind) (show 0<D i x-D i p by grind);grind
  let y:=addP x (scaleP (subP p x) t)
  have Dy:∀ j,D j y=(1-t)*D j x+t*D j p:=fun j=>by
   show det _ _ (addP x (scaleP (subP p x) t))=(1-t)*det _ _ x+t*det _ _ p;unfold det crossP addP scaleP subP;grind
  have hy0:D i y=0:=by rw [Dy];grind
  have hyn:∀ j,j<h.length→0≤D j y:=fun j hj=>by
   rw [Dy];rcases Classical.em (D j p<0) with h4|h4
   ·have hj':=(hVi j).2 ⟨hj,h4⟩
    have h5:=hmin j hj';have h6:=tau j hj';have h7:=Dx j hj;have h8:=Rat.mul_nonneg (show 0≤D j x/(D j x-D j p)-t by grind) (show 0≤D j x-D j p by grind);generalize D j x/(D j x-D j p)=w at *;grind
   ·have h5:=Rat.mul_nonneg (show 0≤1-t by grind) (Dx j hj)
    have h6:=Rat.mul_nonneg t0 (show 0≤D j p by grind);grind
  have hy:Mem S y:=mem_locR H (by
   unfold locR;rw [if_neg (by omega),if_neg (by omega),if_neg (by omega)]
   exact locF_nonneg (fun j hj=>turn_nonneg (hyn j hj)) _ (Nat.le_refl _))
  obtain ⟨z,hz⟩:∃ z,Edge S z h[i]:=by
   rcases hr.into.2 _ (List.getElem_mem hil) with e|⟨z,_,hz⟩
   ·obtain ⟨z,_,hz⟩:=hr.into.1
    exact ⟨z,e▸hz⟩
   ·exact ⟨z,hz⟩
  refine ⟨i,hil,y,Mem.on hz (E i hil) hy (by rw [← DE i hil];exact hy0),?_⟩;have e:dist2 y p=(1-t)*(1-t)*dist2 x p:=by show dist2 (addP x (scaleP (subP p x) t)) p=_;unfold dist2 dotP addP scaleP subP;grind
  rw [e];have k1:0≤dist2 x p:=dot_self_nonneg _;have k2:=Rat.mul_nonneg (Rat.mul_nonneg t0 (show 0≤2-t by grind)) k1;grind
end Pl
end Go.Proofs.YtdkkjfnpinckjaaGreatDoor
set_option maxRecDepth 100000
namespace Go.Proofs.YtdkkjfnpinckjaaGreatDoor
namespace Pl

def atS (a b:Pt) (t:Rat):Pt:=addP a (scaleP (subP b a) t)
def nearT (p:Pt) (s:Pt×Pt):Rat:=maxQ 0 (minQ (dotP (subP p s.1) (subP s.2 s.1)/dotP (subP s.2 s.1) (subP s.2 s.1)) 1)
def nearP (p:Pt) (s:Pt×Pt):Pt:=if dotP (subP s.2 s.1) (subP s.2 s.1)=0 then s.1 else divide s (nearT p s)
theorem at_dist (a b p:Pt) (t:Rat):dist2 (atS a b t) p=dist2 a p-2*t*dotP (subP p a) (subP b a)+t*t*dotP (subP b a) (subP b a):=by
 unfold atS dist2 dotP addP scaleP subP;grind
theorem dist_comm (a b:Pt):dist2 a b=dist2 b a:=by unfold dist2 dotP subP;grind
theorem exit_at:∀ (l:List (Rat×Rat)),(∀ c∈l,0≤c.1)→(∃ c∈l,c.2<0) →
 ∃ t:Rat,0≤t∧t≤1∧(∀ c∈l,0≤(1-t)*c.1+t*c.2)∧∃ c∈l,(1-t)*c.1+t*c.2=0:=by
 intro l hl ⟨c0,hc0,hn0⟩;have hV:(l.filter fun c=>decide (c.2<0))≠[]:=List.ne_nil_of_mem (List.mem_filter.2 ⟨hc0,decide_eq_true hn0⟩);obtain ⟨i,hi,hmin⟩:=exists_min (fun c:Rat×Rat=>c.1/(c.1-c.2)) _ hV;have hVi:∀ j,j∈(l.filter fun c=>decide (c.2<0))↔j∈l∧j.2<0:=fun j=>by simp only [List.mem_filter,decide_eq_true_eq]
 obtain ⟨hil,hin⟩:=(hVi i).1 hi
 have tau:∀ j∈l,j.2<0→j.1/(j.1-j.2)*(j.1-j.2)=j.1:=fun j hj h=>by
  have:=hl j hj;exact Rat.div_mul_cancel (by grind)
 obtain ⟨t,ht⟩:∃ t,t=i.1/(i.1-i.2):=⟨_,rfl⟩
 have hti:=tau i hil hin;simp only [← ht] at hti hmin;have hxi:=hl i hil;have t0:0≤t:=mul_nonneg_of (show 0<i.1-i.2 by grind) (by grind)
 have t1:t≤1:=Classical.byContradiction fun hc=>by
  have:=Rat.mul_pos (show 0<t-1 by grind) (show 0<i.1-i.2 by grind);grind
 refine ⟨t,t0,t1,fun j hj => ?_,i,hil,by grind⟩;rcases Classical.em (j.2<0) with h4|h4
 ·have h5:=hmin j ((hVi j).2 ⟨hj,h4⟩)
  have h6:=tau j hj h4;have h7:=hl j hj;have h8:=Rat.mul_nonneg (show 0≤j.1/(j.1-j.2)-t by grind) (show 0≤j.1-j.2 by grind);generalize j.1/(j.1-j.2)=w at *;grind
 ·have h5:=Rat.mul_nonneg (show 0≤1-t by grind) (hl j hj)
  have h6:=Rat.mul_nonneg t0 (show 0≤j.2 by grind);grind
theorem seg_seg {a b c d:Pt} {s t:Rat} (hcd:c≠d) (s0:0≤s) (s1:s≤1) (t0:0≤t) (t1:t≤1)
 (hno:∀ s t:Rat,0≤s→s≤1→0≤t→t≤1→atS a b s≠atS c d t) :
 ∃ s' t':Rat,0≤s'∧s'≤1∧0≤t'∧t'≤1∧dist2 (atS a b s') (atS c d t')≤dist2 (atS a b s) (atS c d t)∧(s'=0∨s'=1∨t'=0∨t'=1):=by
 -- along a way that ends outside
 have go:∀ S T:Rat,(S<0∨1<S∨T<0∨1<T)→(atS a b S=atS c d T∨subP (atS a b S) (atS c d T)=subP (atS a b s) (atS c d t)) →
  ∃ s' t':Rat,0≤s'∧s'≤1∧0≤t'∧t'≤1∧dist2 (atS a b s') (atS c d t')≤dist2 (atS a b s) (atS c d t)∧(s'=0∨s'=1∨t'=0∨t'=1):=by
  intro S T hout hd
  obtain ⟨m,m0,m1,hall,x,hx,hx0⟩:=exit_at [(s,S),(1-s,1-S),(t,T),(1-t,1-T)]
   (by intro c hc;simp only [List.mem_cons,List.not_mem_nil,or_false] at hc;rcases hc with rfl|rfl|rfl|rfl<;>simp only<;>grind)
   (by
    rcases hout with h|h|h|h
    ·exact ⟨(s,S),by simp,h⟩
    ·exact ⟨(1-s,1-S),by simp,by simp only;grind⟩
    ·exact ⟨(t,T),by simp,h⟩
    ·exact ⟨(1-t,1-T),by simp,by simp only;grind⟩)
  have k1:=hall (s,S) (by simp);have k2:=hall (1-s,1-S) (by simp);have k3:=hall (t,T) (by simp);have k4:=hall (1-t,1-T) (by simp);simp only at k1 k2 k3 k4;refine ⟨(1-m)*s+m*S,(1-m)*t+m*T,k1,by grind,k3,by grind,?_,?_⟩
  ·have e:subP (atS a b ((1-m)*s+m*S)) (atS c d ((1-m)*t+m*T))=addP (scaleP (subP (atS a b s) (atS c d t)) (1-m)) (scaleP (subP (atS a b S) (atS c d T)) m):=by
    unfold atS addP scaleP subP;refine Prod.ext ?_ ?_<;>simp only<;>grind
   have g0:=dot_self_nonneg (subP (atS a b s) (atS c d t));show dotP _ _≤dotP _ _;rw [e];rcases hd with hd|hd
   ·rw [hd]
    generalize subP (atS a b s) (atS c d t)=w at *;have z:subP (atS c d T) (atS c d T)=(0,0):=by unfold subP;refine Prod.ext ?_ ?_<;>simp only<;>grind
    rw [z];have e2:dotP (addP (scaleP w (1-m)) (scaleP (0,0) m)) (addP (scaleP w (1-m)) (scaleP (0,0) m))=(1-m)*(1-m)*dotP w w:=by unfold dotP addP scaleP;grind
    rw [e2];have:=Rat.mul_nonneg (Rat.mul_nonneg m0 (show 0≤2-m by grind)) g0;grind
   ·rw [hd]
    generalize subP (atS a b s) (atS c d t)=w at *;have e2:addP (scaleP w (1-m)) (scaleP w m)=w:=by unfold addP scaleP;refine Prod.ext ?_ ?_<;>simp only<;>grind
    rw [e2];exact Rat.le_refl
  ·simp only [List.mem_cons,List.not_mem_nil,or_false] at hx
   rcases hx with rfl|rfl|rfl|rfl<;>simp only at hx0
   ·exact .inl hx0
   ·exact .inr (.inl (by grind))
   ·exact .inr (.inr (.inl hx0))
   ·exact .inr (.inr (.inr (by grind)))
 rcases Classical.em (crossP (subP b a) (subP d c)=0) with hC|hC
 ·-- side by side: any way along both
  have hv:=dot_self_pos (sub_ne (Ne.symm hcd));obtain ⟨k,hk⟩:∃ k,k*dotP (subP d c) (subP d c)=2*dotP (subP b a) (subP d c):=⟨2*dotP (subP b a) (subP d c)/dotP (subP d c) (subP d c),Rat.div_mul_cancel (by grind)⟩
  refine go (s+2) (t+k) (.inr (.inl (by grind))) (.inr ?_)
  have e1:dotP (subP d c) (subP d c)*(2*(subP b a).1)=dotP (subP d c) (subP d c)*(k*(subP d c).1):=by
   have:dotP (subP d c) (subP d c)*(subP b a).1=dotP (subP b a) (subP d c)*(subP d c).1+crossP (subP b a) (subP d c)*(subP d c).2:=by unfold dotP crossP;grind
   grind
  have e2:dotP (subP d c) (subP d c)*(2*(subP b a).2)=dotP (subP d c) (subP d c)*(k*(subP d c).2):=by
   have:dotP (subP d c) (subP d c)*(subP b a).2=dotP (subP b a) (subP d c)*(subP d c).2-crossP (subP b a) (subP d c)*(subP d c).1:=by unfold dotP crossP;grind
   grind
  have j1:2*(subP b a).1=k*(subP d c).1:=by have:=mul_zero_of hv (b:=2*(subP b a).1-k*(subP d c).1) (by grind);grind
  have j2:2*(subP b a).2=k*(subP d c).2:=by have:=mul_zero_of hv (b:=2*(subP b a).2-k*(subP d c).2) (by grind);grind
  unfold atS;generalize subP b a=u at *;generalize subP d c=v at *;unfold addP scaleP subP;refine Prod.ext ?_ ?_<;>simp only<;>grind
 ·-- the lines meet
  obtain ⟨S,hS⟩:∃ S,S*crossP (subP b a) (subP d c)=crossP (subP c a) (subP d c):=⟨_,Rat.div_mul_cancel hC⟩
  obtain ⟨T,hT⟩:∃ T,T*crossP (subP b a) (subP d c)=crossP (subP c a) (subP b a):=⟨_,Rat.div_mul_cancel hC⟩
  have meet:atS a b S=atS c d T:=by
   have e1:crossP (subP b a) (subP d c)*((atS a b S).1-(atS c d T).1)=0:=by
    have:crossP (subP b a) (subP d c)*((atS a b S).1-(atS c d T).1)=crossP (subP b a) (subP d c)*(a.1-c.1)+(S*crossP (subP b a) (subP d c))*(subP b a).1-(T*crossP (subP b a) (subP d c))*(subP d c).1:=by unfold atS addP scaleP;grind
    rw [this,hS,hT];unfold crossP subP;grind
   have e2:crossP (subP b a) (subP d c)*((atS a b S).2-(atS c d T).2)=0:=by
    have:crossP (subP b a) (subP d c)*((atS a b S).2-(atS c d T).2)=crossP (subP b a) (subP d c)*(a.2-c.2)+(S*crossP (subP b a) (subP d c))*(subP b a).2-(T*crossP (subP b a) (subP d c))*(subP d c).2:=by unfold atS addP scaleP;grind
    rw [this,hS,hT];unfold crossP subP;grind
   rcases Rat.mul_eq_zero.1 e1 with h|h
   ·exact absurd h hC
   rcases Rat.mul_eq_zero.1 e2 with h'|h'
   ·exact absurd h' hC
   exact Prod.ext (by grind) (by grind)
  refine go S T ?_ (.inl meet);refine Classical.byContradiction fun hc=>hno S T ?_ ?_ ?_ ?_ meet<;>grind
theorem btw_at {y a b:Pt} (hne:a≠b) (hy:btwB y a b=true):∃ s:Rat,0≤s∧s≤1∧y=atS a b s:=by
 obtain ⟨h1,h2⟩:=(btw_iff _ _ _).1 hy;have hd:=dot_self_pos (sub_ne (Ne.symm hne));obtain ⟨s,hs⟩:∃ s,s*dotP (subP b a) (subP b a)=dotP (subP y a) (subP b a):=⟨dotP (subP y a) (subP b a)/dotP (subP b a) (subP b a),Rat.div_mul_cancel (by grind)⟩
 have e0:crossP (subP b a) (subP y a)=0:=h1
 have i1:dotP (subP b a) (subP b a)*(subP y a).1=dotP (subP b a) (subP b a)*(s*(subP b a).1):=by
  have:dotP (subP b a) (subP b a)*(subP y a).1=dotP (subP y a) (subP b a)*(subP b a).1-crossP (subP b a) (subP y a)*(subP b a).2:=by unfold dotP crossP;grind
  rw [this,e0,← hs];grind
 have i2:dotP (subP b a) (subP b a)*(subP y a).2=dotP (subP b a) (subP b a)*(s*(subP b a).2):=by
  have:dotP (subP b a) (subP b a)*(subP y a).2=dotP (subP y a) (subP b a)*(subP b a).2+crossP (subP b a) (subP y a)*(subP b a).1:=by unfold dotP crossP;grind
  rw [this,e0,← hs];grind
 have j1:(subP y a).1=s*(subP b a).1:=by have:=mul_zero_of hd (b:=(subP y a).1-s*(subP b a).1) (by grind);grind
 have j2:(subP y a).2=s*(subP b a).2:=by have:=mul_zero_of hd (b:=(subP y a).2-s*(subP b a).2) (by grind);grind
 have es:dotP (subP a y) (subP b y)=dotP (subP b a) (subP b a)*(s*(s-1)):=by
  have k1:dotP (subP b a) (subP b a)*dotP (subP a y) (subP b y)=dotP (subP y a) (subP b a)*(dotP (subP y a) (subP b a)-dotP (subP b a) (subP b a))+det a b y*det a b y:=by unfold det crossP dotP subP;grind
  rw [h1,← hs] at k1;have:=mul_zero_of hd (b:=dotP (subP a y) (subP b y)-dotP (subP b a) (subP b a)*(s*(s-1))) (by grind);grind
 have hs1:0≤s*(1-s):=mul_nonneg_of hd (by grind);have s0:0≤s:=Classical.byContradiction fun hc=>by have:=Rat.mul_pos (show 0 < -s by grind) (show 0<1-s by grind);grind
 have s1:s≤1:=Classical.byContradiction fun hc=>by have:=Rat.mul_pos (show 0<s by grind) (show 0<s-1 by grind);grind
 refine ⟨s,s0,s1,?_⟩;unfold atS addP scaleP;generalize subP b a=u at *;unfold subP at j1 j2;refine Prod.ext ?_ ?_<;>simp only at *<;>grind
theorem divide_at (s:Pt×Pt) (r:Rat):divide s r=atS s.1 s.2 r:=rfl
theorem nearT_bd (p:Pt) (s:Pt×Pt):0≤nearT p s∧nearT p s≤1:=by
 unfold nearT maxQ minQ;generalize dotP (subP p s.1) (subP s.2 s.1)/dotP (subP s.2 s.1) (subP s.2 s.1)=x;simp only [cmp_le_iff,cmp_ge_iff]
 split<;>split at *<;>constructor<;>grind
theorem nearP_mem {S:List Pt} {p:Pt} {s:Pt×Pt} (ha:Mem S s.1) (hb:Mem S s.2):Mem S (nearP p s):=by
 unfold nearP
 split
 ·exact ha
 ·exact seg_mem ha hb (nearT_bd p s).1 (nearT_bd p s).2
theorem nearP_le {p:Pt} {s:Pt×Pt} (hne:s.1≠s.2) {t:Rat} (t0:0≤t) (t1:t≤1):dist2 (nearP p s) p≤dist2 (atS s.1 s.2 t) p:=by
 have hd:=dot_self_pos (sub_ne (Ne.symm hne));unfold nearP;rw [if_neg (by grind),divide_at,at_dist,at_dist];unfold nearT;obtain ⟨x,hx⟩:∃ x,x=dotP (subP p s.1) (subP s.2 s.1)/dotP (subP s.2 s.1) (subP s.2 s.1):=⟨_,rfl⟩
 have hx':x*dotP (subP s.2 s.1) (subP s.2 s.1)=dotP (subP p s.1) (subP s.2 s.1):=by rw [hx];exact Rat.div_mul_cancel (by grind)
 rw [← hx,← hx'];generalize dotP (subP s.2 s.1) (subP s.2 s.1)=n at *;unfold maxQ minQ;simp only [cmp_le_iff,cmp_ge_iff];have k0:=Rat.mul_nonneg (Rat.le_of_lt hd) (sq_nonneg (t-x));have k1:=Rat.mul_nonneg (Rat.le_of_lt hd) (sq_nonneg (1-t));have k2:=Rat.mul_nonneg (Rat.le_of_lt hd) (sq_nonneg t);rcases Classical.em (x≤1) with h1|h1
 ·rw [if_pos h1]
  rcases Classical.em (x≤0) with h2|h2
  ·rw [if_pos h2]
   have k3:=Rat.mul_nonneg (Rat.mul_nonneg (Rat.le_of_lt hd) t0) (show 0≤-x by grind);grind
  ·rw [if_neg h2];grind
 ·rw [if_neg h1,if_neg (by grind)]
  have k3:=Rat.mul_nonneg (Rat.mul_nonneg (Rat.le_of_lt hd) (show 0≤1-t by grind)) (show 0≤x-1 by grind);grind
def cands (a b:List Pt):List (Pt×Pt):=(a.flatMap fun x=>b.map (fun y=>(x,y))++(edges b).map fun s=>(x,nearP x s))++b.flatMap fun y=>(edges a).map fun s=>(nearP y s,y)
def lookS (o c:Pt×Pt):Pt×Pt:=if dist2 c.1 c.2<dist2 o.1 o.2 then c else o
theorem look_spec:∀ (l:List (Pt×Pt)) (o:Pt×Pt),(l.foldl lookS o=o∨l.foldl lookS o∈l)∧dist2 (l.foldl lookS o).1 (l.foldl lookS o).2≤dist2 o.1 o.2∧∀ c∈l,dist2 (l.foldl lookS o).1 (l.foldl lookS o).2≤dist2 c.1 c.2
 | [],o=>⟨.inl rfl,Rat.le_refl,fun _ h=>by cases h⟩
 | x :: l,o=>by
  obtain ⟨h1,h2,h3⟩:=look_spec l (lookS o x);have e:(x :: l).foldl lookS o=l.foldl lookS (lookS o x):=rfl;rw [e]
  have k1:(lookS o x=o∨lookS o x=x)∧dist2 (lookS o x).1 (lookS o x).2≤dist2 o.1 o.2∧dist2 (lookS o x).1 (lookS o x).2≤dist2 x.1 x.2:=by
   unfold lookS;split
   ·rename_i h;exact ⟨.inr rfl,Rat.le_of_lt h,Rat.le_refl⟩
   ·rename_i h;exact ⟨.inl rfl,Rat.le_refl,Rat.not_lt.1 h⟩
  refine ⟨?_,Rat.le_trans h2 k1.2.1,fun c hc => ?_⟩
  ·rcases h1 with h1|h1
   ·rw [h1]
    rcases k1.1 with k|k
    ·exact .inl k
    ·rw [k];exact .inr (by simp)
   ·exact .inr (List.mem_cons_of_mem _ h1)
  ·rcases List.mem_cons.1 hc with rfl|hc
   ·exact Rat.le_trans h2 k1.2.2
   ·exact h3 c hc
def nearest2 (a b:List Pt):Pt×Pt:=match cands a b with
 | []=>((0,0),(0,0))
 | c :: l=>l.foldl lookS c
theorem nearest2_spec {a b:List Pt} (h:cands a b≠[]):nearest2 a b∈cands a b∧∀ c∈cands a b,dist2 (nearest2 a b).1 (nearest2 a b).2≤dist2 c.1 c.2:=by
 unfold nearest2
 split
 ·rename_i e;exact absurd e h
 ·rename_i c l e
  rw [e];obtain ⟨h1,h2,h3⟩:=look_spec l c;refine ⟨?_,fun d hd => ?_⟩
  ·rcases h1 with h1|h1
   ·rw [h1];simp
   ·exact List.mem_cons_of_mem _ h1
  ·rcases List.mem_cons.1 hd with rfl|hd
   ·exact h2
   ·exact h3 d hd
theorem edges_in {l:List Pt} {s:Pt×Pt} (hs:s∈edges l):s.1∈l∧s.2∈l:=by
 unfold edges at hs
 split at hs
 ·simp at hs
 ·split at hs
  ·rename_i h1 h2
   simp only [List.mem_singleton] at hs;subst hs;constructor
   ·show l.getD 0 (0,0)∈l
    rw [getD_of (List.getElem?_eq_getElem (by omega:0<l.length))];exact List.getElem_mem _
   ·show l.getD 1 (0,0)∈l
    rw [getD_of (List.getElem?_eq_getElem (by omega:1<l.length))];exact List.getElem_mem _
  ·obtain ⟨i,hi,rfl⟩:=List.mem_map.1 hs
   have hi':=List.mem_range.1 hi;rw [edge_get hi'];exact ⟨List.getElem_mem _,List.getElem_mem _⟩
theorem cands_mem {a b:List Pt} {c:Pt×Pt} (h:c∈cands a b):Mem a c.1∧Mem b c.2:=by
 unfold cands at h;simp only [List.mem_append,List.mem_flatMap,List.mem_map] at h;rcases h with ⟨x,hx,⟨y,hy,rfl⟩|⟨s,hs,rfl⟩⟩|⟨y,hy,s,hs,rfl⟩
 ·exact ⟨.of_mem hx,.of_mem hy⟩
 ·exact ⟨.of_mem hx,nearP_mem (.of_mem (edges_in hs).1) (.of_mem (edges_in hs).2)⟩
 ·exact ⟨nearP_mem (.of_mem (edges_in hs).1) (.of_mem (edges_in hs).2),.of_mem hy⟩
def OnB (h:List Pt) (y:Pt):Prop:=y∈h∨∃ s∈edges h,s.1≠s.2∧∃ t:Rat,0≤t∧t≤1∧y=atS s.1 s.2 t
theorem atS_flip (a b:Pt) (t:Rat):atS b a t=atS a b (1-t):=by unfold atS addP scaleP subP;refine Prod.ext ?_ ?_<;>simp only<;>grind
theorem border {h:List Pt} {x p:Pt} (hw:wrap h=h) (hx:Mem h x) (hp:¬ Mem h p):∃ y,OnB h y∧Mem h y∧dist2 y p≤dist2 x p:=by
 have H:=wrap_isHull h;rw [hw] at H;rcases H with ⟨rfl,_⟩|⟨q,e,hq,hall⟩|⟨f,hlf,hr⟩
 ·exact absurd hx Mem.nil
 ·have:=hx.all_eq hall
  subst this;exact ⟨x,.inl hq,hx,Rat.le_refl⟩
 ·obtain ⟨i,hi,y,hb,hd⟩:=crossing hr (.inr (.inr ⟨f,hlf,hr⟩)) hx hp
  have E:=ring_edge hr i hi;obtain ⟨t,t0,t1,e⟩:=btw_at E.ne hb;refine ⟨y,.inr ?_,by rw [e];exact seg_mem (.of_mem E.ma) (.of_mem E.mb) t0 t1,hd⟩;have h2:=ring_len hr;rcases Nat.lt_or_ge h.length 3 with h3|h3
  ·have hl:h.length=2:=by omega
   have ee:edges h=[(h[0],h[1])]:=by unfold edges;rw [if_neg (by omega),if_pos hl,getD_of (List.getElem?_eq_getElem (by omega:0<h.length)),getD_of (List.getElem?_eq_getElem (by omega:1<h.length))]
   rw [ee];rcases (by omega:i=0∨i=1) with rfl|rfl
   ·have q1:(0+1)%h.length=1:=by rw [hl]
    simp only [q1] at e E;exact ⟨(h[0],h[1]),by simp,E.ne,t,t0,t1,e⟩
   ·have q1:(1+1)%h.length=0:=by rw [hl]
    simp only [q1] at e E;exact ⟨(h[0],h[1]),by simp,E.ne.symm,1-t,by grind,by grind,by rw [e,atS_flip]⟩
  ·refine ⟨edge h i,?_,by rw [edge_get hi];exact E.ne,t,t0,t1,by rw [edge_get hi];exact e⟩
   unfold edges;rw [if_neg (by omega),if_neg (by omega)];exact List.mem_map.2 ⟨i,List.mem_range.2 hi,rfl⟩
theorem atS_zero (a b:Pt):atS a b 0=a:=by unfold atS addP scaleP subP;refine Prod.ext ?_ ?_<;>simp only<;>grind
theorem atS_one (a b:Pt):atS a b 1=b:=by unfold atS addP scaleP subP;refine Prod.ext ?_ ?_<;>simp only<;>grind
theorem cands_best {a b:List Pt} {x y:Pt} (ha:wrap a=a) (hb:wrap b=b) (hno:∀ p,¬ (Mem a p∧Mem b p)) (hx:Mem a x) (hy:Mem b y) :
 ∃ c∈cands a b,dist2 c.1 c.2≤dist2 x y:=by
 obtain ⟨x',bx,mx,dx⟩:=border ha hx (fun h=>hno y ⟨h,hy⟩);obtain ⟨y',bz,mz,dz⟩:=border hb hy (fun h=>hno x' ⟨mx,h⟩);have dd:dist2 x' y'≤dist2 x y:=by rw [dist_comm y' x',dist_comm y x'] at dz;exact Rat.le_trans dz dx
 -- the kinds of pairs
 have c1:∀ u∈a,∀ v∈b,(u,v)∈cands a b:=fun u hu v hv=>List.mem_append_left _ (List.mem_flatMap.2 ⟨u,hu,List.mem_append_left _ (List.mem_map.2 ⟨v,hv,rfl⟩)⟩)
 have c2:∀ u∈a,∀ s∈edges b,(u,nearP u s)∈cands a b:=fun u hu s hs=>List.mem_append_left _ (List.mem_flatMap.2 ⟨u,hu,List.mem_append_right _ (List.mem_map.2 ⟨s,hs,rfl⟩)⟩)
 have c3:∀ v∈b,∀ s∈edges a,(nearP v s,v)∈cands a b:=fun v hv s hs=>List.mem_append_right _ (List.mem_flatMap.2 ⟨v,hv,List.mem_map.2 ⟨s,hs,rfl⟩⟩)
 have k2:∀ u∈a,∀ s∈edges b,s.1≠s.2→∀ t:Rat,0≤t→t≤1→dist2 u (atS s.1 s.2 t)≤dist2 x y→∃ c∈cands a b,dist2 c.1 c.2≤dist2 x y:=fun u hu s hs hn t t0 t1 hd =>
  ⟨_,c2 u hu s hs,by
   have:=nearP_le (p:=u) hn t0 t1;rw [dist_comm _ u,dist_comm _ u] at this
   exact Rat.le_trans this hd⟩
 have k3:∀ v∈b,∀ s∈edges a,s.1≠s.2→∀ t:Rat,0≤t→t≤1→dist2 (atS s.1 s.2 t) v≤dist2 x y→∃ c∈cands a b,dist2 c.1 c.2≤dist2 x y:=fun v hv s hs hn t t0 t1 hd =>
  ⟨_,c3 v hv s hs,Rat.le_trans (nearP_le (p:=v) hn t0 t1) hd⟩
 rcases bx with bx|⟨s,hs,hsn,t,t0,t1,rfl⟩<;>rcases bz with bz|⟨r,hr,hrn,z,z0,z1,rfl⟩
 ·exact ⟨_,c1 x' bx y' bz,dd⟩
 ·exact k2 x' bx r hr hrn z z0 z1 dd
 ·exact k3 y' bz s hs hsn t t0 t1 dd
 ·have es:=edges_in hs
  have er:=edges_in hr
  obtain ⟨s',z',g0,g1,g2,g3,g4,g5⟩:=seg_seg hrn t0 t1 z0 z1 (a:=s.1) (b:=s.2) fun p q p0 p1 q0 q1 e =>
   hno _ ⟨seg_mem (.of_mem es.1) (.of_mem es.2) p0 p1,by show Mem b (atS s.1 s.2 p);rw [e];exact seg_mem (.of_mem er.1) (.of_mem er.2) q0 q1⟩
  have g6:=Rat.le_trans g4 dd;rcases g5 with rfl|rfl|rfl|rfl
  ·rw [atS_zero] at g6;exact k2 _ es.1 r hr hrn _ g2 g3 g6
  ·rw [atS_one] at g6;exact k2 _ es.2 r hr hrn _ g2 g3 g6
  ·rw [atS_zero] at g6;exact k3 _ er.1 s hs hsn _ g0 g1 g6
  ·rw [atS_one] at g6;exact k3 _ er.2 s hs hsn _ g0 g1 g6
theorem far_of_min {S:List Pt} {q p:Pt} (hq:Mem S q) (hmin:∀ x,Mem S x→dist2 q p≤dist2 x p) {s:Pt} (hs:Mem S s):dotP s (subP p q)≤dotP q (subP p q):=by
 refine Classical.byContradiction fun hc => ?_
 have hc:0<dotP (subP s q) (subP p q):=by
  have:dotP (subP s q) (subP p q)=dotP s (subP p q)-dotP q (subP p q):=by unfold dotP subP;grind
  grind
 have hn:0<dotP (subP s q) (subP s q):=dot_self_pos fun e=>by rw [e] at hc;unfold dotP at hc;grind
 have step:∀ t:Rat,0≤t→t≤1→0≤t*(t*dotP (subP s q) (subP s q)-2*dotP (subP s q) (subP p q)):=fun t h0 h1=>by
  have h2:=hmin _ (seg_mem hq hs h0 h1);have e2:dist2 (addP q (scaleP (subP s q) t)) p=dist2 q p+t*(t*dotP (subP s q) (subP s q)-2*dotP (subP s q) (subP p q)):=by unfold dist2 dotP addP scaleP subP;grind
  rw [e2] at h2;grind
 generalize dotP (subP s q) (subP s q)=n at *;generalize dotP (subP s q) (subP p q)=m at *;rcases Classical.em (n≤m) with h1|h1
 ·have:=step 1 (by grind) Rat.le_refl
  grind
 ·have e3:m/n*n=m:=Rat.div_mul_cancel (by grind)
  generalize m/n=t at e3;have t0:0<t:=mul_pos_of hn (by grind);have t1:t≤1:=Classical.byContradiction fun hc=>by have:=Rat.mul_pos hn (show 0<t-1 by grind);grind
  have h2:=step t (Rat.le_of_lt t0) t1;have h3:=Rat.mul_pos t0 hc;rw [show t*n-2*m=-m by grind] at h2;clear step;grind
def midL (p q:Pt):Rat:=(dotP (subP q p) p+dotP (subP q p) q)*(1/2)
theorem parted {a b:List Pt} (ha:wrap a=a) (hb:wrap b=b) (hna:a≠[]) (hnb:b≠[]) (hno:∀ p,¬ (Mem a p∧Mem b p)) :
 (∀ s∈a,dotP s (subP (nearest2 a b).2 (nearest2 a b).1)<midL (nearest2 a b).1 (nearest2 a b).2)∧∀ s∈b,midL (nearest2 a b).1 (nearest2 a b).2<dotP s (subP (nearest2 a b).2 (nearest2 a b).1):=by
 obtain ⟨u,hu⟩:=List.exists_mem_of_ne_nil _ hna;obtain ⟨v,hv⟩:=List.exists_mem_of_ne_nil _ hnb;obtain ⟨c,hc,_⟩:=cands_best ha hb hno (.of_mem hu) (.of_mem hv);obtain ⟨h1,h2⟩:=nearest2_spec (List.ne_nil_of_mem hc);obtain ⟨hp,hq⟩:=cands_mem h1
 have hmin:∀ x y,Mem a x→Mem b y→dist2 (nearest2 a b).1 (nearest2 a b).2≤dist2 x y:=fun x y hx hy=>by
  obtain ⟨c,hc,hd⟩:=cands_best ha hb hno hx hy;exact Rat.le_trans (h2 c hc) hd
 generalize (nearest2 a b).1=p at *;generalize (nearest2 a b).2=q at *;have hne:q≠p:=fun e=>hno p ⟨hp,e▸hq⟩
 have hd:=dot_self_pos (sub_ne hne);have e1:dotP (subP q p) (subP q p)=dotP q (subP q p)-dotP p (subP q p):=by unfold dotP subP;grind
 have e2:midL p q=(dotP p (subP q p)+dotP q (subP q p))*(1/2):=by unfold midL dotP subP;grind
 refine ⟨fun s hs => ?_,fun s hs => ?_⟩
 ·have:=far_of_min hp (fun x hx=>hmin x q hx hq) (.of_mem hs)
  rw [e2];grind
 ·have h3:=far_of_min hq (fun x hx=>by rw [dist_comm q p,dist_comm x p];exact hmin p x hp hx) (.of_mem hs)
  have e3:∀ z:Pt,dotP z (subP p q)=- dotP z (subP q p):=fun z=>by unfold dotP subP;grind
  rw [e3,e3] at h3;rw [e2];grind
end Pl
end Go.Proofs.YtdkkjfnpinckjaaGreatDoor
