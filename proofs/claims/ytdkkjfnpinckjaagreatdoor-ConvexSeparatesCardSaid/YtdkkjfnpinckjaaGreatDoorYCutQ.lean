/-
  Convex sets in the plain: what lies in every half plane that holds some points; the hull's list shows just this set.
  Locate in the plain: it says whether a point lies in every half plane that holds the points.
  Cuts of convex sets in the plain: the part of a set to the left of a line is shown by its points there and by the points at which its edges cross the line.
  Cuts and intersections in the plain: what the two ways to cut give; common points of two sets.
-/
import Derived.Test.YtdkkjfnpinckjaaGreatDoorYSupP
set_option linter.unusedSimpArgs false
set_option linter.unusedVariables false
set_option maxRecDepth 100000
namespace Go.Proofs.YtdkkjfnpinckjaaGreatDoor
namespace Pl

def Mem (S:List Pt) (p:Pt):Prop:=∀ d:Pt,∃ s∈S,dotP p d≤dotP s d
theorem Mem.of_mem {S:List Pt} {p:Pt} (h:p∈S):Mem S p:=fun _=>⟨p,h,Rat.le_refl⟩
theorem Mem.trans {S T:List Pt} {p:Pt} (h:Mem T p) (hT:∀ t∈T,Mem S t):Mem S p:=fun d=>by
 obtain ⟨t,ht,h1⟩:=h d;obtain ⟨s,hs,h2⟩:=hT t ht d;exact ⟨s,hs,Rat.le_trans h1 h2⟩
theorem Mem.mono {S T:List Pt} {p:Pt} (h:Mem T p) (hT:∀ t∈T,t∈S):Mem S p:=h.trans fun t ht=>.of_mem (hT t ht)
theorem Mem.nil {p:Pt} : ¬ Mem [] p:=fun h=>by obtain ⟨s,hs,_⟩:=h (0,0);cases hs
theorem Mem.ne {S:List Pt} {p:Pt} (h:Mem S p):S≠[]:=fun e=>Mem.nil (e▸h)
theorem det_dot (a b s p:Pt):det a b p-det a b s=dotP s (b.2-a.2,a.1-b.1)-dotP p (b.2-a.2,a.1-b.1):=by
 unfold det crossP subP dotP;grind
theorem Mem.half {S:List Pt} {p a b:Pt} (h:Mem S p) (hS:∀ s∈S,0≤det a b s):0≤det a b p:=by
 obtain ⟨s,hs,h1⟩:=h (b.2-a.2,a.1-b.1);have h2:=hS s hs;have h3:=det_dot a b s p;grind
theorem Mem.lin {S:List Pt} {p a d:Pt} (h:Mem S p) (hS:∀ s∈S,dotP d a≤dotP d s):dotP d a≤dotP d p:=by
 obtain ⟨s,hs,h1⟩:=h (-d.1,-d.2);have h2:=hS s hs;unfold dotP at *;grind
theorem Mem.single {a p:Pt} (h:Mem [a] p):p=a:=by
 have e:∀ d:Pt,dotP d a≤dotP d p:=fun d=>h.lin fun s hs=>by rw [List.mem_singleton] at hs;subst hs;exact Rat.le_refl
 have e1:=e (1,0);have e2:=e (-1,0);have e3:=e (0,1);have e4:=e (0,-1);unfold dotP at *;refine Prod.ext ?_ ?_<;>grind
theorem Mem.all_eq {S:List Pt} {a p:Pt} (h:Mem S p) (hS:∀ s∈S,s=a):p=a :=
 Mem.single (h.mono fun t ht=>by rw [hS t ht];simp)
theorem tilt {a d:Pt} : ∀ (T:List Pt),(∀ t∈T,t≠a→In d (subP t a))→∃ e:Rat,0<e∧∀ t∈T,0≤crossP d (subP t a)-e*dotP d (subP t a)
 | [],_=>⟨1,by grind,fun _ h=>by cases h⟩
 | t :: T,h=>by
  obtain ⟨e,he,hall⟩:=tilt T fun s hs=>h s (List.mem_cons_of_mem _ hs)
  have down:∀ e',0<e'→e'≤e→∀ s∈T,0≤crossP d (subP s a)-e'*dotP d (subP s a):=by
   intro e' h1 h2 s hs;have h3:=hall s hs;rcases Classical.em (s=a) with h4|h4
   ·subst h4
    have z1:subP s s=(0,0):=by unfold subP;refine Prod.ext ?_ ?_<;>grind
    rw [z1];unfold crossP dotP;grind
   ·have h5:=(h s (List.mem_cons_of_mem _ hs) h4).cr
    by_cases h6:dotP d (subP s a)≤0
    ·have:=Rat.mul_nonneg (Rat.le_of_lt h1) (show 0≤- dotP d (subP s a) by grind)
     grind
    ·have:=Rat.mul_nonneg (show 0≤e-e' by grind) (show 0≤dotP d (subP s a) by grind)
     grind
  rcases Classical.em (t=a) with h4|h4
  ·refine ⟨e,he,fun s hs => ?_⟩
   rcases List.mem_cons.1 hs with rfl|hs
   ·subst h4
    have z1:subP s s=(0,0):=by unfold subP;refine Prod.ext ?_ ?_<;>grind
    rw [z1];unfold crossP dotP;grind
   ·exact hall s hs
  ·have hin:=h t (by simp) h4
   by_cases h6:dotP d (subP t a)≤0
   ·refine ⟨e,he,fun s hs => ?_⟩
    rcases List.mem_cons.1 hs with rfl|hs
    ·have:=Rat.mul_nonneg (Rat.le_of_lt he) (show 0≤- dotP d (subP s a) by grind)
     have:=hin.cr;grind
    ·exact hall s hs
   ·have hc:0<crossP d (subP t a):=by
     rcases hin with h|⟨_,h⟩
     ·exact h
     ·grind
    have hg:0<dotP d (subP t a):=by grind
    generalize hC:crossP d (subP t a)=C at *;generalize hG:dotP d (subP t a)=G at *;have hq:0<C/G:=by rw [Rat.div_def];exact Rat.mul_pos hc (Rat.inv_pos.2 hg)
    have hqG:C/G*G=C:=Rat.div_mul_cancel (by grind)
    by_cases hle:e≤C/G
    ·refine ⟨e,he,fun s hs => ?_⟩
     rcases List.mem_cons.1 hs with rfl|hs
     ·rw [hC,hG]
      have:=Rat.mul_nonneg (show 0≤C/G-e by grind) (Rat.le_of_lt hg);grind
     ·exact hall s hs
    ·refine ⟨C/G,hq,fun s hs => ?_⟩
     rcases List.mem_cons.1 hs with rfl|hs
     ·rw [hC,hG,hqG];grind
     ·exact down _ hq (by grind) s hs
theorem Mem.cone {T:List Pt} {a d p:Pt} (h:Mem T p) (hT:∀ t∈T,t≠a→In d (subP t a)):p=a∨In d (subP p a):=by
 rcases Classical.em (d=(0,0)) with hd|hd
 ·refine .inl (h.all_eq fun s hs => ?_)
  rcases Classical.em (s=a) with h1|h1
  ·exact h1
  ·exact absurd hd (hT s hs h1).ne0
 ·have hc0:∀ q,crossP d (subP q a)=dotP (-d.2,d.1) q-dotP (-d.2,d.1) a:=fun q=>by unfold crossP subP dotP;grind
  have h1:0≤crossP d (subP p a):=by
   have:=h.lin (a:=a) (d:=(-d.2,d.1)) fun s hs=>by
    rcases Classical.em (s=a) with h1|h1
    ·rw [h1];exact Rat.le_refl
    ·have:=(hT s hs h1).cr;rw [hc0] at this;grind
   rw [hc0];grind
  rcases Classical.em (crossP d (subP p a)=0) with h2|h2
  ·obtain ⟨e,he,hall⟩:=tilt T hT
   have hl:∀ q,crossP d (subP q a)-e*dotP d (subP q a)=dotP (-d.2-e*d.1,d.1-e*d.2) q-dotP (-d.2-e*d.1,d.1-e*d.2) a:=fun q=>by unfold crossP subP dotP;grind
   have h3:=h.lin (a:=a) (d:=(-d.2-e*d.1,d.1-e*d.2)) fun s hs=>by
    have:=hall s hs;rw [hl] at this;grind
   have h4:=hl p;rw [h2] at h4;have h5:0≤e*(- dotP d (subP p a)):=by grind
   have h6:=mul_nonneg_of he h5;rcases Classical.em (dotP d (subP p a)=0) with h7|h7
   ·left
    have hp:=dot_self_pos hd;generalize hu:subP p a=u at *;have i1:dotP d d*u.1=dotP d u*d.1-crossP d u*d.2:=by unfold dotP crossP;grind
    have i2:dotP d d*u.2=dotP d u*d.2+crossP d u*d.1:=by unfold dotP crossP;grind
    rw [h2,h7] at i1 i2;refine sub_zero ?_;rw [hu];exact Prod.ext (mul_zero_of hp (by grind)) (mul_zero_of hp (by grind))
   ·exact .inr (.inr ⟨h2,by grind⟩)
  ·exact .inr (.inl (by grind))
theorem wrap_mem {S:List Pt} {p:Pt} : Mem (wrap S) p↔Mem S p:=by
 constructor
 ·exact fun h=>h.mono fun t ht=>(wrap_isHull S).sub t ht
 ·intro h d
  obtain ⟨v,hv,hall⟩:=wrap_far h.ne d;obtain ⟨s,hs,h1⟩:=h d;exact ⟨v,hv,Rat.le_trans h1 (hall s hs)⟩
theorem Mem.extreme {S T:List Pt} (hST:∀ p,Mem S p↔Mem T p) {d a:Pt} (ha:a∈T) (hT:∀ t∈T,t≠a→In d (subP t a)):a∈S∧∀ s∈S,s≠a→In d (subP s a):=by
 have h1:∀ s∈S,s≠a→In d (subP s a):=fun s hs hne=>(((hST s).1 (.of_mem hs)).cone hT).resolve_left hne
 refine ⟨?_,h1⟩;have hMa:Mem S a:=(hST a).2 (.of_mem ha);have hne:=hMa.ne;rcases Classical.em (d=(0,0)) with hd|hd
 ·obtain ⟨s,hs⟩:=List.exists_mem_of_ne_nil _ hne
  rcases Classical.em (s=a) with h2|h2
  ·exact h2▸hs
  ·exact absurd hd (h1 s hs h2).ne0
 ·obtain ⟨v,hv,hall⟩:=far_point hd S hne
  rcases hMa.cone (fun t ht htv=>(hall t ht).resolve_left htv) with h2|h2
  ·exact h2▸hv
  ·have h3:=h1 v hv fun e=>by
    subst e;have z1:subP v v=(0,0):=by unfold subP;refine Prod.ext ?_ ?_<;>grind
    rw [z1] at h2;unfold In crossP dotP at h2;grind
   exact absurd h3 h2.anti
theorem Mem.on {T:List Pt} {z a b s:Pt} (hz:Edge T z a) (h:Edge T a b) (hs:Mem T s) (h0:det a b s=0):btwB s a b=true:=by
 have ha:=hs.cone (a:=a) (d:=subP a z) fun t ht hne=>hz.cone t ht hne
 have hb:=hs.cone (a:=b) (d:=subP b a) fun t ht hne=>h.cone t ht hne
 rw [btw_iff];refine ⟨h0,?_⟩
 -- s lies on the line; not beyond b, not ahead of a
 have hd:=dot_self_pos (sub_ne h.ne.symm);have k1:dotP (subP b a) (subP b a)*dotP (subP a s) (subP b s)=dotP (subP b a) (subP s a)*(dotP (subP b a) (subP s a)-dotP (subP b a) (subP b a))+det a b s*det a b s:=by unfold det crossP dotP subP;grind
 rw [h0] at k1
 have g1:dotP (subP b a) (subP s a)≤dotP (subP b a) (subP b a):=by
  rcases hb with e|h1
  ·subst e;exact Rat.le_refl
  ·have h2:crossP (subP b a) (subP s b)=0:=by rw [← h0];unfold det crossP subP;grind
   have h3:=h1.dt h2;have h4:dotP (subP b a) (subP s b)=dotP (subP b a) (subP s a)-dotP (subP b a) (subP b a):=by unfold dotP subP;grind
   grind
 have g2:0≤dotP (subP b a) (subP s a):=by
  rcases ha with e|h1
  ·subst e;unfold dotP subP;grind
  ·have h2:=hz.cone b h.mb h.ne.symm
   refine Classical.byContradiction fun hneg => ?_
   have hneg:dotP (subP b a) (subP s a)<0:=by grind
   have e1:dotP (subP b a) (subP b a)*(subP s a).1=dotP (subP b a) (subP s a)*(subP b a).1-det a b s*(subP b a).2:=by unfold det crossP dotP subP;grind
   have e2:dotP (subP b a) (subP b a)*(subP s a).2=dotP (subP b a) (subP s a)*(subP b a).2+det a b s*(subP b a).1:=by unfold det crossP dotP subP;grind
   rw [h0] at e1 e2;generalize hu:subP b a=u at *;generalize hv:subP s a=v at *;generalize hx:dotP u v=x at *;generalize hy:dotP u u=y at *;refine in_span (d:=subP a z) (A:=v) (B:=v) (Q:=(-u.1,-u.2)) (c := -x) (α:=y) (β:=0) h1 h1 (by simpa using h2) (by grind) (by grind) Rat.le_refl (by simp only;grind) (by simp only;grind)
 have k2:=Rat.mul_nonneg g2 (show 0≤dotP (subP b a) (subP b a)-dotP (subP b a) (subP s a) by grind);have k3:dotP (subP b a) (subP b a) * - dotP (subP a s) (subP b s)=dotP (subP b a) (subP s a)*(dotP (subP b a) (subP b a)-dotP (subP b a) (subP s a)):=by grind
 have k4:=mul_nonneg_of hd (k3▸k2);grind
theorem Mem.edge {S T:List Pt} (hST:∀ p,Mem S p↔Mem T p) {z a b:Pt} (hz:Edge T z a) (h:Edge T a b):Edge S a b:=by
 have ha:=Mem.extreme hST h.ma (d:=subP a z) fun t ht hne=>hz.cone t ht hne
 have hb:=Mem.extreme hST h.mb (d:=subP b a) fun t ht hne=>h.cone t ht hne
 exact ⟨ha.1,hb.1,h.ne,fun s hs=>((hST s).1 (.of_mem hs)).half h.left,fun s hs h0=>Mem.on hz h ((hST s).1 (.of_mem hs)) h0⟩
theorem Mem.ring {S T:List Pt} (hST:∀ p,Mem S p↔Mem T p) {f a z:Pt} {l:List Pt} (h:Ring T f a l) (hz:Edge T z a):Ring S f a l:=by
 induction h generalizing z with
 | last e=>exact .last (Mem.edge hST hz e)
 | step e hn hr ih=>exact .step (Mem.edge hST hz e) hn (ih e)
theorem wrap_eq {S T:List Pt} (hST:∀ p,Mem S p↔Mem T p):wrap S=wrap T:=by
 refine IsHull.unique (wrap_isHull S) ?_;rcases wrap_isHull T with ⟨h1,h2⟩|⟨p,h1,h2,h3⟩|⟨p,h1,h2⟩
 ·rw [h2]
  refine .inl ⟨?_,rfl⟩
  cases S with
  | nil=>rfl
  | cons s S=>have:=(hST s).1 (.of_mem (by simp));rw [h1] at this;exact absurd this Mem.nil
 ·rw [h1]
  have h4:∀ s∈S,s=p:=fun s hs=>((hST s).1 (.of_mem hs)).all_eq h3
  refine .inr (.inl ⟨p,rfl,?_,h4⟩);obtain ⟨s,hs⟩:=List.exists_mem_of_ne_nil _ ((hST p).2 (.of_mem h2)).ne;exact h4 s hs▸hs
 ·refine .inr (.inr ⟨p,?_,?_⟩)
  ·have h3:=Mem.extreme hST h1.1 (d:=(0,-1)) (least_cone h1.2)
   refine ⟨h3.1,fun s hs => ?_⟩;rcases Classical.em (s=p) with e|e
   ·rw [e];exact less_irrefl p
   ·have:=(less_in p s).2 (h3.2 s hs e)
    exact less_asymm this
  ·obtain ⟨z,_,hz⟩:=h2.into.1
   exact Mem.ring hST h2 hz
theorem wrap_wrap (S:List Pt):wrap (wrap S)=wrap S:=wrap_eq fun _=>wrap_mem
end Pl
end Go.Proofs.YtdkkjfnpinckjaaGreatDoor
set_option maxRecDepth 100000
namespace Go.Proofs.YtdkkjfnpinckjaaGreatDoor
namespace Pl

theorem Ring.rest_ne {S:List Pt} {f a:Pt} {l:List Pt} (h:Ring S f a l):∀ v∈l.tail,v≠f:=by
 induction h with
 | last e=>intro v hv;cases hv
 | step e hn hr ih =>
  intro v hv;obtain ⟨m,rfl⟩:=hr.head;rcases List.mem_cons.1 hv with rfl|hv
  ·exact hn
  ·exact ih v hv
theorem ring_zero {S:List Pt} {f:Pt} {h:List Pt} (hr:Ring S f f h):∃ m,h=f :: m:=hr.head
theorem ring_two {S:List Pt} {f:Pt} {h:List Pt} (hr:Ring S f f h) (hn:0<h.length):∀ (i:Nat) (hi:i<h.length),h[(i+2)%h.length]'(Nat.mod_lt _ hn)=h[i]→h.length≤2
 | 0,hi,he=>by
  refine Classical.byContradiction fun hc => ?_
  have h2:(0+2)%h.length=2:=Nat.mod_eq_of_lt (by omega);simp only [h2] at he;obtain ⟨m,hm⟩:=ring_zero hr;subst hm;simp only [List.getElem_cons_zero,List.getElem_cons_succ] at he;exact hr.rest_ne _ (by simp) he
 | i+1,hi,he=>by
  have e1:=ring_edge hr ((i+2)%h.length) (Nat.mod_lt _ hn);have e2:=ring_edge hr i (by omega);have q1:((i+2)%h.length+1)%h.length=(i+1+2)%h.length:=by rw [Nat.mod_add_mod]
  have q2:(i+1)%h.length=i+1:=Nat.mod_eq_of_lt hi;simp only [q1] at e1;simp only [q2] at e2;rw [he] at e1;exact ring_two hr hn i (by omega) (e1.head_unique e2)
theorem locF_all {l:List Pt} {p:Pt} : ∀ k,0≤locF l p k→∀ i,i<k→0≤turn (edge l i).1 (edge l i).2 p
 | 0,_,i,hi=>by omega
 | k+1,h,i,hi=>by
  rw [locF] at h;rcases Nat.lt_or_ge i k with h1|h1
  ·exact locF_all k (by omega) i h1
  ·have:i=k:=by omega
   subst this;omega
theorem det_nonneg {a b p:Pt} (h:0≤turn a b p):0≤det a b p:=by
 rcases Classical.em (0≤det a b p) with h1|h1
 ·exact h1
 ·have h2:0<det b a p:=by rw [det_swap];grind
  have h3:turn a b p=- turn b a p:=by unfold turn;rw [det_swap];unfold sgn;simp
  have h4:¬ turn b a p≤0:=fun e=>by have:=(turn_le b a p).1 e;grind
  omega
theorem ring_len {S:List Pt} {f:Pt} {h:List Pt} (hr:Ring S f f h):2≤h.length:=by
 obtain ⟨m,hm⟩:=ring_zero hr;have h0:0<h.length:=by rw [hm];simp
 refine Classical.byContradiction fun hc => ?_
 have e:=ring_edge hr 0 h0;have q:(0+1)%h.length=0:=by rw [show h.length=1 by omega]
 simp only [q] at e;exact e.ne rfl
theorem ring_next {S:List Pt} {f:Pt} {h:List Pt} (hr:Ring S f f h) {i:Nat} (hi:i<h.length) {b:Pt} (e:Edge S h[i] b):b=h[(i+1)%h.length]'(Nat.mod_lt _ (by omega)):=e.tail_unique (ring_edge hr i hi)
theorem mem_locR {S h:List Pt} {p:Pt} (a:IsHull S h) (hl:0≤locR h p):Mem S p:=by
 rcases a with ⟨_,rfl⟩|⟨q,rfl,hq,_⟩|⟨f,hlf,hr⟩
 ·unfold locR at hl;simp at hl
 ·unfold locR at hl
  rw [if_neg (by simp),if_pos (by simp)] at hl
  split at hl
  ·rename_i h1
   have:q=p:=h1;exact this▸.of_mem hq
  ·omega
 have h2:=ring_len hr
 -- what is known of p at each edge
 have E:(h.length=2∧btwB p (h.getD 0 (0,0)) (h.getD 1 (0,0))=true)∨(3≤h.length∧∀ i (hi:i<h.length),0≤det h[i] (h[(i+1)%h.length]'(Nat.mod_lt _ (by omega))) p):=by
  unfold locR at hl;rw [if_neg (by omega),if_neg (by omega)] at hl
  split at hl
  ·rename_i h3
   split at hl
   ·exact .inl ⟨h3,by assumption⟩
   ·omega
  ·refine .inr ⟨by omega,fun i hi=>det_nonneg ?_⟩
   have:=locF_all _ hl i hi
   rwa [edge_get hi] at this
 refine Classical.byContradiction fun hno => ?_
 obtain ⟨d,hd⟩:∃ d,∀ s∈S,dotP s d<dotP p d:=by
  refine Classical.byContradiction fun hc=>hno fun d => ?_
  refine Classical.byContradiction fun hc2=>hc ⟨d,fun s hs => ?_⟩
  exact Rat.not_le.1 fun hle=>hc2 ⟨s,hs,hle⟩
 have hd0:((-d.2,d.1):Pt)≠(0,0):=by
  intro e;have h1:=hd _ hlf.1;have e1:=congrArg Prod.fst e;have e2:=congrArg Prod.snd e;simp only at e1 e2;unfold dotP at h1;have e3:d.2=0:=by grind
  rw [e2,e3] at h1;grind
 obtain ⟨v,hv,hfar⟩:=far_point hd0 S (List.ne_nil_of_mem hlf.1);have hvh:v∈h:=IsHull.extreme (.inr (.inr ⟨f,hlf,hr⟩)) hv fun s hs hne=>(hfar s hs).resolve_left hne
 obtain ⟨m,hm⟩:=ring_zero hr;have hf:f∈h:=by rw [hm];simp
 obtain ⟨b,eb,hb⟩:=hr.out v hvh;have hb':b∈h:=hb.elim id fun e=>e▸hf
 obtain ⟨z,hz,ez⟩:∃ z∈h,Edge S z v:=by
  rcases hr.into.2 v hvh with rfl|h
  ·exact hr.into.1
  ·exact h
 have hB:=(hfar b eb.mb).resolve_left eb.ne.symm;have hA:=(hfar z ez.ma).resolve_left ez.ne
 have hQ:In (-d.2,d.1) (-(subP p v).1,-(subP p v).2):=by
  left;have h1:=hd v hv;have e:crossP (-d.2,d.1) (-(subP p v).1,-(subP p v).2)=dotP p d-dotP v d:=by unfold crossP subP dotP;grind
  rw [e];grind
 have eZ:crossP (subP p v) (subP z v)=det z v p:=by unfold det crossP subP;grind
 rcases E with ⟨hl2,hbt⟩|⟨hl3,hall⟩
 ·-- a segment
  match h,hl2,hbt,hr,hvh,hb',hz with
  | [x,y],_,hbt,hr,hvh,hb',hz =>
   have hbt:btwB p x y=true:=hbt
   have hvb:(v=x∧b=y)∨(v=y∧b=x):=by
    have h1:v=x∨v=y:=by simpa using hvh
    have h2:b=x∨b=y:=by simpa using hb'
    have:=eb.ne;rcases h1 with rfl|rfl<;>rcases h2 with rfl|rfl<;>simp_all
   have hzb:z=b:=by
    have h1:z=x∨z=y:=by simpa using hz
    have:=ez.ne;rcases hvb with ⟨h2,h3⟩|⟨h2,h3⟩<;>rcases h1 with h1|h1<;>simp_all
   have hbt':btwB p v b=true:=by
    rcases hvb with ⟨rfl,rfl⟩|⟨rfl,rfl⟩
    ·exact hbt
    ·exact btw_comm hbt
   obtain ⟨g1,g2⟩:=(btw_iff _ _ _).1 hbt';subst hzb;have e:dotP (subP v p) (subP z p)=dotP (subP p v) (subP p v)-dotP (subP p v) (subP z v):=by unfold dotP subP;grind
   rw [e] at g2;have g3:crossP (subP z v) (subP p v)=0:=g1;refine no_out (A:=subP z v) (B:=subP z v) (Q:=subP p v) hA hB hQ ?_ ?_ ?_ (fun _ _=>by grind) (sub_ne eb.ne.symm)
   ·unfold crossP;grind
   ·rw [g3];exact Rat.le_refl
   ·rw [show crossP (subP p v) (subP z v)=- crossP (subP z v) (subP p v) by unfold crossP;grind,g3];grind
 ·have at_:∀ x y,x∈h→Edge S x y→0≤det x y p:=by
   intro x y hx exy;obtain ⟨i,hi,rfl⟩:=List.getElem_of_mem hx;rw [ring_next hr hi exy];exact hall i hi
  refine no_out (A:=subP z v) (B:=subP b v) (Q:=subP p v) hA hB hQ (eb.left z ez.ma) (at_ v b hvh eb) (by rw [eZ];exact at_ z v hz ez) (fun h0 _ => ?_) (sub_ne eb.ne.symm);exfalso;have k1:btwB z v b=true:=eb.on z ez.ma h0;have k2:btwB b z v=true:=ez.on b eb.mb (by rw [det_rot];exact h0);have k3:=btw_anti k2 (btw_comm k1);subst k3;obtain ⟨i,hi,hiv⟩:=List.getElem_of_mem hvh;subst hiv;have q1:=ring_next hr hi eb;have q2:=ring_next hr (Nat.mod_lt (i+1) (by omega)) (b:=h[i]) (by rw [← q1];exact ez);have q3:((i+1)%h.length+1)%h.length=(i+2)%h.length:=by rw [Nat.mod_add_mod]
  simp only [q3] at q2;have:=ring_two hr (by omega) i hi q2.symm;omega
theorem locR_mem {S h:List Pt} {p:Pt} (a:IsHull S h) (hm:Mem S p):0≤locR h p:=by
 rcases a with ⟨rfl,_⟩|⟨q,rfl,_,hall⟩|⟨f,_,hr⟩
 ·exact absurd hm Mem.nil
 ·rw [hm.all_eq hall];unfold locR;simp
 ·have E:=ring_edge hr
  have h2:=ring_len hr;unfold locR;rw [if_neg (by omega),if_neg (by omega)]
  split
  ·rename_i hl
   have e1:=E 0 (by omega);have e2:=E 1 (by omega);have q1:(0+1)%h.length=1:=by rw [hl]
   have q2:(1+1)%h.length=0:=by rw [hl]
   simp only [q1,q2] at e1 e2;have l1:=hm.half e1.left;have l2:=hm.half e2.left;rw [det_swap] at l2;have l3:det h[0] h[1] p=0:=by grind
   rw [getD_of (List.getElem?_eq_getElem (by omega)),getD_of (List.getElem?_eq_getElem (by omega)),Mem.on e2 e1 hm l3];decide
  ·refine locF_nonneg (fun i hi => ?_) _ (Nat.le_refl _)
   rw [edge_get hi];exact turn_nonneg (hm.half (E i hi).left)
theorem loc_iff {S:List Pt} {p:Pt} : 0≤locR (wrap S) p↔Mem S p:=⟨mem_locR (wrap_isHull S),locR_mem (wrap_isHull S)⟩
end Pl
end Go.Proofs.YtdkkjfnpinckjaaGreatDoor
set_option maxRecDepth 100000
namespace Go.Proofs.YtdkkjfnpinckjaaGreatDoor
namespace Pl

def crs (a b s t:Pt):Pt:=addP s (scaleP (subP t s) (det a b s/(det a b s-det a b t)))
theorem crs_spec {a b s t:Pt} (h:det a b s≠det a b t):∃ r:Rat,r*(det a b s-det a b t)=det a b s∧crs a b s t=(s.1+(t.1-s.1)*r,s.2+(t.2-s.2)*r) :=
 ⟨det a b s/(det a b s-det a b t),Rat.div_mul_cancel (by grind),rfl⟩
theorem crs_dot {a b s t:Pt} (d:Pt) (h:det a b s≠det a b t):(det a b t-det a b s)*dotP (crs a b s t) d=det a b t*dotP s d-det a b s*dotP t d:=by
 obtain ⟨r,h1,h2⟩:=crs_spec h;rw [h2];generalize det a b s=x at *;generalize det a b t=y at *;unfold dotP;simp only;grind
theorem det_aff (a b p q:Pt) (r:Rat):det a b (p.1+(q.1-p.1)*r,p.2+(q.2-p.2)*r)=det a b p+(det a b q-det a b p)*r:=by
 unfold det crossP subP;grind
theorem crs_on {a b s t:Pt} (h:det a b s≠det a b t):det a b (crs a b s t)=0:=by
 obtain ⟨r,h1,h2⟩:=crs_spec h;rw [h2,det_aff];grind
theorem crs_comm {a b s t:Pt} (h:det a b s≠det a b t):crs a b s t=crs a b t s:=by
 obtain ⟨r,h1,h2⟩:=crs_spec h;obtain ⟨q,h3,h4⟩:=crs_spec (Ne.symm h);rw [h2,h4];generalize det a b s=x at *;generalize det a b t=y at *;have hxy:x-y≠0:=by grind
 have hq:q=1-r:=by
  have h5:(r+q-1)*(x-y)=0:=by grind
  rcases Rat.mul_eq_zero.1 h5 with h6|h6
  ·grind
  ·exact absurd h6 hxy
 subst hq;refine Prod.ext ?_ ?_<;>(simp only;grind)
theorem crs_mem {S:List Pt} {a b s t:Pt} (hs:Mem S s) (ht:Mem S t) (h1:det a b s<0) (h2:0<det a b t):Mem S (crs a b s t):=fun d=>by
 have h3:=crs_dot (a:=a) (b:=b) (s:=s) (t:=t) d (by grind);obtain ⟨u,hu,h4⟩:=hs d;obtain ⟨v,hv,h5⟩:=ht d;generalize det a b s=x at *;generalize det a b t=y at *;generalize dotP (crs a b s t) d=c at *;have hyx:0<y-x:=by grind
 by_cases hle:dotP u d≤dotP v d
 ·refine ⟨v,hv,?_⟩
  have k1:=Rat.mul_nonneg (Rat.le_of_lt h2) (show 0≤dotP v d-dotP s d by grind);have k2:=Rat.mul_nonneg (show 0≤-x by grind) (show 0≤dotP v d-dotP t d by grind);have k3:0≤(y-x)*(dotP v d-c):=by grind
  have:=mul_nonneg_of hyx k3;grind
 ·refine ⟨u,hu,?_⟩
  have k1:=Rat.mul_nonneg (Rat.le_of_lt h2) (show 0≤dotP u d-dotP s d by grind);have k2:=Rat.mul_nonneg (show 0≤-x by grind) (show 0≤dotP u d-dotP t d by grind);have k3:0≤(y-x)*(dotP u d-c):=by grind
  have:=mul_nonneg_of hyx k3;grind
theorem max_of:∀ (l:List Rat),l≠[]→∃ m∈l,∀ x∈l,x≤m
 | [],h=>absurd rfl h
 | a :: l,_=>by
  rcases Classical.em (l=[]) with h|h
  ·subst h;exact ⟨a,by simp,fun x hx=>by rw [List.mem_singleton] at hx;subst hx;exact Rat.le_refl⟩
  ·obtain ⟨m,hm,hall⟩:=max_of l h
   by_cases hle:a≤m
   ·refine ⟨m,by simp [hm],fun x hx => ?_⟩
    rcases List.mem_cons.1 hx with rfl|hx
    ·exact hle
    ·exact hall x hx
   ·refine ⟨a,by simp,fun x hx => ?_⟩
    rcases List.mem_cons.1 hx with rfl|hx
    ·exact Rat.le_refl
    ·have:=hall x hx;grind
theorem between (A B:List Rat) (h:∀ l∈A,∀ u∈B,l<u):∃ x,(∀ l∈A,l<x)∧∀ u∈B,x<u:=by
 rcases Classical.em (A=[]) with hA|hA
 ·subst hA
  rcases Classical.em (B=[]) with hB|hB
  ·subst hB;exact ⟨0,(fun _ h=>by cases h),(fun _ h=>by cases h)⟩
  ·obtain ⟨m,hm,hall⟩:=max_of (B.map fun x => -x) (by simpa using hB)
   refine ⟨-m-1,(fun _ h=>by cases h),fun u hu => ?_⟩;have:=hall (-u) (List.mem_map.2 ⟨u,hu,rfl⟩);grind
 ·obtain ⟨m,hm,hall⟩:=max_of A hA
  rcases Classical.em (B=[]) with hB|hB
  ·subst hB
   exact ⟨m+1,(fun l hl=>by have:=hall l hl;grind),(fun _ h=>by cases h)⟩
  ·obtain ⟨n,hn,hall2⟩:=max_of (B.map fun x => -x) (by simpa using hB)
   obtain ⟨u,hu,rfl⟩:=List.mem_map.1 hn;have:=h m hm u hu;refine ⟨(m+u)/2,fun l hl => ?_,fun v hv => ?_⟩
   ·have:=hall l hl;grind
   ·have:=hall2 (-v) (List.mem_map.2 ⟨v,hv,rfl⟩);grind
theorem quot_lt {a b x y:Rat} (hx:0<x) (hy:0<y) (h:a*y<b*x):a/x<b/y:=by
 have e1:a/x*x=a:=Rat.div_mul_cancel (by grind);have e2:b/y*y=b:=Rat.div_mul_cancel (by grind);generalize a/x=u at *;generalize b/y=v at *;refine Rat.not_le.1 fun hle => ?_
 have k:=Rat.mul_nonneg (show 0≤u-v by grind) (Rat.le_of_lt (Rat.mul_pos hx hy));have e3:a*y=u*(x*y):=by rw [← e1];grind
 have e4:b*x=v*(x*y):=by rw [← e2];grind
 rw [e3,e4] at h;have e5:(u-v)*(x*y)=u*(x*y)-v*(x*y):=by grind
 rw [e5] at k;grind
theorem cut_full {S C:List Pt} {a b p:Pt} (h1:∀ s∈S,0≤det a b s→Mem C s) (h2:∀ s∈S,∀ t∈S,det a b s<0→0<det a b t→Mem C (crs a b s t)) (hm:Mem S p) (hp:0≤det a b p):Mem C p:=by
 refine Classical.byContradiction fun hno => ?_
 obtain ⟨d,hd⟩:∃ d,∀ s∈C,dotP s d<dotP p d:=by
  refine Classical.byContradiction fun hc=>hno fun d => ?_
  refine Classical.byContradiction fun hc2=>hc ⟨d,fun s hs => ?_⟩
  exact Rat.not_le.1 fun hle=>hc2 ⟨s,hs,hle⟩
 have hC:∀ q,Mem C q→dotP q d<dotP p d:=fun q hq=>by
  obtain ⟨c,hc,h3⟩:=hq d;have h4:=hd c hc;grind
 have low:∀ s∈S,0≤det a b s→dotP s d<dotP p d:=fun s hs hg=>hC s (h1 s hs hg)
 have mid:∀ s∈S,∀ t∈S,det a b s<0→0<det a b t→det a b t*(dotP s d-dotP p d)-det a b s*(dotP t d-dotP p d)<0:=fun s hs t ht g1 g2=>by
  have h3:=hC _ (h2 s hs t ht g1 g2);have h4:=crs_dot (a:=a) (b:=b) (s:=s) (t:=t) d (by grind);have h5:=Rat.mul_pos (show 0<det a b t-det a b s by grind) (show 0<dotP p d-dotP (crs a b s t) d by grind);grind
 obtain ⟨x,hA,hB⟩:=between ((S.filter fun s=>decide (det a b s<det a b p)).map fun s=>(dotP s d-dotP p d)/(det a b p-det a b s))
  ((S.filter fun s=>decide (det a b p<det a b s)).map fun s=>(dotP p d-dotP s d)/(det a b s-det a b p)) (by
  intro l hl u hu;obtain ⟨s,hs,rfl⟩:=List.mem_map.1 hl;obtain ⟨t,ht,rfl⟩:=List.mem_map.1 hu;simp only [List.mem_filter,decide_eq_true_eq] at hs ht;refine quot_lt (by grind) (by grind) ?_;have ft:=low t ht.1 (by grind)
  by_cases g:0≤det a b s
  ·have fs:=low s hs.1 g
   have k1:=Rat.mul_pos (show 0<dotP p d-dotP s d by grind) (show 0<det a b t-det a b p by grind);have k2:=Rat.mul_pos (show 0<dotP p d-dotP t d by grind) (show 0<det a b p-det a b s by grind);grind
  ·have m1:=mid s hs.1 t ht.1 (by grind) (by grind)
   by_cases g2:dotP t d≤dotP s d
   ·have k1:=Rat.mul_nonneg hp (show 0≤dotP s d-dotP t d by grind)
    grind
   ·have k1:=Rat.mul_pos (show 0<dotP p d-dotP s d by grind) (show 0<det a b t-det a b p by grind)
    have k2:=Rat.mul_pos (show 0<dotP p d-dotP t d by grind) (show 0<det a b p-det a b s by grind)
    grind)
 obtain ⟨s,hs,h3⟩:=hm (d.1-x*(b.2-a.2),d.2-x*(a.1-b.1));have h4:=det_dot a b s p
 have h5:0≤(dotP s d-dotP p d)+x*(det a b s-det a b p):=by
  have:dotP s (d.1-x*(b.2-a.2),d.2-x*(a.1-b.1))-dotP p (d.1-x*(b.2-a.2),d.2-x*(a.1-b.1))=(dotP s d-dotP p d)+x*(det a b s-det a b p):=by unfold det crossP subP dotP;grind
  grind
 by_cases g1:det a b s<det a b p
 ·have h6:=hA _ (List.mem_map.2 ⟨s,by simp [hs,g1],rfl⟩)
  have e1:(dotP s d-dotP p d)/(det a b p-det a b s)*(det a b p-det a b s)=dotP s d-dotP p d:=Rat.div_mul_cancel (by grind);generalize (dotP s d-dotP p d)/(det a b p-det a b s)=u at *;have:=Rat.mul_pos (show 0<x-u by grind) (show 0<det a b p-det a b s by grind);grind
 ·by_cases g2:det a b p<det a b s
  ·have h6:=hB _ (List.mem_map.2 ⟨s,by simp [hs,g2],rfl⟩)
   have e1:(dotP p d-dotP s d)/(det a b s-det a b p)*(det a b s-det a b p)=dotP p d-dotP s d:=Rat.div_mul_cancel (by grind);generalize (dotP p d-dotP s d)/(det a b s-det a b p)=u at *;have:=Rat.mul_pos (show 0<u-x by grind) (show 0<det a b s-det a b p by grind);grind
  ·have g3:det a b s=det a b p:=by grind
   have:=low s hs (by rw [g3];exact hp);rw [g3] at h5;grind
theorem edge_far {h:List Pt} {f:Pt} (hr:Ring h f f h) {e s t:Pt} (he:e≠(0,0)) (hs:s∈h) (ht:t∈h) (hst:s≠t) (hmax:∀ q∈h,dotP q e≤dotP s e) (heq:dotP t e=dotP s e) :
 ∃ z v,z∈h∧v∈h∧Edge h z v∧dotP z e=dotP s e∧dotP v e=dotP s e∧btwB s z v=true∧btwB t z v=true:=by
 have hD:((-e.2,e.1):Pt)≠(0,0):=by intro e';apply he;have e1:=congrArg Prod.fst e';have e2:=congrArg Prod.snd e';refine Prod.ext ?_ ?_<;>grind
 have cD:∀ u:Pt,crossP (-e.2,e.1) u=- dotP u e:=fun u=>by unfold crossP dotP;grind
 have sd:∀ q v:Pt,dotP (subP q v) e=dotP q e-dotP v e:=fun q v=>by unfold dotP subP;grind
 obtain ⟨v,hv,hfar⟩:=far_point hD h (List.ne_nil_of_mem hs)
 have hvmax:∀ q∈h,dotP q e≤dotP v e:=fun q hq=>by
  rcases hfar q hq with rfl|h1
  ·exact Rat.le_refl
  ·have:=h1.cr;rw [cD,sd] at this;grind
 have hve:dotP v e=dotP s e:=Rat.le_antisymm (hmax v hv) (hvmax s hs)
 obtain ⟨z,hz,ez⟩:∃ z∈h,Edge h z v:=by
  rcases hr.into.2 v hv with rfl|h
  ·exact hr.into.1
  ·exact h
 obtain ⟨w,hw,hwv,hwe⟩:∃ w∈h,w≠v∧dotP w e=dotP s e:=by
  rcases Classical.em (s=v) with h1|h1
  ·exact ⟨t,ht,fun h2=>hst (h1.trans h2.symm),heq⟩
  ·exact ⟨s,hs,h1,rfl⟩
 have hin:=(hfar w hw).resolve_left hwv;have hc0:crossP (-e.2,e.1) (subP w v)=0:=by rw [cD,sd,hwe,hve];grind
 have hdt:=hin.dt hc0;have hN:=dot_self_pos hD;have hdet:=ez.left w hw;have k1:dotP (-e.2,e.1) (-e.2,e.1)*det z v w=dotP (-e.2,e.1) (subP w v)*dotP (subP v z) e+crossP (-e.2,e.1) (subP w v)*dotP (subP v z) (-e.2,e.1):=by unfold det crossP dotP subP;grind
 rw [hc0] at k1;have k2:=Rat.mul_nonneg (Rat.le_of_lt hN) hdet
 have hze:dotP z e=dotP s e:=by
  have h1:0≤dotP (subP v z) e:=by rw [sd];have:=hvmax z hz;grind
  rcases Classical.em (dotP (subP v z) e=0) with h2|h2
  ·rw [sd] at h2;grind
  ·have:=Rat.mul_pos (show 0 < - dotP (-e.2,e.1) (subP w v) by grind) (show 0<dotP (subP v z) e by grind)
   grind
 have online:∀ q∈h,dotP q e=dotP s e→btwB q z v=true:=fun q hq hqe=>by
  refine ez.on q hq ?_;have e1:dotP (-e.2,e.1) (-e.2,e.1)*det z v q=dotP (subP v z) (-e.2,e.1)*(dotP z e-dotP q e)+dotP (subP q z) (-e.2,e.1)*(dotP v e-dotP z e):=by unfold det crossP dotP subP;grind
  rw [hze,hve,hqe] at e1;exact mul_zero_of hN (by grind)
 exact ⟨z,v,hz,hv,ez,hze,hve,online s hs rfl,online t ht heq⟩
theorem btw_mean {s z v a b:Pt} (h:btwB s z v=true) (hzv:z≠v):∃ k n:Rat,0<n∧0≤k∧k≤n∧n*det a b s=(n-k)*det a b z+k*det a b v:=by
 obtain ⟨h0,h1⟩:=(btw_iff _ _ _).1 h;have hn:=dot_self_pos (sub_ne hzv.symm);have k1:dotP (subP v z) (subP v z)*dotP (subP z s) (subP v s)=dotP (subP v z) (subP s z)*(dotP (subP v z) (subP s z)-dotP (subP v z) (subP v z))+det z v s*det z v s:=by unfold det crossP dotP subP;grind
 rw [h0] at k1;have e1:dotP (subP v z) (subP v z)*(subP s z).1=dotP (subP v z) (subP s z)*(subP v z).1-det z v s*(subP v z).2:=by unfold det crossP dotP subP;grind
 have e2:dotP (subP v z) (subP v z)*(subP s z).2=dotP (subP v z) (subP s z)*(subP v z).2+det z v s*(subP v z).1:=by unfold det crossP dotP subP;grind
 rw [h0] at e1 e2;have k2:=Rat.mul_nonneg (Rat.le_of_lt hn) (show 0≤- dotP (subP z s) (subP v s) by grind);generalize hN:dotP (subP v z) (subP v z)=N at *;generalize hK:dotP (subP v z) (subP s z)=K at *
 have hk:0≤K∧K≤N:=by
  have k3:K*(K-N)≤0:=by grind
  constructor
  ·refine Rat.not_lt.1 fun hneg => ?_
   have:=Rat.mul_pos (show 0 < -K by grind) (show 0<N-K by grind);grind
  ·refine Rat.not_lt.1 fun hgt => ?_
   have:=Rat.mul_pos (show 0<K by grind) (show 0<K-N by grind);grind
 refine ⟨K,N,hn,hk.1,hk.2,?_⟩;have e3:det a b s=det a b z+((b.1-a.1)*(subP s z).2-(b.2-a.2)*(subP s z).1):=by unfold det crossP subP;grind
 have e4:det a b v=det a b z+((b.1-a.1)*(subP v z).2-(b.2-a.2)*(subP v z).1):=by unfold det crossP subP;grind
 rw [e3,e4];grind
theorem side_neg {X Y x M c p q r:Rat} (hY:0<Y) (hX:X<0) (hx:x<0) (h4:(Y-X)*c=Y*p-X*r) (hM:(Y-x)*M=Y*q-x*r) (h3:c≤M):(Y-x)*(p-q)+(q-r)*(X-x)≤0:=by
 have e:Y*((Y-x)*(p-q)+(q-r)*(X-x))=(Y-x)*((Y-X)*c)-(Y-X)*((Y-x)*M):=by rw [h4,hM];grind
 have e2:(Y-x)*((Y-X)*c)-(Y-X)*((Y-x)*M)=- (((Y-x)*(Y-X))*(M-c)):=by grind
 have k:=Rat.mul_nonneg (Rat.le_of_lt (Rat.mul_pos (show 0<Y-x by grind) (show 0<Y-X by grind))) (show 0≤M-c by grind);have k2:0≤Y * - ((Y-x)*(p-q)+(q-r)*(X-x)):=by grind
 have:=mul_nonneg_of hY k2;grind
theorem side_pos {X Y x M c p q r:Rat} (hY:0<Y) (hX:0<X) (hx:x<0) (h4:(X-x)*c=X*q-x*p) (hM:(Y-x)*M=Y*q-x*r) (h3:c≤M):(Y-x)*(p-q)+(q-r)*(X-x)≤0:=by
 have e : -x*((Y-x)*(p-q)+(q-r)*(X-x))=(Y-x)*((X-x)*c)-(X-x)*((Y-x)*M):=by rw [h4,hM];grind
 have e2:(Y-x)*((X-x)*c)-(X-x)*((Y-x)*M)=- (((Y-x)*(X-x))*(M-c)):=by grind
 have k:=Rat.mul_nonneg (Rat.le_of_lt (Rat.mul_pos (show 0<Y-x by grind) (show 0<X-x by grind))) (show 0≤M-c by grind);have k2:0≤-x * - ((Y-x)*(p-q)+(q-r)*(X-x)):=by grind
 have:=mul_nonneg_of (show 0 < -x by grind) k2;grind
theorem side_zero {Y x M p q r:Rat} (hY:0<Y) (hx:x<0) (hM:(Y-x)*M=Y*q-x*r) (h3:p≤M):(Y-x)*(p-q)+(q-r)*(0-x)≤0:=by
 have k:=Rat.mul_nonneg (show 0≤Y-x by grind) (show 0≤M-p by grind);grind
theorem mean_neg {k n g u v:Rat} (hn:0<n) (h1:0≤k) (h2:k≤n) (h:n*g=(n-k)*u+k*v) (hu:0≤u) (hv:0≤v):0≤g:=by
 have k1:=Rat.mul_nonneg (show 0≤n-k by grind) hu;have k2:=Rat.mul_nonneg h1 hv;exact mul_nonneg_of hn (by grind)
theorem mean_pos {k n g u v:Rat} (hn:0<n) (h1:0≤k) (h2:k≤n) (h:n*g=(n-k)*u+k*v) (hu:u≤0) (hv:v≤0):g≤0:=by
 have:=mean_neg (g := -g) (u := -u) (v := -v) hn h1 h2 (by grind) (by grind) (by grind);grind
theorem edge_cross {h:List Pt} {f:Pt} (hr:Ring h f f h) {a b s t d:Pt} (hs:s∈h) (ht:t∈h) (h1:det a b s<0) (h2:0<det a b t)
 (hz0:∀ z∈h,det a b z=0→dotP z d≤dotP (crs a b s t) d) (hall:∀ s'∈h,∀ t'∈h,det a b s'<0→0<det a b t'→dotP (crs a b s' t') d≤dotP (crs a b s t) d)
 (he:((det a b t-det a b s)*d.1-(dotP s d-dotP t d)*(b.2-a.2),(det a b t-det a b s)*d.2-(dotP s d-dotP t d)*(a.1-b.1))≠((0,0):Pt)) :
 ∃ z v,Edge h z v∧z∈h∧v∈h∧(det a b z<0∧0<det a b v∨det a b v<0∧0<det a b z)∧dotP (crs a b z v) d=dotP (crs a b s t) d:=by
 have hst:s≠t:=by rintro rfl;grind
 have hM:=crs_dot (a:=a) (b:=b) (s:=s) (t:=t) d (by grind);generalize hMd:dotP (crs a b s t) d=M at *;generalize hed:((det a b t-det a b s)*d.1-(dotP s d-dotP t d)*(b.2-a.2),(det a b t-det a b s)*d.2-(dotP s d-dotP t d)*(a.1-b.1))=e at *
 -- the function that is as great at s as at t
 have hphi:∀ q q':Pt,dotP q e-dotP q' e=(det a b t-det a b s)*(dotP q d-dotP q' d)+(dotP s d-dotP t d)*(det a b q-det a b q'):=fun q q'=>by
  rw [← hed];unfold det crossP subP dotP;grind
 have heq:dotP t e=dotP s e:=by have:=hphi t s;grind
 have hyx:0<det a b t-det a b s:=by grind
 have hle:∀ q∈h,dotP q e≤dotP s e:=by
  intro q hq;have hp:=hphi q s
  suffices H:(det a b t-det a b s)*(dotP q d-dotP s d)+(dotP s d-dotP t d)*(det a b q-det a b s)≤0 by grind
  by_cases g0:det a b q=0
  ·rw [g0];exact side_zero h2 h1 hM (hz0 q hq g0)
  ·by_cases g1:det a b q<0
   ·exact side_neg h2 g1 h1 (crs_dot d (by grind)) hM (hall q hq t ht g1 h2)
   ·exact side_pos h2 (by grind) h1 (crs_dot d (by grind)) hM (hall s hs q hq h1 (by grind))
 obtain ⟨z,v,hz,hv,ez,ze,ve,b1,b2⟩:=edge_far hr he hs ht hst hle heq;obtain ⟨k1,n1,p1,p2,p3,p4⟩:=btw_mean (a:=a) (b:=b) b1 ez.ne;obtain ⟨k2,n2,q1,q2,q3,q4⟩:=btw_mean (a:=a) (b:=b) b2 ez.ne;have s1:¬ (0≤det a b z∧0≤det a b v):=fun ⟨i,j⟩=>by have:=mean_neg p1 p2 p3 p4 i j;grind
 have s2:¬ (det a b z≤0∧det a b v≤0):=fun ⟨i,j⟩=>by have:=mean_pos q1 q2 q3 q4 i j;grind
 have sg:det a b z<0∧0<det a b v∨det a b v<0∧0<det a b z:=by grind
 refine ⟨z,v,ez,hz,hv,sg,?_⟩;have hne:det a b z≠det a b v:=by grind
 have c1:=crs_dot (a:=a) (b:=b) (s:=z) (t:=v) e hne;have c2:=hphi (crs a b z v) s;rw [crs_on hne] at c2;rw [ze,ve] at c1
 have c3:dotP (crs a b z v) e=dotP s e:=by
  have h5:(det a b v-det a b z)*(dotP (crs a b z v) e-dotP s e)=0:=by grind
  rcases Rat.mul_eq_zero.1 h5 with h6|h6
  ·grind
  ·grind
 rw [c3] at c2;have h5:(det a b t-det a b s)*(dotP (crs a b z v) d-M)=0:=by grind
 have:=mul_zero_of hyx h5;grind
end Pl
end Go.Proofs.YtdkkjfnpinckjaaGreatDoor
set_option maxRecDepth 100000
namespace Go.Proofs.YtdkkjfnpinckjaaGreatDoor
namespace Pl

theorem cut_edges {h C:List Pt} {f a b:Pt} (hr:Ring h f f h) (hab:a≠b) (h1:∀ s∈h,0≤det a b s→s∈C)
 (h2:∀ z v,Edge h z v→z∈h→v∈h→(det a b z<0∧0<det a b v∨det a b v<0∧0<det a b z)→crs a b z v∈C) :
 ∀ s∈h,∀ t∈h,det a b s<0→0<det a b t→Mem C (crs a b s t):=by
 intro s0 hs0 t0 ht0 g1 g2
 have pick:∀ d:Pt,∃ s∈h,∃ t∈h,det a b s<0∧0<det a b t∧(∀ s'∈h,∀ t'∈h,det a b s'<0→0<det a b t'→dotP (crs a b s' t') d≤dotP (crs a b s t) d):=by
  intro d
  have hmem:∀ s t,(s,t)∈(h.flatMap fun s=>h.map fun t=>(s,t)).filter (fun p=>decide (det a b p.1<0)&&decide (0<det a b p.2))↔(s∈h∧t∈h)∧det a b s<0∧0<det a b t:=by
   intro s t;simp only [List.mem_filter,List.mem_flatMap,List.mem_map,Prod.mk.injEq,Bool.and_eq_true,decide_eq_true_eq];constructor
   ·rintro ⟨⟨x,hx,y,hy,rfl,rfl⟩,h3,h4⟩;exact ⟨⟨hx,hy⟩,h3,h4⟩
   ·rintro ⟨⟨hx,hy⟩,h3,h4⟩;exact ⟨⟨s,hx,t,hy,rfl,rfl⟩,h3,h4⟩
  obtain ⟨m,hm,hall⟩:=max_of (((h.flatMap fun s=>h.map fun t=>(s,t)).filter (fun p=>decide (det a b p.1<0)&&decide (0<det a b p.2))).map fun p=>dotP (crs a b p.1 p.2) d) (by
   intro e;have:=List.map_eq_nil_iff.1 e;have h3:=(hmem s0 t0).2 ⟨⟨hs0,ht0⟩,g1,g2⟩
   rw [this] at h3;cases h3)
  obtain ⟨⟨s,t⟩,hst,rfl⟩:=List.mem_map.1 hm;obtain ⟨⟨hs,ht⟩,h3,h4⟩:=(hmem s t).1 hst;exact ⟨s,hs,t,ht,h3,h4,fun s' hs' t' ht' h5 h6=>hall _ (List.mem_map.2 ⟨(s',t'),(hmem s' t').2 ⟨⟨hs',ht'⟩,h5,h6⟩,rfl⟩)⟩
 have online:∀ d:Pt,(∀ s∈h,∀ t∈h,det a b s<0→0<det a b t→(∀ s'∈h,∀ t'∈h,det a b s'<0→0<det a b t'→dotP (crs a b s' t') d≤dotP (crs a b s t) d) →
  ((det a b t-det a b s)*d.1-(dotP s d-dotP t d)*(b.2-a.2),(det a b t-det a b s)*d.2-(dotP s d-dotP t d)*(a.1-b.1))≠((0,0):Pt)) →
  ∃ c∈C,det a b c=0∧dotP (crs a b s0 t0) d≤dotP c d:=by
  intro d hne;obtain ⟨s,hs,t,ht,h3,h4,hall⟩:=pick d;rcases Classical.em (∃ z∈h,det a b z=0∧dotP (crs a b s t) d<dotP z d) with ⟨z,hz,h5,h6⟩|hno
  ·exact ⟨z,h1 z hz (by rw [h5];exact Rat.le_refl),h5,by have:=hall s0 hs0 t0 ht0 g1 g2;grind⟩
  ·obtain ⟨z,v,ez,hz,hv,sg,hd⟩:=edge_cross hr hs ht h3 h4 (fun z hz h5=>Rat.not_lt.1 fun h6=>hno ⟨z,hz,h5,h6⟩) hall (hne s hs t ht h3 h4 hall)
   exact ⟨_,h2 z v ez hz hv sg,crs_on (by grind),by rw [hd];exact hall s0 hs0 t0 ht0 g1 g2⟩
 intro d;rcases Classical.em (∃ s∈h,∃ t∈h,det a b s<0∧0<det a b t∧((det a b t-det a b s)*d.1-(dotP s d-dotP t d)*(b.2-a.2),(det a b t-det a b s)*d.2-(dotP s d-dotP t d)*(a.1-b.1))=((0,0):Pt)) with ⟨s,hs,t,ht,h3,h4,h5⟩|hno
 ·-- d is across the line: all points on it are as far
  obtain ⟨c,hc,h6,_⟩:=online (subP b a) (by
   intro s hs t ht h3 h4 _ e;have hp:=dot_self_pos (sub_ne hab.symm);have e1:=congrArg Prod.fst e;have e2:=congrArg Prod.snd e;simp only at e1 e2;have e3:(det a b t-det a b s)*dotP (subP b a) (subP b a)=0:=by generalize det a b t-det a b s=y at *;generalize dotP s (subP b a)-dotP t (subP b a)=x at *;unfold dotP subP at *;simp only at *;grind
   have:=Rat.mul_pos (show 0<det a b t-det a b s by grind) hp
   grind)
  refine ⟨c,hc,?_⟩;have hne:det a b s0≠det a b t0:=by grind
  have e1:=congrArg Prod.fst h5;have e2:=congrArg Prod.snd h5;simp only at e1 e2;have h7:=crs_on hne;generalize crs a b s0 t0=q at *;have h8:(det a b t-det a b s)*(dotP q d-dotP c d)=(dotP s d-dotP t d)*(det a b c-det a b q):=by generalize det a b t-det a b s=y at *;generalize dotP s d-dotP t d=x at *;have h9:det a b c-det a b q=dotP q (b.2-a.2,a.1-b.1)-dotP c (b.2-a.2,a.1-b.1):=det_dot a b q c;rw [h9];unfold dotP;simp only;grind
  rw [h6,h7] at h8;have h9:=mul_zero_of (show 0<det a b t-det a b s by grind) (b:=dotP q d-dotP c d) (by grind);grind
 ·obtain ⟨c,hc,_,h6⟩:=online d fun s hs t ht h3 h4 _ e=>hno ⟨s,hs,t,ht,h3,h4,e⟩
  exact ⟨c,hc,h6⟩
theorem turn_pos {a b p:Pt} : 0<turn a b p↔0<det a b p:=by
 have h1:=turn_le a b p;constructor
 ·intro h;refine Rat.not_le.1 fun e => ?_;have:=h1.2 e;omega
 ·intro h;refine Int.not_le.1 fun e => ?_;have:=h1.1 e;grind
theorem turn_neg {a b p:Pt} : turn a b p<0↔det a b p<0:=by
 have h1:=@turn_nonneg a b p;constructor
 ·intro h;refine Rat.not_le.1 fun e => ?_;have:=h1 e;omega
 ·intro h;refine Int.not_le.1 fun e => ?_;have:=det_nonneg e;grind
theorem turn_ge {a b p:Pt} : 0≤turn a b p↔0≤det a b p:=⟨det_nonneg,turn_nonneg⟩
def cutE (l:List Pt) (a b:Pt):List Pt:=l.filter (fun p=>decide (0≤turn a b p))++(edges l).flatMap fun s=>if turn a b s.1*turn a b s.2<0 then [crs a b s.1 s.2] else []
def cutR (l:List Pt) (a b:Pt):List Pt:=l.flatMap fun p=>(if 0≤turn a b p then [p] else [])++l.flatMap fun q=>if turn a b p<0∧0<turn a b q then [crs a b p q] else []
theorem cutR_mem {l:List Pt} {a b c:Pt} : c∈cutR l a b↔(c∈l∧0≤det a b c)∨∃ s∈l,∃ t∈l,det a b s<0∧0<det a b t∧c=crs a b s t:=by
 unfold cutR;rw [List.mem_flatMap];constructor
 ·rintro ⟨p,hp,h⟩
  rcases List.mem_append.1 h with h|h
  ·split at h
   ·rw [List.mem_singleton] at h;subst h;exact .inl ⟨hp,turn_ge.1 (by assumption)⟩
   ·cases h
  ·obtain ⟨q,hq,h⟩:=List.mem_flatMap.1 h
   split at h
   ·rename_i h2;rw [List.mem_singleton] at h;exact .inr ⟨p,hp,q,hq,turn_neg.1 h2.1,turn_pos.1 h2.2,h⟩
   ·cases h
 ·rintro (⟨h1,h2⟩|⟨s,hs,t,ht,h1,h2,rfl⟩)
  ·exact ⟨c,h1,List.mem_append.2 (.inl (by rw [if_pos (turn_ge.2 h2)];simp))⟩
  ·exact ⟨s,hs,List.mem_append.2 (.inr (List.mem_flatMap.2 ⟨t,ht,by rw [if_pos ⟨turn_neg.2 h1,turn_pos.2 h2⟩];simp⟩))⟩
theorem sign_mul {a b p q:Pt} : turn a b p*turn a b q<0↔(det a b p<0∧0<det a b q)∨(det a b q<0∧0<det a b p):=by
 rw [← turn_neg,← turn_neg,← turn_pos,← turn_pos];rcases turn3 a b p with h|h|h<;>rcases turn3 a b q with k|k|k<;>rw [h,k]<;>decide
theorem cutE_mem {l:List Pt} {a b c:Pt} : c∈cutE l a b↔(c∈l∧0≤det a b c)∨∃ s∈edges l,((det a b s.1<0∧0<det a b s.2)∨(det a b s.2<0∧0<det a b s.1))∧c=crs a b s.1 s.2:=by
 unfold cutE;rw [List.mem_append,List.mem_filter,List.mem_flatMap];constructor
 ·rintro (⟨h1,h2⟩|⟨s,hs,h⟩)
  ·exact .inl ⟨h1,turn_ge.1 (by simpa using h2)⟩
  ·split at h
   ·rw [List.mem_singleton] at h;exact .inr ⟨s,hs,sign_mul.1 (by assumption),h⟩
   ·cases h
 ·rintro (⟨h1,h2⟩|⟨s,hs,h1,rfl⟩)
  ·exact .inl ⟨h1,by simpa using turn_ge.2 h2⟩
  ·exact .inr ⟨s,hs,by rw [if_pos (sign_mul.2 h1)];simp⟩
theorem edges_mem {l:List Pt} : ∀ s∈edges l,s.1∈l∧s.2∈l:=by
 have H:∀ i,i<l.length→l.getD i (0,0)∈l:=fun i hi=>by rw [getD_of (List.getElem?_eq_getElem hi)];exact List.getElem_mem hi
 intro s hs;unfold edges at hs
 split at hs
 ·cases hs
 ·split at hs
  ·rw [List.mem_singleton] at hs;subst hs;exact ⟨H 0 (by omega),H 1 (by omega)⟩
  ·obtain ⟨i,hi,rfl⟩:=List.mem_map.1 hs
   have:=List.mem_range.1 hi;exact ⟨H i this,H _ (Nat.mod_lt _ (by omega))⟩
theorem ring_edges {h:List Pt} {S:List Pt} {f:Pt} (hr:Ring S f f h) {z v:Pt} (hz:z∈h) (e:Edge S z v):(z,v)∈edges h∨(v,z)∈edges h:=by
 have h2:=ring_len hr;obtain ⟨i,hi,rfl⟩:=List.getElem_of_mem hz;have hv:=ring_next hr hi e;subst hv;unfold edges;rw [if_neg (by omega)]
 split
 ·rename_i hl
  rw [List.mem_singleton,List.mem_singleton,getD_of (List.getElem?_eq_getElem (by omega)),getD_of (List.getElem?_eq_getElem (by omega))];have hi2:i=0∨i=1:=by omega
  rcases hi2 with rfl|rfl
  ·left
   have:(0+1)%h.length=1:=by rw [hl]
   simp only [this]
  ·right
   have:(1+1)%h.length=0:=by rw [hl]
   simp only [this]
 ·exact .inl (List.mem_map.2 ⟨i,List.mem_range.2 hi,edge_get hi⟩)
theorem cutR_iff {l:List Pt} {a b p:Pt} : Mem (cutR l a b) p↔Mem l p∧0≤det a b p:=by
 constructor
 ·intro h
  refine ⟨h.trans fun c hc => ?_,h.half fun c hc => ?_⟩
  ·rcases cutR_mem.1 hc with ⟨h1,_⟩|⟨s,hs,t,ht,h1,h2,rfl⟩
   ·exact .of_mem h1
   ·exact crs_mem (.of_mem hs) (.of_mem ht) h1 h2
  ·rcases cutR_mem.1 hc with ⟨_,h1⟩|⟨s,hs,t,ht,h1,h2,rfl⟩
   ·exact h1
   ·rw [crs_on (by grind)];exact Rat.le_refl
 ·rintro ⟨h1,h2⟩
  exact cut_full (fun s hs hg=>.of_mem (cutR_mem.2 (.inl ⟨hs,hg⟩))) (fun s hs t ht g1 g2=>.of_mem (cutR_mem.2 (.inr ⟨s,hs,t,ht,g1,g2,rfl⟩))) h1 h2
theorem cutE_iff {l:List Pt} {a b p:Pt} (hab:a≠b) (hl:wrap l=l):Mem (cutE l a b) p↔Mem l p∧0≤det a b p:=by
 constructor
 ·intro h
  refine ⟨h.trans fun c hc => ?_,h.half fun c hc => ?_⟩
  ·rcases cutE_mem.1 hc with ⟨h1,_⟩|⟨s,hs,h1,rfl⟩
   ·exact .of_mem h1
   ·obtain ⟨m1,m2⟩:=edges_mem s hs
    rcases h1 with ⟨h1,h2⟩|⟨h1,h2⟩
    ·exact crs_mem (.of_mem m1) (.of_mem m2) h1 h2
    ·rw [crs_comm (by grind)];exact crs_mem (.of_mem m2) (.of_mem m1) h1 h2
  ·rcases cutE_mem.1 hc with ⟨_,h1⟩|⟨s,hs,h1,rfl⟩
   ·exact h1
   ·rw [crs_on (by grind)];exact Rat.le_refl
 ·rintro ⟨h1,h2⟩
  have hl0:=wrap_isHull l;rw [hl] at hl0;rcases hl0 with ⟨h3,_⟩|⟨q,h3,h4,h5⟩|⟨f,h3,hr⟩
  ·rw [h3] at h1;exact absurd h1 Mem.nil
  ·have hp:=h1.all_eq h5
   subst hp;exact .of_mem (cutE_mem.2 (.inl ⟨h4,h2⟩))
  ·refine cut_full (fun s hs hg=>.of_mem (cutE_mem.2 (.inl ⟨hs,hg⟩))) (cut_edges hr hab (fun s hs hg=>cutE_mem.2 (.inl ⟨hs,hg⟩)) fun z v e hz hv sg => ?_) h1 h2
   rcases ring_edges hr hz e with h6|h6
   ·exact cutE_mem.2 (.inr ⟨_,h6,sg,rfl⟩)
   ·exact cutE_mem.2 (.inr ⟨_,h6,sg.symm,crs_comm (by grind)⟩)
def aheadS (p d:Pt):Pt×Pt:=(p,addP p (d.2,-d.1))
def sides (l:List Pt):List (Pt×Pt):=if 2<l.length then edges l else [(l.getD 0 (0,0),l.getD 1 (0,0)),(l.getD 1 (0,0),l.getD 0 (0,0)),aheadS (l.getD 0 (0,0)) (subP (l.getD 1 (0,0)) (l.getD 0 (0,0))),aheadS (l.getD 1 (0,0)) (subP (l.getD 0 (0,0)) (l.getD 1 (0,0)))]
theorem ahead_det (p d q:Pt):det (aheadS p d).1 (aheadS p d).2 q=dotP d (subP q p):=by unfold aheadS det crossP subP addP dotP;grind
theorem sides_ne {l:List Pt} (hl:wrap l=l) (h2:2≤l.length):∀ s∈sides l,s.1≠s.2:=by
 have hl0:=wrap_isHull l;rw [hl] at hl0;rcases hl0 with ⟨h3,_⟩|⟨q,h3,h4,h5⟩|⟨f,h3,hr⟩
 ·rw [h3] at h2;simp at h2
 ·rw [h3] at h2;simp at h2
 ·have E:=ring_edge hr
  intro s hs;unfold sides at hs
  split at hs
  ·unfold edges at hs
   rw [if_neg (by omega),if_neg (by omega)] at hs;obtain ⟨i,hi,rfl⟩:=List.mem_map.1 hs;rw [edge_get (List.mem_range.1 hi)];exact (E i (List.mem_range.1 hi)).ne
  ·have hl2:l.length=2:=by omega
   have e1:=E 0 (by omega);have q1:(0+1)%l.length=1:=by rw [hl2]
   simp only [q1] at e1;rw [getD_of (List.getElem?_eq_getElem (show 0<l.length by omega)),getD_of (List.getElem?_eq_getElem (show 1<l.length by omega))] at hs;generalize l[0]=x at *;generalize l[1]=y at *;have across:∀ p d:Pt,d≠(0,0)→(aheadS p d).1≠(aheadS p d).2:=by intro p d hd e;apply hd;have e1:=congrArg Prod.fst e;have e2:=congrArg Prod.snd e;simp only [aheadS,addP] at e1 e2;refine Prod.ext ?_ ?_<;>grind
   simp only [List.mem_cons,List.not_mem_nil,or_false] at hs;rcases hs with rfl|rfl|rfl|rfl
   ·exact e1.ne
   ·exact e1.ne.symm
   ·exact across _ _ (sub_ne e1.ne.symm)
   ·exact across _ _ (sub_ne e1.ne)
theorem two_of {l:List Pt} (h:l.length=2):l=[l.getD 0 (0,0),l.getD 1 (0,0)]:=by
 match l,h with
 | [x,y],_=>rfl
theorem sides_iff {l:List Pt} {p:Pt} (hl:wrap l=l) (h2:2≤l.length):(∀ s∈sides l,0≤det s.1 s.2 p)↔Mem l p:=by
 have hloc:=loc_iff (S:=l) (p:=p);rw [hl] at hloc;have hne:=sides_ne hl h2;constructor
 ·intro h
  refine hloc.1 ?_;unfold locR;rw [if_neg (by omega),if_neg (by omega)];unfold sides at h hne
  split at h
  ·rw [if_neg (by omega)]
   refine locF_nonneg (fun i hi=>turn_ge.2 ?_) _ (Nat.le_refl _);refine h _ ?_;unfold edges;rw [if_neg (by omega),if_neg (by omega)];exact List.mem_map.2 ⟨i,List.mem_range.2 hi,rfl⟩
  ·rename_i hl2
   rw [if_pos (by omega)];rw [if_neg hl2] at hne;have g0:=hne (l.getD 0 (0,0),l.getD 1 (0,0)) (by simp);have g1:=h (l.getD 0 (0,0),l.getD 1 (0,0)) (by simp);have g2:=h (l.getD 1 (0,0),l.getD 0 (0,0)) (by simp);have g3:=h (aheadS (l.getD 0 (0,0)) (subP (l.getD 1 (0,0)) (l.getD 0 (0,0)))) (by simp);have g4:=h (aheadS (l.getD 1 (0,0)) (subP (l.getD 0 (0,0)) (l.getD 1 (0,0)))) (by simp);rw [ahead_det] at g3 g4;clear h hne hloc;simp only at g0 g1 g2;generalize l.getD 0 (0,0)=x at *;generalize l.getD 1 (0,0)=y at *
   have hb:btwB p x y=true:=by
    rw [btw_iff];rw [det_swap] at g2;have h0:det x y p=0:=by grind
    refine ⟨h0,?_⟩;have k1:dotP (subP y x) (subP y x)*dotP (subP x p) (subP y p)=dotP (subP y x) (subP p x)*(dotP (subP y x) (subP p x)-dotP (subP y x) (subP y x))+det x y p*det x y p:=by unfold det crossP dotP subP;grind
    rw [h0] at k1;have k2:dotP (subP x y) (subP p y)=dotP (subP y x) (subP y x)-dotP (subP y x) (subP p x):=by unfold dotP subP;grind
    rw [k2] at g4;have k3:=Rat.mul_nonneg g3 g4;have hp:=dot_self_pos (sub_ne (Ne.symm g0));have k4:0≤dotP (subP y x) (subP y x) * - dotP (subP x p) (subP y p):=by grind
    have:=mul_nonneg_of hp k4;grind
   rw [if_pos hb];decide
 ·intro hm s hs
  have hl0:=wrap_isHull l;rw [hl] at hl0;rcases hl0 with ⟨h3,_⟩|⟨q,h3,h4,h5⟩|⟨f,h3,hr⟩
  ·rw [h3] at h2;simp at h2
  ·rw [h3] at h2;simp at h2
  ·have E:=ring_edge hr
   unfold sides at hs
   split at hs
   ·unfold edges at hs
    rw [if_neg (by omega),if_neg (by omega)] at hs;obtain ⟨i,hi,rfl⟩:=List.mem_map.1 hs;rw [edge_get (List.mem_range.1 hi)];exact hm.half (E i (List.mem_range.1 hi)).left
   ·have hl2:l.length=2:=by omega
    have e1:=E 0 (by omega);have e2:=E 1 (by omega);have q1:(0+1)%l.length=1:=by rw [hl2]
    have q2:(1+1)%l.length=0:=by rw [hl2]
    simp only [q1] at e1;simp only [q2] at e2
    have lin:∀ x y:Pt,l=[x,y]∨l=[y,x]→0≤dotP (subP y x) (subP p x):=by
     intro x y hxy
     have h6:=hm.lin (a:=x) (d:=subP y x) fun s hs=>by
      have:s=x∨s=y:=by rcases hxy with e|e<;>rw [e] at hs<;>simp only [List.mem_cons,List.not_mem_nil,or_false] at hs<;>grind
      rcases this with rfl|rfl
      ·exact Rat.le_refl
      ·have h7:0≤dotP (subP s x) (subP s x):=by unfold dotP;have:=sq_nonneg (subP s x).1;have:=sq_nonneg (subP s x).2;grind
       have h8:dotP (subP s x) (subP s x)=dotP (subP s x) s-dotP (subP s x) x:=by unfold dotP subP;grind
       grind
     have h8:dotP (subP y x) (subP p x)=dotP (subP y x) p-dotP (subP y x) x:=by unfold dotP subP;grind
     grind
    have ht:=two_of hl2;rw [← getD_of (l:=l) (d:=((0,0):Pt)) (List.getElem?_eq_getElem (show 0<l.length by omega)),← getD_of (l:=l) (d:=((0,0):Pt)) (List.getElem?_eq_getElem (show 1<l.length by omega))] at e1 e2;generalize l.getD 0 (0,0)=x at *;generalize l.getD 1 (0,0)=y at *;simp only [List.mem_cons,List.not_mem_nil,or_false] at hs;rcases hs with rfl|rfl|rfl|rfl
    ·exact hm.half e1.left
    ·exact hm.half e2.left
    ·rw [ahead_det];exact lin x y (.inl ht)
    ·rw [ahead_det];exact lin y x (.inr ht)
def interC (a b:List Pt):List Pt :=
 if b.length=0 then [] else if b.length=1 then (if locR a (b.getD 0 (0,0))=-1 then [] else b) else (sides b).foldl (fun out s=>wrap (cutE out s.1 s.2)) a
theorem fold_cut {p:Pt} : ∀ (ss:List (Pt×Pt)) (a:List Pt),wrap a=a→(∀ s∈ss,s.1≠s.2) →
 wrap (ss.foldl (fun out s=>wrap (cutE out s.1 s.2)) a)=ss.foldl (fun out s=>wrap (cutE out s.1 s.2)) a∧(Mem (ss.foldl (fun out s=>wrap (cutE out s.1 s.2)) a) p↔Mem a p∧∀ s∈ss,0≤det s.1 s.2 p)
 | [],a,ha,_=>⟨ha,by simp⟩
 | s :: ss,a,ha,hne=>by
  obtain ⟨h1,h2⟩:=fold_cut (p:=p) ss (wrap (cutE a s.1 s.2)) (wrap_wrap _) fun t ht=>hne t (List.mem_cons_of_mem _ ht)
  refine ⟨h1,h2.trans ?_⟩;rw [wrap_mem,cutE_iff (hne s (by simp)) ha];simp only [List.mem_cons,forall_eq_or_imp,and_assoc]
theorem interC_spec {a b:List Pt} (ha:wrap a=a) (hb:wrap b=b):wrap (interC a b)=interC a b∧∀ p,Mem (interC a b) p↔Mem a p∧Mem b p:=by
 unfold interC
 split
 ·rename_i h0
  have:b=[]:=List.eq_nil_of_length_eq_zero h0;subst this;exact ⟨rfl,fun p=>⟨fun h=>absurd h Mem.nil,fun h=>absurd h.2 Mem.nil⟩⟩
 ·split
  ·rename_i h1
   match b,h1,hb with
   | [q],_,hb =>
    have hloc:=loc_iff (S:=a) (p:=q);rw [ha] at hloc;have h3:=locR3 a q;show wrap (if locR a q=-1 then [] else [q])=(if locR a q=-1 then [] else [q])∧∀ p,Mem (if locR a q=-1 then [] else [q]) p↔_
    split
    ·refine ⟨rfl,fun p=>⟨fun h=>absurd h Mem.nil,fun h => ?_⟩⟩
     have:=h.2.single;subst this;have:=hloc.2 h.1;omega
    ·refine ⟨hb,fun p=>⟨fun h=>⟨?_,h⟩,fun h=>h.2⟩⟩
     have:=h.single;subst this;exact hloc.1 (by omega)
  ·have h2:2≤b.length:=by omega
   refine ⟨(fold_cut (p:=(0,0)) _ a ha (sides_ne hb h2)).1,fun p => ?_⟩;rw [(fold_cut (p:=p) _ a ha (sides_ne hb h2)).2,sides_iff hb h2]
theorem canonH {a b:List Pt} (ha:wrap a=a) (hb:wrap b=b) (h:∀ p,Mem a p↔Mem b p):a=b:=ha.symm.trans ((wrap_eq h).trans hb)
end Pl
end Go.Proofs.YtdkkjfnpinckjaaGreatDoor
