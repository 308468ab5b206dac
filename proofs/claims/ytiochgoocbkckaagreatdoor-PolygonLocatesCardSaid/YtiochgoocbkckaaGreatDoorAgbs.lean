/-
 A law on regions that leave their order open: new blocks may be laid at any time, and their values stored at any time behind them. One walk of the other operations, in the text's order, serves all orders. Conditions: closed facts on the region's edges, by the kernel.
 A law on regions that leave their order open: any number of new blocks may be laid at any time, and their values stored at any time behind them. Conditions: closed facts on the region's edges, by the kernel.
-/
import Derived.Test.YtiochgoocbkckaaGreatDoorAReg7
import Derived.Test.YtiochgoocbkckaaGreatDoorAgbk
set_option maxRecDepth 100000
set_option linter.unusedSimpArgs false
set_option linter.unusedVariables false
namespace Go.Proofs.YtiochgoocbkckaaGreatDoor
open Go Go.RowKit

section
variable {P:Program} {md:Region.Mode} {C:World→Prop} {ops:Array Oper}

structure NewV where
 i:Nat
 d:Nat
 cs:List Value
 T:TypeId
 s:Nat
 y:Operand

def maskS (o:Oper):Oper:=match o.op with
 | .alloc _ => { o with op:=.move (.const (.bool false)) }
 | .store _ _ _ => { o with op:=.move (.const (.bool false)) }
 | _=>o
theorem getS {listed:Array Bool} {i:Nat} (h:listed.getD i true=false):(listed.setIfInBounds i true).getD i false=true:=by
 rcases Nat.lt_or_ge i listed.size with h'|h'
 ·simp [h']
 ·simp [Array.getElem?_eq_none h'] at h
theorem maskS_dst (o:Oper):(maskS o).dst=o.dst:=by unfold maskS;split<;>rfl
theorem maskS_after (o:Oper):(maskS o).after=o.after:=by unfold maskS;split<;>rfl
theorem maskS_get (i:Nat):(ops.map maskS)[i]?=(ops[i]?).map maskS:=by simp
theorem ready_maskS (listed:Array Bool):Region.ready md (ops.map maskS) listed=Region.ready md ops listed:=by
 unfold Region.ready;simp only [Array.size_map,maskS_get,Option.map_map];refine List.filter_congr fun i _ => ?_
 cases ops[i]?<;>simp [maskS_after]
theorem yielded_maskS (tmps:Array Value) (j:Nat):yielded (ops.map maskS) tmps j=yielded ops tmps j:=by
 unfold yielded;rw [maskS_get]
 cases ops[j]? with
 | none=>rfl
 | some o=>simp [maskS_dst]
theorem maskS_other {o:Oper} (h1:∀ T,o.op≠.alloc T) (h2:∀ T x y,o.op≠.store T x y):maskS o=o:=by
 unfold maskS
 split
 ·rename_i T hT;exact absurd hT (h1 T)
 ·rename_i T x y hT;exact absurd hT (h2 T x y)
 ·rfl
def opTmp:Operand→Option Nat
 | .tmp t=>some t
 | _=>none
theorem eval_of_tmp {a b:Act} {y:Operand} (h:∀ t,opTmp y=some t→b.tmps[t]?=a.tmps[t]?):b.eval y=a.eval y:=by
 cases y with
 | tmp t=>simp only [Act.eval,Array.getD_eq_getD_getElem?,h t rfl]
 | _=>rfl
theorem headAny_end {n:Nat} {L:Array Bool→Act→Prop} : ∀ (f:Nat) (listed:Array Bool) (a:Act),headAny P md ops C n L f listed a →
 ∃ listed' a',L listed' a'∧∀ t,(∀ j o,ops[j]?=some o→listed.getD j true=false→o.dst≠some t)→a'.tmps[t]?=a.tmps[t]?
 | 0,listed,a,h=>⟨listed,a,h,fun _ _=>rfl⟩
 | f+1,listed,a,h=>by
  obtain ⟨i,hi⟩:=List.exists_mem_of_ne_nil _ h.1;obtain ⟨hun,o,ho,_⟩:=mem_ready.1 hi;obtain ⟨v,_,hn⟩:=yieldsIn_of_qOp ho (h.2 i hi).2;obtain ⟨l',a',h1,h2⟩:=headAny_end f _ _ hn;refine ⟨l',a',h1,fun t ht => ?_⟩;have hne:=ht i o ho hun;rw [h2 t fun j oj hj hl=>ht j oj hj ?_]
  ·cases hd:o.dst with
   | none=>rfl
   | some d=>rw [put_get,if_neg fun c=>hne (by rw [hd,c.1])]
  ·rcases Nat.decEq i j with hij|hij
   ·rwa [getD_set_ne true hij] at hl
   ·subst hij;exact hun

structure LaidS (ops:Array Oper) (W:World) (al:List NewV) (listed:Array Bool) (a:Act) (w:World):Prop where
 at_:∀ x∈al,listed.getD x.i false=true→∃ b,a.tmps[x.d]?=some (.pointer (some ⟨b,0,none⟩))∧W.heap.size≤b∧b<w.heap.size ∧
  (listed.getD x.s false=false→Own w b 0 x.cs)∧(listed.getD x.s false=true→∃ vs:List Value,(a.eval x.y).cells=vs.toArray∧Own w b 0 vs)
 ne:∀ x∈al,∀ y∈al,x.i≠y.i→listed.getD x.i false=true→listed.getD y.i false=true→a.tmps[x.d]?≠a.tmps[y.d]?
 wr:∀ x∈al,listed.getD x.s false=true→listed.getD x.i false=true∧∀ t,opTmp x.y=some t→∀ (j:Nat) (o:Oper),ops[j]?=some o→o.dst=some t→listed.getD j false=true
structure NewOk (md:Region.Mode) (ops:Array Oper) (al:List NewV):Prop where
 lay:∀ x∈al,∃ o,ops[x.i]?=some o∧o.op=.alloc x.T∧o.guard=none∧o.dst=some x.d
 sto:∀ x∈al,∃ o,ops[x.s]?=some o∧o.op=.store x.T (.tmp x.d) x.y∧o.guard=none∧o.dst=none
 isl:∀ (i:Nat) (o:Oper) (T:TypeId),ops[i]?=some o→o.op=.alloc T→∃ x∈al,x.i=i
 iss:∀ (i:Nat) (o:Oper) (T:TypeId) (x y:Operand),ops[i]?=some o→o.op=.store T x y→∃ x∈al,x.s=i
 oth:∀ (i:Nat) (o:Oper),ops[i]?=some o→(∀ T,o.op≠.alloc T)→(∀ T x y,o.op≠.store T x y)→∀ x∈al,o.dst≠some x.d∧x.d∉o.looksAt ops
 one:∀ x∈al,∀ y∈al,x.i=y.i∨x.d=y.d∨x.s=y.s→x=y
 wait:∀ x∈al,Region.waitsFor md ops x.s x.i=true
 tmp:∀ x∈al,∀ t,opTmp x.y=some t→(∀ z∈al,z.d≠t)∧∀ (j:Nat) (o:Oper),ops[j]?=some o→o.dst=some t→Region.waitsFor md ops x.s j=true
theorem LaidS.up {W:World} {al:List NewV} {listed:Array Bool} {a:Act} {w w1:World} (k:NewOk md ops al) (h:LaidS ops W al listed a w) (hb:Below w.heap.size w w1) {i:Nat} {o:Oper} {v:Value}
 (ho:ops[i]?=some o) (hun:listed.getD i true=false) (h1:∀ T,o.op≠.alloc T) (h2:∀ T x y,o.op≠.store T x y):LaidS ops W al (listed.setIfInBounds i true) (a.put o.dst v) w1:=by
 have hi:∀ x∈al,x.i≠i:=fun x hx e=>by
  obtain ⟨oi,q1,q2,_⟩:=k.lay x hx;rw [e,ho] at q1;cases q1;exact h1 _ q2
 have hsi:∀ x∈al,x.s≠i:=fun x hx e=>by
  obtain ⟨oi,q1,q2,_⟩:=k.sto x hx;rw [e,ho] at q1;cases q1;exact h2 _ _ _ q2
 have hd:=k.oth i o ho h1 h2;have e:∀ x∈al,(listed.setIfInBounds i true).getD x.i false=listed.getD x.i false:=fun x hx=>getD_set_ne false (Ne.symm (hi x hx))
 have e':∀ x∈al,(listed.setIfInBounds i true).getD x.s false=listed.getD x.s false:=fun x hx=>getD_set_ne false (Ne.symm (hsi x hx))
 have g:∀ x∈al,(a.put o.dst v).tmps[x.d]?=a.tmps[x.d]?:=fun x hx=>by
  cases hod:o.dst with
  | none=>rfl
  | some d=>rw [put_get,if_neg fun c=>(hd x hx).1 (by rw [hod,c.1])]
 refine ⟨fun x hx hl => ?_,fun x hx y hy hne l1 l2 => ?_,fun x hx hl => ?_⟩
 ·rw [e x hx] at hl
  obtain ⟨b,k1,k2,k3,k4,k5⟩:=h.at_ x hx hl;refine ⟨b,by rw [g x hx,k1],k2,Nat.lt_of_lt_of_le k3 hb.size,fun q=>(k4 (by rw [← e' x hx];exact q)).up (hb.mono (Nat.le_refl _)),fun q => ?_⟩;rw [e' x hx] at q;obtain ⟨vs,j1,j2⟩:=k5 q;refine ⟨vs,?_,j2.up hb⟩;rw [← j1];refine congrArg Value.cells (eval_of_tmp fun t ht => ?_)
  cases hod:o.dst with
  | none=>rfl
  | some d =>
   rw [put_get,if_neg fun c => ?_];have:=(h.wr x hx q).2 t ht i o ho (by rw [hod,c.1]);rw [getD_both hun] at this;cases this
 ·rw [e x hx] at l1
  rw [e y hy] at l2;rw [g x hx,g y hy];exact h.ne x hx y hy hne l1 l2
 ·rw [e' x hx] at hl
  obtain ⟨q1,q2⟩:=h.wr x hx hl;exact ⟨by rw [e x hx];exact q1,fun t ht j oj hj hdj=>getD_set_true (q2 t ht j oj hj hdj)⟩
theorem LaidS.lay {W:World} {al:List NewV} {listed:Array Bool} {a:Act} {w:World} (k:NewOk md ops al) (h:LaidS ops W al listed a w) (hW:W.heap.size≤w.heap.size) {x:NewV} (hx:x∈al)
 (hun:listed.getD x.i true=false) (hlt:x.i<listed.size) (hsz:x.d<a.tmps.size) :
 LaidS ops W al (listed.setIfInBounds x.i true) (a.put (some x.d) (.pointer (some ⟨w.heap.size,0,none⟩))) (w.alloc (.cells x.cs.toArray x.T)):=by
 have hb2:Below w.heap.size w (w.alloc (.cells x.cs.toArray x.T)):=(Below.refl _ _).alloc (Nat.le_refl _) _
 have hsi:∀ z∈al,z.s≠x.i:=fun z hz e=>by
  obtain ⟨oi,q1,q2,_⟩:=k.sto z hz;obtain ⟨oj,p1,p2,_⟩:=k.lay x hx;rw [e,p1] at q1;cases q1;rw [p2] at q2;cases q2
 have e':∀ z∈al,(listed.setIfInBounds x.i true).getD z.s false=listed.getD z.s false:=fun z hz=>getD_set_ne false (Ne.symm (hsi z hz))
 have xs:listed.getD x.s false=false:=by
  cases q:listed.getD x.s false with
  | false=>rfl
  | true=>have:=(h.wr x hx q).1;rw [getD_both hun] at this;cases this
 have ev:∀ z∈al,(a.put (some x.d) (.pointer (some ⟨w.heap.size,0,none⟩))).eval z.y=a.eval z.y:=fun z hz=>eval_of_tmp fun t ht=>by
  rw [put_get,if_neg fun c=>(k.tmp z hz t ht).1 x hx c.1]
 have old:∀ z∈al,z≠x→(a.put (some x.d) (.pointer (some ⟨w.heap.size,0,none⟩))).tmps[z.d]?=a.tmps[z.d]?:=fun z hz hne=>by
  rw [put_get,if_neg fun c=>hne (k.one z hz x hx (.inr (.inl c.1.symm)))]
 have oldl:∀ z∈al,z≠x→(listed.setIfInBounds x.i true).getD z.i false=listed.getD z.i false:=fun z hz hne=>getD_set_ne false fun c=>hne (k.one z hz x hx (.inl c.symm))
 have new:(a.put (some x.d) (.pointer (some ⟨w.heap.size,0,none⟩))).tmps[x.d]?=some (.pointer (some ⟨w.heap.size,0,none⟩)):=by rw [put_get,if_pos ⟨rfl,hsz⟩]
 have no:∀ z∈al,z≠x→(listed.setIfInBounds x.i true).getD z.i false=true→a.tmps[z.d]?≠some (.pointer (some ⟨w.heap.size,0,none⟩)):=fun z hz hne hl e=>by
  rw [oldl z hz hne] at hl;obtain ⟨b,k1,_,k3,_⟩:=h.at_ z hz hl;rw [k1] at e;simp only [Option.some.injEq,Value.pointer.injEq,Addr.mk.injEq,and_true] at e;omega
 refine ⟨fun z hz hl => ?_,fun z hz y hy hne l1 l2 => ?_,fun z hz hl => ?_⟩
 ·rcases Classical.em (z=x) with rfl|hne
  ·refine ⟨_,new,hW,by simp,fun _=>own_layi rfl,fun q => ?_⟩
   rw [e' z hz,xs] at q;cases q
  ·rw [oldl z hz hne] at hl
   obtain ⟨b,k1,k2,k3,k4,k5⟩:=h.at_ z hz hl;refine ⟨b,by rw [old z hz hne,k1],k2,by simp;omega,fun q=>(k4 (by rw [← e' z hz];exact q)).up hb2,fun q => ?_⟩;obtain ⟨vs,j1,j2⟩:=k5 (by rw [← e' z hz];exact q);exact ⟨vs,by rw [ev z hz];exact j1,j2.up hb2⟩
 ·rcases Classical.em (z=x) with rfl|hzx
  ·have hyx:y≠z:=fun e=>hne (by rw [e])
   rw [new,old y hy hyx];exact fun e=>no y hy hyx l2 e.symm
  ·rcases Classical.em (y=x) with rfl|hyx
   ·rw [new,old z hz hzx];exact no z hz hzx l1
   ·rw [oldl z hz hzx] at l1
    rw [oldl y hy hyx] at l2;rw [old z hz hzx,old y hy hyx];exact h.ne z hz y hy hne l1 l2
 ·rw [e' z hz] at hl
  obtain ⟨q1,q2⟩:=h.wr z hz hl;exact ⟨getD_set_true q1,fun t ht j oj hj hdj=>getD_set_true (q2 t ht j oj hj hdj)⟩
theorem LaidS.sto {W:World} {al:List NewV} {listed:Array Bool} {a:Act} {w:World} (k:NewOk md ops al) (h:LaidS ops W al listed a w) {x:NewV} (hx:x∈al)
 (hr:x.s∈Region.ready md ops listed) {b:Nat} (hbx:a.tmps[x.d]?=some (.pointer (some ⟨b,0,none⟩))) {vs:List Value} (hv:(a.eval x.y).cells=vs.toArray) (hl:x.cs.length=vs.length) :
 LaidS ops W al (listed.setIfInBounds x.s true) a (w.setCells b 0 vs):=by
 have hun:=(mem_ready.1 hr).1;have xi:=waits_listed (k.wait x hx) hr
 have hsi:∀ z∈al,z.i≠x.s:=fun z hz e=>by
  obtain ⟨oi,q1,q2,_⟩:=k.lay z hz;obtain ⟨oj,p1,p2,_⟩:=k.sto x hx;rw [e,p1] at q1;cases q1;rw [p2] at q2;cases q2
 have e:∀ z∈al,(listed.setIfInBounds x.s true).getD z.i false=listed.getD z.i false:=fun z hz=>getD_set_ne false (Ne.symm (hsi z hz))
 have old:∀ z∈al,z≠x→(listed.setIfInBounds x.s true).getD z.s false=listed.getD z.s false:=fun z hz hne=>getD_set_ne false fun c=>hne (k.one z hz x hx (.inr (.inr c.symm)))
 refine ⟨fun z hz hl' => ?_,fun z hz y hy hne l1 l2 => ?_,fun z hz hl' => ?_⟩
 ·rw [e z hz] at hl'
  obtain ⟨c,k1,k2,k3,k4,k5⟩:=h.at_ z hz hl';rcases Classical.em (z=x) with rfl|hne
  ·rw [hbx] at k1
   cases k1;refine ⟨b,hbx,k2,by rw [sets_size];exact k3,fun q => ?_,fun _=>⟨vs,hv,(k4 (getD_both hun)).set hl⟩⟩;rw [getS hun] at q;cases q
  ·have hcb:c≠b:=fun q=>by
    have:=h.ne z hz x hx (fun q'=>hne (k.one z hz x hx (.inl q'))) hl' xi;rw [k1,hbx,q] at this;exact this rfl
   refine ⟨c,k1,k2,by rw [sets_size];exact k3,fun q=>(k4 (by rw [← old z hz hne];exact q)).off hcb,fun q => ?_⟩;obtain ⟨us,j1,j2⟩:=k5 (by rw [← old z hz hne];exact q);exact ⟨us,j1,j2.off hcb⟩
 ·rw [e z hz] at l1
  rw [e y hy] at l2;exact h.ne z hz y hy hne l1 l2
 ·rcases Classical.em (z=x) with rfl|hne
  ·exact ⟨getD_set_true xi,fun t ht j oj hj hdj=>getD_set_true (waits_listed ((k.tmp z hz t ht).2 j oj hj hdj) hr)⟩
  ·rw [old z hz hne] at hl'
   obtain ⟨q1,q2⟩:=h.wr z hz hl';exact ⟨getD_set_true q1,fun t ht j oj hj hdj=>getD_set_true (q2 t ht j oj hj hdj)⟩
def Shape (al:List NewV) (a:Act):Prop:=∀ x∈al,∃ vs:List Value,(a.eval x.y).cells=vs.toArray∧x.cs.length=vs.length∧∀ u∈vs,u.oneCell'=true
theorem wpAny_of_famS {W:World} {n:Nat} {al:List NewV} {L:Array Bool→Act→Prop} {Q':Exit→Act→World→Prop} (hsel:Region.noSelect ops=true) (k:NewOk md ops al)
 (hz:∀ x∈al,∀ w,(Instr.alloc x.T true (.tuple #[])).run P w=.ok (.pointer (some ⟨w.heap.size,0,none⟩)) (w.alloc (.cells x.cs.toArray x.T)))
 (hi:∀ x∈al,(P.info? x.T).map (·.size)=some x.cs.length)
 (hSh:∀ listed aq,L listed aq→Shape al aq)
 (hL:∀ listed aq a w,Below W.heap.size W w→Same (al.map (·.d)) aq a→LaidS ops W al listed a w→L listed aq→wpAny P md ops Q' 0 listed a w) :
 ∀ (f:Nat) (listed:Array Bool) (aq a:Act) (w:World),(∀ x∈al,x.d<a.tmps.size)→listed.size=ops.size→Below W.heap.size W w→Same (al.map (·.d)) aq a→LaidS ops W al listed a w →
  (∀ V,Below W.heap.size W V→headAny P md (ops.map maskS) (fun w'=>∃ p:Bel V,w'=p.w1) n L f listed aq)→wpAny P md ops Q' f listed a w
 | 0,listed,aq,a,w,_,_,hb,hs,hl,H=>hL _ _ _ _ hb hs hl (H w hb)
 | f+1,listed,aq,a,w,hsz,hls,hb,hs,hl,H=>by
  have HW:=H W (Below.refl _ _);have Hw:=H w hb;refine ⟨fun h0=>absurd (by rw [ready_maskS];exact h0) Hw.1,fun i hri => ?_⟩;have hi':i∈Region.ready md (ops.map maskS) listed:=by rw [ready_maskS];exact hri
  obtain ⟨hin,hq⟩:=Hw.2 i hi';obtain ⟨hun,o,ho,_⟩:=mem_ready.1 hri;have hilt:i<listed.size:=by rw [hls];exact (Array.getElem?_eq_some_iff.1 ho).1
  have ho':(ops.map maskS)[i]?=some (maskS o):=by rw [maskS_get,ho];rfl
  obtain ⟨v,hy,_⟩:=yieldsIn_of_qOp ho' hq;obtain ⟨v0,hy0,_⟩:=yieldsIn_of_qOp ho' (HW.2 i hi').2;have ev0:v0=v:=yields_det (w:=w) ⟨⟨w,hb⟩,rfl⟩ ⟨⟨w,Below.refl _ _⟩,rfl⟩ hy0 hy;subst ev0
  have fam:∀ V,Below W.heap.size W V→headAny P md (ops.map maskS) (fun w'=>∃ p:Bel V,w'=p.w1) n L f (listed.setIfInBounds i true) (aq.put o.dst v0):=fun V hV=>by
   obtain ⟨u,hu,hn⟩:=yieldsIn_of_qOp ho' ((H V hV).2 i hi').2;have:=yields_det (w:=V) ⟨⟨V,hV⟩,rfl⟩ ⟨⟨V,Below.refl _ _⟩,rfl⟩ hy0 hu;subst this;rw [maskS_dst] at hn;exact hn
  have hset:∀ (a2:Act),a2.tmps.size=a.tmps.size→∀ x∈al,x.d<a2.tmps.size:=fun a2 e x hx=>by rw [e];exact hsz x hx
  by_cases hal:∃ T,o.op=.alloc T
  ·obtain ⟨T,hT⟩:=hal
   obtain ⟨x,hx,rfl⟩:=k.isl i o T ho hT;obtain ⟨o2,p1,p2,p3,p4⟩:=k.lay x hx;rw [ho] at p1;cases p1;unfold wpOp;simp only [ho];rw [if_pos (by unfold Region.wanted;rw [p3])];left;unfold Oper.wp;have hrun:(execOp a.eval o).run P w=.ok (.value (.pointer (some ⟨w.heap.size,0,none⟩))) (w.alloc (.cells x.cs.toArray x.T)):=by have:=hz x hx w;simp only [execOp,p2];simp [this]
   rw [hrun];show wpAny P md ops Q' f (listed.setIfInBounds x.i true) (a.put o.dst (.pointer (some ⟨w.heap.size,0,none⟩))) (w.alloc (.cells x.cs.toArray x.T));refine wpAny_of_famS hsel k hz hi hSh hL f _ (aq.put o.dst v0) _ _ (hset _ (put_size _ _ _)) (by simp [hls]) (hb.alloc hb.size _) ?_ ?_ fam
   ·rw [p4];exact hs.putIn (List.mem_map.2 ⟨x,hx,rfl⟩) _ _
   ·rw [p4];exact hl.lay k hb.size hx hun hilt (hsz x hx)
  ·have hno:∀ T,o.op≠.alloc T:=fun T e=>hal ⟨T,e⟩
   by_cases hst:∃ T x y,o.op=.store T x y
   ·obtain ⟨T,p,y,hT⟩:=hst
    obtain ⟨x,hx,rfl⟩:=k.iss i o T p y ho hT;obtain ⟨o2,p1,p2,p3,p4⟩:=k.sto x hx;rw [ho] at p1;cases p1;have xi:=waits_listed (k.wait x hx) hri;obtain ⟨b,k1,k2,k3,k4,_⟩:=hl.at_ x hx xi;obtain ⟨l',a',hL',hend⟩:=headAny_end _ _ _ Hw;obtain ⟨vs,hv,hlen,hone⟩:=hSh _ _ hL' x hx
    have e1:a'.eval x.y=aq.eval x.y:=eval_of_tmp fun t ht=>hend t fun j oj hj hlj hdj=>by
     rw [maskS_get] at hj
     cases hq2:ops[j]? with
     | none=>rw [hq2] at hj;cases hj
     | some oo =>
      rw [hq2] at hj;cases hj;rw [maskS_dst] at hdj;have:=waits_listed ((k.tmp x hx t ht).2 j oo hq2 hdj) hri;rw [getD_both hlj] at this;cases this
    have e2:a.eval x.y=aq.eval x.y:=eval_of_tmp fun t ht=>hs.off t fun hm=>by
     obtain ⟨z,hz',e⟩:=List.mem_map.1 hm;exact (k.tmp x hx t ht).1 z hz' e
    rw [e1,← e2] at hv;unfold wpOp;simp only [ho];rw [if_pos (by unfold Region.wanted;rw [p3])];left;have hO:=k4 (getD_both hun);have hda:a.eval (.tmp x.d)=.pointer (some ⟨b,0,none⟩):=by simp only [Act.eval,Array.getD_eq_getD_getElem?,k1];rfl
    unfold Oper.wp execOp;simp only [p2,hda,run_storeAt_cells w b 0 x.T _ vs hv (fun j hj=>(hO.there j (by omega)).1) (fun j hj=>(hO.there j (by omega)).2) (by rw [hi x hx,hlen]) hone,Sem.run_bind,Result.andThen_ok,Sem.run_pure];have e:a.put o.dst undef=a:=by rw [p4];rfl
    show _;simp only [Oper.upon,e];refine wpAny_of_famS hsel k hz hi hSh hL f _ (aq.put o.dst v0) _ _ (hset _ rfl) (by simp [hls]) (Below.sets k2 _ _ _ hb) (by rw [p4];exact hs) (hl.sto k hx hri k1 hv hlen) fam
   ·have hns:∀ T x y,o.op≠.store T x y:=fun T x y e=>hst ⟨T,x,y,e⟩
    rw [maskS_other hno hns] at hy;have hAi2:=k.oth i o ho hno hns
    have hD:∀ t∈o.looksAt ops,t∉al.map (·.d):=fun t ht hm=>by
     obtain ⟨x,hx,rfl⟩:=List.mem_map.1 hm;exact (hAi2 x hx).2 ht
    have hsl:=Region.noSelect_spec hsel i o;have he:=hs.exec (ops:=ops) (o:=o) (fun cs b=>hsl cs b ho) hD;have hwn:=hs.wanted (ops:=ops) (o:=o) hD
    have go:∀ w2,Below w.heap.size w w2→wpAny P md ops Q' f (listed.setIfInBounds i true) (a.put o.dst v0) w2:=fun w2 hb2 =>
     wpAny_of_famS hsel k hz hi hSh hL f _ (aq.put o.dst v0) _ _ (hset _ (put_size _ _ _)) (by simp [hls]) (hb.trans (hb2.mono hb.size)) (hs.put _ _) (hl.up k hb2 ho hun hno hns) fam
    unfold wpOp;simp only [ho];have hwm:Region.wanted o (yielded (ops.map maskS) aq.tmps)=Region.wanted o (yielded ops aq.tmps):=by have e:yielded (ops.map maskS) aq.tmps=yielded ops aq.tmps:=funext (yielded_maskS aq.tmps);rw [e]
    rcases hy with ⟨g1,h1⟩|⟨g1,rfl⟩
    ·rw [hwm,← hwn] at g1
     rw [if_pos g1];left;have h3:=h1 w ⟨⟨w,Below.refl _ _⟩,rfl⟩;unfold Oper.quietAt at h3;rw [← he] at h3;unfold Oper.wp;generalize (execOp a.eval o).run P w=r at *
     cases r with
     | ok m w' =>
      cases m<;>simp only [Oper.quietUpon] at h3<;>simp only [Oper.upon]
      case value u=>obtain ⟨rfl,rfl⟩:=h3;exact go _ (Below.refl _ _)
      case skip=>obtain ⟨rfl,rfl⟩:=h3;exact go _ (Below.refl _ _)
      case enter fn args =>
       obtain ⟨rfl,hc⟩:=h3;exact hc.mono fun e w'' ⟨he,p,hp⟩=>by subst he;subst hp;exact go _ p.h
     | halt x w'=>simp only [Oper.quietUpon] at h3
    ·rw [hwm,← hwn] at g1
     rw [if_neg (by rw [g1];decide)];exact go _ (Below.refl _ _)

def storeT (o:Oper):Bool:=match o.op with
 | .store _ _ _=>true
 | _=>false
theorem storeT_no {o:Oper} (h:∀ T x y,o.op≠.store T x y):storeT o=false:=by
 unfold storeT
 split
 ·rename_i T x y hT;exact absurd hT (h T x y)
 ·rfl
theorem storeT_yes {o:Oper} {T:TypeId} {x y:Operand} (h:o.op=.store T x y):storeT o=true:=by unfold storeT;rw [h]
theorem wpQuiet_app {Q:Act→Prop} : ∀ {l1 l2:List Oper} {a:Act},wpQuiet P ops C (wpQuiet P ops C Q l2) l1 a→wpQuiet P ops C Q (l1++l2) a
 | [],_,_,h=>h
 | o :: l,_,_,h=>by
  unfold wpQuiet at h;show wpQuiet P ops C Q (o :: (l++_)) _;unfold wpQuiet
  split
  ·rename_i hw;rw [if_pos hw] at h;exact Oper.quiet_mono (fun a=>wpQuiet_app) h
  ·rename_i hw;rw [if_neg hw] at h;exact wpQuiet_app h
theorem quiet_maskS {Q:Act→Prop} {o:Oper} {T:TypeId} {x y:Operand} {l:List Oper} {a:Act} (ho:o.op=.store T x y) (hg:o.guard=none) (hd:o.dst=none) (h:wpQuiet P ops C Q l a):wpQuiet P ops C Q (maskS o :: l) a:=by
 have e:maskS o = { o with op:=.move (.const (.bool false)) } := by unfold maskS;rw [ho]
 rw [e];unfold wpQuiet;rw [if_pos (by unfold Region.wanted;simp [hg])];refine ⟨.bool false,fun w _ => ?_,?_⟩
 ·unfold Oper.quietAt execOp Oper.quietUpon
  simp [Act.eval]
 ·simp only [hd];exact h
end
end Go.Proofs.YtiochgoocbkckaaGreatDoor

namespace Go.Proofs.YtiochgoocbkckaaGreatDoor
open Go Go.RowKit

section
variable {P:Program} {md:Region.Mode} {C:World→Prop} {ops:Array Oper}

abbrev Sk:=Nat×Nat×Nat×Option Nat
def skOf (x:NewV):Sk:=(x.i,x.d,x.s,opTmp x.y)
def newNB (md:Region.Mode) (ops:Array Oper) (al:List Sk):Bool :=
 (allO ops fun k o=>if (allocT o).isSome then al.any fun x=>x.1==k else if storeT o then al.any fun x=>x.2.2.1==k else al.all fun x=>o.dst != some x.2.1 && !(o.looksAt ops).contains x.2.1) &&
 decide ((al.map fun x=>x.1).Nodup∧(al.map fun x=>x.2.1).Nodup∧(al.map fun x=>x.2.2.1).Nodup)&&(al.all fun x=>Region.waitsFor md ops x.2.2.1 x.1) &&
 al.all fun x=>(al.all fun z=>x.2.2.2 != some z.2.1)&&allO ops fun k o=>o.dst.isNone||o.dst != x.2.2.2||Region.waitsFor md ops x.2.2.1 k
theorem inj_map {α β:Type} {f:α→β} : ∀ {l:List α},(l.map f).Nodup→∀ {x y:α},x∈l→y∈l→f x=f y→x=y
 | [],_,_,_,h,_,_=>by cases h
 | a :: l,hn,x,y,hx,hy,e=>by
  rw [List.map_cons,List.nodup_cons] at hn;rcases List.mem_cons.1 hx with h1|h1<;>rcases List.mem_cons.1 hy with h2|h2
  ·rw [h1,h2]
  ·exact absurd (List.mem_map.2 ⟨y,h2,by rw [← e,h1]⟩) hn.1
  ·exact absurd (List.mem_map.2 ⟨x,h1,by rw [e,h2]⟩) hn.1
  ·exact inj_map hn.2 h1 h2 e
theorem newOk_N {al:List NewV} (hB:newNB md ops (al.map skOf)=true) (h1:∀ x∈al,∃ o,ops[x.i]?=some o∧o.op=.alloc x.T∧o.guard=none∧o.dst=some x.d)
 (h2:∀ x∈al,∃ o,ops[x.s]?=some o∧o.op=.store x.T (.tmp x.d) x.y∧o.guard=none∧o.dst=none):NewOk md ops al:=by
 simp only [newNB,Bool.and_eq_true,decide_eq_true_eq,List.all_eq_true,List.map_map] at hB;obtain ⟨⟨⟨hA,hni,hnd,hns⟩,hw⟩,hy⟩:=hB;have mm:∀ {x:NewV},x∈al→skOf x∈al.map skOf:=fun h=>List.mem_map.2 ⟨_,h,rfl⟩
 refine ⟨h1,h2,fun k o T0 ho h0 => ?_,fun k o T0 a b ho h0 => ?_,fun k o ho hno hns' x hx => ?_,fun x hx z hz' h => ?_,fun x hx=>hw _ (mm hx),fun x hx u hu=>⟨fun z hz' e => ?_,fun k o ho hd => ?_⟩⟩
 ·have:=allO_spec hA ho
  simp only [allocT_some h0,Option.isSome_some,if_true,List.any_eq_true,beq_iff_eq] at this;obtain ⟨y,hy',e⟩:=this;obtain ⟨x,hx,rfl⟩:=List.mem_map.1 hy';exact ⟨x,hx,e⟩
 ·have:=allO_spec hA ho
  have hno:∀ T,o.op≠.alloc T:=fun T q=>by rw [h0] at q;cases q
  simp only [allocT_none hno,Option.isSome_none,Bool.false_eq_true,if_false,storeT_yes h0,if_true,List.any_eq_true,beq_iff_eq] at this;obtain ⟨y,hy',e⟩:=this;obtain ⟨x,hx,rfl⟩:=List.mem_map.1 hy';exact ⟨x,hx,e⟩
 ·have:=allO_spec hA ho
  simp only [allocT_none hno,Option.isSome_none,Bool.false_eq_true,if_false,storeT_no hns',List.all_eq_true,Bool.and_eq_true,bne_iff_ne,ne_eq,Bool.not_eq_true',List.contains_eq_mem,decide_eq_false_iff_not] at this;exact this _ (mm hx)
 ·rcases h with h|h|h
  ·exact inj_map (f:=fun x=>x.i) hni hx hz' h
  ·exact inj_map (f:=fun x=>x.d) hnd hx hz' h
  ·exact inj_map (f:=fun x=>x.s) hns hx hz' h
 ·have:=(hy _ (mm hx)).1 _ (mm hz')
  simp only [skOf,bne_iff_ne,ne_eq] at this;exact this (by rw [hu,e])
 ·have:=allO_spec (hy _ (mm hx)).2 ho
  simp only [skOf,hu] at this
  simpa [hd] using this
def newsB (l:List Oper) (n:Nat) (al:List Sk):Bool :=
 Region.noSelect l.toArray&&Region.noSelect (l.map maskS).toArray&&newNB .any l.toArray al &&
 lexHeadA .any (l.map maskS).toArray (n+al.length) 0 (Array.replicate l.length false)&&(Region.ready .any l.toArray (restA l (n+al.length))).isEmpty &&
 (al.all fun x=>(restA l (n+al.length)).getD x.1 false&&(restA l (n+al.length)).getD x.2.2.1 false)&&sinkAll .any (l.map maskS).toArray (n+al.length)
theorem quiet_masks {Q:Act→Prop} : ∀ {t:List Oper} {a:Act},(∀ o∈t,(∃ T x y,o.op=.store T x y)∧o.guard=none∧o.dst=none)→Q a→wpQuiet P ops C Q (t.map maskS) a
 | [],_,_,h=>wpQuiet_nil h
 | o :: t,a,ht,h=>by
  obtain ⟨⟨T,x,y,h1⟩,h2,h3⟩:=ht o (List.mem_cons_self ..);exact quiet_maskS h1 h2 h3 (quiet_masks (fun o' h'=>ht o' (List.mem_cons_of_mem _ h')) h)
theorem list_choose {α β:Type} {R:α→β→Prop} : ∀ {l:List α},(∀ x∈l,∃ b,R x b)→∃ bs:List β,bs.length=l.length∧∀ (k:Nat) (x:α) (b:β),l[k]?=some x→bs[k]?=some b→R x b
 | [],_=>⟨[],rfl,fun k x b h=>by simp at h⟩
 | a :: l,h=>by
  obtain ⟨b,hb⟩:=h a (List.mem_cons_self ..);obtain ⟨bs,h1,h2⟩:=list_choose fun x hx=>h x (List.mem_cons_of_mem _ hx)
  refine ⟨b :: bs,by simp [h1],fun k x c hx hc => ?_⟩
  cases k with
  | zero=>simp at hx hc;subst hx;subst hc;exact hb
  | succ k=>simp at hx hc;exact h2 k x c hx hc
theorem same_puts {ds:List Nat} {bs:List Value} {a b:Act} (h:Same ds a b) (hn:ds.Nodup) (hl:bs.length=ds.length) (hsz:∀ d∈ds,d<a.tmps.size) (hb:∀ (k d:Nat) (v:Value),ds[k]?=some d→bs[k]?=some v→b.tmps[d]?=some v):b=putsH a ds bs:=by
 have e:b.tmps=(putsH a ds bs).tmps:=by
  refine Array.ext_getElem? fun t => ?_
  by_cases ht:t∈ds
  ·obtain ⟨k,hk,e⟩:=List.getElem_of_mem ht
   have h1:ds[k]?=some t:=by rw [List.getElem?_eq_getElem hk,e]
   have h2:bs[k]?=some bs[k]:=List.getElem?_eq_getElem (by omega);rw [hb k t _ h1 h2,putsH_in ds bs a hn h1 h2 (hsz t ht)]
  ·rw [h.off t ht,putsH_off ds bs a ht]
 cases b
 rename_i tm df
 have d:df=(putsH a ds bs).defers:=by rw [putsH_defers];exact h.defers
 simp only at e;rw [e,d]
theorem wpQuiet_size {Q:Act→Prop} : ∀ {l:List Oper} {a:Act},wpQuiet P ops C Q l a→wpQuiet P ops C (fun aq=>Q aq∧aq.tmps.size=a.tmps.size) l a
 | [],_,h=>⟨h,rfl⟩
 | o :: l,a,h=>by
  unfold wpQuiet at h ⊢
  split
  ·rename_i hw
   rw [if_pos hw] at h;obtain ⟨v,h1,h2⟩:=h;exact ⟨v,h1,wpQuiet_mono' (fun aq ⟨q1,q2⟩=>⟨q1,by rw [q2,put_size]⟩) (wpQuiet_size h2)⟩
  ·rename_i hw
   rw [if_neg hw] at h;exact wpQuiet_mono' (fun aq ⟨q1,q2⟩=>⟨q1,by rw [q2,put_size]⟩) (wpQuiet_size h)
theorem wp_region_newN {id:Nat} {Q:Exit→Act→World→Prop} {a:Act} {w:World} {l:List Oper} (n:Nat) (al:List NewV) (hm:P.follows .mixedOrders=true) (hlen:l.length=n+al.length)
 (hB:newsB l n (al.map skOf)=true)
 (hal:∀ x∈al,(l[x.i]?).map (fun o=>(allocT o,o.guard.isNone,o.dst))=some (some x.T,true,some x.d))
 (hst:∀ (k:Nat) (x:NewV),al[k]?=some x→∃ o,l[n+k]?=some o∧o.op=.store x.T (.tmp x.d) x.y∧o.guard=none∧o.dst=none∧x.s=n+k)
 (hsz:∀ x∈al,x.d<a.tmps.size)
 (hz:∀ x∈al,∀ w,(Instr.alloc x.T true (.tuple #[])).run P w=.ok (.pointer (some ⟨w.heap.size,0,none⟩)) (w.alloc (.cells x.cs.toArray x.T))) (hi:∀ x∈al,(P.info? x.T).map (·.size)=some x.cs.length)
 (h:∀ V,Below w.heap.size w V→wpQuiet P (l.map maskS).toArray (fun w'=>∃ p:Bel V,w'=p.w1)
  (fun aq=>∃ vss:List (List Value),vss.length=al.length∧(∀ (k:Nat) (x:NewV) (vs:List Value),al[k]?=some x→vss[k]?=some vs→(aq.eval x.y).cells=vs.toArray∧x.cs.length=vs.length∧∀ u∈vs,u.oneCell'=true) ∧
   ∀ (bs:List Nat) (w':World),Below w.heap.size w w'→bs.length=al.length→bs.Nodup→(∀ (k b:Nat) (vs:List Value),bs[k]?=some b→vss[k]?=some vs→w.heap.size≤b∧b<w'.heap.size∧Own w' b 0 vs) →
    Q .normal (putsH aq (al.map (·.d)) (bs.map fun b=>.pointer (some ⟨b,0,none⟩))) w') ((l.map maskS).take n) a):(Code.region id l.toArray true).wp P Q a w:=by
 simp only [newsB,Bool.and_eq_true,List.isEmpty_iff,List.length_map,List.all_eq_true] at hB;obtain ⟨⟨⟨⟨⟨⟨hsel,hsel'⟩,hN⟩,hlex⟩,hrd⟩,hin⟩,hsink⟩:=hB;have mm:∀ {x:NewV},x∈al→skOf x∈al.map skOf:=fun h=>List.mem_map.2 ⟨_,h,rfl⟩
 have al_of:∀ x∈al,∃ o,l.toArray[x.i]?=some o∧o.op=.alloc x.T∧o.guard=none∧o.dst=some x.d:=by
  intro x hx;have hk:=hal x hx
  cases hq:l[x.i]? with
  | none=>rw [hq] at hk;cases hk
  | some o =>
   rw [hq] at hk;simp only [Option.map_some,Option.some.injEq,Prod.mk.injEq] at hk;refine ⟨o,by simpa using hq,?_,by simpa using hk.2.1,hk.2.2⟩;have h0:=hk.1;unfold allocT at h0
   split at h0
   ·rename_i T1 hT1;cases h0;exact hT1
   ·cases h0
 have st_of:∀ x∈al,∃ o,l.toArray[x.s]?=some o∧o.op=.store x.T (.tmp x.d) x.y∧o.guard=none∧o.dst=none:=by intro x hx;obtain ⟨k,hk,e⟩:=List.getElem_of_mem hx;obtain ⟨o,h1,h2,h3,h4,h5⟩:=hst k x (by rw [List.getElem?_eq_getElem hk,e]);exact ⟨o,by rw [h5];simpa using h1,h2,h3,h4⟩
 have hk:NewOk .any l.toArray al:=newOk_N hN al_of st_of;have hnd:(al.map (·.d)).Nodup∧(al.map (·.i)).Nodup:=by simp only [newNB,Bool.and_eq_true,decide_eq_true_eq,List.map_map] at hN;exact ⟨hN.1.1.2.2.1,hN.1.1.2.1⟩
 have hmm:(l.map maskS).toArray=l.toArray.map maskS:=by simp
 refine wp_region_any hm ?_;rw [show l.toArray.size=n+al.length by simp [hlen]];have e1:Array.replicate (n+al.length) false=Array.replicate l.length false:=by rw [hlen]
 rw [e1]
 have inv0:HeadInv .any (l.map maskS).toArray (n+al.length) (Array.replicate l.length false) :=
  ⟨by simp,fun j oj _ hl=>(by rw [getD_replicate_false] at hl;cases hl),fun t _ ht=>getD_in (by simpa using ht) (getD_replicate_false _ _)⟩
 let K:Act→Prop:=fun aq=>Shape al aq∧∀ a' w',Below w.heap.size w w'→Same (al.map (·.d)) aq a'→aq.tmps.size=a.tmps.size→LaidS l.toArray w al (restA l (n+al.length)) a' w'→Q .normal a' w'
 refine wpAny_of_famS (W:=w) (n:=n+al.length) (al:=al) (L:=fun listed' aq=>listed'=restA l (n+al.length)∧K aq∧aq.tmps.size=a.tmps.size) hsel hk hz hi (fun _ _ hL=>hL.2.1.1)
  (fun listed aq a' w' hb hs' hl' hL => ?_) (n+al.length) _ a a _ hsz (by simp) ((Below.refl _ w).drew) (Same.refl _ _) ?_ fun V hV => ?_
 ·obtain ⟨rfl,⟨_,hK⟩,hS⟩:=hL
  exact ⟨hrd,hK a' w' hb hs' hS hl'⟩
 ·refine ⟨fun x _ hl => ?_,fun x _ y _ _ hl _ => ?_,fun x _ hl => ?_⟩
  ·rw [getD_replicate_false] at hl;cases hl
  ·rw [getD_replicate_false] at hl;cases hl
  ·rw [getD_replicate_false] at hl;cases hl
 ·have htl:(l.map maskS).length=n+al.length:=by simp [hlen]
  rw [← hmm]
  have hq:wpQuiet P (l.map maskS).toArray (fun w'=>∃ p:Bel V,w'=p.w1) (fun aq=>K aq∧aq.tmps.size=a.tmps.size) (l.map maskS) a:=by
   have hsplit:l.map maskS=(l.map maskS).take n++(l.drop n).map maskS:=by rw [← List.map_take,← List.map_append,List.take_append_drop]
   have H0:=h V hV;have H1:=wpQuiet_size H0;generalize (l.map maskS).toArray=M at H1 ⊢;rw [hsplit];refine wpQuiet_app (wpQuiet_mono' (fun aq hk2 => ?_) H1);obtain ⟨⟨vss,hvl,hsh,hgo⟩,hS⟩:=hk2;have getv:∀ (k:Nat) (x:NewV),al[k]?=some x→∃ vs,vss[k]?=some vs:=fun k x hx=>⟨_,List.getElem?_eq_getElem (by rw [hvl];exact (List.getElem?_eq_some_iff.1 hx).1)⟩
   refine quiet_masks (fun o ho => ?_) ⟨⟨fun x hx => ?_,fun a' w' hb hsm _ hl' => ?_⟩,hS⟩
   ·obtain ⟨k,hk',e⟩:=List.getElem_of_mem ho
    rw [List.length_drop] at hk';obtain ⟨o',q1,q2,q3,q4,_⟩:=hst k _ (List.getElem?_eq_getElem (by omega));have:o'=o:=by rw [List.getElem_drop] at e;rw [List.getElem?_eq_getElem (by omega)] at q1;rw [← e];exact (Option.some.inj q1).symm
    subst this;exact ⟨⟨_,_,_,q2⟩,q3,q4⟩
   ·obtain ⟨k,hk',e⟩:=List.getElem_of_mem hx
    have hx':al[k]?=some x:=by rw [List.getElem?_eq_getElem hk',e]
    obtain ⟨vs,hv⟩:=getv k x hx';exact ⟨vs,hsh k x vs hx' hv⟩
   ·-- the blocks
    obtain ⟨bs,hbl,hbs⟩:=list_choose (R:=fun (x:NewV) (b:Nat)=>a'.tmps[x.d]?=some (.pointer (some ⟨b,0,none⟩))∧w.heap.size≤b∧b<w'.heap.size∧∃ vs:List Value,(a'.eval x.y).cells=vs.toArray∧Own w' b 0 vs) (l:=al) fun x hx=>by
     obtain ⟨q1,q2⟩:=hin _ (mm hx);obtain ⟨b,b1,b2,b3,_,b5⟩:=hl'.at_ x hx q1;exact ⟨b,b1,b2,b3,b5 q2⟩
    have ev:∀ x∈al,a'.eval x.y=aq.eval x.y:=fun x hx=>eval_of_tmp fun t ht=>hsm.off t fun hm=>by
     obtain ⟨z,hz1,hz2⟩:=List.mem_map.1 hm;exact (hk.tmp x hx t ht).1 z hz1 hz2
    have hputs:a'=putsH aq (al.map (·.d)) (bs.map fun b=>.pointer (some ⟨b,0,none⟩)):=same_puts hsm hnd.1 (by simp [hbl]) (fun d hd=>by
     obtain ⟨x,hx,rfl⟩:=List.mem_map.1 hd;rw [hS];exact hsz x hx) (fun k d v hd hv=>by
     rw [List.getElem?_map] at hd hv;obtain ⟨x,hx,rfl⟩:=Option.map_eq_some_iff.1 hd;obtain ⟨b,hb',rfl⟩:=Option.map_eq_some_iff.1 hv
     exact (hbs k x b hx hb').1)
    rw [hputs];refine hgo bs w' hb hbl ?_ fun k b vs hbk hvk => ?_
    ·rw [List.nodup_iff_pairwise_ne,List.pairwise_iff_getElem]
     intro i j hi' hj' hij e;have xi:al[i]?=some al[i]:=List.getElem?_eq_getElem (by omega);have xj:al[j]?=some al[j]:=List.getElem?_eq_getElem (by omega);have bi:=(hbs i _ bs[i] xi (List.getElem?_eq_getElem hi')).1;have bj:=(hbs j _ bs[j] xj (List.getElem?_eq_getElem hj')).1;refine hl'.ne _ (List.mem_of_getElem? xi) _ (List.mem_of_getElem? xj) (fun e2 => ?_) (hin _ (mm (List.mem_of_getElem? xi))).1 (hin _ (mm (List.mem_of_getElem? xj))).1 (by rw [bi,bj,e]);have:=inj_map (f:=fun x=>x.i) hnd.2 (List.mem_of_getElem? xi) (List.mem_of_getElem? xj) e2;have n1:=hnd.2;rw [List.nodup_iff_pairwise_ne,List.pairwise_iff_getElem] at n1;exact n1 i j (by simp;omega) (by simp;omega) hij (by simpa using e2)
    ·have hkl:k<al.length:=by rw [← hbl];exact (List.getElem?_eq_some_iff.1 hbk).1
     have xk:al[k]?=some al[k]:=List.getElem?_eq_getElem hkl;obtain ⟨_,b2,b3,vs2,p1,p2⟩:=hbs k _ b xk hbk;rw [ev _ (List.mem_of_getElem? xk),(hsh k _ vs xk hvk).1] at p1;have:vs=vs2:=by simpa using p1
     subst this;exact ⟨b2,b3,p2⟩
  have H:=headA_lex (md:=.any) (n:=n+al.length) hsel' hsink (l.map maskS) 0 _ a (fun j hj=>by simp) (by simpa using htl) inv0 (by rw [htl];exact hlex) hq;rw [htl] at H;exact H
end
end Go.Proofs.YtiochgoocbkckaaGreatDoor
