/-
 Two more laws on regions that leave their order open. The head may lay blocks at any time: one walk of the head's other operations, in the text's order, serves all orders; the blocks come under names of their own. What follows the head may come in any order: it is handed on as it is, or as a sequence, or as two sequences. Conditions: closed facts on the region's edges, by the kernel.
-/
import Derived.Test.YtiochgoocbkckaaGreatDoorAgab
import Derived.Test.YtiochgoocbkckaaGreatDoorAgag
import Derived.Deep.MidRow
set_option maxRecDepth 100000
set_option linter.unusedSimpArgs false
set_option linter.unusedVariables false
namespace Go.Proofs.YtiochgoocbkckaaGreatDoor
open Go Go.RowKit

section
theorem Calls.det {P:Program} {f:FuncId} {args:Array Value} {w:World} {v u:Value} {A B:World→Prop}
 (h1:Calls P f args w fun e w'=>e=.returned v∧A w') (h2:Calls P f args w fun e w'=>e=.returned u∧B w'):v=u:=by
 let c:Frame := { fn:=0,tmps:=#[],todo:=[.code (.cond (.const (.tuple #[])) .skip .skip)],defers:=[],mode:=.run,kind:=.normal }
 obtain ⟨_,w1,fr1,⟨rfl,_⟩,⟨n1,hc1⟩,_,hl1⟩:=h1 [c];obtain ⟨_,w2,fr2,⟨rfl,_⟩,⟨n2,hc2⟩,_,hl2⟩:=h2 [c]
 have key:∀ {n m:Nat} {M:Machine} {fa fb:Frame} {wa wb:World} {x y:Value},n≤m→runN P n M=.next (lone fa [c] wa)→runN P m M=.next (lone fb [c] wb)→fa.leaving P wa (.returned x)→fb.leaving P wb (.returned y)→x=y:=by
  intro n m M fa fb wa wb x y hnm ha hb la lb;obtain ⟨d,rfl⟩:=Nat.exists_eq_add_of_le hnm;rw [runN_add,ha] at hb;simp only at hb
  cases d with
  | zero =>
   simp only [runN,Stepped.next.injEq] at hb
   have e:fa=fb∧wa=wb:=by
    unfold lone at hb
    simpa [and_comm] using hb
   obtain ⟨rfl,rfl⟩:=e;obtain ⟨_,_,_,fn,hf,hr⟩:=la;obtain ⟨_,_,_,fn',hf',hr'⟩:=lb;rw [hf] at hf';cases hf';rw [hr] at hr';cases hr';rfl
  | succ d =>
   simp only [runN,step_leave_returned la] at hb;have hst:∃ o,step P (lone (c.finish x) [] wa)=.ended o wa:=⟨_,step_lone_ended (by simp [stepG,stepG.exec,c,Frame.finish,Frame.eval];rfl)⟩
   obtain ⟨o,hst⟩:=hst
   cases d with
   | zero =>
    simp only [runN,Stepped.next.injEq] at hb;unfold lone at hb;simp at hb
   | succ d=>simp [runN,hst] at hb
 rcases Nat.le_total n1 n2 with h|h
 ·exact key h hc1 hc2 hl1 hl2
 ·exact (key h hc2 hc1 hl2 hl1).symm

variable {P:Program} {md:Region.Mode} {C C':World→Prop} {ops:Array Oper}

theorem quietAt_det {o:Oper} {a:Act} {w:World} {v u:Value} (h1:o.quietAt P a C w v) (h2:o.quietAt P a C' w u):v=u:=by
 unfold Oper.quietAt at *;generalize (execOp a.eval o).run P w=r at *
 cases r with
 | ok n w' =>
  cases n<;>simp only [Oper.quietUpon] at h1 h2
  case value x=>exact h1.2.symm.trans h2.2
  case skip=>exact h1.2.trans h2.2.symm
  case enter f args =>
   obtain ⟨_,c1⟩:=h1;obtain ⟨_,c2⟩:=h2;exact Calls.det c1 c2
 | halt x w'=>simp only [Oper.quietUpon] at h1

def maskOp (o:Oper):Oper:=match o.op with
 | .alloc _ => { o with op:=.move (.const (.bool false)) }
 | _=>o
theorem mask_dst (o:Oper):(maskOp o).dst=o.dst:=by unfold maskOp;split<;>rfl
theorem mask_after (o:Oper):(maskOp o).after=o.after:=by unfold maskOp;split<;>rfl
theorem mask_guard (o:Oper):(maskOp o).guard=o.guard:=by unfold maskOp;split<;>rfl
theorem mask_get (i:Nat):(ops.map maskOp)[i]?=(ops[i]?).map maskOp:=by simp
theorem ready_mask (listed:Array Bool):Region.ready md (ops.map maskOp) listed=Region.ready md ops listed:=by
 unfold Region.ready;simp only [Array.size_map,mask_get,Option.map_map];refine List.filter_congr fun i _ => ?_
 cases ops[i]?<;>simp [mask_after]
theorem yielded_mask (tmps:Array Value) (j:Nat):yielded (ops.map maskOp) tmps j=yielded ops tmps j:=by
 unfold yielded;rw [mask_get]
 cases ops[j]? with
 | none=>rfl
 | some o=>simp [mask_dst]
theorem wanted_mask (o:Oper) (tmps:Array Value):Region.wanted (maskOp o) (yielded (ops.map maskOp) tmps)=Region.wanted o (yielded ops tmps):=by
 have e:yielded (ops.map maskOp) tmps=yielded ops tmps:=funext (yielded_mask tmps);unfold Region.wanted;rw [e,mask_guard]
theorem looks_mask (o:Oper):o.looksAt (ops.map maskOp)=o.looksAt ops:=by
 unfold Oper.looksAt
 cases o.guard with
 | none=>rfl
 | some g =>
  simp only [mask_get];cases ops[g.1]?<;>simp [mask_dst]

def sinkAll (md:Region.Mode) (ops:Array Oper) (n:Nat):Bool :=
 (List.range ops.size).all fun t=>decide (t<n)||(List.range n).all fun i=>Region.waitsFor md ops t i||(List.range n).any fun j=>decide (i<j)&&Region.waitsFor md ops j i
theorem tail_waitsA {n:Nat} {listed:Array Bool} (hs:sinkAll md ops n=true) (inv:HeadInv md ops n listed) :
 ∀ (d i:Nat),n-i=d→i<n→listed.getD i true=false→∀ t,n≤t→t∉Region.ready md ops listed:=by
 intro d
 induction d using Nat.strongRecOn with
 | _ d ih =>
  intro i hd hi hun t ht hr;obtain ⟨_,ot,hot,hall⟩:=mem_ready.1 hr;have htlt:t<ops.size:=(Array.getElem?_eq_some_iff.1 hot).1;have h1:=List.all_eq_true.1 hs t (List.mem_range.2 htlt);rcases Nat.lt_or_ge t n with h0|h0
  ·omega
  simp only [Bool.or_eq_true,decide_eq_true_eq,Nat.not_lt.2 h0,false_or] at h1;have h2:=List.all_eq_true.1 h1 i (List.mem_range.2 hi);simp only [Bool.or_eq_true] at h2;rcases h2 with h2|h2
  ·obtain ⟨oj,hoj,e,he,hb,hon⟩:=Region.waitsFor_spec h2
   have:oj=ot:=Option.some.inj (hoj.symm.trans hot);subst this;have h3:=hall e he hb;rw [hon,getD_both hun] at h3;cases h3
  ·obtain ⟨j,hj,hj2⟩:=List.any_eq_true.1 h2
   simp only [Bool.and_eq_true,decide_eq_true_eq] at hj2;have hjn:=List.mem_range.1 hj;obtain ⟨oj,hoj,e,he,hb,hon⟩:=Region.waitsFor_spec hj2.2
   cases hl:listed.getD j false with
   | true =>
    have h3:=inv.closed j oj hoj hl e he hb;rw [hon,getD_both hun] at h3;cases h3
   | false=>exact ih (n-j) (by omega) j rfl hjn (getD_in (by rw [inv.size];omega) hl) t ht hr

theorem headA_first {n i:Nat} {oi:Oper} {v:Value} {L:Array Bool→Act→Prop} (hi:ops[i]?=some oi) (hsel:∀ (j:Nat) (o:Oper) cs b,ops[j]?=some o→o.op≠.select cs b)
 (hs:sinkAll md ops n=true) (hin:i<n) (hdone:∀ listed a,L listed a→∀ j∈Region.ready md ops listed,n≤j) :
 ∀ (f:Nat) (listed:Array Bool) (a:Act),HeadInv md ops n listed →
  (∀ j oj,ops[j]?=some oj→j≠i→listed.getD j true=false→(∀ e∈oj.after,Region.binds md e=true→e.on≠i)→oi.apart ops oj=true) →
  i∈Region.ready md ops listed→YieldsIn P ops C oi v a →
  headAny P md ops C n L f (listed.setIfInBounds i true) (a.put oi.dst v)→headAny P md ops C n L (f+1) listed a:=by
 intro f
 induction f with
 | zero =>
  intro listed a inv _ hr hy H;refine ⟨fun h=>(by rw [h] at hr;cases hr),fun j hj => ?_⟩;have hjn:j<n:=Nat.lt_of_not_le fun h=>tail_waitsA hs inv _ i rfl hin (mem_ready.1 hr).1 j h hj
  refine ⟨hjn,?_⟩;rcases Nat.decEq j i with hji|hji
  ·exact absurd (hdone _ _ H j (ready_mono hj hji)) (by omega)
  ·subst hji;exact hy.qOp hi H
 | succ f ih =>
  intro listed a inv hfree hr hy H;refine ⟨fun h=>(by rw [h] at hr;cases hr),fun j hj => ?_⟩;have hjn:j<n:=Nat.lt_of_not_le fun h=>tail_waitsA hs inv _ i rfl hin (mem_ready.1 hr).1 j h hj
  refine ⟨hjn,?_⟩;rcases Nat.decEq j i with hji|hji
  ·have h1:=(H.2 j (ready_mono hj hji)).2
   obtain ⟨hjun,oj,hoj,hall⟩:=mem_ready.1 hj
   have hnot:∀ e∈oj.after,Region.binds md e=true→e.on≠i:=fun e he hb heq=>by
    have h2:=hall e he hb;rw [heq,getD_both (mem_ready.1 hr).1] at h2;cases h2
   have h2:=qOp_put hoj (hfree j oj hoj hji hjun hnot) (fun cs b=>hsel i oi cs b hi) (fun cs b=>hsel j oj cs b hoj) hy h1;refine qOp_mono (fun a' h3=>ih (listed.setIfInBounds j true) a' (inv.set hj hjn) (fun k ok hk hki hun hno=>hfree k ok hk hki ?_ hno) (ready_mono hr (Ne.symm hji)) h3.1 ?_) h2
   ·rcases Nat.decEq j k with hjk|hjk
    ·rw [getD_set_ne true hjk] at hun;exact hun
    ·subst hjk;exact hjun
   ·rw [Array.setIfInBounds_comm _ _ hji];exact h3.2
  ·subst hji;exact hy.qOp hi H

def lexHeadA (md:Region.Mode) (ops:Array Oper):Nat→Nat→Array Bool→Bool
 | 0,k,listed=>(Region.ready md ops listed).all fun j=>decide (k≤j)
 | f+1,k,listed=>(Region.ready md ops listed).contains k&&Region.free md ops listed k&&lexHeadA md ops f (k+1) (listed.setIfInBounds k true)
def lexListed:Nat→Nat→Array Bool→Array Bool
 | 0,_,listed=>listed
 | f+1,k,listed=>lexListed f (k+1) (listed.setIfInBounds k true)
theorem lexA_done:∀ (f k:Nat) (listed:Array Bool),lexHeadA md ops f k listed=true→∀ j∈Region.ready md ops (lexListed f k listed),k+f≤j
 | 0,k,listed,h,j,hj=>by
  have:=List.all_eq_true.1 h j hj
  simpa using this
 | f+1,k,listed,h,j,hj=>by
  simp only [lexHeadA,Bool.and_eq_true] at h;have:=lexA_done f (k+1) _ h.2 j hj;omega
theorem headA_lex {n:Nat} {K:Act→Prop} (hsel:Region.noSelect ops=true) (hs:sinkAll md ops n=true) :
 ∀ (l:List Oper) (k:Nat) (listed:Array Bool) (a:Act),(∀ j,j<l.length→l[j]?=ops[k+j]?)→k+l.length=n→HeadInv md ops n listed →
  lexHeadA md ops l.length k listed=true→wpQuiet P ops C K l a →
  headAny P md ops C n (fun listed' a'=>listed'=lexListed l.length k listed∧K a') l.length listed a
 | [],k,listed,a,_,hk,_,hB,h=>⟨rfl,h⟩
 | o :: l,k,listed,a,hl,hk,inv,hB,h=>by
  have h0:ops[k]?=some o:=by simpa using (hl 0 (by simp)).symm
  have hBB:=hB;simp only [List.length_cons,lexHeadA,Bool.and_eq_true] at hB;simp only [List.length_cons] at hk;have hr:k∈Region.ready md ops listed:=by simpa using hB.1.1
  have hst:qOp P ops C k (wpQuiet P ops C K l) a:=by unfold qOp;simp only [h0];exact h
  obtain ⟨v,hy,hK⟩:=yieldsIn_of_qOp h0 hst;refine headA_first h0 (Region.noSelect_spec hsel) hs (by omega) (fun listed' a' hL j hj => ?_) l.length listed a inv (Region.free_spec h0 hB.1.2) hr hy ?_
  ·have:=lexA_done _ _ _ hBB j (by rw [List.length_cons];exact hL.1▸hj)
   simp only [List.length_cons] at this;omega
  exact headA_lex hsel hs l (k+1) _ _ (fun j hj=>by have:=hl (j+1) (by simp;omega);simpa [Nat.add_assoc,Nat.add_comm 1 j] using this) (by omega) (inv.set hr (by omega)) hB.2 hK

structure Same (D:List Nat) (a b:Act):Prop where
 defers:b.defers=a.defers
 size:b.tmps.size=a.tmps.size
 off:∀ t,t∉D→b.tmps[t]?=a.tmps[t]?
theorem Same.refl (D:List Nat) (a:Act):Same D a a:=⟨rfl,rfl,fun _ _=>rfl⟩
theorem put_get (a:Act) (d t:Nat) (v:Value):(a.put (some d) v).tmps[t]?=if d=t∧t<a.tmps.size then some v else a.tmps[t]?:=by
 simp only [Act.put,Array.getElem?_setIfInBounds]
 by_cases h:d=t
 ·subst h
  by_cases h2:d<a.tmps.size
  ·simp [h2]
  ·simp [h2]
 ·simp [h]
theorem put_size (a:Act) (d:Option Tmp) (v:Value):(a.put d v).tmps.size=a.tmps.size:=by cases d<;>simp [Act.put]
theorem put_defers (a:Act) (d:Option Tmp) (v:Value):(a.put d v).defers=a.defers:=by cases d<;>rfl
theorem Same.put {D:List Nat} {a b:Act} (h:Same D a b) (d:Option Tmp) (v:Value):Same D (a.put d v) (b.put d v):=by
 refine ⟨by rw [put_defers,put_defers,h.defers],by rw [put_size,put_size,h.size],fun t ht => ?_⟩
 cases d with
 | none=>exact h.off t ht
 | some d=>rw [put_get,put_get,h.size,h.off t ht]
theorem Same.putIn {D:List Nat} {a b:Act} (h:Same D a b) {d:Tmp} (hd:d∈D) (v u:Value):Same D (a.put (some d) v) (b.put (some d) u):=by
 refine ⟨by rw [put_defers,put_defers,h.defers],by rw [put_size,put_size,h.size],fun t ht => ?_⟩;have hne:d≠t:=fun e=>ht (e▸hd)
 rw [put_get,put_get,if_neg (fun e=>hne e.1),if_neg (fun e=>hne e.1),h.off t ht]
theorem Same.exec {D:List Nat} {a b:Act} (h:Same D a b) {o:Oper} (hsel:∀ cs b,o.op≠.select cs b) (hD:∀ t∈o.looksAt ops,t∉D):execOp b.eval o=execOp a.eval o:=by
 refine execOp_congr o hsel fun x hx => ?_
 cases x with
 | tmp t =>
  have ht:t∉D:=hD t (List.mem_append_left _ (List.mem_filterMap.2 ⟨.tmp t,by simpa using hx,rfl⟩));simp only [Act.eval,Array.getD_eq_getD_getElem?,h.off t ht]
 | _=>rfl
theorem Same.wanted {D:List Nat} {a b:Act} (h:Same D a b) {o:Oper} (hD:∀ t∈o.looksAt ops,t∉D):Region.wanted o (yielded ops b.tmps)=Region.wanted o (yielded ops a.tmps):=by
 unfold Region.wanted
 cases hg:o.guard with
 | none=>rfl
 | some gw =>
  obtain ⟨g,want⟩:=gw
  have hy:yielded ops b.tmps g=yielded ops a.tmps g:=by
   unfold yielded
   cases ht:(ops[g]?).bind (·.dst) with
   | none=>rfl
   | some t =>
    have:t∉D:=hD t (by simp [Oper.looksAt,hg,ht]);simp [h.off t this]
  simp only [hy]

structure Laid (W:World) (al:List (Nat×Nat×List Value×TypeId)) (listed:Array Bool) (a:Act) (w:World):Prop where
 at_:∀ x∈al,listed.getD x.1 false=true→∃ b,a.tmps[x.2.1]?=some (.pointer (some ⟨b,0,none⟩))∧W.heap.size≤b∧b<w.heap.size∧Own w b 0 x.2.2.1
 ne:∀ x∈al,∀ y∈al,x.1≠y.1→listed.getD x.1 false=true→listed.getD y.1 false=true→a.tmps[x.2.1]?≠a.tmps[y.2.1]?
def allocT (o:Oper):Option TypeId:=match o.op with
 | .alloc T=>some T
 | _=>none
theorem allocT_some {o:Oper} {T:TypeId} (h:o.op=.alloc T):allocT o=some T:=by unfold allocT;rw [h]
theorem allocT_none {o:Oper} (h:∀ T,o.op≠.alloc T):allocT o=none:=by
 unfold allocT
 split
 ·rename_i T hT;exact absurd hT (h T)
 ·rfl
def allocB (ops:Array Oper) (n:Nat) (al:List (Nat×Nat×List Value×TypeId)):Bool :=
 ((List.range n).all fun i=>match ops[i]? with
  | some o=>match allocT o with
   | some T=>o.guard.isNone&&al.any fun x=>x.1==i&&o.dst==some x.2.1&&x.2.2.2==T
   | none=>al.all fun x=>o.dst != some x.2.1 && !(o.looksAt ops).contains x.2.1
  | none=>false) &&
 (al.all fun x=>match ops[x.1]? with|some o=>(allocT o).isSome|none=>false) &&
 (al.all fun x=>al.all fun y=>if x.1=y.1 then x.2.1==y.2.1&&x.2.2.2==y.2.2.2 else x.2.1 != y.2.1)&&al.all fun x=>decide (x.1<n)

theorem own_layi {w:World} {T:TypeId} {cs:List Value} : ∀ {l:List Value} {i:Nat},cs.drop i=l→Own (w.alloc (.cells cs.toArray T)) w.heap.size i l
 | [],_,_=>trivial
 | v :: l,i,h=>by
  have h1:cs[i]?=some v:=by rw [← List.head?_drop,h];rfl
  refine ⟨⟨?_,by simp [go_sem]⟩,own_layi ?_⟩
  ·rw [World.cell?_alloc_at _ _ _ _ rfl];simpa using h1
  ·rw [← List.tail_drop,h];rfl
theorem maskOp_alloc {o:Oper} {T:TypeId} (h:o.op=.alloc T):maskOp o = { o with op:=.move (.const (.bool false)) } := by unfold maskOp;rw [h]
theorem maskOp_other {o:Oper} (h:∀ T,o.op≠.alloc T):maskOp o=o:=by
 unfold maskOp
 split
 ·rename_i T hT;exact absurd hT (h T)
 ·rfl
theorem Laid.up {W:World} {al:List (Nat×Nat×List Value×TypeId)} {listed:Array Bool} {a:Act} {w w1:World} (h:Laid W al listed a w) (hb:Below w.heap.size w w1) {i:Nat} {d:Option Tmp} {v:Value}
 (hi:∀ x∈al,x.1≠i) (hd:∀ x∈al,d≠some x.2.1):Laid W al (listed.setIfInBounds i true) (a.put d v) w1:=by
 have e:∀ x∈al,(listed.setIfInBounds i true).getD x.1 false=listed.getD x.1 false:=fun x hx=>getD_set_ne false (Ne.symm (hi x hx))
 have g:∀ x∈al,(a.put d v).tmps[x.2.1]?=a.tmps[x.2.1]?:=fun x hx=>by
  cases d with
  | none=>rfl
  | some d=>rw [put_get,if_neg fun c=>hd x hx (by rw [c.1])]
 refine ⟨fun x hx hl => ?_,fun x hx y hy hne h1 h2 => ?_⟩
 ·rw [e x hx] at hl
  obtain ⟨b,k1,k2,k3,k4⟩:=h.at_ x hx hl;exact ⟨b,by rw [g x hx,k1],k2,Nat.lt_of_lt_of_le k3 hb.size,k4.up hb⟩
 ·rw [e x hx] at h1
  rw [e y hy] at h2;rw [g x hx,g y hy];exact h.ne x hx y hy hne h1 h2
theorem yields_det {o:Oper} {a:Act} {v u:Value} {w:World} (hw:C w) (hw':C' w) (h1:YieldsIn P ops C o v a) (h2:YieldsIn P ops C' o u a):v=u:=by
 rcases h1 with ⟨g1,h1⟩|⟨g1,rfl⟩<;>rcases h2 with ⟨g2,h2⟩|⟨g2,rfl⟩
 ·exact quietAt_det (h1 w hw) (h2 w hw')
 ·rw [g1] at g2;cases g2
 ·rw [g1] at g2;cases g2
 ·rfl
theorem wpAny_of_fam {W:World} {n g:Nat} {al:List (Nat×Nat×List Value×TypeId)} {L:Array Bool→Act→Prop} {Q':Exit→Act→World→Prop} (hsel:Region.noSelect ops=true) (hA:allocB ops n al=true)
 (hz:∀ x∈al,∀ w,(Instr.alloc x.2.2.2 true (.tuple #[])).run P w=.ok (.pointer (some ⟨w.heap.size,0,none⟩)) (w.alloc (.cells x.2.2.1.toArray x.2.2.2)))
 (hL:∀ listed aq a w,Below W.heap.size W w→Same (al.map (·.2.1)) aq a→Laid W al listed a w→L listed aq→wpAny P md ops Q' g listed a w) :
 ∀ (f:Nat) (listed:Array Bool) (aq a:Act) (w:World),(∀ x∈al,x.2.1<a.tmps.size)→listed.size=ops.size→Below W.heap.size W w→Same (al.map (·.2.1)) aq a→Laid W al listed a w →
  (∀ V,Below w.heap.size w V→headAny P md (ops.map maskOp) (fun w'=>∃ p:Bel V,w'=p.w1) n L f listed aq)→wpAny P md ops Q' (f+g) listed a w
 | 0,listed,aq,a,w,_,_,hb,hs,hl,H=>by rw [Nat.zero_add];exact hL _ _ _ _ hb hs hl (H w (Below.refl _ _))
 | f+1,listed,aq,a,w,hsz,hls,hb,hs,hl,H=>by
  rw [show f+1+g=(f+g)+1 from by omega];have Hw:=H w (Below.refl _ _);refine ⟨fun h0=>absurd (by rw [ready_mask];exact h0) Hw.1,fun i hi => ?_⟩;have hi':i∈Region.ready md (ops.map maskOp) listed:=by rw [ready_mask];exact hi
  obtain ⟨hin,hq⟩:=Hw.2 i hi';obtain ⟨hun,o,ho,_⟩:=mem_ready.1 hi;have hilt:i<listed.size:=by rw [hls];exact (Array.getElem?_eq_some_iff.1 ho).1
  have ho':(ops.map maskOp)[i]?=some (maskOp o):=by rw [mask_get,ho];rfl
  obtain ⟨v,hy,_⟩:=yieldsIn_of_qOp ho' hq
  have fam:∀ V,Below w.heap.size w V→headAny P md (ops.map maskOp) (fun w'=>∃ p:Bel V,w'=p.w1) n L f (listed.setIfInBounds i true) (aq.put o.dst v):=fun V hV=>by
   obtain ⟨u,hu,hn⟩:=yieldsIn_of_qOp ho' ((H V hV).2 i hi').2;have:=yields_det (w:=V) ⟨⟨V,hV⟩,rfl⟩ ⟨⟨V,Below.refl _ _⟩,rfl⟩ hy hu;subst this;rw [mask_dst] at hn;exact hn
  simp only [allocB,Bool.and_eq_true] at hA;have hAi:=List.all_eq_true.1 hA.1.1.1 i (List.mem_range.2 hin);have hset:∀ (w2:World) (a2:Act),a2.tmps.size=a.tmps.size→∀ x∈al,x.2.1<a2.tmps.size:=fun _ a2 e x hx=>by rw [e];exact hsz x hx
  by_cases hal:∃ T,o.op=.alloc T
  ·obtain ⟨T,hT⟩:=hal
   simp only [ho,allocT_some hT,Bool.and_eq_true] at hAi;obtain ⟨hg,hx⟩:=hAi;obtain ⟨x,hx,hx2⟩:=List.any_eq_true.1 hx;simp only [Bool.and_eq_true,beq_iff_eq] at hx2;obtain ⟨⟨hxi,hxd⟩,hxT⟩:=hx2;have hg:o.guard=none:=by simpa using hg
   unfold wpOp;simp only [ho];rw [if_pos (by unfold Region.wanted;rw [hg])];left;unfold Oper.wp;have hrun:(execOp a.eval o).run P w=.ok (.value (.pointer (some ⟨w.heap.size,0,none⟩))) (w.alloc (.cells x.2.2.1.toArray T)):=by have:=hz x hx w;rw [hxT] at this;simp only [execOp,hT];simp [this]
   rw [hrun];show wpAny P md ops Q' (f+g) (listed.setIfInBounds i true) (a.put o.dst (.pointer (some ⟨w.heap.size,0,none⟩))) (w.alloc (.cells x.2.2.1.toArray T));have hb2:Below w.heap.size w (w.alloc (.cells x.2.2.1.toArray T)):=(Below.refl _ _).alloc (Nat.le_refl _) _;have hbW:Below W.heap.size W (w.alloc (.cells x.2.2.1.toArray T)):=hb.alloc hb.size _;refine wpAny_of_fam hsel (by simp only [allocB,Bool.and_eq_true];exact hA) hz hL f _ (aq.put o.dst v) _ _ (hset w _ (put_size _ _ _)) (by simp [hls]) hbW ?_ ?_ fun V hV=>fam V (hb2.trans (hV.mono hb2.size))
   ·rw [hxd];exact hs.putIn (List.mem_map.2 ⟨x,hx,rfl⟩) _ _
   ·have own:∀ y∈al,y.1=i→(a.put o.dst (.pointer (some ⟨w.heap.size,0,none⟩))).tmps[y.2.1]?=some (.pointer (some ⟨w.heap.size,0,none⟩))∧Own (w.alloc (.cells x.2.2.1.toArray T)) w.heap.size 0 y.2.2.1:=by
     intro y hy hyi;have hxy:=List.all_eq_true.1 (List.all_eq_true.1 hA.1.2 x hx) y hy;rw [if_pos (hxi.trans hyi.symm)] at hxy;simp only [Bool.and_eq_true,beq_iff_eq] at hxy;refine ⟨by rw [hxd,hxy.1,put_get,if_pos ⟨rfl,hsz y hy⟩],?_⟩;have h1:=hz x hx w;have h2:=hz y hy w;rw [← hxy.2,h1] at h2;simp only [Result.ok.injEq,true_and] at h2;rw [hxT] at h2;rw [h2];exact own_layi rfl
    have old:∀ y∈al,y.1≠i→(listed.setIfInBounds i true).getD y.1 false=true→∃ b,(a.put o.dst (.pointer (some ⟨w.heap.size,0,none⟩))).tmps[y.2.1]?=some (.pointer (some ⟨b,0,none⟩))∧W.heap.size≤b∧b<w.heap.size∧Own w b 0 y.2.2.1:=by
     intro y hy hyi hl2;rw [getD_set_ne false (Ne.symm hyi)] at hl2;obtain ⟨b,k1,k2,k3,k4⟩:=hl.at_ y hy hl2;have hxy:=List.all_eq_true.1 (List.all_eq_true.1 hA.1.2 x hx) y hy;rw [if_neg (fun e=>hyi (e.symm.trans hxi))] at hxy;have hne:x.2.1≠y.2.1:=by simpa using hxy
     exact ⟨b,by rw [hxd,put_get,if_neg (fun c=>hne c.1),k1],k2,k3,k4⟩
    refine ⟨fun y hy hl2 => ?_,fun y hy z hz' hne h1 h2 => ?_⟩
    ·by_cases hyi:y.1=i
     ·obtain ⟨k1,k2⟩:=own y hy hyi
      exact ⟨_,k1,hb.size,by simp,k2⟩
     ·obtain ⟨b,k1,k2,k3,k4⟩:=old y hy hyi hl2
      exact ⟨b,k1,k2,by simp;omega,k4.up hb2⟩
    ·by_cases hyi:y.1=i
     ·obtain ⟨k1,_⟩:=own y hy hyi
      obtain ⟨b,j1,_,j3,_⟩:=old z hz' (fun e=>hne (hyi.trans e.symm)) h2;rw [k1,j1];intro e;simp only [Option.some.injEq,Value.pointer.injEq,Addr.mk.injEq,and_true] at e;omega
     ·obtain ⟨b,j1,_,j3,_⟩:=old y hy hyi h1
      by_cases hzi:z.1=i
      ·obtain ⟨k1,_⟩:=own z hz' hzi
       rw [k1,j1];intro e;simp only [Option.some.injEq,Value.pointer.injEq,Addr.mk.injEq,and_true] at e;omega
      ·have g:∀ x∈al,x.1≠i→(a.put o.dst (.pointer (some ⟨w.heap.size,0,none⟩))).tmps[x.2.1]?=a.tmps[x.2.1]?:=by
        intro y' hy' hyi';have hxy:=List.all_eq_true.1 (List.all_eq_true.1 hA.1.2 x hx) y' hy';rw [if_neg (fun e=>hyi' (e.symm.trans hxi))] at hxy;have hne:x.2.1≠y'.2.1:=by simpa using hxy
        rw [hxd,put_get,if_neg (fun c=>hne c.1)]
       rw [g y hy hyi,g z hz' hzi];rw [getD_set_ne false (Ne.symm hyi)] at h1;rw [getD_set_ne false (Ne.symm hzi)] at h2;exact hl.ne y hy z hz' hne h1 h2
  ·have hno:∀ T,o.op≠.alloc T:=fun T e=>hal ⟨T,e⟩
   rw [maskOp_other hno] at hy
   have hAi2:∀ x∈al,o.dst≠some x.2.1∧x.2.1∉o.looksAt ops:=by
    rw [ho] at hAi;intro x hx
    have hAi3:(al.all fun x=>o.dst != some x.2.1 && !(o.looksAt ops).contains x.2.1)=true:=by
     simpa only [allocT_none hno] using hAi
    have:=List.all_eq_true.1 hAi3 x hx
    simpa using this
   have hxi:∀ x∈al,x.1≠i:=by intro x hx e;have h1:=List.all_eq_true.1 hA.1.1.2 x hx;rw [e,ho] at h1;simp only [allocT_none hno] at h1;cases h1
   have hD:∀ t∈o.looksAt ops,t∉al.map (·.2.1):=fun t ht hm=>by
    obtain ⟨x,hx,rfl⟩:=List.mem_map.1 hm;exact (hAi2 x hx).2 ht
   have hsl:=Region.noSelect_spec hsel i o;have he:=hs.exec (ops:=ops) (o:=o) (fun cs b=>hsl cs b ho) hD;have hwn:=hs.wanted (ops:=ops) (o:=o) hD
   have go:∀ w2,Below w.heap.size w w2→wpAny P md ops Q' (f+g) (listed.setIfInBounds i true) (a.put o.dst v) w2:=fun w2 hb2 =>
    wpAny_of_fam hsel (by simp only [allocB,Bool.and_eq_true];exact hA) hz hL f _ (aq.put o.dst v) _ _ (hset w2 _ (put_size _ _ _)) (by simp [hls]) (hb.trans (hb2.mono hb.size)) (hs.put _ _)
     (hl.up hb2 hxi fun x hx=>(hAi2 x hx).1) fun V hV=>fam V (hb2.trans (hV.mono hb2.size))
   unfold wpOp;simp only [ho];have hwm:Region.wanted o (yielded (ops.map maskOp) aq.tmps)=Region.wanted o (yielded ops aq.tmps):=by have e:yielded (ops.map maskOp) aq.tmps=yielded ops aq.tmps:=funext (yielded_mask aq.tmps);rw [e]
   rcases hy with ⟨g1,h1⟩|⟨g1,rfl⟩
   ·rw [hwm,← hwn] at g1
    rw [if_pos g1];left;have h3:=h1 w ⟨⟨w,Below.refl _ _⟩,rfl⟩;unfold Oper.quietAt at h3;rw [← he] at h3;unfold Oper.wp;generalize (execOp a.eval o).run P w=r at *
    cases r with
    | ok m w' =>
     cases m<;>simp only [Oper.quietUpon] at h3<;>simp only [Oper.upon]
     case value u=>obtain ⟨rfl,rfl⟩:=h3;exact go _ (Below.refl _ _)
     case skip=>obtain ⟨rfl,rfl⟩:=h3;exact go _ (Below.refl _ _)
     case enter fn args =>
      obtain ⟨rfl,hc⟩:=h3;exact hc.mono fun e w'' ⟨he,p,hp⟩=>by subst he;subst hp;exact go _ p.h
    | halt x w'=>simp only [Oper.quietUpon] at h3
   ·rw [hwm,← hwn] at g1
    rw [if_neg (by rw [g1];decide)];exact go _ (Below.refl _ _)

def headB (l:List Oper) (n:Nat) (al:List (Nat×Nat×List Value×TypeId)):Bool :=
 Region.noSelect l.toArray&&Region.noSelect (l.map maskOp).toArray&&decide (n≤l.length)&&sinkAll .any (l.map maskOp).toArray n&&allocB l.toArray n al&&lexHeadA .any (l.map maskOp).toArray n 0 (Array.replicate l.length false)
def restA (l:List Oper) (n:Nat):Array Bool:=lexListed n 0 (Array.replicate l.length false)
theorem wp_region_headA {id:Nat} {Q:Exit→Act→World→Prop} {a:Act} {w:World} {l:List Oper} (n:Nat) (al:List (Nat×Nat×List Value×TypeId)) (hm:P.follows .mixedOrders=true) (hB:headB l n al=true)
 (hsz:∀ x∈al,x.2.1<a.tmps.size)
 (hz:∀ x∈al,∀ w,(Instr.alloc x.2.2.2 true (.tuple #[])).run P w=.ok (.pointer (some ⟨w.heap.size,0,none⟩)) (w.alloc (.cells x.2.2.1.toArray x.2.2.2)))
 (h:∀ V,Below w.heap.size w V→wpQuiet P (l.map maskOp).toArray (fun w'=>∃ p:Bel V,w'=p.w1)
  (fun aq=>∀ a' w',Below w.heap.size w w'→Same (al.map (·.2.1)) aq a'→Laid w al (restA l n) a' w'→wpAny P .any l.toArray Q (l.length-n) (restA l n) a' w') ((l.map maskOp).take n) a):(Code.region id l.toArray true).wp P Q a w:=by
 simp only [headB,Bool.and_eq_true,decide_eq_true_eq] at hB;obtain ⟨⟨⟨⟨⟨hsel,hsel'⟩,hn⟩,hs⟩,hA⟩,hlex⟩:=hB;have hmm:(l.map maskOp).toArray=l.toArray.map maskOp:=by simp
 have htl:((l.map maskOp).take n).length=n:=by simp;omega
 have inv0:HeadInv .any (l.map maskOp).toArray n (Array.replicate l.length false) :=
  ⟨by simp,fun j oj _ hl=>(by rw [getD_replicate_false] at hl;cases hl),fun t _ ht=>getD_in (by simpa using ht) (getD_replicate_false _ _)⟩
 refine wp_region_any hm ?_;rw [show l.toArray.size=n+(l.length-n) by simp;omega];have e1:Array.replicate (n+(l.length-n)) false=Array.replicate l.length false:=by rw [show n+(l.length-n)=l.length by omega]
 rw [e1]
 refine wpAny_of_fam (W:=w) (n:=n) (al:=al) (L:=fun listed' aq=>listed'=restA l n∧∀ a' w',Below w.heap.size w w'→Same (al.map (·.2.1)) aq a'→Laid w al (restA l n) a' w'→wpAny P .any l.toArray Q (l.length-n) (restA l n) a' w')
  hsel hA hz (fun listed aq a' w' hb hs' hl hL => ?_) n _ a a _ hsz (by simp) ((Below.refl _ w).drew) (Same.refl _ _) ?_ fun V hV => ?_
 ·obtain ⟨rfl,hK⟩:=hL
  exact hK a' w' hb hs' hl
 ·refine ⟨fun x _ hl => ?_,fun x _ y _ _ hl _ => ?_⟩
  ·rw [getD_replicate_false] at hl;cases hl
  ·rw [getD_replicate_false] at hl;cases hl
 ·have hV':Below w.heap.size w V:=((Below.refl _ w).drew).trans hV
  rw [← hmm]
  have H:=headA_lex (md:=.any) hsel' hs ((l.map maskOp).take n) 0 _ a (fun j hj=>by
   rw [htl] at hj
   simp [hj]) (by simpa using htl) inv0 (by rw [htl];exact hlex) (h V hV')
  rw [htl] at H;exact H
theorem act_ext {a b:Act} (h1:a.defers=b.defers) (h2:∀ t:Nat,a.tmps[t]?=b.tmps[t]?):a=b:=by
 obtain ⟨t1,d1⟩:=a;obtain ⟨t2,d2⟩:=b;simp only at h1 h2;rw [h1,Array.ext_getElem? h2]
theorem same_none {a b:Act} (h:Same [] a b):b=a:=act_ext h.defers fun t=>h.off t (by simp)
theorem same_one {a b:Act} {d:Nat} {v:Value} (h:Same [d] a b) (hd:b.tmps[d]?=some v):b=a.put (some d) v:=by
 refine act_ext (by rw [put_defers,h.defers]) fun t => ?_
 rw [put_get]
 by_cases e:d=t
 ·subst e
  have:d<b.tmps.size:=(Array.getElem?_eq_some_iff.1 hd).1;rw [if_pos ⟨rfl,by rw [← h.size];exact this⟩,hd]
 ·rw [if_neg fun c=>e c.1]
  exact h.off t (by simp [Ne.symm e])
theorem same_two {a b:Act} {d e:Nat} {v u:Value} (h:Same [d,e] a b) (hde:d≠e) (hd:b.tmps[d]?=some v) (he:b.tmps[e]?=some u):b=(a.put (some d) v).put (some e) u:=by
 refine act_ext (by rw [put_defers,put_defers,h.defers]) fun t => ?_
 rw [put_get,put_size,put_get];have h1:d<a.tmps.size:=by rw [← h.size];exact (Array.getElem?_eq_some_iff.1 hd).1
 have h2:e<a.tmps.size:=by rw [← h.size];exact (Array.getElem?_eq_some_iff.1 he).1
 by_cases e1:e=t
 ·subst e1
  rw [if_pos ⟨rfl,h2⟩,he]
 ·rw [if_neg fun c=>e1 c.1]
  by_cases e2:d=t
  ·subst e2
   rw [if_pos ⟨rfl,h1⟩,hd]
  ·rw [if_neg fun c=>e2 c.1]
   exact h.off t (by simp [Ne.symm e1,Ne.symm e2])
theorem wpQuiet_mono' {K K':Act→Prop} (h:∀ a,K a→K' a):∀ {l:List Oper} {a:Act},wpQuiet P ops C K l a→wpQuiet P ops C K' l a
 | [],_,hh=>h _ hh
 | o :: l,a,hh=>by
  unfold wpQuiet at hh ⊢
  split
  ·rename_i hw;rw [if_pos hw] at hh;exact Oper.quiet_mono (fun a=>wpQuiet_mono' h) hh
  ·rename_i hw;rw [if_neg hw] at hh;exact wpQuiet_mono' h hh
theorem wp_region_head0 {id:Nat} {Q:Exit→Act→World→Prop} {a:Act} {w:World} {l:List Oper} (n:Nat) (hm:P.follows .mixedOrders=true) (hB:headB l n []=true)
 (h:∀ V,Below w.heap.size w V→wpQuiet P (l.map maskOp).toArray (fun w'=>∃ p:Bel V,w'=p.w1)
  (fun aq=>∀ w',Below w.heap.size w w'→wpAny P .any l.toArray Q (l.length-n) (restA l n) aq w') ((l.map maskOp).take n) a):(Code.region id l.toArray true).wp P Q a w:=by
 refine wp_region_headA n [] hm hB (fun _ h=>by cases h) (fun _ h=>by cases h) fun V hV => ?_
 have e:(fun aq=>∀ w',Below w.heap.size w w'→wpAny P .any l.toArray Q (l.length-n) (restA l n) aq w')=fun aq=>∀ a' w',Below w.heap.size w w'→Same (([]:List (Nat×Nat×List Value×TypeId)).map (·.2.1)) aq a'→Laid w [] (restA l n) a' w'→wpAny P .any l.toArray Q (l.length-n) (restA l n) a' w':=by funext aq;refine propext ⟨fun h a' w' hb hs _ => ?_,fun h w' hb=>h aq w' hb (Same.refl _ _) ⟨(fun _ h=>by cases h),fun _ h=>by cases h⟩⟩;have:=same_none hs;subst this;exact h w' hb
 rw [← e];exact h V hV
theorem wp_region_head1 {id:Nat} {Q:Exit→Act→World→Prop} {a:Act} {w:World} {l:List Oper} (n i d:Nat) (cs:List Value) (T:TypeId) (hm:P.follows .mixedOrders=true) (hB:(headB l n [(i,d,cs,T)]&&(restA l n).getD i false)=true)
 (hsz:d<a.tmps.size)
 (hz:∀ w,(Instr.alloc T true (.tuple #[])).run P w=.ok (.pointer (some ⟨w.heap.size,0,none⟩)) (w.alloc (.cells cs.toArray T)))
 (h:∀ V,Below w.heap.size w V→wpQuiet P (l.map maskOp).toArray (fun w'=>∃ p:Bel V,w'=p.w1)
  (fun aq=>∀ b w',Below w.heap.size w w'→w.heap.size≤b→b<w'.heap.size→Own w' b 0 cs→wpAny P .any l.toArray Q (l.length-n) (restA l n) (aq.put (some d) (.pointer (some ⟨b,0,none⟩))) w') ((l.map maskOp).take n) a):(Code.region id l.toArray true).wp P Q a w:=by
 rw [Bool.and_eq_true] at hB;refine wp_region_headA n [(i,d,cs,T)] hm hB.1 (fun x hx=>by rw [List.mem_singleton] at hx;subst hx;exact hsz) (fun x hx=>by rw [List.mem_singleton] at hx;subst hx;exact hz) fun V hV => ?_
 refine wpQuiet_mono' (fun aq hk a' w' hb hs hl => ?_) (h V hV);obtain ⟨b,h1,h2,h3,h4⟩:=hl.at_ (i,d,cs,T) (by simp) hB.2;have:=same_one (by simpa using hs) h1;rw [this];exact hk b w' hb h2 h3 h4
theorem wp_region_head2 {id:Nat} {Q:Exit→Act→World→Prop} {a:Act} {w:World} {l:List Oper} (n i d j e:Nat) (cs cs':List Value) (T T':TypeId) (hm:P.follows .mixedOrders=true)
 (hB:(headB l n [(i,d,cs,T),(j,e,cs',T')]&&(restA l n).getD i false&&(restA l n).getD j false&&decide (i≠j)&&decide (d≠e))=true)
 (hsz:d<a.tmps.size) (hsz':e<a.tmps.size)
 (hz:∀ w,(Instr.alloc T true (.tuple #[])).run P w=.ok (.pointer (some ⟨w.heap.size,0,none⟩)) (w.alloc (.cells cs.toArray T)))
 (hz':∀ w,(Instr.alloc T' true (.tuple #[])).run P w=.ok (.pointer (some ⟨w.heap.size,0,none⟩)) (w.alloc (.cells cs'.toArray T')))
 (h:∀ V,Below w.heap.size w V→wpQuiet P (l.map maskOp).toArray (fun w'=>∃ p:Bel V,w'=p.w1)
  (fun aq=>∀ b b' w',Below w.heap.size w w'→w.heap.size≤b→b<w'.heap.size→w.heap.size≤b'→b'<w'.heap.size→b≠b'→Own w' b 0 cs→Own w' b' 0 cs' →
   wpAny P .any l.toArray Q (l.length-n) (restA l n) ((aq.put (some d) (.pointer (some ⟨b,0,none⟩))).put (some e) (.pointer (some ⟨b',0,none⟩))) w') ((l.map maskOp).take n) a):(Code.region id l.toArray true).wp P Q a w:=by
 simp only [Bool.and_eq_true,decide_eq_true_eq] at hB;obtain ⟨⟨⟨⟨hB,hi⟩,hj⟩,hij⟩,hde⟩:=hB;refine wp_region_headA n [(i,d,cs,T),(j,e,cs',T')] hm hB (fun x hx => ?_) (fun x hx => ?_) fun V hV => ?_
 ·simp only [List.mem_cons,List.not_mem_nil,or_false] at hx
  rcases hx with rfl|rfl
  ·exact hsz
  ·exact hsz'
 ·simp only [List.mem_cons,List.not_mem_nil,or_false] at hx
  rcases hx with rfl|rfl
  ·exact hz
  ·exact hz'
 refine wpQuiet_mono' (fun aq hk a' w' hb hs hl => ?_) (h V hV);obtain ⟨b,h1,h2,h3,h4⟩:=hl.at_ (i,d,cs,T) (by simp) hi;obtain ⟨b',g1,g2,g3,g4⟩:=hl.at_ (j,e,cs',T') (by simp) hj;have hne:=hl.ne (i,d,cs,T) (by simp) (j,e,cs',T') (by simp) hij hi hj;have:=same_two (by simpa using hs) hde h1 g1;rw [this];refine hk b b' w' hb h2 h3 g2 g3 (fun e'=>hne ?_) h4 g4;subst e';simp only;rw [h1,g1]
theorem tail_seq {Q:Exit→Act→World→Prop} {a:Act} {w:World} {l:List Oper} {n:Nat} (hB:(Region.seqB .any l.toArray (l.length-n) n (restA l n))=true) (h:wpList P l.toArray Q (l.drop n) a w) :
 wpAny P .any l.toArray Q (l.length-n) (restA l n) a w:=by
 have:=wpAny_of_seq (md:=.any) (Q':=Q) (ops:=l.toArray) (l.drop n) n (restA l n) a w (fun j=>by simp [List.getElem?_drop]) (by simpa using hB) h
 simpa using this
def pairB (l:List Oper) (n:Nat):Bool :=
 decide (l.length=n+2)&&decide (Region.ready .any l.toArray (restA l n)=[n,n+1])&&Region.seqB .any l.toArray 1 (n+1) ((restA l n).setIfInBounds n true)&&Region.seqB .any l.toArray 1 n ((restA l n).setIfInBounds (n+1) true)
theorem tail_pair {Q:Exit→Act→World→Prop} {a:Act} {w:World} {l:List Oper} {n:Nat} (hB:pairB l n=true) (h1:wpList P l.toArray Q (l.drop n) a w) (h2:wpList P l.toArray Q (l.drop n).reverse a w) :
 wpAny P .any l.toArray Q (l.length-n) (restA l n) a w:=by
 simp only [pairB,Bool.and_eq_true,decide_eq_true_eq] at hB;obtain ⟨⟨⟨hl,hr⟩,hs1⟩,hs2⟩:=hB;have hd:l.drop n=[l[n],l[n+1]]:=by rw [List.drop_eq_getElem_cons (by omega),List.drop_eq_getElem_cons (by omega),List.drop_eq_nil_of_le (by omega)]
 rw [hd] at h1 h2;rw [show l.length-n=1+1 by omega];refine ⟨fun h0=>(by rw [hr] at h0;cases h0),fun i hi => ?_⟩;rw [hr] at hi;simp only [List.mem_cons,List.not_mem_nil,or_false] at hi;rcases hi with rfl|rfl
 ·have hw:wpOp P l.toArray Q i (wpList P l.toArray Q [l[i+1]]) a w:=by unfold wpOp;simp only [List.getElem?_toArray,List.getElem?_eq_getElem (show i<l.length by omega)];exact h1
  exact wpOp_mono (fun a' w' h'=>wpAny_of_seq [l[i+1]] (i+1) _ a' w' (fun j=>by cases j with
   | zero=>simp [List.getElem?_eq_getElem (show i+1<l.length by omega)]
   | succ j=>simp;omega) hs1 h') hw
 ·have hw:wpOp P l.toArray Q (n+1) (wpList P l.toArray Q [l[n]]) a w:=by unfold wpOp;simp only [List.getElem?_toArray,List.getElem?_eq_getElem (show n+1<l.length by omega)];exact h2
  refine wpOp_mono (fun a' w' h' => ?_) hw;simp only [Region.seqB,Bool.and_eq_true,decide_eq_true_eq,List.isEmpty_iff] at hs2;refine ⟨fun h0=>(by rw [hs2.1] at h0;cases h0),fun i hi => ?_⟩;rw [hs2.1] at hi;obtain rfl:i=n:=by simpa using hi
  have hw:wpOp P l.toArray Q i (wpList P l.toArray Q []) a' w':=by unfold wpOp;simp only [List.getElem?_toArray,List.getElem?_eq_getElem (show i<l.length by omega)];exact h'
  exact wpOp_mono (fun a2 w2 h2=>⟨hs2.2,h2⟩) hw

theorem run_storeAt_cells (w:World) (b o:Nat) (ty:TypeId) (v:Value) (cs:List Value) (hv:v.cells=cs.toArray) (hc:∀ j,j<cs.length→(w.cell? ⟨b,o+j,none⟩).isSome=true) (hf:∀ j,j<cs.length→w.frozen? ⟨b,o+j,none⟩=false)
 (hi:(P.info? ty).map (·.size)=some cs.length) (h1:∀ u∈cs,u.oneCell'=true) :
 (Instr.storeAt ty (.pointer (some ⟨b,o,none⟩)) v).run P w=.ok () (w.setCells b o cs):=by
 have:=run_storeCells_cells (P:=P) b o cs 0 w (fun j hj=>by simpa using hc j hj) (fun j hj=>by simpa using hf j hj) h1
 cases hq:P.info? ty with
 | none=>simp [hq] at hi
 | some i =>
  have hs:cs.length=i.size:=by simp [hq] at hi;omega
  simp only [Nat.add_zero] at this;simp [Instr.storeAt,Instr.sureAddr,storeVar,sizeOf,typeInfo,hq,hv,hs,this]
theorem Own.there {w:World} {b:Nat} : ∀ {l:List Value} {i:Nat},Own w b i l→∀ j,j<l.length→(w.cell? ⟨b,i+j,none⟩).isSome=true∧w.frozen? ⟨b,i+j,none⟩=false
 | [],_,_,j,hj=>by simp at hj
 | v :: l,i,h,0,_=>by simp [h.1.1,h.1.2]
 | v :: l,i,h,j+1,hj=>by
  have:=Own.there h.2 j (by simpa using hj)
  rwa [show i+1+j=i+(j+1) by omega] at this
theorem own_of_cells {w:World} {b:Nat} : ∀ {l:List Value} {i:Nat},(∀ j (hj:j<l.length),w.cell? ⟨b,i+j,none⟩=some l[j]∧w.frozen? ⟨b,i+j,none⟩=false)→Own w b i l
 | [],_,_=>trivial
 | v :: l,i,h=>⟨h 0 (Nat.zero_lt_succ _),own_of_cells fun j hj=>by
  have:=h (j+1) (by simpa using hj);rw [show i+(j+1)=i+1+j by omega] at this
  simpa using this⟩
theorem Own.set {w:World} {b i:Nat} {olds vs:List Value} (h:Own w b i olds) (hl:olds.length=vs.length):Own (w.setCells b i vs) b i vs :=
 own_of_cells fun j hj=>⟨World.cell?_setCells_in b vs i w (fun k hk=>(h.there k (by omega)).1) j hj,by rw [World.frozen?_setCells];exact (h.there j (by omega)).2⟩
theorem Own.off {w:World} {b c i:Nat} {vs:List Value} (hne:b≠c):∀ {l:List Value} {j:Nat},Own w b j l→Own (w.setCells c i vs) b j l
 | [],_,_=>trivial
 | v :: l,j,h=>⟨⟨(World.cell?_setCells_out c vs i w _ (fun e=>absurd e hne)).trans h.1.1,by rw [World.frozen?_setCells];exact h.1.2⟩,Own.off hne h.2⟩
theorem Below.sets {B c:Nat} {w0:World} (hB:B≤c):∀ (vs:List Value) (i:Nat) (w:World),Below B w0 w→Below B w0 (w.setCells c i vs)
 | [],_,_,h=>h
 | v :: r,i,w,h=>Below.sets hB r (i+1) _ (h.setCell hB v)
theorem sets_size (c:Nat):∀ (vs:List Value) (i:Nat) (w:World),(w.setCells c i vs).heap.size=w.heap.size
 | [],_,_=>rfl
 | v :: r,i,w=>by rw [World.setCells,sets_size c r];simp [World.setCell]
theorem wpList_store_cells {Q:Exit→Act→World→Prop} {a:Act} {w:World} {op:Oper} {rest:List Oper} (hg:op.guard=none) (hd:op.dst=none) (ty:TypeId) (x y:Operand) (ho:op.op=.store ty x y)
 {b o:Nat} {cs olds:List Value} (hx:a.eval x=.pointer (some ⟨b,o,none⟩)) (hy:(a.eval y).cells=cs.toArray) (hO:Own w b o olds) (hl:olds.length=cs.length)
 (hi:(P.info? ty).map (·.size)=some cs.length) (h1:∀ u∈cs,u.oneCell'=true) (h:wpList P ops Q rest a (w.setCells b o cs)):wpList P ops Q (op :: rest) a w :=
 wpList_plain hg fun _ hK=>by
  unfold Oper.wp execOp;simp only [ho,hx,run_storeAt_cells w b o ty _ cs hy (fun j hj=>(hO.there j (by omega)).1) (fun j hj=>(hO.there j (by omega)).2) hi h1,Sem.run_bind,Result.andThen_ok,Sem.run_pure];have e:a.put op.dst undef=a:=by rw [hd];rfl
  show _;simp only [Oper.upon,e];exact hK _ _ h
theorem eval_put_ne (a:Act) {d:Tmp} {v:Value} {y:Operand} (h:y≠.tmp d):(a.put (some d) v).eval y=a.eval y:=Act.eval_put fun d' hd' e=>h (by cases hd';exact e)
theorem eval_put_self (a:Act) {d:Tmp} {v:Value} (h:d<a.tmps.size):(a.put (some d) v).eval (.tmp d)=v:=by simp [Act.eval,Act.put,h]
theorem wp_region_new1 {id:Nat} {Q:Exit→Act→World→Prop} {a:Act} {w:World} {l:List Oper} (n i d:Nat) (cs:List Value) (T:TypeId) {s:Oper} {y:Operand} (hm:P.follows .mixedOrders=true)
 (hB:(headB l n [(i,d,cs,T)]&&(restA l n).getD i false&&Region.seqB .any l.toArray (l.length-n) n (restA l n))=true)
 (hl:l.drop n=[s]) (hs:s.op=.store T (.tmp d) y) (hg:s.guard=none) (hd:s.dst=none) (hyd:y≠.tmp d) (hsz:d<a.tmps.size)
 (hz:∀ w,(Instr.alloc T true (.tuple #[])).run P w=.ok (.pointer (some ⟨w.heap.size,0,none⟩)) (w.alloc (.cells cs.toArray T))) (hi:(P.info? T).map (·.size)=some cs.length)
 (h:∀ V,Below w.heap.size w V→wpQuiet P (l.map maskOp).toArray (fun w'=>∃ p:Bel V,w'=p.w1)
  (fun aq=>∃ vs:List Value,(aq.eval y).cells=vs.toArray∧cs.length=vs.length∧(∀ u∈vs,u.oneCell'=true) ∧
   ∀ b w',Below w.heap.size w w'→w.heap.size≤b→b<w'.heap.size→Own w' b 0 vs→Q .normal (aq.put (some d) (.pointer (some ⟨b,0,none⟩))) w') ((l.map maskOp).take n) a):(Code.region id l.toArray true).wp P Q a w:=by
 simp only [Bool.and_eq_true] at hB;refine wp_region_headA n [(i,d,cs,T)] hm hB.1.1 (fun x hx=>by rw [List.mem_singleton] at hx;subst hx;exact hsz) (fun x hx=>by rw [List.mem_singleton] at hx;subst hx;exact hz) fun V hV => ?_
 refine wpQuiet_mono' (fun aq hk a' w' hb hs' hl' => ?_) (h V hV);obtain ⟨vs,hvs,hlen,hone,hk⟩:=hk;obtain ⟨b,h1,h2,h3,h4⟩:=hl'.at_ (i,d,cs,T) (by simp) hB.1.2;have ea:=same_one (by simpa using hs') h1;have hda:d<aq.tmps.size:=by rw [← hs'.size];exact (Array.getElem?_eq_some_iff.1 h1).1
 rw [ea];refine tail_seq hB.2 ?_;rw [hl];refine wpList_store_cells hg hd T _ _ hs (eval_put_self _ hda) (by rw [eval_put_ne _ hyd];exact hvs) h4 hlen (by rw [hi,hlen]) hone ?_;exact hk b _ (Below.sets h2 _ _ _ hb) h2 (by rw [sets_size];exact h3) (h4.set hlen)
theorem wp_region_new2 {id:Nat} {Q:Exit→Act→World→Prop} {a:Act} {w:World} {l:List Oper} (n i d j e:Nat) (cs cs':List Value) (T T':TypeId) {s s':Oper} {y y':Operand} (hm:P.follows .mixedOrders=true)
 (hB:(headB l n [(i,d,cs,T),(j,e,cs',T')]&&(restA l n).getD i false&&(restA l n).getD j false&&decide (i≠j)&&decide (d≠e)&&Region.seqB .any l.toArray (l.length-n) n (restA l n))=true)
 (hl:l.drop n=[s,s']) (hs:s.op=.store T (.tmp d) y) (hg:s.guard=none) (hd:s.dst=none) (hs':s'.op=.store T' (.tmp e) y') (hg':s'.guard=none) (hd':s'.dst=none)
 (hyd:y≠.tmp d∧y≠.tmp e∧y'≠.tmp d∧y'≠.tmp e) (hsz:d<a.tmps.size) (hsz':e<a.tmps.size)
 (hz:∀ w,(Instr.alloc T true (.tuple #[])).run P w=.ok (.pointer (some ⟨w.heap.size,0,none⟩)) (w.alloc (.cells cs.toArray T))) (hi:(P.info? T).map (·.size)=some cs.length)
 (hz':∀ w,(Instr.alloc T' true (.tuple #[])).run P w=.ok (.pointer (some ⟨w.heap.size,0,none⟩)) (w.alloc (.cells cs'.toArray T'))) (hi':(P.info? T').map (·.size)=some cs'.length)
 (h:∀ V,Below w.heap.size w V→wpQuiet P (l.map maskOp).toArray (fun w'=>∃ p:Bel V,w'=p.w1)
  (fun aq=>∃ vs us:List Value,(aq.eval y).cells=vs.toArray∧cs.length=vs.length∧(∀ u∈vs,u.oneCell'=true)∧(aq.eval y').cells=us.toArray∧cs'.length=us.length∧(∀ u∈us,u.oneCell'=true) ∧
   ∀ b c w',Below w.heap.size w w'→w.heap.size≤b→b<w'.heap.size→w.heap.size≤c→c<w'.heap.size→b≠c→Own w' b 0 vs→Own w' c 0 us →
    Q .normal ((aq.put (some d) (.pointer (some ⟨b,0,none⟩))).put (some e) (.pointer (some ⟨c,0,none⟩))) w') ((l.map maskOp).take n) a):(Code.region id l.toArray true).wp P Q a w:=by
 simp only [Bool.and_eq_true,decide_eq_true_eq] at hB;obtain ⟨⟨⟨⟨⟨hB,hbi⟩,hbj⟩,hij⟩,hde⟩,hseq⟩:=hB;refine wp_region_headA n [(i,d,cs,T),(j,e,cs',T')] hm hB (fun x hx => ?_) (fun x hx => ?_) fun V hV => ?_
 ·simp only [List.mem_cons,List.not_mem_nil,or_false] at hx
  rcases hx with rfl|rfl
  ·exact hsz
  ·exact hsz'
 ·simp only [List.mem_cons,List.not_mem_nil,or_false] at hx
  rcases hx with rfl|rfl
  ·exact hz
  ·exact hz'
 refine wpQuiet_mono' (fun aq hk a' w' hb hsm hl' => ?_) (h V hV);obtain ⟨vs,us,hvs,hlen,hone,hus,hlen',hone',hk⟩:=hk;obtain ⟨b,h1,h2,h3,h4⟩:=hl'.at_ (i,d,cs,T) (by simp) hbi;obtain ⟨c,g1,g2,g3,g4⟩:=hl'.at_ (j,e,cs',T') (by simp) hbj;have hne:=hl'.ne (i,d,cs,T) (by simp) (j,e,cs',T') (by simp) hij hbi hbj;have hbc:b≠c:=fun e'=>hne (by subst e';simp only;rw [h1,g1])
 have ea:=same_two (by simpa using hsm) hde h1 g1;have hda:d<aq.tmps.size:=by rw [← hsm.size];exact (Array.getElem?_eq_some_iff.1 h1).1
 have hea:e<aq.tmps.size:=by rw [← hsm.size];exact (Array.getElem?_eq_some_iff.1 g1).1
 have ev:((aq.put (some d) (.pointer (some ⟨b,0,none⟩))).put (some e) (.pointer (some ⟨c,0,none⟩))).eval (.tmp d)=.pointer (some ⟨b,0,none⟩):=by rw [eval_put_ne _ (by simpa using hde),eval_put_self _ hda]
 rw [ea];refine tail_seq hseq ?_;rw [hl];refine wpList_store_cells hg hd T _ _ hs ev (by rw [eval_put_ne _ hyd.2.1,eval_put_ne _ hyd.1];exact hvs) h4 hlen (by rw [hi,hlen]) hone ?_;refine wpList_store_cells hg' hd' T' _ _ hs' (eval_put_self _ (by rw [put_size];exact hea)) (by rw [eval_put_ne _ hyd.2.2.2,eval_put_ne _ hyd.2.2.1];exact hus) (g4.off (Ne.symm hbc)) hlen' (by rw [hi',hlen']) hone' ?_;refine hk b c _ (Below.sets g2 _ _ _ (Below.sets h2 _ _ _ hb)) h2 (by rw [sets_size,sets_size];exact h3) g2 (by rw [sets_size,sets_size];exact g3) hbc ?_ ((g4.off (Ne.symm hbc)).set hlen');exact (h4.set hlen).off hbc
theorem run_alloc_zero {T:TypeId} {z:Value} {cs:List Value} (hz:∀ w,(zeroValue T).run P w=.ok z w) (hc:z.cells=cs.toArray) (w:World) :
 (Instr.alloc T true (.tuple #[])).run P w=.ok (.pointer (some ⟨w.heap.size,0,none⟩)) (w.alloc (.cells cs.toArray T)):=by
 simp [Instr.alloc,newVar,newRow,hz,hc]
def par3B (l:List Oper) (n:Nat):Bool :=
 decide (l.length=n+3)&&decide (Region.ready .any l.toArray (restA l n)=[n,n+1]) &&
 Region.seqB .any l.toArray 2 (n+1) ((restA l n).setIfInBounds n true) &&
 decide (Region.ready .any l.toArray ((restA l n).setIfInBounds (n+1) true)=[n])&&Region.seqB .any l.toArray 1 (n+2) (((restA l n).setIfInBounds (n+1) true).setIfInBounds n true)
theorem tail_par3 {Q:Exit→Act→World→Prop} {a:Act} {w:World} {l:List Oper} {n:Nat} {o1 o2 o3:Oper} (hB:par3B l n=true) (hd:l.drop n=[o1,o2,o3]) (h1:wpList P l.toArray Q [o1,o2,o3] a w) (h2:wpList P l.toArray Q [o2,o1,o3] a w) :
 wpAny P .any l.toArray Q (l.length-n) (restA l n) a w:=by
 simp only [par3B,Bool.and_eq_true,decide_eq_true_eq] at hB;obtain ⟨⟨⟨⟨hl,hr⟩,hs1⟩,hr2⟩,hs2⟩:=hB;have g1:l[n]?=some o1:=by have:=congrArg (fun x=>x[0]?) hd;simpa [List.getElem?_drop] using this
 have g2:l[n+1]?=some o2:=by have:=congrArg (fun x=>x[1]?) hd;simpa [List.getElem?_drop] using this
 have g3:l[n+2]?=some o3:=by have:=congrArg (fun x=>x[2]?) hd;simpa [List.getElem?_drop] using this
 rw [show l.length-n=2+1 by omega];refine ⟨fun h0=>(by rw [hr] at h0;cases h0),fun i hi => ?_⟩;rw [hr] at hi;simp only [List.mem_cons,List.not_mem_nil,or_false] at hi;rcases hi with rfl|rfl
 ·have hw:wpOp P l.toArray Q i (wpList P l.toArray Q [o2,o3]) a w:=by unfold wpOp;simp only [List.getElem?_toArray,g1];exact h1
  exact wpOp_mono (fun a' w' h'=>wpAny_of_seq [o2,o3] (i+1) _ a' w' (fun j=>by
   match j with
   | 0=>simp [g2]
   | 1=>simp [g3]
   | j+2=>simp;omega) hs1 h') hw
 ·have hw:wpOp P l.toArray Q (n+1) (wpList P l.toArray Q [o1,o3]) a w:=by unfold wpOp;simp only [List.getElem?_toArray,g2];exact h2
  refine wpOp_mono (fun a' w' h' => ?_) hw;refine ⟨fun h0=>(by rw [hr2] at h0;cases h0),fun i hi => ?_⟩;rw [hr2] at hi;obtain rfl:i=n:=by simpa using hi
  have hw:wpOp P l.toArray Q i (wpList P l.toArray Q [o3]) a' w':=by unfold wpOp;simp only [List.getElem?_toArray,g1];exact h'
  exact wpOp_mono (fun a' w' h'=>wpAny_of_seq [o3] (i+2) _ a' w' (fun j=>by
   match j with
   | 0=>simp [g3]
   | j+1=>simp;omega) hs2 h') hw
theorem tail_swap {Q:Exit→Act→World→Prop} {a:Act} {w:World} {l:List Oper} {n d b b1 b2:Nat} {o1 o2 o3:Oper} {T T1 T2:TypeId} {x x1 y1 x2 y2:Operand} {cs cs1 cs2 olds1 olds2:List Value} {td:TypeDesc} (hB:par3B l n=true) (hd:l.drop n=[o1,o2,o3])
 (e1:o1.op=.load T x) (e2:o1.guard=none) (e3:o1.dst=some d) (f1:o2.op=.store T1 x1 y1) (f2:o2.guard=none) (f3:o2.dst=none) (g1:o3.op=.store T2 x2 y2) (g2:o3.guard=none) (g3:o3.dst=none)
 (hx:a.eval x=.pointer (some ⟨b,0,none⟩)) (hc:Own w b 0 cs) (hu:P.underlying T=some td) (hr:td.isRow=true) (hi:(P.info? T).map (·.size)=some cs.length)
 (k1:a.eval x1=.pointer (some ⟨b1,0,none⟩)) (k2:(a.eval y1).cells=cs1.toArray) (k3:Own w b1 0 olds1) (k4:olds1.length=cs1.length) (k5:(P.info? T1).map (·.size)=some cs1.length) (k6:∀ u∈cs1,u.oneCell'=true) (k7:x1≠.tmp d∧y1≠.tmp d)
 (m1:(a.put (some d) (.agg cs.toArray)).eval x2=.pointer (some ⟨b2,0,none⟩)) (m2:((a.put (some d) (.agg cs.toArray)).eval y2).cells=cs2.toArray) (m3:Own w b2 0 olds2) (m4:olds2.length=cs2.length) (m5:(P.info? T2).map (·.size)=some cs2.length) (m6:∀ u∈cs2,u.oneCell'=true)
 (n1:b≠b1) (n2:b2≠b1) (h:Q .normal (a.put (some d) (.agg cs.toArray)) ((w.setCells b1 0 cs1).setCells b2 0 cs2)):wpAny P .any l.toArray Q (l.length-n) (restA l n) a w:=by
 have rg:∀ {w:World},Own w b 0 cs→w.rangeAt b 0 cs:=fun h j v hv=>by
  have hj:j<cs.length:=(List.getElem?_eq_some_iff.1 hv).1
  have:∀ {l:List Value} {i j:Nat} {v:Value} {w:World},Own w b i l→l[j]?=some v→w.cell? ⟨b,i+j,none⟩=some v:=by
   intro l
   induction l with
   | nil=>intro i j v w _ h;simp at h
   | cons u l ih =>
    intro i j v w h hv
    cases j with
    | zero=>simp only [List.getElem?_cons_zero,Option.some.injEq] at hv;subst hv;exact h.1.1
    | succ j=>have:=ih h.2 (by simpa using hv);rwa [show i+1+j=i+(j+1) by omega] at this
  exact this h hv
 have fin:wpList P l.toArray Q [o3] (a.put (some d) (.agg cs.toArray)) (w.setCells b1 0 cs1) :=
  wpList_store_cells g2 g3 T2 x2 y2 g1 m1 m2 (m3.off n2) m4 m5 m6 h
 refine tail_par3 hB hd ?_ ?_
 ·refine wpList_load_mid e2 T x e1 b 0 hx cs td (rg hc) hu hr hi ?_
  rw [e3];exact wpList_store_cells f2 f3 T1 x1 y1 f1 (by rw [eval_put_ne _ k7.1];exact k1) (by rw [eval_put_ne _ k7.2];exact k2) k3 k4 k5 k6 fin
 ·refine wpList_store_cells f2 f3 T1 x1 y1 f1 k1 k2 k3 k4 k5 k6 ?_
  refine wpList_load_mid e2 T x e1 b 0 hx cs td (rg (hc.off n1)) hu hr hi ?_;rw [e3];exact fin
def par4B (l:List Oper):Bool :=
 let L:=restA l 0
 decide (l.length=4)&&decide (Region.ready .any l.toArray L=[0,1]) &&
 decide (Region.ready .any l.toArray (L.setIfInBounds 0 true)=[1,2])&&Region.seqB .any l.toArray 2 2 ((L.setIfInBounds 0 true).setIfInBounds 1 true) &&
 decide (Region.ready .any l.toArray ((L.setIfInBounds 0 true).setIfInBounds 2 true)=[1])&&Region.seqB .any l.toArray 1 3 (((L.setIfInBounds 0 true).setIfInBounds 2 true).setIfInBounds 1 true) &&
 decide (Region.ready .any l.toArray (L.setIfInBounds 1 true)=[0])&&Region.seqB .any l.toArray 2 2 ((L.setIfInBounds 1 true).setIfInBounds 0 true)
theorem tail_par4 {Q:Exit→Act→World→Prop} {a:Act} {w:World} {l:List Oper} {o0 o1 o2 o3:Oper} (hB:par4B l=true) (hd:l=[o0,o1,o2,o3])
 (h1:wpOp P l.toArray Q 0 (fun a' w'=>wpList P l.toArray Q [o1,o2,o3] a' w'∧wpList P l.toArray Q [o2,o1,o3] a' w') a w) (h2:wpList P l.toArray Q [o1,o0,o2,o3] a w) :
 wpAny P .any l.toArray Q (l.length-0) (restA l 0) a w:=by
 simp only [par4B,Bool.and_eq_true,decide_eq_true_eq] at hB;obtain ⟨⟨⟨⟨⟨⟨⟨hl,r0⟩,r1⟩,s1⟩,r2⟩,s2⟩,r3⟩,s3⟩:=hB;have g0:l[0]?=some o0:=by rw [hd];rfl
 have g1:l[1]?=some o1:=by rw [hd];rfl
 have g2:l[2]?=some o2:=by rw [hd];rfl
 have g3:l[3]?=some o3:=by rw [hd];rfl
 have st:∀ {i:Nat} {o:Oper} {rest:List Oper} {a:Act} {w:World},l[i]?=some o→wpList P l.toArray Q (o :: rest) a w→wpOp P l.toArray Q i (wpList P l.toArray Q rest) a w:=fun hi h=>by unfold wpOp;simp only [List.getElem?_toArray,hi];exact h
 have two:∀ (listed:Array Bool) (a:Act) (w:World),Region.seqB .any l.toArray 2 2 listed=true→wpList P l.toArray Q [o2,o3] a w→wpAny P .any l.toArray Q 2 listed a w:=fun listed a w hs h =>
  wpAny_of_seq [o2,o3] 2 listed a w (fun j=>by
   match j with
   | 0=>simp [g2]
   | 1=>simp [g3]
   | j+2=>simp;omega) hs h
 have one:∀ (listed:Array Bool) (a:Act) (w:World),Region.seqB .any l.toArray 1 3 listed=true→wpList P l.toArray Q [o3] a w→wpAny P .any l.toArray Q 1 listed a w:=fun listed a w hs h =>
  wpAny_of_seq [o3] 3 listed a w (fun j=>by
   match j with
   | 0=>simp [g3]
   | j+1=>simp;omega) hs h
 rw [show l.length-0=3+1 by omega];refine ⟨fun h0=>(by rw [r0] at h0;cases h0),fun i hi => ?_⟩;rw [r0] at hi;simp only [List.mem_cons,List.not_mem_nil,or_false] at hi;rcases hi with rfl|rfl
 ·refine wpOp_mono (fun a' w' h' => ?_) h1
  refine ⟨fun h0=>(by rw [r1] at h0;cases h0),fun i hi => ?_⟩;rw [r1] at hi;simp only [List.mem_cons,List.not_mem_nil,or_false] at hi;rcases hi with rfl|rfl
  ·exact wpOp_mono (fun a2 w2 h2=>two _ a2 w2 s1 h2) (st g1 h'.1)
  ·refine wpOp_mono (fun a2 w2 h2 => ?_) (st g2 h'.2)
   refine ⟨fun h0=>(by rw [r2] at h0;cases h0),fun i hi => ?_⟩;rw [r2] at hi;obtain rfl:i=1:=by simpa using hi
   exact wpOp_mono (fun a3 w3 h3=>one _ a3 w3 s2 h3) (st g1 h2)
 ·refine wpOp_mono (fun a' w' h' => ?_) (st g1 h2)
  refine ⟨fun h0=>(by rw [r3] at h0;cases h0),fun i hi => ?_⟩;rw [r3] at hi;obtain rfl:i=0:=by simpa using hi
  exact wpOp_mono (fun a2 w2 h2=>two _ a2 w2 s3 h2) (st g0 h')
theorem own_range {w:World} {b:Nat} {cs:List Value} (h:Own w b 0 cs):w.rangeAt b 0 cs:=fun j v hv=>by
 have:∀ {l:List Value} {i j:Nat} {v:Value},Own w b i l→l[j]?=some v→w.cell? ⟨b,i+j,none⟩=some v:=by
  intro l
  induction l with
  | nil=>intro i j v _ h;simp at h
  | cons u l ih =>
   intro i j v h hv
   cases j with
   | zero=>simp only [List.getElem?_cons_zero,Option.some.injEq] at hv;subst hv;exact h.1.1
   | succ j=>have:=ih h.2 (by simpa using hv);rwa [show i+1+j=i+(j+1) by omega] at this
 exact this h hv
theorem tail_swap4 {Q:Exit→Act→World→Prop} {a:Act} {w:World} {l:List Oper} {d0 b0 d b b1 b2:Nat} {o0 o1 o2 o3:Oper} {T0 T T1 T2:TypeId} {x0 x x1 y1 x2 y2:Operand} {cs0 cs cs1 cs2 olds1 olds2:List Value} {td0 td:TypeDesc} (hB:par4B l=true) (hd:l=[o0,o1,o2,o3])
 (z1:o0.op=.load T0 x0) (z2:o0.guard=none) (z3:o0.dst=some d0) (e1:o1.op=.load T x) (e2:o1.guard=none) (e3:o1.dst=some d) (f1:o2.op=.store T1 x1 y1) (f2:o2.guard=none) (f3:o2.dst=none) (g1:o3.op=.store T2 x2 y2) (g2:o3.guard=none) (g3:o3.dst=none)
 (zx:a.eval x0=.pointer (some ⟨b0,0,none⟩)) (zc:Own w b0 0 cs0) (zu:P.underlying T0=some td0) (zr:td0.isRow=true) (zi:(P.info? T0).map (·.size)=some cs0.length)
 (hx:a.eval x=.pointer (some ⟨b,0,none⟩)) (hc:Own w b 0 cs) (hu:P.underlying T=some td) (hr:td.isRow=true) (hi:(P.info? T).map (·.size)=some cs.length)
 (k1:a.eval x1=.pointer (some ⟨b1,0,none⟩)) (k2:((a.put (some d0) (.agg cs0.toArray)).eval y1).cells=cs1.toArray) (k3:Own w b1 0 olds1) (k4:olds1.length=cs1.length) (k5:(P.info? T1).map (·.size)=some cs1.length) (k6:∀ u∈cs1,u.oneCell'=true)
 (k7:x1≠.tmp d∧y1≠.tmp d∧x1≠.tmp d0∧x≠.tmp d0∧x0≠.tmp d) (k8:d0≠d)
 (m1:((a.put (some d0) (.agg cs0.toArray)).put (some d) (.agg cs.toArray)).eval x2=.pointer (some ⟨b2,0,none⟩)) (m2:(((a.put (some d0) (.agg cs0.toArray)).put (some d) (.agg cs.toArray)).eval y2).cells=cs2.toArray) (m3:Own w b2 0 olds2) (m4:olds2.length=cs2.length) (m5:(P.info? T2).map (·.size)=some cs2.length) (m6:∀ u∈cs2,u.oneCell'=true)
 (n1:b≠b1) (n2:b2≠b1) (h:Q .normal ((a.put (some d0) (.agg cs0.toArray)).put (some d) (.agg cs.toArray)) ((w.setCells b1 0 cs1).setCells b2 0 cs2)):wpAny P .any l.toArray Q (l.length-0) (restA l 0) a w:=by
 have fin:wpList P l.toArray Q [o3] ((a.put (some d0) (.agg cs0.toArray)).put (some d) (.agg cs.toArray)) (w.setCells b1 0 cs1) :=
  wpList_store_cells g2 g3 T2 x2 y2 g1 m1 m2 (m3.off n2) m4 m5 m6 h
 have two:wpList P l.toArray Q [o2,o3] ((a.put (some d0) (.agg cs0.toArray)).put (some d) (.agg cs.toArray)) w :=
  wpList_store_cells f2 f3 T1 x1 y1 f1 (by rw [eval_put_ne _ k7.1,eval_put_ne _ k7.2.2.1];exact k1) (by rw [eval_put_ne _ k7.2.1];exact k2) k3 k4 k5 k6 fin
 have hx':(a.put (some d0) (.agg cs0.toArray)).eval x=.pointer (some ⟨b,0,none⟩):=by rw [eval_put_ne _ k7.2.2.2.1];exact hx
 refine tail_par4 hB hd ?_ ?_
 ·unfold wpOp
  have g0:l.toArray[0]?=some o0:=by rw [hd];rfl
  simp only [g0];rw [if_pos (by unfold Region.wanted;rw [z2])];left;refine wp_load_mid T0 x0 z1 b0 0 zx cs0 td0 (own_range zc) zu zr zi ?_;rw [z3];refine ⟨?_,?_⟩
  ·refine wpList_load_mid e2 T x e1 b 0 hx' cs td (own_range hc) hu hr hi ?_
   rw [e3];exact two
  ·refine wpList_store_cells f2 f3 T1 x1 y1 f1 (by rw [eval_put_ne _ k7.2.2.1];exact k1) k2 k3 k4 k5 k6 ?_
   refine wpList_load_mid e2 T x e1 b 0 hx' cs td (own_range (hc.off n1)) hu hr hi ?_;rw [e3];exact fin
 ·refine wpList_load_mid e2 T x e1 b 0 hx cs td (own_range hc) hu hr hi ?_
  rw [e3];refine wpList_load_mid z2 T0 x0 z1 b0 0 (by rw [eval_put_ne _ k7.2.2.2.2];exact zx) cs0 td0 (own_range zc) zu zr zi ?_;rw [z3];rw [Act.put_comm a _ _ (fun q hq hq2=>by cases hq;cases hq2;exact k8 rfl)];exact two
end
end Go.Proofs.YtiochgoocbkckaaGreatDoor
