/-
 A second law on regions that leave their order open: the first operation only moves a value (the row that is appended to) and may come at any time; the others of the head read, compute or call, and the tail waits for these. Conditions: closed facts on the region's edges, by the kernel.
 Blocks of the call's own behind stores and new blocks.
 Two chains over the sorted points give the list of the hull. No program in sight.
 Convex sets in the plain: what the functions of package convex and of its reference compute. No program in sight.
-/
import Derived.Test.YtiochgoocbkckaaGreatDoorAgab
import Derived.Test.YtiochgoocbkckaaGreatDoorAgag
import Derived.Test.YtiochgoocbkckaaGreatDoorAgam
import Derived.Test.YtiochgoocbkckaaGreatDoorAgak
set_option maxRecDepth 100000
set_option linter.unusedSimpArgs false
set_option linter.unusedVariables false
namespace Go.Proofs.YtiochgoocbkckaaGreatDoor
open Go Go.RowKit

def sinkB1 (md:Region.Mode) (ops:Array Oper) (n:Nat):Bool :=
 (List.range n).all fun i=>decide (i=0)||(List.range (n+1)).any fun j=>decide (i<j)&&Region.waitsFor md ops j i
def lexTailB1 (md:Region.Mode) (ops:Array Oper) (n:Nat):Bool :=
 Region.noSelect ops&&decide (n<ops.size)&&sinkB1 md ops n&&Region.chainB md ops n&&(Region.ready md ops (Array.replicate ops.size false)).contains 0&&Region.free md ops (Array.replicate ops.size false) 0 &&
  Region.lexHead md ops (ops.size-n) (n-1) 1 ((Array.replicate ops.size false).setIfInBounds 0 true)&&decide (0<n)
section
variable {P:Program} {ops:Array Oper} {md:Region.Mode} {C:World→Prop}
theorem tail_waits1 {n:Nat} {listed:Array Bool} (hs:sinkB1 md ops n=true) (hc:Region.chainB md ops n=true) (hn:n<ops.size) (inv:HeadInv md ops n listed) :
 ∀ (d i:Nat),n-i=d→0<i→i<n→listed.getD i true=false→∀ t,n≤t→t∉Region.ready md ops listed:=by
 intro d
 induction d using Nat.strongRecOn with
 | _ d ih =>
  intro i hd h0 hi hun t ht hr;obtain ⟨_,ot,hot,hall⟩:=mem_ready.1 hr;have hlt:t<ops.size:=(Array.getElem?_eq_some_iff.1 hot).1;rcases Nat.lt_or_ge n t with htn|htn
  ·have h1:=List.all_eq_true.1 hc t (List.mem_range.2 hlt)
   have h2:Region.waitsFor md ops t (t-1)=true:=by simpa [show ¬ t≤n from by omega] using h1
   obtain ⟨o,ho,e,he,hb,heq⟩:=Region.waitsFor_spec h2;rw [hot] at ho;cases ho;have h3:=hall e he hb;have h4:=inv.tail (t-1) (by omega) (by omega);rw [heq] at h3;rw [getD_both h4] at h3;cases h3
  ·have htn:t=n:=by omega
   subst htn;have h1:=List.all_eq_true.1 hs i (List.mem_range.2 hi);simp only [show ¬ i=0 from by omega,decide_false,Bool.false_or,List.any_eq_true,List.mem_range,Bool.and_eq_true,decide_eq_true_eq] at h1;obtain ⟨j,hj,hij,hw⟩:=h1;obtain ⟨o,ho,e,he,hb,heq⟩:=Region.waitsFor_spec hw;rcases Nat.lt_or_ge j t with hjt|hjt
   ·have hjun:listed.getD j true=false:=by
     rcases hl:listed.getD j true with _|_
     ·rfl
     ·have hsz:j<listed.size:=by rw [inv.size];omega
      have hl2:listed.getD j false=true:=by simp only [Array.getD,hsz,dite_true] at hl ⊢;exact hl
      have:=inv.closed j o ho hl2 e he hb;rw [heq,getD_both hun] at this;cases this
    exact ih (t-j) (by omega) j rfl (by omega) hjt hjun t (Nat.le_refl _) hr
   ·have:j=t:=by omega
    subst this;rw [hot] at ho;cases ho;have:=hall e he hb;rw [heq,getD_both hun] at this;cases this
theorem headAny_first1 {n i:Nat} {oi:Oper} {v:Value} {L:Array Bool→Act→Prop} (hi:ops[i]?=some oi) (hsel:∀ (j:Nat) (o:Oper) cs b,ops[j]?=some o→o.op≠.select cs b)
 (hs:sinkB1 md ops n=true) (hc:Region.chainB md ops n=true) (hn:n<ops.size) (h0:0<i) (hin:i<n) (hdone:∀ listed a,L listed a→∀ j∈Region.ready md ops listed,n≤j) :
 ∀ (f:Nat) (listed:Array Bool) (a:Act),HeadInv md ops n listed →
  (∀ j oj,ops[j]?=some oj→j≠i→listed.getD j true=false→(∀ e∈oj.after,Region.binds md e=true→e.on≠i)→oi.apart ops oj=true) →
  i∈Region.ready md ops listed→YieldsIn P ops C oi v a →
  headAny P md ops C n L f (listed.setIfInBounds i true) (a.put oi.dst v)→headAny P md ops C n L (f+1) listed a:=by
 intro f
 induction f with
 | zero =>
  intro listed a inv _ hr hy H;refine ⟨fun h=>(by rw [h] at hr;cases hr),fun j hj => ?_⟩;have hjn:j<n:=Nat.lt_of_not_le fun h=>tail_waits1 hs hc hn inv _ i rfl h0 hin (mem_ready.1 hr).1 j h hj
  refine ⟨hjn,?_⟩;rcases Nat.decEq j i with hji|hji
  ·exact absurd (hdone _ _ H j (ready_mono hj hji)) (by omega)
  ·subst hji;exact hy.qOp hi H
 | succ f ih =>
  intro listed a inv hfree hr hy H;refine ⟨fun h=>(by rw [h] at hr;cases hr),fun j hj => ?_⟩;have hjn:j<n:=Nat.lt_of_not_le fun h=>tail_waits1 hs hc hn inv _ i rfl h0 hin (mem_ready.1 hr).1 j h hj
  refine ⟨hjn,?_⟩;rcases Nat.decEq j i with hji|hji
  ·have h1:=(H.2 j (ready_mono hj hji)).2
   obtain ⟨hjun,oj,hoj,hall⟩:=mem_ready.1 hj
   have hnot:∀ e∈oj.after,Region.binds md e=true→e.on≠i:=fun e he hb heq=>by
    have h2:=hall e he hb;rw [heq,getD_both (mem_ready.1 hr).1] at h2;cases h2
   have h2:=qOp_put hoj (hfree j oj hoj hji hjun hnot) (fun cs b=>hsel i oi cs b hi) (fun cs b=>hsel j oj cs b hoj) hy h1;refine qOp_mono (fun a' h3=>ih (listed.setIfInBounds j true) a' (inv.set hj hjn) (fun k ok hk hki hun hno=>hfree k ok hk hki ?_ hno) (ready_mono hr (Ne.symm hji)) h3.1 ?_) h2
   ·rcases Nat.decEq j k with hjk|hjk
    ·rw [getD_set_ne true hjk] at hun;exact hun
    ·subst hjk;exact hjun
   ·rw [Array.setIfInBounds_comm _ _ hji];exact h3.2
  ·subst hji;exact hy.qOp hi H
theorem headAny_lex1 {n g:Nat} {K:Act→Prop} (hsel:Region.noSelect ops=true) (hs:sinkB1 md ops n=true) (hc:Region.chainB md ops n=true) (hn:n<ops.size) :
 ∀ (l:List Oper) (k:Nat) (listed:Array Bool) (a:Act),(∀ j,j<l.length→l[j]?=ops[k+j]?)→0<k→k+l.length=n→HeadInv md ops n listed →
  Region.lexHead md ops g l.length k listed=true→wpQuiet P ops C K l a →
  headAny P md ops C n (fun listed' a'=>Region.seqB md ops g n listed'=true∧K a') l.length listed a
 | [],k,listed,a,_,_,hk,_,hB,h=>by
  have e:k=n:=by simpa using hk
  subst e;exact ⟨by simpa [Region.lexHead] using hB,h⟩
 | o :: l,k,listed,a,hl,h1,hk,inv,hB,h=>by
  have h0:ops[k]?=some o:=by simpa using (hl 0 (by simp)).symm
  simp only [List.length_cons,Region.lexHead,Bool.and_eq_true] at hB;simp only [List.length_cons] at hk;have hr:k∈Region.ready md ops listed:=by simpa using hB.1.1
  have hst:qOp P ops C k (wpQuiet P ops C K l) a:=by unfold qOp;simp only [h0];exact h
  obtain ⟨v,hy,hK⟩:=yieldsIn_of_qOp h0 hst;refine headAny_first1 h0 (Region.noSelect_spec hsel) hs hc hn h1 (by omega) (fun listed' a' hL=>seqB_ready hL.1) l.length listed a inv (Region.free_spec h0 hB.1.2) hr hy ?_;exact headAny_lex1 hsel hs hc hn l (k+1) _ _ (fun j hj=>by have:=hl (j+1) (by simp;omega);simpa [Nat.add_assoc,Nat.add_comm 1 j] using this) (by omega) (by omega) (inv.set hr (by omega)) hB.2 hK
end
theorem wp_region_tail1 {P:Program} {id:Nat} {Q:Exit→Act→World→Prop} {a:Act} {w:World} {o:Oper} {l:List Oper} (n:Nat) (x:Operand) (hm:P.follows .mixedOrders=true) (hB:lexTailB1 .any (o :: l).toArray n=true)
 (hx:o.op=.move x) (hg:o.guard=none) (hQ:∀ c a' w',Q (.panic c) (a'.put o.dst (a.eval x)) w'→Q (.panic c) a' w')
 (h:wpQuiet P (o :: l).toArray (fun w'=>∃ p:Bel w,w'=p.w1) (fun a'=>∀ w',Below w.heap.size w w'→wpList P (o :: l).toArray Q ((o :: l).drop n) a' w') (((o :: l).take n).drop 1) (a.put o.dst (a.eval x))) :
 (Code.region id (o :: l).toArray true).wp P Q a w:=by
 simp only [lexTailB1,Bool.and_eq_true,decide_eq_true_eq] at hB;obtain ⟨⟨⟨⟨⟨⟨⟨hsel,hn⟩,hs⟩,hc⟩,hr⟩,hf⟩,hlex⟩,h0⟩:=hB;have hn':n<(o :: l).length:=by simpa using hn
 have htl:(((o :: l).take n).drop 1).length=n-1:=by rw [List.length_drop,List.length_take];omega
 have hop:(o :: l).toArray[0]?=some o:=by simp
 have hy:Yields P (o :: l).toArray o (a.eval x) a:=.inl ⟨by simp [Region.wanted,hg],fun w=>by simp [execOp,hx]⟩
 have inv0:HeadInv .any (o :: l).toArray n (Array.replicate (o :: l).toArray.size false) :=
  ⟨by simp,fun j oj _ hl=>(by rw [getD_replicate_false] at hl;cases hl),fun t _ ht=>getD_in (by simpa using ht) (getD_replicate_false _ _)⟩
 have hr0:0∈Region.ready .any (o :: l).toArray (Array.replicate (o :: l).toArray.size false):=by simpa using hr
 have H:=headAny_lex1 (P:=P) (md:=.any) (g:=(o :: l).toArray.size-n) hsel hs hc hn (((o :: l).take n).drop 1) 1 ((Array.replicate (o :: l).toArray.size false).setIfInBounds 0 true) (a.put o.dst (a.eval x)) (fun j hj=>by
  rw [htl] at hj
  rw [List.getElem?_drop,List.getElem?_take,if_pos (by omega),List.getElem?_toArray]) (by omega) (by omega) (inv0.set hr0 h0) (by rw [htl];exact hlex) h
 refine wp_region_any hm ?_
 have H2:=wpAny_of_headAny (Q':=Q) (g:=(o :: l).toArray.size-n) (fun listed a' w' hw' hL=>by
  obtain ⟨p,rfl⟩:=hw'
  have h3:=wpAny_of_seq (md:=.any) (Q':=Q) ((o :: l).drop n) n listed a' p.w1 (fun j=>by rw [List.getElem?_drop,List.getElem?_toArray]) (by
   have:=hL.1;rwa [show ((o :: l).drop n).length=(o :: l).toArray.size-n from by simp]) (hL.2 p.w1 p.h)
  rwa [show ((o :: l).drop n).length=(o :: l).toArray.size-n from by simp] at h3) _ _ _ _ ⟨⟨_,(Below.refl _ w).drew⟩,rfl⟩ H
 rw [htl] at H2;have e:(o :: l).toArray.size=(n-1+((o :: l).toArray.size-n))+1:=by omega
 rw [show wpAny P .any (o :: l).toArray Q (o :: l).toArray.size=wpAny P .any (o :: l).toArray Q ((n-1+((o :: l).toArray.size-n))+1) from by rw [← e]];exact wpAny_first hop (Region.noSelect_spec hsel) hQ _ _ _ _ (Region.free_spec hop hf) hr0 hy H2
end Go.Proofs.YtiochgoocbkckaaGreatDoor

namespace Go.Proofs.YtiochgoocbkckaaGreatDoor
open Go Go.RowKit

theorem Own.alloc {w:World} {b:Nat} : ∀ {l:List Value} {i:Nat},Own w b i l→∀ o,Own (w.alloc o) b i l:=fun h o=>h.up ((Below.refl _ _).alloc (Nat.le_refl _) o)
theorem Own.far {w:World} {b:Nat} (p:Addr) (v:Value) (hne:b≠p.block):∀ {l:List Value} {i:Nat},Own w b i l→Own (w.setCell p v) b i l
 | [],_,_=>trivial
 | x :: l,i,h=>by
  refine ⟨⟨?_,?_⟩,Own.far p v hne h.2⟩
  ·exact (World.cell?_setCell_other w _ _ _ (fun e=>hne (by first|exact congrArg Addr.block e|exact (congrArg Addr.block e).symm))).trans h.1.1
  ·exact (by simp [go_sem]:(w.setCell p v).frozen? ⟨b,i,none⟩=w.frozen? ⟨b,i,none⟩).trans h.1.2
end Go.Proofs.YtiochgoocbkckaaGreatDoor

namespace Go.Proofs.YtiochgoocbkckaaGreatDoor
namespace Pl

theorem In.add {d u v:Pt} (hu:In d u) (hv:In d v):In d (addP u v):=by
 unfold In crossP dotP addP at *;grind
theorem In.eq_add {d u v w:Pt} (hu:In d u) (hv:In d v) (h:w=addP u v):In d w:=h▸hu.add hv
theorem sub_add (a b c:Pt):subP c a=addP (subP b a) (subP c b):=by
 unfold subP addP;rw [Prod.ext_iff];constructor<;>grind
theorem In.anti {d u v:Pt} (hu:In d (subP u v)):¬ In d (subP v u):=by
 unfold In crossP dotP subP at *;grind
theorem In.ne' {d u v:Pt} (hu:In d (subP u v)):u≠v:=by
 rintro rfl;exact hu.anti hu

inductive Stk (D:List Pt) (d:Pt):List Pt→Prop
 | one {a:Pt} : a∈D→(∀ s∈D,s=a∨In d (subP s a))→Stk D d [a]
 | two {a b:Pt} : Edge D a b→In d (subP b a)→Stk D d [a]→Stk D d [b,a]
 | more {a b c:Pt} {r:List Pt} : Edge D a b→In d (subP b a)→0<det c a b→Stk D d (a :: c :: r)→Stk D d (b :: a :: c :: r)
def popTo (p:Pt):List Pt→List Pt
 | b :: a :: r=>if turn a b p≤0 then popTo p (a :: r) else b :: a :: r
 | st=>st
structure Top (D:List Pt) (d p:Pt) (t:Pt) (r:List Pt):Prop where
 stk:Stk D d (t :: r)
 turns:∀ a r',r=a :: r'→0<det a t p
 above:∀ s∈D,In d (subP s t)→0≤det t p s
theorem Stk.mem {D:List Pt} {d:Pt} {t:Pt} {r:List Pt} (h:Stk D d (t :: r)):t∈D:=by
 cases h with
 | one h _=>exact h
 | two h _ _=>exact h.mb
 | more h _ _ _=>exact h.mb
theorem Edge.snoc {D:List Pt} {a b p:Pt} (h:Edge D a b) (hp:0<det a b p):Edge (D++[p]) a b:=by
 refine ⟨by simp [h.ma],by simp [h.mb],h.ne,fun s hs => ?_,fun s hs h0 => ?_⟩
 ·rcases List.mem_append.1 hs with hs|hs
  ·exact h.left s hs
  ·rw [List.mem_singleton.1 hs];exact Rat.le_of_lt hp
 ·rcases List.mem_append.1 hs with hs|hs
  ·exact h.on s hs h0
  ·rw [List.mem_singleton.1 hs] at h0;rw [h0] at hp;exact absurd hp Rat.lt_irrefl
theorem det_vec (c a b:Pt):det c a b=crossP (subP a c) (subP b a):=by unfold det crossP subP;grind
theorem Stk.snoc {D:List Pt} {d p:Pt} (hp:∀ s∈D,In d (subP p s)):∀ (r:List Pt) (t:Pt),Stk D d (t :: r)→(∀ a r',r=a :: r'→0<det a t p)→Stk (D++[p]) d (t :: r)
 | [],t,h,_=>by
  cases h with
  | one h1 h2 =>
   refine .one (by simp [h1]) fun s hs => ?_
   rcases List.mem_append.1 hs with hs|hs
   ·exact h2 s hs
   ·rw [List.mem_singleton.1 hs];exact .inr (hp t h1)
 | [a],t,h,ht=>by
  cases h with
  | two he hi hs =>
   exact .two (he.snoc (ht a [] rfl)) hi (Stk.snoc hp [] a hs (by simp))
 | a :: c :: r,t,h,ht=>by
  cases h with
  | more he hi hd hs =>
   refine .more (he.snoc (ht a (c :: r) rfl)) hi hd (Stk.snoc hp (c :: r) a hs fun a' r' e => ?_);injection e with e1 e2
   subst e1;have h1:=ht a _ rfl
   have hic:In d (subP a c):=by
    cases hs with
    | two _ h _=>exact h
    | more _ h _ _=>exact h
   rw [det_vec] at hd h1 ⊢;have h2:=(in_trans hic hi (hp t he.mb) (Rat.le_of_lt hd) (Rat.le_of_lt h1)).2 (.inl hd);have e:crossP (subP a c) (subP p a)=crossP (subP a c) (subP t a)+crossP (subP a c) (subP p t):=by unfold crossP subP;grind
   rw [e];grind
theorem Top.push {D:List Pt} {d p t:Pt} {r:List Pt} (hp:∀ s∈D,In d (subP p s)) (hord:∀ s∈D,s=t∨In d (subP s t)∨In d (subP t s)) (h:Top D d p t r):Stk (D++[p]) d (p :: t :: r):=by
 have ht:=h.stk.mem;have hip:=hp t ht;have hold:=h.stk.snoc hp r t h.turns
 have hedge:Edge (D++[p]) t p:=by
  have hleft:∀ s∈D,0≤det t p s∧(det t p s=0→btwB s t p=true):=by
   intro s hs;rcases hord s hs with rfl|hs'|hs'
   ·rw [det_self];exact ⟨Rat.le_refl,fun _=>btw_left _ _⟩
   ·refine ⟨h.above s hs hs',fun h0 => ?_⟩
    rw [btw_iff];refine ⟨h0,?_⟩;have hc:crossP (subP s t) (subP p s)=0:=by rw [← det_vec,det_flip,h0];rfl
    have:=In.same hs' (hp s hs) hc;have e:dotP (subP t s) (subP p s)=- dotP (subP s t) (subP p s):=by unfold dotP subP;grind
    rw [e];grind
   ·have hpos:0<det t p s:=by
     cases r with
     | nil =>
      cases h.stk with
      | one _ hmin =>
       rcases hmin s hs with rfl|hm
       ·exact absurd hs' (fun hh=>hh.ne' rfl)
       ·exact absurd hs' hm.anti
     | cons a r =>
      have hturn:=h.turns a r rfl
      obtain ⟨he,hi⟩:Edge D a t∧In d (subP t a):=by
       cases h.stk with
       | two he hi _=>exact ⟨he,hi⟩
       | more he hi _ _=>exact ⟨he,hi⟩
      have h1:=he.left s hs;rw [det_vec] at hturn;have e1:det a t s=crossP (subP t s) (subP t a):=by unfold det crossP subP;grind
      rw [e1] at h1;have h2:=(in_trans hs' hi hip h1 (Rat.le_of_lt hturn)).2 (.inr hturn);have e2:det t p s=crossP (subP t s) (subP p t):=by unfold det crossP subP;grind
      rw [e2];exact h2
    exact ⟨Rat.le_of_lt hpos,fun h0=>by rw [h0] at hpos;exact absurd hpos Rat.lt_irrefl⟩
  refine ⟨by simp [ht],by simp,fun e=>hip.ne' e.symm,fun s hs => ?_,fun s hs h0 => ?_⟩
  ·rcases List.mem_append.1 hs with hs|hs
   ·exact (hleft s hs).1
   ·rw [List.mem_singleton.1 hs,det_self'];exact Rat.le_refl
  ·rcases List.mem_append.1 hs with hs|hs
   ·exact (hleft s hs).2 h0
   ·rw [List.mem_singleton.1 hs];exact btw_right _ _
 cases r with
 | nil=>exact .two hedge hip hold
 | cons a r=>exact .more hedge hip (h.turns a r rfl) hold
def Sorted (d:Pt):List Pt→Prop
 | []=>True
 | a :: l=>(∀ s∈l,In d (subP s a))∧Sorted d l
def chainGo (l st:List Pt):List Pt:=l.foldl (fun st p=>p :: popTo p st) st
def chain (l:List Pt):List Pt:=(chainGo l []).reverse
inductive Way (S:List Pt):Pt→Pt→List Pt→Prop
 | one {a:Pt} : Way S a a [a]
 | step {a b c:Pt} {l:List Pt} : Edge S a b→Way S b c l→Way S a c (a :: l)
theorem Way.snoc {S:List Pt} {a b c:Pt} {l:List Pt} (h:Way S a b l) (e:Edge S b c):Way S a c (l++[c]):=by
 induction h with
 | one=>exact .step e .one
 | step e2 _ ih=>exact .step e2 (ih e)
theorem Stk.way {D:List Pt} {d:Pt} : ∀ (r:List Pt) (t b:Pt),Stk D d (t :: r)→(t :: r).getLast?=some b→Way D b t (t :: r).reverse∧(t=b∨In d (subP t b))∧(∀ s∈(t :: r).reverse.tail,In d (subP s b))∧(∀ s∈r,In d (subP t s))
 | [],t,b,_,e=>by simp at e;subst e;exact ⟨.one,.inl rfl,by simp,by simp⟩
 | a :: r,t,b,h,e=>by
  rw [List.getLast?_cons_cons] at e
  obtain ⟨he,hi,hs⟩:Edge D a t∧In d (subP t a)∧Stk D d (a :: r):=by
   cases h with
   | two he hi hst=>exact ⟨he,hi,hst⟩
   | more he hi _ hst=>exact ⟨he,hi,hst⟩
  obtain ⟨h1,h2,h3,h5⟩:=Stk.way r a b hs e
  have h4:In d (subP t b):=by
   rcases h2 with rfl|h2
   ·exact hi
   ·exact h2.eq_add hi (sub_add b a t)
  refine ⟨by rw [List.reverse_cons];exact h1.snoc he,.inr h4,fun s hs' => ?_,fun s hs' => ?_⟩
  ·rw [List.reverse_cons,List.tail_append_of_ne_nil (by simp)] at hs'
   rcases List.mem_append.1 hs' with hs'|hs'
   ·exact h3 s hs'
   ·rw [List.mem_singleton.1 hs'];exact h4
  ·rcases List.mem_cons.1 hs' with rfl|hs'
   ·exact hi
   ·exact (h5 s hs').eq_add hi (sub_add s a t)
theorem Way.head {S:List Pt} {a b:Pt} {l:List Pt} (h:Way S a b l):∃ m,l=a :: m:=by
 cases h with
 | one=>exact ⟨_,rfl⟩
 | step _ _=>exact ⟨_,rfl⟩
theorem Way.ring {S:List Pt} {f a z:Pt} {l r:List Pt} (h:Way S a z l) (hr:Ring S f z r) (hn:∀ s∈l.tail,s≠f):Ring S f a (l.dropLast++r):=by
 induction h with
 | one=>exact hr
 | @step a b c l e hw ih =>
  obtain ⟨m,rfl⟩:=hw.head;rw [List.dropLast_cons_cons,List.cons_append];exact .step e (hn b (by simp)) (ih hr (fun s hs=>hn s (by simp at hs ⊢;exact .inr hs)))
end Pl
end Go.Proofs.YtiochgoocbkckaaGreatDoor

namespace Go.Proofs.YtiochgoocbkckaaGreatDoor
namespace Pl

def edge (l:List Pt) (i:Nat):Pt×Pt:=(l.getD i (0,0),l.getD ((i+1)%l.length) (0,0))
def edges (l:List Pt):List (Pt×Pt):=if l.length<2 then [] else if l.length=2 then [(l.getD 0 (0,0),l.getD 1 (0,0))] else (List.range l.length).map (edge l)
theorem turn3 (a b p:Pt):turn a b p=-1∨turn a b p=0∨turn a b p=1:=by
 unfold turn sgn;generalize (det a b p).num=z;rcases Int.lt_trichotomy z 0 with h|h|h
 ·exact .inl (Int.sign_eq_neg_one_of_neg h)
 ·exact .inr (.inl (by rw [h];rfl))
 ·exact .inr (.inr (Int.sign_eq_one_of_pos h))
theorem getD_of {α:Type} {l:List α} {k:Nat} {x d:α} (h:l[k]?=some x):l.getD k d=x:=by
 rw [List.getD_eq_getElem?_getD,h];rfl
theorem drop_of {α:Type} {l:List α} {k:Nat} {x:α} (h:l[k]?=some x):l.drop k=x :: l.drop (k+1):=by
 obtain ⟨h1,h2⟩:=List.getElem?_eq_some_iff.1 h;rw [List.drop_eq_getElem_cons h1,h2]
end Pl
end Go.Proofs.YtiochgoocbkckaaGreatDoor
