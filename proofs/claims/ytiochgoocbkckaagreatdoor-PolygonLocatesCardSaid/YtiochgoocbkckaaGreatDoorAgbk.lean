/-
 A drawn region whose head holds a call with a result that depends on the world: all other operations of the head are quiet; the tail waits for the whole head.
 A drawn region whose head holds a chain of operations with results that depend on the world (a call, a slice that is built of it, an append): all other operations of the head are quiet; the tail waits for the whole head.
-/
import Derived.Test.YtiochgoocbkckaaGreatDoorAReg7
set_option maxRecDepth 100000
set_option linter.unusedSimpArgs false
set_option linter.unusedVariables false
namespace Go.Proofs.YtiochgoocbkckaaGreatDoor
open Go Go.RowKit
section
variable {P:Program} {ops M:Array Oper} {md:Region.Mode} {W:World} {F:Value→World→Prop} {i n d:Nat} {oi:Oper} {u:Value}
structure CallOk (md:Region.Mode) (ops:Array Oper) (n i d:Nat) (oi:Oper):Prop where
 gi:ops[i]?=some oi
 di:oi.dst=some d
 wr:∀ (k:Nat) (o:Oper),ops[k]?=some o→k<n→k≠i→o.dst≠some d
 look:∀ (k:Nat) (o:Oper),ops[k]?=some o→k<n→d∉o.looksAt ops
 ri:∀ t∈oi.looksAt ops,∀ (k:Nat) (o:Oper),ops[k]?=some o→o.dst=some t→Region.waitsFor md ops i k=true
end
end Go.Proofs.YtiochgoocbkckaaGreatDoor

namespace Go.Proofs.YtiochgoocbkckaaGreatDoor
open Go Go.RowKit
section
variable {P:Program} {ops M:Array Oper} {md:Region.Mode} {W:World} {n:Nat}
def maskH (hs:List (Nat×Nat)) (k:Nat) (o:Oper):Oper:=if hs.any (fun x=>x.1==k) then { o with op:=.move (.const undef) } else o
def maskHL (hs:List (Nat×Nat)):Nat→List Oper→List Oper
 | _,[]=>[]
 | k,o :: l=>maskH hs k o :: maskHL hs (k+1) l
theorem maskHL_get {hs:List (Nat×Nat)} : ∀ (l:List Oper) (k t:Nat),(maskHL hs k l)[t]?=(l[t]?).map (maskH hs (k+t))
 | [],k,t=>by simp [maskHL]
 | o :: l,k,0=>by simp [maskHL]
 | o :: l,k,t+1=>by simp only [maskHL,List.getElem?_cons_succ];rw [maskHL_get l (k+1) t];congr 2;omega
theorem maskHL_len {hs:List (Nat×Nat)} : ∀ (l:List Oper) (k:Nat),(maskHL hs k l).length=l.length
 | [],_=>rfl
 | o :: l,k=>by simp [maskHL,maskHL_len l]
theorem maskH_dst {hs:List (Nat×Nat)} (k:Nat) (o:Oper):(maskH hs k o).dst=o.dst:=by unfold maskH;split<;>rfl
theorem maskH_after {hs:List (Nat×Nat)} (k:Nat) (o:Oper):(maskH hs k o).after=o.after:=by unfold maskH;split<;>rfl
def putsH:Act→List Nat→List Value→Act
 | a,d :: ds,v :: vs=>putsH (a.put (some d) v) ds vs
 | a,_,_=>a
theorem putsH_size:∀ (ds:List Nat) (vs:List Value) (a:Act),(putsH a ds vs).tmps.size=a.tmps.size
 | [],_,_=>rfl
 | _ :: _,[],_=>rfl
 | d :: ds,v :: vs,a=>by rw [putsH,putsH_size ds vs,put_size]
theorem putsH_defers:∀ (ds:List Nat) (vs:List Value) (a:Act),(putsH a ds vs).defers=a.defers
 | [],_,_=>rfl
 | _ :: _,[],_=>rfl
 | d :: ds,v :: vs,a=>by rw [putsH,putsH_defers ds vs,put_defers]
theorem putsH_off {t:Nat} : ∀ (ds:List Nat) (vs:List Value) (a:Act),t∉ds→(putsH a ds vs).tmps[t]?=a.tmps[t]?
 | [],_,_,_=>rfl
 | _ :: _,[],_,_=>rfl
 | d :: ds,v :: vs,a,h=>by
  simp only [List.mem_cons,not_or] at h;rw [putsH,putsH_off ds vs _ h.2,put_get,if_neg fun c=>h.1 c.1.symm]
theorem putsH_in {t k:Nat} {v:Value} : ∀ (ds:List Nat) (vs:List Value) (a:Act),ds.Nodup→ds[k]?=some t→vs[k]?=some v→t<a.tmps.size→(putsH a ds vs).tmps[t]?=some v
 | [],_,_,_,h,_,_=>by simp at h
 | _ :: _,[],_,_,_,h,_=>by simp at h
 | d :: ds,u :: vs,a,hn,h1,h2,hs=>by
  rw [putsH];obtain ⟨hd,hn⟩:=List.nodup_cons.1 hn
  match k with
  | 0 =>
   simp only [List.getElem?_cons_zero,Option.some.injEq] at h1 h2;subst h1;subst h2;rw [putsH_off ds vs _ hd,put_get,if_pos ⟨rfl,hs⟩]
  | k+1 =>
   simp only [List.getElem?_cons_succ] at h1 h2;exact putsH_in ds vs _ hn h1 h2 (by rw [put_size];exact hs)
theorem nd_idx:∀ {l:List Nat} {x j k:Nat},l.Nodup→l[j]?=some x→l[k]?=some x→j=k
 | [],_,_,_,_,h,_=>by simp at h
 | a :: l,x,0,0,_,_,_=>rfl
 | a :: l,x,j+1,0,hn,h1,h2=>by
  simp only [List.getElem?_cons_succ,List.getElem?_cons_zero,Option.some.injEq] at h1 h2;exact absurd (List.mem_of_getElem? h1) (h2▸(List.nodup_cons.1 hn).1)
 | a :: l,x,0,k+1,hn,h1,h2=>by
  simp only [List.getElem?_cons_succ,List.getElem?_cons_zero,Option.some.injEq] at h1 h2;exact absurd (List.mem_of_getElem? h2) (h1▸(List.nodup_cons.1 hn).1)
 | a :: l,x,j+1,k+1,hn,h1,h2=>by
  simp only [List.getElem?_cons_succ] at h1 h2;exact congrArg (· + 1) (nd_idx (List.nodup_cons.1 hn).2 h1 h2)
structure ChainOk (md:Region.Mode) (ops:Array Oper) (n:Nat) (hs:List (Nat×Nat)):Prop where
 nd:(hs.map (·.2)).Nodup
 lt:∀ x∈hs,x.1<n
 get:∀ (k:Nat) x,hs[k]?=some x→∃ o,ops[x.1]?=some o∧o.dst=some x.2
 wr:∀ (t:Nat) (o:Oper),ops[t]?=some o→t<n→(∀ x∈hs,x.1≠t)→∀ x∈hs,o.dst≠some x.2
 look:∀ (t:Nat) (o:Oper),ops[t]?=some o→t<n→(∀ x∈hs,x.1≠t)→∀ x∈hs,x.2∉o.looksAt ops
 back:∀ (k j:Nat) x y o,hs[k]?=some x→hs[j]?=some y→k≤j→ops[x.1]?=some o→y.2∉o.looksAt ops
 wait:∀ (k j:Nat) x y,hs[k]?=some x→hs[j]?=some y→k<j→Region.waitsFor md ops y.1 x.1=true
 ri:∀ (k:Nat) x o,hs[k]?=some x→ops[x.1]?=some o→∀ t∈o.looksAt ops,(∀ y∈hs,y.2≠t)→∀ (j:Nat) (o':Oper),ops[j]?=some o'→o'.dst=some t→Region.waitsFor md ops x.1 j=true
def ChainEnd (P:Program) (ops:Array Oper) (W:World) (R:List Value→World→Prop) (hs:List (Nat×Nat)) (aq:Act):Prop :=
 ∀ (k:Nat) x o vs V,hs[k]?=some x→ops[x.1]?=some o→vs.length=k→Below W.heap.size W V→R vs V →
  wpList P ops (fun e a' V'=>∃ v,e=.normal∧a'=(putsH aq (hs.map (·.2)) vs).put o.dst v∧(Below V.heap.size V V'∧R (vs++[v]) V')) [o] (putsH aq (hs.map (·.2)) vs) V
def Came (R:List Value→World→Prop) (hs:List (Nat×Nat)) (listed:Array Bool) (a:Act) (w:World) (vs:List Value):Prop :=
 vs.length≤hs.length∧(∀ (k:Nat) x,hs[k]?=some x→(listed.getD x.1 false=true↔k<vs.length))∧(∀ (k:Nat) x v,hs[k]?=some x→vs[k]?=some v→a.tmps[x.2]?=some v)∧R vs w
set_option maxHeartbeats 4000000 in
theorem wpAny_of_chain {hs:List (Nat×Nat)} {R:List Value→World→Prop} {g:Nat} {L:Array Bool→Act→Prop} {Q':Exit→Act→World→Prop} (hsel:Region.noSelect ops=true) (c:ChainOk md ops n hs) (hMs:M.size=ops.size) (hM:∀ t:Nat,M[t]?=(ops[t]?).map (maskH hs t))
 (hF:∀ vs w w',R vs w→Below w.heap.size w w'→R vs w') (hE:∀ listed aq,L listed aq→ChainEnd P ops W R hs aq)
 (hL:∀ listed aq a w vs,Below W.heap.size W w→Same (hs.map (·.2)) aq a→Came R hs listed a w vs→L listed aq→wpAny P md ops Q' g listed a w) :
 ∀ (f:Nat) (listed:Array Bool) (aq a:Act) (w:World) (vs:List Value),(∀ x∈hs,x.2<a.tmps.size)→listed.size=ops.size→Below W.heap.size W w→Same (hs.map (·.2)) aq a→Came R hs listed a w vs →
  (∀ V,Below W.heap.size W V→headAny P md M (fun w'=>∃ p:Bel V,w'=p.w1) n L f listed aq)→wpAny P md ops Q' (f+g) listed a w
 | 0,listed,aq,a,w,vs,_,_,hb,hs',hl,H=>by rw [Nat.zero_add];exact hL _ _ _ _ _ hb hs' hl (H w hb)
 | f+1,listed,aq,a,w,vs,hsz,hls,hb,hs',hl,H=>by
  rw [show f+1+g=(f+g)+1 from by omega]
  have hdst:∀ {t:Nat} {o:Oper},M[t]?=some o→∃ o',ops[t]?=some o'∧o.dst=o'.dst:=fun {t o} h=>by
   rw [hM] at h
   cases hq:ops[t]? with
   | none=>rw [hq] at h;cases h
   | some o'=>rw [hq] at h;cases h;exact ⟨o',rfl,maskH_dst _ _⟩
  have hrdy:Region.ready md M listed=Region.ready md ops listed:=by
   unfold Region.ready;rw [hMs];refine List.filter_congr fun t _ => ?_
   rw [hM];cases ops[t]?<;>simp [maskH_after]
  have hyl:∀ tmps:Array Value,yielded M tmps=yielded ops tmps:=fun tmps=>funext fun t=>by
   unfold yielded;rw [hM]
   cases ops[t]? with
   | none=>rfl
   | some o=>simp [maskH_dst]
  have HW:=H W (Below.refl _ _);have Hw:=H w hb;refine ⟨fun h0=>absurd (by rw [hrdy];exact h0) Hw.1,fun t hri => ?_⟩;have hi':t∈Region.ready md M listed:=by rw [hrdy];exact hri
  obtain ⟨htn,hq⟩:=Hw.2 t hi';obtain ⟨hun,o,ho,_⟩:=mem_ready.1 hri;have htlt:t<ops.size:=(Array.getElem?_eq_some_iff.1 ho).1;have ho':M[t]?=some (maskH hs t o):=by rw [hM,ho];rfl
  obtain ⟨v,hy,_⟩:=yieldsIn_of_qOp ho' hq;obtain ⟨v0,hy0,_⟩:=yieldsIn_of_qOp ho' (HW.2 t hi').2;have ev0:v0=v:=yields_det (w:=w) ⟨⟨w,hb⟩,rfl⟩ ⟨⟨w,Below.refl _ _⟩,rfl⟩ hy0 hy;subst ev0
  have fam:∀ V,Below W.heap.size W V→headAny P md M (fun w'=>∃ p:Bel V,w'=p.w1) n L f (listed.setIfInBounds t true) (aq.put o.dst v0):=fun V hV=>by
   obtain ⟨x,hx,hn⟩:=yieldsIn_of_qOp ho' ((H V hV).2 t hi').2;have:=yields_det (w:=V) ⟨⟨V,hV⟩,rfl⟩ ⟨⟨V,Below.refl _ _⟩,rfl⟩ hy0 hx;subst this;rw [maskH_dst] at hn;exact hn
  obtain ⟨l',aE,hLE,aEsz,hend⟩:=headAny_end2 _ _ _ Hw;have HEi:=hE _ _ hLE;have aEa:aE.tmps.size=a.tmps.size:=by rw [aEsz,hs'.size]
  have hsl:=Region.noSelect_spec hsel t o;have hsl':∀ cs b,o.op≠.select cs b:=fun cs b=>hsl cs b ho
  have hszp:∀ (x:Option Nat) (z:Value),∀ y∈hs,y.2<(a.put x z).tmps.size:=fun x z y hy=>by rw [put_size];exact hsz y hy
  obtain ⟨c1,c2,c3,c4⟩:=hl
  by_cases hti:∃ x∈hs,x.1=t
  ·obtain ⟨x,hxm,hxt⟩:=hti
   obtain ⟨k,hk⟩:=List.getElem?_of_mem hxm;obtain ⟨oq,hoq,hod⟩:=c.get k x hk;rw [hxt] at hoq;obtain rfl:oq=o:=Option.some.inj (hoq.symm.trans ho)
   -- it is the next of the chain
   have hge:vs.length≤k:=by
    rcases Nat.lt_or_ge k vs.length with h|h
    ·have:=(c2 k x hk).2 h
     rw [hxt] at this;rw [getD_both hun] at this;cases this
    ·exact h
   have hle:k≤vs.length:=by
    rcases Nat.lt_or_ge vs.length k with h|h
    ·exfalso
     have hlt:vs.length<hs.length:=Nat.lt_trans h (List.getElem?_eq_some_iff.1 hk).1;have h1:=List.getElem?_eq_getElem hlt;have h2:=waits_listed (c.wait _ _ _ _ h1 hk h) (by rw [hxt];exact hri);have:=(c2 _ _ h1).1 h2;omega
    ·exact h
   have hkl:vs.length=k:=by omega
   have hlk:k<hs.length:=(List.getElem?_eq_some_iff.1 hk).1
   have fix:∀ t':Nat,(∀ (j:Nat) (o':Oper),ops[j]?=some o'→o'.dst=some t'→Region.waitsFor md ops x.1 j=true)→aE.tmps[t']?=aq.tmps[t']?:=fun t' hw=>hend t' fun j oj hj hlj hdj=>by
    obtain ⟨o2,h2,e2⟩:=hdst hj;have:=waits_listed (hw j o2 h2 (by rw [← e2];exact hdj)) (by rw [hxt];exact hri);rw [getD_both hlj] at this;cases this
   have hag:∀ t'∈oq.looksAt ops,a.tmps[t']?=(putsH aE (hs.map (·.2)) vs).tmps[t']?:=fun t' ht'=>by
    by_cases hm:∃ y∈hs,y.2=t'
    ·obtain ⟨y,hym,rfl⟩:=hm
     obtain ⟨j,hj⟩:=List.getElem?_of_mem hym
     have hjk:j<k:=by
      rcases Nat.lt_or_ge j k with h|h
      ·exact h
      ·exact absurd ht' (c.back k j x y oq hk hj h (by rw [hxt];exact ho))
     have hv:=List.getElem?_eq_getElem (show j<vs.length by omega);rw [c3 j y _ hj hv,putsH_in (k:=j) _ _ _ c.nd (by rw [List.getElem?_map,hj];rfl) hv (by rw [aEa];exact hsz y hym)]
    ·have hm':∀ y∈hs,y.2≠t':=fun y hy e=>hm ⟨y,hy,e⟩
     have hm2:t'∉hs.map (·.2):=fun h=>by
      obtain ⟨y,hy,e⟩:=List.mem_map.1 h;exact hm' y hy e
     rw [putsH_off _ _ _ hm2,fix t' (c.ri k x oq hk (by rw [hxt];exact ho) t' ht' hm')];exact hs'.off t' hm2
   refine wpOp_of_one (o:=oq) (d:=x.2) (aq:=putsH aE (hs.map (·.2)) vs) ho (exec_looks hsl' hag) (wanted_looks hag) hod (by rw [putsH_size,aEa];exact hsz x hxm) (HEi k x oq vs w hk (by rw [hxt];exact ho) hkl hb c4) fun v w' ⟨hb2,hv⟩ => ?_
   refine wpAny_of_chain hsel c hMs hM hF hE hL f _ (aq.put oq.dst v0) _ _ (vs++[v]) (hszp _ _) (by simp [hls]) (hb.trans (hb2.mono hb.size)) ?_ ⟨?_,?_,?_,hv⟩ fam
   ·rw [hod];exact hs'.putIn (List.mem_map.2 ⟨x,hxm,rfl⟩) _ _
   ·rw [List.length_append];simp;omega
   ·intro j y hj
    rw [List.length_append]
    by_cases hjk:j=k
    ·subst hjk
     obtain rfl:x=y:=Option.some.inj (hk.symm.trans hj);rw [hxt];have:(listed.setIfInBounds t true).getD t false=true:=by simp [Array.getD,hls,htlt]
     rw [this];simp;omega
    ·have hne:y.1≠t:=fun e=>by
      have hy1:x.1=y.1:=by rw [hxt,e]
      obtain ⟨o1,q1,r1⟩:=c.get k x hk;obtain ⟨o2,q2,r2⟩:=c.get j y hj;rw [hy1,q2] at q1;obtain rfl:=Option.some.inj q1;rw [r1] at r2;have hd2:=Option.some.inj r2;have hm1:(hs.map (·.2))[k]?=some x.2:=by rw [List.getElem?_map,hk];rfl
      have hm2:(hs.map (·.2))[j]?=some y.2:=by rw [List.getElem?_map,hj];rfl
      rw [← hd2] at hm2;exact hjk (nd_idx c.nd hm2 hm1)
     rw [getD_set_ne false (Ne.symm hne),c2 j y hj];simp only [List.length_cons,List.length_nil];omega
   ·intro j y u hj hu
    rw [hod,put_get]
    by_cases hjk:j=k
    ·subst hjk
     obtain rfl:x=y:=Option.some.inj (hk.symm.trans hj);rw [List.getElem?_append_right (by omega),hkl,Nat.sub_self] at hu;simp only [List.getElem?_cons_zero,Option.some.injEq] at hu;subst hu;rw [if_pos ⟨rfl,hsz x hxm⟩]
    ·have hjl:j<vs.length:=by
      have:=(List.getElem?_eq_some_iff.1 hu).1;rw [List.length_append] at this;simp at this;omega
     rw [List.getElem?_append_left hjl] at hu
     have hne:x.2≠y.2:=fun e=>by
      have hm1:(hs.map (·.2))[k]?=some x.2:=by rw [List.getElem?_map,hk];rfl
      have hm2:(hs.map (·.2))[j]?=some y.2:=by rw [List.getElem?_map,hj];rfl
      rw [← e] at hm2;exact hjk (nd_idx c.nd hm2 hm1)
     rw [if_neg fun c=>hne c.1,c3 j y u hj hu]
  ·have hti':∀ x∈hs,x.1≠t:=fun x hx e=>hti ⟨x,hx,e⟩
   have hmo:maskH hs t o=o:=by unfold maskH;rw [if_neg];intro h;obtain ⟨x,hx,e⟩:=List.any_eq_true.1 h;exact hti' x hx (by simpa using e)
   rw [hmo] at hy
   have hD:∀ t'∈o.looksAt ops,t'∉hs.map (·.2):=fun t' ht' hm=>by
    obtain ⟨y,hy,rfl⟩:=List.mem_map.1 hm;exact c.look t o ho htn hti' y hy ht'
   have he:=hs'.exec (ops:=ops) (o:=o) hsl' hD;have hwn:=hs'.wanted (ops:=ops) (o:=o) hD
   have go:∀ w2,Below w.heap.size w w2→wpAny P md ops Q' (f+g) (listed.setIfInBounds t true) (a.put o.dst v0) w2:=fun w2 hb2=>by
    refine wpAny_of_chain hsel c hMs hM hF hE hL f _ (aq.put o.dst v0) _ _ vs (hszp _ _) (by simp [hls]) (hb.trans (hb2.mono hb.size)) (hs'.put _ _) ⟨c1,fun k x hk => ?_,fun k x u hk hu => ?_,hF _ _ _ c4 hb2⟩ fam
    ·rw [getD_set_ne false (Ne.symm (hti' x (List.mem_of_getElem? hk)))];exact c2 k x hk
    ·have hnd:=c.wr t o ho htn hti' x (List.mem_of_getElem? hk)
     cases hod:o.dst with
     | none=>exact c3 k x u hk hu
     | some d'=>rw [put_get,if_neg fun c=>hnd (by rw [hod,c.1])];exact c3 k x u hk hu
   unfold wpOp;simp only [ho];have hwm:Region.wanted o (yielded M aq.tmps)=Region.wanted o (yielded ops aq.tmps):=by rw [hyl]
   rcases hy with ⟨g1,h1⟩|⟨g1,rfl⟩
   ·rw [hwm,← hwn] at g1
    rw [if_pos g1];left;have h3:=h1 w ⟨⟨w,Below.refl _ _⟩,rfl⟩;unfold Oper.quietAt at h3;rw [← he] at h3;unfold Oper.wp;generalize (execOp a.eval o).run P w=r at *
    cases r with
    | ok m w' =>
     cases m<;>simp only [Oper.quietUpon] at h3<;>simp only [Oper.upon]
     case value u=>obtain ⟨rfl,rfl⟩:=h3;exact go _ (Below.refl _ _)
     case skip=>obtain ⟨rfl,rfl⟩:=h3;exact go _ (Below.refl _ _)
     case enter fn args =>
      obtain ⟨rfl,hc⟩:=h3;exact hc.mono fun e w'' ⟨he,p,hp⟩=>by subst he;subst hp;exact go _ p.h
    | halt x w'=>simp only [Oper.quietUpon] at h3
   ·rw [hwm,← hwn] at g1
    rw [if_neg (by rw [g1];decide)];exact go _ (Below.refl _ _)
theorem same_putsH {hs:List (Nat×Nat)} {aq a:Act} {vs:List Value} (hn:(hs.map (·.2)).Nodup) (h:Same (hs.map (·.2)) aq a) (hl:vs.length=hs.length) (hv:∀ (k:Nat) x v,hs[k]?=some x→vs[k]?=some v→a.tmps[x.2]?=some v):a=putsH aq (hs.map (·.2)) vs:=by
 refine act_ext (by rw [putsH_defers,h.defers]) fun t => ?_
 by_cases ht:t∈hs.map (·.2)
 ·obtain ⟨x,hx,rfl⟩:=List.mem_map.1 ht
  obtain ⟨k,hk⟩:=List.getElem?_of_mem hx;have hlt:k<vs.length:=by rw [hl];exact (List.getElem?_eq_some_iff.1 hk).1
  have h1:=List.getElem?_eq_getElem hlt;have h2:=hv k x _ hk h1;rw [h2,putsH_in (k:=k) _ _ _ hn (by rw [List.getElem?_map,hk];rfl) h1 (by rw [← h.size];exact (Array.getElem?_eq_some_iff.1 h2).1)]
 ·rw [putsH_off _ _ _ ht];exact h.off t ht
def chainB (l:List Oper) (n:Nat) (hs:List (Nat×Nat)) (m:List Oper):Bool :=
 Region.noSelect l.toArray&&(Region.noSelect m.toArray&&(decide (n≤l.length)&&(decide (hs.map (·.2)).Nodup&&((hs.all fun x=>decide (x.1<n)&&(((l[x.1]?).bind (·.dst))==some x.2)) &&
 ((allO l.toArray fun k o=>decide (n≤k)||(hs.any (fun x=>x.1==k)||hs.all fun x=>o.dst != some x.2 && !(o.looksAt l.toArray).contains x.2)) &&
 (((List.range hs.length).all fun k=>(List.range hs.length).all fun j=>match hs[k]?,hs[j]? with
  | some x,some y=>(match l[x.1]? with|some o=>(decide (j<k) || !(o.looksAt l.toArray).contains y.2)&&(decide (j≤k)||Region.waitsFor .any l.toArray y.1 x.1)|none=>false)
  | _,_=>false) &&
 ((hs.all fun x=>match l[x.1]? with|some o=>(o.looksAt l.toArray).all fun t=>hs.any (fun y=>y.2==t)||(allO l.toArray fun k o'=>o'.dst != some t||Region.waitsFor .any l.toArray x.1 k)|none=>false) &&
 (lexHeadA .any m.toArray n 0 (Array.replicate l.length false)&&((hs.all fun x=>(restA l n).getD x.1 false)&&(sinkAll .any m.toArray n&&Region.seqB .any l.toArray (l.length-n) n (restA l n)))))))))))
theorem chainOk_of {l:List Oper} {n:Nat} {hs:List (Nat×Nat)} {m:List Oper} (hB:chainB l n hs m=true):ChainOk .any l.toArray n hs:=by
 simp only [chainB,Bool.and_eq_true,decide_eq_true_eq] at hB;obtain ⟨_,_,_,hnd,hall,hfree,hpair,hri,_⟩:=hB
 have hg:∀ (k:Nat) x,hs[k]?=some x→∃ o,l[x.1]?=some o∧o.dst=some x.2:=fun k x hk=>by
  have:=List.all_eq_true.1 hall x (List.mem_of_getElem? hk);simp only [Bool.and_eq_true,decide_eq_true_eq,beq_iff_eq] at this;obtain ⟨o,h1,h2⟩:=Option.bind_eq_some_iff.1 this.2;exact ⟨o,h1,h2⟩
 have hp:∀ (k j:Nat) x y o,hs[k]?=some x→hs[j]?=some y→l[x.1]?=some o→((j<k)∨y.2∉o.looksAt l.toArray)∧((j≤k)∨Region.waitsFor .any l.toArray y.1 x.1=true):=fun k j x y o hk hj ho=>by
  have h1:=List.all_eq_true.1 (List.all_eq_true.1 hpair k (List.mem_range.2 (List.getElem?_eq_some_iff.1 hk).1)) j (List.mem_range.2 (List.getElem?_eq_some_iff.1 hj).1);rw [hk,hj] at h1;simp only [ho,Bool.and_eq_true,Bool.or_eq_true,decide_eq_true_eq,Bool.not_eq_true',] at h1;refine ⟨h1.1.imp_right fun h => ?_,h1.2⟩;intro hc;have:=List.contains_iff_mem.2 hc;rw [h] at this;cases this
 have hf:∀ (t:Nat) (o:Oper),l.toArray[t]?=some o→t<n→(∀ x∈hs,x.1≠t)→∀ x∈hs,o.dst≠some x.2∧x.2∉o.looksAt l.toArray:=fun t o ho htn hne x hx=>by
  have:=allO_spec hfree ho;simp only [Bool.or_eq_true,decide_eq_true_eq] at this;rcases this with h|h|h
  ·omega
  ·obtain ⟨y,hy,e⟩:=List.any_eq_true.1 h
   exact absurd (by simpa using e) (hne y hy)
  ·have h2:=List.all_eq_true.1 h x hx
   simp only [Bool.and_eq_true,bne_iff_ne,ne_eq,Bool.not_eq_true'] at h2;refine ⟨h2.1,fun hc => ?_⟩;have:=List.contains_iff_mem.2 hc;rw [h2.2] at this;cases this
 refine ⟨hnd,fun x hx => ?_,fun k x hk => ?_,fun t o ho htn hne x hx=>(hf t o ho htn hne x hx).1,fun t o ho htn hne x hx=>(hf t o ho htn hne x hx).2,fun k j x y o hk hj hkj ho => ?_,fun k j x y hk hj hkj => ?_,fun k x o hk ho t ht hne j o' hj hd => ?_⟩
 ·have:=List.all_eq_true.1 hall x hx
  simp only [Bool.and_eq_true,decide_eq_true_eq] at this;exact this.1
 ·simpa using hg k x hk
 ·rcases (hp k j x y o hk hj (by simpa using ho)).1 with h|h
  ·omega
  ·exact h
 ·obtain ⟨o,ho,_⟩:=hg k x hk
  rcases (hp k j x y o hk hj ho).2 with h|h
  ·omega
  ·exact h
 ·have h1:=List.all_eq_true.1 hri x (List.mem_of_getElem? hk)
  rw [show l[x.1]?=some o by simpa using ho] at h1;have h2:=List.all_eq_true.1 h1 t ht;rcases Bool.or_eq_true_iff.1 h2 with h|h
  ·obtain ⟨y,hy,e⟩:=List.any_eq_true.1 h
   exact absurd (by simpa using e) (hne y hy)
  ·have:=allO_spec h hj
   simpa [hd] using this
theorem wp_region_chain {id:Nat} {Q:Exit→Act→World→Prop} {a:Act} {w:World} {l:List Oper} (n:Nat) (hs:List (Nat×Nat)) (R:List Value→World→Prop) (hm:P.follows .mixedOrders=true)
 (hB:chainB l n hs (maskHL hs 0 l)=true) (hsz:∀ x∈hs,x.2<a.tmps.size)
 (hR:∀ vs w w',R vs w→Below w.heap.size w w'→R vs w') (h0:∀ V,Below w.heap.size w V→R [] V)
 (h:∀ V,Below w.heap.size w V→wpQuiet P (maskHL hs 0 l).toArray (fun w'=>∃ p:Bel V,w'=p.w1)
  (fun aq=>ChainEnd P l.toArray w R hs aq∧∀ vs V,vs.length=hs.length→Below w.heap.size w V→R vs V→wpList P l.toArray Q (l.drop n) (putsH aq (hs.map (·.2)) vs) V) ((maskHL hs 0 l).take n) a):(Code.region id l.toArray true).wp P Q a w:=by
 have hk:=chainOk_of hB;simp only [chainB,Bool.and_eq_true,decide_eq_true_eq] at hB;obtain ⟨hsel,hsel',hn,hnd,_,_,_,_,hlex,hli,hsink,hseq⟩:=hB;have htl:((maskHL hs 0 l).take n).length=n:=by rw [List.length_take,maskHL_len];omega
 refine wp_region_any hm ?_;rw [show l.toArray.size=n+(l.length-n) by simp;omega];have e1:Array.replicate (n+(l.length-n)) false=Array.replicate l.length false:=by rw [show n+(l.length-n)=l.length by omega]
 rw [e1]
 have inv0:HeadInv .any (maskHL hs 0 l).toArray n (Array.replicate l.length false) :=
  ⟨by simp [maskHL_len],fun j oj _ hl=>(by rw [getD_replicate_false] at hl;cases hl),fun t _ ht=>getD_in (by simpa [maskHL_len] using ht) (getD_replicate_false _ _)⟩
 refine wpAny_of_chain (W:=w) (M:=(maskHL hs 0 l).toArray) (R:=R) (hs:=hs) (n:=n)
  (L:=fun listed' aq=>listed'=restA l n∧ChainEnd P l.toArray w R hs aq∧∀ vs V,vs.length=hs.length→Below w.heap.size w V→R vs V→wpList P l.toArray Q (l.drop n) (putsH aq (hs.map (·.2)) vs) V) hsel hk (by simp [maskHL_len]) (fun t=>by simp [maskHL_get]) hR (fun _ _ hL=>hL.2.1)
  (fun listed aq a' w' vs hb hs' hl' hL => ?_) n _ a a _ [] hsz (by simp) ((Below.refl _ w).drew) (Same.refl _ _) ⟨by simp,fun k x hk => ?_,fun k x v hk hv=>by simp at hv,h0 _ ((Below.refl _ w).drew)⟩ fun V hV => ?_
 ·obtain ⟨rfl,_,hK⟩:=hL
  obtain ⟨c1,c2,c3,c4⟩:=hl'
  have hlen:vs.length=hs.length:=by
   rcases Nat.lt_or_ge vs.length hs.length with h|h
   ·have h1:=List.getElem?_eq_getElem h
    have:=(c2 _ _ h1).1 (List.all_eq_true.1 hli _ (List.getElem_mem h));omega
   ·omega
  rw [same_putsH hnd hs' hlen c3];exact tail_seq hseq (hK vs w' hlen hb c4)
 ·rw [getD_replicate_false];simp
 ·have H:=headA_lex (md:=.any) (n:=n) hsel' hsink ((maskHL hs 0 l).take n) 0 _ a (fun j hj=>by
   rw [htl] at hj
   simp [hj]) (by simpa using htl) inv0 (by rw [htl];exact hlex) (h V hV)
  rw [htl] at H;exact H
theorem wp_region_chain3 {id:Nat} {Q:Exit→Act→World→Prop} {a:Act} {w:World} {l:List Oper} (n:Nat) (x0 x1 x2:Nat×Nat) (F0:Value→World→Prop) (F1:Value→Value→World→Prop) (F2:Value→Value→Value→World→Prop) {o0 o1 o2:Oper} (hm:P.follows .mixedOrders=true)
 (g0:l[x0.1]?=some o0) (g1:l[x1.1]?=some o1) (g2:l[x2.1]?=some o2) (hB:chainB l n [x0,x1,x2] (maskHL [x0,x1,x2] 0 l)=true) (hsz:x0.2<a.tmps.size∧x1.2<a.tmps.size∧x2.2<a.tmps.size)
 (hF0:∀ v w w',F0 v w→Below w.heap.size w w'→F0 v w') (hF1:∀ v u w w',F1 v u w→Below w.heap.size w w'→F1 v u w') (hF2:∀ v u z w w',F2 v u z w→Below w.heap.size w w'→F2 v u z w')
 (h:∀ V,Below w.heap.size w V→wpQuiet P (maskHL [x0,x1,x2] 0 l).toArray (fun w'=>∃ p:Bel V,w'=p.w1)
  (fun aq=>(∀ V,Below w.heap.size w V→wpList P l.toArray (fun e a' V'=>∃ v,e=.normal∧a'=aq.put o0.dst v∧Below V.heap.size V V'∧F0 v V') [o0] aq V) ∧
   (∀ v V,Below w.heap.size w V→F0 v V→wpList P l.toArray (fun e a' V'=>∃ u,e=.normal∧a'=(aq.put (some x0.2) v).put o1.dst u∧Below V.heap.size V V'∧F1 v u V') [o1] (aq.put (some x0.2) v) V) ∧
   (∀ v u V,Below w.heap.size w V→F1 v u V→wpList P l.toArray (fun e a' V'=>∃ z,e=.normal∧a'=((aq.put (some x0.2) v).put (some x1.2) u).put o2.dst z∧Below V.heap.size V V'∧F2 v u z V') [o2] ((aq.put (some x0.2) v).put (some x1.2) u) V) ∧
   ∀ v u z V,Below w.heap.size w V→F2 v u z V→wpList P l.toArray Q (l.drop n) (((aq.put (some x0.2) v).put (some x1.2) u).put (some x2.2) z) V) ((maskHL [x0,x1,x2] 0 l).take n) a):(Code.region id l.toArray true).wp P Q a w:=by
 refine wp_region_chain n [x0,x1,x2] (fun vs w=>match vs with|[]=>True|[v]=>F0 v w|[v,u]=>F1 v u w|[v,u,z]=>F2 v u z w|_=>False) hm hB (by simpa using hsz) (fun vs w w' hr hb => ?_) (fun _ _=>trivial) fun V hV => ?_
 ·match vs,hr with
  | [],_=>trivial
  | [v],hr=>exact hF0 _ _ _ hr hb
  | [v,u],hr=>exact hF1 _ _ _ _ hr hb
  | [v,u,z],hr=>exact hF2 _ _ _ _ _ hr hb
 ·refine wpQuiet_mono' (fun aq ⟨h0,h1,h2,h3⟩=>⟨fun k x o vs V' hk ho hl hb hr => ?_,fun vs V' hl hb hr => ?_⟩) (h V hV)
  ·have ho:l[x.1]?=some o:=by simpa using ho
   match k,vs,hl,hk with
   | 0,[],_,hk =>
    simp at hk;subst hk;obtain rfl:=Option.some.inj (g0.symm.trans ho);exact h0 V' hb
   | 1,[v],_,hk =>
    simp at hk;subst hk;obtain rfl:=Option.some.inj (g1.symm.trans ho);exact h1 v V' hb hr
   | 2,[v,u],_,hk =>
    simp at hk;subst hk;obtain rfl:=Option.some.inj (g2.symm.trans ho);exact h2 v u V' hb hr
   | k+3,_,_,hk=>simp at hk
  ·match vs,hl,hr with
   | [v,u,z],_,hr=>exact h3 v u z V' hb hr
end
end Go.Proofs.YtiochgoocbkckaaGreatDoor
