/-
 One more law on regions that leave their order open: one call hands back a value that depends on the world (a list in new memory), of which a fact is kept by all that follows; one later call takes that value. One walk of the other operations, in the text's order, serves all orders. Conditions: closed facts on the region's edges, by the kernel.
-/
import Derived.Test.YtiochgoocbkckaaGreatDoorAReg3
set_option maxRecDepth 100000
set_option linter.unusedSimpArgs false
set_option linter.unusedVariables false
namespace Go.Proofs.YtiochgoocbkckaaGreatDoor
open Go Go.RowKit

section
variable {P:Program} {md:Region.Mode} {ops M:Array Oper}

theorem waits_listed {listed:Array Bool} {s i:Nat} (h:Region.waitsFor md ops s i=true) (hs:s∈Region.ready md ops listed):listed.getD i false=true:=by
 obtain ⟨_,o,ho,hall⟩:=mem_ready.1 hs;obtain ⟨oj,hoj,e,he,hb,hon⟩:=Region.waitsFor_spec h;have:oj=o:=Option.some.inj (hoj.symm.trans ho);subst this;rw [← hon];exact hall e he hb
def allO (ops:Array Oper) (f:Nat→Oper→Bool):Bool:=(List.range ops.size).all fun i=>match ops[i]? with|some o=>f i o|none=>true
theorem allO_spec {f:Nat→Oper→Bool} (h:allO ops f=true) {i:Nat} {o:Oper} (ho:ops[i]?=some o):f i o=true:=by
 have:=List.all_eq_true.1 h i (List.mem_range.2 (Array.getElem?_eq_some_iff.1 ho).1)
 rwa [ho] at this
def mask2 (i j:Nat) (u c:Value) (k:Nat) (o:Oper):Oper:=if k=i then { o with op:=.move (.const u) } else if k=j then { o with op:=.move (.const c) } else o
def maskL (i j:Nat) (u c:Value):Nat→List Oper→List Oper
 | _,[]=>[]
 | k,o :: l=>mask2 i j u c k o :: maskL i j u c (k+1) l
theorem maskL_get {i j:Nat} {u c:Value} : ∀ (l:List Oper) (k t:Nat),(maskL i j u c k l)[t]?=(l[t]?).map (mask2 i j u c (k+t))
 | [],_,_=>by simp [maskL]
 | o :: l,k,0=>by simp [maskL]
 | o :: l,k,t+1=>by
  simp only [maskL,List.getElem?_cons_succ];rw [maskL_get l (k+1) t,show k+1+t=k+(t+1) by omega]
theorem maskL_len {i j:Nat} {u c:Value} : ∀ (l:List Oper) (k:Nat),(maskL i j u c k l).length=l.length
 | [],_=>rfl
 | _ :: l,k=>by simp [maskL,maskL_len l (k+1)]
theorem mask2_dst {i j:Nat} {u c:Value} (k:Nat) (o:Oper):(mask2 i j u c k o).dst=o.dst:=by unfold mask2;repeat (first|rfl|split)
theorem mask2_after {i j:Nat} {u c:Value} (k:Nat) (o:Oper):(mask2 i j u c k o).after=o.after:=by unfold mask2;repeat (first|rfl|split)
theorem mask2_guard {i j:Nat} {u c:Value} (k:Nat) (o:Oper):(mask2 i j u c k o).guard=o.guard:=by unfold mask2;repeat (first|rfl|split)

structure HoldOk (md:Region.Mode) (ops:Array Oper) (i j d:Nat) (oi oj:Oper):Prop where
 gi:ops[i]?=some oi
 gj:ops[j]?=some oj
 ne:i≠j
 di:oi.dst=some d
 dj:∃ e,oj.dst=some e∧e≠d
 wr:∀ (k:Nat) (o:Oper),ops[k]?=some o→k≠i→o.dst≠some d
 look:∀ (k:Nat) (o:Oper),ops[k]?=some o→k≠j→d∉o.looksAt ops
 wait:Region.waitsFor md ops j i=true
 ri:∀ t∈oi.looksAt ops,∀ (k:Nat) (o:Oper),ops[k]?=some o→o.dst=some t→Region.waitsFor md ops i k=true
 gd:∀ (g:Nat) (b:Bool),oj.guard=some (g,b)→(ops[g]?).bind (·.dst)≠some d
 rj:∀ t∈oj.looksAt ops,t≠d→∀ (k:Nat) (o:Oper),ops[k]?=some o→o.dst=some t→Region.waitsFor md ops j k=true

theorem exec_looks {a b:Act} {o:Oper} (hsel:∀ cs b,o.op≠.select cs b) (h:∀ t∈o.looksAt ops,b.tmps[t]?=a.tmps[t]?):execOp b.eval o=execOp a.eval o:=by
 refine execOp_congr o hsel fun x hx => ?_
 cases x with
 | tmp t=>simp only [Act.eval,Array.getD_eq_getD_getElem?,h t (List.mem_append_left _ (List.mem_filterMap.2 ⟨.tmp t,by simpa using hx,rfl⟩))]
 | _=>rfl
theorem wanted_looks {a b:Act} {o:Oper} (h:∀ t∈o.looksAt ops,b.tmps[t]?=a.tmps[t]?):Region.wanted o (yielded ops b.tmps)=Region.wanted o (yielded ops a.tmps):=by
 unfold Region.wanted
 cases hg:o.guard with
 | none=>rfl
 | some gw =>
  obtain ⟨g,want⟩:=gw
  have hy:yielded ops b.tmps g=yielded ops a.tmps g:=by
   unfold yielded
   cases ht:(ops[g]?).bind (·.dst) with
   | none=>rfl
   | some t=>simp [h t (by simp [Oper.looksAt,hg,ht])]
  simp only [hy]
theorem put_inj {a:Act} {d:Nat} {v u:Value} (hd:d<a.tmps.size) (h:a.put (some d) v=a.put (some d) u):v=u:=by
 have:=congrArg (fun x:Act=>x.tmps[d]?) h
 simpa [put_get,hd] using this
theorem wpOp_of_one {o:Oper} {i d:Nat} {a aq:Act} {w:World} {K:Act→World→Prop} {Q':Exit→Act→World→Prop} {R:Value→World→Prop} (ho:ops[i]?=some o) (he:execOp a.eval o=execOp aq.eval o)
 (hw:Region.wanted o (yielded ops a.tmps)=Region.wanted o (yielded ops aq.tmps)) (hd:o.dst=some d) (hsz:d<aq.tmps.size)
 (h:wpList P ops (fun e a' w'=>∃ v,e=.normal∧a'=aq.put o.dst v∧R v w') [o] aq w) (hK:∀ v w',R v w'→K (a.put o.dst v) w'):wpOp P ops Q' i K a w:=by
 have hput:∀ (v:Value) (w':World),(∃ v',Exit.normal=.normal∧aq.put o.dst v=aq.put o.dst v'∧R v' w')→K (a.put o.dst v) w':=fun v w' ⟨v',_,e,hr⟩=>by
  rw [hd] at e;have:=put_inj hsz e;subst this;exact hK _ _ hr
 unfold wpOp;simp only [ho];unfold wpList at h
 by_cases hwd:Region.wanted o (yielded ops aq.tmps)=true
 ·rw [hw,if_pos hwd]
  rw [if_pos hwd] at h;rcases h with h|⟨_,a',w',v,e,_⟩
  ·left
   unfold Oper.wp at h ⊢;rw [he];generalize (execOp aq.eval o).run P w=r at *
   cases r with
   | ok n w' =>
    cases n<;>simp only [Oper.upon] at h ⊢
    case value v=>exact hput _ _ h
    case skip=>exact hput _ _ h
    case defer dd =>
     obtain ⟨v',_,e,_⟩:=h;have:=congrArg Act.defers e;simp only [put_defers] at this;exact absurd (congrArg List.length this) (by simp)
    case enter f args =>
     refine Calls.mono h fun e w'' hh => ?_
     cases e
     case returned v=>exact hput _ _ hh
     case panicked ch =>
      obtain ⟨_,e,_⟩:=hh;cases e
     case outgrown =>
      obtain ⟨_,_,_,e,_⟩:=hh;cases e
    case row row args=>exact Rows.mono h fun v w'' hh=>hput _ _ hh
   | halt x w' =>
    cases x<;>simp only [Oper.upon] at h;obtain ⟨_,e,_⟩:=h;cases e
  ·cases e
 ·rw [hw,if_neg hwd]
  rw [if_neg hwd] at h;exact hput _ _ h

theorem headAny_end2 {C:World→Prop} {n:Nat} {L:Array Bool→Act→Prop} : ∀ (f:Nat) (listed:Array Bool) (a:Act),headAny P md ops C n L f listed a →
 ∃ listed' a',L listed' a'∧a'.tmps.size=a.tmps.size∧∀ t,(∀ j o,ops[j]?=some o→listed.getD j true=false→o.dst≠some t)→a'.tmps[t]?=a.tmps[t]?
 | 0,listed,a,h=>⟨listed,a,h,rfl,fun _ _=>rfl⟩
 | f+1,listed,a,h=>by
  obtain ⟨i,hi⟩:=List.exists_mem_of_ne_nil _ h.1;obtain ⟨hun,o,ho,_⟩:=mem_ready.1 hi;obtain ⟨v,_,hn⟩:=yieldsIn_of_qOp ho (h.2 i hi).2;obtain ⟨l',a',h1,h0,h2⟩:=headAny_end2 f _ _ hn;refine ⟨l',a',h1,by rw [h0,put_size],fun t ht => ?_⟩;have hne:=ht i o ho hun;rw [h2 t fun j oj hj hl=>ht j oj hj ?_]
  ·cases hd:o.dst with
   | none=>rfl
   | some d=>rw [put_get,if_neg fun c=>hne (by rw [hd,c.1])]
  ·rcases Nat.decEq i j with hij|hij
   ·rwa [getD_set_ne true hij] at hl
   ·subst hij;exact hun

variable {W:World} {F:Value→World→Prop} {i j d:Nat} {oi oj:Oper} {u c:Value}
def HoldEnd (P:Program) (ops:Array Oper) (W:World) (F:Value→World→Prop) (d:Nat) (c:Value) (oi oj:Oper) (aq:Act):Prop :=
 (∀ V,Below W.heap.size W V→wpList P ops (fun e a' V'=>∃ v,e=.normal∧a'=aq.put oi.dst v∧(Below V.heap.size V V'∧F v V')) [oi] aq V) ∧
 ∀ V v,Below W.heap.size W V→F v V→wpList P ops (fun e a' V'=>∃ v',e=.normal∧a'=(aq.put (some d) v).put oj.dst v'∧(v'=c∧Below V.heap.size V V')) [oj] (aq.put (some d) v) V
theorem wpAny_of_hold {n:Nat} {L:Array Bool→Act→Prop} {Q':Exit→Act→World→Prop} (hsel:Region.noSelect ops=true) (k:HoldOk md ops i j d oi oj) (hMs:M.size=ops.size) (hM:∀ t:Nat,M[t]?=(ops[t]?).map (mask2 i j u c t))
 (hF:∀ v w w',F v w→Below w.heap.size w w'→F v w') (hE:∀ listed aq,L listed aq→HoldEnd P ops W F d c oi oj aq)
 (hL:∀ listed aq a w,Below W.heap.size W w→Same [d] aq a→(listed.getD i false=true→∃ v,a.tmps[d]?=some v∧F v w)→L listed aq→wpAny P md ops Q' 0 listed a w) :
 ∀ (f:Nat) (listed:Array Bool) (aq a:Act) (w:World),d<a.tmps.size→(∀ e,oj.dst=some e→e<a.tmps.size)→listed.size=ops.size→Below W.heap.size W w→Same [d] aq a→(listed.getD i false=true→∃ v,a.tmps[d]?=some v∧F v w) →
  (∀ V,Below W.heap.size W V→headAny P md M (fun w'=>∃ p:Bel V,w'=p.w1) n L f listed aq)→wpAny P md ops Q' f listed a w
 | 0,listed,aq,a,w,_,_,_,hb,hs,hl,H=>hL _ _ _ _ hb hs hl (H w hb)
 | f+1,listed,aq,a,w,hsz,hsze,hls,hb,hs,hl,H=>by
  have hdst:∀ {t:Nat} {o:Oper},M[t]?=some o→∃ o',ops[t]?=some o'∧o.dst=o'.dst:=fun {t o} h=>by
   rw [hM] at h
   cases hq:ops[t]? with
   | none=>rw [hq] at h;cases h
   | some o'=>rw [hq] at h;cases h;exact ⟨o',rfl,mask2_dst _ _⟩
  have hrdy:Region.ready md M listed=Region.ready md ops listed:=by
   unfold Region.ready;rw [hMs];refine List.filter_congr fun t _ => ?_
   rw [hM];cases ops[t]?<;>simp [mask2_after]
  have hyl:∀ tmps:Array Value,yielded M tmps=yielded ops tmps:=fun tmps=>funext fun t=>by
   unfold yielded;rw [hM]
   cases ops[t]? with
   | none=>rfl
   | some o=>simp [mask2_dst]
  have HW:=H W (Below.refl _ _);have Hw:=H w hb;refine ⟨fun h0=>absurd (by rw [hrdy];exact h0) Hw.1,fun t hri => ?_⟩;have hi':t∈Region.ready md M listed:=by rw [hrdy];exact hri
  obtain ⟨hin,hq⟩:=Hw.2 t hi';obtain ⟨hun,o,ho,_⟩:=mem_ready.1 hri;have htlt:t<listed.size:=by rw [hls];exact (Array.getElem?_eq_some_iff.1 ho).1
  have ho':M[t]?=some (mask2 i j u c t o):=by rw [hM,ho];rfl
  obtain ⟨v,hy,_⟩:=yieldsIn_of_qOp ho' hq;obtain ⟨v0,hy0,_⟩:=yieldsIn_of_qOp ho' (HW.2 t hi').2;have ev0:v0=v:=yields_det (w:=w) ⟨⟨w,hb⟩,rfl⟩ ⟨⟨w,Below.refl _ _⟩,rfl⟩ hy0 hy;subst ev0
  have fam:∀ V,Below W.heap.size W V→headAny P md M (fun w'=>∃ p:Bel V,w'=p.w1) n L f (listed.setIfInBounds t true) (aq.put o.dst v0):=fun V hV=>by
   obtain ⟨x,hx,hn⟩:=yieldsIn_of_qOp ho' ((H V hV).2 t hi').2;have:=yields_det (w:=V) ⟨⟨V,hV⟩,rfl⟩ ⟨⟨V,Below.refl _ _⟩,rfl⟩ hy0 hx;subst this;rw [mask2_dst] at hn;exact hn
  have hset:∀ (x:Option Nat) (z:Value),(∀ e,oj.dst=some e→e<(a.put x z).tmps.size):=fun x z e he=>by rw [put_size];exact hsze e he
  obtain ⟨l',aE,hLE,aEsz,hend⟩:=headAny_end2 _ _ _ Hw;obtain ⟨HEi,HEj⟩:=hE _ _ hLE;have aEa:aE.tmps.size=a.tmps.size:=by rw [aEsz,hs.size]
  -- what is written ahead of an operation that waits for it
  have fix:∀ t':Nat,(∀ (k:Nat) (o:Oper),ops[k]?=some o→o.dst=some t'→Region.waitsFor md ops t k=true)→aE.tmps[t']?=aq.tmps[t']?:=fun t' hw=>hend t' fun k ok hk hlk hdk=>by
   obtain ⟨o2,h2,e2⟩:=hdst hk;have:=waits_listed (hw k o2 h2 (by rw [← e2];exact hdk)) hri;rw [getD_both hlk] at this;cases this
  have hsl:=Region.noSelect_spec hsel t o;have hsl':∀ cs b,o.op≠.select cs b:=fun cs b=>hsl cs b ho
  have hit:t≠i→(listed.setIfInBounds t true).getD i false=listed.getD i false:=fun h=>getD_set_ne false h
  by_cases hti:t=i
  ·have hti':=hti.symm
   subst hti';have e0:oi=o:=Option.some.inj (k.gi.symm.trans ho);subst e0
   have hag:∀ t'∈oi.looksAt ops,a.tmps[t']?=aE.tmps[t']?:=fun t' ht'=>by
    have hne:t'≠d:=fun e=>k.look i oi ho k.ne (e▸ht')
    rw [fix t' (k.ri t' ht')];exact hs.off t' (by simpa using hne)
   refine wpOp_of_one (o:=oi) (d:=d) (aq:=aE) ho (exec_looks hsl' hag) (wanted_looks hag) k.di (by rw [aEa];exact hsz) (HEi w hb) fun v w' ⟨hb2,hv⟩ => ?_
   refine wpAny_of_hold hsel k hMs hM hF hE hL f _ (aq.put oi.dst v0) _ _ (by rw [put_size];exact hsz) (hset _ _) (by simp [hls]) (hb.trans (hb2.mono hb.size)) ?_ (fun _=>⟨v,?_,hv⟩) fam
   ·rw [k.di];exact hs.putIn (by simp) _ _
   ·rw [k.di,put_get,if_pos ⟨rfl,hsz⟩]
  ·by_cases htj:t=j
   ·have htj':=htj.symm
    subst htj';have e0:oj=o:=Option.some.inj (k.gj.symm.trans ho);subst e0;obtain ⟨v,hv,hFv⟩:=hl (waits_listed k.wait hri);obtain ⟨e,hde,hne⟩:=k.dj
    have hag:∀ t'∈oj.looksAt ops,a.tmps[t']?=(aE.put (some d) v).tmps[t']?:=fun t' ht'=>by
     rw [put_get,aEa]
     by_cases hd':d=t'
     ·subst hd'
      rw [if_pos ⟨rfl,hsz⟩,hv]
     ·rw [if_neg fun c=>hd' c.1,fix t' (k.rj t' ht' (Ne.symm hd'))]
      exact hs.off t' (by simpa using Ne.symm hd')
    have hwa:Region.wanted oj (yielded ops a.tmps)=Region.wanted oj (yielded ops (aE.put (some d) v).tmps):=wanted_looks hag
    have hwq:Region.wanted (mask2 i j u c j oj) (yielded M aq.tmps)=Region.wanted oj (yielded ops a.tmps):=by
     rw [hyl];unfold Region.wanted;rw [mask2_guard]
     cases hg:oj.guard with
     | none=>rfl
     | some gw =>
      obtain ⟨g,want⟩:=gw
      have hyg:yielded ops aq.tmps g=yielded ops a.tmps g:=by
       unfold yielded
       cases ht:(ops[g]?).bind (·.dst) with
       | none=>rfl
       | some t'=>simp [hs.off t' (by have:=k.gd g want hg;rw [ht] at this;simpa using this)]
      simp only [hyg]
    have hc:v0=c:=by
     rcases hy with ⟨g1,h1⟩|⟨g1,rfl⟩
     ·have h3:=h1 w ⟨⟨w,Below.refl _ _⟩,rfl⟩
      have e3:mask2 i j u c j oj = { oj with op:=.move (.const c) } := by unfold mask2;rw [if_neg hti,if_pos rfl]
      rw [e3] at h3;unfold Oper.quietAt execOp Oper.quietUpon at h3;simp [Act.eval] at h3;exact h3.symm
     ·rw [hwq,hwa] at g1
      have h4:=HEj w v hb hFv;unfold wpList at h4;rw [if_neg (by rw [g1];decide)] at h4;obtain ⟨v',_,e4,e5,_⟩:=h4;rw [hde] at e4;rw [← e5];exact put_inj (by rw [put_size,aEa];exact hsze e hde) e4
    refine wpOp_of_one (o:=oj) (d:=e) (aq:=aE.put (some d) v) ho (exec_looks hsl' hag) hwa hde (by rw [put_size,aEa];exact hsze e hde) (HEj w v hb hFv) fun v' w' ⟨e',hb2⟩ => ?_
    rw [e',← hc];refine wpAny_of_hold hsel k hMs hM hF hE hL f _ (aq.put oj.dst v0) _ _ (by rw [put_size];exact hsz) (hset _ _) (by simp [hls]) (hb.trans (hb2.mono hb.size)) (hs.put _ _) (fun _=>⟨v,?_,hF _ _ _ hFv hb2⟩) fam;rw [hde,put_get,if_neg fun c=>hne c.1,hv]
   ·have hmo:mask2 i j u c t o=o:=by unfold mask2;rw [if_neg hti,if_neg htj]
    rw [hmo] at hy
    have hD:∀ t'∈o.looksAt ops,t'∉[d]:=fun t' ht' hm=>by
     simp only [List.mem_singleton] at hm;subst hm;exact k.look t o ho htj ht'
    have he:=hs.exec (ops:=ops) (o:=o) hsl' hD;have hwn:=hs.wanted (ops:=ops) (o:=o) hD
    have go:∀ w2,Below w.heap.size w w2→wpAny P md ops Q' f (listed.setIfInBounds t true) (a.put o.dst v0) w2:=fun w2 hb2=>by
     refine wpAny_of_hold hsel k hMs hM hF hE hL f _ (aq.put o.dst v0) _ _ (by rw [put_size];exact hsz) (hset _ _) (by simp [hls]) (hb.trans (hb2.mono hb.size)) (hs.put _ _) (fun hl2 => ?_) fam;rw [hit hti] at hl2;obtain ⟨v,hv,hFv⟩:=hl hl2;refine ⟨v,?_,hF _ _ _ hFv hb2⟩;have hnd:=k.wr t o ho hti
     cases hod:o.dst with
     | none=>exact hv
     | some d'=>rw [put_get,if_neg fun c=>hnd (by rw [hod,c.1]),hv]
    unfold wpOp;simp only [ho];have hwm:Region.wanted o (yielded M aq.tmps)=Region.wanted o (yielded ops aq.tmps):=by rw [hyl]
    rcases hy with ⟨g1,h1⟩|⟨g1,rfl⟩
    ·rw [hwm,← hwn] at g1
     rw [if_pos g1];left;have h3:=h1 w ⟨⟨w,Below.refl _ _⟩,rfl⟩;unfold Oper.quietAt at h3;rw [← he] at h3;unfold Oper.wp;generalize (execOp a.eval o).run P w=r at *
     cases r with
     | ok m w' =>
      cases m<;>simp only [Oper.quietUpon] at h3<;>simp only [Oper.upon]
      case value u=>obtain ⟨rfl,rfl⟩:=h3;exact go _ (Below.refl _ _)
      case skip=>obtain ⟨rfl,rfl⟩:=h3;exact go _ (Below.refl _ _)
      case enter fn args =>
       obtain ⟨rfl,hc⟩:=h3;exact hc.mono fun e w'' ⟨he,p,hp⟩=>by subst he;subst hp;exact go _ p.h
     | halt x w'=>simp only [Oper.quietUpon] at h3
    ·rw [hwm,← hwn] at g1
     rw [if_neg (by rw [g1];decide)];exact go _ (Below.refl _ _)

def holdB (l:List Oper) (i j d:Nat) (m:List Oper):Bool :=
 Region.noSelect l.toArray&&Region.noSelect m.toArray&&decide (i≠j) &&
 (((l[i]?).bind (·.dst))==some d)&&(match (l[j]?).bind (·.dst) with|some e=>e != d|none=>false) &&
 (allO l.toArray fun k o=>(k==i||o.dst != some d)&&(k==j || !(o.looksAt l.toArray).contains d))&&Region.waitsFor .any l.toArray j i &&
 (match l[i]? with|some o=>(o.looksAt l.toArray).all fun t=>allO l.toArray fun k o'=>o'.dst != some t||Region.waitsFor .any l.toArray i k|none=>false) &&
 (match l[j]? with|some o=>(match o.guard with|some g=>(l[g.1]?).bind (·.dst) != some d|none=>true)|none=>false) &&
 (match l[j]? with|some o=>(o.looksAt l.toArray).all fun t=>t==d||allO l.toArray fun k o'=>o'.dst != some t||Region.waitsFor .any l.toArray j k|none=>false) &&
 lexHeadA .any m.toArray l.length 0 (Array.replicate l.length false)&&(Region.ready .any l.toArray (restA l l.length)).isEmpty&&(restA l l.length).getD i false&&sinkAll .any m.toArray l.length
theorem holdOk_of {l:List Oper} {i j d:Nat} {m:List Oper} {oi oj:Oper} (gi:l[i]?=some oi) (gj:l[j]?=some oj) (hB:holdB l i j d m=true):HoldOk .any l.toArray i j d oi oj:=by
 simp only [holdB,Bool.and_eq_true,decide_eq_true_eq,gi,gj,Option.bind_some,beq_iff_eq,List.all_eq_true] at hB;obtain ⟨⟨⟨⟨⟨⟨⟨⟨⟨⟨⟨⟨⟨hsel,hsel'⟩,hne⟩,hdi⟩,hdj⟩,hall⟩,hw⟩,hri⟩,hgd⟩,hrj⟩,hlex⟩,hrd⟩,li⟩,hsink⟩:=hB;refine ⟨by simpa using gi,by simpa using gj,hne,hdi,?_,fun k o ho hk => ?_,fun k o ho hk => ?_,hw,fun t ht k o ho hd => ?_,fun g b hg => ?_,fun t ht hn k o ho hd => ?_⟩
 ·cases hq:oj.dst with
  | none=>rw [hq] at hdj;cases hdj
  | some e=>rw [hq] at hdj;exact ⟨e,rfl,by simpa using hdj⟩
 ·have:=(Bool.and_eq_true _ _▸allO_spec hall ho).1
  simpa [hk] using this
 ·have:=(Bool.and_eq_true _ _▸allO_spec hall ho).2
  simpa [hk] using this
 ·have:=allO_spec (hri t ht) ho
  simpa [hd] using this
 ·rw [hg] at hgd
  simpa using hgd
 ·have:=hrj t ht
  simp only [Bool.or_eq_true,beq_iff_eq,hn,false_or] at this;have:=allO_spec this ho
  simpa [hd] using this
theorem wp_region_hold {id:Nat} {Q:Exit→Act→World→Prop} {a:Act} {w:World} {l:List Oper} (i j d:Nat) (c:Value) (F:Value→World→Prop) {oi oj:Oper} (hm:P.follows .mixedOrders=true)
 (gi:l[i]?=some oi) (gj:l[j]?=some oj) (hB:holdB l i j d (maskL i j undef c 0 l)=true) (hsz:d<a.tmps.size) (hsze:∀ e,oj.dst=some e→e<a.tmps.size)
 (hF:∀ v w w',F v w→Below w.heap.size w w'→F v w')
 (h:∀ V,Below w.heap.size w V→wpQuiet P (maskL i j undef c 0 l).toArray (fun w'=>∃ p:Bel V,w'=p.w1)
  (fun aq=>HoldEnd P l.toArray w F d c oi oj aq∧∀ v V,Below w.heap.size w V→F v V→Q .normal (aq.put (some d) v) V) (maskL i j undef c 0 l) a):(Code.region id l.toArray true).wp P Q a w:=by
 have hk:=holdOk_of gi gj hB;simp only [holdB,Bool.and_eq_true,decide_eq_true_eq,List.isEmpty_iff] at hB;obtain ⟨⟨⟨⟨⟨⟨⟨⟨⟨⟨⟨⟨⟨hsel,hsel'⟩,_⟩,_⟩,_⟩,_⟩,_⟩,_⟩,_⟩,_⟩,hlex⟩,hrd⟩,li⟩,hsink⟩:=hB;refine wp_region_any hm ?_;rw [show l.toArray.size=l.length by simp]
 have inv0:HeadInv .any (maskL i j undef c 0 l).toArray l.length (Array.replicate l.length false) :=
  ⟨by simp [maskL_len],fun j oj _ hl=>(by rw [getD_replicate_false] at hl;cases hl),fun t _ ht=>getD_in (by simpa [maskL_len] using ht) (getD_replicate_false _ _)⟩
 refine wpAny_of_hold (W:=w) (M:=(maskL i j undef c 0 l).toArray) (F:=F) (i:=i) (j:=j) (d:=d) (u:=undef) (c:=c) (n:=l.length)
  (L:=fun listed' aq=>listed'=restA l l.length∧HoldEnd P l.toArray w F d c oi oj aq∧∀ v V,Below w.heap.size w V→F v V→Q .normal (aq.put (some d) v) V) hsel hk (by simp [maskL_len]) (fun t=>by simp [maskL_get]) hF (fun _ _ hL=>hL.2.1)
  (fun listed aq a' w' hb hs' hl' hL => ?_) l.length _ a a _ hsz hsze (by simp) ((Below.refl _ w).drew) (Same.refl _ _) (fun hl => ?_) fun V hV => ?_
 ·obtain ⟨rfl,_,hK⟩:=hL
  obtain ⟨v,hv,hFv⟩:=hl' li;refine ⟨hrd,?_⟩;rw [same_one hs' hv];exact hK v w' hb hFv
 ·rw [getD_replicate_false] at hl;cases hl
 ·have H:=headA_lex (md:=.any) (n:=l.length) hsel' hsink (maskL i j undef c 0 l) 0 _ a (fun j hj=>by simp) (by simp [maskL_len]) inv0 (by rw [maskL_len];exact hlex) (h V hV)
  rw [maskL_len] at H;have e:lexListed l.length 0 (Array.replicate l.length false)=restA l l.length:=rfl;rw [e] at H;exact H
end
end Go.Proofs.YtiochgoocbkckaaGreatDoor
