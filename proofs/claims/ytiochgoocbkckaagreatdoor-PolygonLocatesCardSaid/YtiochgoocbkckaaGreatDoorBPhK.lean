/-
 A law on regions that leave their order open.
 Regions with polygons.
 Sizes of shapes.
-/
import Derived.Test.YtiochgoocbkckaaGreatDoorAgbs
import Derived.Test.YtiochgoocbkckaaGreatDoorAReg7
import Derived.Test.YtiochgoocbkckaaGreatDoorAgbh
import Derived.Test.YtiochgoocbkckaaGreatDoorAReg3
import Derived.Test.YtiochgoocbkckaaGreatDoorBPgR
set_option maxRecDepth 100000
set_option linter.unusedSimpArgs false
set_option linter.unusedVariables false
namespace Go.Proofs.YtiochgoocbkckaaGreatDoor
open Go Go.RowKit

section
variable {P:Program} {md:Region.Mode} {ops M:Array Oper} {W:World}

structure HeldV where
 i:Nat
 d:Nat
 F:Value→World→Prop
structure HeldOk (md:Region.Mode) (ops:Array Oper) (hs:List HeldV):Prop where
 gi:∀ z∈hs,∃ o,ops[z.i]?=some o∧o.dst=some z.d∧(∀ T,o.op≠.alloc T)∧∀ T x y,o.op≠.store T x y
 wr:∀ z∈hs,∀ (k:Nat) (o:Oper),ops[k]?=some o→k≠z.i→o.dst≠some z.d
 look:∀ z∈hs,∀ (k:Nat) (o:Oper),ops[k]?=some o→(∀ T x y,o.op≠.store T x y)→z.d∉o.looksAt ops
 ri:∀ z∈hs,∀ oi,ops[z.i]?=some oi→∀ t∈oi.looksAt ops,∀ (k:Nat) (o:Oper),ops[k]?=some o→o.dst=some t→Region.waitsFor md ops z.i k=true
 one:∀ z∈hs,∀ y∈hs,z.i=y.i→z=y
def maskD (hi:List Nat) (k:Nat) (o:Oper):Oper:=if hi.contains k then { o with op:=.move (.const undef) } else maskS o
def maskDL (hi:List Nat):Nat→List Oper→List Oper
 | _,[]=>[]
 | k,o :: l=>maskD hi k o :: maskDL hi (k+1) l
theorem maskDL_get {hi:List Nat} : ∀ (l:List Oper) (k t:Nat),(maskDL hi k l)[t]?=(l[t]?).map (maskD hi (k+t))
 | [],_,_=>by simp [maskDL]
 | o :: l,k,0=>by simp [maskDL]
 | o :: l,k,t+1=>by
  simp only [maskDL,List.getElem?_cons_succ];rw [maskDL_get l (k+1) t,show k+1+t=k+(t+1) by omega]
theorem maskDL_len {hi:List Nat} : ∀ (l:List Oper) (k:Nat),(maskDL hi k l).length=l.length
 | [],_=>rfl
 | _ :: l,k=>by simp [maskDL,maskDL_len l (k+1)]
theorem maskD_dst {hi:List Nat} (k:Nat) (o:Oper):(maskD hi k o).dst=o.dst:=by unfold maskD;split;rfl;exact maskS_dst o
theorem maskD_after {hi:List Nat} (k:Nat) (o:Oper):(maskD hi k o).after=o.after:=by unfold maskD;split;rfl;exact maskS_after o
def HeldAt (hs:List HeldV) (listed:Array Bool) (a:Act) (w:World):Prop:=∀ z∈hs,listed.getD z.i false=true→∃ v,a.tmps[z.d]?=some v∧z.F v w
def SmallB (w:World) (b n:Nat):Prop:=∀ k,n≤k→w.cell? ⟨b,k,none⟩=none
def SmallAt (al:List NewV) (listed:Array Bool) (a:Act) (w:World):Prop:=∀ x∈al,listed.getD x.i false=true→∀ b,a.tmps[x.d]?=some (.pointer (some ⟨b,0,none⟩))→SmallB w b x.cs.length
def ShapeD (al:List NewV) (hs:List HeldV) (a:Act):Prop:=∀ x∈al,(∃ z∈hs,x.y=.tmp z.d∧∀ v w,z.F v w→∃ vs:List Value,v.cells=vs.toArray∧x.cs.length=vs.length∧∀ u∈vs,u.oneCell'=true) ∨
 ((∀ z∈hs,opTmp x.y≠some z.d)∧∃ vs:List Value,(a.eval x.y).cells=vs.toArray∧x.cs.length=vs.length∧∀ u∈vs,u.oneCell'=true)
theorem SmallB.up {w w1:World} {b n:Nat} (h:SmallB w b n) (hb:Below w.heap.size w w1) (hl:b<w.heap.size):SmallB w1 b n:=fun k hk=>(hb.cell (p:=⟨b,k,none⟩) hl).trans (h k hk)
theorem SmallB.set {w:World} {b n c:Nat} {us:List Value} (h:SmallB w b n) (hu:b=c→us.length≤n):SmallB (w.setCells c 0 us) b n:=fun k hk=>by
 rw [World.cell?_setCells_out c us 0 w ⟨b,k,none⟩ (fun e _=>.inr (by have:=hu e;show 0+us.length≤k;omega))];exact h k hk
theorem SmallB.new {w:World} {cs:List Value} {T:TypeId} : SmallB (w.alloc (.cells cs.toArray T)) w.heap.size cs.length:=fun k hk=>by
 rw [World.cell?_alloc_at _ _ _ _ rfl]
 simpa using hk
theorem HeldAt.up {hs:List HeldV} {listed:Array Bool} {a a1:Act} {w w1:World} {i:Nat} (h:HeldAt hs listed a w) (hi:∀ z∈hs,z.i≠i) (ha:∀ z∈hs,a1.tmps[z.d]?=a.tmps[z.d]?)
 (hF:∀ z∈hs,∀ v,z.F v w→z.F v w1):HeldAt hs (listed.setIfInBounds i true) a1 w1:=fun z hz hl=>by
 rw [getD_set_ne false (Ne.symm (hi z hz))] at hl;obtain ⟨v,h1,h2⟩:=h z hz hl;exact ⟨v,by rw [ha z hz,h1],hF z hz v h2⟩

def CallEndD (P:Program) (ops:Array Oper) (W:World) (F:Value→World→Prop) (oi:Oper) (aq:Act):Prop :=
 ∀ V,Below W.heap.size W V→wpList P ops (fun e a' V'=>∃ v,e=.normal∧a'=aq.put oi.dst v∧(Below V.heap.size V V'∧F v V')) [oi] aq V
theorem wpAny_of_held {n:Nat} {al:List NewV} {hs:List HeldV} {L:Array Bool→Act→Prop} {Q':Exit→Act→World→Prop} (hsel:Region.noSelect ops=true) (k:NewOk md ops al) (kh:HeldOk md ops hs)
 (hMs:M.size=ops.size) (hM:∀ t:Nat,M[t]?=(ops[t]?).map (maskD (hs.map (·.i)) t))
 (hz:∀ x∈al,∀ w,(Instr.alloc x.T true (.tuple #[])).run P w=.ok (.pointer (some ⟨w.heap.size,0,none⟩)) (w.alloc (.cells x.cs.toArray x.T)))
 (hi:∀ x∈al,(P.info? x.T).map (·.size)=some x.cs.length)
 (hF:∀ z∈hs,∀ v w w',z.F v w→Below w.heap.size w w'→z.F v w')
 (hF2:∀ z∈hs,∀ x∈al,∀ v w b us,z.F v w→Own w b 0 x.cs→SmallB w b x.cs.length→z.F v (w.setCells b 0 us))
 (hSh:∀ listed aq,L listed aq→ShapeD al hs aq)
 (hE:∀ listed aq,L listed aq→∀ z∈hs,∀ oi,ops[z.i]?=some oi→CallEndD P ops W z.F oi aq)
 (hL:∀ listed aq a w,Below W.heap.size W w→Same (al.map (·.d)++hs.map (·.d)) aq a→LaidS ops W al listed a w→HeldAt hs listed a w→L listed aq→wpAny P md ops Q' 0 listed a w) :
 ∀ (f:Nat) (listed:Array Bool) (aq a:Act) (w:World),(∀ x∈al,x.d<a.tmps.size)→(∀ z∈hs,z.d<a.tmps.size)→listed.size=ops.size→Below W.heap.size W w→Same (al.map (·.d)++hs.map (·.d)) aq a→LaidS ops W al listed a w→SmallAt al listed a w→HeldAt hs listed a w →
  (∀ V,Below W.heap.size W V→headAny P md M (fun w'=>∃ p:Bel V,w'=p.w1) n L f listed aq)→wpAny P md ops Q' f listed a w
 | 0,listed,aq,a,w,_,_,_,hb,hs',hl,_,hh,H=>hL _ _ _ _ hb hs' hl hh (H w hb)
 | f+1,listed,aq,a,w,hsz,hszh,hls,hb,hs',hl,hsm,hh,H=>by
  have hrdy:Region.ready md M listed=Region.ready md ops listed:=by
   unfold Region.ready;rw [hMs];refine List.filter_congr fun t _ => ?_
   rw [hM];cases ops[t]?<;>simp [maskD_after]
  have hyl:∀ tmps:Array Value,yielded M tmps=yielded ops tmps:=fun tmps=>funext fun t=>by
   unfold yielded;rw [hM]
   cases ops[t]? with
   | none=>rfl
   | some o=>simp [maskD_dst]
  have hdst:∀ {t:Nat} {o:Oper},M[t]?=some o→∃ o',ops[t]?=some o'∧o.dst=o'.dst:=fun {t o} h=>by
   rw [hM] at h
   cases hq:ops[t]? with
   | none=>rw [hq] at h;cases h
   | some o'=>rw [hq] at h;cases h;exact ⟨o',rfl,maskD_dst _ _⟩
  have HW:=H W (Below.refl _ _);have Hw:=H w hb;refine ⟨fun h0=>absurd (by rw [hrdy];exact h0) Hw.1,fun i hri => ?_⟩;have hi':i∈Region.ready md M listed:=by rw [hrdy];exact hri
  obtain ⟨hin,hq⟩:=Hw.2 i hi';obtain ⟨hun,o,ho,_⟩:=mem_ready.1 hri;have hilt:i<listed.size:=by rw [hls];exact (Array.getElem?_eq_some_iff.1 ho).1
  have ho':M[i]?=some (maskD (hs.map (·.i)) i o):=by rw [hM,ho];rfl
  obtain ⟨v,hy,_⟩:=yieldsIn_of_qOp ho' hq;obtain ⟨v0,hy0,_⟩:=yieldsIn_of_qOp ho' (HW.2 i hi').2;have ev0:v0=v:=yields_det (w:=w) ⟨⟨w,hb⟩,rfl⟩ ⟨⟨w,Below.refl _ _⟩,rfl⟩ hy0 hy;subst ev0
  have fam:∀ V,Below W.heap.size W V→headAny P md M (fun w'=>∃ p:Bel V,w'=p.w1) n L f (listed.setIfInBounds i true) (aq.put o.dst v0):=fun V hV=>by
   obtain ⟨u,hu,hn⟩:=yieldsIn_of_qOp ho' ((H V hV).2 i hi').2;have:=yields_det (w:=V) ⟨⟨V,hV⟩,rfl⟩ ⟨⟨V,Below.refl _ _⟩,rfl⟩ hy0 hu;subst this;rw [maskD_dst] at hn;exact hn
  have hset:∀ (a2:Act),a2.tmps.size=a.tmps.size→∀ x∈al,x.d<a2.tmps.size:=fun a2 e x hx=>by rw [e];exact hsz x hx
  have hseth:∀ (a2:Act),a2.tmps.size=a.tmps.size→∀ z∈hs,z.d<a2.tmps.size:=fun a2 e x hx=>by rw [e];exact hszh x hx
  obtain ⟨l',aE,hLE,aEsz,hend⟩:=headAny_end2 _ _ _ Hw
  have ndh:∀ x∈al,∀ z∈hs,x.d≠z.d:=fun x hx z hz' e=>by
   obtain ⟨oa,p1,p2,_,p4⟩:=k.lay x hx;obtain ⟨oz,q1,q2,q3,_⟩:=kh.gi z hz';exact kh.wr z hz' x.i oa p1 (fun e2=>by rw [e2,q1] at p1;cases p1;exact q3 _ p2) (by rw [p4,e])
  have smallUp:∀ {a2:Act} {w2:World},Below w.heap.size w w2→(∀ x∈al,x.i≠i)→(∀ x∈al,a2.tmps[x.d]?=a.tmps[x.d]?)→SmallAt al (listed.setIfInBounds i true) a2 w2:=fun hb2 hni ha x hx hl2 b hbx=>by
   rw [getD_set_ne false (Ne.symm (hni x hx))] at hl2;rw [ha x hx] at hbx;obtain ⟨c,c1,_,c3,_⟩:=hl.at_ x hx hl2;rw [hbx] at c1;cases c1;exact (hsm x hx hl2 b hbx).up hb2 c3
  by_cases hih:i∈hs.map (·.i)
  ·obtain ⟨z,hz',rfl⟩:=List.mem_map.1 hih
   obtain ⟨oi,g1,g2,g3,g4⟩:=kh.gi z hz';have e0:oi=o:=Option.some.inj (g1.symm.trans ho);subst e0;have HEi:=hE _ _ hLE z hz' oi ho
   have fix:∀ t':Nat,(∀ (j:Nat) (o:Oper),ops[j]?=some o→o.dst=some t'→Region.waitsFor md ops z.i j=true)→aE.tmps[t']?=aq.tmps[t']?:=fun t' hw=>hend t' fun j oj hj hlj hdj=>by
    obtain ⟨o2,h2,e2⟩:=hdst hj;have:=waits_listed (hw j o2 h2 (by rw [← e2];exact hdj)) hri;rw [getD_both hlj] at this;cases this
   have hag:∀ t'∈oi.looksAt ops,a.tmps[t']?=aE.tmps[t']?:=fun t' ht'=>by
    rw [fix t' (kh.ri z hz' oi ho t' ht')];refine hs'.off t' fun hm => ?_
    rcases List.mem_append.1 hm with hm|hm
    ·obtain ⟨x,hx,rfl⟩:=List.mem_map.1 hm
     exact (k.oth z.i oi ho g3 g4 x hx).2 ht'
    ·obtain ⟨y,hy',rfl⟩:=List.mem_map.1 hm
     exact kh.look y hy' z.i oi ho g4 ht'
   have hsl:=Region.noSelect_spec hsel z.i oi;have aEa:aE.tmps.size=a.tmps.size:=by rw [aEsz,hs'.size]
   refine wpOp_of_one (o:=oi) (d:=z.d) (aq:=aE) ho (exec_looks (fun cs b=>hsl cs b ho) hag) (wanted_looks hag) g2 (by rw [aEa];exact hszh z hz') (HEi w hb) fun u w' ⟨hb2,hv⟩ => ?_
   have hni:∀ x∈al,x.i≠z.i:=fun x hx e=>by
    obtain ⟨oa,p1,p2,_⟩:=k.lay x hx;rw [e,ho] at p1;cases p1;exact g3 _ p2
   have had:∀ x∈al,(a.put oi.dst u).tmps[x.d]?=a.tmps[x.d]?:=fun x hx=>by
    rw [g2,put_get,if_neg fun c=>ndh x hx z hz' c.1.symm]
   refine wpAny_of_held hsel k kh hMs hM hz hi hF hF2 hSh hE hL f _ (aq.put oi.dst v0) _ _ (hset _ (put_size _ _ _)) (hseth _ (put_size _ _ _)) (by simp [hls]) (hb.trans (hb2.mono hb.size)) ?_ (hl.up k hb2 ho hun g3 g4) (smallUp hb2 hni had) ?_ fam
   ·rw [g2];exact hs'.putIn (List.mem_append_right _ (List.mem_map.2 ⟨z,hz',rfl⟩)) _ _
   ·intro y hy' hly
    rcases Nat.decEq y.i z.i with hne|heq
    ·rw [getD_set_ne false (Ne.symm hne)] at hly
     obtain ⟨vy,h1,h2⟩:=hh y hy' hly;have hyd:oi.dst≠some y.d:=kh.wr y hy' z.i oi ho (fun e=>hne e.symm);refine ⟨vy,?_,hF y hy' _ _ _ h2 hb2⟩;rw [g2,put_get,if_neg fun c=>hyd (by rw [g2,c.1]),h1]
    ·obtain rfl:=kh.one y hy' z hz' heq
     exact ⟨u,by rw [g2,put_get,if_pos ⟨rfl,hszh y hy'⟩],hv⟩
  have hmk:maskD (hs.map (·.i)) i o=maskS o:=by unfold maskD;rw [if_neg (by simpa using hih)]
  rw [hmk] at hy;have hnh:∀ z∈hs,z.i≠i:=fun z hz' e=>hih (List.mem_map.2 ⟨z,hz',e⟩)
  have hdh:∀ (u:Value),∀ z∈hs,(a.put o.dst u).tmps[z.d]?=a.tmps[z.d]?:=fun u z hz'=>by
   have:=kh.wr z hz' i o ho (Ne.symm (hnh z hz'))
   cases hod:o.dst with
   | none=>rfl
   | some d=>rw [put_get,if_neg fun c=>this (by rw [hod,c.1])]
  by_cases hal:∃ T,o.op=.alloc T
  ·obtain ⟨T,hT⟩:=hal
   obtain ⟨x,hx,rfl⟩:=k.isl i o T ho hT;obtain ⟨o2,p1,p2,p3,p4⟩:=k.lay x hx;rw [ho] at p1;cases p1;unfold wpOp;simp only [ho];rw [if_pos (by unfold Region.wanted;rw [p3])];left;unfold Oper.wp;have hrun:(execOp a.eval o).run P w=.ok (.value (.pointer (some ⟨w.heap.size,0,none⟩))) (w.alloc (.cells x.cs.toArray x.T)):=by have:=hz x hx w;simp only [execOp,p2];simp [this]
   rw [hrun];show wpAny P md ops Q' f (listed.setIfInBounds x.i true) (a.put o.dst (.pointer (some ⟨w.heap.size,0,none⟩))) (w.alloc (.cells x.cs.toArray x.T));have hb2:Below w.heap.size w (w.alloc (.cells x.cs.toArray x.T)):=(Below.refl _ _).alloc (Nat.le_refl _) _;refine wpAny_of_held hsel k kh hMs hM hz hi hF hF2 hSh hE hL f _ (aq.put o.dst v0) _ _ (hset _ (put_size _ _ _)) (hseth _ (put_size _ _ _)) (by simp [hls]) (hb.alloc hb.size _) ?_ ?_ ?_ (hh.up hnh (hdh _) fun z hz' v h=>hF z hz' v _ _ h hb2) fam
   ·rw [p4];exact hs'.putIn (List.mem_append_left _ (List.mem_map.2 ⟨x,hx,rfl⟩)) _ _
   ·rw [p4];exact hl.lay k hb.size hx hun hilt (hsz x hx)
   ·intro y hy' hly b hby
    rw [p4] at hby;rcases Classical.em (y=x) with rfl|hne
    ·rw [put_get,if_pos ⟨rfl,hsz y hx⟩] at hby
     cases hby;exact SmallB.new
    ·have hyi:y.i≠x.i:=fun e=>hne (k.one y hy' x hx (.inl e))
     rw [getD_set_ne false (Ne.symm hyi)] at hly;rw [put_get,if_neg fun c=>hne (k.one y hy' x hx (.inr (.inl c.1.symm)))] at hby;obtain ⟨c,c1,_,c3,_⟩:=hl.at_ y hy' hly;rw [hby] at c1;cases c1;exact (hsm y hy' hly b hby).up hb2 c3
  ·have hno:∀ T,o.op≠.alloc T:=fun T e=>hal ⟨T,e⟩
   have hni:∀ x∈al,x.i≠i:=fun x hx e=>by
    obtain ⟨oa,p1,p2,_⟩:=k.lay x hx;rw [e,ho] at p1;cases p1;exact hno _ p2
   by_cases hst:∃ T x y,o.op=.store T x y
   ·obtain ⟨T,p,y,hT⟩:=hst
    obtain ⟨x,hx,rfl⟩:=k.iss i o T p y ho hT;obtain ⟨o2,p1,p2,p3,p4⟩:=k.sto x hx;rw [ho] at p1;cases p1;have xi:=waits_listed (k.wait x hx) hri;obtain ⟨b,k1,k2,k3,k4,_⟩:=hl.at_ x hx xi
    have hvs:∃ vs:List Value,(a.eval x.y).cells=vs.toArray∧x.cs.length=vs.length∧∀ u∈vs,u.oneCell'=true:=by
     rcases hSh _ _ hLE x hx with ⟨z,hz',ey,hv⟩|⟨hnt,vs,hv,hlen,hone⟩
     ·obtain ⟨oz,g1,g2,_⟩:=kh.gi z hz'
      have lz:=waits_listed ((k.tmp x hx z.d (by rw [ey];rfl)).2 z.i oz g1 g2) hri;obtain ⟨u,h1,h2⟩:=hh z hz' lz;obtain ⟨vs,q1,q2,q3⟩:=hv u w h2;refine ⟨vs,?_,q2,q3⟩;rw [ey];simp only [Act.eval,Array.getD_eq_getD_getElem?,h1];exact q1
     ·refine ⟨vs,?_,hlen,hone⟩
      have e1:aE.eval x.y=aq.eval x.y:=eval_of_tmp fun t ht=>hend t fun j oj hj hlj hdj=>by
       obtain ⟨oo,hq2,e2⟩:=hdst hj;have:=waits_listed ((k.tmp x hx t ht).2 j oo hq2 (by rw [← e2];exact hdj)) hri;rw [getD_both hlj] at this;cases this
      have e2:a.eval x.y=aq.eval x.y:=eval_of_tmp fun t ht=>hs'.off t fun hm=>by
       rcases List.mem_append.1 hm with hm|hm
       ·obtain ⟨z,hz',e⟩:=List.mem_map.1 hm
        exact (k.tmp x hx t ht).1 z hz' e
       ·obtain ⟨z,hz',e⟩:=List.mem_map.1 hm
        exact hnt z hz' (by rw [ht,e])
      rw [e2,← e1];exact hv
    obtain ⟨vs,hv,hlen,hone⟩:=hvs;unfold wpOp;simp only [ho];rw [if_pos (by unfold Region.wanted;rw [p3])];left;have hO:=k4 (getD_both hun);have hda:a.eval (.tmp x.d)=.pointer (some ⟨b,0,none⟩):=by simp only [Act.eval,Array.getD_eq_getD_getElem?,k1];rfl
    unfold Oper.wp execOp;simp only [p2,hda,run_storeAt_cells w b 0 x.T _ vs hv (fun j hj=>(hO.there j (by omega)).1) (fun j hj=>(hO.there j (by omega)).2) (by rw [hi x hx,hlen]) hone,Sem.run_bind,Result.andThen_ok,Sem.run_pure];have e:a.put o.dst undef=a:=by rw [p4];rfl
    show _;simp only [Oper.upon,e];have hSb:=hsm x hx xi b k1;refine wpAny_of_held hsel k kh hMs hM hz hi hF hF2 hSh hE hL f _ (aq.put o.dst v0) _ _ (hset _ rfl) (hseth _ rfl) (by simp [hls]) (Below.sets k2 _ _ _ hb) (by rw [p4];exact hs') (hl.sto k hx hri k1 hv hlen) ?_ (hh.up hnh (fun _ _=>rfl) fun z hz' v h=>hF2 z hz' x hx v w b vs h hO hSb) fam;intro y hy' hly c hcy;rw [getD_set_ne false (Ne.symm (hni y hy'))] at hly;refine (hsm y hy' hly c hcy).set fun ec => ?_
    rcases Classical.em (y=x) with rfl|hne
    ·omega
    ·exact absurd (by rw [hcy,k1,ec]) (hl.ne y hy' x hx (fun e=>hne (k.one y hy' x hx (.inl e))) hly xi)
   ·have hns:∀ T x y,o.op≠.store T x y:=fun T x y e=>hst ⟨T,x,y,e⟩
    rw [maskS_other hno hns] at hy;have hAi2:=k.oth i o ho hno hns
    have hD:∀ t∈o.looksAt ops,t∉al.map (·.d)++hs.map (·.d):=fun t ht hm=>by
     rcases List.mem_append.1 hm with hm|hm
     ·obtain ⟨x,hx,rfl⟩:=List.mem_map.1 hm
      exact (hAi2 x hx).2 ht
     ·obtain ⟨z,hz',rfl⟩:=List.mem_map.1 hm
      exact kh.look z hz' i o ho hns ht
    have hsl:=Region.noSelect_spec hsel i o;have he:=hs'.exec (ops:=ops) (o:=o) (fun cs b=>hsl cs b ho) hD;have hwn:=hs'.wanted (ops:=ops) (o:=o) hD
    have had:∀ x∈al,(a.put o.dst v0).tmps[x.d]?=a.tmps[x.d]?:=fun x hx=>by
     cases hod:o.dst with
     | none=>rfl
     | some d=>rw [put_get,if_neg fun c=>(hAi2 x hx).1 (by rw [hod,c.1])]
    have go:∀ w2,Below w.heap.size w w2→wpAny P md ops Q' f (listed.setIfInBounds i true) (a.put o.dst v0) w2:=fun w2 hb2 =>
     wpAny_of_held hsel k kh hMs hM hz hi hF hF2 hSh hE hL f _ (aq.put o.dst v0) _ _ (hset _ (put_size _ _ _)) (hseth _ (put_size _ _ _)) (by simp [hls]) (hb.trans (hb2.mono hb.size)) (hs'.put _ _) (hl.up k hb2 ho hun hno hns) (smallUp hb2 hni had) (hh.up hnh (hdh _) fun z hz' v h=>hF z hz' v _ _ h hb2) fam
    unfold wpOp;simp only [ho];have hwm:Region.wanted o (yielded M aq.tmps)=Region.wanted o (yielded ops aq.tmps):=by rw [hyl]
    rcases hy with ⟨g1,h1⟩|⟨g1,rfl⟩
    ·rw [hwm,← hwn] at g1
     rw [if_pos g1];left;have h3:=h1 w ⟨⟨w,Below.refl _ _⟩,rfl⟩;unfold Oper.quietAt at h3;rw [← he] at h3;unfold Oper.wp;generalize (execOp a.eval o).run P w=r at *
     cases r with
     | ok m w' =>
      cases m<;>simp only [Oper.quietUpon] at h3<;>simp only [Oper.upon]
      case value u=>obtain ⟨rfl,rfl⟩:=h3;exact go _ (Below.refl _ _)
      case skip=>obtain ⟨rfl,rfl⟩:=h3;exact go _ (Below.refl _ _)
      case enter fn args =>
       obtain ⟨rfl,hc⟩:=h3;exact hc.mono fun e w'' ⟨he,p,hp⟩=>by subst he;subst hp;exact go _ p.h
     | halt x w'=>simp only [Oper.quietUpon] at h3
    ·rw [hwm,← hwn] at g1
     rw [if_neg (by rw [g1];decide)];exact go _ (Below.refl _ _)
def heldB (md:Region.Mode) (ops:Array Oper) (hk:List (Nat×Nat)):Bool :=
 decide (hk.map Prod.fst).Nodup&&hk.all fun z =>
  (match ops[z.1]? with|some o=>o.dst==some z.2&&(allocT o).isNone && !storeT o&&(o.looksAt ops).all (fun t=>allO ops fun k o'=>o'.dst != some t||Region.waitsFor md ops z.1 k)|none=>false) &&
  allO ops fun k o=>(k==z.1||o.dst != some z.2)&&(storeT o || !(o.looksAt ops).contains z.2)
def skH (z:HeldV):Nat×Nat:=(z.i,z.d)
theorem heldOk_of {hs:List HeldV} (hB:heldB md ops (hs.map skH)=true):HeldOk md ops hs:=by
 simp only [heldB,Bool.and_eq_true,decide_eq_true_eq,List.all_eq_true,List.map_map] at hB;obtain ⟨hn,hA⟩:=hB;have mm:∀ {z:HeldV},z∈hs→skH z∈hs.map skH:=fun h=>List.mem_map.2 ⟨_,h,rfl⟩
 have get:∀ z∈hs,∃ o,ops[z.i]?=some o∧o.dst=some z.d∧(allocT o).isNone=true∧storeT o=false∧∀ t∈o.looksAt ops,(allO ops fun k o'=>o'.dst != some t||Region.waitsFor md ops z.i k)=true:=fun z hz=>by
  have h:=(hA _ (mm hz)).1;simp only [skH] at h
  cases hq:ops[z.i]? with
  | none=>rw [hq] at h;cases h
  | some o =>
   rw [hq] at h;simp only [Bool.and_eq_true,beq_iff_eq,Bool.not_eq_true',List.all_eq_true] at h;exact ⟨o,rfl,h.1.1.1,h.1.1.2,h.1.2,h.2⟩
 refine ⟨fun z hz => ?_,fun z hz k o ho hk => ?_,fun z hz k o ho hs => ?_,fun z hz oi ho t ht k o ho' hd => ?_,fun z hz y hy e=>inj_map (f:=fun z:HeldV=>z.i) hn hz hy e⟩
 ·obtain ⟨o,h1,h2,h3,h4,_⟩:=get z hz
  refine ⟨o,h1,h2,fun T e => ?_,fun T x y e => ?_⟩
  ·rw [allocT_some e] at h3;cases h3
  ·rw [storeT_yes e] at h4;cases h4
 ·have:=allO_spec (hA _ (mm hz)).2 ho
  simp only [skH,Bool.and_eq_true,Bool.or_eq_true,beq_iff_eq,bne_iff_ne,ne_eq] at this;exact this.1.resolve_left hk
 ·have:=allO_spec (hA _ (mm hz)).2 ho
  simp only [skH,Bool.and_eq_true,Bool.or_eq_true,storeT_no hs,Bool.false_eq_true,false_or,Bool.not_eq_true',List.contains_eq_mem,decide_eq_false_iff_not] at this;exact this.2
 ·obtain ⟨o2,h1,_,_,_,h5⟩:=get z hz
  rw [ho] at h1;cases h1;have:=allO_spec (h5 t ht) ho'
  simpa [hd] using this
def newHB (l:List Oper) (n:Nat) (al:List Sk) (hk:List (Nat×Nat)):Bool :=
 let M:=(maskDL (hk.map Prod.fst) 0 l).toArray
 Region.noSelect l.toArray&&Region.noSelect M&&newNB .any l.toArray al&&heldB .any l.toArray hk &&
 lexHeadA .any M (n+al.length) 0 (Array.replicate l.length false)&&(Region.ready .any l.toArray (restA l (n+al.length))).isEmpty &&
 (al.all fun x=>(restA l (n+al.length)).getD x.1 false&&(restA l (n+al.length)).getD x.2.2.1 false)&&(hk.all fun z=>(restA l (n+al.length)).getD z.1 false&&decide (z.1<n+al.length) && !(al.map fun x=>x.2.1).contains z.2)&&sinkAll .any M (n+al.length)&&decide (hk.map Prod.snd).Nodup
theorem quiet_masksD {C:World→Prop} {hi:List Nat} {Q:Act→Prop} : ∀ {t:List Oper} {k:Nat} {a:Act},(∀ o∈t,(∃ T x y,o.op=.store T x y)∧o.guard=none∧o.dst=none)→(∀ j,j<t.length→k+j∉hi)→Q a→wpQuiet P ops C Q (maskDL hi k t) a
 | [],_,_,_,_,h=>wpQuiet_nil h
 | o :: t,k,a,ht,hk,h=>by
  obtain ⟨⟨T,x,y,h1⟩,h2,h3⟩:=ht o (List.mem_cons_self ..);have e:maskD hi k o=maskS o:=by unfold maskD;rw [if_neg (by simpa using hk 0 (by simp))]
  rw [maskDL,e];exact quiet_maskS h1 h2 h3 (quiet_masksD (fun o' h'=>ht o' (List.mem_cons_of_mem _ h')) (fun j hj=>by have:=hk (j+1) (by simp;omega);rwa [show k+1+j=k+(j+1) by omega]) h)
theorem maskDL_split {hi:List Nat} : ∀ (l:List Oper) (n k:Nat),maskDL hi k l=(maskDL hi k l).take n++maskDL hi (k+n) (l.drop n)
 | l,0,k=>by simp
 | [],n+1,k=>by simp [maskDL]
 | o :: l,n+1,k=>by
  simp only [maskDL,List.take_succ_cons,List.drop_succ_cons,List.cons_append];rw [← show k+1+n=k+(n+1) by omega,← maskDL_split l n (k+1)]
theorem wp_region_newH {id:Nat} {Q:Exit→Act→World→Prop} {a:Act} {w:World} {l:List Oper} (n:Nat) (al:List NewV) (hs:List HeldV) (hm:P.follows .mixedOrders=true) (hlen:l.length=n+al.length)
 (hB:newHB l n (al.map skOf) (hs.map skH)=true) (hnh:∀ z∈hs,z.i<n)
 (hal:∀ x∈al,(l[x.i]?).map (fun o=>(allocT o,o.guard.isNone,o.dst))=some (some x.T,true,some x.d))
 (hst:∀ (k:Nat) (x:NewV),al[k]?=some x→∃ o,l[n+k]?=some o∧o.op=.store x.T (.tmp x.d) x.y∧o.guard=none∧o.dst=none∧x.s=n+k)
 (hsz:∀ x∈al,x.d<a.tmps.size) (hszh:∀ z∈hs,z.d<a.tmps.size)
 (hz:∀ x∈al,∀ w,(Instr.alloc x.T true (.tuple #[])).run P w=.ok (.pointer (some ⟨w.heap.size,0,none⟩)) (w.alloc (.cells x.cs.toArray x.T))) (hi:∀ x∈al,(P.info? x.T).map (·.size)=some x.cs.length)
 (hF:∀ z∈hs,∀ v w w',z.F v w→Below w.heap.size w w'→z.F v w')
 (hF2:∀ z∈hs,∀ x∈al,∀ v w b us,z.F v w→Own w b 0 x.cs→SmallB w b x.cs.length→z.F v (w.setCells b 0 us))
 (h:∀ V,Below w.heap.size w V→wpQuiet P (maskDL ((hs.map skH).map Prod.fst) 0 l).toArray (fun w'=>∃ p:Bel V,w'=p.w1)
  (fun aq=>(∀ z∈hs,∀ oi,l[z.i]?=some oi→CallEndD P l.toArray w z.F oi aq)∧ShapeD al hs aq ∧
   ∀ (bs:List Nat) (vs:List Value) (w':World),aq.tmps.size=a.tmps.size→Below w.heap.size w w'→bs.length=al.length→bs.Nodup→vs.length=hs.length→(∀ (k:Nat) (z:HeldV) (v:Value),hs[k]?=some z→vs[k]?=some v→z.F v w') →
    (∀ (k b:Nat) (x:NewV),bs[k]?=some b→al[k]?=some x→w.heap.size≤b∧b<w'.heap.size∧∃ us:List Value,((putsH aq (al.map (·.d)++hs.map (·.d)) ((bs.map fun b=>.pointer (some ⟨b,0,none⟩))++vs)).eval x.y).cells=us.toArray∧Own w' b 0 us) →
     Q .normal (putsH aq (al.map (·.d)++hs.map (·.d)) ((bs.map fun b=>.pointer (some ⟨b,0,none⟩))++vs)) w') ((maskDL ((hs.map skH).map Prod.fst) 0 l).take n) a):(Code.region id l.toArray true).wp P Q a w:=by
 have ehi:(hs.map skH).map Prod.fst=hs.map (·.i):=by rw [List.map_map];rfl
 have ehd:(hs.map skH).map Prod.snd=hs.map (·.d):=by rw [List.map_map];rfl
 simp only [newHB,Bool.and_eq_true,List.isEmpty_iff,List.length_map,List.all_eq_true,decide_eq_true_eq] at hB;obtain ⟨⟨⟨⟨⟨⟨⟨⟨⟨hsel,hsel'⟩,hN⟩,hH⟩,hlex⟩,hrd⟩,hin⟩,hinh⟩,hsink⟩,hndh⟩:=hB;rw [ehd] at hndh;have mm:∀ {x:NewV},x∈al→skOf x∈al.map skOf:=fun h=>List.mem_map.2 ⟨_,h,rfl⟩
 have mmh:∀ {z:HeldV},z∈hs→skH z∈hs.map skH:=fun h=>List.mem_map.2 ⟨_,h,rfl⟩
 have al_of:∀ x∈al,∃ o,l.toArray[x.i]?=some o∧o.op=.alloc x.T∧o.guard=none∧o.dst=some x.d:=by
  intro x hx;have hk:=hal x hx
  cases hq:l[x.i]? with
  | none=>rw [hq] at hk;cases hk
  | some o =>
   rw [hq] at hk;simp only [Option.map_some,Option.some.injEq,Prod.mk.injEq] at hk;refine ⟨o,by simpa using hq,?_,by simpa using hk.2.1,hk.2.2⟩;have h0:=hk.1;unfold allocT at h0
   split at h0
   ·rename_i T1 hT1;cases h0;exact hT1
   ·cases h0
 have st_of:∀ x∈al,∃ o,l.toArray[x.s]?=some o∧o.op=.store x.T (.tmp x.d) x.y∧o.guard=none∧o.dst=none:=by intro x hx;obtain ⟨k,hk,e⟩:=List.getElem_of_mem hx;obtain ⟨o,h1,h2,h3,h4,h5⟩:=hst k x (by rw [List.getElem?_eq_getElem hk,e]);exact ⟨o,by rw [h5];simpa using h1,h2,h3,h4⟩
 have hk:NewOk .any l.toArray al:=newOk_N hN al_of st_of;have hkh:HeldOk .any l.toArray hs:=heldOk_of hH;have hnd:(al.map (·.d)).Nodup∧(al.map (·.i)).Nodup:=by simp only [newNB,Bool.and_eq_true,decide_eq_true_eq,List.map_map] at hN;exact ⟨hN.1.1.2.2.1,hN.1.1.2.1⟩
 have hndD:(al.map (·.d)++hs.map (·.d)).Nodup:=by refine List.nodup_append.2 ⟨hnd.1,hndh,fun x hx y hy e => ?_⟩;obtain ⟨z,hz1,rfl⟩:=List.mem_map.1 hy;obtain ⟨v,hv1,rfl⟩:=List.mem_map.1 hx;have:=(hinh _ (mmh hz1)).2;simp only [skH,Bool.not_eq_true',List.contains_eq_mem,decide_eq_false_iff_not] at this;exact this (List.mem_map.2 ⟨skOf v,mm hv1,e⟩)
 obtain ⟨M,hMd⟩:∃ M:List Oper,M=maskDL ((hs.map skH).map Prod.fst) 0 l:=⟨_,rfl⟩
 have hMl:M.length=l.length:=by rw [hMd,maskDL_len]
 have hMg:∀ t:Nat,M.toArray[t]?=(l.toArray[t]?).map (maskD (hs.map (·.i)) t):=fun t=>by
  rw [hMd,ehi];simp [maskDL_get]
 have hMs:M=M.take n++maskDL (hs.map (·.i)) n (l.drop n):=by have:=maskDL_split (hi:=hs.map (·.i)) l n 0;rw [Nat.zero_add,← ehi,← hMd] at this;rw [← ehi];exact this
 rw [← hMd] at hsel' hlex hsink h;refine wp_region_any hm ?_;rw [show l.toArray.size=n+al.length by simp [hlen]];have e1:Array.replicate (n+al.length) false=Array.replicate l.length false:=by rw [hlen]
 rw [e1]
 have inv0:HeadInv .any M.toArray (n+al.length) (Array.replicate l.length false) :=
  ⟨by simp [hMl],fun j oj _ hl=>(by rw [getD_replicate_false] at hl;cases hl),fun t _ ht=>getD_in (by simpa [hMl] using ht) (getD_replicate_false _ _)⟩
 let K:Act→Prop:=fun aq=>ShapeD al hs aq∧(∀ z∈hs,∀ oi,l.toArray[z.i]?=some oi→CallEndD P l.toArray w z.F oi aq) ∧
  ∀ a' w',Below w.heap.size w w'→Same (al.map (·.d)++hs.map (·.d)) aq a'→aq.tmps.size=a.tmps.size→LaidS l.toArray w al (restA l (n+al.length)) a' w'→HeldAt hs (restA l (n+al.length)) a' w'→Q .normal a' w'
 refine wpAny_of_held (W:=w) (n:=n+al.length) (M:=M.toArray) (L:=fun listed' aq=>listed'=restA l (n+al.length)∧K aq∧aq.tmps.size=a.tmps.size) hsel hk hkh (by simp [hMl]) hMg hz hi hF hF2 (fun _ _ hL=>hL.2.1.1) (fun _ _ hL=>hL.2.1.2.1)
  (fun listed aq a' w' hb hs' hl' hh' hL => ?_) (n+al.length) _ a a _ hsz hszh (by simp) ((Below.refl _ w).drew) (Same.refl _ _) ?_ (fun x _ hl=>by rw [getD_replicate_false] at hl;cases hl) (fun z _ hl=>by rw [getD_replicate_false] at hl;cases hl) fun V hV => ?_
 ·obtain ⟨rfl,⟨_,_,hK⟩,hS⟩:=hL
  exact ⟨hrd,hK a' w' hb hs' hS hl' hh'⟩
 ·refine ⟨fun x _ hl => ?_,fun x _ y _ _ hl _ => ?_,fun x _ hl => ?_⟩
  ·rw [getD_replicate_false] at hl;cases hl
  ·rw [getD_replicate_false] at hl;cases hl
  ·rw [getD_replicate_false] at hl;cases hl
 ·have htl:M.length=n+al.length:=by rw [hMl,hlen]
  have hq:wpQuiet P M.toArray (fun w'=>∃ p:Bel V,w'=p.w1) (fun aq=>K aq∧aq.tmps.size=a.tmps.size) M a:=by
   have H1:=wpQuiet_size (h V hV);obtain ⟨M2,hM2⟩:∃ M2,M2=M.toArray:=⟨_,rfl⟩
   rw [← hM2] at H1 ⊢;rw [hMs];refine wpQuiet_app (wpQuiet_mono' (fun aq hk2 => ?_) H1);obtain ⟨⟨hce,hsh,hgo⟩,hS⟩:=hk2;refine quiet_masksD (fun o ho => ?_) (fun j hj hm => ?_) ⟨⟨hsh,fun z hz' oi ho=>hce z hz' oi (by simpa using ho),fun a' w' hb hsm _ hl' hh' => ?_⟩,hS⟩
   ·obtain ⟨k,hk',e⟩:=List.getElem_of_mem ho
    rw [List.length_drop] at hk';obtain ⟨o',q1,q2,q3,q4,_⟩:=hst k _ (List.getElem?_eq_getElem (by omega));have:o'=o:=by rw [List.getElem_drop] at e;rw [List.getElem?_eq_getElem (by omega)] at q1;rw [← e];exact (Option.some.inj q1).symm
    subst this;exact ⟨⟨_,_,_,q2⟩,q3,q4⟩
   ·obtain ⟨z,hz',e⟩:=List.mem_map.1 hm
    have:=hnh z hz';omega
   ·obtain ⟨bs,hbl,hbs⟩:=list_choose (R:=fun (x:NewV) (b:Nat)=>a'.tmps[x.d]?=some (.pointer (some ⟨b,0,none⟩))∧w.heap.size≤b∧b<w'.heap.size∧∃ vs:List Value,(a'.eval x.y).cells=vs.toArray∧Own w' b 0 vs) (l:=al) fun x hx=>by
     obtain ⟨q1,q2⟩:=hin _ (mm hx);obtain ⟨b,b1,b2,b3,_,b5⟩:=hl'.at_ x hx q1;exact ⟨b,b1,b2,b3,b5 q2⟩
    obtain ⟨vs,hvl,hvs⟩:=list_choose (R:=fun (z:HeldV) (v:Value)=>a'.tmps[z.d]?=some v∧z.F v w') (l:=hs) fun z hz'=>hh' z hz' (hinh _ (mmh hz')).1.1
    have hputs:a'=putsH aq (al.map (·.d)++hs.map (·.d)) ((bs.map fun b=>.pointer (some ⟨b,0,none⟩))++vs):=same_puts hsm hndD (by simp [hbl,hvl]) (fun d hd=>by
     rw [hS];rcases List.mem_append.1 hd with hd|hd
     ·obtain ⟨x,hx,rfl⟩:=List.mem_map.1 hd
      exact hsz x hx
     ·obtain ⟨z,hz',rfl⟩:=List.mem_map.1 hd
      exact hszh z hz') (fun k d v hd hv=>by
     rcases Nat.lt_or_ge k al.length with hkl|hkl
     ·rw [List.getElem?_append_left (by simpa using hkl),List.getElem?_map] at hd
      rw [List.getElem?_append_left (by simpa [hbl] using hkl),List.getElem?_map] at hv;obtain ⟨x,hx,rfl⟩:=Option.map_eq_some_iff.1 hd;obtain ⟨b,hb',rfl⟩:=Option.map_eq_some_iff.1 hv;exact (hbs k x b hx hb').1
     ·rw [List.getElem?_append_right (by simpa using hkl),List.length_map,List.getElem?_map] at hd
      rw [List.getElem?_append_right (by simpa [hbl] using hkl),List.length_map,hbl] at hv;obtain ⟨z,hz',rfl⟩:=Option.map_eq_some_iff.1 hd
      exact (hvs _ z v hz' hv).1)
    rw [hputs];refine hgo bs vs w' hS hb hbl ?_ hvl (fun k z v h1 h2=>(hvs k z v h1 h2).2) fun k b x hbk hxk => ?_
    ·rw [List.nodup_iff_pairwise_ne,List.pairwise_iff_getElem]
     intro i j hi' hj' hij e;have xi:al[i]?=some al[i]:=List.getElem?_eq_getElem (by omega);have xj:al[j]?=some al[j]:=List.getElem?_eq_getElem (by omega);have bi:=(hbs i _ bs[i] xi (List.getElem?_eq_getElem hi')).1;have bj:=(hbs j _ bs[j] xj (List.getElem?_eq_getElem hj')).1;refine hl'.ne _ (List.mem_of_getElem? xi) _ (List.mem_of_getElem? xj) (fun e2 => ?_) (hin _ (mm (List.mem_of_getElem? xi))).1 (hin _ (mm (List.mem_of_getElem? xj))).1 (by rw [bi,bj,e]);have n1:=hnd.2;rw [List.nodup_iff_pairwise_ne,List.pairwise_iff_getElem] at n1;exact n1 i j (by simp;omega) (by simp;omega) hij (by simpa using e2)
    ·obtain ⟨_,b2,b3,us,p1,p2⟩:=hbs k x b hxk hbk
     exact ⟨b2,b3,us,by rw [← hputs];exact p1,p2⟩
  have H:=headA_lex (md:=.any) (n:=n+al.length) hsel' hsink M 0 _ a (fun j hj=>by simp) (by simpa using htl) inv0 (by rw [htl];exact hlex) hq;rw [htl] at H;exact H
end
end Go.Proofs.YtiochgoocbkckaaGreatDoor

namespace Go.Proofs.YtiochgoocbkckaaGreatDoor
open Go Go.RowKit

theorem sl_setNew {w:World} {v:Value} {n b m:Nat} {xs us:List Value} (h:Sl w v n 8 xs) (hn:2≤n) (hs:SmallB w b m) (hm:m≤8):Sl (w.setCells b 0 us) v n 8 xs:=by
 refine ⟨h.1,?_⟩;rcases h.2 with h2|⟨g,o,c,hv,hc,hm2,hx⟩
 ·exact .inl h2
 ·refine .inr ⟨g,o,c,hv,hc,hm2,fun j u hj => ?_⟩
  have hg:g≠b:=by
   rintro rfl;have h8:8<xs.length:=by rw [h.1];omega
   have:=hx 8 _ (List.getElem?_eq_getElem h8);rw [hs (o+8) (by omega)] at this;cases this
  rw [World.cell?_setCells_out b us 0 w ⟨g,o+j,none⟩ (fun e _=>absurd e.symm (Ne.symm hg))];exact hx j u hj
theorem pov_setNew {w:World} {v:Value} {O:List (Rat×Rat)} {Hs:List (List (Rat×Rat))} {b:Nat} {cs us:List Value} (h:PoV w v O Hs) (hO:2≤O.length) (hH:∀ r∈Hs,2≤r.length) (ho:Own w b 0 cs) (hs:SmallB w b cs.length) (hc:cs.length≤8)
 (hz:∀ A n c,Value.slice A n c∈cs→n=0):PoV (w.setCells b 0 us) v O Hs:=by
 obtain ⟨vo,vh,rfl,h1,L,h2,h3⟩:=h;refine ⟨_,_,rfl,sl_setNew h1 hO hs hc,L,?_,h3.1,fun i u l hu hl=>sl_setNew (h3.2 i u l hu hl) (hH l (List.mem_of_getElem? hl)) hs hc⟩;refine ⟨h2.1,?_⟩;rcases h2.2 with h4|⟨g,o,c,hv,hcc,hm2,hx⟩
 ·exact .inl h4
 ·refine .inr ⟨g,o,c,hv,hcc,hm2,fun j u hj => ?_⟩
  have hg:g≠b:=by
   rintro rfl;have e:=hx j u hj;rw [vls_eq] at hj;have hj2:j<Hs.length:=by rw [← h3.1];exact (List.getElem?_eq_some_iff.1 hj).1
   have hpv:=h3.2 j u Hs[j] hj (List.getElem?_eq_getElem hj2);have hlen:=hH Hs[j] (List.getElem_mem hj2);obtain ⟨A,c2,hu,_⟩:=PV.open_ hpv;rcases Nat.lt_or_ge (o+j) cs.length with hlt|hge
   ·have hget:=own_range ho (o+j) _ (List.getElem?_eq_getElem hlt)
    rw [Nat.zero_add,e] at hget;have hu2:u=cs[o+j]:=Option.some.inj hget;have:=hz A _ c2 (by rw [← hu,hu2];exact List.getElem_mem hlt);omega
   ·rw [hs (o+j) hge] at e;cases e
  rw [World.cell?_setCells_out b us 0 w ⟨g,o+j,none⟩ (fun e _=>absurd e.symm (Ne.symm hg))];exact hx j u hj
def zPo:List Value:=[.slice none 0 0,.slice none 0 0]
def zPt:List Value:=[.bool false,.string ⟨#[]⟩,.bool false,.string ⟨#[]⟩,.bool false,.string ⟨#[]⟩,.bool false,.string ⟨#[]⟩]
theorem pov_set1 {w:World} {v:Value} {O:List (Rat×Rat)} {Hs:List (List (Rat×Rat))} {b:Nat} {us:List Value} (hO:2≤O.length) (hH:∀ r∈Hs,2≤r.length) (h:PoV w v O Hs) (ho:Own w b 0 zPo) (hs:SmallB w b zPo.length):PoV (w.setCells b 0 us) v O Hs :=
 pov_setNew h hO hH ho hs (by decide) (fun A n c hm=>by simp [zPo] at hm;exact hm.2.1)
theorem pov_set2 {w:World} {v:Value} {O:List (Rat×Rat)} {Hs:List (List (Rat×Rat))} {b:Nat} {us:List Value} (hO:2≤O.length) (hH:∀ r∈Hs,2≤r.length) (h:PoV w v O Hs) (ho:Own w b 0 zPt) (hs:SmallB w b zPt.length):PoV (w.setCells b 0 us) v O Hs :=
 pov_setNew h hO hH ho hs (by decide) (fun A n c hm=>by simp [zPt] at hm)
theorem pov_cells {w:World} {v:Value} {O:List (Rat×Rat)} {Hs:List (List (Rat×Rat))} (h:PoV w v O Hs):∃ vs:List Value,v.cells=vs.toArray∧zPo.length=vs.length∧∀ u∈vs,u.oneCell'=true:=by
 obtain ⟨vo,vh,rfl,h1,L,h2,_⟩:=h;obtain ⟨A,c,rfl,_⟩:=PV.open_ h1;obtain ⟨B,d,rfl,_⟩:=h2.open_;exact ⟨[_,_],rfl,rfl,fun u hu=>by simp at hu;rcases hu with rfl|rfl<;>rfl⟩
theorem pt_cells (p:Rat×Rat):∃ vs:List Value,(pv p).cells=vs.toArray∧zPt.length=vs.length∧∀ u∈vs,u.oneCell'=true :=
 ⟨pcells p,rfl,rfl,fun u hu=>by
  simp only [pcells,List.mem_cons,List.not_mem_nil,or_false] at hu
  rcases hu with rfl|rfl|rfl|rfl|rfl|rfl|rfl|rfl<;>rfl⟩
theorem wp_region_poPt {id:Nat} {Q:Exit→Act→World→Prop} {a:Act} {w:World} {l:List Oper} (n ih i1 i2 dh d1 d2 y2:Nat) (O:List (Rat×Rat)) (Hs:List (List (Rat×Rat))) (hO:2≤O.length) (hH:∀ r∈Hs,2≤r.length) (hlen:l.length=n+2)
 (hB:newHB l n [(i1,d1,n+0,some dh),(i2,d2,n+1,some y2)] [(ih,dh)]=true) (hnh:ih<n) (hy:y2≠dh) (hyd:y2≠d1∧y2≠d2)
 (hal1:(l[i1]?).map (fun o=>(allocT o,o.guard.isNone,o.dst))=some (some 36,true,some d1))
 (hal2:(l[i2]?).map (fun o=>(allocT o,o.guard.isNone,o.dst))=some (some 45,true,some d2))
 (hst1:∃ o,l[n+0]?=some o∧o.op=.store 36 (.tmp d1) (.tmp dh)∧o.guard=none∧o.dst=none)
 (hst2:∃ o,l[n+1]?=some o∧o.op=.store 45 (.tmp d2) (.tmp y2)∧o.guard=none∧o.dst=none)
 (hsz:d1<a.tmps.size∧d2<a.tmps.size∧dh<a.tmps.size)
 (h:∀ V,Below w.heap.size w V→wpQuiet Tryz.prog (maskDL [ih] 0 l).toArray (fun w'=>∃ p:Bel V,w'=p.w1)
  (fun aq=>(∀ oi,l[ih]?=some oi→CallEndD Tryz.prog l.toArray w (fun v w'=>PoV w' v O Hs) oi aq)∧∃ p:Rat×Rat,aq.eval (.tmp y2)=pv p ∧
   ∀ b1 b2 v w',Below w.heap.size w w'→w.heap.size≤b1→b1<w'.heap.size→w.heap.size≤b2→b2<w'.heap.size→b1≠b2→PoV w' v O Hs→(∀ vo vh,v=.agg #[vo,vh]→Own w' b1 0 [vo,vh])→Own w' b2 0 (pcells p) →
    Q .normal (((aq.put (some d1) (.pointer (some ⟨b1,0,none⟩))).put (some d2) (.pointer (some ⟨b2,0,none⟩))).put (some dh) v) w') ((maskDL [ih] 0 l).take n) a):(Code.region id l.toArray true).wp Tryz.prog Q a w:=by
 have two:∀ {α:Type} {x y:α} {p:α→Prop},p x→p y→∀ z∈[x,y],p z:=fun h1 h2 z hz=>by
  simp only [List.mem_cons,List.not_mem_nil,or_false] at hz;rcases hz with rfl|rfl
  ·exact h1
  ·exact h2
 have one:∀ {α:Type} {x:α} {p:α→Prop},p x→∀ z∈[x],p z:=fun h1 z hz=>by
  simp only [List.mem_singleton] at hz;subst hz;exact h1
 refine wp_region_newH n [⟨i1,d1,zPo,36,n+0,.tmp dh⟩,⟨i2,d2,zPt,45,n+1,.tmp y2⟩] [⟨ih,dh,fun v w'=>PoV w' v O Hs⟩] (by kernel_rfl) hlen hB (one hnh) (two hal1 hal2) ?_ (two hsz.1 hsz.2.1) (one hsz.2.2) ?_ ?_
  (one fun v w w' h1 hb=>h1.up hb) (one (two (fun v w b us h1 h2 h3=>pov_set1 hO hH h1 h2 h3) (fun v w b us h1 h2 h3=>pov_set2 hO hH h1 h2 h3))) fun V hV=>wpQuiet_mono' (fun aq hq => ?_) (h V hV)
 ·intro k x hx
  match k with
  | 0=>simp at hx;subst hx;obtain ⟨o,q1,q2,q3,q4⟩:=hst1;exact ⟨o,q1,q2,q3,q4,rfl⟩
  | 1=>simp at hx;subst hx;obtain ⟨o,q1,q2,q3,q4⟩:=hst2;exact ⟨o,q1,q2,q3,q4,rfl⟩
  | k+2=>simp at hx
 ·exact two (run_alloc_zero Tryz.zeroValue36 rfl) (run_alloc_zero Tryz.zeroValue45 rfl)
 ·exact two (by kernel_rfl) (by kernel_rfl)
 ·obtain ⟨hce,p,hp,hgo⟩:=hq
  refine ⟨one hce,two (.inl ⟨_,List.mem_singleton.2 rfl,rfl,fun v w h1=>pov_cells h1⟩) (.inr ⟨one (fun e=>hy (by simpa [opTmp] using e)),by rw [hp];exact pt_cells p⟩),fun bs vs w' hS hb hbl hbn hvl hvs hbs => ?_⟩
  match bs,hbl,vs,hvl with
  | [b1,b2],_,[v],_ =>
   have hv:PoV w' v O Hs:=hvs 0 _ v rfl rfl;obtain ⟨a1,a2,us1,e1,o1⟩:=hbs 0 b1 _ rfl rfl;obtain ⟨c1,c2,us2,e2,o2⟩:=hbs 1 b2 _ rfl rfl;have hne:b1≠b2:=by simpa using hbn
   simp only [List.map_cons,List.map_nil,List.cons_append,List.nil_append,putsH] at e1 e2 ⊢;have hN:=hyd;have hd:(((aq.put (some d1) (.pointer (some ⟨b1,0,none⟩))).put (some d2) (.pointer (some ⟨b2,0,none⟩))).put (some dh) v).eval (.tmp dh)=v:=eval_put_self _ (by simp only [put_size];rw [hS];exact hsz.2.2);have hp2:(((aq.put (some d1) (.pointer (some ⟨b1,0,none⟩))).put (some d2) (.pointer (some ⟨b2,0,none⟩))).put (some dh) v).eval (.tmp y2)=pv p:=by rw [eval_put_ne _ (fun e=>hy (by cases e;rfl)),eval_put_ne _ (fun e=>hN.2 (by cases e;rfl)),eval_put_ne _ (fun e=>hN.1 (by cases e;rfl)),hp]
   rw [hd] at e1;rw [hp2] at e2;refine hgo b1 b2 v w' hb a1 a2 c1 c2 hne hv (fun vo vh e => ?_) ?_
   ·subst e
    have:us1=[vo,vh]:=by simpa [Value.cells] using e1.symm
    rw [← this];exact o1
   ·have:us2=pcells p:=(congrArg Array.toList e2).symm
    rw [← this];exact o2
end Go.Proofs.YtiochgoocbkckaaGreatDoor

namespace Go.Proofs.YtiochgoocbkckaaGreatDoor
namespace Pg
open Pl
structure ShOk (s:Shp):Prop where
 hR:∀ i,s.R i<256
 x1 : -128≤s.x
 x2:s.x≤127
 y1 : -128≤s.y
 y2:s.y≤127
 hh:s.hole<256
 hs:s.start<256
theorem szI (n:Int) (h:n.natAbs≤1000):Sz 2 (n:Rat):=sz_int ((L_le_iff _ _).2 (by omega)) (by decide)
theorem szH (n:Int) (h:n.natAbs≤1000):Sz 2 ((n:Rat)/2):=by
 have e:(n:Rat)/2=mkRat n 2:=by rw [show mkRat n 2=Rat.divInt n 2 from rfl,Rat.divInt_eq_div];rfl
 rw [e];exact sz_mkRat (by decide) ((L_le_iff _ _).2 (by omega)) (by decide)
theorem dI_bd (i:Nat) (h:i<8):(-1≤dxI i∧dxI i≤1)∧(-1≤dyI i∧dyI i≤1):=by
 obtain rfl|rfl|rfl|rfl|rfl|rfl|rfl|rfl:=(by omega:i=0∨i=1∨i=2∨i=3∨i=4∨i=5∨i=6∨i=7)<;>decide
theorem mul_seven {d r:Int} (h1 : -1≤d) (h2:d≤1) (h3:2≤r) (h4:r≤7) : -7≤d*r∧d*r≤7:=by
 obtain rfl|rfl|rfl:d=-1∨d=0∨d=1:=by omega
 all_goals omega
theorem outerS_sz {s:Shp} (h:ShOk s):∀ q∈outerS s,SzP 2 q:=by
 intro q hq;obtain ⟨i,hi,rfl⟩:=List.mem_map.1 ((turned_perm _ _ _).mem_iff.1 hq);have h8:i<8:=by simpa using (List.mem_filter.1 hi).1
 obtain ⟨⟨a,b⟩,c,d⟩:=dI_bd i h8;obtain ⟨r1,r2⟩:=rad_bd s.R i;have m1:=mul_seven a b r1 r2;have m2:=mul_seven c d r1 r2;obtain ⟨_,x1,x2,y1,y2,_,_⟩:=h;exact ⟨szI _ (by omega),szI _ (by omega)⟩
theorem holeL_sz {s:Shp} (h:ShOk s):∀ q∈holeL s,SzP 2 q:=by
 intro q hq;have hq:=(turned_perm _ _ _).mem_iff.1 hq;obtain ⟨_,x1,x2,y1,y2,_,_⟩:=h;have a1:=szI s.x (by omega);have a2:=szI s.y (by omega);have a3:=szH (2*s.x+1) (by omega);have a4:=szH (2*s.y+1) (by omega);have a5:=szH (2*s.x-1) (by omega);have a6:=szH (2*s.y-1) (by omega);unfold hole0 at hq;rcases List.mem_append.1 hq with hq|hq
 ·simp only [List.mem_cons,List.not_mem_nil,or_false] at hq
  rcases hq with rfl|rfl|rfl
  ·exact ⟨a3,a2⟩
  ·exact ⟨a1,a4⟩
  ·exact ⟨a5,a2⟩
 ·split at hq
  ·simp only [List.mem_cons,List.not_mem_nil,or_false] at hq
   subst hq;exact ⟨a1,a6⟩
  ·cases hq
theorem out0_len (R:Nat→Nat) (x y:Int):4≤(outer0 R x y).length∧(outer0 R x y).length≤8:=by
 unfold outer0;rw [List.length_map];have e:List.range 8=[0,1,2,3,4,5,6,7]:=rfl;rw [e]
 cases h1:has8 R 1<;>cases h3:has8 R 3<;>cases h5:has8 R 5<;>cases h7:has8 R 7 <;>
  simp [List.filter,h1,h3,h5,h7,show has8 R 0=true from rfl,show has8 R 2=true from rfl,show has8 R 4=true from rfl,show has8 R 6=true from rfl]
theorem outS_len (s:Shp):4≤(outerS s).length∧(outerS s).length≤8:=by unfold outerS;rw [turned_len];exact out0_len _ _ _
theorem holeS_mem {s:Shp} {r:List Pt} (h:r∈(holeS s).toList):r=holeL s:=by
 unfold holeS at h
 split at h
 ·simpa using h
 ·simp at h
theorem holeS_sz {s:Shp} (h:ShOk s):∀ r∈(holeS s).toList,∀ q∈r,SzP 2 q:=fun r hr=>holeS_mem hr▸holeL_sz h
theorem holeS_len (s:Shp):∀ r∈(holeS s).toList,r.length≤4:=fun r hr=>holeS_mem hr▸(holeL_len s).2
theorem holeS_min (s:Shp):∀ r∈(holeS s).toList,2≤r.length:=fun r hr=>holeS_mem hr▸Nat.le_trans (by decide) (holeL_len s).1
theorem holeS_one (s:Shp):(holeS s).toList.length≤1:=by
 unfold holeS;split<;>simp
theorem loc_holes (s:Shp):∀ r∈(holeS s).toList,∀ p,locW p (ringE r) 0=locO p (ringE r) (-1):=fun r hr p=>holeS_mem hr▸loc_hole s p
end Pg
end Go.Proofs.YtiochgoocbkckaaGreatDoor
