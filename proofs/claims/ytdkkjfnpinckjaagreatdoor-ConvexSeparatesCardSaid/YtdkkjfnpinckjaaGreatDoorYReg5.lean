/-
 A drawn region of three loads and four stores behind them, the loads in whatever order, some perhaps behind a store.
-/
import Derived.Test.YtdkkjfnpinckjaaGreatDoorYReg3
set_option maxRecDepth 100000
set_option linter.unusedSimpArgs false
set_option linter.unusedVariables false
namespace Go.Proofs.YtdkkjfnpinckjaaGreatDoor
open Go Go.RowKit

section
variable {P:Program}
def st7 (b0 b1 b2:Bool) (p:Nat):Array Bool:=#[b0,b1,b2,decide (0<p),decide (1<p),decide (2<p),decide (3<p)]
def ex7 (b0 b1 b2:Bool) (p:Nat):List Nat:=(if b0 then [] else [0])++((if b1 then [] else [1])++((if b2 then [] else [2])++(if p<4∧(p=0→b0=true)∧(p=1→b1=true)∧(p=2→b2=true) then [3+p] else [])))
def chk7 (l:List Oper):Bool:=decide (l.length=7)&&[false,true].all fun b0=>[false,true].all fun b1=>[false,true].all fun b2=>(List.range 5).all fun p =>
 !(decide ((1≤p→b0=true)∧(2≤p→b1=true)∧(3≤p→b2=true)))||decide (Region.ready .any l.toArray (st7 b0 b1 b2 p)=ex7 b0 b1 b2 p)
theorem chk7_at {l:List Oper} (h:chk7 l=true) {b0 b1 b2:Bool} {p:Nat} (hp:p<5) (h0:1≤p→b0=true) (h1:2≤p→b1=true) (h2:3≤p→b2=true):Region.ready .any l.toArray (st7 b0 b1 b2 p)=ex7 b0 b1 b2 p:=by
 simp only [chk7,Bool.and_eq_true,List.all_eq_true] at h;have hb:∀ b:Bool,b∈[false,true]:=by decide
 have k:=h.2 b0 (hb b0) b1 (hb b1) b2 (hb b2) p (List.mem_range.2 hp);rw [decide_eq_true (show (1≤p→b0=true)∧(2≤p→b1=true)∧(3≤p→b2=true) from ⟨h0,h1,h2⟩)] at k
 simpa using k
def pif (b:Bool) (d:Nat) (v:Value) (a:Act):Act:=match b with|true=>a.put (some d) v|false=>a
def act7 (d0 d1 d2:Nat) (v0 v1 v2:Value) (a:Act) (b0 b1 b2:Bool):Act:=pif b2 d2 v2 (pif b1 d1 v1 (pif b0 d0 v0 a))
theorem pif_comm {d e:Nat} (hne:d≠e) (b c:Bool) (v u:Value) (a:Act):pif b d v (pif c e u a)=pif c e u (pif b d v a):=by
 cases b<;>cases c<;>simp only [pif];exact Act.put_comm a u v (fun q hq hq2=>by cases hq;cases hq2;exact hne rfl)
def wld (w:World) (cL:List (Nat×List Value)):World:=cL.foldl (fun w x=>w.setCells x.1 0 x.2) w
theorem own_wld {b:Nat} {o:List Value} : ∀ (cL:List (Nat×List Value)) (w:World),Own w b 0 o→(∀ x∈cL,b≠x.1)→Own (wld w cL) b 0 o
 | [],_,h,_=>h
 | x :: cL,w,h,hn=>own_wld cL _ (h.off (hn x (by simp))) fun y hy=>hn y (List.mem_cons_of_mem _ hy)
def LoadK (P:Program) (A:Bool→Bool→Bool→Act) (w:World) (cL:List (Nat×List Value)) (o:Oper) (d:Nat) (v:Value):Prop :=
 ∃ T x b cs td,o.op=.load T x∧o.guard=none∧o.dst=some d∧v=.agg cs.toArray∧(∀ b0 b1 b2,(A b0 b1 b2).eval x=.pointer (some ⟨b,0,none⟩))∧Own w b 0 cs∧P.underlying T=some td∧td.isRow=true∧(P.info? T).map (·.size)=some cs.length∧∀ x∈cL,b≠x.1
def StoreK (P:Program) (A:Bool→Bool→Bool→Act) (w:World) (nb:Bool→Bool→Bool→Prop) (o:Oper) (c:Nat) (vs:List Value):Prop :=
 ∃ U z y olds,o.op=.store U z y∧o.guard=none∧o.dst=none∧(∀ b0 b1 b2,nb b0 b1 b2→(A b0 b1 b2).eval z=.pointer (some ⟨c,0,none⟩)∧((A b0 b1 b2).eval y).cells=vs.toArray)∧Own w c 0 olds∧olds.length=vs.length∧(P.info? U).map (·.size)=some vs.length∧∀ u∈vs,u.oneCell'=true
theorem wpOp_loadK {Q:Exit→Act→World→Prop} {K:Act→World→Prop} {A:Bool→Bool→Bool→Act} {w:World} {cL cM:List (Nat×List Value)} {ops:Array Oper} {i:Nat} {o:Oper} {d:Nat} {v:Value} (ho:ops[i]?=some o) (h:LoadK P A w cL o d v) (hM:∀ x∈cM,x∈cL) (b0 b1 b2:Bool)
 (hK:K ((A b0 b1 b2).put (some d) v) (wld w cM)):wpOp P ops Q i K (A b0 b1 b2) (wld w cM):=by
 obtain ⟨T,x,b,cs,td,h1,h2,h3,h4,h5,h6,h7,h8,h9,h10⟩:=h;unfold wpOp;simp only [ho];rw [if_pos (by unfold Region.wanted;rw [h2])];left;refine wp_load_mid T x h1 b 0 (h5 b0 b1 b2) cs td (own_range (own_wld cM w h6 fun y hy=>h10 y (hM y hy))) h7 h8 h9 ?_;rw [h3,← h4];exact hK
theorem wpOp_storeK {Q:Exit→Act→World→Prop} {K:Act→World→Prop} {A:Bool→Bool→Bool→Act} {w:World} {cM:List (Nat×List Value)} {ops:Array Oper} {i:Nat} {o:Oper} {c:Nat} {vs:List Value} {nb:Bool→Bool→Bool→Prop} (ho:ops[i]?=some o) (h:StoreK P A w nb o c vs) (hc:∀ x∈cM,c≠x.1) {b0 b1 b2:Bool} (hn:nb b0 b1 b2)
 (hK:K (A b0 b1 b2) ((wld w cM).setCells c 0 vs)):wpOp P ops Q i K (A b0 b1 b2) (wld w cM):=by
 obtain ⟨U,z,y,olds,h1,h2,h3,h4,h5,h6,h7,h8⟩:=h;have hO:=own_wld cM w h5 hc;unfold wpOp;simp only [ho];rw [if_pos (by unfold Region.wanted;rw [h2])];left;unfold Oper.wp execOp;simp only [h1,(h4 _ _ _ hn).1,run_storeAt_cells (wld w cM) c 0 U _ vs (h4 _ _ _ hn).2 (fun j hj=>(hO.there j (by omega)).1) (fun j hj=>(hO.there j (by omega)).2) h7 h8,Sem.run_bind,Result.andThen_ok,Sem.run_pure];have e:(A b0 b1 b2).put o.dst undef=A b0 b1 b2:=by rw [h3];rfl
 show _;simp only [Oper.upon,e];exact hK
def need (p:Nat) (b0 b1 b2:Bool):Prop:=(0≤p→b0=true)∧(1≤p→b1=true)∧(2≤p→b2=true)
theorem wpAny_l3s4 {Q:Exit→Act→World→Prop} {a:Act} {w:World} {l:List Oper} {d0 d1 d2:Nat} {v0 v1 v2:Value} {cL:List (Nat×List Value)} {o0 o1 o2 s0 s1 s2 s3:Oper} {x0 x1 x2 x3:Nat×List Value}
 (hl:l=[o0,o1,o2,s0,s1,s2,s3]) (hB:chk7 l=true) (hcL:cL=[x0,x1,x2,x3]) (h01:d0≠d1) (h02:d0≠d2) (h12:d1≠d2)
 (k0:LoadK P (act7 d0 d1 d2 v0 v1 v2 a) w cL o0 d0 v0) (k1:LoadK P (act7 d0 d1 d2 v0 v1 v2 a) w cL o1 d1 v1) (k2:LoadK P (act7 d0 d1 d2 v0 v1 v2 a) w cL o2 d2 v2)
 (m0:StoreK P (act7 d0 d1 d2 v0 v1 v2 a) w (need 0) s0 x0.1 x0.2) (m1:StoreK P (act7 d0 d1 d2 v0 v1 v2 a) w (need 1) s1 x1.1 x1.2) (m2:StoreK P (act7 d0 d1 d2 v0 v1 v2 a) w (need 2) s2 x2.1 x2.2) (m3:StoreK P (act7 d0 d1 d2 v0 v1 v2 a) w (need 3) s3 x3.1 x3.2)
 (n:x1.1≠x0.1∧x2.1≠x0.1∧x2.1≠x1.1∧x3.1≠x0.1∧x3.1≠x1.1∧x3.1≠x2.1)
 (hQ:Q .normal (act7 d0 d1 d2 v0 v1 v2 a true true true) (wld w cL)) :
 ∀ (f:Nat) (b0 b1 b2:Bool) (p:Nat),p<5→(1≤p→b0=true)→(2≤p→b1=true)→(3≤p→b2=true)→f+(b0.toNat+(b1.toNat+(b2.toNat+p)))=7 →
  wpAny P .any l.toArray Q f (st7 b0 b1 b2 p) (act7 d0 d1 d2 v0 v1 v2 a b0 b1 b2) (wld w (cL.take p)):=by
 have g:∀ i o,[o0,o1,o2,s0,s1,s2,s3][i]?=some o→l.toArray[i]?=some o:=fun i o h=>by rw [hl,List.getElem?_toArray];exact h
 intro f
 induction f with
 | zero =>
  intro b0 b1 b2 p hp h0 h1 h2 hn;have q:b0=true∧b1=true∧b2=true∧p=4:=by have:=Bool.toNat_le b0;have:=Bool.toNat_le b1;have:=Bool.toNat_le b2;refine ⟨?_,?_,?_,?_⟩<;>first|omega|(refine Bool.not_eq_false _ |>.mp fun e => ?_;subst e;simp at hn;omega)
  obtain ⟨rfl,rfl,rfl,rfl⟩:=q;refine ⟨by rw [chk7_at hB hp h0 h1 h2];rfl,?_⟩;have:cL.take 4=cL:=by rw [hcL];rfl
  rw [this];exact hQ
 | succ f ih =>
  intro b0 b1 b2 p hp h0 h1 h2 hn;have hr:=chk7_at hB hp h0 h1 h2;have tk:∀ x∈cL.take p,x∈cL:=fun x hx=>List.mem_of_mem_take hx
  refine ⟨fun he => ?_,fun i hi => ?_⟩
  ·exfalso
   rw [hr] at he;unfold ex7 at he;simp only [List.append_eq_nil_iff] at he;obtain ⟨e0,e1,e2,e3⟩:=he;have t0:b0=true:=(Bool.not_eq_false _).mp fun e=>by subst e;simp at e0
   have t1:b1=true:=(Bool.not_eq_false _).mp fun e=>by subst e;simp at e1
   have t2:b2=true:=(Bool.not_eq_false _).mp fun e=>by subst e;simp at e2
   subst t0 t1 t2;simp only [Bool.toNat_true] at hn;rw [if_pos ⟨by omega,fun _=>rfl,fun _=>rfl,fun _=>rfl⟩] at e3;cases e3
  ·rw [hr] at hi
   unfold ex7 at hi;simp only [List.mem_append] at hi;rcases hi with hi|hi|hi|hi
   ·have t:b0=false:=by cases b0 with|false=>rfl|true=>simp at hi
    subst t;simp at hi;subst hi;refine wpOp_loadK (g 0 o0 rfl) k0 tk _ _ _ ?_;have e:(act7 d0 d1 d2 v0 v1 v2 a false b1 b2).put (some d0) v0=act7 d0 d1 d2 v0 v1 v2 a true b1 b2:=by show pif true d0 v0 _=_;unfold act7;rw [pif_comm h02,pif_comm h01];rfl
    rw [e];exact ih true b1 b2 p hp (fun _=>rfl) h1 h2 (by simp at hn ⊢;omega)
   ·have t:b1=false:=by cases b1 with|false=>rfl|true=>simp at hi
    subst t;simp at hi;subst hi;refine wpOp_loadK (g 1 o1 rfl) k1 tk _ _ _ ?_;have e:(act7 d0 d1 d2 v0 v1 v2 a b0 false b2).put (some d1) v1=act7 d0 d1 d2 v0 v1 v2 a b0 true b2:=by show pif true d1 v1 _=_;unfold act7;rw [pif_comm h12];rfl
    rw [e];exact ih b0 true b2 p hp h0 (fun _=>rfl) h2 (by simp at hn ⊢;omega)
   ·have t:b2=false:=by cases b2 with|false=>rfl|true=>simp at hi
    subst t;simp at hi;subst hi;refine wpOp_loadK (g 2 o2 rfl) k2 tk _ _ _ ?_;exact ih b0 b1 true p hp h0 h1 (fun _=>rfl) (by simp at hn ⊢;omega)
   ·split at hi
    ·rename_i hc
     rw [List.mem_singleton] at hi;subst hi
     have st_next:∀ q,(st7 b0 b1 b2 p).setIfInBounds (3+p) true=q→wpAny P .any l.toArray Q f (st7 b0 b1 b2 (p+1)) (act7 d0 d1 d2 v0 v1 v2 a b0 b1 b2) (wld w (cL.take (p+1)))→wpAny P .any l.toArray Q f q (act7 d0 d1 d2 v0 v1 v2 a b0 b1 b2) (wld w (cL.take (p+1))):=by
      intro q hq hh;have:q=st7 b0 b1 b2 (p+1):=by rw [← hq];rcases (by omega:p=0∨p=1∨p=2∨p=3) with rfl|rfl|rfl|rfl<;>rfl
      rw [this];exact hh
     have next:=fun (z0:1≤p+1→b0=true) (z1:2≤p+1→b1=true) (z2:3≤p+1→b2=true)=>st_next _ rfl (ih b0 b1 b2 (p+1) (by omega) z0 z1 z2 (by omega))
     rcases (by omega:p=0∨p=1∨p=2∨p=3) with rfl|rfl|rfl|rfl
     ·have t0:=hc.2.1 rfl
      refine wpOp_storeK (g 3 s0 rfl) m0 (fun y hy=>by simp at hy) ⟨fun _=>t0,fun h=>by omega,fun h=>by omega⟩ ?_;have:=next (fun _=>t0) (fun h=>by omega) (fun h=>by omega);rw [hcL] at this ⊢;exact this
     ·have t0:=h0 (Nat.le_refl 1)
      have t1:=hc.2.2.1 rfl;refine wpOp_storeK (g 4 s1 rfl) m1 (fun y hy=>by rw [hcL] at hy;simp at hy;subst hy;exact n.1) ⟨fun _=>t0,fun _=>t1,fun h=>by omega⟩ ?_;have:=next (fun _=>t0) (fun _=>t1) (fun h=>by omega);rw [hcL] at this ⊢;exact this
     ·have t0:=h0 (by omega)
      have t1:=h1 (Nat.le_refl 2);have t2:=hc.2.2.2 rfl;refine wpOp_storeK (g 5 s2 rfl) m2 (fun y hy=>by rw [hcL] at hy;simp at hy;rcases hy with rfl|rfl<;>first|exact n.2.1|exact n.2.2.1) ⟨fun _=>t0,fun _=>t1,fun _=>t2⟩ ?_;have:=next (fun _=>t0) (fun _=>t1) (fun _=>t2);rw [hcL] at this ⊢;exact this
     ·have t0:=h0 (by omega)
      have t1:=h1 (by omega);have t2:=h2 (Nat.le_refl 3);refine wpOp_storeK (g 6 s3 rfl) m3 (fun y hy=>by rw [hcL] at hy;simp at hy;rcases hy with rfl|rfl|rfl<;>first|exact n.2.2.2.1|exact n.2.2.2.2.1|exact n.2.2.2.2.2) ⟨fun _=>t0,fun _=>t1,fun _=>t2⟩ ?_;have:=next (fun _=>t0) (fun _=>t1) (fun _=>t2);rw [hcL] at this ⊢;exact this
    ·cases hi
theorem wp_region_l3s4 {id:Nat} {Q:Exit→Act→World→Prop} {a:Act} {w:World} {l:List Oper} {d0 d1 d2:Nat} {v0 v1 v2:Value} {cL:List (Nat×List Value)} {o0 o1 o2 s0 s1 s2 s3:Oper} {x0 x1 x2 x3:Nat×List Value} (hm:P.follows .mixedOrders=true)
 (hl:l=[o0,o1,o2,s0,s1,s2,s3]) (hB:chk7 l=true) (hcL:cL=[x0,x1,x2,x3]) (h01:d0≠d1) (h02:d0≠d2) (h12:d1≠d2)
 (k0:LoadK P (act7 d0 d1 d2 v0 v1 v2 a) w.drew cL o0 d0 v0) (k1:LoadK P (act7 d0 d1 d2 v0 v1 v2 a) w.drew cL o1 d1 v1) (k2:LoadK P (act7 d0 d1 d2 v0 v1 v2 a) w.drew cL o2 d2 v2)
 (m0:StoreK P (act7 d0 d1 d2 v0 v1 v2 a) w.drew (need 0) s0 x0.1 x0.2) (m1:StoreK P (act7 d0 d1 d2 v0 v1 v2 a) w.drew (need 1) s1 x1.1 x1.2) (m2:StoreK P (act7 d0 d1 d2 v0 v1 v2 a) w.drew (need 2) s2 x2.1 x2.2) (m3:StoreK P (act7 d0 d1 d2 v0 v1 v2 a) w.drew (need 3) s3 x3.1 x3.2)
 (n:x1.1≠x0.1∧x2.1≠x0.1∧x2.1≠x1.1∧x3.1≠x0.1∧x3.1≠x1.1∧x3.1≠x2.1)
 (hQ:Q .normal (act7 d0 d1 d2 v0 v1 v2 a true true true) (wld w.drew cL)):(Code.region id l.toArray true).wp P Q a w:=by
 refine wp_region_any hm ?_;have H:=wpAny_l3s4 hl hB hcL h01 h02 h12 k0 k1 k2 m0 m1 m2 m3 n hQ 7 false false false 0 (by omega) (fun h=>by omega) (fun h=>by omega) (fun h=>by omega) rfl;have e:l.toArray.size=7:=by rw [hl];rfl
 rw [e];exact H
end
end Go.Proofs.YtdkkjfnpinckjaaGreatDoor
