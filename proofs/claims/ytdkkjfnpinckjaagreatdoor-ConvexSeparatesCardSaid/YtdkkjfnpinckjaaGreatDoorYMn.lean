/-
 A second law on regions that leave their order open: the first operation only moves a value (the row that is appended to) and may come at any time; the others of the head read, compute or call, and the tail waits for these. Conditions: closed facts on the region's edges, by the kernel.
 Laws for walks over lists: elements of slices, rows of the call's own that grow.
-/
import Derived.Test.YtdkkjfnpinckjaaGreatDoorYMb
import Derived.Test.YtdkkjfnpinckjaaGreatDoorYMh
import Derived.Test.YtdkkjfnpinckjaaGreatDoorYMf
import Derived.Test.YtdkkjfnpinckjaaGreatDoorYMa
import Derived.WalkSmall
set_option maxRecDepth 100000
set_option linter.unusedSimpArgs false
set_option linter.unusedVariables false
namespace Go.Proofs.YtdkkjfnpinckjaaGreatDoor
open Go Go.RowKit

def sinkB1 (md:Region.Mode) (ops:Array Oper) (n:Nat):Bool :=
 (List.range n).all fun i=>decide (i=0)||(List.range (n+1)).any fun j=>decide (i<j)&&Region.waitsFor md ops j i
def lexTailB1 (md:Region.Mode) (ops:Array Oper) (n:Nat):Bool :=
 Region.noSelect ops&&decide (n<ops.size)&&sinkB1 md ops n&&Region.chainB md ops n&&(Region.ready md ops (Array.replicate ops.size false)).contains 0&&Region.free md ops (Array.replicate ops.size false) 0 &&
  Region.lexHead md ops (ops.size-n) (n-1) 1 ((Array.replicate ops.size false).setIfInBounds 0 true)&&decide (0<n)
section
variable {P:Program} {ops:Array Oper} {md:Region.Mode} {C:World→Prop}
theorem tail_waits1 {n:Nat} {listed:Array Bool} (hs:sinkB1 md ops n=true) (hc:Region.chainB md ops n=true) (hn:n<ops.size) (inv:HeadInv md ops n listed) :
 ∀ (d i:Nat),n-i=d→0<i→i<n→listed.getD i true=false→∀ t,n≤t→t∉Region.ready md ops listed:=by
 intro d
 induction d using Nat.strongRecOn with
 | _ d ih =>
  intro i hd h0 hi hun t ht hr;obtain ⟨_,ot,hot,hall⟩:=mem_ready.1 hr;have hlt:t<ops.size:=(Array.getElem?_eq_some_iff.1 hot).1;rcases Nat.lt_or_ge n t with htn|htn
  ·have h1:=List.all_eq_true.1 hc t (List.mem_range.2 hlt)
   have h2:Region.waitsFor md ops t (t-1)=true:=by simpa [show ¬ t≤n from by omega] using h1
   obtain ⟨o,ho,e,he,hb,heq⟩:=Region.waitsFor_spec h2;rw [hot] at ho;cases ho;have h3:=hall e he hb;have h4:=inv.tail (t-1) (by omega) (by omega);rw [heq] at h3;rw [getD_both h4] at h3;cases h3
  ·have htn:t=n:=by omega
   subst htn;have h1:=List.all_eq_true.1 hs i (List.mem_range.2 hi);simp only [show ¬ i=0 from by omega,decide_false,Bool.false_or,List.any_eq_true,List.mem_range,Bool.and_eq_true,decide_eq_true_eq] at h1;obtain ⟨j,hj,hij,hw⟩:=h1;obtain ⟨o,ho,e,he,hb,heq⟩:=Region.waitsFor_spec hw;rcases Nat.lt_or_ge j t with hjt|hjt
   ·have hjun:listed.getD j true=false:=by
     rcases hl:listed.getD j true with _|_
     ·rfl
     ·have hsz:j<listed.size:=by rw [inv.size];omega
      have hl2:listed.getD j false=true:=by simp only [Array.getD,hsz,dite_true] at hl ⊢;exact hl
      have:=inv.closed j o ho hl2 e he hb;rw [heq,getD_both hun] at this;cases this
    exact ih (t-j) (by omega) j rfl (by omega) hjt hjun t (Nat.le_refl _) hr
   ·have:j=t:=by omega
    subst this;rw [hot] at ho;cases ho;have:=hall e he hb;rw [heq,getD_both hun] at this;cases this
theorem headAny_first1 {n i:Nat} {oi:Oper} {v:Value} {L:Array Bool→Act→Prop} (hi:ops[i]?=some oi) (hsel:∀ (j:Nat) (o:Oper) cs b,ops[j]?=some o→o.op≠.select cs b)
 (hs:sinkB1 md ops n=true) (hc:Region.chainB md ops n=true) (hn:n<ops.size) (h0:0<i) (hin:i<n) (hdone:∀ listed a,L listed a→∀ j∈Region.ready md ops listed,n≤j) :
 ∀ (f:Nat) (listed:Array Bool) (a:Act),HeadInv md ops n listed →
  (∀ j oj,ops[j]?=some oj→j≠i→listed.getD j true=false→(∀ e∈oj.after,Region.binds md e=true→e.on≠i)→oi.apart ops oj=true) →
  i∈Region.ready md ops listed→YieldsIn P ops C oi v a →
  headAny P md ops C n L f (listed.setIfInBounds i true) (a.put oi.dst v)→headAny P md ops C n L (f+1) listed a:=by
 intro f
 induction f with
 | zero =>
  intro listed a inv _ hr hy H;refine ⟨fun h=>(by rw [h] at hr;cases hr),fun j hj => ?_⟩;have hjn:j<n:=Nat.lt_of_not_le fun h=>tail_waits1 hs hc hn inv _ i rfl h0 hin (mem_ready.1 hr).1 j h hj
  refine ⟨hjn,?_⟩;rcases Nat.decEq j i with hji|hji
  ·exact absurd (hdone _ _ H j (ready_mono hj hji)) (by omega)
  ·subst hji;exact hy.qOp hi H
 | succ f ih =>
  intro listed a inv hfree hr hy H;refine ⟨fun h=>(by rw [h] at hr;cases hr),fun j hj => ?_⟩;have hjn:j<n:=Nat.lt_of_not_le fun h=>tail_waits1 hs hc hn inv _ i rfl h0 hin (mem_ready.1 hr).1 j h hj
  refine ⟨hjn,?_⟩;rcases Nat.decEq j i with hji|hji
  ·have h1:=(H.2 j (ready_mono hj hji)).2
   obtain ⟨hjun,oj,hoj,hall⟩:=mem_ready.1 hj
   have hnot:∀ e∈oj.after,Region.binds md e=true→e.on≠i:=fun e he hb heq=>by
    have h2:=hall e he hb;rw [heq,getD_both (mem_ready.1 hr).1] at h2;cases h2
   have h2:=qOp_put hoj (hfree j oj hoj hji hjun hnot) (fun cs b=>hsel i oi cs b hi) (fun cs b=>hsel j oj cs b hoj) hy h1;refine qOp_mono (fun a' h3=>ih (listed.setIfInBounds j true) a' (inv.set hj hjn) (fun k ok hk hki hun hno=>hfree k ok hk hki ?_ hno) (ready_mono hr (Ne.symm hji)) h3.1 ?_) h2
   ·rcases Nat.decEq j k with hjk|hjk
    ·rw [getD_set_ne true hjk] at hun;exact hun
    ·subst hjk;exact hjun
   ·rw [Array.setIfInBounds_comm _ _ hji];exact h3.2
  ·subst hji;exact hy.qOp hi H
theorem headAny_lex1 {n g:Nat} {K:Act→Prop} (hsel:Region.noSelect ops=true) (hs:sinkB1 md ops n=true) (hc:Region.chainB md ops n=true) (hn:n<ops.size) :
 ∀ (l:List Oper) (k:Nat) (listed:Array Bool) (a:Act),(∀ j,j<l.length→l[j]?=ops[k+j]?)→0<k→k+l.length=n→HeadInv md ops n listed →
  Region.lexHead md ops g l.length k listed=true→wpQuiet P ops C K l a →
  headAny P md ops C n (fun listed' a'=>Region.seqB md ops g n listed'=true∧K a') l.length listed a
 | [],k,listed,a,_,_,hk,_,hB,h=>by
  have e:k=n:=by simpa using hk
  subst e;exact ⟨by simpa [Region.lexHead] using hB,h⟩
 | o :: l,k,listed,a,hl,h1,hk,inv,hB,h=>by
  have h0:ops[k]?=some o:=by simpa using (hl 0 (by simp)).symm
  simp only [List.length_cons,Region.lexHead,Bool.and_eq_true] at hB;simp only [List.length_cons] at hk;have hr:k∈Region.ready md ops listed:=by simpa using hB.1.1
  have hst:qOp P ops C k (wpQuiet P ops C K l) a:=by unfold qOp;simp only [h0];exact h
  obtain ⟨v,hy,hK⟩:=yieldsIn_of_qOp h0 hst;refine headAny_first1 h0 (Region.noSelect_spec hsel) hs hc hn h1 (by omega) (fun listed' a' hL=>seqB_ready hL.1) l.length listed a inv (Region.free_spec h0 hB.1.2) hr hy ?_;exact headAny_lex1 hsel hs hc hn l (k+1) _ _ (fun j hj=>by have:=hl (j+1) (by simp;omega);simpa [Nat.add_assoc,Nat.add_comm 1 j] using this) (by omega) (by omega) (inv.set hr (by omega)) hB.2 hK
end
theorem wp_region_tail1 {P:Program} {id:Nat} {Q:Exit→Act→World→Prop} {a:Act} {w:World} {o:Oper} {l:List Oper} (n:Nat) (x:Operand) (hm:P.follows .mixedOrders=true) (hB:lexTailB1 .any (o :: l).toArray n=true)
 (hx:o.op=.move x) (hg:o.guard=none) (hQ:∀ c a' w',Q (.panic c) (a'.put o.dst (a.eval x)) w'→Q (.panic c) a' w')
 (h:wpQuiet P (o :: l).toArray (fun w'=>∃ p:Bel w,w'=p.w1) (fun a'=>∀ w',Below w.heap.size w w'→wpList P (o :: l).toArray Q ((o :: l).drop n) a' w') (((o :: l).take n).drop 1) (a.put o.dst (a.eval x))) :
 (Code.region id (o :: l).toArray true).wp P Q a w:=by
 simp only [lexTailB1,Bool.and_eq_true,decide_eq_true_eq] at hB;obtain ⟨⟨⟨⟨⟨⟨⟨hsel,hn⟩,hs⟩,hc⟩,hr⟩,hf⟩,hlex⟩,h0⟩:=hB;have hn':n<(o :: l).length:=by simpa using hn
 have htl:(((o :: l).take n).drop 1).length=n-1:=by rw [List.length_drop,List.length_take];omega
 have hop:(o :: l).toArray[0]?=some o:=by simp
 have hy:Yields P (o :: l).toArray o (a.eval x) a:=.inl ⟨by simp [Region.wanted,hg],fun w=>by simp [execOp,hx]⟩
 have inv0:HeadInv .any (o :: l).toArray n (Array.replicate (o :: l).toArray.size false) :=
  ⟨by simp,fun j oj _ hl=>(by rw [getD_replicate_false] at hl;cases hl),fun t _ ht=>getD_in (by simpa using ht) (getD_replicate_false _ _)⟩
 have hr0:0∈Region.ready .any (o :: l).toArray (Array.replicate (o :: l).toArray.size false):=by simpa using hr
 have H:=headAny_lex1 (P:=P) (md:=.any) (g:=(o :: l).toArray.size-n) hsel hs hc hn (((o :: l).take n).drop 1) 1 ((Array.replicate (o :: l).toArray.size false).setIfInBounds 0 true) (a.put o.dst (a.eval x)) (fun j hj=>by
  rw [htl] at hj
  rw [List.getElem?_drop,List.getElem?_take,if_pos (by omega),List.getElem?_toArray]) (by omega) (by omega) (inv0.set hr0 h0) (by rw [htl];exact hlex) h
 refine wp_region_any hm ?_
 have H2:=wpAny_of_headAny (Q':=Q) (g:=(o :: l).toArray.size-n) (fun listed a' w' hw' hL=>by
  obtain ⟨p,rfl⟩:=hw'
  have h3:=wpAny_of_seq (md:=.any) (Q':=Q) ((o :: l).drop n) n listed a' p.w1 (fun j=>by rw [List.getElem?_drop,List.getElem?_toArray]) (by
   have:=hL.1;rwa [show ((o :: l).drop n).length=(o :: l).toArray.size-n from by simp]) (hL.2 p.w1 p.h)
  rwa [show ((o :: l).drop n).length=(o :: l).toArray.size-n from by simp] at h3) _ _ _ _ ⟨⟨_,(Below.refl _ w).drew⟩,rfl⟩ H
 rw [htl] at H2;have e:(o :: l).toArray.size=(n-1+((o :: l).toArray.size-n))+1:=by omega
 rw [show wpAny P .any (o :: l).toArray Q (o :: l).toArray.size=wpAny P .any (o :: l).toArray Q ((n-1+((o :: l).toArray.size-n))+1) from by rw [← e]];exact wpAny_first hop (Region.noSelect_spec hsel) hQ _ _ _ _ (Region.free_spec hop hf) hr0 hy H2
end Go.Proofs.YtdkkjfnpinckjaaGreatDoor

namespace Go.Proofs.YtdkkjfnpinckjaaGreatDoor
open Go Go.RowKit

def LX {α:Type} (C:World→Nat→Nat→α→Prop) (K:Nat) (w:World) (A:Option Addr) (l:List α):Prop :=
 ∀ (k:Nat) x,l[k]?=some x→∃ g o,A=some ⟨g,o,none⟩∧C w g (o+k*K) x
structure Kp {α:Type} (C:World→Nat→Nat→α→Prop):Prop where
 up:∀ {w w1:World} {g i:Nat} {x:α},C w g i x→Below w.heap.size w w1→C w1 g i x
theorem LX.up {α:Type} {C:World→Nat→Nat→α→Prop} {K:Nat} {w w1:World} {A:Option Addr} {l:List α} (h:LX C K w A l) (kp:Kp C) (hb:Below w.heap.size w w1):LX C K w1 A l:=fun k x hx=>by
 obtain ⟨g,o,ha,hc⟩:=h k x hx;exact ⟨g,o,ha,kp.up hc hb⟩
theorem LX.at_ {α:Type} {C:World→Nat→Nat→α→Prop} {K:Nat} {w:World} {g o k:Nat} {x:α} {l:List α} (h:LX C K w (some ⟨g,o,none⟩) l) (hx:l[k]?=some x):C w g (o+k*K) x:=by
 obtain ⟨g',o',ha,hc⟩:=h k x hx;cases ha;exact hc
theorem kpP:Kp CE:=⟨fun h hb=>h.up hb⟩
theorem flat_get {α:Type} (cs:α→List Value) (K:Nat) (hK:∀ x,(cs x).length=K):∀ (l:List α) (k j:Nat) (x:α),l[k]?=some x→j<K→(l.flatMap cs)[k*K+j]?=(cs x)[j]?
 | [],k,j,x,h,_=>by simp at h
 | a :: l,0,j,x,h,hj=>by
  simp only [List.getElem?_cons_zero,Option.some.injEq] at h;subst h;rw [List.flatMap_cons,Nat.zero_mul,Nat.zero_add,List.getElem?_append_left (by rw [hK];exact hj)]
 | a :: l,k+1,j,x,h,hj=>by
  simp only [List.getElem?_cons_succ] at h;rw [List.flatMap_cons,List.getElem?_append_right (by rw [hK,Nat.add_mul];omega)];have e:(k+1)*K+j-(cs a).length=k*K+j:=by rw [hK,Nat.add_mul];omega
  rw [e];exact flat_get cs K hK l k j x h hj
theorem flat_length {α:Type} (cs:α→List Value) (K:Nat) (hK:∀ x,(cs x).length=K) (l:List α):(l.flatMap cs).length=l.length*K:=by
 induction l with
 | nil=>simp
 | cons a l ih=>rw [List.flatMap_cons,List.length_append,ih,hK,List.length_cons,Nat.add_mul];omega
theorem sl_open {α:Type} (cs:α→List Value) (K:Nat) (hK:∀ x,(cs x).length=K) {C:World→Nat→Nat→α→Prop}
 (hC:∀ w g i x,(∀ j u,j<K→(cs x)[j]?=some u→w.cell? ⟨g,i+j,none⟩=some u)→C w g i x) {w:World} {v:Value} {l:List α} (h:Sl w v l.length K (l.flatMap cs)) :
 ∃ A c,v=.slice A l.length c∧l.length≤c∧c≤maxLen∧LX C K w A l:=by
 rcases h.2 with ⟨h1,h2⟩|⟨g,o,c,hv,hc,hm,hx⟩
 ·refine ⟨none,0,by rw [h1,h2],by omega,by simp [maxLen],fun k x hk => ?_⟩
  have:=(List.getElem?_eq_some_iff.1 hk).1;omega
 ·refine ⟨_,c,hv,hc,hm,fun k x hk=>⟨g,o,rfl,hC _ _ _ _ fun j u hj hu => ?_⟩⟩
  rw [Nat.add_assoc];exact hx (k*K+j) u ((flat_get cs K hK l k j x hk hj).trans hu)
theorem CE.mk {w:World} {g i:Nat} {p:Rat×Rat} (H:∀ j u,j<8→(pcells p)[j]?=some u→w.cell? ⟨g,i+j,none⟩=some u):CE w g i p :=
 ⟨H 0 _ (by omega) rfl,H 1 _ (by omega) rfl,H 2 _ (by omega) rfl,H 3 _ (by omega) rfl,H 4 _ (by omega) rfl,H 5 _ (by omega) rfl,H 6 _ (by omega) rfl,H 7 _ (by omega) rfl⟩
theorem pcells_len (p:Rat×Rat):(pcells p).length=8:=rfl
theorem PV.open_ {w:World} {v:Value} {l:List (Rat×Rat)} (h:PV w v l):∃ A c,v=.slice A l.length c∧l.length≤c∧c≤maxLen∧LX CE 8 w A l :=
 sl_open pcells 8 pcells_len (fun _ _ _ _ H=>CE.mk H) h
def scells (s:(Rat×Rat)×(Rat×Rat)):List Value:=pcells s.1++pcells s.2
theorem scells_len (s:(Rat×Rat)×(Rat×Rat)):(scells s).length=16:=rfl
def segs (l:List ((Rat×Rat)×(Rat×Rat))):List Value:=l.flatMap scells
def SV (w:World) (v:Value) (l:List ((Rat×Rat)×(Rat×Rat))):Prop:=Sl w v l.length 16 (segs l)
theorem SV.up {w w1:World} {v:Value} {l:List ((Rat×Rat)×(Rat×Rat))} (h:SV w v l) (hb:Below w.heap.size w w1):SV w1 v l:=Sl.up h hb
def CS (w:World) (g i:Nat) (s:(Rat×Rat)×(Rat×Rat)):Prop :=
 (w.cell? ⟨g,i,none⟩=some (.bool (ng s.1.1.num))∧w.cell? ⟨g,i+1,none⟩=some (.string (mg s.1.1.num.natAbs))∧w.cell? ⟨g,i+2,none⟩=some (.bool false)∧w.cell? ⟨g,i+3,none⟩=some (.string (mg (dn s.1.1))) ∧
 w.cell? ⟨g,i+4,none⟩=some (.bool (ng s.1.2.num))∧w.cell? ⟨g,i+5,none⟩=some (.string (mg s.1.2.num.natAbs))∧w.cell? ⟨g,i+6,none⟩=some (.bool false)∧w.cell? ⟨g,i+7,none⟩=some (.string (mg (dn s.1.2)))) ∧
 (w.cell? ⟨g,i+8,none⟩=some (.bool (ng s.2.1.num))∧w.cell? ⟨g,i+9,none⟩=some (.string (mg s.2.1.num.natAbs))∧w.cell? ⟨g,i+10,none⟩=some (.bool false)∧w.cell? ⟨g,i+11,none⟩=some (.string (mg (dn s.2.1))) ∧
 w.cell? ⟨g,i+12,none⟩=some (.bool (ng s.2.2.num))∧w.cell? ⟨g,i+13,none⟩=some (.string (mg s.2.2.num.natAbs))∧w.cell? ⟨g,i+14,none⟩=some (.bool false)∧w.cell? ⟨g,i+15,none⟩=some (.string (mg (dn s.2.2))))
theorem CS.two {w:World} {g i:Nat} {s:(Rat×Rat)×(Rat×Rat)} : CS w g i s↔CE w g i s.1∧CE w g (i+8) s.2:=by
 simp only [CS,CE,Nat.add_assoc,Nat.reduceAdd]
theorem CS.up {w w1:World} {g i:Nat} {s:(Rat×Rat)×(Rat×Rat)} (h:CS w g i s) (hb:Below w.heap.size w w1):CS w1 g i s:=by
 have:=CS.two.1 h;exact CS.two.2 ⟨this.1.up hb,this.2.up hb⟩
theorem CS.bel {W:World} {g i:Nat} {s:(Rat×Rat)×(Rat×Rat)} (h:CS W g i s) (b:Bel W):CS b.w1 g i s:=h.up b.h
theorem kpS:Kp CS:=⟨fun h hb=>h.up hb⟩
theorem SV.open_ {w:World} {v:Value} {l:List ((Rat×Rat)×(Rat×Rat))} (h:SV w v l):∃ A c,v=.slice A l.length c∧l.length≤c∧c≤maxLen∧LX CS 16 w A l :=
 sl_open scells 16 scells_len (fun _ _ _ _ H=>CS.two.2 ⟨CE.mk fun j u hj hu=>H j u (by omega) (by rw [scells,List.getElem?_append_left (by rw [pcells_len];exact hj)];exact hu),
  CE.mk fun j u hj hu=>by rw [Nat.add_assoc];exact H (8+j) u (by omega) (by rw [scells,List.getElem?_append_right (by rw [pcells_len];omega),pcells_len,Nat.add_sub_cancel_left];exact hu)⟩) h
theorem ti_sg:TI Tryz.prog 88 59 16 192:=⟨Tryz.underlying88,by kernel_rfl,by decide⟩
theorem ti_pt:TI Tryz.prog 26 35 8 96:=⟨Tryz.underlying26,by kernel_rfl,by decide⟩
theorem pcells_one (p:Rat×Rat):∀ u∈pcells p,u.oneCell'=true:=by
 intro u hu;simp only [pcells,List.mem_cons,List.not_mem_nil,or_false] at hu;rcases hu with rfl|rfl|rfl|rfl|rfl|rfl|rfl|rfl<;>rfl
theorem scells_one (s:(Rat×Rat)×(Rat×Rat)):∀ u∈scells s,u.oneCell'=true:=by
 intro u hu;rcases List.mem_append.1 hu with h|h
 ·exact pcells_one _ u h
 ·exact pcells_one _ u h
theorem pts_snoc (l:List (Rat×Rat)) (p:Rat×Rat):pts (l++[p])=pts l++pcells p:=by simp [pts]
theorem segs_snoc (l:List ((Rat×Rat)×(Rat×Rat))) (p:(Rat×Rat)×(Rat×Rat)):segs (l++[p])=segs l++scells p:=by simp [segs]
theorem pv_nil (w:World):PV w (.slice none 0 0) []:=Sl.nil w 8
theorem pv_own {w:World} {base n:Nat} {v:Value} {l:List (Rat×Rat)} (h:w.ownsRow base 35 8 v n (pts l)):PV w v l:=by
 have e:n=l.length:=by have:=h.1;rw [pts_length] at this;omega
 subst e;exact Sl.of_own h
theorem sv_own {w:World} {base n:Nat} {v:Value} {l:List ((Rat×Rat)×(Rat×Rat))} (h:w.ownsRow base 59 16 v n (segs l)):SV w v l:=by
 have e:n=l.length:=by have:=h.1;rw [segs,flat_length scells 16 scells_len] at this;omega
 subst e;exact Sl.of_own h

theorem owns_block {w w':World} {base:Nat} {e:TypeId} {size n:Nat} {v:Value} {xs:List Value} (h:w.ownsRow base e size v n xs) (hb:∀ k,v.ownBlock=some k→k<w.heap.size→w'.heap[k]?=w.heap[k]?):w'.ownsRow base e size v n xs:=by
 refine ⟨h.1,?_⟩;rcases h.2 with hn|⟨g,cap,cur,rfl,hbg,hgg,rest⟩
 ·exact .inl hn
 ·exact .inr ⟨g,cap,cur,rfl,hbg,(hb g rfl (Array.getElem?_eq_some_iff.1 hgg).1).trans hgg,rest⟩
theorem owns_up {w w':World} {base:Nat} {e:TypeId} {size n:Nat} {v:Value} {xs:List Value} (h:w.ownsRow base e size v n xs) (hb:Below w.heap.size w w'):w'.ownsRow base e size v n xs:=owns_block h fun k _ hk=>hb.block k hk
theorem owns_far {w:World} {base:Nat} {e:TypeId} {size n:Nat} {v:Value} {xs:List Value} (h:w.ownsRow base e size v n xs) (p:Addr) (hp:v.ownBlock≠some p.block) (u:Value):(w.setCell p u).ownsRow base e size v n xs :=
 owns_block h fun k hk _=>Below.heap_setCell w p u k (by intro e;subst e;exact hp hk)
theorem owns_farB {w:World} {base:Nat} {e:TypeId} {size n:Nat} {v:Value} {xs:List Value} (h:w.ownsRow base e size v n xs) (p:Addr) (hp:p.block<base) (u:Value):(w.setCell p u).ownsRow base e size v n xs :=
 owns_far h p (fun e=>by have:=(h.lt _ e).1;omega) u
theorem owns_new {w:World} {base:Nat} {e:TypeId} {size n:Nat} {v:Value} {xs:List Value} (h:w.ownsRow base e size v n xs) (k:Nat):v.ownBlock≠some (w.heap.size+k):=fun e=>by have:=(h.lt _ e).2;omega
theorem owns_new0 {w:World} {base:Nat} {e:TypeId} {size n:Nat} {v:Value} {xs:List Value} (h:w.ownsRow base e size v n xs):v.ownBlock≠some w.heap.size:=fun e=>by have:=(h.lt _ e).2;omega
theorem owns_viewP {w:World} {base n g cap:Nat} {l:List (Rat×Rat)} (h:w.ownsRow base 35 8 (.slice (some ⟨g,0,none⟩) n cap) n (pts l)):LX CE 8 w (some ⟨g,0,none⟩) l:=by
 obtain ⟨A,c,hv,_,_,hx⟩:=(pv_own h).open_;have e:n=l.length:=by have:=h.1;rw [pts_length] at this;omega
 subst e;cases hv;exact hx
theorem owns_viewS {w:World} {base n g cap:Nat} {l:List ((Rat×Rat)×(Rat×Rat))} (h:w.ownsRow base 59 16 (.slice (some ⟨g,0,none⟩) n cap) n (segs l)):LX CS 16 w (some ⟨g,0,none⟩) l:=by
 obtain ⟨A,c,hv,_,_,hx⟩:=(sv_own h).open_;have e:n=l.length:=by have:=h.1;rw [segs,flat_length scells 16 scells_len] at this;omega
 subst e;cases hv;exact hx
theorem owns_form {w:World} {base n k:Nat} {e:TypeId} {v:Value} {xs:List Value} (h:w.ownsRow base e k v n xs) (hn:0<n):∃ g cap,v=.slice (some ⟨g,0,none⟩) n cap∧n≤cap∧cap≤maxLen∧g<w.heap.size∧base≤g:=by
 rcases h.2 with ⟨_,h0⟩|⟨g,cap,cur,rfl,hbg,hg,hnc,hcm,_⟩
 ·omega
 ·exact ⟨g,cap,rfl,hnc,hcm,(Array.getElem?_eq_some_iff.1 hg).1,hbg⟩
def lenV (v:Value):Nat:=match v with|.slice _ n _=>n|_=>0
theorem owns_open {w:World} {base n:Nat} {v:Value} {l:List (Rat×Rat)} (h:w.ownsRow base 35 8 v n (pts l)):n=l.length∧∃ A c,v=.slice A n c∧n≤c∧c≤maxLen∧LX CE 8 w A l:=by
 have e:n=l.length:=by have:=h.1;rw [pts_length] at this;omega
 subst e;exact ⟨rfl,(pv_own h).open_⟩
theorem PV.open1 {w:World} {v:Value} {a:Rat×Rat} (h:PV w v [a]):∃ A c,v=.slice A 1 c∧1≤c∧c≤maxLen∧LX CE 8 w A [a]:=h.open_
theorem PV.open2 {w:World} {v:Value} {a b:Rat×Rat} (h:PV w v [a,b]):∃ A c,v=.slice A 2 c∧2≤c∧c≤maxLen∧LX CE 8 w A [a,b]:=h.open_
theorem pv_one (w:World) (p:Rat×Rat):PV (w.alloc (.cells (pcells p).toArray 35)) (.slice (some ⟨w.heap.size,0,none⟩) 1 1) [p]:=by
 refine ⟨by simp [pts,pcells],.inr ⟨_,0,1,rfl,Nat.le_refl _,by simp [maxLen],fun j u hj => ?_⟩⟩;rw [World.cell?_alloc_at _ _ _ _ rfl];simpa [pts] using hj
def setL (w:World) (b:Nat):Nat→List Value→World
 | _,[]=>w
 | i,v :: l=>setL (w.setCell ⟨b,i,none⟩ v) b (i+1) l
theorem setL_keep {b:Nat} : ∀ (l:List Value) (i j:Nat) (w:World) (v:Value),j<i→w.cell? ⟨b,j,none⟩=some v∧w.frozen? ⟨b,j,none⟩=false→(setL w b i l).cell? ⟨b,j,none⟩=some v∧(setL w b i l).frozen? ⟨b,j,none⟩=false
 | [],_,_,_,_,_,h=>h
 | u :: l,i,j,w,v,hj,h=>setL_keep l (i+1) j _ v (by omega) ⟨(World.cell?_setCell_other w _ _ _ (fun e=>by injection e with _ e2;omega)).trans h.1,by rw [show (w.setCell ⟨b,i,none⟩ u).frozen? ⟨b,j,none⟩=w.frozen? ⟨b,j,none⟩ from by simp [go_sem]];exact h.2⟩
theorem Own.keepR {w:World} {b:Nat} {i:Nat} {u:Value} : ∀ {l:List Value} {j:Nat},i<j→Own w b j l→Own (w.setCell ⟨b,i,none⟩ u) b j l
 | [],_,_,_=>trivial
 | _ :: _,j,hj,h=>⟨⟨(World.cell?_setCell_other w _ _ _ (fun e=>by injection e with _ e2;omega)).trans h.1.1,by rw [show (w.setCell ⟨b,i,none⟩ u).frozen? ⟨b,j,none⟩=w.frozen? ⟨b,j,none⟩ from by simp [go_sem]];exact h.1.2⟩,Own.keepR (by omega) h.2⟩
theorem own_setLi {b:Nat} : ∀ {olds vs:List Value} {i:Nat} {w:World},Own w b i olds→olds.length=vs.length→Own (setL w b i vs) b i vs
 | [],[],_,_,_,_=>trivial
 | [],_ :: _,_,_,_,h=>by cases h
 | _ :: _,[],_,_,_,h=>by cases h
 | o :: olds,v :: vs,i,w,h,hl=>by
  refine ⟨setL_keep vs (i+1) i _ v (by omega) ⟨?_,?_⟩,own_setLi (Own.keepR (by omega) h.2) (by simpa using hl)⟩
  ·have:=h.1.1
   simp [go_sem,this]
  ·rw [show (w.setCell ⟨b,i,none⟩ v).frozen? ⟨b,i,none⟩=w.frozen? ⟨b,i,none⟩ from by simp [go_sem]];exact h.1.2
theorem own_setL {b:Nat} {olds vs:List Value} {w:World} (h:Own w b 0 olds) (hl:olds.length=vs.length):Own (setL w b 0 vs) b 0 vs:=own_setLi h hl
theorem own_newi {w:World} {b:Nat} {T:TypeId} : ∀ {l:List Value} {i:Nat} {cs:List Value},b=w.heap.size→cs.drop i=l→Own (w.alloc (.cells cs.toArray T)) b i l
 | [],_,_,_,_=>trivial
 | v :: l,i,cs,hb,h=>by
  have h1:cs[i]?=some v:=by rw [← List.head?_drop,h];rfl
  refine ⟨⟨?_,?_⟩,own_newi hb ?_⟩
  ·subst hb;rw [World.cell?_alloc_at _ _ _ _ rfl];simpa using h1
  ·subst hb;simp [go_sem]
  ·rw [← List.tail_drop,h];rfl
theorem own_new {w:World} {b:Nat} {T:TypeId} {l:List Value} (hb:b=w.heap.size):Own (w.alloc (.cells l.toArray T)) b 0 l:=own_newi hb rfl
theorem At.get {w:World} {b:Nat} : ∀ {l:List Value} {i j:Nat} {u:Value},At w b i l→l[j]?=some u→w.cell? ⟨b,i+j,none⟩=some u
 | [],_,j,_,_,h=>by simp at h
 | _ :: _,i,0,u,h,hj=>by simp only [List.getElem?_cons_zero,Option.some.injEq] at hj;subst hj;exact h.1
 | _ :: l,i,j+1,u,h,hj=>by
  have:=At.get h.2 (by simpa using hj)
  rwa [show i+(j+1)=i+1+j from by omega]
theorem Own.at_ {w:World} {b:Nat} : ∀ {l:List Value} {i:Nat},Own w b i l→At w b i l
 | [],_,_=>trivial
 | _ :: _,_,h=>⟨h.1.1,Own.at_ h.2⟩
theorem pv_lit {w:World} {b n:Nat} {cs:List Value} {l:List (Rat×Rat)} (h:Own w b 0 cs) (hc:cs=pts l) (hn:l.length=n∧n≤1000):PV w (.slice (some ⟨b,0,none⟩) n n) l:=by
 obtain ⟨rfl,hm⟩:=hn;subst hc;exact ⟨pts_length l,.inr ⟨b,0,_,rfl,Nat.le_refl _,by simp [maxLen];omega,fun j u hj=>by simpa using At.get h.at_ hj⟩⟩
theorem on2_any {j k:Nat} (p a b:Rat×Rat) (w:World) (hs:Pl.SzS j (a,b)) (hp:Pl.SzP k p) (hj:j≤100000) (hk:k≤100000) :
 Calls Tryz.prog 53 #[pv p,.agg #[.bool (ng a.1.num),.string (mg a.1.num.natAbs),.bool false,.string (mg (dn a.1)),.bool (ng a.2.num),.string (mg a.2.num.natAbs),.bool false,.string (mg (dn a.2)),.bool (ng b.1.num),.string (mg b.1.num.natAbs),.bool false,.string (mg (dn b.1)),.bool (ng b.2.num),.string (mg b.2.num.natAbs),.bool false,.string (mg (dn b.2))]] w fun e w'=>e=.returned (.bool (Pl.onSeg p a b))∧Below w.heap.size w w':=on_any p (a,b) w hs hp hj hk
theorem sgn3 {a b p:Rat×Rat} {t:Int} (h:Pl.turn a b p=t):t=-1∨t=0∨t=1:=h▸Pl.turn3 a b p
theorem eqP_zero (p:Rat×Rat) (w:World):(Op.equalIn 10000 35 (pv p) (.agg #[.bool false,.string ⟨#[]⟩,.bool false,.string ⟨#[]⟩,.bool false,.string ⟨#[]⟩,.bool false,.string ⟨#[]⟩])).run Tryz.prog w=.ok (decide (p=((0:Rat),(0:Rat)))) w:=eqP_in p (0,0) w
theorem eqQ_zero (a:Rat) (w:World):(Op.equalIn 10000 33 (.agg #[.bool (ng a.num),.string (mg a.num.natAbs),.bool false,.string (mg (dn a))]) (.agg #[.bool false,.string ⟨#[]⟩,.bool false,.string ⟨#[]⟩])).run Tryz.prog w=.ok (decide (a=(0:Rat))) w:=eqQ_in a 0 w
theorem sgn_three (q:Rat):Pl.sgn q=-1∨Pl.sgn q=0∨Pl.sgn q=1:=by
 unfold Pl.sgn;rcases Int.lt_trichotomy q.num 0 with h|h|h
 ·exact .inl (Int.sign_eq_neg_one_of_neg h)
 ·exact .inr (.inl (by rw [h];rfl))
 ·exact .inr (.inr (Int.sign_eq_one_of_pos h))
theorem sgnQ {a b:Rat} {t:Int} (h:Pl.cmpQ a b=t):t=-1∨t=0∨t=1:=h▸sgn_three _
theorem remS (k N m:Nat) (h:m=(k+1)%N) (hN:N≤1000000000) (hk:k≤1000000000):((k:Int)+1).tmod N=m∧((k:Int)+1)%N=m∧IntKind.i64.wrap ((k:Int)+1)=k+1∧wrap64 ((k:Int)+1)=k+1∧IntKind.i64.wrap (m:Int)=m∧wrap64 (m:Int)=m:=by
 have h1:((k:Int)+1).tmod N=m:=by rw [h];rfl
 have h2:((k:Int)+1)%N=m:=by rw [h];rfl
 have hm:m≤1000000001:=by rw [h];exact Nat.le_trans (Nat.mod_le _ _) (by omega)
 refine ⟨h1,h2,?_,?_,?_,?_⟩
 ·simp [IntKind.wrap,IntKind.bits,IntKind.signed];omega
 ·unfold wrap64;omega
 ·simp [IntKind.wrap,IntKind.bits,IntKind.signed];omega
 ·unfold wrap64;omega
end Go.Proofs.YtdkkjfnpinckjaaGreatDoor
