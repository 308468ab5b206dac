/-
 The reference for polygons: whether a ring is simple.
-/
import Derived.Test.YtiochgoocbkckaaGreatDoorAPu2
import Derived.Test.YtiochgoocbkckaaGreatDoorAgax
import Derived.Test.YtiochgoocbkckaaGreatDoorAgbs
set_option maxRecDepth 100000
set_option linter.unusedSimpArgs false
set_option linter.unusedVariables false
namespace Go.Proofs.YtiochgoocbkckaaGreatDoor
open Go Go.RowKit

theorem vx_sz {S:Nat} {l:List (Rat×Rat)} (hs:∀ q∈l,Pl.SzP S q) (hl:0<l.length) (j:Nat):Pl.SzP S (Pg.vx l j):=hs _ (Pg.ringE_mem (Pg.ringE_any hl j)).1
theorem badR_eq {l:List (Rat×Rat)} {i k:Nat} {a b c d:Rat×Rat} (ha:Pg.vx l i=a) (hb:Pg.vx l (i+1)=b) (hc:Pg.vx l k=c) (hd:Pg.vx l (k+1)=d):Pg.badR l i k=if k=i+1∧(Pg.onR d a b||Pg.onR a c d)=true then true else if i=0∧k+1=l.length∧(Pg.onR c a b||Pg.onR b c d)=true then true
 else if k=i+1∨i=0∧k+1=l.length then false else Pg.meetR a b c d:=by subst ha;subst hb;subst hc;subst hd;rfl
theorem four_k {α:Type} {a b c d:α} {Q:Nat→α→Prop} (h0:Q 0 a) (h1:Q 1 b) (h2:Q 2 c) (h3:Q 3 d):∀ (k:Nat) (x:α),[a,b,c,d][k]?=some x→Q k x:=fun k x h=>by
 match k with
 | 0=>simp at h;subst h;exact h0
 | 1=>simp at h;subst h;exact h1
 | 2=>simp at h;subst h;exact h2
 | 3=>simp at h;subst h;exact h3
 | k+4=>simp at h
theorem four_m {α:Type} {a b c d:α} {Q:α→Prop} (h0:Q a) (h1:Q b) (h2:Q c) (h3:Q d):∀ x∈[a,b,c,d],Q x:=fun x h=>by
 simp only [List.mem_cons,List.not_mem_nil,or_false] at h;rcases h with rfl|rfl|rfl|rfl
 ·exact h0
 ·exact h1
 ·exact h2
 ·exact h3
def zP:List Value:=[.bool false,.string ⟨#[]⟩,.bool false,.string ⟨#[]⟩,.bool false,.string ⟨#[]⟩,.bool false,.string ⟨#[]⟩]
theorem wp_region_new4P {id:Nat} {Q:Exit→Act→World→Prop} {a:Act} {w:World} {l:List Oper} (n i1 i2 i3 i4 d1 d2 d3 d4 y1 y2 y3 y4:Nat) (hlen:l.length=n+4)
 (hB:newsB l n [(i1,d1,n+0,some y1),(i2,d2,n+1,some y2),(i3,d3,n+2,some y3),(i4,d4,n+3,some y4)]=true)
 (hal1:(l[i1]?).map (fun o=>(allocT o,o.guard.isNone,o.dst))=some (some 45,true,some d1))
 (hal2:(l[i2]?).map (fun o=>(allocT o,o.guard.isNone,o.dst))=some (some 45,true,some d2))
 (hal3:(l[i3]?).map (fun o=>(allocT o,o.guard.isNone,o.dst))=some (some 45,true,some d3))
 (hal4:(l[i4]?).map (fun o=>(allocT o,o.guard.isNone,o.dst))=some (some 45,true,some d4))
 (hst1:∃ o,l[n+0]?=some o∧o.op=.store 45 (.tmp d1) (.tmp y1)∧o.guard=none∧o.dst=none)
 (hst2:∃ o,l[n+1]?=some o∧o.op=.store 45 (.tmp d2) (.tmp y2)∧o.guard=none∧o.dst=none)
 (hst3:∃ o,l[n+2]?=some o∧o.op=.store 45 (.tmp d3) (.tmp y3)∧o.guard=none∧o.dst=none)
 (hst4:∃ o,l[n+3]?=some o∧o.op=.store 45 (.tmp d4) (.tmp y4)∧o.guard=none∧o.dst=none)
 (hsz:d1<a.tmps.size∧d2<a.tmps.size∧d3<a.tmps.size∧d4<a.tmps.size)
 (h:∀ V,Below w.heap.size w V→wpQuiet Tryz.prog (l.map maskS).toArray (fun w'=>∃ p:Bel V,w'=p.w1)
  (fun aq=>∃ p1 p2 p3 p4:Rat×Rat,aq.eval (.tmp y1)=pv p1∧aq.eval (.tmp y2)=pv p2∧aq.eval (.tmp y3)=pv p3∧aq.eval (.tmp y4)=pv p4 ∧
   ∀ b1 b2 b3 b4 w',Below w.heap.size w w'→(w.heap.size≤b1∧w.heap.size≤b2∧w.heap.size≤b3∧w.heap.size≤b4)→(b1<w'.heap.size∧b2<w'.heap.size∧b3<w'.heap.size∧b4<w'.heap.size)→(b1≠b2∧b1≠b3∧b1≠b4∧b2≠b3∧b2≠b4∧b3≠b4) →
    Own w' b1 0 (pcells p1)→Own w' b2 0 (pcells p2)→Own w' b3 0 (pcells p3)→Own w' b4 0 (pcells p4) →
    Q .normal ((((aq.put (some d1) (.pointer (some ⟨b1,0,none⟩))).put (some d2) (.pointer (some ⟨b2,0,none⟩))).put (some d3) (.pointer (some ⟨b3,0,none⟩))).put (some d4) (.pointer (some ⟨b4,0,none⟩))) w') ((l.map maskS).take n) a):(Code.region id l.toArray true).wp Tryz.prog Q a w:=by
 refine wp_region_newN n [⟨i1,d1,zP,45,n+0,.tmp y1⟩,⟨i2,d2,zP,45,n+1,.tmp y2⟩,⟨i3,d3,zP,45,n+2,.tmp y3⟩,⟨i4,d4,zP,45,n+3,.tmp y4⟩] (by kernel_rfl) hlen hB (four_m hal1 hal2 hal3 hal4) ?_ (four_m hsz.1 hsz.2.1 hsz.2.2.1 hsz.2.2.2) ?_ ?_ fun V hV=>wpQuiet_mono' (fun aq hq => ?_) (h V hV)
 ·refine four_k ?_ ?_ ?_ ?_
  ·obtain ⟨o,q1,q2,q3,q4⟩:=hst1;exact ⟨o,q1,q2,q3,q4,rfl⟩
  ·obtain ⟨o,q1,q2,q3,q4⟩:=hst2;exact ⟨o,q1,q2,q3,q4,rfl⟩
  ·obtain ⟨o,q1,q2,q3,q4⟩:=hst3;exact ⟨o,q1,q2,q3,q4,rfl⟩
  ·obtain ⟨o,q1,q2,q3,q4⟩:=hst4;exact ⟨o,q1,q2,q3,q4,rfl⟩
 ·have hz:∀ w,(Instr.alloc 45 true (.tuple #[])).run Tryz.prog w=.ok (.pointer (some ⟨w.heap.size,0,none⟩)) (w.alloc (.cells zP.toArray 45)):=run_alloc_zero Tryz.zeroValue45 rfl
  exact four_m hz hz hz hz
 ·have hi:(Tryz.prog.info? 45).map (·.size)=some zP.length:=by kernel_rfl
  exact four_m hi hi hi hi
 ·obtain ⟨p1,p2,p3,p4,e1,e2,e3,e4,hgo⟩:=hq
  have one:∀ p:Rat×Rat,∀ u∈pcells p,u.oneCell'=true:=fun p u hu=>by
   simp only [pcells,List.mem_cons,List.not_mem_nil,or_false] at hu;rcases hu with rfl|rfl|rfl|rfl|rfl|rfl|rfl|rfl<;>rfl
  have fit:∀ {y:Nat} {p:Rat×Rat},aq.eval (.tmp y)=pv p→(aq.eval (.tmp y)).cells=(pcells p).toArray∧zP.length=(pcells p).length∧∀ u∈pcells p,u.oneCell'=true:=fun h=>⟨by rw [h];rfl,rfl,one _⟩
  refine ⟨[pcells p1,pcells p2,pcells p3,pcells p4],rfl,?_,fun bs w' hb hl hn hbs => ?_⟩
  ·intro k x vs hx hv
   match k with
   | 0=>simp at hx hv;subst hx;subst hv;exact fit e1
   | 1=>simp at hx hv;subst hx;subst hv;exact fit e2
   | 2=>simp at hx hv;subst hx;subst hv;exact fit e3
   | 3=>simp at hx hv;subst hx;subst hv;exact fit e4
   | k+4=>simp at hx
  ·match bs,hl with
   | [b1,b2,b3,b4],_ =>
    obtain ⟨a1,a2,a3⟩:=hbs 0 b1 _ rfl rfl;obtain ⟨c1,c2,c3⟩:=hbs 1 b2 _ rfl rfl;obtain ⟨f1,f2,f3⟩:=hbs 2 b3 _ rfl rfl;obtain ⟨g1,g2,g3⟩:=hbs 3 b4 _ rfl rfl;simp only [List.nodup_cons,List.mem_cons,List.not_mem_nil,or_false,not_or,List.nodup_nil,and_true,not_false_eq_true] at hn;exact hgo b1 b2 b3 b4 w' hb ⟨a1,c1,f1,g1⟩ ⟨a2,c2,f2,g2⟩ ⟨hn.1.1,hn.1.2.1,hn.1.2.2,hn.2.1.1,hn.2.1.2,hn.2.2⟩ a3 c3 f3 g3

set_option maxHeartbeats 8000000 in
theorem rsimple_any {S:Nat} (v:Value) (l:List (Rat×Rat)) (w:World) (h:PV w v l) (hs:∀ q∈l,Pl.SzP S q) (hn:l.length≤1000) (hS:S≤1000) :
 Calls Tryz.prog 56 #[v] w fun e w'=>e=.returned (.bool (Pg.simB Pg.badR l))∧Below w.heap.size w w':=by
 obtain ⟨A,c,rfl,hc,hm,hx⟩:=h.open_;have HV:=Lib.hid h;have HX:=Lib.hid hx;have HS:=Lib.hid hs;have HF:Hid (l.take l.length=l):=Lib.hid List.take_length;generalize hN:l.length=N at *;have HN:=Lib.hid hN;clear h hx hs hN;go_enter Tryz.func56,Tryz.ntmps56
 by_cases hc1:(N:Int)<3
 ·skip
  have hc1_d:decide ((N:Int)<3)=true:=decide_eq_true hc1;have hc1_:¬ ((3:Int)≤N):=by omega
  go_wp2;go_ret;refine ⟨(by rw [Pg.sim_short (by have:=hc1;rw [HN.out];omega)]<;>rfl),?_⟩;exact bB
 ·skip
  have hc1_d:decide ((N:Int)<3)=false:=decide_eq_false hc1;have hc1_:((3:Int)≤N):=by omega
  go_wp2_with fail;go_loopw [4] (fun s4 wr=>∃ (i1:Nat),s4=.int .i64 i1∧Below w.heap.size w wr∧i1≤N∧Hid (∀ i,i<i1→Pg.vx l i≠Pg.vx l (i+1))) (fun s4 _=>N-(intOf s4).toNat)
  case atStart=>exact ⟨0,rfl,Below.refl _ _,(by omega),Lib.hid (fun i hi=>absurd hi (Nat.not_lt_zero _))⟩
  case round =>
   obtain ⟨i1,rfl,hB2,hk,HC⟩:=hrel;obtain ⟨wr3,hwr3⟩:∃ W_,W_=wr:=⟨_,rfl⟩
   subst hwr3
   by_cases hlti1:i1<N
   ·skip
    have i1i1:(i1:Int)<N:=by omega
    obtain ⟨x4,hx5⟩:∃ x,l[i1]?=some x:=⟨_,List.getElem?_eq_getElem (by rw [HN.out];omega)⟩
    have Hhx5:=Lib.hid hx5;have Zhx5:=Lib.hid (HS.out _ (List.mem_of_getElem? hx5));clear hx5
    by_cases hq7:x4=(Pg.vx l (i1+1))
    ·skip
     have EQhq7:=fun W=>eqP_in x4 (Pg.vx l (i1+1)) W
     rw [decide_eq_true hq7] at EQhq7;have Hhq7:=Lib.hid hq7;clear hq7;have K8:=Lib.hid (fun W (hW:PV W (.slice A N c) l)=>rnext_any _ l i1 W hW HS.out (by rw [HN.out];omega) (by omega) (by rw [HN.out];omega));go_wp2_with fail;refine wp_named ?_;intro W1 hW1;have hL1:Below wr3.heap.size wr3 W1:=by rw [hW1];exact bB
     have hB9:Below w.heap.size w W1:=by rw [hW1];exact bB
     clear hW1 hL1;obtain ⟨g11,o12,ha13,-⟩:=(HX.out).up kpP hB9 _ _ Hhx5.out;subst ha13;have ce10:=LX.at_ ((HX.out).up kpP hB9) Hhx5.out;have ce10_:g11<W1.heap.size:=World.block_lt_of_cell? _ _ ce10.1;have dce10:=fun b:Bel W1=>ce10.bel b
     simp only [CE,Nat.reduceMul] at dce10;refine wp_region_all (by kernel_rfl) (by kernel_rfl) ?_;repeat (go_big_quiet_step (first|(go_at_call 74;with_reducible exact Calls.bel (K8.out _ ((HV.out.up hB9).up (Bel.h _))))))
     refine wpQuiet_nil ?_;intro w1 hb1;have hB14:Below w.heap.size w w1:=bel_up hB9 hb1;clear dce10;go_wp2;go_ret;refine ⟨(by rw [Pg.sim_same (i:=i1) (by rw [HN.out];omega) ((Pg.vx_some (by rw [HN.out,Nat.mod_eq_of_lt (by omega)];exact Hhx5.out)).trans Hhq7.out)]<;>rfl),?_⟩;exact bB
    ·skip
     have EQhq7:=fun W=>eqP_in x4 (Pg.vx l (i1+1)) W
     rw [decide_eq_false hq7] at EQhq7;have Hhq7:=Lib.hid hq7;clear hq7;have K15:=Lib.hid (fun W (hW:PV W (.slice A N c) l)=>rnext_any _ l i1 W hW HS.out (by rw [HN.out];omega) (by omega) (by rw [HN.out];omega));go_wp2_with fail;refine wp_named ?_;intro W2 hW2;have hL2:Below wr3.heap.size wr3 W2:=by rw [hW2];exact bB
     have hB16:Below w.heap.size w W2:=by rw [hW2];exact bB
     clear hW2 hL2;obtain ⟨g18,o19,ha20,-⟩:=(HX.out).up kpP hB16 _ _ Hhx5.out;subst ha20;have ce17:=LX.at_ ((HX.out).up kpP hB16) Hhx5.out;have ce17_:g18<W2.heap.size:=World.block_lt_of_cell? _ _ ce17.1;have dce17:=fun b:Bel W2=>ce17.bel b
     simp only [CE,Nat.reduceMul] at dce17;refine wp_region_all (by kernel_rfl) (by kernel_rfl) ?_;repeat (go_big_quiet_step (first|(go_at_call 74;with_reducible exact Calls.bel (K15.out _ ((HV.out.up hB16).up (Bel.h _))))))
     refine wpQuiet_nil ?_;intro w2 hb2;have hB21:Below w.heap.size w w2:=bel_up hB16 hb2;clear dce17;go_wp2;go_roundw
     case rel=>exact ⟨(i1+1),(by first|rfl|exact congrArg (Value.int .i64) (by omega)|simp [*]),(by exact bB),(by omega),Lib.hid (fun i hi=>by rcases Nat.lt_or_eq_of_le (Nat.le_of_lt_succ hi) with h_|h_;exact HC.out i h_;(subst h_;exact fun e_=>Hhq7.out ((Pg.vx_some (by rw [HN.out,Nat.mod_eq_of_lt (by omega)];exact Hhx5.out)).symm.trans e_)))⟩
     case measure=>simp [intOf]<;>omega
   ·skip
    have hkN:N=i1:=by omega
    subst hkN;have HD:Hid (∀ i,i<l.length→Pg.vx l i≠Pg.vx l (i+1)):=Lib.hid (fun i hi=>HC.out i (by rw [HN.out] at hi;exact hi));clear HC;go_wp2_with fail;go_loopw [5] (fun s5 wr=>∃ (i:Nat),s5=.int .i64 i∧Below w.heap.size w wr∧i≤N∧Hid (∀ j,j<i→∀ k,j<k→k<l.length→Pg.badR l j k=false)) (fun s5 _=>N-(intOf s5).toNat)
    case atStart=>exact ⟨0,rfl,hB2,(by omega),Lib.hid (fun j hj=>absurd hj (Nat.not_lt_zero _))⟩
    case round =>
     clear hB2;obtain ⟨i,rfl,hB22,hi,HE⟩:=hrel;obtain ⟨wr23,hwr23⟩:∃ W_,W_=wr:=⟨_,rfl⟩
     subst hwr23
     by_cases hlti:i<N
     ·skip
      have i1i:(i:Int)<N:=by omega
      obtain ⟨x24,hx25⟩:∃ x,l[i]?=some x:=⟨_,List.getElem?_eq_getElem (by rw [HN.out];omega)⟩
      have Hhx25:=Lib.hid hx25;have Zhx25:=Lib.hid (HS.out _ (List.mem_of_getElem? hx25));clear hx25;go_wp2_with fail;go_loopw [6] (fun s6 wr=>∃ (k:Nat),s6=.int .i64 k∧Below w.heap.size w wr∧(i<k∧k≤N)∧Hid (∀ j,i<j→j<k→Pg.badR l i j=false)) (fun s6 _=>N-(intOf s6).toNat)
      case atStart=>exact ⟨(i+1),rfl,hB22,⟨by omega,by omega⟩,Lib.hid (fun j h1 h2=>absurd h2 (by omega))⟩
      case round =>
       clear hB22;obtain ⟨k,rfl,hB26,hk,HI⟩:=hrel;obtain ⟨wr27,hwr27⟩:∃ W_,W_=wr:=⟨_,rfl⟩
       subst hwr27
       by_cases hltk:k<N
       ·skip
        have i1k:(k:Int)<N:=by omega
        obtain ⟨x28,hx29⟩:∃ x,l[k]?=some x:=⟨_,List.getElem?_eq_getElem (by rw [HN.out];omega)⟩
        have Hhx29:=Lib.hid hx29;have Zhx29:=Lib.hid (HS.out _ (List.mem_of_getElem? hx29));clear hx29;go_upto_region 15 with fail
        refine wp_named ?_;intro W3 hW3;have hL3:Below wr27.heap.size wr27 W3:=by rw [hW3];exact bB
        have hB30:Below w.heap.size w W3:=by rw [hW3];exact bB
        clear hW3 hL3;have K32:=Lib.hid (fun W (hW:PV W (.slice A N c) l)=>rnext_any _ l i W hW HS.out (by rw [HN.out];omega) (by omega) (by rw [HN.out];omega));have K33:=Lib.hid (fun W (hW:PV W (.slice A N c) l)=>rnext_any _ l k W hW HS.out (by rw [HN.out];omega) (by omega) (by rw [HN.out];omega));obtain ⟨g35,o36,ha37,-⟩:=(HX.out).up kpP hB30 _ _ Hhx25.out;subst ha37;have ce34:=LX.at_ ((HX.out).up kpP hB30) Hhx25.out;have ce34_:g35<W3.heap.size:=World.block_lt_of_cell? _ _ ce34.1;have ce38:=LX.at_ ((HX.out).up kpP hB30) Hhx29.out;have ce38_:g35<W3.heap.size:=World.block_lt_of_cell? _ _ ce38.1;refine wp_region_new4P 18 14 15 16 17 7 8 9 10 43 46 50 53 rfl (by kernel_rfl) rfl rfl rfl rfl ⟨_,rfl,rfl,rfl,rfl⟩ ⟨_,rfl,rfl,rfl,rfl⟩ ⟨_,rfl,rfl,rfl,rfl⟩ ⟨_,rfl,rfl,rfl,rfl⟩ (by simp) ?_;intro V_31 hV_31;have vce34:=ce34.up hV_31;have dce34:=fun b:Bel V_31=>vce34.bel b
        simp only [CE,Nat.reduceMul] at dce34;have vce38:=ce38.up hV_31;have dce38:=fun b:Bel V_31=>vce38.bel b
        simp only [CE,Nat.reduceMul] at dce38;have hBV_31:=bel_up hB30 hV_31;simp only [maskS,List.map_cons,List.map_nil,List.take_succ_cons,List.take_zero];repeat (go_big_quiet_step (first|(go_at_call 74;with_reducible exact Calls.bel (K32.out _ ((HV.out.up hBV_31).up (Bel.h _))))|(go_at_call 74;with_reducible exact Calls.bel (K33.out _ ((HV.out.up hBV_31).up (Bel.h _))))))
        refine wpQuiet_nil ?_;refine ⟨x24,(Pg.vx l (i+1)),x28,(Pg.vx l (k+1)),rfl,rfl,rfl,rfl,?_⟩;intro bq39 bq40 bq41 bq42 wn_31 hbn_31 hl4_31 hm4_31 hn4_31 c43 c44 c45 c46;obtain ⟨lbq39,lbq40,lbq41,lbq42⟩:=hl4_31;obtain ⟨mbq39,mbq40,mbq41,mbq42⟩:=hm4_31;obtain ⟨nbq39_bq40,nbq39_bq41,nbq39_bq42,nbq40_bq41,nbq40_bq42,nbq41_bq42⟩:=hn4_31;simp only [pcells] at c43 c44 c45 c46;simp only [Act.put,List.setIfInBounds_toArray,List.set_cons_zero,List.set_cons_succ];have nbq39_bq40':=nbq39_bq40.symm;have nbq39_bq41':=nbq39_bq41.symm;have nbq39_bq42':=nbq39_bq42.symm;have nbq40_bq41':=nbq40_bq41.symm;have nbq40_bq42':=nbq40_bq42.symm;have nbq41_bq42':=nbq41_bq42.symm;have wbq39:=Nat.le_trans (hB30).size lbq39;have wbq40:=Nat.le_trans (hB30).size lbq40;have wbq41:=Nat.le_trans (hB30).size lbq41;have wbq42:=Nat.le_trans (hB30).size lbq42;clear hBV_31 dce38 vce38 dce34 vce34 hV_31 V_31;have hB47:Below w.heap.size w wn_31:=bel_up hB30 hbn_31;have uc43:=c43;have uc44:=c44;have uc45:=c45;have uc46:=c46;simp only [At,Own,Nat.reduceAdd,and_true] at uc43 uc44 uc45 uc46;have kK48:=fun W=>ron_any (Pg.vx l (k+1)) x24 (Pg.vx l (i+1)) W (vx_sz HS.out (by rw [HN.out];omega) _) Zhx25.out (vx_sz HS.out (by rw [HN.out];omega) _) (by omega)
        generalize hT50:Pg.onR (Pg.vx l (k+1)) x24 (Pg.vx l (i+1))=b49 at kK48;have K48:=Lib.hid kK48;clear kK48;have HhT50:=Lib.hid hT50;clear hT50;have kK51:=fun W=>ron_any x24 x28 (Pg.vx l (k+1)) W Zhx25.out Zhx29.out (vx_sz HS.out (by rw [HN.out];omega) _) (by omega)
        generalize hT53:Pg.onR x24 x28 (Pg.vx l (k+1))=b52 at kK51;have K51:=Lib.hid kK51;clear kK51;have HhT53:=Lib.hid hT53;clear hT53
        by_cases hc54:(k:Int)=(i+1)
        ·skip
         have hc54_:(((k:Int))==(i+1))=true:=by simpa using hc54
         have Hhc54:=Lib.hid hc54;clear hc54;cases b49
         ·skip
          go_wp2_with (fail)
          refine calls_named ?_;intro W5 hW5;have hL5:Below wn_31.heap.size wn_31 W5:=by rw [hW5];exact bB
          have c65:=c43.up hL5;have c66:=c44.up hL5;have c67:=c45.up hL5;have c68:=c46.up hL5;have hB69:Below w.heap.size w W5:=by rw [hW5];exact bB
          clear hW5 hL5 uc43 uc44 uc45 uc46 c43 c44 c45 c46;with_reducible refine (K48.out _).mono ?_
          rintro e w5 ⟨rfl,hb5⟩;have c70:=c65.up hb5;have c71:=c66.up hb5;have c72:=c67.up hb5;have c73:=c68.up hb5;have hB74:Below w.heap.size w w5:=bel_up hB69 hb5;clear c65 c66 c67 c68;have uc70:=c70;have uc71:=c71;have uc72:=c72;have uc73:=c73;simp only [At,Own,Nat.reduceAdd,and_true] at uc70 uc71 uc72 uc73;go_wp2_with (fail)
          refine calls_named ?_;intro W6 hW6;have hL6:Below w5.heap.size w5 W6:=by rw [hW6];exact bB
          have c75:=c70.up hL6;have c76:=c71.up hL6;have c77:=c72.up hL6;have c78:=c73.up hL6;have hB79:Below w.heap.size w W6:=by rw [hW6];exact bB
          clear hW6 hL6 uc70 uc71 uc72 uc73 c70 c71 c72 c73;with_reducible refine (K51.out _).mono ?_
          rintro e w6 ⟨rfl,hb6⟩;have c80:=c75.up hb6;have c81:=c76.up hb6;have c82:=c77.up hb6;have c83:=c78.up hb6;have hB84:Below w.heap.size w w6:=bel_up hB79 hb6;clear c75 c76 c77 c78;cases b52
          ·skip
           have kK85:=fun W=>ron_any x28 x24 (Pg.vx l (i+1)) W Zhx29.out Zhx25.out (vx_sz HS.out (by rw [HN.out];omega) _) (by omega)
           generalize hT87:Pg.onR x28 x24 (Pg.vx l (i+1))=b86 at kK85;have K85:=Lib.hid kK85;clear kK85;have HhT87:=Lib.hid hT87;clear hT87;have kK88:=fun W=>ron_any (Pg.vx l (i+1)) x28 (Pg.vx l (k+1)) W (vx_sz HS.out (by rw [HN.out];omega) _) Zhx29.out (vx_sz HS.out (by rw [HN.out];omega) _) (by omega)
           generalize hT90:Pg.onR (Pg.vx l (i+1)) x28 (Pg.vx l (k+1))=b89 at kK88;have K88:=Lib.hid kK88;clear kK88;have HhT90:=Lib.hid hT90;clear hT90
           by_cases hc91:(i:Int)=0
           ·skip
            have hc91_:(((i:Int))==0)=true:=by simpa using hc91
            have Hhc91:=Lib.hid hc91;clear hc91
            by_cases hc92:(k:Int)=(N-1)
            ·skip
             have hc92_:(((k:Int))==(N-1))=true:=by simpa using hc92
             have Hhc92:=Lib.hid hc92;clear hc92;cases b86
             ·skip
              have uc80:=c80;have uc81:=c81;have uc82:=c82;have uc83:=c83;simp only [At,Own,Nat.reduceAdd,and_true] at uc80 uc81 uc82 uc83;go_wp2_with (fail)
              refine calls_named ?_;intro W8 hW8;have hL8:Below w6.heap.size w6 W8:=by rw [hW8];exact bB
              have c103:=c80.up hL8;have c104:=c81.up hL8;have c105:=c82.up hL8;have c106:=c83.up hL8;have hB107:Below w.heap.size w W8:=by rw [hW8];exact bB
              clear hW8 hL8 uc80 uc81 uc82 uc83 c80 c81 c82 c83;with_reducible refine (K85.out _).mono ?_
              rintro e w8 ⟨rfl,hb8⟩;have c108:=c103.up hb8;have c109:=c104.up hb8;have c110:=c105.up hb8;have c111:=c106.up hb8;have hB112:Below w.heap.size w w8:=bel_up hB107 hb8;clear c103 c104 c105 c106;have uc108:=c108;have uc109:=c109;have uc110:=c110;have uc111:=c111;simp only [At,Own,Nat.reduceAdd,and_true] at uc108 uc109 uc110 uc111;go_wp2_with (fail)
              refine calls_named ?_;intro W9 hW9;have hL9:Below w8.heap.size w8 W9:=by rw [hW9];exact bB
              have c113:=c108.up hL9;have c114:=c109.up hL9;have c115:=c110.up hL9;have c116:=c111.up hL9;have hB117:Below w.heap.size w W9:=by rw [hW9];exact bB
              clear hW9 hL9 uc108 uc109 uc110 uc111 c108 c109 c110 c111;with_reducible refine (K88.out _).mono ?_
              rintro e w9 ⟨rfl,hb9⟩;have c118:=c113.up hb9;have c119:=c114.up hb9;have c120:=c115.up hb9;have c121:=c116.up hb9;have hB122:Below w.heap.size w w9:=bel_up hB117 hb9;clear c113 c114 c115 c116;cases b89
              ·skip
               have uc118:=c118;have uc119:=c119;have uc120:=c120;have uc121:=c121;simp only [At,Own,Nat.reduceAdd,and_true] at uc118 uc119 uc120 uc121;go_wp2;go_roundw
               case rel=>exact ⟨(k+1),(by first|rfl|exact congrArg (Value.int .i64) (by omega)|simp [*]),(by exact bB),⟨by omega,by omega⟩,Lib.hid (fun j h1 h2=>by rcases Nat.lt_or_eq_of_le (Nat.le_of_lt_succ h2) with h_|h_;exact HI.out j h1 h_;(rw [h_];exact (by exfalso;have e1:=HN.out;have q0:=hc1;have q1:=Hhc54.out;have q2:=Hhc91.out;have q3:=Hhc92.out;omega)))⟩
               case measure=>simp [intOf]<;>omega
              ·skip
               have uc118:=c118;have uc119:=c119;have uc120:=c120;have uc121:=c121;simp only [At,Own,Nat.reduceAdd,and_true] at uc118 uc119 uc120 uc121;go_wp2;go_ret;refine ⟨(by exfalso;have e1:=HN.out;have q0:=hc1;have q1:=Hhc54.out;have q2:=Hhc91.out;have q3:=Hhc92.out;omega),?_⟩;exact bB
             ·skip
              have uc80:=c80;have uc81:=c81;have uc82:=c82;have uc83:=c83;simp only [At,Own,Nat.reduceAdd,and_true] at uc80 uc81 uc82 uc83;go_wp2_with (fail)
              refine calls_named ?_;intro W10 hW10;have hL10:Below w6.heap.size w6 W10:=by rw [hW10];exact bB
              have c123:=c80.up hL10;have c124:=c81.up hL10;have c125:=c82.up hL10;have c126:=c83.up hL10;have hB127:Below w.heap.size w W10:=by rw [hW10];exact bB
              clear hW10 hL10 uc80 uc81 uc82 uc83 c80 c81 c82 c83;with_reducible refine (K85.out _).mono ?_
              rintro e w10 ⟨rfl,hb10⟩;have c128:=c123.up hb10;have c129:=c124.up hb10;have c130:=c125.up hb10;have c131:=c126.up hb10;have hB132:Below w.heap.size w w10:=bel_up hB127 hb10;clear c123 c124 c125 c126;have uc128:=c128;have uc129:=c129;have uc130:=c130;have uc131:=c131;simp only [At,Own,Nat.reduceAdd,and_true] at uc128 uc129 uc130 uc131;go_wp2;go_ret;refine ⟨(by exfalso;have e1:=HN.out;have q0:=hc1;have q1:=Hhc54.out;have q2:=Hhc91.out;have q3:=Hhc92.out;omega),?_⟩;exact bB
            ·skip
             have hc92_:(((k:Int))==(N-1))=false:=by simpa using hc92
             have uc80:=c80;have uc81:=c81;have uc82:=c82;have uc83:=c83;simp only [At,Own,Nat.reduceAdd,and_true] at uc80 uc81 uc82 uc83;go_wp2;go_roundw
             case rel=>exact ⟨(k+1),(by first|rfl|exact congrArg (Value.int .i64) (by omega)|simp [*]),(by exact bB),⟨by omega,by omega⟩,Lib.hid (fun j h1 h2=>by rcases Nat.lt_or_eq_of_le (Nat.le_of_lt_succ h2) with h_|h_;exact HI.out j h1 h_;(rw [h_];exact (by rw [badR_eq (a:=x24) (b:=(Pg.vx l (i+1))) (c:=x28) (d:=(Pg.vx l (k+1))) (Pg.vx_some (by rw [HN.out,Nat.mod_eq_of_lt (by omega)];exact Hhx25.out)) rfl (Pg.vx_some (by rw [HN.out,Nat.mod_eq_of_lt (by omega)];exact Hhx29.out)) rfl];rw [if_neg (fun h_=>by have z:=h_.2;rw [HhT50.out,HhT53.out] at z;exact absurd z (by decide))];rw [if_neg (fun h_=>by have z:=h_.1;have z2:=h_.2.1;have e1:=HN.out;have q0:=hc1;have q1:=Hhc54.out;have q2:=Hhc91.out;have q3:=hc92;omega)];rw [if_pos (by have e1:=HN.out;have q0:=hc1;have q1:=Hhc54.out;have q2:=Hhc91.out;have q3:=hc92;omega)])))⟩
             case measure=>simp [intOf]<;>omega
           ·skip
            have hc91_:(((i:Int))==0)=false:=by simpa using hc91
            have uc80:=c80;have uc81:=c81;have uc82:=c82;have uc83:=c83;simp only [At,Own,Nat.reduceAdd,and_true] at uc80 uc81 uc82 uc83;go_wp2;go_roundw
            case rel=>exact ⟨(k+1),(by first|rfl|exact congrArg (Value.int .i64) (by omega)|simp [*]),(by exact bB),⟨by omega,by omega⟩,Lib.hid (fun j h1 h2=>by rcases Nat.lt_or_eq_of_le (Nat.le_of_lt_succ h2) with h_|h_;exact HI.out j h1 h_;(rw [h_];exact (by rw [badR_eq (a:=x24) (b:=(Pg.vx l (i+1))) (c:=x28) (d:=(Pg.vx l (k+1))) (Pg.vx_some (by rw [HN.out,Nat.mod_eq_of_lt (by omega)];exact Hhx25.out)) rfl (Pg.vx_some (by rw [HN.out,Nat.mod_eq_of_lt (by omega)];exact Hhx29.out)) rfl];rw [if_neg (fun h_=>by have z:=h_.2;rw [HhT50.out,HhT53.out] at z;exact absurd z (by decide))];rw [if_neg (fun h_=>by have z:=h_.1;have z2:=h_.2.1;have e1:=HN.out;have q0:=hc1;have q1:=Hhc54.out;have q2:=hc91;omega)];rw [if_pos (by have e1:=HN.out;have q0:=hc1;have q1:=Hhc54.out;have q2:=hc91;omega)])))⟩
            case measure=>simp [intOf]<;>omega
          ·skip
           have uc80:=c80;have uc81:=c81;have uc82:=c82;have uc83:=c83;simp only [At,Own,Nat.reduceAdd,and_true] at uc80 uc81 uc82 uc83;go_wp2;go_ret;refine ⟨(by rw [Pg.sim_bad (i:=i) (k:=k) (by omega) (by rw [HN.out];omega) (by rw [badR_eq (a:=x24) (b:=(Pg.vx l (i+1))) (c:=x28) (d:=(Pg.vx l (k+1))) (Pg.vx_some (by rw [HN.out,Nat.mod_eq_of_lt (by omega)];exact Hhx25.out)) rfl (Pg.vx_some (by rw [HN.out,Nat.mod_eq_of_lt (by omega)];exact Hhx29.out)) rfl];rw [if_pos ⟨by have e1:=HN.out;have q0:=hc1;have q1:=Hhc54.out;omega,by rw [HhT50.out,HhT53.out]<;>rfl⟩])]<;>rfl),?_⟩;exact bB
         ·skip
          go_wp2_with (fail)
          refine calls_named ?_;intro W11 hW11;have hL11:Below wn_31.heap.size wn_31 W11:=by rw [hW11];exact bB
          have c133:=c43.up hL11;have c134:=c44.up hL11;have c135:=c45.up hL11;have c136:=c46.up hL11;have hB137:Below w.heap.size w W11:=by rw [hW11];exact bB
          clear hW11 hL11 uc43 uc44 uc45 uc46 c43 c44 c45 c46;with_reducible refine (K48.out _).mono ?_
          rintro e w11 ⟨rfl,hb11⟩;have c138:=c133.up hb11;have c139:=c134.up hb11;have c140:=c135.up hb11;have c141:=c136.up hb11;have hB142:Below w.heap.size w w11:=bel_up hB137 hb11;clear c133 c134 c135 c136;have uc138:=c138;have uc139:=c139;have uc140:=c140;have uc141:=c141;simp only [At,Own,Nat.reduceAdd,and_true] at uc138 uc139 uc140 uc141;go_wp2;go_ret;refine ⟨(by rw [Pg.sim_bad (i:=i) (k:=k) (by omega) (by rw [HN.out];omega) (by rw [badR_eq (a:=x24) (b:=(Pg.vx l (i+1))) (c:=x28) (d:=(Pg.vx l (k+1))) (Pg.vx_some (by rw [HN.out,Nat.mod_eq_of_lt (by omega)];exact Hhx25.out)) rfl (Pg.vx_some (by rw [HN.out,Nat.mod_eq_of_lt (by omega)];exact Hhx29.out)) rfl];rw [if_pos ⟨by have e1:=HN.out;have q0:=hc1;have q1:=Hhc54.out;omega,by rw [HhT50.out,HhT53.out]<;>rfl⟩])]<;>rfl),?_⟩;exact bB
        ·skip
         have hc54_:(((k:Int))==(i+1))=false:=by simpa using hc54
         have kK143:=fun W=>ron_any x28 x24 (Pg.vx l (i+1)) W Zhx29.out Zhx25.out (vx_sz HS.out (by rw [HN.out];omega) _) (by omega)
         generalize hT145:Pg.onR x28 x24 (Pg.vx l (i+1))=b144 at kK143;have K143:=Lib.hid kK143;clear kK143;have HhT145:=Lib.hid hT145;clear hT145;have kK146:=fun W=>ron_any (Pg.vx l (i+1)) x28 (Pg.vx l (k+1)) W (vx_sz HS.out (by rw [HN.out];omega) _) Zhx29.out (vx_sz HS.out (by rw [HN.out];omega) _) (by omega)
         generalize hT148:Pg.onR (Pg.vx l (i+1)) x28 (Pg.vx l (k+1))=b147 at kK146;have K146:=Lib.hid kK146;clear kK146;have HhT148:=Lib.hid hT148;clear hT148
         by_cases hc149:(i:Int)=0
         ·skip
          have hc149_:(((i:Int))==0)=true:=by simpa using hc149
          have Hhc149:=Lib.hid hc149;clear hc149
          by_cases hc150:(k:Int)=(N-1)
          ·skip
           have hc150_:(((k:Int))==(N-1))=true:=by simpa using hc150
           have Hhc150:=Lib.hid hc150;clear hc150;cases b144
           ·skip
            go_wp2_with (fail)
            refine calls_named ?_;intro W13 hW13;have hL13:Below wn_31.heap.size wn_31 W13:=by rw [hW13];exact bB
            have c161:=c43.up hL13;have c162:=c44.up hL13;have c163:=c45.up hL13;have c164:=c46.up hL13;have hB165:Below w.heap.size w W13:=by rw [hW13];exact bB
            clear hW13 hL13 uc43 uc44 uc45 uc46 c43 c44 c45 c46;with_reducible refine (K143.out _).mono ?_
            rintro e w13 ⟨rfl,hb13⟩;have c166:=c161.up hb13;have c167:=c162.up hb13;have c168:=c163.up hb13;have c169:=c164.up hb13;have hB170:Below w.heap.size w w13:=bel_up hB165 hb13;clear c161 c162 c163 c164;have uc166:=c166;have uc167:=c167;have uc168:=c168;have uc169:=c169;simp only [At,Own,Nat.reduceAdd,and_true] at uc166 uc167 uc168 uc169;go_wp2_with (fail)
            refine calls_named ?_;intro W14 hW14;have hL14:Below w13.heap.size w13 W14:=by rw [hW14];exact bB
            have c171:=c166.up hL14;have c172:=c167.up hL14;have c173:=c168.up hL14;have c174:=c169.up hL14;have hB175:Below w.heap.size w W14:=by rw [hW14];exact bB
            clear hW14 hL14 uc166 uc167 uc168 uc169 c166 c167 c168 c169;with_reducible refine (K146.out _).mono ?_
            rintro e w14 ⟨rfl,hb14⟩;have c176:=c171.up hb14;have c177:=c172.up hb14;have c178:=c173.up hb14;have c179:=c174.up hb14;have hB180:Below w.heap.size w w14:=bel_up hB175 hb14;clear c171 c172 c173 c174;cases b147
            ·skip
             have uc176:=c176;have uc177:=c177;have uc178:=c178;have uc179:=c179;simp only [At,Own,Nat.reduceAdd,and_true] at uc176 uc177 uc178 uc179;go_wp2;go_roundw
             case rel=>exact ⟨(k+1),(by first|rfl|exact congrArg (Value.int .i64) (by omega)|simp [*]),(by exact bB),⟨by omega,by omega⟩,Lib.hid (fun j h1 h2=>by rcases Nat.lt_or_eq_of_le (Nat.le_of_lt_succ h2) with h_|h_;exact HI.out j h1 h_;(rw [h_];exact (by rw [badR_eq (a:=x24) (b:=(Pg.vx l (i+1))) (c:=x28) (d:=(Pg.vx l (k+1))) (Pg.vx_some (by rw [HN.out,Nat.mod_eq_of_lt (by omega)];exact Hhx25.out)) rfl (Pg.vx_some (by rw [HN.out,Nat.mod_eq_of_lt (by omega)];exact Hhx29.out)) rfl];rw [if_neg (fun h_=>by have z:=h_.1;have e1:=HN.out;have q0:=hc1;have q1:=hc54;have q2:=Hhc149.out;have q3:=Hhc150.out;omega)];rw [if_neg (fun h_=>by have z:=h_.2.2;rw [HhT145.out,HhT148.out] at z;exact absurd z (by decide))];rw [if_pos (by have e1:=HN.out;have q0:=hc1;have q1:=hc54;have q2:=Hhc149.out;have q3:=Hhc150.out;omega)])))⟩
             case measure=>simp [intOf]<;>omega
            ·skip
             have uc176:=c176;have uc177:=c177;have uc178:=c178;have uc179:=c179;simp only [At,Own,Nat.reduceAdd,and_true] at uc176 uc177 uc178 uc179;go_wp2;go_ret;refine ⟨(by rw [Pg.sim_bad (i:=i) (k:=k) (by omega) (by rw [HN.out];omega) (by rw [badR_eq (a:=x24) (b:=(Pg.vx l (i+1))) (c:=x28) (d:=(Pg.vx l (k+1))) (Pg.vx_some (by rw [HN.out,Nat.mod_eq_of_lt (by omega)];exact Hhx25.out)) rfl (Pg.vx_some (by rw [HN.out,Nat.mod_eq_of_lt (by omega)];exact Hhx29.out)) rfl];rw [if_neg (fun h_=>by have z:=h_.1;have e1:=HN.out;have q0:=hc1;have q1:=hc54;have q2:=Hhc149.out;have q3:=Hhc150.out;omega)];rw [if_pos ⟨by have e1:=HN.out;have q0:=hc1;have q1:=hc54;have q2:=Hhc149.out;have q3:=Hhc150.out;omega,by have e1:=HN.out;have q0:=hc1;have q1:=hc54;have q2:=Hhc149.out;have q3:=Hhc150.out;omega,by rw [HhT145.out,HhT148.out]<;>rfl⟩])]<;>rfl),?_⟩;exact bB
           ·skip
            go_wp2_with (fail)
            refine calls_named ?_;intro W15 hW15;have hL15:Below wn_31.heap.size wn_31 W15:=by rw [hW15];exact bB
            have c181:=c43.up hL15;have c182:=c44.up hL15;have c183:=c45.up hL15;have c184:=c46.up hL15;have hB185:Below w.heap.size w W15:=by rw [hW15];exact bB
            clear hW15 hL15 uc43 uc44 uc45 uc46 c43 c44 c45 c46;with_reducible refine (K143.out _).mono ?_
            rintro e w15 ⟨rfl,hb15⟩;have c186:=c181.up hb15;have c187:=c182.up hb15;have c188:=c183.up hb15;have c189:=c184.up hb15;have hB190:Below w.heap.size w w15:=bel_up hB185 hb15;clear c181 c182 c183 c184;have uc186:=c186;have uc187:=c187;have uc188:=c188;have uc189:=c189;simp only [At,Own,Nat.reduceAdd,and_true] at uc186 uc187 uc188 uc189;go_wp2;go_ret;refine ⟨(by rw [Pg.sim_bad (i:=i) (k:=k) (by omega) (by rw [HN.out];omega) (by rw [badR_eq (a:=x24) (b:=(Pg.vx l (i+1))) (c:=x28) (d:=(Pg.vx l (k+1))) (Pg.vx_some (by rw [HN.out,Nat.mod_eq_of_lt (by omega)];exact Hhx25.out)) rfl (Pg.vx_some (by rw [HN.out,Nat.mod_eq_of_lt (by omega)];exact Hhx29.out)) rfl];rw [if_neg (fun h_=>by have z:=h_.1;have e1:=HN.out;have q0:=hc1;have q1:=hc54;have q2:=Hhc149.out;have q3:=Hhc150.out;omega)];rw [if_pos ⟨by have e1:=HN.out;have q0:=hc1;have q1:=hc54;have q2:=Hhc149.out;have q3:=Hhc150.out;omega,by have e1:=HN.out;have q0:=hc1;have q1:=hc54;have q2:=Hhc149.out;have q3:=Hhc150.out;omega,by rw [HhT145.out,HhT148.out]<;>rfl⟩])]<;>rfl),?_⟩;exact bB
          ·skip
           have hc150_:(((k:Int))==(N-1))=false:=by simpa using hc150
           have kK191:=fun W=>rmeet_any x24 (Pg.vx l (i+1)) x28 (Pg.vx l (k+1)) W Zhx25.out (vx_sz HS.out (by rw [HN.out];omega) _) Zhx29.out (vx_sz HS.out (by rw [HN.out];omega) _) (by omega)
           generalize hT193:Pg.meetR x24 (Pg.vx l (i+1)) x28 (Pg.vx l (k+1))=m192 at kK191;have K191:=Lib.hid kK191;clear kK191;have HhT193:=Lib.hid hT193;clear hT193;go_wp2_with (fail)
           refine calls_named ?_;intro W16 hW16;have hL16:Below wn_31.heap.size wn_31 W16:=by rw [hW16];exact bB
           have c194:=c43.up hL16;have c195:=c44.up hL16;have c196:=c45.up hL16;have c197:=c46.up hL16;have hB198:Below w.heap.size w W16:=by rw [hW16];exact bB
           clear hW16 hL16 uc43 uc44 uc45 uc46 c43 c44 c45 c46;with_reducible refine (K191.out _).mono ?_
           rintro e w16 ⟨rfl,hb16⟩;have c199:=c194.up hb16;have c200:=c195.up hb16;have c201:=c196.up hb16;have c202:=c197.up hb16;have hB203:Below w.heap.size w w16:=bel_up hB198 hb16;clear c194 c195 c196 c197;cases m192
           ·skip
            have uc199:=c199;have uc200:=c200;have uc201:=c201;have uc202:=c202;simp only [At,Own,Nat.reduceAdd,and_true] at uc199 uc200 uc201 uc202;go_wp2;go_roundw
            case rel=>exact ⟨(k+1),(by first|rfl|exact congrArg (Value.int .i64) (by omega)|simp [*]),(by exact bB),⟨by omega,by omega⟩,Lib.hid (fun j h1 h2=>by rcases Nat.lt_or_eq_of_le (Nat.le_of_lt_succ h2) with h_|h_;exact HI.out j h1 h_;(rw [h_];exact (by rw [badR_eq (a:=x24) (b:=(Pg.vx l (i+1))) (c:=x28) (d:=(Pg.vx l (k+1))) (Pg.vx_some (by rw [HN.out,Nat.mod_eq_of_lt (by omega)];exact Hhx25.out)) rfl (Pg.vx_some (by rw [HN.out,Nat.mod_eq_of_lt (by omega)];exact Hhx29.out)) rfl];rw [if_neg (fun h_=>by have z:=h_.1;have e1:=HN.out;have q0:=hc1;have q1:=hc54;have q2:=Hhc149.out;have q3:=hc150;omega)];rw [if_neg (fun h_=>by have z:=h_.1;have z2:=h_.2.1;have e1:=HN.out;have q0:=hc1;have q1:=hc54;have q2:=Hhc149.out;have q3:=hc150;omega)];rw [if_neg (by have e1:=HN.out;have q0:=hc1;have q1:=hc54;have q2:=Hhc149.out;have q3:=hc150;omega)];exact HhT193.out)))⟩
            case measure=>simp [intOf]<;>omega
           ·skip
            have uc199:=c199;have uc200:=c200;have uc201:=c201;have uc202:=c202;simp only [At,Own,Nat.reduceAdd,and_true] at uc199 uc200 uc201 uc202;go_wp2;go_ret;refine ⟨(by rw [Pg.sim_bad (i:=i) (k:=k) (by omega) (by rw [HN.out];omega) (by rw [badR_eq (a:=x24) (b:=(Pg.vx l (i+1))) (c:=x28) (d:=(Pg.vx l (k+1))) (Pg.vx_some (by rw [HN.out,Nat.mod_eq_of_lt (by omega)];exact Hhx25.out)) rfl (Pg.vx_some (by rw [HN.out,Nat.mod_eq_of_lt (by omega)];exact Hhx29.out)) rfl];rw [if_neg (fun h_=>by have z:=h_.1;have e1:=HN.out;have q0:=hc1;have q1:=hc54;have q2:=Hhc149.out;have q3:=hc150;omega)];rw [if_neg (fun h_=>by have z:=h_.1;have z2:=h_.2.1;have e1:=HN.out;have q0:=hc1;have q1:=hc54;have q2:=Hhc149.out;have q3:=hc150;omega)];rw [if_neg (by have e1:=HN.out;have q0:=hc1;have q1:=hc54;have q2:=Hhc149.out;have q3:=hc150;omega)];exact HhT193.out)]<;>rfl),?_⟩;exact bB
         ·skip
          have hc149_:(((i:Int))==0)=false:=by simpa using hc149
          have kK204:=fun W=>rmeet_any x24 (Pg.vx l (i+1)) x28 (Pg.vx l (k+1)) W Zhx25.out (vx_sz HS.out (by rw [HN.out];omega) _) Zhx29.out (vx_sz HS.out (by rw [HN.out];omega) _) (by omega)
          generalize hT206:Pg.meetR x24 (Pg.vx l (i+1)) x28 (Pg.vx l (k+1))=m205 at kK204;have K204:=Lib.hid kK204;clear kK204;have HhT206:=Lib.hid hT206;clear hT206;go_wp2_with (fail)
          refine calls_named ?_;intro W17 hW17;have hL17:Below wn_31.heap.size wn_31 W17:=by rw [hW17];exact bB
          have c207:=c43.up hL17;have c208:=c44.up hL17;have c209:=c45.up hL17;have c210:=c46.up hL17;have hB211:Below w.heap.size w W17:=by rw [hW17];exact bB
          clear hW17 hL17 uc43 uc44 uc45 uc46 c43 c44 c45 c46;with_reducible refine (K204.out _).mono ?_
          rintro e w17 ⟨rfl,hb17⟩;have c212:=c207.up hb17;have c213:=c208.up hb17;have c214:=c209.up hb17;have c215:=c210.up hb17;have hB216:Below w.heap.size w w17:=bel_up hB211 hb17;clear c207 c208 c209 c210;cases m205
          ·skip
           have uc212:=c212;have uc213:=c213;have uc214:=c214;have uc215:=c215;simp only [At,Own,Nat.reduceAdd,and_true] at uc212 uc213 uc214 uc215;go_wp2;go_roundw
           case rel=>exact ⟨(k+1),(by first|rfl|exact congrArg (Value.int .i64) (by omega)|simp [*]),(by exact bB),⟨by omega,by omega⟩,Lib.hid (fun j h1 h2=>by rcases Nat.lt_or_eq_of_le (Nat.le_of_lt_succ h2) with h_|h_;exact HI.out j h1 h_;(rw [h_];exact (by rw [badR_eq (a:=x24) (b:=(Pg.vx l (i+1))) (c:=x28) (d:=(Pg.vx l (k+1))) (Pg.vx_some (by rw [HN.out,Nat.mod_eq_of_lt (by omega)];exact Hhx25.out)) rfl (Pg.vx_some (by rw [HN.out,Nat.mod_eq_of_lt (by omega)];exact Hhx29.out)) rfl];rw [if_neg (fun h_=>by have z:=h_.1;have e1:=HN.out;have q0:=hc1;have q1:=hc54;have q2:=hc149;omega)];rw [if_neg (fun h_=>by have z:=h_.1;have z2:=h_.2.1;have e1:=HN.out;have q0:=hc1;have q1:=hc54;have q2:=hc149;omega)];rw [if_neg (by have e1:=HN.out;have q0:=hc1;have q1:=hc54;have q2:=hc149;omega)];exact HhT206.out)))⟩
           case measure=>simp [intOf]<;>omega
          ·skip
           have uc212:=c212;have uc213:=c213;have uc214:=c214;have uc215:=c215;simp only [At,Own,Nat.reduceAdd,and_true] at uc212 uc213 uc214 uc215;go_wp2;go_ret;refine ⟨(by rw [Pg.sim_bad (i:=i) (k:=k) (by omega) (by rw [HN.out];omega) (by rw [badR_eq (a:=x24) (b:=(Pg.vx l (i+1))) (c:=x28) (d:=(Pg.vx l (k+1))) (Pg.vx_some (by rw [HN.out,Nat.mod_eq_of_lt (by omega)];exact Hhx25.out)) rfl (Pg.vx_some (by rw [HN.out,Nat.mod_eq_of_lt (by omega)];exact Hhx29.out)) rfl];rw [if_neg (fun h_=>by have z:=h_.1;have e1:=HN.out;have q0:=hc1;have q1:=hc54;have q2:=hc149;omega)];rw [if_neg (fun h_=>by have z:=h_.1;have z2:=h_.2.1;have e1:=HN.out;have q0:=hc1;have q1:=hc54;have q2:=hc149;omega)];rw [if_neg (by have e1:=HN.out;have q0:=hc1;have q1:=hc54;have q2:=hc149;omega)];exact HhT206.out)]<;>rfl),?_⟩;exact bB
       ·skip
        have hkN:N=k:=by omega
        subst hkN;have HJ:Hid (∀ k,i<k→k<l.length→Pg.badR l i k=false):=Lib.hid (fun k h1 h2=>HI.out k h1 (by rw [HN.out] at h2;exact h2));go_wp2;go_roundw
        case rel=>exact ⟨(i+1),(by first|rfl|exact congrArg (Value.int .i64) (by omega)|simp [*]),(by exact bB),(by omega),Lib.hid (fun j hj=>by rcases Nat.lt_or_eq_of_le (Nat.le_of_lt_succ hj) with h_|h_;exact HE.out j h_;(subst h_;exact HJ.out))⟩
        case measure=>simp [intOf]<;>omega
     ·skip
      have hkN:N=i:=by omega
      subst hkN;go_wp2;go_ret;refine ⟨(by rw [Pg.sim_yes (by rw [HN.out];omega) (fun i_ hi_=>⟨HD.out i_ hi_,fun k_ h1_ h2_=>HE.out i_ (by rw [HN.out] at hi_;exact hi_) k_ h1_ h2_⟩)]<;>rfl),?_⟩;exact bB
end Go.Proofs.YtiochgoocbkckaaGreatDoor
