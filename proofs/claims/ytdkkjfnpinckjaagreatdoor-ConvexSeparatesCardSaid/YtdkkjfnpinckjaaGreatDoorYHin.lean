/-
 Contracts of the reference for convex sets: the common points of two.
-/
import Derived.Test.YtdkkjfnpinckjaaGreatDoorYCin
import Derived.Test.YtdkkjfnpinckjaaGreatDoorYHcu
import Derived.Test.YtdkkjfnpinckjaaGreatDoorYMo
import Derived.Deep.RegionHeld3
import Derived.Deep.DeepCutAuto
set_option maxRecDepth 100000
set_option linter.unusedSimpArgs false
set_option linter.unusedVariables false
namespace Go.Proofs.YtdkkjfnpinckjaaGreatDoor
open Go Go.RowKit

def turnedP (d:Rat×Rat):Rat×Rat:=(-d.2,d.1)
def linesR (b:List (Rat×Rat)) (k:Nat):List ((Rat×Rat)×(Rat×Rat)):=(List.range k).map (Pl.edge b)
def endsR (b:List (Rat×Rat)):List ((Rat×Rat)×(Rat×Rat)) :=
 [(Pl.addP (b.getD 0 (0,0)) (turnedP (Pl.subP (b.getD 1 (0,0)) (b.getD 0 (0,0)))),b.getD 0 (0,0)),(b.getD 1 (0,0),Pl.addP (b.getD 1 (0,0)) (turnedP (Pl.subP (b.getD 1 (0,0)) (b.getD 0 (0,0)))))]
def interR (a b:List (Rat×Rat)):List (Rat×Rat) :=
 if b.length=0 then [] else if b.length=1 then (if Pl.locR a (b.getD 0 (0,0))<0 then [] else b) else
  if 2<b.length then (linesR b b.length).foldl cutStep a else (linesR b b.length++endsR b).foldl cutStep a
theorem edge_ne {b:List (Rat×Rat)} (hwb:Pl.wrap b=b) (h2:2≤b.length):∀ i,i<b.length→(Pl.edge b i).1≠(Pl.edge b i).2:=fun i hi=>by
 rcases Pl.hull_ring hwb with ⟨_,h⟩|⟨f,hr⟩
 ·omega
 ·rw [Pl.edge_get hi];exact (Pl.ring_edge hr i hi).ne
theorem lines_mem {b:List (Rat×Rat)} {k:Nat} {s:(Rat×Rat)×(Rat×Rat)} (h:s∈linesR b k):∃ i,i<k∧s=Pl.edge b i:=by
 obtain ⟨i,hi,rfl⟩:=List.mem_map.1 h;exact ⟨i,List.mem_range.1 hi,rfl⟩
theorem interR_eq {a b:List (Rat×Rat)} (ha:Pl.wrap a=a) (hb:Pl.wrap b=b):interR a b=Pl.interC a b:=by
 unfold interR
 split
 ·rename_i h;unfold Pl.interC;rw [if_pos h]
 ·split
  ·rename_i h0 h1
   unfold Pl.interC;rw [if_neg h0,if_pos h1];have h3:=Pl.locR3 a (b.getD 0 (0,0))
   by_cases h4:Pl.locR a (b.getD 0 (0,0))=-1
   ·rw [if_pos h4,if_pos (by omega)]
   ·rw [if_neg h4,if_neg (by omega)]
  ·rename_i h0 h1
   have h2:2≤b.length:=by omega
   rw [interC_fold h2]
   split
   ·rename_i h3
    have:Pl.sides b=linesR b b.length:=by unfold Pl.sides Pl.edges linesR;rw [if_pos h3,if_neg (by omega),if_neg (by omega)]
    rw [this]
   ·have hl:b.length=2:=by omega
    have hne:∀ s∈linesR b b.length++endsR b,s.1≠s.2:=fun s hs=>by
     rcases List.mem_append.1 hs with h|h
     ·obtain ⟨i,hi,rfl⟩:=lines_mem h
      exact edge_ne hb h2 i hi
     ·have h01:=edge_ne hb h2 0 (by omega)
      have e:Pl.edge b 0=(b.getD 0 (0,0),b.getD 1 (0,0)):=by unfold Pl.edge;rw [show (0+1)%b.length=1 by rw [hl]]
      rw [e] at h01;simp only at h01;have hd:=Pl.sub_ne (Ne.symm h01);unfold endsR at h;generalize b.getD 0 (0,0)=x at *;generalize b.getD 1 (0,0)=y at *
      have ht:∀ p:Rat×Rat,Pl.addP p (turnedP (Pl.subP y x))≠p:=fun p e2=>by
       apply hd;have e3:=congrArg Prod.fst e2;have e4:=congrArg Prod.snd e2;simp only [Pl.addP,turnedP] at e3 e4;refine Prod.ext ?_ ?_<;>grind
      simp only [List.mem_cons,List.not_mem_nil,or_false] at h;rcases h with rfl|rfl
      ·exact ht x
      ·exact Ne.symm (ht y)
    have f1:=fun p=>Pl.fold_cut (p:=p) (linesR b b.length++endsR b) a ha hne
    have f2:=fun p=>Pl.fold_cut (p:=p) (Pl.sides b) a ha (Pl.sides_ne hb h2)
    refine Pl.canonH (f1 (0,0)).1 (f2 (0,0)).1 fun p => ?_
    refine (f1 p).2.trans (Iff.trans (and_congr_right fun _ => ?_) (f2 p).2.symm);have hs:Pl.sides b=[(b.getD 0 (0,0),b.getD 1 (0,0)),(b.getD 1 (0,0),b.getD 0 (0,0)),Pl.aheadS (b.getD 0 (0,0)) (Pl.subP (b.getD 1 (0,0)) (b.getD 0 (0,0))),Pl.aheadS (b.getD 1 (0,0)) (Pl.subP (b.getD 0 (0,0)) (b.getD 1 (0,0)))]:=by unfold Pl.sides;rw [if_neg (by omega)]
    have hlr:linesR b b.length=[(b.getD 0 (0,0),b.getD 1 (0,0)),(b.getD 1 (0,0),b.getD 0 (0,0))]:=by unfold linesR;rw [hl];show [Pl.edge b 0,Pl.edge b 1]=_;unfold Pl.edge;rw [hl]
    rw [hs,hlr];unfold endsR;have d1:∀ x y:Rat×Rat,Pl.det (Pl.addP x (turnedP (Pl.subP y x))) x p=Pl.dotP (Pl.subP y x) (Pl.subP p x):=fun x y=>by unfold Pl.det Pl.crossP Pl.subP Pl.addP turnedP Pl.dotP;simp only;grind
    have d2:∀ x y:Rat×Rat,Pl.det y (Pl.addP y (turnedP (Pl.subP y x))) p=Pl.dotP (Pl.subP x y) (Pl.subP p y):=fun x y=>by unfold Pl.det Pl.crossP Pl.subP Pl.addP turnedP Pl.dotP;simp only;grind
    simp only [List.cons_append,List.nil_append,List.forall_mem_cons,List.not_mem_nil,false_implies,implies_true,and_true,d1,d2,Pl.ahead_det]
theorem cutR_step {out:List (Rat×Rat)} {s:(Rat×Rat)×(Rat×Rat)} (hw:Pl.wrap out=out) (hne:s.1≠s.2):Pl.wrap (Pl.cutR out s.1 s.2)=cutStep out s :=
 Pl.wrap_eq fun p=>by rw [Pl.cutR_iff,Pl.cutE_iff hne hw]

theorem interR_one (a:List (Rat×Rat)) (q:Rat×Rat):interR a [q]=if Pl.locR a q<0 then [] else [q]:=rfl
theorem Good.len2 {LN:List ((Rat×Rat)×(Rat×Rat))} {K:Nat} {h:List (Rat×Rat)} (g:Good LN K h) (hn:LN.length≤400):h.length≤801:=by
 have:=Pl.car_len g.wrap g.car;omega
set_option maxHeartbeats 4000000 in
theorem hinter_many {I K:Nat} (va vb:Value) (a b:List (Rat×Rat)) (LN:List ((Rat×Rat)×(Rat×Rat))) (w:World) (ha:PV w va a) (hb:PV w vb b) (hg:Good LN K a) (hwb:Pl.wrap b=b) (hsa:∀ q∈a,Pl.SzP K q) (hsb:∀ q∈b,Pl.SzP 1 q) (hna:a.length≤800) (hnb:b.length≤800) (hLN:∀ m∈LN,Pl.SzS I m) (hl1:∀ i,i<b.length→Pl.edge b i∈LN) (hl2:∀ s∈endsR b,s∈LN) (hLen:LN.length≤400) (hI:5≤I) (hIK:27*I+18≤K) (hIJ:18*I+9*K+18≤100000) (h2:2≤b.length) :
 Calls Tryz.prog 50 #[va,vb] w fun e w'=>∃ v',e=.returned v'∧PV w' v' (interR a b)∧Below w.heap.size w w':=by
 obtain ⟨Aa,ca,rfl,hca,hma,hxa⟩:=ha.open_;have HVA:=Lib.hid ha;have HXA:=Lib.hid hxa;have HSA:=Lib.hid hsa;obtain ⟨Ab,cb,rfl,hcb,hmb,hxb⟩:=hb.open_;have HVB:=Lib.hid hb;have HXB:=Lib.hid hxb;have HSB:=Lib.hid hsb;have HG0:=Lib.hid hg;have HWA:=Lib.hid hg.wrap;have HLNS:=Lib.hid hLN;have HL1:Hid (∀ i,i<b.length→Pl.edge b i∈LN):=Lib.hid hl1;have HL2:=Lib.hid hl2;have HLN:=Lib.hid (edge_ne hwb h2);have HR3:Hid (2<b.length→interR a b=(linesR b b.length).foldl cutStep a):=Lib.hid fun h=>by unfold interR;rw [if_neg (by omega),if_neg (by omega),if_pos h]
 have HR2:Hid (¬ 2<b.length→interR a b=(linesR b b.length++endsR b).foldl cutStep a):=Lib.hid fun h=>by unfold interR;rw [if_neg (by omega),if_neg (by omega),if_neg h]
 clear hg hLN hl1 hl2 hwb;have HFA:Hid (a.take a.length=a):=Lib.hid List.take_length;generalize hNa:a.length=Na at *;have HNA:=Lib.hid hNa;clear ha hxa hsa hNa;have HFB:Hid (b.take b.length=b):=Lib.hid List.take_length;generalize hNb:b.length=Nb at *;have HNB:=Lib.hid hNb;clear hb hxb hsb hNb;have j0:¬ (Nb:Int)=0:=by omega
 have j1:((Nb:Int)==0)=false:=by simpa using j0
 have j2:¬ (Nb:Int)=1:=by omega
 have j3:((Nb:Int)==1)=false:=by simpa using j2
 go_enter Tryz.func50,Tryz.ntmps50;have K1:=Lib.hid (fun W v (h:PV W v a)=>HWA.out▸hHull_any v a W h HSA.out (by rw [HNA.out];omega) (by omega:K≤100000));go_wp2_with (fail)
 refine calls_named ?_;intro W1 hW1;have hL1:Below w.heap.size w W1:=by rw [hW1];exact bB
 have hB2:Below w.heap.size w W1:=by rw [hW1];exact bB
 clear hW1 hL1;with_reducible refine (K1.out _ _ (HVA.out.up hB2)).mono ?_
 rintro e w1 ⟨v1,rfl,hv1,hb1⟩;have hB3:Below w.heap.size w w1:=bel_up hB2 hb1;have PW1:=Lib.hid hv1;clear hv1;go_wp2_with fail;go_loopw [5,6] (fun s5 s6 wr=>∃ (k:Nat) (out:List (Rat×Rat)),PV wr s5 out∧s6=.int .i64 k∧Below w1.heap.size w1 wr∧Below w.heap.size w wr∧k≤Nb∧Hid (Good LN K out)∧Hid (out=(linesR b k).foldl cutStep a)) (fun _ s6 _=>Nb-(intOf s6).toNat)
 case atStart=>exact ⟨0,a,PW1.out,rfl,Below.refl _ _,hB3,(by omega),HG0,Lib.hid rfl⟩
 case round =>
  clear hB3;obtain ⟨k,out,pw4,rfl,hA5,hB6,hk,HG,HE⟩:=hrel;obtain ⟨wr7,hwr7⟩:∃ W_,W_=wr:=⟨_,rfl⟩
  subst hwr7;have PW8:=Lib.hid pw4;clear pw4
  by_cases hltk:k<Nb
  ·skip
   have i1k:(k:Int)<Nb:=by omega
   obtain ⟨x9,hx10⟩:∃ x,b[k]?=some x:=⟨_,List.getElem?_eq_getElem (by rw [HNB.out];omega)⟩
   have Hhx10:=Lib.hid hx10;have Zhx10:=Lib.hid (HSB.out _ (List.mem_of_getElem? hx10));clear hx10;obtain ⟨m,hm1⟩:∃ m,m=(k+1)%Nb:=⟨_,rfl⟩
   have hm2:m<Nb:=hm1▸Nat.mod_lt _ (by omega);have i2:(m:Int)<Nb:=by omega
   obtain ⟨r1,r2,r3,r4,r5,r6⟩:=remS k Nb m hm1 (by omega) (by omega);have HM:=Lib.hid hm1;clear hm1;obtain ⟨x11,hx12⟩:∃ x,b[m]?=some x:=⟨_,List.getElem?_eq_getElem (by rw [HNB.out];omega)⟩
   have Hhx12:=Lib.hid hx12;have Zhx12:=Lib.hid (HSB.out _ (List.mem_of_getElem? hx12));clear hx12;have hedge:Pl.edge b k=(x9,x11):=by rw [Pl.edge,Pl.getD_of Hhx10.out,HNB.out,← HM.out,Pl.getD_of Hhx12.out]
   have HXL:Hid (((x9,x11):(Rat×Rat)×(Rat×Rat))∈LN):=Lib.hid (hedge▸HL1.out k hltk);have HXN:Hid (x9≠x11):=Lib.hid (by have:=HLN.out k hltk;rw [hedge] at this;exact this);have HCE:Hid (Pl.wrap (Pl.cutR out x9 x11)=cutStep out (x9,x11)):=Lib.hid (cutR_step (s:=(x9,x11)) HG.out.wrap HXN.out);have HSTEP:Hid ((linesR b (k+1)).foldl cutStep a=cutStep ((linesR b k).foldl cutStep a) (x9,x11)):=Lib.hid (by rw [linesR,List.range_succ,List.map_append,List.foldl_append,List.map_cons,List.map_nil,hedge];rfl);clear hedge;clear r2 r4 r5 r6 hm2;go_wp2_with fail;refine wp_named ?_;intro W2 hW2;have hL2:Below wr7.heap.size wr7 W2:=by rw [hW2];exact bB
   have hA13:=bel_up hA5 hL2;have hA14:=hL2;have hB15:Below w.heap.size w W2:=by rw [hW2];exact bB
   clear hW2 hL2 hA5;obtain ⟨g17,o18,ha19,-⟩:=(HXB.out).up kpP hB15 _ _ Hhx10.out;subst ha19;have ce16:=LX.at_ ((HXB.out).up kpP hB15) Hhx10.out;have ce16_:g17<W2.heap.size:=World.block_lt_of_cell? _ _ ce16.1;have dce16:=fun b:Bel W2=>ce16.bel b
   simp only [CE,Nat.reduceMul] at dce16;have ce20:=LX.at_ ((HXB.out).up kpP hB15) Hhx12.out;have ce20_:g17<W2.heap.size:=World.block_lt_of_cell? _ _ ce20.1;have dce20:=fun b:Bel W2=>ce20.bel b
   simp only [CE,Nat.reduceMul] at dce20;refine wp_region_tail 14 (by kernel_rfl) (by kernel_rfl) ?_;simp only [List.take_succ_cons,List.take_zero,List.drop_succ_cons,List.drop_zero];repeat (go_big_quiet_step (fail))
   refine wpQuiet_nil ?_;intro w2 hb2;have hA21:=bel_up hA13 hb2;have hA22:=bel_up hA14 hb2;have hB23:Below w.heap.size w w2:=bel_up hB15 hb2;clear dce16 dce20 hA13 hA14;have K24:=Lib.hid (fun W v (h:PV W v out)=>HCE.out▸hcut_any v out x9 x11 W h HG.out.sz (by have:=HG.out.len2 hLen;omega) (Zhx10.out.mono (by omega)) (Zhx12.out.mono (by omega)) hIJ);go_wp2_with (fail)
   refine calls_named ?_;intro W3 hW3;have hL3:Below w2.heap.size w2 W3:=by rw [hW3];exact bB
   have hA25:=bel_up hA21 hL3;have hA26:=bel_up hA22 hL3;have hB27:Below w.heap.size w W3:=by rw [hW3];exact bB
   clear hW3 hL3 hA21 hA22;with_reducible refine (K24.out _ _ (PW8.out.up hA26)).mono ?_
   rintro e w3 ⟨v3,rfl,hv3,hb3⟩;have hA28:=bel_up hA25 hb3;have hA29:=bel_up hA26 hb3;have hB30:Below w.heap.size w w3:=bel_up hB27 hb3;clear hA25 hA26;have PW3:=Lib.hid hv3;clear hv3;go_wp2;go_roundw
   case rel=>exact ⟨(k+1),(cutStep out (x9,x11)),(PW3.out.up (by exact bB)),(by first|rfl|exact congrArg (Value.int .i64) (by omega)|simp [*]),(by exact bB),(by exact bB),(by omega),Lib.hid (HG.out.cut HLNS.out hIK HXL.out HXN.out),Lib.hid (by rw [HSTEP.out,HE.out])⟩
   case measure=>simp [intOf]<;>omega
  ·skip
   have hkN:Nb=k:=by omega
   subst hkN
   by_cases hc31:(2:Int)<Nb
   ·skip
    have hc31_:¬ ((Nb:Int)≤2):=by omega
    go_wp2;go_ret;exact ⟨_,rfl,(by rw [HR3.out (by omega),← HE.out];exact PW8.out),(by exact bB)⟩
   ·skip
    have hc31_:((Nb:Int)≤2):=by omega
    have HNb2:Hid (Nb=2):=Lib.hid (by omega);obtain ⟨x32,hx33⟩:∃ x,b[0]?=some x:=⟨_,List.getElem?_eq_getElem (by rw [HNB.out];omega)⟩
    have Hhx33:=Lib.hid hx33;have Zhx33:=Lib.hid (HSB.out _ (List.mem_of_getElem? hx33));clear hx33;obtain ⟨x34,hx35⟩:∃ x,b[1]?=some x:=⟨_,List.getElem?_eq_getElem (by rw [HNB.out];omega)⟩
    have Hhx35:=Lib.hid hx35;have Zhx35:=Lib.hid (HSB.out _ (List.mem_of_getElem? hx35));clear hx35;have i01:(0:Int)<Nb:=by omega
    have i11:(1:Int)<Nb:=by omega
    go_upto_region 14 with fail
    refine wp_named ?_;intro W4 hW4;have hL4:Below wr7.heap.size wr7 W4:=by rw [hW4];exact bB
    have hA36:=bel_up hA5 hL4;have hA37:=hL4;have hB38:Below w.heap.size w W4:=by rw [hW4];exact bB
    clear hW4 hL4 hA5;have K40:=Lib.hid (fun W=>hsub_any x34 x32 W Zhx35.out Zhx33.out (by omega) (by omega));obtain ⟨g43,o44,ha45,-⟩:=(HXB.out).up kpP hB38 _ _ Hhx35.out;subst ha45;have ce42:=LX.at_ ((HXB.out).up kpP hB38) Hhx35.out;have ce42_:g43<W4.heap.size:=World.block_lt_of_cell? _ _ ce42.1;have ce46:=LX.at_ ((HXB.out).up kpP hB38) Hhx33.out;have ce46_:g43<W4.heap.size:=World.block_lt_of_cell? _ _ ce46.1;refine wp_region_new1 8 7 7 [.bool false,.string ⟨#[]⟩,.bool false,.string ⟨#[]⟩,.bool false,.string ⟨#[]⟩,.bool false,.string ⟨#[]⟩] 35 (by kernel_rfl) (by kernel_rfl) rfl rfl rfl rfl (by intro h_;cases h_) (by simp) (run_alloc_zero Tryz.zeroValue35 rfl) (by kernel_rfl) ?_;intro V_39 hV_39;have vce42:=ce42.up hV_39;have dce42:=fun b:Bel V_39=>vce42.bel b
    simp only [CE,Nat.reduceMul,Nat.zero_mul,Nat.add_zero,Nat.add_assoc,Nat.reduceAdd] at dce42;have vce46:=ce46.up hV_39;have dce46:=fun b:Bel V_39=>vce46.bel b
    simp only [CE,Nat.reduceMul,Nat.zero_mul,Nat.add_zero,Nat.add_assoc,Nat.reduceAdd] at dce46;have hBV_39:=bel_up hB38 hV_39;have hA47:=bel_up hA36 hV_39;have hA48:=bel_up hA37 hV_39;simp only [List.map_cons,List.map_nil,maskOp,List.take_succ_cons,List.take_zero];repeat (go_big_quiet_step (first|(go_at_call 30;with_reducible exact Calls.bel (K40.out _))))
    refine wpQuiet_nil ?_;refine ⟨[.bool (ng (((Pl.subP x34 x32).1).num)),.string (mg (((Pl.subP x34 x32).1).num).natAbs),.bool false,.string (mg (dn ((Pl.subP x34 x32).1))),.bool (ng (((Pl.subP x34 x32).2).num)),.string (mg (((Pl.subP x34 x32).2).num).natAbs),.bool false,.string (mg (dn ((Pl.subP x34 x32).2)))],rfl,rfl,by simp [Value.oneCell'],?_⟩;intro bq41 wn_39 hbn_39 lbq41 mbq41 c49;simp only [Act.put,List.setIfInBounds_toArray,List.set_cons_zero,List.set_cons_succ];have ne50:g43≠bq41:=by omega
    have ne50':=ne50.symm;have wbq41:=Nat.le_trans hB38.size lbq41;have an51:w1.heap.size≤bq41:=Nat.le_trans hA36.size lbq41;have an52:wr7.heap.size≤bq41:=Nat.le_trans hA37.size lbq41;clear hA48 hA47 hBV_39 dce46 vce46 dce42 vce42 hV_39 V_39;have hA53:=bel_up hA36 hbn_39;have hA54:=bel_up hA37 hbn_39;have hB55:Below w.heap.size w wn_39:=bel_up hB38 hbn_39;clear hA36 hA37;go_upto_region 15 with fail
    refine wp_named ?_;intro W5 hW5;have hL5:Below wn_39.heap.size wn_39 W5:=by rw [hW5];exact bB
    have c56:=c49.up hL5;have hA57:=bel_up hA53 hL5;have hA58:=bel_up hA54 hL5;have hB59:Below w.heap.size w W5:=by rw [hW5];exact bB
    clear hW5 hL5 c49 hA53 hA54;have kK61:=fun W=>rneg_any ((Pl.subP x34 x32).2) W
    generalize hT63 : -((Pl.subP x34 x32).2)=nd62 at kK61;have K61:=Lib.hid kK61;clear kK61;have HhT63:=Lib.hid hT63;clear hT63;refine wp_region_new1 7 6 8 [.bool false,.string ⟨#[]⟩,.bool false,.string ⟨#[]⟩,.bool false,.string ⟨#[]⟩,.bool false,.string ⟨#[]⟩] 35 (by kernel_rfl) (by kernel_rfl) rfl rfl rfl rfl (by intro h_;cases h_) (by simp) (run_alloc_zero Tryz.zeroValue35 rfl) (by kernel_rfl) ?_;intro V_60 hV_60;have vc56:=c56.up hV_60;have dc56:=fun p:Bel V_60=>vc56.bel p
    simp only [At,Own,Nat.reduceAdd,and_true] at dc56;have hBV_60:=bel_up hB59 hV_60;have hA65:=bel_up hA57 hV_60;have hA66:=bel_up hA58 hV_60;simp only [List.map_cons,List.map_nil,maskOp,List.take_succ_cons,List.take_zero];repeat (go_big_quiet_step (first|(go_at_call 97;with_reducible exact Calls.bel (K61.out _))))
    refine wpQuiet_nil ?_;refine ⟨[.bool (ng nd62.num),.string (mg nd62.num.natAbs),.bool false,.string (mg (dn nd62)),.bool (ng (((Pl.subP x34 x32).1).num)),.string (mg (((Pl.subP x34 x32).1).num).natAbs),.bool false,.string (mg (dn ((Pl.subP x34 x32).1)))],rfl,rfl,by simp [Value.oneCell'],?_⟩;intro bq64 wn_60 hbn_60 lbq64 mbq64 c67;simp only [Act.put,List.setIfInBounds_toArray,List.set_cons_zero,List.set_cons_succ];have ne68:bq41≠bq64:=by have:=c56.lt;omega
    have ne68':=ne68.symm;have wbq64:=Nat.le_trans hB59.size lbq64;have an69:w1.heap.size≤bq64:=Nat.le_trans hA57.size lbq64;have an70:wr7.heap.size≤bq64:=Nat.le_trans hA58.size lbq64;clear hA66 hA65 hBV_60 dc56 vc56 hV_60 V_60;have c71:=c56.up hbn_60;have hA72:=bel_up hA57 hbn_60;have hA73:=bel_up hA58 hbn_60;have hB74:Below w.heap.size w wn_60:=bel_up hB59 hbn_60;clear c56 hA57 hA58;have htp:turnedP (Pl.subP x34 x32)=(nd62,(Pl.subP x34 x32).1):=by unfold turnedP;rw [HhT63.out]
    have HEN:Hid (endsR b=[(Pl.addP x32 (nd62,(Pl.subP x34 x32).1),x32),(x34,Pl.addP x34 (nd62,(Pl.subP x34 x32).1))]):=Lib.hid (by unfold endsR;rw [Pl.getD_of Hhx33.out,Pl.getD_of Hhx35.out,htp]);have HX1:Hid (((Pl.addP x32 (nd62,(Pl.subP x34 x32).1),x32):(Rat×Rat)×(Rat×Rat))∈LN):=Lib.hid (HL2.out _ (by rw [HEN.out];simp));have HX2:Hid (((x34,Pl.addP x34 (nd62,(Pl.subP x34 x32).1)):(Rat×Rat)×(Rat×Rat))∈LN):=Lib.hid (HL2.out _ (by rw [HEN.out];simp));have HXY:Hid (x32≠x34):=Lib.hid (fun e=>HLN.out 0 (by omega) (by rw [Pl.edge,Pl.getD_of Hhx33.out,HNB.out,HNb2.out];show x32=b.getD 1 (0,0);rw [Pl.getD_of Hhx35.out];exact e))
    have hat:∀ p:Rat×Rat,Pl.addP p (nd62,(Pl.subP x34 x32).1)≠p:=fun p e2=>by
     have hd:=Pl.sub_ne (Ne.symm HXY.out);apply hd;have e3:=congrArg Prod.fst e2;have e4:=congrArg Prod.snd e2;have e5:=HhT63.out;simp only [Pl.addP] at e3 e4;refine Prod.ext ?_ ?_<;>grind
    have HN1:Hid (Pl.addP x32 (nd62,(Pl.subP x34 x32).1)≠x32):=Lib.hid (hat x32);have HN2:Hid (x34≠Pl.addP x34 (nd62,(Pl.subP x34 x32).1)):=Lib.hid (Ne.symm (hat x34));have HCE1:Hid (Pl.wrap (Pl.cutR out (Pl.addP x32 (nd62,(Pl.subP x34 x32).1)) x32)=cutStep out (Pl.addP x32 (nd62,(Pl.subP x34 x32).1),x32)):=Lib.hid (cutR_step (s:=(Pl.addP x32 (nd62,(Pl.subP x34 x32).1),x32)) HG.out.wrap HN1.out);have HG1:=Lib.hid (HG.out.cut HLNS.out hIK HX1.out HN1.out);have HCE2:=Lib.hid (cutR_step (s:=(x34,Pl.addP x34 (nd62,(Pl.subP x34 x32).1))) HG1.out.wrap HN2.out);clear htp hat;have K75:=Lib.hid (fun W=>hadd_any x32 (nd62,(Pl.subP x34 x32).1) W Zhx33.out ⟨(show Pl.Sz 3 nd62 from HhT63.out▸(Zhx35.out.sub Zhx33.out).2.neg),(Zhx35.out.sub Zhx33.out).1⟩ (by omega) (by omega));go_wp2_with fail;refine wp_named ?_;intro W6 hW6;have hL6:Below wn_60.heap.size wn_60 W6:=by rw [hW6];exact bB
    have c76:=c71.up hL6;have c77:=c67.up hL6;have hA78:=bel_up hA72 hL6;have hA79:=bel_up hA73 hL6;have hB80:Below w.heap.size w W6:=by rw [hW6];exact bB
    clear hW6 hL6 c71 c67 hA72 hA73;have dc76:=fun p:Bel W6=>c76.bel p;have dc77:=fun p:Bel W6=>c77.bel p
    simp only [At,Own,Nat.reduceAdd,and_true] at dc76 dc77;have ce81:=LX.at_ ((HXB.out).up kpP hB80) Hhx33.out;have ce81_:g43<W6.heap.size:=World.block_lt_of_cell? _ _ ce81.1;have dce81:=fun b:Bel W6=>ce81.bel b
    simp only [CE,Nat.reduceMul,Nat.zero_mul,Nat.add_zero,Nat.add_assoc,Nat.reduceAdd] at dce81;refine wp_region_tail 10 (by kernel_rfl) (by kernel_rfl) ?_;simp only [List.take_succ_cons,List.take_zero,List.drop_succ_cons,List.drop_zero];repeat (go_big_quiet_step (first|(go_at_call 67;with_reducible exact Calls.bel (K75.out _))))
    refine wpQuiet_nil ?_;intro w6 hb6;have c82:=c76.up hb6;have c83:=c77.up hb6;have hA84:=bel_up hA78 hb6;have hA85:=bel_up hA79 hb6;have hB86:Below w.heap.size w w6:=bel_up hB80 hb6;clear dc76 dc77 dce81 c76 c77 hA78 hA79;have uc82:=c82;have uc83:=c83;simp only [At,Own,Nat.reduceAdd,and_true] at uc82 uc83;have K87:=Lib.hid (fun W v (h:PV W v out)=>HCE1.out▸hcut_any v out (Pl.addP x32 (nd62,(Pl.subP x34 x32).1)) x32 W h HG.out.sz (by have:=HG.out.len2 hLen;omega) ((HLNS.out _ HX1.out).1) ((HLNS.out _ HX1.out).2) hIJ);go_wp2_with (fail)
    refine calls_named ?_;intro W7 hW7;have hL7:Below w6.heap.size w6 W7:=by rw [hW7];exact bB
    have c88:=c82.up hL7;have c89:=c83.up hL7;have hA90:=bel_up hA84 hL7;have hA91:=bel_up hA85 hL7;have hB92:Below w.heap.size w W7:=by rw [hW7];exact bB
    clear hW7 hL7 uc82 uc83 c82 c83 hA84 hA85;with_reducible refine (K87.out _ _ (PW8.out.up hA91)).mono ?_
    rintro e w7 ⟨v7,rfl,hv7,hb7⟩;have c93:=c88.up hb7;have c94:=c89.up hb7;have hA95:=bel_up hA90 hb7;have hA96:=bel_up hA91 hb7;have hB97:Below w.heap.size w w7:=bel_up hB92 hb7;clear c88 c89 hA90 hA91;have PW7:=Lib.hid hv7;clear hv7;have K98:=Lib.hid (fun W=>hadd_any x34 (nd62,(Pl.subP x34 x32).1) W Zhx35.out ⟨(show Pl.Sz 3 nd62 from HhT63.out▸(Zhx35.out.sub Zhx33.out).2.neg),(Zhx35.out.sub Zhx33.out).1⟩ (by omega) (by omega));go_wp2_with fail;refine wp_named ?_;intro W8 hW8;have hL8:Below w7.heap.size w7 W8:=by rw [hW8];exact bB
    have c99:=c93.up hL8;have c100:=c94.up hL8;have hA101:=bel_up hA95 hL8;have hA102:=bel_up hA96 hL8;have hA103:=hL8;have hB104:Below w.heap.size w W8:=by rw [hW8];exact bB
    clear hW8 hL8 c93 c94 hA95 hA96;have dc99:=fun p:Bel W8=>c99.bel p;have dc100:=fun p:Bel W8=>c100.bel p
    simp only [At,Own,Nat.reduceAdd,and_true] at dc99 dc100;have ce105:=LX.at_ ((HXB.out).up kpP hB104) Hhx35.out;have ce105_:g43<W8.heap.size:=World.block_lt_of_cell? _ _ ce105.1;have dce105:=fun b:Bel W8=>ce105.bel b
    simp only [CE,Nat.reduceMul,Nat.zero_mul,Nat.add_zero,Nat.add_assoc,Nat.reduceAdd] at dce105;refine wp_region_tail 10 (by kernel_rfl) (by kernel_rfl) ?_;simp only [List.take_succ_cons,List.take_zero,List.drop_succ_cons,List.drop_zero];repeat (go_big_quiet_step (first|(go_at_call 67;with_reducible exact Calls.bel (K98.out _))))
    refine wpQuiet_nil ?_;intro w8 hb8;have c106:=c99.up hb8;have c107:=c100.up hb8;have hA108:=bel_up hA101 hb8;have hA109:=bel_up hA102 hb8;have hA110:=bel_up hA103 hb8;have hB111:Below w.heap.size w w8:=bel_up hB104 hb8;clear dc99 dc100 dce105 c99 c100 hA101 hA102 hA103;have uc106:=c106;have uc107:=c107;simp only [At,Own,Nat.reduceAdd,and_true] at uc106 uc107;have K112:=Lib.hid (fun W v (h:PV W v (cutStep out (Pl.addP x32 (nd62,(Pl.subP x34 x32).1),x32)))=>HCE2.out▸hcut_any v (cutStep out (Pl.addP x32 (nd62,(Pl.subP x34 x32).1),x32)) x34 (Pl.addP x34 (nd62,(Pl.subP x34 x32).1)) W h HG1.out.sz (by have:=HG1.out.len2 hLen;omega) ((HLNS.out _ HX2.out).1) ((HLNS.out _ HX2.out).2) hIJ);go_wp2_with (fail)
    refine calls_named ?_;intro W9 hW9;have hL9:Below w8.heap.size w8 W9:=by rw [hW9];exact bB
    have c113:=c106.up hL9;have c114:=c107.up hL9;have hA115:=bel_up hA108 hL9;have hA116:=bel_up hA109 hL9;have hA117:=bel_up hA110 hL9;have hB118:Below w.heap.size w W9:=by rw [hW9];exact bB
    clear hW9 hL9 uc106 uc107 c106 c107 hA108 hA109 hA110;with_reducible refine (K112.out _ _ (PW7.out.up hA117)).mono ?_
    rintro e w9 ⟨v9,rfl,hv9,hb9⟩;have c119:=c113.up hb9;have c120:=c114.up hb9;have hA121:=bel_up hA115 hb9;have hA122:=bel_up hA116 hb9;have hA123:=bel_up hA117 hb9;have hB124:Below w.heap.size w w9:=bel_up hB118 hb9;clear c113 c114 hA115 hA116 hA117;have PW9:=Lib.hid hv9;clear hv9;have uc119:=c119;have uc120:=c120;simp only [At,Own,Nat.reduceAdd,and_true] at uc119 uc120;go_wp2;go_ret;exact ⟨_,rfl,(by rw [HR2.out (by omega),HEN.out,List.foldl_append,← HE.out];exact PW9.out),(by exact bB)⟩
theorem hinter_one {K:Nat} (va vb:Value) (a:List (Rat×Rat)) (q:Rat×Rat) (w:World) (ha:PV w va a) (hb:PV w vb [q]) (hsa:∀ q∈a,Pl.SzP K q) (hna:a.length≤3000) (hq:Pl.SzP K q) (hK:K≤100000) :
 Calls Tryz.prog 50 #[va,vb] w fun e w'=>∃ v',e=.returned v'∧PV w' v' (interR a [q])∧Below w.heap.size w w':=by
 obtain ⟨Aa,ca,rfl,hca,hma,hxa⟩:=ha.open_;have HVA:=Lib.hid ha;have HXA:=Lib.hid hxa;have HSA:=Lib.hid hsa;generalize hNa:a.length=Na at *;have HNA:=Lib.hid hNa;obtain ⟨Ab,cb,rfl,hcb,hmb,hxb⟩:=hb.open1;have HVB:=Lib.hid hb;have HXB:=Lib.hid hxb;clear ha hb hxa hxb hsa hNa;go_enter Tryz.func50,Tryz.ntmps50;obtain ⟨g2,o3,ha4,-⟩:=HXB.out _ _ (show ([q]:List (Rat×Rat))[0]?=some q from rfl);subst ha4;have ce1:=LX.at_ (HXB.out) (show ([q]:List (Rat×Rat))[0]?=some q from rfl);have ce1_:g2<w.heap.size:=World.block_lt_of_cell? _ _ ce1.1;have uce1:=ce1;simp only [CE,Nat.reduceMul,Nat.zero_mul,Nat.add_zero,Nat.add_assoc,Nat.reduceAdd] at uce1;have kK5:=fun W v (h:PV W v a)=>hloc_any v a q W h HSA.out (by rw [HNA.out];omega) (by omega) hq
 generalize hT7:Pl.locR a q=t6 at kK5;have K5:=Lib.hid kK5;clear kK5;have T8:=Lib.hid (locS hT7);have HhT7:=Lib.hid hT7;clear hT7;go_wp2_with (fail)
 refine calls_named ?_;intro W1 hW1;have hL1:Below w.heap.size w W1:=by rw [hW1];exact bB
 have hB9:Below w.heap.size w W1:=by rw [hW1];exact bB
 clear hW1 hL1 uce1;with_reducible refine (K5.out _ _ (HVA.out.up hB9)).mono ?_
 rintro e w1 ⟨rfl,hb1⟩;have hB10:Below w.heap.size w w1:=bel_up hB9 hb1
 by_cases hc11:(t6:Int)<0
 ·skip
  have hc11_:¬ ((0:Int)≤t6):=by omega
  go_wp2;go_ret;exact ⟨_,rfl,(by rw [show interR a [q]=[] by rw [interR_one,HhT7.out,if_pos (by omega)]];exact pv_nil _),(by exact bB)⟩
 ·skip
  have hc11_:((0:Int)≤t6):=by omega
  have ce12:=LX.at_ ((HXB.out).up kpP hB10) (show ([q]:List (Rat×Rat))[0]?=some q from rfl);have ce12_:g2<w1.heap.size:=World.block_lt_of_cell? _ _ ce12.1;have uce12:=ce12;simp only [CE,Nat.reduceMul,Nat.zero_mul,Nat.add_zero,Nat.add_assoc,Nat.reduceAdd] at uce12;go_wp2;go_ret;exact ⟨_,rfl,(by rw [show interR a [q]=[q] by rw [interR_one,HhT7.out,if_neg (by omega)]];exact pv_one _ q),(by exact bB)⟩
theorem hinter_none (va vb:Value) (a:List (Rat×Rat)) (w:World) (hb:PV w vb []) :
 Calls Tryz.prog 50 #[va,vb] w fun e w'=>∃ v',e=.returned v'∧PV w' v' (interR a [])∧Below w.heap.size w w':=by
 obtain ⟨A,c,rfl⟩:=hb.len;rw [show interR a []=[] from rfl];go_enter Tryz.func50,Tryz.ntmps50;go_wp2;go_ret;exact ⟨_,rfl,pv_nil _,Below.refl _ _⟩
theorem hinter_any {I K:Nat} (va vb:Value) (a b:List (Rat×Rat)) (LN:List ((Rat×Rat)×(Rat×Rat))) (w:World) (ha:PV w va a) (hb:PV w vb b) (hg:Good LN K a) (hwb:Pl.wrap b=b) (hsb:∀ q∈b,Pl.SzP 1 q) (hna:a.length≤800) (hnb:b.length≤800) (hLN:∀ m∈LN,Pl.SzS I m) (hl1:∀ i,i<b.length→Pl.edge b i∈LN) (hl2:∀ s∈endsR b,s∈LN) (hLen:LN.length≤400) (hI:5≤I) (hIK:27*I+18≤K) (hIJ:18*I+9*K+18≤100000) :
 Calls Tryz.prog 50 #[va,vb] w fun e w'=>∃ v',e=.returned v'∧PV w' v' (Pl.interC a b)∧Below w.heap.size w w':=by
 rw [← interR_eq hg.wrap hwb]
 match b,hb,hwb,hsb,hnb,hl1,hl2 with
 | [],hb,_,_,_,_,_=>exact hinter_none va vb a w hb
 | [q],hb,_,hsb,_,_,_=>exact hinter_one va vb a q w ha hb hg.sz (by omega) ((hsb q (by simp)).mono (by omega)) (by omega)
 | x :: y :: l,hb,hwb,hsb,hnb,hl1,hl2=>exact hinter_many va vb a _ LN w ha hb hg hwb hg.sz hsb hna hnb hLN hl1 hl2 hLen hI hIK hIJ (by simp)
end Go.Proofs.YtdkkjfnpinckjaaGreatDoor
