/-
 Contracts for convex sets: the common points of two.
-/
import Derived.Test.YtdkkjfnpinckjaaGreatDoorYSid
import Derived.Test.YtdkkjfnpinckjaaGreatDoorYCcu
import Derived.Test.YtdkkjfnpinckjaaGreatDoorYCutS
import Derived.Test.YtdkkjfnpinckjaaGreatDoorYMo
import Derived.Test.YtdkkjfnpinckjaaGreatDoorYMl
set_option maxRecDepth 100000
set_option linter.unusedSimpArgs false
set_option linter.unusedVariables false
namespace Go.Proofs.YtdkkjfnpinckjaaGreatDoor
open Go Go.RowKit

def cutStep (out:List (Rat×Rat)) (s:(Rat×Rat)×(Rat×Rat)):List (Rat×Rat):=Pl.wrap (Pl.cutE out s.1 s.2)
theorem interC_fold {a b:List (Rat×Rat)} (h2:2≤b.length):Pl.interC a b=(Pl.sides b).foldl cutStep a:=by
 unfold Pl.interC;rw [if_neg (by omega),if_neg (by omega)];rfl
theorem foldS_snoc {l:List ((Rat×Rat)×(Rat×Rat))} {k:Nat} {x:(Rat×Rat)×(Rat×Rat)} {a:List (Rat×Rat)} (h:l[k]?=some x):(l.take (k+1)).foldl cutStep a=cutStep ((l.take k).foldl cutStep a) x:=by
 rw [List.take_add_one,h,List.foldl_append];rfl
structure Good (LN:List ((Rat×Rat)×(Rat×Rat))) (K:Nat) (h:List (Rat×Rat)):Prop where
 wrap:Pl.wrap h=h
 car:Pl.Car LN h
 sz:∀ q∈h,Pl.SzP K q
theorem Good.len {LN:List ((Rat×Rat)×(Rat×Rat))} {K:Nat} {h:List (Rat×Rat)} (g:Good LN K h) (hn:LN.length≤1000):h.length≤2001:=by
 have:=Pl.car_len g.wrap g.car;omega
theorem Good.csz {LN:List ((Rat×Rat)×(Rat×Rat))} {I K:Nat} {h:List (Rat×Rat)} (g:Good LN K h) (hS:∀ m∈LN,Pl.SzS I m) (hK:27*I+18≤K) {x:(Rat×Rat)×(Rat×Rat)} (hx:x∈LN):∀ q∈Pl.cutE h x.1 x.2,Pl.SzP K q :=
 Pl.cutE_sz g.wrap g.car hS (hS x hx) hK g.sz
theorem Good.cut {LN:List ((Rat×Rat)×(Rat×Rat))} {I K:Nat} {h:List (Rat×Rat)} (g:Good LN K h) (hS:∀ m∈LN,Pl.SzS I m) (hK:27*I+18≤K) {x:(Rat×Rat)×(Rat×Rat)} (hx:x∈LN) (hne:x.1≠x.2):Good LN K (cutStep h x) :=
 ⟨Pl.wrap_wrap _,Pl.car_cut g.wrap hne g.car hx,fun q hq=>g.csz hS hK hx q ((Pl.wrap_isHull _).sub q hq)⟩
theorem Good.fold {LN:List ((Rat×Rat)×(Rat×Rat))} {I K:Nat} (hS:∀ m∈LN,Pl.SzS I m) (hK:27*I+18≤K):∀ (ss:List ((Rat×Rat)×(Rat×Rat))) {h:List (Rat×Rat)},Good LN K h→(∀ s∈ss,s∈LN∧s.1≠s.2)→Good LN K (ss.foldl cutStep h)
 | [],_,g,_=>g
 | s :: ss,_,g,hs=>Good.fold hS hK ss (g.cut hS hK (hs s (by simp)).1 (hs s (by simp)).2) fun t ht=>hs t (List.mem_cons_of_mem _ ht)
theorem clone_pv (v:Value) (l:List (Rat×Rat)) (w:World) (h:PV w v l) (hn:l.length≤1000000) :
 Calls Tryz.prog 95 #[v] w fun e w'=>∃ v',e=.returned v'∧PV w' v' l∧Below w.heap.size w w' :=
 (clone_any v l w h hn).mono fun _ _ ⟨v',h1,h2,h3⟩=>⟨v',h1,pv_own h2,h3⟩
theorem locS {l:List (Rat×Rat)} {p:Rat×Rat} {t:Int} (h:Pl.locR l p=t):t=-1∨t=0∨t=1:=h▸Pl.locR3 l p

set_option maxHeartbeats 2000000 in
theorem inter_many {I K S:Nat} (va vb:Value) (a b:List (Rat×Rat)) (LN:List ((Rat×Rat)×(Rat×Rat))) (w:World) (ha:PV w va a) (hb:PV w vb b) (hg:Good LN K a) (hwb:Pl.wrap b=b) (hsa:∀ q∈a,Pl.SzP K q) (hsb:∀ q∈b,Pl.SzP S q) (hna:a.length≤3000) (hnb:b.length≤3000) (hLN:∀ m∈LN,Pl.SzS I m) (hsub:∀ s∈Pl.sides b,s∈LN) (hLen:LN.length≤1000) (hIK:27*I+18≤K) (hIJ:18*I+6*K+16≤100000) (hSK:S≤K) (hS:S≤10000) (h2:2≤b.length) :
 Calls Tryz.prog 49 #[va,vb] w fun e w'=>∃ v',e=.returned v'∧PV w' v' (Pl.interC a b)∧Below w.heap.size w w':=by
 obtain ⟨Aa,ca,rfl,hca,hma,hxa⟩:=ha.open_;have HVA:=Lib.hid ha;have HXA:=Lib.hid hxa;have HSA:=Lib.hid hsa;obtain ⟨Ab,cb,rfl,hcb,hmb,hxb⟩:=hb.open_;have HVB:=Lib.hid hb;have HXB:=Lib.hid hxb;have HSB:=Lib.hid hsb;have HGA:=Lib.hid hg;have HLNS:=Lib.hid hLN;have HSUB0:=hsub;have HSNE0:=Pl.sides_ne hwb h2;have HR:Hid (Pl.interC a b=(Pl.sides b).foldl cutStep a):=Lib.hid (interC_fold h2);obtain ⟨SS,hSS⟩:∃ S,Pl.sides b=S:=⟨_,rfl⟩
 have HSD:=Lib.hid hSS;rw [hSS] at HSUB0 HSNE0 HR;have HSUB:=Lib.hid HSUB0;have HSNE:=Lib.hid HSNE0;obtain ⟨NS,hNS⟩:∃ n,SS.length=n:=⟨_,rfl⟩
 have HNS:=Lib.hid hNS
 have hNS3:NS≤3000:=by
  rw [← hNS,← hSS];unfold Pl.sides
  split
  ·have:=Pl.edges_length b;omega
  ·simp
 clear hSS hNS HSUB0 HSNE0 hg hLN hsub hwb;have HFA:Hid (a.take a.length=a):=Lib.hid List.take_length;generalize hNa:a.length=Na at *;have HNA:=Lib.hid hNa;clear ha hxa hsa hNa;have HFB:Hid (b.take b.length=b):=Lib.hid List.take_length;generalize hNb:b.length=Nb at *;have HNB:=Lib.hid hNb;clear hb hxb hsb hNb;have j0:¬ (Nb:Int)=0:=by omega
 have j1:((Nb:Int)==0)=false:=by simpa using j0
 have j2:¬ (Nb:Int)=1:=by omega
 have j3:((Nb:Int)==1)=false:=by simpa using j2
 go_enter Tryz.func49,Tryz.ntmps49;have K1:=Lib.hid (fun W v (h:PV W v a)=>clone_pv v a W h (by rw [HNA.out];omega));go_wp2_with (fail)
 refine calls_named ?_;intro W1 hW1;have hL1:Below w.heap.size w W1:=by rw [hW1];exact bB
 have hB2:Below w.heap.size w W1:=by rw [hW1];exact bB
 clear hW1 hL1;with_reducible refine (K1.out _ _ (HVA.out.up hB2)).mono ?_
 rintro e w1 ⟨v1,rfl,hv1,hb1⟩;have hB3:Below w.heap.size w w1:=bel_up hB2 hb1;have PW1:=Lib.hid hv1;clear hv1;have K4:=Lib.hid (fun W v (h:PV W v b)=>HSD.out▸sides_any v b W h HSB.out (by rw [HNB.out];omega) hS (by rw [HNB.out];exact h2));go_wp2_with (fail)
 refine calls_named ?_;intro W2 hW2;have hL2:Below w1.heap.size w1 W2:=by rw [hW2];exact bB
 have hA5:=hL2;have hB6:Below w.heap.size w W2:=by rw [hW2];exact bB
 clear hW2 hL2;with_reducible refine (K4.out _ _ (HVB.out.up hB6)).mono ?_
 rintro e w2 ⟨v2,rfl,hv2,hb2⟩;have hA7:=bel_up hA5 hb2;have hB8:Below w.heap.size w w2:=bel_up hB6 hb2;clear hA5;obtain ⟨l2,hl2⟩:∃ y_,y_=SS:=⟨_,rfl⟩
 rw [← hl2] at hv2;obtain ⟨A2,c2,rfl,hcc2,hmm2,hx2⟩:=hv2.open_;have XX2:=Lib.hid hx2;have HL2:=Lib.hid hl2;have PL2:=Lib.hid hv2;clear hx2 hv2;have hlen2:l2.length=NS:=by rw [HL2.out];exact HNS.out
 have hle2:l2.length≤1000000:=by rw [hlen2];omega
 have HLEN2:=Lib.hid hlen2;clear hl2 hlen2;generalize hn2:l2.length=N2 at *;have HN2:=Lib.hid hn2;clear hn2;clear PL2;have HZL:Hid (∀ s∈l2,True):=Lib.hid fun _ _=>trivial
 go_wp2_with fail;go_loopw [5,27] (fun s5 s27 wr=>∃ (i:Nat) (out:List (Rat×Rat)),PV wr s5 out∧s27=.int .i64 i∧Below w1.heap.size w1 wr∧Below w2.heap.size w2 wr∧Below w.heap.size w wr∧i≤N2∧Hid (Good LN K out)∧Hid (out=(l2.take i).foldl cutStep a)) (fun _ s27 _=>N2-(intOf s27).toNat)
 case atStart=>exact ⟨0,a,(PW1.out.up hA7),rfl,hA7,Below.refl _ _,hB8,(by omega),HGA,Lib.hid rfl⟩
 case round =>
  clear hB8 hA7;obtain ⟨i,out,pw9,rfl,hA10,hA11,hB12,hi,HG,HE⟩:=hrel;obtain ⟨wr13,hwr13⟩:∃ W_,W_=wr:=⟨_,rfl⟩
  subst hwr13;have PW14:=Lib.hid pw9;clear pw9
  by_cases hlti:i<N2
  ·skip
   have i1i:(i:Int)<N2:=by omega
   obtain ⟨x15,hx16⟩:∃ x,l2[i]?=some x:=⟨_,List.getElem?_eq_getElem (by rw [HN2.out];omega)⟩
   have Hhx16:=Lib.hid hx16;have Zhx16:=Lib.hid (HZL.out _ (List.mem_of_getElem? hx16));clear hx16;have hmem:x15∈SS:=HL2.out▸List.mem_of_getElem? Hhx16.out;have HXL:=Lib.hid (HSUB.out _ hmem);have HXN:=Lib.hid (HSNE.out _ hmem);clear hmem;obtain ⟨g18,o19,ha20,-⟩:=(LX.up XX2.out kpS hA11) _ _ Hhx16.out;subst ha20;have ce17:=LX.at_ ((LX.up XX2.out kpS hA11)) Hhx16.out;have ce17_:g18<wr13.heap.size:=World.block_lt_of_cell? _ _ ce17.1.1;have uce17:=ce17;simp only [CS,Nat.reduceMul] at uce17;have an21:w1.heap.size≤wr13.heap.size:=by have:=hA10.size;omega
   have an22:w2.heap.size≤wr13.heap.size:=by have:=hA11.size;omega
   have an23:wr13.heap.size≤wr13.heap.size:=by omega
   have ne24_:g18<wr13.heap.size:=by omega
   have ne24:=Nat.ne_of_lt ne24_;have ne24':=ne24.symm;have K25:=Lib.hid (fun W v (h:PV W v out)=>ccut_any v out x15.1 x15.2 W h HG.out.sz (by have:=HG.out.len hLen;omega) (HLNS.out _ HXL.out).1 (HLNS.out _ HXL.out).2 hIJ (HG.out.csz HLNS.out hIK HXL.out) (by omega));go_wp2_with (fail)
   refine calls_named ?_;intro W3 hW3;have hL3:Below wr13.heap.size wr13 W3:=by rw [hW3];exact bB
   have c26:Own W3 wr13.heap.size 0 [.bool (ng x15.1.1.num),.string (mg x15.1.1.num.natAbs),.bool false,.string (mg (dn x15.1.1)),.bool (ng x15.1.2.num),.string (mg x15.1.2.num.natAbs),.bool false,.string (mg (dn x15.1.2)),.bool (ng x15.2.1.num),.string (mg x15.2.1.num.natAbs),.bool false,.string (mg (dn x15.2.1)),.bool (ng x15.2.2.num),.string (mg x15.2.2.num.natAbs),.bool false,.string (mg (dn x15.2.2))]:=by
    rw [hW3]
    first
    | (repeat (first|(with_reducible refine own_new (l:=[.bool (ng x15.1.1.num),.string (mg x15.1.1.num.natAbs),.bool false,.string (mg (dn x15.1.1)),.bool (ng x15.1.2.num),.string (mg x15.1.2.num.natAbs),.bool false,.string (mg (dn x15.1.2)),.bool (ng x15.2.1.num),.string (mg x15.2.1.num.natAbs),.bool false,.string (mg (dn x15.2.1)),.bool (ng x15.2.2.num),.string (mg x15.2.2.num.natAbs),.bool false,.string (mg (dn x15.2.2))]) ?_;(simp;done))|with_reducible refine Own.alloc ?_ _|refine Own.far _ _ (by first|(simp;done)|(simp [*];done)|(simp;omega)) ?_));done
    | simp [Own,go_sem,uce17,ne24,ne24',ne24_]
   have hA27:=bel_up hA10 hL3;have hA28:=bel_up hA11 hL3;have hA29:=hL3;have hB30:Below w.heap.size w W3:=by rw [hW3];exact bB
   clear hW3 hL3 uce17 hA10 hA11;with_reducible refine (K25.out _ _ (PW14.out.up hA29)).mono ?_
   rintro e w3 ⟨v3,rfl,hv3,hb3⟩;have c31:=c26.up hb3;have hA32:=bel_up hA27 hb3;have hA33:=bel_up hA28 hb3;have hA34:=bel_up hA29 hb3;have hB35:Below w.heap.size w w3:=bel_up hB30 hb3;clear c26 hA27 hA28 hA29;have PW3:=Lib.hid hv3;clear hv3;have uc31:=c31;simp only [At,Own,Nat.reduceAdd,and_true] at uc31;go_wp2;go_roundw
   case rel=>exact ⟨(i+1),(cutStep out x15),(PW3.out.up (by exact bB)),(by first|rfl|exact congrArg (Value.int .i64) (by omega)|simp [*]),(by exact bB),(by exact bB),(by exact bB),(by omega),Lib.hid (HG.out.cut HLNS.out hIK HXL.out HXN.out),Lib.hid (by rw [foldS_snoc Hhx16.out,HE.out])⟩
   case measure=>simp [intOf]<;>omega
  ·skip
   have hkN:N2=i:=by omega
   subst hkN;have HFO:Hid (out=SS.foldl cutStep a):=Lib.hid (by rw [HE.out,← HL2.out,List.take_of_length_le (by rw [HN2.out];exact Nat.le_refl _)]);go_wp2;go_ret;exact ⟨_,rfl,(by rw [HR.out,← HFO.out];exact PW14.out),(by exact bB)⟩

theorem interC_one (a:List (Rat×Rat)) (q:Rat×Rat):Pl.interC a [q]=if Pl.locR a q=-1 then [] else [q]:=rfl

theorem inter_one {K:Nat} (va vb:Value) (a:List (Rat×Rat)) (q:Rat×Rat) (w:World) (ha:PV w va a) (hb:PV w vb [q]) (hsa:∀ q∈a,Pl.SzP K q) (hna:a.length≤3000) (hq:Pl.SzP K q) (hK:K≤100000) :
 Calls Tryz.prog 49 #[va,vb] w fun e w'=>∃ v',e=.returned v'∧PV w' v' (Pl.interC a [q])∧Below w.heap.size w w':=by
 obtain ⟨Aa,ca,rfl,hca,hma,hxa⟩:=ha.open_;have HVA:=Lib.hid ha;have HXA:=Lib.hid hxa;have HSA:=Lib.hid hsa;generalize hNa:a.length=Na at *;have HNA:=Lib.hid hNa;obtain ⟨Ab,cb,rfl,hcb,hmb,hxb⟩:=hb.open1;have HVB:=Lib.hid hb;have HXB:=Lib.hid hxb;clear ha hb hxa hxb hsa hNa;go_enter Tryz.func49,Tryz.ntmps49;obtain ⟨g2,o3,ha4,-⟩:=HXB.out _ _ (show ([q]:List (Rat×Rat))[0]?=some q from rfl);subst ha4;have ce1:=LX.at_ (HXB.out) (show ([q]:List (Rat×Rat))[0]?=some q from rfl);have ce1_:g2<w.heap.size:=World.block_lt_of_cell? _ _ ce1.1;have uce1:=ce1;simp only [CE,Nat.reduceMul,Nat.zero_mul,Nat.add_zero,Nat.add_assoc,Nat.reduceAdd] at uce1;have kK5:=fun W v (h:PV W v a)=>cloc_any v a q W h HSA.out (by rw [HNA.out];omega) (by omega) hq
 generalize hT7:Pl.locR a q=t6 at kK5;have K5:=Lib.hid kK5;clear kK5;have T8:=Lib.hid (locS hT7);have HhT7:=Lib.hid hT7;clear hT7;go_wp2_with (fail)
 refine calls_named ?_;intro W1 hW1;have hL1:Below w.heap.size w W1:=by rw [hW1];exact bB
 have hB9:Below w.heap.size w W1:=by rw [hW1];exact bB
 clear hW1 hL1 uce1;with_reducible refine (K5.out _ _ (HVA.out.up hB9)).mono ?_
 rintro e w1 ⟨rfl,hb1⟩;have hB10:Below w.heap.size w w1:=bel_up hB9 hb1
 by_cases hc11:(t6:Int)=(-1)
 ·skip
  go_wp2;go_ret;exact ⟨_,rfl,(by rw [show Pl.interC a [q]=[] by rw [interC_one,HhT7.out,if_pos (by omega)]];exact pv_nil _),(by exact bB)⟩
 ·skip
  have hc11_:(((t6:Int))==(-1))=false:=by simpa using hc11
  have K12:=Lib.hid (fun W v (h:PV W v [q])=>clone_pv v [q] W h (by simp));go_wp2_with (fail)
  refine calls_named ?_;intro W2 hW2;have hL2:Below w1.heap.size w1 W2:=by rw [hW2];exact bB
  have hB13:Below w.heap.size w W2:=by rw [hW2];exact bB
  clear hW2 hL2;with_reducible refine (K12.out _ _ (HVB.out.up hB13)).mono ?_
  rintro e w2 ⟨v2,rfl,hv2,hb2⟩;have hB14:Below w.heap.size w w2:=bel_up hB13 hb2;have PW2:=Lib.hid hv2;clear hv2;go_wp2;go_ret;exact ⟨_,rfl,(by rw [show Pl.interC a [q]=[q] by rw [interC_one,HhT7.out,if_neg (by omega)]];exact PW2.out),(by exact bB)⟩

theorem inter_none (va vb:Value) (a:List (Rat×Rat)) (w:World) (hb:PV w vb []) :
 Calls Tryz.prog 49 #[va,vb] w fun e w'=>∃ v',e=.returned v'∧PV w' v' (Pl.interC a [])∧Below w.heap.size w w':=by
 obtain ⟨A,c,rfl⟩:=hb.len;rw [show Pl.interC a []=[] from rfl];go_enter Tryz.func49,Tryz.ntmps49;go_wp2;go_ret;exact ⟨_,rfl,pv_nil _,Below.refl _ _⟩
theorem inter_any {I K S:Nat} (va vb:Value) (a b:List (Rat×Rat)) (LN:List ((Rat×Rat)×(Rat×Rat))) (w:World) (ha:PV w va a) (hb:PV w vb b) (hg:Good LN K a) (hwb:Pl.wrap b=b) (hsb:∀ q∈b,Pl.SzP S q) (hna:a.length≤3000) (hnb:b.length≤3000) (hLN:∀ m∈LN,Pl.SzS I m) (hsub:∀ s∈Pl.sides b,s∈LN) (hLen:LN.length≤1000) (hIK:27*I+18≤K) (hIJ:18*I+6*K+16≤100000) (hSK:S≤K) (hS:S≤10000) :
 Calls Tryz.prog 49 #[va,vb] w fun e w'=>∃ v',e=.returned v'∧PV w' v' (Pl.interC a b)∧Below w.heap.size w w':=by
 match b,hb,hwb,hsb,hnb,hsub with
 | [],hb,_,_,_,_=>exact inter_none va vb a w hb
 | [q],hb,_,hsb,_,_=>exact inter_one va vb a q w ha hb hg.sz hna ((hsb q (by simp)).mono hSK) (by omega)
 | x :: y :: l,hb,hwb,hsb,hnb,hsub=>exact inter_many va vb a _ LN w ha hb hg hwb hg.sz hsb hna hnb hLN hsub hLen hIK hIJ hSK hS (by simp)
end Go.Proofs.YtdkkjfnpinckjaaGreatDoor
