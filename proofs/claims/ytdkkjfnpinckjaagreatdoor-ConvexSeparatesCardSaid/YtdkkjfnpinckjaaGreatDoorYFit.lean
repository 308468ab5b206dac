/-
 Contracts for convex sets: separations that say that two sets meet; the reference's look at a separation.
-/
import Derived.Test.YtdkkjfnpinckjaaGreatDoorYMo
import Derived.Test.YtdkkjfnpinckjaaGreatDoorYMq
set_option maxRecDepth 100000
set_option linter.unusedSimpArgs false
set_option linter.unusedVariables false
namespace Go.Proofs.YtdkkjfnpinckjaaGreatDoor
open Go Go.RowKit

def fitsB (a b:List (Rat×Rat)) (ap:Bool) (p n:Rat×Rat) (c:Rat):Bool :=
 if ap then a.all (fun q=>Pl.cmpQ (Pl.dotP q n) c == -1)&&b.all (fun q=>Pl.cmpQ (Pl.dotP q n) c==1)&&decide (p=(0,0))
 else decide (n=(0,0))&&decide (c=0)&&decide (0≤Pl.locR a p)&&decide (0≤Pl.locR b p)
def csepR (a b:List (Rat×Rat)) (ap:Bool) (cm dr:Rat×Rat) (lv:Rat):Int :=
 if a.length=0∨b.length=0 then 10 else if ap then csepA a b cm dr lv else if dr≠(0,0)∨lv≠0∨Pl.locR a cm=-1∨Pl.locR b cm=-1 then 30 else 0
theorem all_snoc {α:Type} {l:List α} {k:Nat} {x:α} {f:α→Bool} (hx:l[k]?=some x) (h:(l.take k).all f=true) (h2:f x=true):(l.take (k+1)).all f=true:=by
 rw [List.take_add_one,hx];simp [h,h2]
theorem all_false {α:Type} {l:List α} {k:Nat} {x:α} {f:α→Bool} (hx:l[k]?=some x) (h2:f x=false):l.all f=false:=by
 rw [Bool.eq_false_iff];intro h;rw [List.all_eq_true] at h;rw [h x (List.mem_of_getElem? hx)] at h2;cases h2

theorem fits_meet {S:Nat} (va vb:Value) (a b:List (Rat×Rat)) (p n:Rat×Rat) (c:Rat) (w:World) (ha:PV w va a) (hb:PV w vb b) (hsa:∀ q∈a,Pl.SzP S q) (hsb:∀ q∈b,Pl.SzP S q) (hna:a.length≤1000000) (hnb:b.length≤1000000) (hS:S≤100000) (hp:Pl.SzP S p) (hn:Pl.SzP S n) (hc:Pl.Sz S c) :
 Calls Tryz.prog 22 #[va,vb,.bool false,pv p,pv n,qv c] w fun e w'=>e=.returned (.bool (fitsB a b false p n c))∧Below w.heap.size w w':=by
 obtain ⟨Aa,ca,rfl,hca,hma,hxa⟩:=ha.open_;have HVA:=Lib.hid ha;have HXA:=Lib.hid hxa;have HSA:=Lib.hid hsa;obtain ⟨Ab,cb,rfl,hcb,hmb,hxb⟩:=hb.open_;have HVB:=Lib.hid hb;have HXB:=Lib.hid hxb;have HSB:=Lib.hid hsb;have HFA:Hid (a.take a.length=a):=Lib.hid List.take_length;generalize hNa:a.length=Na at *;have HNA:=Lib.hid hNa;clear ha hxa hsa hNa;have HFB:Hid (b.take b.length=b):=Lib.hid List.take_length;generalize hNb:b.length=Nb at *;have HNB:=Lib.hid hNb;clear hb hxb hsb hNb;go_enter Tryz.func22,Tryz.ntmps22
 by_cases hq1:n=((0:Rat),(0:Rat))
 ·skip
  have EQhq1:=fun W=>eqP_zero n W
  rw [decide_eq_true hq1] at EQhq1;have Hhq1:=Lib.hid hq1;clear hq1
  by_cases hq2:c=(0:Rat)
  ·skip
   have EQhq2:=fun W=>eqQ_zero c W
   rw [decide_eq_true hq2] at EQhq2;have Hhq2:=Lib.hid hq2;clear hq2
   by_cases hc12:((Pl.locR a p):Int)<0
   ·skip
    have hc12_:¬ ((0:Int)≤(Pl.locR a p)):=by omega
    have K13:=Lib.hid (fun W (h:PV W (.slice Aa Na ca) a)=>hloc_any (.slice Aa Na ca) a p W h (HSA.out) (by rw [HNA.out];exact hna) hS hp);go_wp2_with (fail)
    refine calls_named ?_;intro W2 hW2;have hL2:Below w.heap.size w W2:=by rw [hW2];exact bB
    have c14:Own W2 w.heap.size 0 [.bool (ng p.1.num),.string (mg p.1.num.natAbs),.bool false,.string (mg (dn p.1)),.bool (ng p.2.num),.string (mg p.2.num.natAbs),.bool false,.string (mg (dn p.2))]:=by
     rw [hW2]
     first
     | (repeat (first|(with_reducible refine own_new (l:=[.bool (ng p.1.num),.string (mg p.1.num.natAbs),.bool false,.string (mg (dn p.1)),.bool (ng p.2.num),.string (mg p.2.num.natAbs),.bool false,.string (mg (dn p.2))]) ?_;(simp;done))|with_reducible refine Own.alloc ?_ _|refine Own.far _ _ (by first|(simp;done)|(simp [*];done)|(simp;omega)) ?_));done
     | simp [Own,go_sem]
    have c15:Own W2 (w.heap.size+1) 0 [.bool (ng n.1.num),.string (mg n.1.num.natAbs),.bool false,.string (mg (dn n.1)),.bool (ng n.2.num),.string (mg n.2.num.natAbs),.bool false,.string (mg (dn n.2))]:=by
     rw [hW2]
     first
     | (repeat (first|(with_reducible refine own_new (l:=[.bool (ng n.1.num),.string (mg n.1.num.natAbs),.bool false,.string (mg (dn n.1)),.bool (ng n.2.num),.string (mg n.2.num.natAbs),.bool false,.string (mg (dn n.2))]) ?_;(simp;done))|with_reducible refine Own.alloc ?_ _|refine Own.far _ _ (by first|(simp;done)|(simp [*];done)|(simp;omega)) ?_));done
     | simp [Own,go_sem]
    have c16:Own W2 (w.heap.size+2) 0 [.bool (ng c.num),.string (mg c.num.natAbs),.bool false,.string (mg (dn c))]:=by
     rw [hW2]
     first
     | (repeat (first|(with_reducible refine own_new (l:=[.bool (ng c.num),.string (mg c.num.natAbs),.bool false,.string (mg (dn c))]) ?_;(simp;done))|with_reducible refine Own.alloc ?_ _|refine Own.far _ _ (by first|(simp;done)|(simp [*];done)|(simp;omega)) ?_));done
     | simp [Own,go_sem]
    have hB17:Below w.heap.size w W2:=by rw [hW2];exact bB
    clear hW2 hL2;with_reducible refine (K13.out _ (HVA.out.up hB17)).mono ?_
    rintro e w2 ⟨rfl,hb2⟩;have c18:=c14.up hb2;have c19:=c15.up hb2;have c20:=c16.up hb2;have hB21:Below w.heap.size w w2:=bel_up hB17 hb2;clear c14 c15 c16;have uc18:=c18;have uc19:=c19;have uc20:=c20;simp only [At,Own,Nat.reduceAdd,and_true] at uc18 uc19 uc20;go_wp2;go_ret;refine ⟨(by simp only [fitsB,Bool.false_eq_true,if_false,Hhq1.out,Hhq2.out,hc12,decide_true,decide_false,Bool.and_true,Bool.and_false,Bool.false_and,Bool.true_and]<;>first|rfl|(simp [*];done)|(simp [*]<;>omega)),?_⟩;exact bB
   ·skip
    have hc12_:((0:Int)≤(Pl.locR a p)):=by omega
    have K22:=Lib.hid (fun W (h:PV W (.slice Aa Na ca) a)=>hloc_any (.slice Aa Na ca) a p W h (HSA.out) (by rw [HNA.out];exact hna) hS hp);go_wp2_with (fail)
    refine calls_named ?_;intro W3 hW3;have hL3:Below w.heap.size w W3:=by rw [hW3];exact bB
    have c23:Own W3 w.heap.size 0 [.bool (ng p.1.num),.string (mg p.1.num.natAbs),.bool false,.string (mg (dn p.1)),.bool (ng p.2.num),.string (mg p.2.num.natAbs),.bool false,.string (mg (dn p.2))]:=by
     rw [hW3]
     first
     | (repeat (first|(with_reducible refine own_new (l:=[.bool (ng p.1.num),.string (mg p.1.num.natAbs),.bool false,.string (mg (dn p.1)),.bool (ng p.2.num),.string (mg p.2.num.natAbs),.bool false,.string (mg (dn p.2))]) ?_;(simp;done))|with_reducible refine Own.alloc ?_ _|refine Own.far _ _ (by first|(simp;done)|(simp [*];done)|(simp;omega)) ?_));done
     | simp [Own,go_sem]
    have c24:Own W3 (w.heap.size+1) 0 [.bool (ng n.1.num),.string (mg n.1.num.natAbs),.bool false,.string (mg (dn n.1)),.bool (ng n.2.num),.string (mg n.2.num.natAbs),.bool false,.string (mg (dn n.2))]:=by
     rw [hW3]
     first
     | (repeat (first|(with_reducible refine own_new (l:=[.bool (ng n.1.num),.string (mg n.1.num.natAbs),.bool false,.string (mg (dn n.1)),.bool (ng n.2.num),.string (mg n.2.num.natAbs),.bool false,.string (mg (dn n.2))]) ?_;(simp;done))|with_reducible refine Own.alloc ?_ _|refine Own.far _ _ (by first|(simp;done)|(simp [*];done)|(simp;omega)) ?_));done
     | simp [Own,go_sem]
    have c25:Own W3 (w.heap.size+2) 0 [.bool (ng c.num),.string (mg c.num.natAbs),.bool false,.string (mg (dn c))]:=by
     rw [hW3]
     first
     | (repeat (first|(with_reducible refine own_new (l:=[.bool (ng c.num),.string (mg c.num.natAbs),.bool false,.string (mg (dn c))]) ?_;(simp;done))|with_reducible refine Own.alloc ?_ _|refine Own.far _ _ (by first|(simp;done)|(simp [*];done)|(simp;omega)) ?_));done
     | simp [Own,go_sem]
    have hB26:Below w.heap.size w W3:=by rw [hW3];exact bB
    clear hW3 hL3;with_reducible refine (K22.out _ (HVA.out.up hB26)).mono ?_
    rintro e w3 ⟨rfl,hb3⟩;have c27:=c23.up hb3;have c28:=c24.up hb3;have c29:=c25.up hb3;have hB30:Below w.heap.size w w3:=bel_up hB26 hb3;clear c23 c24 c25;have uc27:=c27;have uc28:=c28;have uc29:=c29;simp only [At,Own,Nat.reduceAdd,and_true] at uc27 uc28 uc29;have K31:=Lib.hid (fun W (h:PV W (.slice Ab Nb cb) b)=>hloc_any (.slice Ab Nb cb) b p W h (HSB.out) (by rw [HNB.out];exact hnb) hS hp);go_wp2_with (fail)
    refine calls_named ?_;intro W4 hW4;have hL4:Below w3.heap.size w3 W4:=by rw [hW4];exact bB
    have c32:=c27.up hL4;have c33:=c28.up hL4;have c34:=c29.up hL4;have hB35:Below w.heap.size w W4:=by rw [hW4];exact bB
    clear hW4 hL4 uc27 uc28 uc29 c27 c28 c29;with_reducible refine (K31.out _ (HVB.out.up hB35)).mono ?_
    rintro e w4 ⟨rfl,hb4⟩;have c36:=c32.up hb4;have c37:=c33.up hb4;have c38:=c34.up hb4;have hB39:Below w.heap.size w w4:=bel_up hB35 hb4;clear c32 c33 c34;have uc36:=c36;have uc37:=c37;have uc38:=c38;simp only [At,Own,Nat.reduceAdd,and_true] at uc36 uc37 uc38;go_wp2;go_ret;refine ⟨(by simp only [fitsB,Bool.false_eq_true,if_false,Hhq1.out,Hhq2.out,hc12,decide_true,decide_false,Bool.and_true,Bool.and_false,Bool.false_and,Bool.true_and]<;>first|rfl|(simp [*];done)|(simp [*]<;>omega)),?_⟩;exact bB
  ·skip
   have EQhq2:=fun W=>eqQ_zero c W
   rw [decide_eq_false hq2] at EQhq2;have Hhq2:=Lib.hid hq2;clear hq2;go_wp2;go_ret;refine ⟨(by simp only [fitsB,Bool.false_eq_true,if_false,Hhq1.out,Hhq2.out,decide_true,decide_false,Bool.and_true,Bool.and_false,Bool.false_and,Bool.true_and]<;>first|rfl|(simp [*];done)|(simp [*]<;>omega)),?_⟩;exact bB
 ·skip
  have EQhq1:=fun W=>eqP_zero n W
  rw [decide_eq_false hq1] at EQhq1;have Hhq1:=Lib.hid hq1;clear hq1;go_wp2;go_ret;refine ⟨(by simp only [fitsB,Bool.false_eq_true,if_false,Hhq1.out,decide_true,decide_false,Bool.and_true,Bool.and_false,Bool.false_and,Bool.true_and]<;>first|rfl|(simp [*];done)|(simp [*]<;>omega)),?_⟩;exact bB

set_option maxHeartbeats 2000000 in
theorem fits_apart {S:Nat} (va vb:Value) (a b:List (Rat×Rat)) (p n:Rat×Rat) (c:Rat) (w:World) (ha:PV w va a) (hb:PV w vb b) (hsa:∀ q∈a,Pl.SzP S q) (hsb:∀ q∈b,Pl.SzP S q) (hna:a.length≤1000000) (hnb:b.length≤1000000) (hS:S≤100000) (hp:Pl.SzP S p) (hn:Pl.SzP S n) (hc:Pl.Sz S c) :
 Calls Tryz.prog 22 #[va,vb,.bool true,pv p,pv n,qv c] w fun e w'=>e=.returned (.bool (fitsB a b true p n c))∧Below w.heap.size w w':=by
 obtain ⟨Aa,ca,rfl,hca,hma,hxa⟩:=ha.open_;have HVA:=Lib.hid ha;have HXA:=Lib.hid hxa;have HSA:=Lib.hid hsa;obtain ⟨Ab,cb,rfl,hcb,hmb,hxb⟩:=hb.open_;have HVB:=Lib.hid hb;have HXB:=Lib.hid hxb;have HSB:=Lib.hid hsb;have HFA:Hid (a.take a.length=a):=Lib.hid List.take_length;generalize hNa:a.length=Na at *;have HNA:=Lib.hid hNa;clear ha hxa hsa hNa;have HFB:Hid (b.take b.length=b):=Lib.hid List.take_length;generalize hNb:b.length=Nb at *;have HNB:=Lib.hid hNb;clear hb hxb hsb hNb;go_enter Tryz.func22,Tryz.ntmps22;go_wp2_with fail;refine wp_named ?_;intro W1 hW1;have hL1:Below w.heap.size w W1:=by rw [hW1];exact bB
 have c1:Own W1 w.heap.size 0 [.bool (ng p.1.num),.string (mg p.1.num.natAbs),.bool false,.string (mg (dn p.1)),.bool (ng p.2.num),.string (mg p.2.num.natAbs),.bool false,.string (mg (dn p.2))]:=by
  rw [hW1]
  first
  | (repeat (first|(with_reducible refine own_new (l:=[.bool (ng p.1.num),.string (mg p.1.num.natAbs),.bool false,.string (mg (dn p.1)),.bool (ng p.2.num),.string (mg p.2.num.natAbs),.bool false,.string (mg (dn p.2))]) ?_;(simp;done))|with_reducible refine Own.alloc ?_ _|refine Own.far _ _ (by first|(simp;done)|(simp [*];done)|(simp;omega)) ?_));done
  | simp [Own,go_sem]
 have c2:Own W1 (w.heap.size+1) 0 [.bool (ng n.1.num),.string (mg n.1.num.natAbs),.bool false,.string (mg (dn n.1)),.bool (ng n.2.num),.string (mg n.2.num.natAbs),.bool false,.string (mg (dn n.2))]:=by
  rw [hW1]
  first
  | (repeat (first|(with_reducible refine own_new (l:=[.bool (ng n.1.num),.string (mg n.1.num.natAbs),.bool false,.string (mg (dn n.1)),.bool (ng n.2.num),.string (mg n.2.num.natAbs),.bool false,.string (mg (dn n.2))]) ?_;(simp;done))|with_reducible refine Own.alloc ?_ _|refine Own.far _ _ (by first|(simp;done)|(simp [*];done)|(simp;omega)) ?_));done
  | simp [Own,go_sem]
 have c3:Own W1 (w.heap.size+2) 0 [.bool (ng c.num),.string (mg c.num.natAbs),.bool false,.string (mg (dn c))]:=by
  rw [hW1]
  first
  | (repeat (first|(with_reducible refine own_new (l:=[.bool (ng c.num),.string (mg c.num.natAbs),.bool false,.string (mg (dn c))]) ?_;(simp;done))|with_reducible refine Own.alloc ?_ _|refine Own.far _ _ (by first|(simp;done)|(simp [*];done)|(simp;omega)) ?_));done
  | simp [Own,go_sem]
 have hB4:Below w.heap.size w W1:=by rw [hW1];exact bB
 clear hW1 hL1;go_loopw [13] (fun s13 wr=>∃ (k:Nat),s13=.int .i64 k∧Own wr w.heap.size 0 [.bool (ng p.1.num),.string (mg p.1.num.natAbs),.bool false,.string (mg (dn p.1)),.bool (ng p.2.num),.string (mg p.2.num.natAbs),.bool false,.string (mg (dn p.2))]∧Own wr (w.heap.size+1) 0 [.bool (ng n.1.num),.string (mg n.1.num.natAbs),.bool false,.string (mg (dn n.1)),.bool (ng n.2.num),.string (mg n.2.num.natAbs),.bool false,.string (mg (dn n.2))]∧Own wr (w.heap.size+2) 0 [.bool (ng c.num),.string (mg c.num.natAbs),.bool false,.string (mg (dn c))]∧Below w.heap.size w wr∧k≤Na∧Hid ((a.take k).all (fun q=>Pl.cmpQ (Pl.dotP q n) c == -1)=true)) (fun s13 _=>Na-(intOf s13).toNat)
 case atStart=>exact ⟨0,rfl,c1,c2,c3,hB4,(by omega),Lib.hid rfl⟩
 case round =>
  clear c1 c2 c3 hB4;obtain ⟨k,rfl,b5,b6,b7,hB8,hk,HEA⟩:=hrel;obtain ⟨wr9,hwr9⟩:∃ W_,W_=wr:=⟨_,rfl⟩
  subst hwr9
  by_cases hltk:k<Na
  ·skip
   have i1k:(k:Int)<Na:=by omega
   obtain ⟨x10,hx11⟩:∃ x,a[k]?=some x:=⟨_,List.getElem?_eq_getElem (by rw [HNA.out];omega)⟩
   have Hhx11:=Lib.hid hx11;have Zhx11:=Lib.hid (HSA.out _ (List.mem_of_getElem? hx11));clear hx11;have K12:=Lib.hid (fun W=>hdot_any x10 n W Zhx11.out hn (by omega) (by omega));have kK13:=fun W=>rcompare_any (Pl.dotP x10 n) c W ((Zhx11.out.dot hn).mono (by omega)) (hc.mono (by omega))
   generalize hT15:Pl.cmpQ (Pl.dotP x10 n) c=t14 at kK13;have K13:=Lib.hid kK13;clear kK13;have T16:=Lib.hid (sgnQ hT15);have HhT15:=Lib.hid hT15;clear hT15;go_wp2_with fail;refine wp_named ?_;intro W2 hW2;have hL2:Below wr9.heap.size wr9 W2:=by rw [hW2];exact bB
   have c17:=b5.up hL2;have c18:=b6.up hL2;have c19:=b7.up hL2;have hB20:Below w.heap.size w W2:=by rw [hW2];exact bB
   clear hW2 hL2 b5 b6 b7;have dc17:=fun p:Bel W2=>c17.bel p;have dc18:=fun p:Bel W2=>c18.bel p;have dc19:=fun p:Bel W2=>c19.bel p
   simp only [At,Own,Nat.reduceAdd,and_true] at dc17 dc18 dc19;obtain ⟨g22,o23,ha24,-⟩:=(HXA.out).up kpP hB20 _ _ Hhx11.out;subst ha24;have ce21:=LX.at_ ((HXA.out).up kpP hB20) Hhx11.out;have ce21_:g22<W2.heap.size:=World.block_lt_of_cell? _ _ ce21.1;have dce21:=fun b:Bel W2=>ce21.bel b
   simp only [CE,Nat.reduceMul] at dce21;refine wp_region_all (by kernel_rfl) (by kernel_rfl) ?_;repeat (go_big_quiet_step (first|(go_at_call 28;with_reducible exact Calls.bel (K12.out _))|(go_at_call 31;with_reducible exact Calls.bel (K13.out _))))
   refine wpQuiet_nil ?_;intro w2 hb2;have c25:=c17.up hb2;have c26:=c18.up hb2;have c27:=c19.up hb2;have hB28:Below w.heap.size w w2:=bel_up hB20 hb2;clear dc17 dc18 dc19 dce21 c17 c18 c19;have uc25:=c25;have uc26:=c26;have uc27:=c27;simp only [At,Own,Nat.reduceAdd,and_true] at uc25 uc26 uc27;rcases T16.out with rfl|rfl|rfl
   ·skip
    go_wp2;go_roundw
    case rel=>exact ⟨(k+1),(by first|rfl|exact congrArg (Value.int .i64) (by omega)|simp [*]),(by repeat (first|with_reducible exact c25|refine Own.far _ _ (by simp<;>omega) ?_|with_reducible refine Own.alloc ?_ _)),(by repeat (first|with_reducible exact c26|refine Own.far _ _ (by simp<;>omega) ?_|with_reducible refine Own.alloc ?_ _)),(by repeat (first|with_reducible exact c27|refine Own.far _ _ (by simp<;>omega) ?_|with_reducible refine Own.alloc ?_ _)),(by exact bB),(by omega),Lib.hid (all_snoc Hhx11.out HEA.out (by rw [HhT15.out];rfl))⟩
    case measure=>simp [intOf]<;>omega
   ·skip
    go_wp2;go_ret;refine ⟨(by simp only [fitsB,if_true,all_false (f:=fun q=>Pl.cmpQ (Pl.dotP q n) c == -1) Hhx11.out (by rw [HhT15.out];rfl)]<;>rfl),?_⟩;exact bB
   ·skip
    go_wp2;go_ret;refine ⟨(by simp only [fitsB,if_true,all_false (f:=fun q=>Pl.cmpQ (Pl.dotP q n) c == -1) Hhx11.out (by rw [HhT15.out];rfl)]<;>rfl),?_⟩;exact bB
  ·skip
   have hkN:Na=k:=by omega
   subst hkN;have HFA:Hid (a.all (fun q=>Pl.cmpQ (Pl.dotP q n) c == -1)=true):=Lib.hid (by have:=HEA.out;rwa [List.take_of_length_le (by rw [HNA.out];exact Nat.le_refl _)] at this);go_wp2_with fail;go_loopw [14] (fun s14 wr=>∃ (k:Nat),s14=.int .i64 k∧Own wr w.heap.size 0 [.bool (ng p.1.num),.string (mg p.1.num.natAbs),.bool false,.string (mg (dn p.1)),.bool (ng p.2.num),.string (mg p.2.num.natAbs),.bool false,.string (mg (dn p.2))]∧Own wr (w.heap.size+1) 0 [.bool (ng n.1.num),.string (mg n.1.num.natAbs),.bool false,.string (mg (dn n.1)),.bool (ng n.2.num),.string (mg n.2.num.natAbs),.bool false,.string (mg (dn n.2))]∧Own wr (w.heap.size+2) 0 [.bool (ng c.num),.string (mg c.num.natAbs),.bool false,.string (mg (dn c))]∧Below w.heap.size w wr∧k≤Nb∧Hid ((b.take k).all (fun q=>Pl.cmpQ (Pl.dotP q n) c==1)=true)) (fun s14 _=>Nb-(intOf s14).toNat)
   case atStart=>exact ⟨0,rfl,b5,b6,b7,hB8,(by omega),Lib.hid rfl⟩
   case round =>
    clear b5 b6 b7 hB8;obtain ⟨k,rfl,b29,b30,b31,hB32,hk,HEB⟩:=hrel;obtain ⟨wr33,hwr33⟩:∃ W_,W_=wr:=⟨_,rfl⟩
    subst hwr33
    by_cases hltk:k<Nb
    ·skip
     have i1k:(k:Int)<Nb:=by omega
     obtain ⟨x34,hx35⟩:∃ x,b[k]?=some x:=⟨_,List.getElem?_eq_getElem (by rw [HNB.out];omega)⟩
     have Hhx35:=Lib.hid hx35;have Zhx35:=Lib.hid (HSB.out _ (List.mem_of_getElem? hx35));clear hx35;have K36:=Lib.hid (fun W=>hdot_any x34 n W Zhx35.out hn (by omega) (by omega));have kK37:=fun W=>rcompare_any (Pl.dotP x34 n) c W ((Zhx35.out.dot hn).mono (by omega)) (hc.mono (by omega))
     generalize hT39:Pl.cmpQ (Pl.dotP x34 n) c=t38 at kK37;have K37:=Lib.hid kK37;clear kK37;have T40:=Lib.hid (sgnQ hT39);have HhT39:=Lib.hid hT39;clear hT39;go_wp2_with fail;refine wp_named ?_;intro W3 hW3;have hL3:Below wr33.heap.size wr33 W3:=by rw [hW3];exact bB
     have c41:=b29.up hL3;have c42:=b30.up hL3;have c43:=b31.up hL3;have hB44:Below w.heap.size w W3:=by rw [hW3];exact bB
     clear hW3 hL3 b29 b30 b31;have dc41:=fun p:Bel W3=>c41.bel p;have dc42:=fun p:Bel W3=>c42.bel p;have dc43:=fun p:Bel W3=>c43.bel p
     simp only [At,Own,Nat.reduceAdd,and_true] at dc41 dc42 dc43;obtain ⟨g46,o47,ha48,-⟩:=(HXB.out).up kpP hB44 _ _ Hhx35.out;subst ha48;have ce45:=LX.at_ ((HXB.out).up kpP hB44) Hhx35.out;have ce45_:g46<W3.heap.size:=World.block_lt_of_cell? _ _ ce45.1;have dce45:=fun b:Bel W3=>ce45.bel b
     simp only [CE,Nat.reduceMul] at dce45;refine wp_region_all (by kernel_rfl) (by kernel_rfl) ?_;repeat (go_big_quiet_step (first|(go_at_call 28;with_reducible exact Calls.bel (K36.out _))|(go_at_call 31;with_reducible exact Calls.bel (K37.out _))))
     refine wpQuiet_nil ?_;intro w3 hb3;have c49:=c41.up hb3;have c50:=c42.up hb3;have c51:=c43.up hb3;have hB52:Below w.heap.size w w3:=bel_up hB44 hb3;clear dc41 dc42 dc43 dce45 c41 c42 c43;have uc49:=c49;have uc50:=c50;have uc51:=c51;simp only [At,Own,Nat.reduceAdd,and_true] at uc49 uc50 uc51;rcases T40.out with rfl|rfl|rfl
     ·skip
      go_wp2;go_ret;refine ⟨(by simp only [fitsB,if_true,HFA.out,all_false (f:=fun q=>Pl.cmpQ (Pl.dotP q n) c==1) Hhx35.out (by rw [HhT39.out];rfl)]<;>rfl),?_⟩;exact bB
     ·skip
      go_wp2;go_ret;refine ⟨(by simp only [fitsB,if_true,HFA.out,all_false (f:=fun q=>Pl.cmpQ (Pl.dotP q n) c==1) Hhx35.out (by rw [HhT39.out];rfl)]<;>rfl),?_⟩;exact bB
     ·skip
      go_wp2;go_roundw
      case rel=>exact ⟨(k+1),(by first|rfl|exact congrArg (Value.int .i64) (by omega)|simp [*]),(by repeat (first|with_reducible exact c49|refine Own.far _ _ (by simp<;>omega) ?_|with_reducible refine Own.alloc ?_ _)),(by repeat (first|with_reducible exact c50|refine Own.far _ _ (by simp<;>omega) ?_|with_reducible refine Own.alloc ?_ _)),(by repeat (first|with_reducible exact c51|refine Own.far _ _ (by simp<;>omega) ?_|with_reducible refine Own.alloc ?_ _)),(by exact bB),(by omega),Lib.hid (all_snoc Hhx35.out HEB.out (by rw [HhT39.out];rfl))⟩
      case measure=>simp [intOf]<;>omega
    ·skip
     have hkN:Nb=k:=by omega
     subst hkN;have HFB:Hid (b.all (fun q=>Pl.cmpQ (Pl.dotP q n) c==1)=true):=Lib.hid (by have:=HEB.out;rwa [List.take_of_length_le (by rw [HNB.out];exact Nat.le_refl _)] at this)
     by_cases hq53:p=((0:Rat),(0:Rat))
     ·skip
      have EQhq53:=fun W=>eqP_zero p W
      rw [decide_eq_true hq53] at EQhq53;have Hhq53:=Lib.hid hq53;clear hq53;have ub29:=b29;have ub30:=b30;have ub31:=b31;simp only [At,Own,Nat.reduceAdd,and_true] at ub29 ub30 ub31;go_wp2;go_ret;refine ⟨(by simp only [fitsB,if_true,HFA.out,HFB.out,Hhq53.out,decide_true,decide_false]<;>rfl),?_⟩;exact bB
     ·skip
      have EQhq53:=fun W=>eqP_zero p W
      rw [decide_eq_false hq53] at EQhq53;have Hhq53:=Lib.hid hq53;clear hq53;have ub29:=b29;have ub30:=b30;have ub31:=b31;simp only [At,Own,Nat.reduceAdd,and_true] at ub29 ub30 ub31;go_wp2;go_ret;refine ⟨(by simp only [fitsB,if_true,HFA.out,HFB.out,Hhq53.out,decide_true,decide_false]<;>rfl),?_⟩;exact bB

theorem csep_meet {S:Nat} (va vb:Value) (a b:List (Rat×Rat)) (cm dr:Rat×Rat) (lv:Rat) (w:World) (ha:PV w va a) (hb:PV w vb b) (hsa:∀ q∈a,Pl.SzP S q) (hsb:∀ q∈b,Pl.SzP S q) (hna:a.length≤1000000) (hnb:b.length≤1000000) (hS:S≤100000) (hcm:Pl.SzP S cm) (h0a:0<a.length) (h0b:0<b.length) :
 Calls Tryz.prog 23 #[va,vb,sepv false cm dr lv] w fun e w'=>e=.returned (.int .i64 (csepR a b false cm dr lv))∧Below w.heap.size w w':=by
 obtain ⟨Aa,ca,rfl,hca,hma,hxa⟩:=ha.open_;have HVA:=Lib.hid ha;have HXA:=Lib.hid hxa;have HSA:=Lib.hid hsa;obtain ⟨Ab,cb,rfl,hcb,hmb,hxb⟩:=hb.open_;have HVB:=Lib.hid hb;have HXB:=Lib.hid hxb;have HSB:=Lib.hid hsb;have HZ0:Hid ((a.length=0∨b.length=0)=False):=Lib.hid (eq_false (by omega));have HCA:=Lib.hid (Pl.locR3 a cm);have HCB:=Lib.hid (Pl.locR3 b cm);have HRR:Hid (csepR a b false cm dr lv=if dr≠(0,0)∨lv≠0∨Pl.locR a cm=-1∨Pl.locR b cm=-1 then 30 else 0):=Lib.hid (by simp only [csepR,HZ0.out,if_false,Bool.false_eq_true]);have HFA:Hid (a.take a.length=a):=Lib.hid List.take_length;generalize hNa:a.length=Na at *;have HNA:=Lib.hid hNa;clear ha hxa hsa hNa;have HFB:Hid (b.take b.length=b):=Lib.hid List.take_length;generalize hNb:b.length=Nb at *;have HNB:=Lib.hid hNb;clear hb hxb hsb hNb;have j1:((Na:Int)==0)=false:=by simp;omega
 have j2:((Nb:Int)==0)=false:=by simp;omega
 have j3:¬ (Na:Int)=0:=by omega
 have j4:¬ (Nb:Int)=0:=by omega
 go_enter Tryz.func23,Tryz.ntmps23
 by_cases hq1:dr=((0:Rat),(0:Rat))
 ·skip
  have EQhq1:=fun W=>eqP_zero dr W
  rw [decide_eq_true hq1] at EQhq1;have Hhq1:=Lib.hid hq1;clear hq1
  by_cases hq2:lv=(0:Rat)
  ·skip
   have EQhq2:=fun W=>eqQ_zero lv W
   rw [decide_eq_true hq2] at EQhq2;have Hhq2:=Lib.hid hq2;clear hq2
   by_cases hc8:((Pl.locR a cm):Int)=(-1)
   ·skip
    have K9:=Lib.hid (fun W (h:PV W (.slice Aa Na ca) a)=>cloc_any (.slice Aa Na ca) a cm W h (HSA.out) (by rw [HNA.out];exact hna) hS hcm);go_wp2_with (fail)
    refine calls_named ?_;intro W2 hW2;have hL2:Below w.heap.size w W2:=by rw [hW2];exact bB
    have c10:Own W2 w.heap.size 0 [.bool false,.bool (ng cm.1.num),.string (mg cm.1.num.natAbs),.bool false,.string (mg (dn cm.1)),.bool (ng cm.2.num),.string (mg cm.2.num.natAbs),.bool false,.string (mg (dn cm.2)),.bool (ng dr.1.num),.string (mg dr.1.num.natAbs),.bool false,.string (mg (dn dr.1)),.bool (ng dr.2.num),.string (mg dr.2.num.natAbs),.bool false,.string (mg (dn dr.2)),.bool (ng lv.num),.string (mg lv.num.natAbs),.bool false,.string (mg (dn lv))]:=by
     rw [hW2]
     first
     | (repeat (first|(with_reducible refine own_new (l:=[.bool false,.bool (ng cm.1.num),.string (mg cm.1.num.natAbs),.bool false,.string (mg (dn cm.1)),.bool (ng cm.2.num),.string (mg cm.2.num.natAbs),.bool false,.string (mg (dn cm.2)),.bool (ng dr.1.num),.string (mg dr.1.num.natAbs),.bool false,.string (mg (dn dr.1)),.bool (ng dr.2.num),.string (mg dr.2.num.natAbs),.bool false,.string (mg (dn dr.2)),.bool (ng lv.num),.string (mg lv.num.natAbs),.bool false,.string (mg (dn lv))]) ?_;(simp;done))|with_reducible refine Own.alloc ?_ _|refine Own.far _ _ (by first|(simp;done)|(simp [*];done)|(simp;omega)) ?_));done
     | simp [Own,go_sem]
    have hB11:Below w.heap.size w W2:=by rw [hW2];exact bB
    clear hW2 hL2;with_reducible refine (K9.out _ (HVA.out.up hB11)).mono ?_
    rintro e w2 ⟨rfl,hb2⟩;have c12:=c10.up hb2;have hB13:Below w.heap.size w w2:=bel_up hB11 hb2;clear c10;have uc12:=c12;simp only [At,Own,Nat.reduceAdd,and_true] at uc12;go_wp2;go_ret;refine ⟨(by rw [HRR.out];simp [Hhq1.out,Hhq2.out,hc8]),?_⟩;exact bB
   ·skip
    have hc8_:((((Pl.locR a cm):Int))==(-1))=false:=by simpa using hc8
    have K14:=Lib.hid (fun W (h:PV W (.slice Aa Na ca) a)=>cloc_any (.slice Aa Na ca) a cm W h (HSA.out) (by rw [HNA.out];exact hna) hS hcm);go_wp2_with (fail)
    refine calls_named ?_;intro W3 hW3;have hL3:Below w.heap.size w W3:=by rw [hW3];exact bB
    have c15:Own W3 w.heap.size 0 [.bool false,.bool (ng cm.1.num),.string (mg cm.1.num.natAbs),.bool false,.string (mg (dn cm.1)),.bool (ng cm.2.num),.string (mg cm.2.num.natAbs),.bool false,.string (mg (dn cm.2)),.bool (ng dr.1.num),.string (mg dr.1.num.natAbs),.bool false,.string (mg (dn dr.1)),.bool (ng dr.2.num),.string (mg dr.2.num.natAbs),.bool false,.string (mg (dn dr.2)),.bool (ng lv.num),.string (mg lv.num.natAbs),.bool false,.string (mg (dn lv))]:=by
     rw [hW3]
     first
     | (repeat (first|(with_reducible refine own_new (l:=[.bool false,.bool (ng cm.1.num),.string (mg cm.1.num.natAbs),.bool false,.string (mg (dn cm.1)),.bool (ng cm.2.num),.string (mg cm.2.num.natAbs),.bool false,.string (mg (dn cm.2)),.bool (ng dr.1.num),.string (mg dr.1.num.natAbs),.bool false,.string (mg (dn dr.1)),.bool (ng dr.2.num),.string (mg dr.2.num.natAbs),.bool false,.string (mg (dn dr.2)),.bool (ng lv.num),.string (mg lv.num.natAbs),.bool false,.string (mg (dn lv))]) ?_;(simp;done))|with_reducible refine Own.alloc ?_ _|refine Own.far _ _ (by first|(simp;done)|(simp [*];done)|(simp;omega)) ?_));done
     | simp [Own,go_sem]
    have hB16:Below w.heap.size w W3:=by rw [hW3];exact bB
    clear hW3 hL3;with_reducible refine (K14.out _ (HVA.out.up hB16)).mono ?_
    rintro e w3 ⟨rfl,hb3⟩;have c17:=c15.up hb3;have hB18:Below w.heap.size w w3:=bel_up hB16 hb3;clear c15;have uc17:=c17;simp only [At,Own,Nat.reduceAdd,and_true] at uc17;have K19:=Lib.hid (fun W (h:PV W (.slice Ab Nb cb) b)=>cloc_any (.slice Ab Nb cb) b cm W h (HSB.out) (by rw [HNB.out];exact hnb) hS hcm);go_wp2_with (fail)
    refine calls_named ?_;intro W4 hW4;have hL4:Below w3.heap.size w3 W4:=by rw [hW4];exact bB
    have c20:=c17.up hL4;have hB21:Below w.heap.size w W4:=by rw [hW4];exact bB
    clear hW4 hL4 uc17 c17;with_reducible refine (K19.out _ (HVB.out.up hB21)).mono ?_
    rintro e w4 ⟨rfl,hb4⟩;have c22:=c20.up hb4;have hB23:Below w.heap.size w w4:=bel_up hB21 hb4;clear c20
    by_cases hc24:((Pl.locR b cm):Int)=(-1)
    ·skip
     have uc22:=c22;simp only [At,Own,Nat.reduceAdd,and_true] at uc22;go_wp2;go_ret;refine ⟨(by rw [HRR.out];simp [Hhq1.out,Hhq2.out,hc8,hc24]),?_⟩;exact bB
    ·skip
     have hc24_:((((Pl.locR b cm):Int))==(-1))=false:=by simpa using hc24
     have uc22:=c22;simp only [At,Own,Nat.reduceAdd,and_true] at uc22;go_wp2;go_ret;refine ⟨(by rw [HRR.out];simp [Hhq1.out,Hhq2.out,hc8,hc24]),?_⟩;exact bB
  ·skip
   have EQhq2:=fun W=>eqQ_zero lv W
   rw [decide_eq_false hq2] at EQhq2;have Hhq2:=Lib.hid hq2;clear hq2;go_wp2;go_ret;refine ⟨(by rw [HRR.out];simp [Hhq1.out,Hhq2.out]),?_⟩;exact bB
 ·skip
  have EQhq1:=fun W=>eqP_zero dr W
  rw [decide_eq_false hq1] at EQhq1;have Hhq1:=Lib.hid hq1;clear hq1;go_wp2;go_ret;refine ⟨(by rw [HRR.out];simp [Hhq1.out]),?_⟩;exact bB
end Go.Proofs.YtdkkjfnpinckjaaGreatDoor
