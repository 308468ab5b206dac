/-
 Contracts of the reference for convex sets: the least point of a list.
 Contracts of the reference for convex sets: the next point of the hull.
 Contracts of the reference for convex sets: the hull.
-/
import Derived.Test.YtdkkjfnpinckjaaGreatDoorYG1
import Derived.Test.YtdkkjfnpinckjaaGreatDoorYMh
import Derived.Test.YtdkkjfnpinckjaaGreatDoorYMn
set_option maxRecDepth 100000
set_option linter.unusedSimpArgs false
set_option linter.unusedVariables false
namespace Go.Proofs.YtdkkjfnpinckjaaGreatDoor
open Go Go.RowKit

theorem leastP_snoc:∀ (l:List (Rat×Rat)) (x a:Rat×Rat),Pl.leastP (l++[x]) a=if Pl.lessP x (Pl.leastP l a) then x else Pl.leastP l a
 | [],x,a=>rfl
 | y :: l,x,a=>by rw [List.cons_append,Pl.leastP,Pl.leastP];exact leastP_snoc l x _
theorem take_snoc {l:List (Rat×Rat)} {k:Nat} {x:Rat×Rat} (h:l[k]?=some x):l.take (k+1)=l.take k++[x]:=by
 rw [List.take_add_one,h];rfl
set_option maxHeartbeats 2000000 in
theorem hleast_any {S:Nat} (v:Value) (l:List (Rat×Rat)) (a:Rat×Rat) (w:World) (h:PV w v l) (h0:l[0]?=some a) (hs:∀ p∈l,Pl.SzP S p) (hn:l.length≤1000000) (hS:S≤100000) :
 Calls Tryz.prog 93 #[v] w fun e w'=>(∃ m:Nat,e=.returned (.int .i64 m)∧l[m]?=some (Pl.leastP l a))∧Below w.heap.size w w':=by
 have hlen:0<l.length:=(List.getElem?_eq_some_iff.1 h0).1;obtain ⟨g,o,c,rfl,hc,hm,hg,hx⟩:=h.form hlen;have HX:=Lib.hid hx;have HS:=Lib.hid hs;have H0:=Lib.hid h0;have HF:Hid (l.take l.length=l):=Lib.hid (List.take_length);generalize hN:l.length=N at *;have HN:=Lib.hid hN;clear h hx hs h0 hN;go_enter Tryz.func93,Tryz.ntmps93;go_wp2_with fail;go_loopw [3,4] (fun out i wr=>∃ k m:Nat,k≤N∧i=.int .i64 k∧out=.int .i64 m∧m<N∧Hid (l[m]?=some (Pl.leastP (l.take k) a))∧Below w.heap.size w wr) (fun _ i _=>N-(intOf i).toNat)
 case atStart=>exact ⟨0,0,Nat.zero_le _,rfl,rfl,hlen,Lib.hid (by simpa [Pl.leastP] using H0.out),Below.refl _ _⟩
 case round =>
  obtain ⟨k,m,hk,rfl,rfl,hml,HLM,hbl⟩:=hrel
  by_cases hlt:k<N
  ·obtain ⟨x,hx1⟩:∃ x,l[k]?=some x:=⟨l[k]'(by rw [HN.out];exact hlt),List.getElem?_eq_getElem (by rw [HN.out];exact hlt)⟩
   have c1:=(HX.out k x hx1).up hbl;have c2:=(HX.out m _ HLM.out).up hbl;have K:=Lib.hid (fun W=>hless_any x (Pl.leastP (l.take k) a) W (HS.out x (List.mem_of_getElem? hx1)) (HS.out _ (List.mem_of_getElem? HLM.out)) (by omega) (by omega));have HT:Hid (Pl.leastP (l.take (k+1)) a=if Pl.lessP x (Pl.leastP (l.take k) a) then x else Pl.leastP (l.take k) a):=Lib.hid (by rw [take_snoc hx1,leastP_snoc]);have HK:=Lib.hid hx1;clear hx1;generalize Pl.leastP (l.take k) a=y at *;have i1:(k:Int)<N:=by omega
   have i2:(m:Int)<N:=by omega
   have d1:=fun p:Bel wr=>c1.bel p
   have d2:=fun p:Bel wr=>c2.bel p
   simp only [CE] at d1 d2;clear c1 c2;generalize hb:Pl.lessP x y=b at *;have HB:=Lib.hid hb;clear hb;go_wp2_with fail;refine wp_region_all (by kernel_rfl) (by kernel_rfl) ?_;repeat (go_big_quiet_step (first|(go_at_call 79;with_reducible exact Calls.bel (K.out _))))
   refine wpQuiet_nil ?_;intro w1 hb1;clear d1 d2;cases b
   ·go_wp2
    go_roundw
    case rel=>exact ⟨k+1,m,by omega,congrArg (Value.int .i64) (by omega),rfl,hml,Lib.hid (by rw [HT.out];exact HLM.out),bel_up hbl hb1⟩
    case measure=>simp [intOf];omega
   ·go_wp2
    go_roundw
    case rel=>exact ⟨k+1,k,by omega,congrArg (Value.int .i64) (by omega),rfl,hlt,Lib.hid (by rw [HT.out];exact HK.out),bel_up hbl hb1⟩
    case measure=>simp [intOf];omega
  ·have hkN:k=N:=by omega
   have hR:l[m]?=some (Pl.leastP l a):=by have:=HLM.out;rw [hkN,HF.out] at this;exact this
   have HR:=Lib.hid hR;clear hkN hR;go_wp2;go_ret;exact ⟨⟨m,rfl,HR.out⟩,hbl⟩
end Go.Proofs.YtdkkjfnpinckjaaGreatDoor

namespace Go.Proofs.YtdkkjfnpinckjaaGreatDoor
open Go Go.RowKit

theorem nxt_snoc (l:List (Rat×Rat)) (x p:Rat×Rat):Pl.nxt (l++[x]) p=Pl.pick p (Pl.nxt l p) x:=by
 unfold Pl.nxt;rw [List.foldl_append];rfl
theorem pick_sz {n:Nat} {p out x:Rat×Rat} (ho:Pl.SzP n out) (hx:Pl.SzP n x):Pl.SzP n (Pl.pick p out x):=by
 unfold Pl.pick
 split
 ·exact ho
 ·split
  ·exact hx
  ·exact ho
theorem fold_sz {n:Nat} (p:Rat×Rat):∀ (l:List (Rat×Rat)) (out:Rat×Rat),Pl.SzP n out→(∀ q∈l,Pl.SzP n q)→Pl.SzP n (l.foldl (Pl.pick p) out)
 | [],_,h,_=>h
 | x :: l,out,h,hl=>fold_sz p l _ (pick_sz h (hl x (by simp))) (fun q hq=>hl q (by simp [hq]))
theorem nxt_sz {n:Nat} {p:Rat×Rat} {l:List (Rat×Rat)} (hp:Pl.SzP n p) (hl:∀ q∈l,Pl.SzP n q):Pl.SzP n (Pl.nxt l p):=fold_sz p l p hp hl
theorem Own.bel' {W:World} {b i:Nat} {l:List Value} (h:Own W b i l) (p:Bel W):Own p.w1 b i l:=h.up p.h
def zero8:List Value:=[.bool false,.string ⟨#[]⟩,.bool false,.string ⟨#[]⟩,.bool false,.string ⟨#[]⟩,.bool false,.string ⟨#[]⟩]
theorem own_put8 {w:World} {b:Nat} {x0 x1 x2 x3 x4 x5 x6 x7 y0 y1 y2 y3 y4 y5 y6 y7:Value} (h:Own w b 0 [x0,x1,x2,x3,x4,x5,x6,x7]):Own ((((((((w.setCell ⟨b,0,none⟩ y0).setCell ⟨b,1,none⟩ y1).setCell ⟨b,2,none⟩ y2).setCell ⟨b,3,none⟩ y3).setCell ⟨b,4,none⟩ y4).setCell ⟨b,5,none⟩ y5).setCell ⟨b,6,none⟩ y6).setCell ⟨b,7,none⟩ y7) b 0 [y0,y1,y2,y3,y4,y5,y6,y7]:=by
 simp only [Own,Nat.reduceAdd,and_true] at h;simp [Own,go_sem,h]

set_option maxHeartbeats 8000000 in
theorem hnext_any {S:Nat} (v:Value) (l:List (Rat×Rat)) (p:Rat×Rat) (w:World) (h:PV w v l) (hlen:0<l.length) (hp:Pl.SzP S p) (hs:∀ q∈l,Pl.SzP S q) (hn:l.length≤1000000) (hS:S≤100000) :
 Calls Tryz.prog 94 #[v,pv p] w fun e w'=>e=.returned (pv (Pl.nxt l p))∧Below w.heap.size w w':=by
 obtain ⟨g,o,c,rfl,hc,hm,hg,hx⟩:=h.form hlen;have HX:=Lib.hid hx;have HS:=Lib.hid hs;have HP:=Lib.hid hp;have HF:Hid (l.take l.length=l):=Lib.hid (List.take_length);generalize hN:l.length=N at *;have HN:=Lib.hid hN;clear h hx hs hp hN;go_enter Tryz.func94,Tryz.ntmps94;go_wp2_with fail;go_loopw [6] (fun i wr=>∃ k:Nat,k≤N∧i=.int .i64 k∧Own wr w.heap.size 0 (pcells p)∧Own wr (w.heap.size+1) 0 zero8∧Own wr (w.heap.size+2) 0 (pcells (Pl.nxt (l.take k) p))∧Below w.heap.size w wr) (fun i _=>N-(intOf i).toNat)
 case atStart =>
  refine ⟨0,Nat.zero_le _,rfl,by simp [Own,pcells,go_sem],by simp [Own,zero8,go_sem],by simp [Own,pcells,Pl.nxt,go_sem],?_⟩;exact bB
 case round =>
  obtain ⟨k,hk,rfl,hbx,hrs,hou,hbl⟩:=hrel
  by_cases hlt:k<N
  ·obtain ⟨x,hx1⟩:∃ x,l[k]?=some x:=⟨l[k]'(by rw [HN.out];exact hlt),List.getElem?_eq_getElem (by rw [HN.out];exact hlt)⟩
   have c1:=(HX.out k x hx1).up hbl;have HT:Hid (Pl.nxt (l.take (k+1)) p=Pl.pick p (Pl.nxt (l.take k) p) x):=Lib.hid (by rw [take_snoc hx1,nxt_snoc]);have HSX:=Lib.hid (HS.out x (List.mem_of_getElem? hx1));have HSY:=Lib.hid (nxt_sz (p:=p) (l:=l.take k) HP.out (fun q hq=>HS.out q (List.mem_of_mem_take hq)));clear hx1;generalize Pl.nxt (l.take k) p=y at *;have i1:(k:Int)<N:=by omega
   by_cases hxp:x=p
   ·have HV:Hid (Pl.pick p y x=y):=Lib.hid (by unfold Pl.pick;rw [if_pos hxp])
    have EQ1:=fun W=>eqP_in x p W
    rw [decide_eq_true hxp] at EQ1;clear hxp;have d1:=fun b:Bel wr=>c1.bel b
    have d2:=fun b:Bel wr=>hbx.bel' b
    have d3:=fun b:Bel wr=>hou.bel' b
    simp only [CE,Own,pcells,Nat.reduceAdd,and_true] at d1 d2 d3;go_wp2_with fail;refine wp_region_all (by kernel_rfl) (by kernel_rfl) ?_;repeat (go_big_quiet_step (fail))
    refine wpQuiet_nil ?_;intro w1 hb1;have hbx:=hbx.up hb1;have hrs:=hrs.up hb1;have hou:=hou.up hb1;have hbl:=bel_up hbl hb1;clear d1 d2 d3 hb1;go_wp2;go_roundw
    case rel=>exact ⟨k+1,by omega,congrArg (Value.int .i64) (by omega),hbx,hrs,by rw [HT.out,HV.out];exact hou,hbl⟩
    case measure=>simp [intOf];omega
   ·have HXP:=Lib.hid hxp
    have EQ1:=fun W=>eqP_in x p W
    rw [decide_eq_false hxp] at EQ1;clear hxp
    by_cases hyp:y=p
    ·have HV:Hid (Pl.pick p y x=x):=Lib.hid (by unfold Pl.pick;rw [if_neg HXP.out,if_pos (.inl hyp)])
     have EQ2:=fun W=>eqP_in y p W
     rw [decide_eq_true hyp] at EQ2;clear hyp;have d1:=fun b:Bel wr=>c1.bel b
     have d2:=fun b:Bel wr=>hbx.bel' b
     have d3:=fun b:Bel wr=>hou.bel' b
     simp only [CE,Own,pcells,Nat.reduceAdd,and_true] at d1 d2 d3;go_wp2_with fail;refine wp_region_all (by kernel_rfl) (by kernel_rfl) ?_;repeat (go_big_quiet_step (fail))
     refine wpQuiet_nil ?_;intro w1 hb1;have c1:=c1.up hb1;have hbx:=hbx.up hb1;have hrs:=hrs.up hb1;have hou:=hou.up hb1;have hbl:=bel_up hbl hb1;clear d1 d2 d3 hb1;have d1:=fun b:Bel w1=>c1.bel b
     have d2:=fun b:Bel w1=>hbx.bel' b
     have d3:=fun b:Bel w1=>hou.bel' b
     simp only [CE,Own,pcells,Nat.reduceAdd,and_true] at d1 d2 d3;go_wp2_with fail;refine wp_region_all (by kernel_rfl) (by kernel_rfl) ?_;repeat (go_big_quiet_step (fail))
     refine wpQuiet_nil ?_;intro w2 hb2;have c1:=c1.up hb2;have hbx:=hbx.up hb2;have hrs:=hrs.up hb2;have hou:=hou.up hb2;have hbl:=bel_up hbl hb2;clear d1 d2 d3 hb2;have u1:=c1;have u3:=hou;have hne:w.heap.size+2≠g:=by omega
     have hne':g≠w.heap.size+2:=by omega
     simp only [CE,Own,pcells,Nat.reduceAdd,and_true] at u1 u3;go_wp2;go_roundw
     case rel =>
      refine ⟨k+1,by omega,congrArg (Value.int .i64) (by omega),?_,?_,by rw [HT.out,HV.out];exact own_put8 hou,?_⟩
      ·repeat (first|with_reducible exact hbx|refine Own.far _ _ (by simp<;>omega) ?_)
      ·repeat (first|with_reducible exact hrs|refine Own.far _ _ (by simp<;>omega) ?_)
      ·repeat (first|with_reducible exact hbl|refine Below.setCell ?_ (by first|(simp;done)|(simp;omega)|omega) _)
     case measure=>simp [intOf];omega
    ·have HYP:=Lib.hid hyp
     have EQ2:=fun W=>eqP_in y p W
     rw [decide_eq_false hyp] at EQ2;clear hyp;have kt:=fun W=>hturn_any p y x W HP.out HSY.out HSX.out (by omega) (by omega) (by omega)
     have kb:=fun W=>hbtw_any y p x W HSY.out HP.out HSX.out (by omega) (by omega) (by omega)
     rcases Int.lt_or_le (Pl.turn p y x) 0 with ht|ht
     ·have HV:Hid (Pl.pick p y x=x):=Lib.hid (by unfold Pl.pick;rw [if_neg HXP.out,if_pos (.inr (.inl ht))])
      generalize Pl.turn p y x=t at kt ht;have KT:=Lib.hid kt;clear kt;clear kb;have d1:=fun b:Bel wr=>c1.bel b
      have d2:=fun b:Bel wr=>hbx.bel' b
      have d3:=fun b:Bel wr=>hou.bel' b
      simp only [CE,Own,pcells,Nat.reduceAdd,and_true] at d1 d2 d3;go_wp2_with fail;refine wp_region_all (by kernel_rfl) (by kernel_rfl) ?_;repeat (go_big_quiet_step (fail))
      refine wpQuiet_nil ?_;intro w1 hb1;have c1:=c1.up hb1;have hbx:=hbx.up hb1;have hrs:=hrs.up hb1;have hou:=hou.up hb1;have hbl:=bel_up hbl hb1;clear d1 d2 d3 hb1;have d1:=fun b:Bel w1=>c1.bel b
      have d2:=fun b:Bel w1=>hbx.bel' b
      have d3:=fun b:Bel w1=>hou.bel' b
      simp only [CE,Own,pcells,Nat.reduceAdd,and_true] at d1 d2 d3;go_wp2_with fail;refine wp_region_all (by kernel_rfl) (by kernel_rfl) ?_;repeat (go_big_quiet_step (first|(go_at_call 57;with_reducible exact Calls.bel (KT.out _))))
      refine wpQuiet_nil ?_;intro w2 hb2;have c1:=c1.up hb2;have hbx:=hbx.up hb2;have hrs:=hrs.up hb2;have hou:=hou.up hb2;have hbl:=bel_up hbl hb2;clear d1 d2 d3 hb2;have u1:=c1;have u3:=hou;have hne:w.heap.size+2≠g:=by omega
      have hne':g≠w.heap.size+2:=by omega
      simp only [CE,Own,pcells,Nat.reduceAdd,and_true] at u1 u3;go_wp2;go_roundw
      case rel =>
       refine ⟨k+1,by omega,congrArg (Value.int .i64) (by omega),?_,?_,by rw [HT.out,HV.out];exact own_put8 hou,?_⟩
       ·repeat (first|with_reducible exact hbx|refine Own.far _ _ (by simp<;>omega) ?_)
       ·repeat (first|with_reducible exact hrs|refine Own.far _ _ (by simp<;>omega) ?_)
       ·repeat (first|with_reducible exact hbl|refine Below.setCell ?_ (by first|(simp;done)|(simp;omega)|omega) _)
      case measure=>simp [intOf];omega
     ·by_cases ht0:Pl.turn p y x=0
      ·rcases hbt:Pl.btwB y p x with _|_
       ·have HV:Hid (Pl.pick p y x=y):=Lib.hid (by unfold Pl.pick;rw [if_neg HXP.out,if_neg (by rw [hbt,ht0];rintro (h|h|h);exact HYP.out h;omega;cases h.2)])
        rw [hbt] at kb;rw [ht0] at kt;have KT:=Lib.hid kt;have KB:=Lib.hid kb;clear kt kb hbt ht0 ht;have d1:=fun b:Bel wr=>c1.bel b
        have d2:=fun b:Bel wr=>hbx.bel' b
        have d3:=fun b:Bel wr=>hou.bel' b
        simp only [CE,Own,pcells,Nat.reduceAdd,and_true] at d1 d2 d3;go_wp2_with fail;refine wp_region_all (by kernel_rfl) (by kernel_rfl) ?_;repeat (go_big_quiet_step (fail))
        refine wpQuiet_nil ?_;intro w1 hb1;have c1:=c1.up hb1;have hbx:=hbx.up hb1;have hrs:=hrs.up hb1;have hou:=hou.up hb1;have hbl:=bel_up hbl hb1;clear d1 d2 d3 hb1;have d1:=fun b:Bel w1=>c1.bel b
        have d2:=fun b:Bel w1=>hbx.bel' b
        have d3:=fun b:Bel w1=>hou.bel' b
        simp only [CE,Own,pcells,Nat.reduceAdd,and_true] at d1 d2 d3;go_wp2_with fail;refine wp_region_all (by kernel_rfl) (by kernel_rfl) ?_;repeat (go_big_quiet_step (first|(go_at_call 57;with_reducible exact Calls.bel (KT.out _))|(go_at_call 56;with_reducible exact Calls.bel (KB.out _))))
        refine wpQuiet_nil ?_;intro w2 hb2;have c1:=c1.up hb2;have hbx:=hbx.up hb2;have hrs:=hrs.up hb2;have hou:=hou.up hb2;have hbl:=bel_up hbl hb2;clear d1 d2 d3 hb2;go_wp2;go_roundw
        case rel=>exact ⟨k+1,by omega,congrArg (Value.int .i64) (by omega),hbx,hrs,by rw [HT.out,HV.out];exact hou,hbl⟩
        case measure=>simp [intOf];omega
       ·have HV:Hid (Pl.pick p y x=x):=Lib.hid (by unfold Pl.pick;rw [if_neg HXP.out,if_pos (.inr (.inr ⟨ht0,hbt⟩))])
        rw [hbt] at kb;rw [ht0] at kt;have KT:=Lib.hid kt;have KB:=Lib.hid kb;clear kt kb hbt ht0 ht;have d1:=fun b:Bel wr=>c1.bel b
        have d2:=fun b:Bel wr=>hbx.bel' b
        have d3:=fun b:Bel wr=>hou.bel' b
        simp only [CE,Own,pcells,Nat.reduceAdd,and_true] at d1 d2 d3;go_wp2_with fail;refine wp_region_all (by kernel_rfl) (by kernel_rfl) ?_;repeat (go_big_quiet_step (fail))
        refine wpQuiet_nil ?_;intro w1 hb1;have c1:=c1.up hb1;have hbx:=hbx.up hb1;have hrs:=hrs.up hb1;have hou:=hou.up hb1;have hbl:=bel_up hbl hb1;clear d1 d2 d3 hb1;have d1:=fun b:Bel w1=>c1.bel b
        have d2:=fun b:Bel w1=>hbx.bel' b
        have d3:=fun b:Bel w1=>hou.bel' b
        simp only [CE,Own,pcells,Nat.reduceAdd,and_true] at d1 d2 d3;go_wp2_with fail;refine wp_region_all (by kernel_rfl) (by kernel_rfl) ?_;repeat (go_big_quiet_step (first|(go_at_call 57;with_reducible exact Calls.bel (KT.out _))|(go_at_call 56;with_reducible exact Calls.bel (KB.out _))))
        refine wpQuiet_nil ?_;intro w2 hb2;have c1:=c1.up hb2;have hbx:=hbx.up hb2;have hrs:=hrs.up hb2;have hou:=hou.up hb2;have hbl:=bel_up hbl hb2;clear d1 d2 d3 hb2;have u1:=c1;have u3:=hou;have hne:w.heap.size+2≠g:=by omega
        have hne':g≠w.heap.size+2:=by omega
        simp only [CE,Own,pcells,Nat.reduceAdd,and_true] at u1 u3;go_wp2;go_roundw
        case rel =>
         refine ⟨k+1,by omega,congrArg (Value.int .i64) (by omega),?_,?_,by rw [HT.out,HV.out];exact own_put8 hou,?_⟩
         ·repeat (first|with_reducible exact hbx|refine Own.far _ _ (by simp<;>omega) ?_)
         ·repeat (first|with_reducible exact hrs|refine Own.far _ _ (by simp<;>omega) ?_)
         ·repeat (first|with_reducible exact hbl|refine Below.setCell ?_ (by first|(simp;done)|(simp;omega)|omega) _)
        case measure=>simp [intOf];omega
      ·have HV:Hid (Pl.pick p y x=y):=Lib.hid (by unfold Pl.pick;rw [if_neg HXP.out,if_neg (by rintro (h|h|h);exact HYP.out h;omega;exact ht0 h.1)])
       generalize Pl.turn p y x=t at kt ht ht0;have KT:=Lib.hid kt;clear kt;have ht1:¬ t<0:=by omega
       have ht2:(t==0)=false:=by simpa using ht0
       have ht3:decide (t<0)=false:=decide_eq_false ht1;clear kb;have d1:=fun b:Bel wr=>c1.bel b
       have d2:=fun b:Bel wr=>hbx.bel' b
       have d3:=fun b:Bel wr=>hou.bel' b
       simp only [CE,Own,pcells,Nat.reduceAdd,and_true] at d1 d2 d3;go_wp2_with fail;refine wp_region_all (by kernel_rfl) (by kernel_rfl) ?_;repeat (go_big_quiet_step (fail))
       refine wpQuiet_nil ?_;intro w1 hb1;have c1:=c1.up hb1;have hbx:=hbx.up hb1;have hrs:=hrs.up hb1;have hou:=hou.up hb1;have hbl:=bel_up hbl hb1;clear d1 d2 d3 hb1;have d1:=fun b:Bel w1=>c1.bel b
       have d2:=fun b:Bel w1=>hbx.bel' b
       have d3:=fun b:Bel w1=>hou.bel' b
       simp only [CE,Own,pcells,Nat.reduceAdd,and_true] at d1 d2 d3;go_wp2_with fail;refine wp_region_all (by kernel_rfl) (by kernel_rfl) ?_;repeat (go_big_quiet_step (first|(go_at_call 57;with_reducible exact Calls.bel (KT.out _))))
       refine wpQuiet_nil ?_;intro w2 hb2;have c1:=c1.up hb2;have hbx:=hbx.up hb2;have hrs:=hrs.up hb2;have hou:=hou.up hb2;have hbl:=bel_up hbl hb2;clear d1 d2 d3 hb2;go_wp2;go_roundw
       case rel=>exact ⟨k+1,by omega,congrArg (Value.int .i64) (by omega),hbx,hrs,by rw [HT.out,HV.out];exact hou,hbl⟩
       case measure=>simp [intOf];omega
  ·have hkN:k=N:=by omega
   rw [hkN,HF.out] at hou;clear hkN;have hu0:=hbx;have hu1:=hrs;have hu2:=hou;simp only [Own,pcells,zero8,Nat.reduceAdd,and_true] at hu0 hu1 hu2;go_wp2;refine bodyPost_ret (v:=pv (Pl.nxt l p)) (by simp [results,Tryz.results94,go_sem,hu1]) rfl ⟨rfl,?_⟩;repeat (first|with_reducible exact hbl|refine Below.setCell ?_ (by first|(simp;done)|(simp;omega)|omega) _)
end Go.Proofs.YtdkkjfnpinckjaaGreatDoor

namespace Go.Proofs.YtdkkjfnpinckjaaGreatDoor
open Go Go.RowKit

theorem wrap_step {l L:List (Rat×Rat)} {f p:Rat×Rat} {k N:Nat} (hk:k≤N) (hc:¬ (k≠0∧p=f)) (h:Pl.wrap l=L++if k≠0∧p=f then [] else Pl.wrapGo l f (N+1-k) p) :
 Pl.wrap l=(L++[p])++if k+1≠0∧Pl.nxt l p=f then [] else Pl.wrapGo l f (N+1-(k+1)) (Pl.nxt l p):=by
 rw [h,if_neg hc,show N+1-k=(N-k)+1 from by omega,Pl.wrapGo,show N+1-(k+1)=N-k from by omega];simp
theorem hHull_nil (v:Value) (w:World) (h:PV w v []) :
 Calls Tryz.prog 48 #[v] w fun e w'=>∃ v',e=.returned v'∧PV w' v' []∧Below w.heap.size w w':=by
 rcases h.nil_form with rfl|⟨g,o,c,rfl,hc⟩
 all_goals
  go_enter Tryz.func48,Tryz.ntmps48;go_wp2;go_ret;exact ⟨_,rfl,pv_nil _,Below.refl _ _⟩

set_option maxHeartbeats 8000000 in
theorem hHull_some {S:Nat} (v:Value) (l:List (Rat×Rat)) (a:Rat×Rat) (w:World) (h:PV w v l) (h0:l[0]?=some a) (hs:∀ q∈l,Pl.SzP S q) (hn:l.length≤1000000) (hS:S≤100000) (hw:Pl.wrap l=Pl.wrapGo l (Pl.leastP l a) (l.length+1) (Pl.leastP l a)) :
 Calls Tryz.prog 48 #[v] w fun e w'=>∃ v',e=.returned v'∧PV w' v' (Pl.wrap l)∧Below w.heap.size w w':=by
 have hlen:0<l.length:=(List.getElem?_eq_some_iff.1 h0).1;have KL:=Lib.hid (hleast_any v l a w h h0 hs hn hS);have KN:=Lib.hid (fun W p hW hp=>hnext_any v l p W hW hlen hp hs hn hS);have HV:=Lib.hid h;obtain ⟨g,o,c,rfl,hc,hm,hg,hx⟩:=h.form hlen;have HX:=Lib.hid hx;have HS:=Lib.hid hs;have HW:=Lib.hid hw;generalize Pl.leastP l a=f at *;generalize hN:l.length=N at *;have HN:=Lib.hid hN;clear h hx hs h0 hN hw;go_enter Tryz.func48,Tryz.ntmps48;have j0:¬ (N:Int)=0:=by omega
 have j1:((N:Int)==0)=false:=by simpa using j0
 go_wp2_with fail;with_reducible refine KL.out.mono ?_
 rintro e w1 ⟨⟨m,rfl,hlm⟩,hb1⟩;have c1:=(HX.out m _ hlm).up hb1;have hmN:m<N:=by have:=(List.getElem?_eq_some_iff.1 hlm).1;rw [HN.out] at this;exact this
 have HSF:=Lib.hid (HS.out f (List.mem_of_getElem? hlm));have i1:(m:Int)<N:=by omega
 have hg1:g<w1.heap.size:=Nat.lt_of_lt_of_le hg hb1.size;have d1:=c1;simp only [CE] at d1;clear hlm;go_wp2_with fail;go_loopw [3,6] (fun v i wr=>∃ (k:Nat) (L:List (Rat×Rat)) (p:Rat×Rat),k≤N+1∧i=.int .i64 k∧wr.ownsRow (w1.heap.size+2) 35 8 v k (pts L)∧Own wr w1.heap.size 0 (pcells f)∧Own wr (w1.heap.size+1) 0 (pcells p)∧Hid (Pl.wrap l=L++if k≠0∧p=f then [] else Pl.wrapGo l f (N+1-k) p)∧Pl.SzP S p∧Below w1.heap.size w1 wr∧w1.heap.size+2≤wr.heap.size) (fun _ i _=>N+1-(intOf i).toNat)
 case atStart =>
  refine ⟨0,[],f,by omega,rfl,World.ownsRow_nil _ _ _ _,by simp [Own,pcells,go_sem],by simp [Own,pcells,go_sem],Lib.hid (by rw [HW.out];simp),HSF.out,?_,by simp⟩;exact bB
 case round =>
  obtain ⟨k,L,p,hk,rfl,hown,hof,hop,HE,hsp,hbl,hsz⟩:=hrel;have HO:=Lib.hid hown;clear hown;have hB0:Below w.heap.size w wr:=hb1.trans (hbl.mono hb1.size)
  by_cases hkN:k≤N
  ·have i2:(k:Int)≤N:=by omega
   by_cases hc:k≠0∧p=f
   ·have HR:Hid (PV wr u3 (Pl.wrap l)):=Lib.hid (by have e:=HE.out;rw [if_pos hc,List.append_nil] at e;rw [e];exact pv_own HO.out)
    obtain ⟨hk0,rfl⟩:=hc;have EQ:=fun W=>eqP_in p p W
    rw [decide_eq_true rfl] at EQ;have i3:¬ (k:Int)=0:=by omega
    have i4:((k:Int)==0)=false:=by simpa using i3
    have hu0:=hof;have hu1:=hop;simp only [Own,pcells,Nat.reduceAdd,and_true] at hu0 hu1;clear hk0;go_wp2;go_ret;exact ⟨_,rfl,HR.out,hB0⟩
   ·have HC:=Lib.hid hc
    by_cases hk0:k=0
    ·subst hk0
     clear hc;have hu0:=hof;have hu1:=hop;simp only [Own,pcells,Nat.reduceAdd,and_true] at hu0 hu1;go_wp2_with (at_builtin;refine wpList_app1 rfl _ _ _ rfl ti_pt HO.out (Below.refl (w1.heap.size+2) wr) hsz rfl rfl rfl rfl (pcells_one p) (by omega) (by decide) ?_)
     intro v' w2 hown2 hb2;have HO2:Hid (w2.ownsRow (w1.heap.size+2) 35 8 v' (0+1) (pts (L++[p]))):=Lib.hid (by rw [pts_snoc];exact hown2);have hof2:=hof.below (B:=w1.heap.size+2) (by omega) hb2;have hop2:=hop.below (B:=w1.heap.size+2) (by omega) hb2;have hbl2:Below w1.heap.size w1 w2:=hbl.trans (hb2.mono (by omega));have hsz2:w1.heap.size+2≤w2.heap.size:=Nat.le_trans hsz hb2.size;have KN2:=Lib.hid (KN.out w2 p (HV.out.up (hb1.trans (hbl2.mono hb1.size))) hsp);clear hown2 hu0 hu1 hof hop hbl hb2;have hu1:=hop2;simp only [Own,pcells,Nat.reduceAdd,and_true] at hu1;go_wp2_with fail;with_reducible refine KN2.out.mono ?_
     rintro e w3 ⟨rfl,hb3⟩;have hof3:=hof2.up hb3;have hop3:=hop2.up hb3;have HO3:=Lib.hid (owns_up HO2.out hb3);have hbl3:Below w1.heap.size w1 w3:=bel_up hbl2 hb3;have hsz3:w1.heap.size+2≤w3.heap.size:=Nat.le_trans hsz2 hb3.size;clear hu1;have hu1:=hop3;simp only [Own,pcells,Nat.reduceAdd,and_true] at hu1;go_wp2;go_roundw
     case rel =>
      refine ⟨0+1,L++[p],Pl.nxt l p,by omega,congrArg (Value.int .i64) (by omega),?_,?_,own_put8 hop3,Lib.hid (wrap_step hkN HC.out HE.out),nxt_sz hsp HS.out,?_,by simpa using hsz3⟩
      ·repeat (first|with_reducible exact HO3.out|refine owns_farB ?_ _ (by simp) _)
      ·repeat (first|with_reducible exact hof3|refine Own.far _ _ (by simp) ?_)
      ·repeat (first|with_reducible exact hbl3|refine Below.setCell ?_ (by first|(simp;done)|(simp;omega)|omega) _)
     case measure=>simp [intOf]<;>omega
    ·have hpf:¬ p=f:=fun e=>hc ⟨hk0,e⟩
     have EQ:=fun W=>eqP_in p f W
     rw [decide_eq_false hpf] at EQ;have i3:¬ (k:Int)=0:=by omega
     have i4:((k:Int)==0)=false:=by simpa using i3
     clear hc hk0 hpf;have hu0:=hof;have hu1:=hop;simp only [Own,pcells,Nat.reduceAdd,and_true] at hu0 hu1;go_wp2_with (at_builtin;refine wpList_app1 rfl _ _ _ rfl ti_pt HO.out (Below.refl (w1.heap.size+2) wr) hsz rfl rfl rfl rfl (pcells_one p) (by omega) (by decide) ?_)
     intro v' w2 hown2 hb2;have HO2:Hid (w2.ownsRow (w1.heap.size+2) 35 8 v' (k+1) (pts (L++[p]))):=Lib.hid (by rw [pts_snoc];exact hown2);have hof2:=hof.below (B:=w1.heap.size+2) (by omega) hb2;have hop2:=hop.below (B:=w1.heap.size+2) (by omega) hb2;have hbl2:Below w1.heap.size w1 w2:=hbl.trans (hb2.mono (by omega));have hsz2:w1.heap.size+2≤w2.heap.size:=Nat.le_trans hsz hb2.size;have KN2:=Lib.hid (KN.out w2 p (HV.out.up (hb1.trans (hbl2.mono hb1.size))) hsp);clear hown2 hu0 hu1 hof hop hbl hb2;have hu1:=hop2;simp only [Own,pcells,Nat.reduceAdd,and_true] at hu1;go_wp2_with fail;with_reducible refine KN2.out.mono ?_
     rintro e w3 ⟨rfl,hb3⟩;have hof3:=hof2.up hb3;have hop3:=hop2.up hb3;have HO3:=Lib.hid (owns_up HO2.out hb3);have hbl3:Below w1.heap.size w1 w3:=bel_up hbl2 hb3;have hsz3:w1.heap.size+2≤w3.heap.size:=Nat.le_trans hsz2 hb3.size;clear hu1;have hu1:=hop3;simp only [Own,pcells,Nat.reduceAdd,and_true] at hu1;go_wp2;go_roundw
     case rel =>
      refine ⟨k+1,L++[p],Pl.nxt l p,by omega,congrArg (Value.int .i64) (by omega),?_,?_,own_put8 hop3,Lib.hid (wrap_step hkN HC.out HE.out),nxt_sz hsp HS.out,?_,by simpa using hsz3⟩
      ·repeat (first|with_reducible exact HO3.out|refine owns_farB ?_ _ (by simp) _)
      ·repeat (first|with_reducible exact hof3|refine Own.far _ _ (by simp) ?_)
      ·repeat (first|with_reducible exact hbl3|refine Below.setCell ?_ (by first|(simp;done)|(simp;omega)|omega) _)
     case measure=>simp [intOf]<;>omega
  ·have hkN':k=N+1:=by omega
   have HR:Hid (PV wr u3 (Pl.wrap l)):=Lib.hid (by
    have e:=HE.out;rw [show N+1-k=0 from by omega,Pl.wrapGo,ite_self,List.append_nil] at e
    rw [e];exact pv_own HO.out)
   have i2:¬ (k:Int)≤N:=by omega
   clear hkN hkN';go_wp2;go_ret;exact ⟨_,rfl,HR.out,hB0⟩
theorem hHull_any {S:Nat} (v:Value) (l:List (Rat×Rat)) (w:World) (h:PV w v l) (hs:∀ q∈l,Pl.SzP S q) (hn:l.length≤1000000) (hS:S≤100000) :
 Calls Tryz.prog 48 #[v] w fun e w'=>∃ v',e=.returned v'∧PV w' v' (Pl.wrap l)∧Below w.heap.size w w':=by
 cases l with
 | nil=>exact hHull_nil v w h
 | cons a t=>exact hHull_some v (a :: t) a w h rfl hs hn hS rfl
end Go.Proofs.YtdkkjfnpinckjaaGreatDoor
