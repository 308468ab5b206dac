/-
 Package slices: a search by a closure over points.
 Contracts for convex sets: separations.
 Contracts for convex sets: CheckSeparation of sets that are said to be apart.
 The examples with which the statements begin, reckoned in the plain.
-/
import Derived.Test.YtdkkjfnpinckjaaGreatDoorYMn
import Derived.Test.YtdkkjfnpinckjaaGreatDoorYMo
import Derived.Test.YtdkkjfnpinckjaaGreatDoorYMp
set_option maxRecDepth 100000
set_option linter.unusedSimpArgs false
set_option linter.unusedVariables false
namespace Go.Proofs.YtdkkjfnpinckjaaGreatDoor
open Go Go.RowKit

theorem take_snocS {l:List (Rat×Rat)} {k:Nat} {x:Rat×Rat} (h:l[k]?=some x):l.take (k+1)=l.take k++[x]:=by
 rw [List.take_add_one,h];rfl
set_option maxHeartbeats 1000000 in
theorem indexFunc_any (v:Value) (l:List (Rat×Rat)) (w:World) (f:FuncId) (cb:Array Value) (pr:Rat×Rat→Bool) (h:PV w v l) (hn:l.length≤1000000)
 (eg:∀ args w,(callFunc f args).run Tryz.prog w=.ok (.enter f args) w)
 (hp:∀ W x,Below w.heap.size w W→x∈l→Calls Tryz.prog f (#[pv x]++cb) W fun e w'=>e=.returned (.bool (pr x))∧Below W.heap.size W w') :
 Calls Tryz.prog 105 #[v,.func (.func f) #[] cb] w fun e w'=>(∃ z:Int,e=.returned (.int .i64 z)∧decide (0≤z)=l.any pr)∧Below w.heap.size w w':=by
 obtain ⟨A,c,rfl,hc,hm,hx⟩:=h.open_;have HX:=Lib.hid hx;have HP:=Lib.hid hp;have HF:Hid (l.take l.length=l):=Lib.hid List.take_length;generalize hN:l.length=N at *;have HN:=Lib.hid hN;clear h hx hN hp;go_enter Tryz.func105,Tryz.ntmps105;go_wp2_with fail;go_loopw [8] (fun i wr=>∃ k:Nat,k≤N∧i=.int .i64 k∧Below w.heap.size w wr∧Hid ((l.take k).any pr=false)) (fun i _=>N-(intOf i).toNat)
 case atStart=>exact ⟨0,Nat.zero_le _,rfl,Below.refl _ _,Lib.hid rfl⟩
 case round =>
  obtain ⟨k,hk,rfl,hB,HE⟩:=hrel
  by_cases hlt:k<N
  ·have i1:(k:Int)<N:=by omega
   obtain ⟨x,hx⟩:∃ x,l[k]?=some x:=⟨_,List.getElem?_eq_getElem (by rw [HN.out];omega)⟩
   have HT:Hid ((l.take (k+1)).any pr=pr x):=Lib.hid (by rw [take_snocS hx,List.any_append,HE.out];simp);have HM:=Lib.hid (List.mem_of_getElem? hx);obtain ⟨g,o,hA,-⟩:=HX.out _ _ hx;subst hA;have c1:=LX.at_ (HX.out.up kpP hB) hx;have u1:=c1;simp only [CE] at u1;have kp:=HP.out wr x hB HM.out;have HA:Hid (pr x=true→l.any pr=true):=Lib.hid (fun h=>List.any_eq_true.2 ⟨x,HM.out,h⟩);generalize pr x=b at kp HA HT;have KP:=Lib.hid kp;clear hx kp c1;go_wp2_with fail;go_at_fn f;with_reducible refine KP.out.mono ?_
   rintro e w1 ⟨rfl,hb1⟩;have hB1:Below w.heap.size w w1:=bel_up hB hb1;cases b
   ·go_wp2
    go_roundw
    case rel=>exact ⟨k+1,by omega,congrArg (Value.int .i64) (by omega),hB1,Lib.hid HT.out⟩
    case measure=>simp [intOf];omega
   ·go_wp2
    go_ret;exact ⟨⟨k,rfl,by rw [HA.out (by first|rfl|trivial)];simp⟩,hB1⟩
  ·have hkN:N=k:=by omega
   subst hkN;go_wp2;go_ret;exact ⟨⟨-1,rfl,by rw [← HF.out,HE.out];decide⟩,hB⟩
theorem containsFunc_any (v:Value) (l:List (Rat×Rat)) (w:World) (f:FuncId) (cb:Array Value) (pr:Rat×Rat→Bool) (h:PV w v l) (hn:l.length≤1000000)
 (eg:∀ args w,(callFunc f args).run Tryz.prog w=.ok (.enter f args) w)
 (hp:∀ W x,Below w.heap.size w W→x∈l→Calls Tryz.prog f (#[pv x]++cb) W fun e w'=>e=.returned (.bool (pr x))∧Below W.heap.size W w') :
 Calls Tryz.prog 64 #[v,.func (.func f) #[] cb] w fun e w'=>e=.returned (.bool (l.any pr))∧Below w.heap.size w w':=by
 have K:=Lib.hid (indexFunc_any v l w f cb pr h hn eg hp);clear h hp;go_enter Tryz.func64,Tryz.ntmps64;go_wp2_with fail;with_reducible refine K.out.mono ?_
 rintro e w1 ⟨⟨z,rfl,hz⟩,hb1⟩;have HZ:=Lib.hid hz;clear hz;go_wp2;go_ret;exact ⟨by rw [← HZ.out]<;>rfl,hb1⟩
end Go.Proofs.YtdkkjfnpinckjaaGreatDoor

namespace Go.Proofs.YtdkkjfnpinckjaaGreatDoor
open Go Go.RowKit

def sepc (ap:Bool) (cm dr:Rat×Rat) (lv:Rat):List Value:=.bool ap :: (pcells cm++pcells dr++[.bool (ng lv.num),.string (mg lv.num.natAbs),.bool false,.string (mg (dn lv))])
def beyB (dr:Rat×Rat) (lv:Rat) (sg:Int) (p:Rat×Rat):Bool:=Pl.cmpQ (Pl.dotP p dr) lv != sg
theorem beyond_any {S:Nat} (p:Rat×Rat) (ap:Bool) (cm dr:Rat×Rat) (lv:Rat) (sg:Int) (bs bi:Nat) (w:World) (hs:Own w bs 0 (sepc ap cm dr lv)) (hi:Own w bi 0 [.int .i64 sg]) (hp:Pl.SzP S p) (hdr:Pl.SzP S dr) (hlv:Pl.Sz S lv) (hS:S≤100000) :
 Calls Tryz.prog 61 #[pv p,.pointer (some ⟨bs,0,none⟩),.pointer (some ⟨bi,0,none⟩)] w fun e w'=>e=.returned (.bool (beyB dr lv sg p))∧Below w.heap.size w w':=by
 simp only [sepc,pcells,List.cons_append,List.nil_append] at hs;go_enter Tryz.func61,Tryz.ntmps61;have ne1_:bs<w.heap.size:=by have:=hs.lt;omega
 have ne1:=Nat.ne_of_lt ne1_;have ne1':=ne1.symm;have ne2_:bi<w.heap.size:=by have:=hi.lt;omega
 have ne2:=Nat.ne_of_lt ne2_;have ne2':=ne2.symm;have K3:=Lib.hid (fun W=>pdot_any p dr W hp hdr (by omega) (by omega));have kK4:=fun W=>qcmp_any (Pl.dotP p dr) lv W ((hp.dot hdr).mono (by omega)) (hlv.mono (by omega))
 generalize hT6:Pl.cmpQ (Pl.dotP p dr) lv=t5 at kK4;have K4:=Lib.hid kK4;clear kK4;have T7:=Lib.hid (sgnQ hT6);have HhT6:=Lib.hid hT6;clear hT6;go_wp2_with fail;refine wp_named ?_;intro W1 hW1;have hL1:Below w.heap.size w W1:=by rw [hW1];exact bB
 have c8:=hs.up hL1;have c9:=hi.up hL1
 have c10:Own W1 w.heap.size 0 [.bool (ng p.1.num),.string (mg p.1.num.natAbs),.bool false,.string (mg (dn p.1)),.bool (ng p.2.num),.string (mg p.2.num.natAbs),.bool false,.string (mg (dn p.2))]:=by
  rw [hW1]
  first
  | (repeat (first|(with_reducible refine own_new (l:=[.bool (ng p.1.num),.string (mg p.1.num.natAbs),.bool false,.string (mg (dn p.1)),.bool (ng p.2.num),.string (mg p.2.num.natAbs),.bool false,.string (mg (dn p.2))]) ?_;(simp;done))|with_reducible refine Own.alloc ?_ _|refine Own.far _ _ (by first|(simp;done)|(simp [*];done)|(simp;omega)) ?_));done
  | simp [Own,go_sem,ne1,ne1',ne1_,ne2,ne2',ne2_]
 have hB11:Below w.heap.size w W1:=by rw [hW1];exact bB
 clear hW1 hL1 hs hi;have dc8:=fun p:Bel W1=>c8.bel p;have dc9:=fun p:Bel W1=>c9.bel p;have dc10:=fun p:Bel W1=>c10.bel p
 simp only [At,Own,Nat.reduceAdd,and_true] at dc8 dc9 dc10;refine wp_region_tail 9 (by kernel_rfl) (by kernel_rfl) ?_;simp only [List.take_succ_cons,List.take_zero,List.drop_succ_cons,List.drop_zero];repeat (go_big_quiet_step (first|(go_at_call 63;with_reducible exact Calls.bel (K3.out _))|(go_at_call 62;with_reducible exact Calls.bel (K4.out _))))
 refine wpQuiet_nil ?_;intro w1 hb1;have c12:=c8.up hb1;have c13:=c9.up hb1;have c14:=c10.up hb1;have hB15:Below w.heap.size w w1:=bel_up hB11 hb1;clear dc8 dc9 dc10 c8 c9 c10;have uc12:=c12;have uc13:=c13;have uc14:=c14;simp only [At,Own,Nat.reduceAdd,and_true] at uc12 uc13 uc14;go_wp2;go_ret;refine ⟨(by unfold beyB;rw [HhT6.out]<;>rfl),?_⟩;exact bB
end Go.Proofs.YtdkkjfnpinckjaaGreatDoor

namespace Go.Proofs.YtdkkjfnpinckjaaGreatDoor
open Go Go.RowKit

abbrev sepv (ap:Bool) (cm dr:Rat×Rat) (lv:Rat):Value:=.agg #[.bool ap,.bool (ng cm.1.num),.string (mg cm.1.num.natAbs),.bool false,.string (mg (dn cm.1)),.bool (ng cm.2.num),.string (mg cm.2.num.natAbs),.bool false,.string (mg (dn cm.2)),
 .bool (ng dr.1.num),.string (mg dr.1.num.natAbs),.bool false,.string (mg (dn dr.1)),.bool (ng dr.2.num),.string (mg dr.2.num.natAbs),.bool false,.string (mg (dn dr.2)),.bool (ng lv.num),.string (mg lv.num.natAbs),.bool false,.string (mg (dn lv))]
theorem closure_any (sg:Int) (bs:Nat) (w:World) :
 Calls Tryz.prog 60 #[.int .i64 sg,.pointer (some ⟨bs,0,none⟩)] w fun e w'=>e=.returned (.func (.func 61) #[] #[.pointer (some ⟨bs,0,none⟩),.pointer (some ⟨w.heap.size,0,none⟩)])∧Own w' w.heap.size 0 [.int .i64 sg]∧Below w.heap.size w w':=by
 go_enter Tryz.func60,Tryz.ntmps60;go_wp2;go_ret;exact ⟨rfl,by simp [Own,go_sem],(Below.refl _ _).alloc (Nat.le_refl _) _⟩
theorem search_any {S:Nat} (v:Value) (l:List (Rat×Rat)) (sg:Int) (cm dr:Rat×Rat) (lv:Rat) (bs bi:Nat) (w:World) (h:PV w v l) (hs:∀ q∈l,Pl.SzP S q) (hn:l.length≤1000000) (hS:S≤100000) (hdr:Pl.SzP S dr) (hlv:Pl.Sz S lv)
 (ho:Own w bs 0 (sepc true cm dr lv)) (hi:Own w bi 0 [.int .i64 sg]) :
 Calls Tryz.prog 64 #[v,.func (.func 61) #[] #[.pointer (some ⟨bs,0,none⟩),.pointer (some ⟨bi,0,none⟩)]] w fun e w'=>e=.returned (.bool (l.any (beyB dr lv sg)))∧Below w.heap.size w w' :=
 containsFunc_any v l w _ _ (beyB dr lv sg) h hn (enters_of Tryz.func61 (by kernel_rfl) rfl) fun W x hb hx=>beyond_any x true cm dr lv sg bs bi W (ho.up hb) (hi.up hb) (hs x hx) hdr hlv hS
def csepA (a b:List (Rat×Rat)) (cm dr:Rat×Rat) (lv:Rat):Int:=if cm≠(0,0)∨a.any (beyB dr lv (-1))=true∨b.any (beyB dr lv 1)=true then 30 else 0
set_option maxHeartbeats 2000000 in
theorem csep_apart {S:Nat} (va vb:Value) (a b:List (Rat×Rat)) (cm dr:Rat×Rat) (lv:Rat) (w:World) (ha:PV w va a) (hb:PV w vb b) (hsa:∀ q∈a,Pl.SzP S q) (hsb:∀ q∈b,Pl.SzP S q) (hna:a.length≤1000000) (hnb:b.length≤1000000)
 (hS:S≤100000) (hdr:Pl.SzP S dr) (hlv:Pl.Sz S lv) (h0a:0<a.length) (h0b:0<b.length) :
 Calls Tryz.prog 23 #[va,vb,sepv true cm dr lv] w fun e w'=>e=.returned (.int .i64 (csepA a b cm dr lv))∧Below w.heap.size w w':=by
 have HVA:=Lib.hid ha;have HVB:=Lib.hid hb;have HSA:=Lib.hid hsa;have HSB:=Lib.hid hsb;have KA:=Lib.hid (fun bs bi W hW ho hi=>search_any va a (-1) cm dr lv bs bi W hW hsa hna hS hdr hlv ho hi);have KB:=Lib.hid (fun bs bi W hW ho hi=>search_any vb b 1 cm dr lv bs bi W hW hsb hnb hS hdr hlv ho hi);have KC:=Lib.hid (fun sg bs W=>closure_any sg bs W);obtain ⟨Aa,ca,rfl,_,_,_⟩:=ha.open_;obtain ⟨Ab,cb,rfl,_,_,_⟩:=hb.open_;have HR:Hid (csepA a b cm dr lv=if cm≠(0,0)∨a.any (beyB dr lv (-1))=true∨b.any (beyB dr lv 1)=true then 30 else 0):=Lib.hid rfl;generalize a.any (beyB dr lv (-1))=ba at *;generalize b.any (beyB dr lv 1)=bb at *;generalize csepA a b cm dr lv=res at *;generalize a.length=Na at *;generalize b.length=Nb at *;have j1:((Na:Int)==0)=false:=by simp;omega
 have j2:((Nb:Int)==0)=false:=by simp;omega
 have j3:¬ (Na:Int)=0:=by omega
 have j4:¬ (Nb:Int)=0:=by omega
 clear ha hb hsa hsb
 by_cases hc:cm=(0,0)
 ·have EQ:=fun W=>eqP_zero cm W
  rw [decide_eq_true hc] at EQ;have HC:=Lib.hid hc;clear hc;go_enter Tryz.func23,Tryz.ntmps23;go_wp2_with fail;refine calls_named ?_;intro W1 hW1;have hL1:Below w.heap.size w W1:=by rw [hW1];exact (Below.refl _ _).alloc (Nat.le_refl _) _
  have c1:Own W1 w.heap.size 0 (sepc true cm dr lv):=by rw [hW1];simp [Own,sepc,pcells,go_sem]
  clear hW1;with_reducible refine (KC.out _ _ _).mono ?_
  rintro e w2 ⟨rfl,hi2,hb2⟩;have c2:=c1.up hb2;have hB2:=bel_up hL1 hb2;have PA2:=Lib.hid (HVA.out.up hB2);go_wp2_with fail;with_reducible refine (KA.out _ _ _ PA2.out c2 hi2).mono ?_
  rintro e w3 ⟨rfl,hb3⟩;have c3:=c2.up hb3;have hB3:=bel_up hB2 hb3;clear c1 c2 hi2;cases ba
  ·go_wp2_with fail
   with_reducible refine (KC.out _ _ _).mono ?_
   rintro e w4 ⟨rfl,hi4,hb4⟩;have c4:=c3.up hb4;have hB4:=bel_up hB3 hb4;have PB4:=Lib.hid (HVB.out.up hB4);go_wp2_with fail;with_reducible refine (KB.out _ _ _ PB4.out c4 hi4).mono ?_
   rintro e w5 ⟨rfl,hb5⟩;have hB5:=bel_up hB4 hb5;clear c3 c4 hi4;cases bb
   ·go_wp2
    go_ret;exact ⟨by rw [HR.out,if_neg (by rw [HC.out];simp)]<;>rfl,hB5⟩
   ·go_wp2
    go_ret;exact ⟨by rw [HR.out,if_pos (by simp)]<;>rfl,hB5⟩
  ·go_wp2
   go_ret;exact ⟨by rw [HR.out,if_pos (by simp)]<;>rfl,hB3⟩
 ·have EQ:=fun W=>eqP_zero cm W
  rw [decide_eq_false hc] at EQ;have HC:=Lib.hid hc;clear hc;go_enter Tryz.func23,Tryz.ntmps23;go_wp2;go_ret;refine ⟨by rw [HR.out,if_pos (.inl HC.out)]<;>rfl,?_⟩;repeat (first|with_reducible exact Below.refl _ _|with_reducible refine bel_alloc ?_ _)
end Go.Proofs.YtdkkjfnpinckjaaGreatDoor

namespace Go.Proofs.YtdkkjfnpinckjaaGreatDoor
open Go Go.RowKit

abbrev QI (x y:Int):Rat×Rat:=(Rat.divInt x 1,Rat.divInt y 1)
theorem sortP_of {l s:List (Rat×Rat)} (hp:s.Perm l) (hs:s.Pairwise fun x y=>(!Pl.lessP y x)=true):sortP l=s:=by
 refine List.Perm.eq_of_pairwise (le:=fun x y=>(!Pl.lessP y x)=true) ?_ ?_ hs ((List.mergeSort_perm _ _).trans hp.symm)
 ·intro x y _ _ h1 h2
  rcases Pl.less_total x y with h|h|h
  ·rw [h] at h2;cases h2
  ·exact h
  ·rw [h] at h1;cases h1
 ·refine List.pairwise_mergeSort ?_ ?_ l
  ·intro x y z h1 h2
   rcases h:Pl.lessP z x with _|_
   ·rfl
   ·rcases Pl.less_total y x with h3|h3|h3
    ·rw [h3] at h1;cases h1
    ·rw [h3] at h2;rw [h] at h2;cases h2
    ·have:=Pl.less_trans h h3
     rw [this] at h2;cases h2
  ·intro x y
   rcases h:Pl.lessP y x with _|_
   ·rfl
   ·rw [Pl.less_asymm h];rfl
theorem apart_of:∀ {s:List (Rat×Rat)},(s.Pairwise fun x y=>Pl.lessP x y=true)→Apart s
 | [],_,k,x,y,h,_=>by simp at h
 | [a],_,k,x,y,_,h=>by simp at h
 | a :: b :: s,hs,0,x,y,h1,h2=>by
  simp only [List.getElem?_cons_zero,List.getElem?_cons_succ,Option.some.injEq,Nat.zero_add] at h1 h2;subst h1;subst h2;intro e;have:=(List.pairwise_cons.1 hs).1 b (by simp);rw [e,Pl.less_irrefl] at this;cases this
 | a :: b :: s,hs,k+1,x,y,h1,h2=>apart_of (List.pairwise_cons.1 hs).2 k x y (by simpa using h1) (by simpa using h2)
def KA:List (Rat×Rat):=[QI 0 0,QI 1 0,QI 0 1]
def KB:List (Rat×Rat):=[QI 0 0,QI 2 0]
def KC:List (Rat×Rat):=[QI 1 1,QI 2 1,QI 1 2]
def KR:List (Rat×Rat):=[QI 0 0,QI 3 0,QI 2 1,QI 0 1]
def KS:List (Rat×Rat):=[QI 0 0,QI 0 1,QI 1 0,QI 2 0,QI 2 1,QI 3 0]
theorem ks_sort:sortP (sumL KA KB)=KS:=sortP_of (by decide +kernel) (by decide +kernel)
theorem ks_apart:Apart (sortP (sumL KA KB)):=by rw [ks_sort];exact apart_of (by decide +kernel)
theorem ks_hull:Pl.hullL (sortP (sumL KA KB))=KR:=by rw [ks_sort];decide +kernel
theorem k_sep1:csepA KA KC (0,0) (QI 1 1) (Rat.divInt 3 2)=0:=by decide +kernel
theorem k_sep2:csepA KC KA (0,0) (QI 1 1) (Rat.divInt 3 2)=30:=by decide +kernel
theorem qi_sz (x y:Int) (hx:x.natAbs≤10) (hy:y.natAbs≤10):Pl.SzP 1 (QI x y):=by
 have H:∀ z:Int,z.natAbs≤10→Pl.Sz 1 (Rat.divInt z 1):=fun z hz =>
  show Pl.Sz 1 (mkRat z 1) from Pl.sz_mkRat (by decide) ((Pl.L_le_iff _ _).2 (by omega)) (by decide)
 exact ⟨H x hx,H y hy⟩
theorem ka_sz:∀ q∈KA,Pl.SzP 1 q:=by
 intro q hq;simp only [KA,List.mem_cons,List.not_mem_nil,or_false] at hq;rcases hq with rfl|rfl|rfl<;>exact qi_sz _ _ (by decide) (by decide)
theorem kb_sz:∀ q∈KB,Pl.SzP 1 q:=by
 intro q hq;simp only [KB,List.mem_cons,List.not_mem_nil,or_false] at hq;rcases hq with rfl|rfl<;>exact qi_sz _ _ (by decide) (by decide)
theorem kc_sz:∀ q∈KC,Pl.SzP 1 q:=by
 intro q hq;simp only [KC,List.mem_cons,List.not_mem_nil,or_false] at hq;rcases hq with rfl|rfl|rfl<;>exact qi_sz _ _ (by decide) (by decide)
theorem sum_known (va vb:Value) (w:World) (ha:PV w va KA) (hb:PV w vb KB) :
 Calls Tryz.prog 24 #[va,vb] w fun e w'=>∃ v',e=.returned v'∧PV w' v' KR∧Below w.heap.size w w':=by
 have h:=sum_apart va vb KA KB w ha hb ka_sz kb_sz (by decide) (by decide) (by decide) ks_apart;rw [ks_hull] at h;exact h
theorem same_known (va vb:Value) (w:World) (ha:PV w va KR) (hb:PV w vb KR) :
 Calls Tryz.prog 25 #[va,vb] w fun e w'=>e=.returned (.bool true)∧Below w.heap.size w w':=by
 have h:=hsame_any va vb KR KR w ha hb (by decide);rw [Pl.sameB_iff,decide_eq_true rfl] at h;exact h
theorem lv_sz:Pl.Sz 1 (Rat.divInt 3 2):=⟨by decide +kernel,by decide +kernel⟩
abbrev KV:Value:=.agg #[.bool true,.bool false,.string ⟨#[]⟩,.bool false,.string ⟨#[]⟩,.bool false,.string ⟨#[]⟩,.bool false,.string ⟨#[]⟩,
 .bool (ng (Rat.divInt 1 1).num),.string (mg (Rat.divInt 1 1).num.natAbs),.bool false,.string (mg (dn (Rat.divInt 1 1))),.bool (ng (Rat.divInt 1 1).num),.string (mg (Rat.divInt 1 1).num.natAbs),.bool false,.string (mg (dn (Rat.divInt 1 1))),
 .bool (ng (Rat.divInt 3 2).num),.string (mg (Rat.divInt 3 2).num.natAbs),.bool false,.string (mg (dn (Rat.divInt 3 2)))]
theorem csep_known1 (va vb:Value) (w:World) (ha:PV w va KA) (hb:PV w vb KC) :
 Calls Tryz.prog 23 #[va,vb,KV] w fun e w'=>e=.returned (.int .i64 0)∧Below w.heap.size w w':=by
 have h:=csep_apart va vb KA KC (0,0) (QI 1 1) (Rat.divInt 3 2) w ha hb ka_sz kc_sz (by decide) (by decide) (by decide) (qi_sz 1 1 (by decide) (by decide)) lv_sz (by decide) (by decide);rw [k_sep1] at h;exact h
theorem csep_known2 (va vb:Value) (w:World) (ha:PV w va KC) (hb:PV w vb KA) :
 Calls Tryz.prog 23 #[va,vb,KV] w fun e w'=>e=.returned (.int .i64 30)∧Below w.heap.size w w':=by
 have h:=csep_apart va vb KC KA (0,0) (QI 1 1) (Rat.divInt 3 2) w ha hb kc_sz ka_sz (by decide) (by decide) (by decide) (qi_sz 1 1 (by decide) (by decide)) lv_sz (by decide) (by decide);rw [k_sep2] at h;exact h
abbrev KVq (q:Rat×Rat) (r:Rat):Value:=.agg #[.bool true,.bool false,.string ⟨#[]⟩,.bool false,.string ⟨#[]⟩,.bool false,.string ⟨#[]⟩,.bool false,.string ⟨#[]⟩,
 .bool (ng q.1.num),.string (mg q.1.num.natAbs),.bool false,.string (mg (dn q.1)),.bool (ng q.2.num),.string (mg q.2.num.natAbs),.bool false,.string (mg (dn q.2)),.bool (ng r.num),.string (mg r.num.natAbs),.bool false,.string (mg (dn r))]
theorem csep_q1 (va vb:Value) (q:Rat×Rat) (r:Rat) (w:World) (hq:q=QI 1 1) (hr:r=Rat.divInt 3 2) (ha:PV w va KA) (hb:PV w vb KC) :
 Calls Tryz.prog 23 #[va,vb,KVq q r] w fun e w'=>e=.returned (.int .i64 0)∧Below w.heap.size w w':=by subst hq;subst hr;exact csep_known1 va vb w ha hb
theorem csep_q2 (va vb:Value) (q:Rat×Rat) (r:Rat) (w:World) (hq:q=QI 1 1) (hr:r=Rat.divInt 3 2) (ha:PV w va KC) (hb:PV w vb KA) :
 Calls Tryz.prog 23 #[va,vb,KVq q r] w fun e w'=>e=.returned (.int .i64 30)∧Below w.heap.size w w':=by subst hq;subst hr;exact csep_known2 va vb w ha hb
theorem of_q (x y:Int) (q:Rat×Rat) (w:World) (hx:x.natAbs≤10) (hy:y.natAbs≤10) (hq:q=QI x y) :
 Calls Tryz.prog 52 #[.int .i64 x,.int .i64 y] w fun e w'=>e=.returned (pv q)∧Below w.heap.size w w':=by subst hq;exact hof_raw x y w (by omega) (by omega) (by omega) (by omega)
theorem of_r (x y:Int) (r:Rat) (w:World) (hx:x.natAbs≤10) (hy:y.natAbs≤10) (h0:y≠0) (hr:r=Rat.divInt x y) :
 Calls Tryz.prog 21 #[.int .i64 x,.int .i64 y] w fun e w'=>e=.returned (qv r)∧Below w.heap.size w w':=by subst hr;exact rOf_any x y w h0 (by omega) (by omega) (by omega) (by omega)
end Go.Proofs.YtdkkjfnpinckjaaGreatDoor
