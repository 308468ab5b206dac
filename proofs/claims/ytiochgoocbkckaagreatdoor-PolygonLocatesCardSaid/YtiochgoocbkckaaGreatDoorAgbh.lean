/-
 Package slices: a search by a closure over points.
 Contracts for the checks of integers.
 Contracts for polygons: the first error of a ring.
 Polygons as values: lists of rings; the magnitude of a fraction.
-/
import Derived.Test.YtiochgoocbkckaaGreatDoorAgao
import Derived.Test.YtiochgoocbkckaaGreatDoorAgav
import Derived.Test.YtiochgoocbkckaaGreatDoorAPe3
import Derived.Test.YtiochgoocbkckaaGreatDoorAgax
set_option maxRecDepth 100000
set_option linter.unusedSimpArgs false
set_option linter.unusedVariables false
namespace Go.Proofs.YtiochgoocbkckaaGreatDoor
open Go Go.RowKit

theorem take_snocS {l:List (Rat×Rat)} {k:Nat} {x:Rat×Rat} (h:l[k]?=some x):l.take (k+1)=l.take k++[x]:=by
 rw [List.take_add_one,h];rfl
set_option maxHeartbeats 1000000 in
theorem indexFunc_any (v:Value) (l:List (Rat×Rat)) (w:World) (f:FuncId) (cb:Array Value) (pr:Rat×Rat→Bool) (h:PV w v l) (hn:l.length≤1000000)
 (eg:∀ args w,(callFunc f args).run Tryz.prog w=.ok (.enter f args) w)
 (hp:∀ W x,Below w.heap.size w W→x∈l→Calls Tryz.prog f (#[pv x]++cb) W fun e w'=>e=.returned (.bool (pr x))∧Below W.heap.size W w') :
 Calls Tryz.prog 113 #[v,.func (.func f) #[] cb] w fun e w'=>(∃ z:Int,e=.returned (.int .i64 z)∧decide (0≤z)=l.any pr)∧Below w.heap.size w w':=by
 obtain ⟨A,c,rfl,hc,hm,hx⟩:=h.open_;have HX:=Lib.hid hx;have HP:=Lib.hid hp;have HF:Hid (l.take l.length=l):=Lib.hid List.take_length;generalize hN:l.length=N at *;have HN:=Lib.hid hN;clear h hx hN hp;go_enter Tryz.func113,Tryz.ntmps113;go_wp2_with fail;go_loopw [8] (fun i wr=>∃ k:Nat,k≤N∧i=.int .i64 k∧Below w.heap.size w wr∧Hid ((l.take k).any pr=false)) (fun i _=>N-(intOf i).toNat)
 case atStart=>exact ⟨0,Nat.zero_le _,rfl,Below.refl _ _,Lib.hid rfl⟩
 case round =>
  obtain ⟨k,hk,rfl,hB,HE⟩:=hrel
  by_cases hlt:k<N
  ·have i1:(k:Int)<N:=by omega
   obtain ⟨x,hx⟩:∃ x,l[k]?=some x:=⟨_,List.getElem?_eq_getElem (by rw [HN.out];omega)⟩
   have HT:Hid ((l.take (k+1)).any pr=pr x):=Lib.hid (by rw [take_snocS hx,List.any_append,HE.out];simp);have HM:=Lib.hid (List.mem_of_getElem? hx);obtain ⟨g,o,hA,-⟩:=HX.out _ _ hx;subst hA;have c1:=LX.at_ (HX.out.up kpP hB) hx;have u1:=c1;simp only [CE] at u1;have kp:=HP.out wr x hB HM.out;have HA:Hid (pr x=true→l.any pr=true):=Lib.hid (fun h=>List.any_eq_true.2 ⟨x,HM.out,h⟩);generalize pr x=b at kp HA HT;have KP:=Lib.hid kp;clear hx kp c1;go_wp2_with fail;go_at_fn f;with_reducible refine KP.out.mono ?_
   rintro e w1 ⟨rfl,hb1⟩;have hB1:Below w.heap.size w w1:=bel_up hB hb1;cases b
   ·go_wp2
    go_roundw
    case rel=>exact ⟨k+1,by omega,congrArg (Value.int .i64) (by omega),hB1,Lib.hid HT.out⟩
    case measure=>simp [intOf];omega
   ·go_wp2
    go_ret;exact ⟨⟨k,rfl,by rw [HA.out (by first|rfl|trivial)];simp⟩,hB1⟩
  ·have hkN:N=k:=by omega
   subst hkN;go_wp2;go_ret;exact ⟨⟨-1,rfl,by rw [← HF.out,HE.out];decide⟩,hB⟩
theorem containsFunc_any (v:Value) (l:List (Rat×Rat)) (w:World) (f:FuncId) (cb:Array Value) (pr:Rat×Rat→Bool) (h:PV w v l) (hn:l.length≤1000000)
 (eg:∀ args w,(callFunc f args).run Tryz.prog w=.ok (.enter f args) w)
 (hp:∀ W x,Below w.heap.size w W→x∈l→Calls Tryz.prog f (#[pv x]++cb) W fun e w'=>e=.returned (.bool (pr x))∧Below W.heap.size W w') :
 Calls Tryz.prog 52 #[v,.func (.func f) #[] cb] w fun e w'=>e=.returned (.bool (l.any pr))∧Below w.heap.size w w':=by
 have K:=Lib.hid (indexFunc_any v l w f cb pr h hn eg hp);clear h hp;go_enter Tryz.func52,Tryz.ntmps52;go_wp2_with fail;with_reducible refine K.out.mono ?_
 rintro e w1 ⟨⟨z,rfl,hz⟩,hb1⟩;have HZ:=Lib.hid hz;clear hz;go_wp2;go_ret;exact ⟨by rw [← HZ.out]<;>rfl,hb1⟩
end Go.Proofs.YtiochgoocbkckaaGreatDoor

namespace Go.Proofs.YtiochgoocbkckaaGreatDoor
open Go Go.RowKit

theorem icheck_zero (w:World) :
 Calls Tryz.prog 152 #[.agg #[.bool false,.string ⟨#[]⟩]] w fun e w'=>e=.returned (.int .i64 0)∧Below w.heap.size w w':=by
 go_enter Tryz.func152,Tryz.ntmps152;go_wp2;go_ret;refine ⟨rfl,?_⟩;repeat (first|with_reducible exact Below.refl _ _|with_reducible refine bel_alloc ?_ _)
theorem mg_head {n:Nat} (hn:n≠0) (h:0<(mg n).size):((mg n)[0]'h).toNat≠0:=by
 have hL:1≤Pl.L n:=Pl.L_pos hn;have g:=mg_get n (Pl.L n-1) (by omega) (by rw [mg_size];omega);have e:((mg n)[0]'h)=((mg n)[Pl.L n-1-(Pl.L n-1)]'(by rw [mg_size];omega)):=by congr 1;omega
 rw [e,g];have h1:n<256 ^ Pl.L n:=(Pl.L_le_iff _ _).1 (Nat.le_refl _);have h2:¬ n<256 ^ (Pl.L n-1):=fun c=>by have:=(Pl.L_le_iff _ _).2 c;omega
 have h3:256 ^ Pl.L n=256*256 ^ (Pl.L n-1):=by rw [← Nat.pow_succ'];congr 1;omega
 have hp:0<256 ^ (Pl.L n-1):=Nat.pow_pos (by decide);have h4:1≤n/256 ^ (Pl.L n-1):=(Nat.le_div_iff_mul_le hp).2 (by omega);have h5:n/256 ^ (Pl.L n-1)<256:=(Nat.div_lt_iff_lt_mul hp).2 (by omega);omega
theorem icheck_some (s:Bool) (n:Nat) (hn:n≠0) (w:World) :
 Calls Tryz.prog 152 #[.agg #[.bool s,.string (mg n)]] w fun e w'=>e=.returned (.int .i64 0)∧Below w.heap.size w w':=by
 have h1:=mg_some hn;have h2:=mg_size n;have h3:1≤Pl.L n:=Pl.L_pos hn;have h4:∀ h:0<(mg n).size,((((mg n)[0]'h).toNat:Int)==0)=false:=fun h=>by have:=mg_head hn h;simp;omega
 generalize mg n=x at *;go_enter Tryz.func152,Tryz.ntmps152;go_wp2;go_ret;refine ⟨rfl,?_⟩;repeat (first|with_reducible exact Below.refl _ _|with_reducible refine bel_alloc ?_ _)
theorem icheck_any (z:Int) (w:World) :
 Calls Tryz.prog 152 #[.agg #[.bool (ng z),.string (mg z.natAbs)]] w fun e w'=>e=.returned (.int .i64 0)∧Below w.heap.size w w':=by
 by_cases h:z=0
 ·subst h;exact icheck_zero w
 ·exact icheck_some _ _ (by omega) w
theorem icheckD_any (n:Nat) (w:World) :
 Calls Tryz.prog 152 #[.agg #[.bool false,.string (mg n)]] w fun e w'=>e=.returned (.int .i64 0)∧Below w.heap.size w w':=by
 by_cases h:n=0
 ·subst h;exact icheck_zero w
 ·exact icheck_some _ _ h w
-- by program
theorem qcheck_frac (z:Int) (d:Nat) (w:World) (hd:2≤d) (hg:Nat.gcd z.natAbs d=1) (h1:Pl.L z.natAbs≤67108864) (h2:Pl.L d≤67108864) :
 Calls Tryz.prog 114 #[.agg #[.bool (ng z),.string (mg z.natAbs),.bool false,.string (mg d)]] w fun e w'=>e=.returned (.int .i64 0)∧Below w.heap.size w w':=by
 have EQ0:=fun W=>eqI_in false false d 0 W
 rw [decide_eq_false (by omega),mg_zero] at EQ0;simp only [Bool.and_false] at EQ0;have EQ1:=fun W=>eqI_in false false 1 1 W
 simp only [beq_self_eq_true,decide_true,Bool.and_true] at EQ1
 have KCMP:Hid (∀ W,Calls Tryz.prog 135 #[nv d,nv 1] W fun e w'=>e=.returned (.int .i64 1)∧Below W.heap.size W w'):=Lib.hid (fun W=>by
  have h:=icmp_any d 1 W;have e1:iv (d:Int)=nv d:=by simp [iv,nv,ng]
  have e2:iv (1:Int)=nv 1:=by simp [iv,nv,ng]
  have e3:cmpZ (d:Int) 1=1:=by unfold cmpZ;rw [if_neg (by omega),if_pos (by omega)]
  rwa [e1,e2,e3] at h)
 have KGCD:Hid (∀ W,Calls Tryz.prog 154 #[.agg #[.bool (ng z),.string (mg z.natAbs)],nv d] W fun e w'=>e=.returned (nv 1)∧Below W.heap.size W w'):=Lib.hid (fun W=>by
  have h:=gcd_any (ng z) false z.natAbs d W h1 h2
  rwa [hg] at h)
 clear hd hg h1 h2;go_enter Tryz.func114,Tryz.ntmps114;have K1:=Lib.hid (fun W=>icheck_any z W);go_wp2_with (fail)
 refine calls_named ?_;intro W1 hW1;have hL1:Below w.heap.size w W1:=by rw [hW1];exact bB
 have c2:Own W1 w.heap.size 0 [.bool (ng z),.string (mg z.natAbs),.bool false,.string (mg d)]:=by
  rw [hW1]
  first
  | (repeat (first|(with_reducible refine own_new (l:=[.bool (ng z),.string (mg z.natAbs),.bool false,.string (mg d)]) ?_;(simp;done))|with_reducible refine Own.alloc ?_ _|refine Own.far _ _ (by first|(simp;done)|(simp [*];done)|(simp;omega)) ?_));done
  | simp [Own,go_sem]
 have hB3:Below w.heap.size w W1:=by rw [hW1];exact bB
 clear hW1 hL1;with_reducible refine (K1.out _).mono ?_
 rintro e w1 ⟨rfl,hb1⟩;have c4:=c2.up hb1;have hB5:Below w.heap.size w w1:=bel_up hB3 hb1;clear c2;have uc4:=c4;simp only [At,Own,Nat.reduceAdd,and_true] at uc4;have K6:=Lib.hid (fun W=>icheckD_any d W);go_wp2_with (fail)
 refine calls_named ?_;intro W2 hW2;have hL2:Below w1.heap.size w1 W2:=by rw [hW2];exact bB
 have c7:=c4.up hL2;have hB8:Below w.heap.size w W2:=by rw [hW2];exact bB
 clear hW2 hL2 uc4 c4;with_reducible refine (K6.out _).mono ?_
 rintro e w2 ⟨rfl,hb2⟩;have c9:=c7.up hb2;have hB10:Below w.heap.size w w2:=bel_up hB8 hb2;clear c7;have uc9:=c9;simp only [At,Own,Nat.reduceAdd,and_true] at uc9;have K11:=Lib.hid (fun W=>one_any W);have K12:=Lib.hid (fun W=>KCMP.out W);have K13:=Lib.hid (fun W=>KGCD.out W);go_wp2_with fail;refine wp_named ?_;intro W3 hW3;have hL3:Below w2.heap.size w2 W3:=by rw [hW3];exact bB
 have c14:=c9.up hL3;have hB15:Below w.heap.size w W3:=by rw [hW3];exact bB
 clear hW3 hL3 uc9 c9;have dc14:=fun p:Bel W3=>c14.bel p
 simp only [At,Own,Nat.reduceAdd,and_true] at dc14;refine wp_region_all (by kernel_rfl) (by kernel_rfl) ?_;repeat (go_big_quiet_step (first|(go_at_call 153;with_reducible exact Calls.bel (K11.out _))|(go_at_call 135;with_reducible exact Calls.bel (K12.out _))|(go_at_call 154;with_reducible exact Calls.bel (K13.out _))))
 refine wpQuiet_nil ?_;intro w3 hb3;have c16:=c14.up hb3;have hB17:Below w.heap.size w w3:=bel_up hB15 hb3;clear dc14 c14;have uc16:=c16;simp only [At,Own,Nat.reduceAdd,and_true] at uc16;go_wp2;go_ret;refine ⟨rfl,?_⟩;exact bB

theorem qcheck_whole (z:Int) (w:World) :
 Calls Tryz.prog 114 #[.agg #[.bool (ng z),.string (mg z.natAbs),.bool false,.string ⟨#[]⟩]] w fun e w'=>e=.returned (.int .i64 0)∧Below w.heap.size w w':=by
 have EQ0:=fun W=>eqI_in false false 0 0 W
 rw [mg_zero] at EQ0;simp only [beq_self_eq_true,decide_true,Bool.and_true] at EQ0;go_enter Tryz.func114,Tryz.ntmps114;have K1:=Lib.hid (fun W=>icheck_any z W);go_wp2_with (fail)
 refine calls_named ?_;intro W1 hW1;have hL1:Below w.heap.size w W1:=by rw [hW1];exact bB
 have c2:Own W1 w.heap.size 0 [.bool (ng z),.string (mg z.natAbs),.bool false,.string ⟨#[]⟩]:=by
  rw [hW1]
  first
  | (repeat (first|(with_reducible refine own_new (l:=[.bool (ng z),.string (mg z.natAbs),.bool false,.string ⟨#[]⟩]) ?_;(simp;done))|with_reducible refine Own.alloc ?_ _|refine Own.far _ _ (by first|(simp;done)|(simp [*];done)|(simp;omega)) ?_));done
  | simp [Own,go_sem]
 have hB3:Below w.heap.size w W1:=by rw [hW1];exact bB
 clear hW1 hL1;with_reducible refine (K1.out _).mono ?_
 rintro e w1 ⟨rfl,hb1⟩;have c4:=c2.up hb1;have hB5:Below w.heap.size w w1:=bel_up hB3 hb1;clear c2;have uc4:=c4;simp only [At,Own,Nat.reduceAdd,and_true] at uc4;have K6:=Lib.hid (fun W=>icheck_zero W);go_wp2_with (fail)
 refine calls_named ?_;intro W2 hW2;have hL2:Below w1.heap.size w1 W2:=by rw [hW2];exact bB
 have c7:=c4.up hL2;have hB8:Below w.heap.size w W2:=by rw [hW2];exact bB
 clear hW2 hL2 uc4 c4;with_reducible refine (K6.out _).mono ?_
 rintro e w2 ⟨rfl,hb2⟩;have c9:=c7.up hb2;have hB10:Below w.heap.size w w2:=bel_up hB8 hb2;clear c7;have uc9:=c9;simp only [At,Own,Nat.reduceAdd,and_true] at uc9;go_wp2;go_ret;refine ⟨rfl,?_⟩;exact bB

theorem qcheck_any (q:Rat) (w:World) (h:Pl.Sz 16777216 q) :
 Calls Tryz.prog 114 #[qv q] w fun e w'=>e=.returned (.int .i64 0)∧Below w.heap.size w w':=by
 by_cases hd:q.den=1
 ·have e:dn q=0:=by unfold dn;rw [if_pos hd]
  have:=qcheck_whole q.num w;rw [← mg_zero,← e] at this;exact this
 ·have e:dn q=q.den:=by unfold dn;rw [if_neg hd]
  have:=qcheck_frac q.num q.den w (by have:=q.den_nz;omega) q.reduced (Nat.le_trans h.1 (by decide)) (Nat.le_trans h.2 (by decide));rw [← e] at this;exact this

theorem pcheck_any (p:Rat×Rat) (w:World) (hp:Pl.SzP 16777216 p) :
 Calls Tryz.prog 54 #[pv p] w fun e w'=>e=.returned (.int .i64 0)∧Below w.heap.size w w':=by
 go_enter Tryz.func54,Tryz.ntmps54;have K1:=Lib.hid (fun W=>qcheck_any p.1 W (hp.1.mono (by omega)));go_wp2_with (fail)
 refine calls_named ?_;intro W1 hW1;have hL1:Below w.heap.size w W1:=by rw [hW1];exact bB
 have c2:Own W1 w.heap.size 0 [.bool (ng p.1.num),.string (mg p.1.num.natAbs),.bool false,.string (mg (dn p.1)),.bool (ng p.2.num),.string (mg p.2.num.natAbs),.bool false,.string (mg (dn p.2))]:=by
  rw [hW1]
  first
  | (repeat (first|(with_reducible refine own_new (l:=[.bool (ng p.1.num),.string (mg p.1.num.natAbs),.bool false,.string (mg (dn p.1)),.bool (ng p.2.num),.string (mg p.2.num.natAbs),.bool false,.string (mg (dn p.2))]) ?_;(simp;done))|with_reducible refine Own.alloc ?_ _|refine Own.far _ _ (by first|(simp;done)|(simp [*];done)|(simp;omega)) ?_));done
  | simp [Own,go_sem]
 have hB3:Below w.heap.size w W1:=by rw [hW1];exact bB
 clear hW1 hL1;with_reducible refine (K1.out _).mono ?_
 rintro e w1 ⟨rfl,hb1⟩;have c4:=c2.up hb1;have hB5:Below w.heap.size w w1:=bel_up hB3 hb1;clear c2;have uc4:=c4;simp only [At,Own,Nat.reduceAdd,and_true] at uc4;have K6:=Lib.hid (fun W=>qcheck_any p.2 W (hp.2.mono (by omega)));go_wp2_with (fail)
 refine calls_named ?_;intro W2 hW2;have hL2:Below w1.heap.size w1 W2:=by rw [hW2];exact bB
 have c7:=c4.up hL2;have hB8:Below w.heap.size w W2:=by rw [hW2];exact bB
 clear hW2 hL2 uc4 c4;with_reducible refine (K6.out _).mono ?_
 rintro e w2 ⟨rfl,hb2⟩;have c9:=c7.up hb2;have hB10:Below w.heap.size w w2:=bel_up hB8 hb2;clear c7;have uc9:=c9;simp only [At,Own,Nat.reduceAdd,and_true] at uc9;go_wp2;go_ret;refine ⟨rfl,?_⟩;exact bB
end Go.Proofs.YtiochgoocbkckaaGreatDoor

namespace Go.Proofs.YtiochgoocbkckaaGreatDoor
open Go Go.RowKit

theorem crc_any {S:Nat} (p:Rat×Rat) (w:World) (hp:Pl.SzP S p) (hS:S≤100000) :
 Calls Tryz.prog 53 #[pv p] w fun e w'=>e=.returned (.bool false)∧Below w.heap.size w w':=by
 go_enter Tryz.func53,Tryz.ntmps53;have K1:=Lib.hid (fun W=>pcheck_any p W (hp.mono (by omega)));go_wp2_with (fail)
 refine calls_named ?_;intro W1 hW1;have hL1:Below w.heap.size w W1:=by rw [hW1];exact bB
 have c2:Own W1 w.heap.size 0 [.bool (ng p.1.num),.string (mg p.1.num.natAbs),.bool false,.string (mg (dn p.1)),.bool (ng p.2.num),.string (mg p.2.num.natAbs),.bool false,.string (mg (dn p.2))]:=by
  rw [hW1]
  first
  | (repeat (first|(with_reducible refine own_new (l:=[.bool (ng p.1.num),.string (mg p.1.num.natAbs),.bool false,.string (mg (dn p.1)),.bool (ng p.2.num),.string (mg p.2.num.natAbs),.bool false,.string (mg (dn p.2))]) ?_;(simp;done))|with_reducible refine Own.alloc ?_ _|refine Own.far _ _ (by first|(simp;done)|(simp [*];done)|(simp;omega)) ?_));done
  | simp [Own,go_sem]
 have hB3:Below w.heap.size w W1:=by rw [hW1];exact bB
 clear hW1 hL1;with_reducible refine (K1.out _).mono ?_
 rintro e w1 ⟨rfl,hb1⟩;have c4:=c2.up hb1;have hB5:Below w.heap.size w w1:=bel_up hB3 hb1;clear c2;have uc4:=c4;simp only [At,Own,Nat.reduceAdd,and_true] at uc4;go_wp2;go_ret;refine ⟨rfl,?_⟩;exact bB

theorem any_false {α:Type} (l:List α):(l.any fun _=>false)=false:=by simp
theorem conf_any {S:Nat} (v:Value) (l:List (Rat×Rat)) (w:World) (h:PV w v l) (hs:∀ q∈l,Pl.SzP S q) (hn:l.length≤1000000) (hS:S≤100000) :
 Calls Tryz.prog 52 #[v,.func (.func 53) #[] #[]] w fun e w'=>e=.returned (.bool false)∧Below w.heap.size w w':=by
 have:=containsFunc_any v l w 53 #[] (fun _=>false) h hn (enters_of Tryz.func53 (by kernel_rfl) rfl) fun W x hb hx=>crc_any x W (hs x hx) hS
 rwa [any_false] at this

set_option maxHeartbeats 1000000 in
theorem cring_any {S:Nat} (v:Value) (l:List (Rat×Rat)) (w:World) (h:PV w v l) (hs:∀ q∈l,Pl.SzP S q) (hn:l.length≤1000) (hS:S≤1000) :
 Calls Tryz.prog 17 #[v] w fun e w'=>e=.returned (.int .i64 (Pg.errR l))∧Below w.heap.size w w':=by
 obtain ⟨A,c,rfl,hc,hm,hx⟩:=h.open_;have HV:=Lib.hid h;have HX:=Lib.hid hx;have HS:=Lib.hid hs;have HF:Hid (l.take l.length=l):=Lib.hid List.take_length;generalize hN:l.length=N at *;have HN:=Lib.hid hN;clear h hx hs hN;go_enter Tryz.func17,Tryz.ntmps17;have K1:=Lib.hid (fun W (hW:PV W (.slice A N c) l)=>conf_any _ l W hW HS.out (by rw [HN.out];omega) (by omega));go_wp2_with (fail)
 refine calls_named ?_;intro W1 hW1;have hL1:Below w.heap.size w W1:=by rw [hW1];exact bB
 have hB2:Below w.heap.size w W1:=by rw [hW1];exact bB
 clear hW1 hL1;with_reducible refine (K1.out _ (HV.out.up hB2)).mono ?_
 rintro e w1 ⟨rfl,hb1⟩;have hB3:Below w.heap.size w w1:=bel_up hB2 hb1
 by_cases hc4:(12:Int)<N
 ·skip
  have hc4_:¬ ((N:Int)≤12):=by omega
  go_wp2;go_ret;refine ⟨(by unfold Pg.errR;rw [HN.out,if_pos (by omega)]<;>rfl),?_⟩;exact bB
 ·skip
  have hc4_:((N:Int)≤12):=by omega
  have kK5:=fun W (hW:PV W (.slice A N c) l)=>simple_any _ l W hW HS.out (by rw [HN.out];omega) hS
  generalize hT7:Pg.simB Pg.badP l=b6 at kK5;have K5:=Lib.hid kK5;clear kK5;have HhT7:=Lib.hid hT7;clear hT7;go_wp2_with (fail)
  refine calls_named ?_;intro W2 hW2;have hL2:Below w1.heap.size w1 W2:=by rw [hW2];exact bB
  have hB8:Below w.heap.size w W2:=by rw [hW2];exact bB
  clear hW2 hL2;with_reducible refine (K5.out _ (HV.out.up hB8)).mono ?_
  rintro e w2 ⟨rfl,hb2⟩;have hB9:Below w.heap.size w w2:=bel_up hB8 hb2;cases b6
  ·skip
   go_wp2;go_ret;refine ⟨(by unfold Pg.errR;rw [HN.out,if_neg (by omega),HhT7.out,if_neg (by decide)]<;>rfl),?_⟩;exact bB
  ·skip
   go_wp2;go_ret;refine ⟨(by unfold Pg.errR;rw [HN.out,if_neg (by omega),HhT7.out,if_pos rfl]<;>rfl),?_⟩;exact bB
end Go.Proofs.YtiochgoocbkckaaGreatDoor

namespace Go.Proofs.YtiochgoocbkckaaGreatDoor
open Go Go.RowKit

def FarR (u v:Value):Prop:=∀ r,u.ownBlock=some r→v.ownBlock≠some r
theorem FarR.symm {u v:Value} (h:FarR u v):FarR v u:=fun r h1 h2=>h r h2 h1
theorem FarR.of {B:Nat} {u v:Value} (h:∀ r,v.ownBlock=some r→B≤r) (h':∀ r,u.ownBlock=some r→r<B):FarR v u:=fun r h1 h2=>by
 have:=h r h1;have:=h' r h2;omega
theorem far_new {w w':World} {e e':TypeId} {k k' n n':Nat} {v u:Value} {xs xs':List Value} (h:w'.ownsRow w.heap.size e k v n xs) {base:Nat} (h':w.ownsRow base e' k' u n' xs'):FarR v u :=
 .of (fun r hr=>(h.lt r hr).1) fun r hr=>(h'.lt r hr).2
theorem Step.farR {W w':World} {v v' u:Value} (s:Step W w' v v') (h:∀ r,u.ownBlock=some r→r<W.heap.size) (hf:FarR u v):FarR u v':=fun r hr=>s.far r (h r hr) (hf r hr)
theorem FarR.step {W w':World} {v v' u:Value} (s:Step W w' v v') {base k n:Nat} {e:TypeId} {xs:List Value} (h:W.ownsRow base e k u n xs) (hf:FarR u v):FarR u v':=s.farR (fun r hr=>(h.lt r hr).2) hf

/-! ### lists of slices -/
def vlc (x:Value):List Value:=[x]
def vls (l:List Value):List Value:=l.flatMap vlc
theorem vls_eq (l:List Value):vls l=l:=by
 induction l with
 | nil=>rfl
 | cons a l ih=>show [a]++vls l=_;rw [ih];rfl
theorem vls_snoc (l:List Value) (x:Value):vls (l++[x])=vls l++vlc x:=by simp [vls]
theorem ti_vl:TI Tryz.prog 34 23 1 24:=⟨Tryz.underlying34,by kernel_rfl,by decide⟩
theorem vlc_one (A:Option Addr) (n c:Nat):∀ u∈vlc (.slice A n c),u.oneCell'=true:=by
 intro u hu;simp only [vlc,List.mem_cons,List.not_mem_nil,or_false] at hu;subst hu;rfl
def CVL (w:World) (g i:Nat) (x:Value):Prop:=At w g i (vlc x)
theorem CVL.up {w w1:World} {g i:Nat} {x:Value} (h:CVL w g i x) (hb:Below w.heap.size w w1):CVL w1 g i x:=⟨(hb.cell (World.block_lt_of_cell? _ _ h.1)).trans h.1,trivial⟩
theorem CVL.bel {W:World} {g i:Nat} {x:Value} (h:CVL W g i x) (b:Bel W):CVL b.w1 g i x:=h.up b.h
theorem kpV:Kp CVL:=⟨fun h hb=>h.up hb⟩
def VLL (w:World) (v:Value) (L:List Value):Prop:=Sl w v L.length 1 (vls L)
theorem VLL.up {w w1:World} {v:Value} {L:List Value} (h:VLL w v L) (hb:Below w.heap.size w w1):VLL w1 v L:=Sl.up h hb
theorem VLL.open_ {w:World} {v:Value} {L:List Value} (h:VLL w v L):∃ A c,v=.slice A L.length c∧L.length≤c∧c≤maxLen∧LX CVL 1 w A L :=
 sl_open vlc 1 (fun _=>rfl) (fun _ _ _ _ H=>⟨H 0 _ (by omega) rfl,trivial⟩) h
theorem vl_nil (w:World):VLL w (.slice none 0 0) []:=Sl.nil w 1
theorem vl_own {w:World} {base n:Nat} {v:Value} {L:List Value} (h:w.ownsRow base 23 1 v n (vls L)):VLL w v L:=by
 have e:n=L.length:=by have:=h.1;rw [vls_eq] at this;omega
 subst e;exact Sl.of_own h
theorem owns_viewV {w:World} {base n g cap:Nat} {l:List Value} (h:w.ownsRow base 23 1 (.slice (some ⟨g,0,none⟩) n cap) n (vls l)):LX CVL 1 w (some ⟨g,0,none⟩) l:=by
 obtain ⟨A,c,hv,_,_,hx⟩:=(vl_own h).open_;have e:n=l.length:=by have:=h.1;rw [vls_eq] at this;omega
 subst e;cases hv;exact hx
def Rgs (w:World) (L:List Value) (Hs:List (List (Rat×Rat))):Prop:=L.length=Hs.length∧∀ (i:Nat) (u:Value) (l:List (Rat×Rat)),L[i]?=some u→Hs[i]?=some l→PV w u l
theorem Rgs.up {w w1:World} {L:List Value} {Hs:List (List (Rat×Rat))} (h:Rgs w L Hs) (hb:Below w.heap.size w w1):Rgs w1 L Hs:=⟨h.1,fun i u l hu hl=>(h.2 i u l hu hl).up hb⟩
theorem Rgs.nil (w:World):Rgs w [] []:=⟨rfl,fun i u l h=>by simp at h⟩
theorem Rgs.snoc {w:World} {L:List Value} {Hs:List (List (Rat×Rat))} (h:Rgs w L Hs) {u:Value} {l:List (Rat×Rat)} (hu:PV w u l):Rgs w (L++[u]) (Hs++[l]):=by
 refine ⟨by simp [h.1],fun i v m hv hm => ?_⟩
 by_cases hi:i<L.length
 ·rw [List.getElem?_append_left hi] at hv
  rw [List.getElem?_append_left (by rw [← h.1];exact hi)] at hm;exact h.2 i v m hv hm
 ·rw [List.getElem?_append_right (by omega)] at hv
  rw [List.getElem?_append_right (by rw [← h.1];omega),← h.1] at hm;have e:i-L.length=0:=by have:=(List.getElem?_eq_some_iff.1 hv).1;simp at this;omega
  rw [e] at hv hm;simp at hv hm;subst hv;subst hm;exact hu
theorem Rgs.get {w:World} {L:List Value} {Hs:List (List (Rat×Rat))} (h:Rgs w L Hs) {i:Nat} (hi:i<L.length):∃ u l,L[i]?=some u∧Hs[i]?=some l∧PV w u l:=by
 have hj:i<Hs.length:=by rw [← h.1];exact hi
 exact ⟨_,_,List.getElem?_eq_getElem hi,List.getElem?_eq_getElem hj,h.2 i _ _ (List.getElem?_eq_getElem hi) (List.getElem?_eq_getElem hj)⟩
def RL (w:World) (v:Value) (Hs:List (List (Rat×Rat))):Prop:=∃ L,VLL w v L∧Rgs w L Hs
theorem RL.up {w w1:World} {v:Value} {Hs:List (List (Rat×Rat))} (h:RL w v Hs) (hb:Below w.heap.size w w1):RL w1 v Hs:=by
 obtain ⟨L,h1,h2⟩:=h;exact ⟨L,h1.up hb,h2.up hb⟩
theorem rl_nil (w:World):RL w (.slice none 0 0) []:=⟨[],vl_nil w,Rgs.nil w⟩
def PoV (w:World) (v:Value) (O:List (Rat×Rat)) (Hs:List (List (Rat×Rat))):Prop:=∃ vo vh,v=.agg #[vo,vh]∧PV w vo O∧RL w vh Hs
theorem PoV.up {w w1:World} {v:Value} {O:List (Rat×Rat)} {Hs:List (List (Rat×Rat))} (h:PoV w v O Hs) (hb:Below w.heap.size w w1):PoV w1 v O Hs:=by
 obtain ⟨vo,vh,e,h1,h2⟩:=h;exact ⟨vo,vh,e,h1.up hb,h2.up hb⟩

/-! ### the magnitude of a fraction -/
theorem abs_num (a:Rat):(Pg.absQ a).num=(a.num.natAbs:Int)∧(Pg.absQ a).den=a.den:=by
 unfold Pg.absQ
 have:Pl.sgn a<0↔a.num<0:=by
  unfold Pl.sgn;rcases Int.lt_trichotomy a.num 0 with h|h|h
  ·rw [Int.sign_eq_neg_one_of_neg h];omega
  ·rw [h];decide
  ·rw [Int.sign_eq_one_of_pos h];omega
 split
 ·rename_i h
  have:=this.1 h;exact ⟨by show -a.num=_;omega,rfl⟩
 ·rename_i h
  have:¬ a.num<0:=fun c=>h (this.2 c)
  exact ⟨by omega,rfl⟩
theorem qv_abs (a:Rat):qv (Pg.absQ a)=.agg #[.bool (ng (a.num.natAbs:Int)),.string (mg ((a.num.natAbs:Int)).natAbs),.bool false,.string (mg (dn a))]:=by
 unfold qv dn;rw [(abs_num a).1,(abs_num a).2]
theorem Sz_abs {k:Nat} {a:Rat} (h:Pl.Sz k a):Pl.Sz k (Pg.absQ a):=by
 unfold Pl.Sz at *;rw [(abs_num a).1,(abs_num a).2];exact ⟨by simpa using h.1,h.2⟩
theorem made_abs (z:Int) (w:World):Calls Tryz.prog 158 #[.bool false,.string (mg z.natAbs)] w fun e w'=>e=.returned (iv (z.natAbs:Int))∧Below w.heap.size w w':=by
 have h:=made_any false z.natAbs w;rw [Bool.false_and] at h;refine h.mono fun e w' ⟨h1,h2⟩=>⟨?_,h2⟩
 rw [h1];have:ng (z.natAbs:Int)=false:=by unfold ng;simp
 rw [iv,this,Int.natAbs_natCast]

theorem iabs_any (z:Int) (w:World) :
 Calls Tryz.prog 121 #[iv z] w fun e w'=>e=.returned (iv (z.natAbs:Int))∧Below w.heap.size w w':=by
 go_enter Tryz.func121,Tryz.ntmps121;have K1:=Lib.hid (fun W=>made_abs z W);go_wp2_with (fail)
 refine calls_named ?_;intro W1 hW1;have hL1:Below w.heap.size w W1:=by rw [hW1];exact bB
 have c2:Own W1 w.heap.size 0 [.bool (ng z),.string (mg z.natAbs)]:=by
  rw [hW1]
  first
  | (repeat (first|(with_reducible refine own_new (l:=[.bool (ng z),.string (mg z.natAbs)]) ?_;(simp;done))|with_reducible refine Own.alloc ?_ _|refine Own.far _ _ (by first|(simp;done)|(simp [*];done)|(simp;omega)) ?_));done
  | simp [Own,go_sem]
 have c3:Own W1 (w.heap.size+1) 0 [.bool false,.string ⟨#[]⟩]:=by
  rw [hW1]
  first
  | (repeat (first|(with_reducible refine own_new (l:=[.bool false,.string ⟨#[]⟩]) ?_;(simp;done))|with_reducible refine Own.alloc ?_ _|refine Own.far _ _ (by first|(simp;done)|(simp [*];done)|(simp;omega)) ?_));done
  | simp [Own,go_sem]
 have hB4:Below w.heap.size w W1:=by rw [hW1];exact bB
 clear hW1 hL1;with_reducible refine (K1.out _).mono ?_
 rintro e w1 ⟨rfl,hb1⟩;have c5:=c2.up hb1;have c6:=c3.up hb1;have hB7:Below w.heap.size w w1:=bel_up hB4 hb1;clear c2 c3;have uc5:=c5;have uc6:=c6;simp only [At,Own,Nat.reduceAdd,and_true] at uc5 uc6;go_wp2;refine bodyPost_ret (v:=.agg #[.bool (ng (z.natAbs:Int)),.string (mg (z.natAbs:Int).natAbs)]) (by simp [results,Tryz.results121,go_sem,uc5,uc6]) rfl ⟨rfl,?_⟩;exact bB

theorem qabs_any (a:Rat) (w:World) :
 Calls Tryz.prog 63 #[qv a] w fun e w'=>e=.returned (qv (Pg.absQ a))∧Below w.heap.size w w':=by
 go_enter Tryz.func63,Tryz.ntmps63;have K1:=Lib.hid (fun W=>iabs_any a.num W);go_wp2_with fail;refine wp_named ?_;intro W1 hW1;have hL1:Below w.heap.size w W1:=by rw [hW1];exact bB
 have c2:Own W1 w.heap.size 0 [.bool (ng a.num),.string (mg a.num.natAbs),.bool false,.string (mg (dn a))]:=by
  rw [hW1]
  first
  | (repeat (first|(with_reducible refine own_new (l:=[.bool (ng a.num),.string (mg a.num.natAbs),.bool false,.string (mg (dn a))]) ?_;(simp;done))|with_reducible refine Own.alloc ?_ _|refine Own.far _ _ (by first|(simp;done)|(simp [*];done)|(simp;omega)) ?_));done
  | simp [Own,go_sem]
 have c3:Own W1 (w.heap.size+1) 0 [.bool false,.string ⟨#[]⟩,.bool false,.string ⟨#[]⟩]:=by
  rw [hW1]
  first
  | (repeat (first|(with_reducible refine own_new (l:=[.bool false,.string ⟨#[]⟩,.bool false,.string ⟨#[]⟩]) ?_;(simp;done))|with_reducible refine Own.alloc ?_ _|refine Own.far _ _ (by first|(simp;done)|(simp [*];done)|(simp;omega)) ?_));done
  | simp [Own,go_sem]
 have hB4:Below w.heap.size w W1:=by rw [hW1];exact bB
 clear hW1 hL1;have dc2:=fun p:Bel W1=>c2.bel p;have dc3:=fun p:Bel W1=>c3.bel p
 simp only [At,Own,Nat.reduceAdd,and_true] at dc2 dc3;refine wp_region_tail 6 (by kernel_rfl) (by kernel_rfl) ?_;simp only [List.take_succ_cons,List.take_zero,List.drop_succ_cons,List.drop_zero];repeat (go_big_quiet_step (first|(go_at_call 121;with_reducible exact Calls.bel (K1.out _))))
 refine wpQuiet_nil ?_;intro w1 hb1;have c5:=c2.up hb1;have c6:=c3.up hb1;have hB7:Below w.heap.size w w1:=bel_up hB4 hb1;clear dc2 dc3 c2 c3;have uc5:=c5;have uc6:=c6;simp only [At,Own,Nat.reduceAdd,and_true] at uc5 uc6;go_wp2;refine bodyPost_ret (v:=.agg #[.bool (ng (a.num.natAbs:Int)),.string (mg (a.num.natAbs:Int).natAbs),.bool false,.string (mg (dn a))]) (by simp [results,Tryz.results63,go_sem,uc5,uc6]) rfl ⟨(by rw [qv_abs]),?_⟩;exact bB
end Go.Proofs.YtiochgoocbkckaaGreatDoor
