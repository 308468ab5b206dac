/-
 The example with which the statements begin: its contracts.
 The example with which the statements begin: the walk.
-/
import Derived.Test.YtiochgoocbkckaaGreatDoorAPf1
import Derived.Test.YtiochgoocbkckaaGreatDoorAgbj
import Derived.Test.YtiochgoocbkckaaGreatDoorBPc1
import Derived.Test.YtiochgoocbkckaaGreatDoorAgav
import Derived.Test.YtiochgoocbkckaaGreatDoorAReg7
import Derived.Deep.WholeRow
import Derived.Deep.MidRow
set_option maxRecDepth 100000
set_option linter.unusedSimpArgs false
set_option linter.unusedVariables false
namespace Go.Proofs.YtiochgoocbkckaaGreatDoor
open Go Go.RowKit
abbrev LB1 (a b:World):Prop:=Below a.heap.size a b

theorem rof1_any (n:Int) (w:World) (h1 : -9223372036854775808≤n) (h2:n≤9223372036854775807):Calls Tryz.prog 42 #[.int .i64 n,.int .i64 1] w fun e w'=>e=.returned (qv (n:Rat))∧Below w.heap.size w w':=by
 have:=rOf_any n 1 w (by decide) h1 h2 (by decide) (by decide)
 rwa [show Rat.divInt n 1=(n:Rat) from by rw [Rat.divInt_eq_div];simp;grind] at this

theorem at8_any (x y:Int) (w:World) (h1x : -9223372036854775808≤x) (h2x:x≤9223372036854775807) (h1y : -9223372036854775808≤y) (h2y:y≤9223372036854775807) :
 Calls Tryz.prog 51 #[.int .i64 x,.int .i64 y] w fun e w'=>e=.returned (pv (Pg.ptI x y))∧Below w.heap.size w w':=by
 go_enter Tryz.func51,Tryz.ntmps51;have K1:=Lib.hid (fun W=>rof1_any x W h1x h2x);go_wp2_with (fail)
 refine calls_named ?_;intro W1 hW1;have hL1:LB1 w W1:=by rw [hW1];exact bB
 have c2:Own W1 w.heap.size 0 [.bool false,.string ⟨#[]⟩,.bool false,.string ⟨#[]⟩,.bool false,.string ⟨#[]⟩,.bool false,.string ⟨#[]⟩]:=by
  rw [hW1]
  first
  | (repeat (first|(with_reducible refine own_new (l:=[.bool false,.string ⟨#[]⟩,.bool false,.string ⟨#[]⟩,.bool false,.string ⟨#[]⟩,.bool false,.string ⟨#[]⟩]) ?_;(simp;done))|with_reducible refine Own.alloc ?_ _|refine Own.far _ _ (by first|(simp;done)|(simp [*];done)|(simp;omega)) ?_));done
  | simp [Own,go_sem]
 have hB3:LB1 w W1:=by rw [hW1];exact bB
 clear hW1 hL1;with_reducible refine (K1.out _).mono ?_
 rintro e w1 ⟨rfl,hb1⟩;have c4:=c2.up hb1;have hB5:LB1 w w1:=bel_up hB3 hb1;clear c2;have K6:=Lib.hid (fun W=>rof1_any y W h1y h2y);have uc4:=c4;simp only [At,Own,Nat.reduceAdd,and_true] at uc4;go_wp2_with (fail)
 refine calls_named ?_;intro W2 hW2;have hL2:LB1 w1 W2:=by rw [hW2];exact bB
 have c7:=c4.up hL2;have hB8:LB1 w W2:=by rw [hW2];exact bB
 clear hW2 hL2 uc4 c4;with_reducible refine (K6.out _).mono ?_
 rintro e w2 ⟨rfl,hb2⟩;have c9:=c7.up hb2;have hB10:LB1 w w2:=bel_up hB8 hb2;clear c7;have uc9:=c9;simp only [At,Own,Nat.reduceAdd,and_true] at uc9;go_wp2;refine bodyPost_ret (v:=.agg #[.bool (ng ((x:Rat).num)),.string (mg ((x:Rat).num).natAbs),.bool false,.string (mg (dn (x:Rat))),.bool (ng ((y:Rat).num)),.string (mg ((y:Rat).num).natAbs),.bool false,.string (mg (dn (y:Rat)))]) (by simp [results,Tryz.results51,go_sem,uc9]) rfl ⟨rfl,?_⟩;exact bB

theorem at_q (x y:Int) (q:Rat×Rat) (w:World) (hx:x.natAbs≤10) (hy:y.natAbs≤10) (hq:q=Pg.ptI x y) :
 Calls Tryz.prog 51 #[.int .i64 x,.int .i64 y] w fun e w'=>e=.returned (pv q)∧Below w.heap.size w w':=by subst hq;exact at8_any x y w (by omega) (by omega) (by omega) (by omega)
theorem of_kn (q:Rat) (w:World) (hq:q=30):Calls Tryz.prog 42 #[.int .i64 30,.int .i64 1] w fun e w'=>e=.returned (qv q)∧Below w.heap.size w w':=by subst hq;exact rof1_any 30 w (by decide) (by decide)
def kO:List (Rat×Rat):=[Pg.ptI 0 0,Pg.ptI 4 0,Pg.ptI 4 4,Pg.ptI 0 4]
def kH:List (Rat×Rat):=[Pg.ptI 1 1,Pg.ptI 2 1,Pg.ptI 2 2,Pg.ptI 1 2]
def kC:List (Rat×Rat):=[Pg.ptI 1 1,Pg.ptI 1 2,Pg.ptI 2 2,Pg.ptI 2 1]
def kB:List (Rat×Rat):=[Pg.ptI 0 0,Pg.ptI 2 2,Pg.ptI 2 0,Pg.ptI 0 2]
theorem kn_sz:(∀ q∈kO,Pl.SzP 10 q)∧(∀ q∈kH,Pl.SzP 10 q)∧(∀ q∈kB,Pl.SzP 10 q):=by
 unfold kO kH kB Pl.SzP Pl.Sz;decide +kernel
theorem kn_szH:∀ r∈[kH],∀ q∈r,Pl.SzP 10 q:=fun r h=>by simp only [List.mem_singleton] at h;subst h;exact kn_sz.2.1
theorem kn_len:∀ r∈[kH],r.length≤16:=fun r h=>by simp only [List.mem_singleton] at h;subst h;decide
theorem kn_len2:∀ r∈[kH],r.length≤100:=fun r h=>by simp only [List.mem_singleton] at h;subst h;decide
theorem kn_err:errP kO [kH]=0:=by decide +kernel
theorem kn_area:areaP kO [kH]=30:=by decide +kernel
theorem kn_loc1:locP kO [kH] (Pg.ptI 1 1)=0:=by decide +kernel
theorem kn_loc2:locP kO [kH] (Pg.ptI 3 3)=1:=by decide +kernel
theorem kn_bad:Pg.errR kB=13:=by decide +kernel
theorem kn_form:Pg.formP kO 1=kO∧Pg.formP kH (-1)=kC:=by decide +kernel
theorem kn_nz:Pg.ringA kO≠0∧Pg.ringA kH≠0:=by decide +kernel
theorem kn_nzH:∀ r∈[kH],Pg.ringA r≠0:=fun r h=>by simp only [List.mem_singleton] at h;subst h;exact kn_nz.2
theorem check_kn (v:Value) (w:World) (h:PoV w v kO [kH]):Calls Tryz.prog 20 #[v] w fun e w'=>e=.returned (.int .i64 0)∧Below w.heap.size w w':=by
 have:=pcheckP_any (S:=10) v kO [kH] w h kn_sz.1 kn_szH (by decide) kn_len2 (by decide) (by decide)
 rwa [kn_err] at this
theorem area_kn (v:Value) (w:World) (q:Rat) (hq:q=30) (h:PoV w v kO [kH]):Calls Tryz.prog 22 #[v] w fun e w'=>e=.returned (qv q)∧Below w.heap.size w w':=by
 have:=parea2_any (S:=10) v kO [kH] w h kn_sz.1 kn_szH (by decide) kn_len2 (by decide) (by decide)
 rwa [kn_area,← hq] at this
theorem loc_kn (v:Value) (w:World) (x y:Int) (q:Rat×Rat) (z:Int) (hq:q=Pg.ptI x y) (hz:(x=1∧y=1∧z=0)∨(x=3∧y=3∧z=1)) (h:PoV w v kO [kH]):Calls Tryz.prog 29 #[v,pv q] w fun e w'=>e=.returned (.int .i64 z)∧Below w.heap.size w w':=by
 subst hq;rcases hz with ⟨rfl,rfl,rfl⟩|⟨rfl,rfl,rfl⟩
 ·have:=plocate_any (S:=10) v kO [kH] (Pg.ptI 1 1) w h kn_sz.1 kn_szH (by decide) kn_len2 (by decide) (by decide) (by unfold Pl.SzP Pl.Sz;decide +kernel)
  rwa [kn_loc1] at this
 ·have:=plocate_any (S:=10) v kO [kH] (Pg.ptI 3 3) w h kn_sz.1 kn_szH (by decide) kn_len2 (by decide) (by decide) (by unfold Pl.SzP Pl.Sz;decide +kernel)
  rwa [kn_loc2] at this
theorem canon_kn (v:Value) (w:World) (h:PoV w v kO [kH]):Calls Tryz.prog 25 #[v] w fun e w'=>∃ v',e=.returned v'∧PoV w' v' kO [kC]∧Below w.heap.size w w':=by
 have:=pcanon_any (S:=10) v kO [kH] w h kn_sz.1 kn_szH (by decide) kn_len (by decide) (by decide) kn_nz.1 kn_nzH
 rwa [List.map_cons,List.map_nil,kn_form.1,kn_form.2] at this
theorem ring_kn (v:Value) (w:World) (h:PV w v kB):Calls Tryz.prog 17 #[v] w fun e w'=>e=.returned (.int .i64 13)∧Below w.heap.size w w':=by
 have:=cring_any (S:=10) v kB w h kn_sz.2.2 (by decide) (by decide)
 rwa [kn_bad] at this
end Go.Proofs.YtiochgoocbkckaaGreatDoor

namespace Go.Proofs.YtiochgoocbkckaaGreatDoor
open Go Go.RowKit

theorem vll_one {w:World} {b:Nat} {v:Value} (h:Own w b 0 [v]):VLL w (.slice (some ⟨b,0,none⟩) 1 1) [v]:=by
 refine ⟨by simp [vls,vlc],.inr ⟨b,0,1,rfl,Nat.le_refl _,by decide,fun j u hj => ?_⟩⟩;have:=At.get h.at_ (j:=j) (by rw [vls_eq] at hj;exact hj)
 simpa using this
theorem rgs_one {w:World} {v:Value} {l:List (Rat×Rat)} (h:PV w v l):Rgs w [v] [l]:=Rgs.snoc (L:=[]) (Hs:=[]) (Rgs.nil w) h
theorem pv_new {V:World} {a b c d:Rat×Rat} {l:List (Rat×Rat)} (hl:[a,b,c,d]=l):PV (V.alloc (.cells (pcells a++pcells b++pcells c++pcells d).toArray 45)) (.slice (some ⟨V.heap.size,0,none⟩) 4 4) l:=by
 subst hl;exact pv_lit (n:=4) (l:=[a,b,c,d]) (own_new (l:=pcells a++pcells b++pcells c++pcells d) (by simp)) (by simp [pts]) ⟨rfl,by decide⟩

set_option maxHeartbeats 4000000 in
theorem known_any (w:World) :
 Calls Tryz.prog 16 #[] w fun e w'=>e=.returned (.bool true)∧Below w.heap.size w w':=by
 obtain ⟨q00,hq00⟩:∃ q,q=Pg.ptI 0 0:=⟨_,rfl⟩
 have Hq00:=Lib.hid hq00;obtain ⟨q40,hq40⟩:∃ q,q=Pg.ptI 4 0:=⟨_,rfl⟩
 have Hq40:=Lib.hid hq40;obtain ⟨q44,hq44⟩:∃ q,q=Pg.ptI 4 4:=⟨_,rfl⟩
 have Hq44:=Lib.hid hq44;obtain ⟨q04,hq04⟩:∃ q,q=Pg.ptI 0 4:=⟨_,rfl⟩
 have Hq04:=Lib.hid hq04;obtain ⟨q11,hq11⟩:∃ q,q=Pg.ptI 1 1:=⟨_,rfl⟩
 have Hq11:=Lib.hid hq11;obtain ⟨q21,hq21⟩:∃ q,q=Pg.ptI 2 1:=⟨_,rfl⟩
 have Hq21:=Lib.hid hq21;obtain ⟨q22,hq22⟩:∃ q,q=Pg.ptI 2 2:=⟨_,rfl⟩
 have Hq22:=Lib.hid hq22;obtain ⟨q12,hq12⟩:∃ q,q=Pg.ptI 1 2:=⟨_,rfl⟩
 have Hq12:=Lib.hid hq12;obtain ⟨q33,hq33⟩:∃ q,q=Pg.ptI 3 3:=⟨_,rfl⟩
 have Hq33:=Lib.hid hq33;obtain ⟨q20,hq20⟩:∃ q,q=Pg.ptI 2 0:=⟨_,rfl⟩
 have Hq20:=Lib.hid hq20;obtain ⟨q02,hq02⟩:∃ q,q=Pg.ptI 0 2:=⟨_,rfl⟩
 have Hq02:=Lib.hid hq02;obtain ⟨r30,hr30⟩:∃ r:Rat,r=30:=⟨_,rfl⟩
 have Hr30:=Lib.hid hr30;have HKO:Hid ([q00,q40,q44,q04]=kO):=Lib.hid (by simp only [hq00,hq40,hq44,hq04];rfl);have HKH:Hid ([q11,q21,q22,q12]=kH):=Lib.hid (by simp only [hq11,hq21,hq22,hq12];rfl);have HKB:Hid ([q00,q22,q20,q02]=kB):=Lib.hid (by simp only [hq00,hq22,hq20,hq02];rfl);have HK1:Hid (kC[1]?=some q12):=Lib.hid (by rw [hq12];rfl);have EQr:=fun W=>eqQ_in r30 r30 W
 rw [decide_eq_true rfl] at EQr;have EQp:=fun W=>eqP_in q12 q12 W
 rw [decide_eq_true rfl] at EQp;clear hq00 hq40 hq44 hq04 hq11 hq21 hq22 hq12 hq33 hq20 hq02 hr30;go_enter Tryz.func16,Tryz.ntmps16;have K1:=Lib.hid (fun W=>at_q 0 0 q00 W (by decide) (by decide) Hq00.out);go_wp2_with (fail)
 refine calls_named ?_;intro W1 hW1;have hL1:LB1 w W1:=by rw [hW1];exact bB
 have hB2:LB1 w W1:=by rw [hW1];exact bB
 clear hW1 hL1;with_reducible refine (K1.out _).mono ?_
 rintro e w1 ⟨rfl,hb1⟩;have hB3:LB1 w w1:=bel_up hB2 hb1;have K4:=Lib.hid (fun W=>at_q 4 0 q40 W (by decide) (by decide) Hq40.out);go_wp2_with (fail)
 refine calls_named ?_;intro W2 hW2;have hL2:LB1 w1 W2:=by rw [hW2];exact bB
 have hB5:LB1 w W2:=by rw [hW2];exact bB
 clear hW2 hL2;with_reducible refine (K4.out _).mono ?_
 rintro e w2 ⟨rfl,hb2⟩;have hB6:LB1 w w2:=bel_up hB5 hb2;have K7:=Lib.hid (fun W=>at_q 4 4 q44 W (by decide) (by decide) Hq44.out);go_wp2_with (fail)
 refine calls_named ?_;intro W3 hW3;have hL3:LB1 w2 W3:=by rw [hW3];exact bB
 have hB8:LB1 w W3:=by rw [hW3];exact bB
 clear hW3 hL3;with_reducible refine (K7.out _).mono ?_
 rintro e w3 ⟨rfl,hb3⟩;have hB9:LB1 w w3:=bel_up hB8 hb3;have K10:=Lib.hid (fun W=>at_q 0 4 q04 W (by decide) (by decide) Hq04.out);go_wp2_with (fail)
 refine calls_named ?_;intro W4 hW4;have hL4:LB1 w3 W4:=by rw [hW4];exact bB
 have hB11:LB1 w W4:=by rw [hW4];exact bB
 clear hW4 hL4;with_reducible refine (K10.out _).mono ?_
 rintro e w4 ⟨rfl,hb4⟩;have hB12:LB1 w w4:=bel_up hB11 hb4;have K13:=Lib.hid (fun W=>at_q 1 1 q11 W (by decide) (by decide) Hq11.out);go_wp2_with (fail)
 refine calls_named ?_;intro W5 hW5;have hL5:LB1 w4 W5:=by rw [hW5];exact bB
 have c14:Own W5 w4.heap.size 0 [.bool (ng q00.1.num),.string (mg q00.1.num.natAbs),.bool false,.string (mg (dn q00.1)),.bool (ng q00.2.num),.string (mg q00.2.num.natAbs),.bool false,.string (mg (dn q00.2)),.bool (ng q40.1.num),.string (mg q40.1.num.natAbs),.bool false,.string (mg (dn q40.1)),.bool (ng q40.2.num),.string (mg q40.2.num.natAbs),.bool false,.string (mg (dn q40.2)),.bool (ng q44.1.num),.string (mg q44.1.num.natAbs),.bool false,.string (mg (dn q44.1)),.bool (ng q44.2.num),.string (mg q44.2.num.natAbs),.bool false,.string (mg (dn q44.2)),.bool (ng q04.1.num),.string (mg q04.1.num.natAbs),.bool false,.string (mg (dn q04.1)),.bool (ng q04.2.num),.string (mg q04.2.num.natAbs),.bool false,.string (mg (dn q04.2))]:=by
  rw [hW5]
  first
  | (repeat (first|(with_reducible refine own_new ?_;(simp;done))|with_reducible refine Own.alloc ?_ _|refine Own.far _ _ (by first|(simp;done)|(simp [*];done)|(simp;omega)) ?_));done
  | simp [Own,go_sem]
 have hB15:LB1 w W5:=by rw [hW5];exact bB
 clear hW5 hL5;with_reducible refine (K13.out _).mono ?_
 rintro e w5 ⟨rfl,hb5⟩;have c16:=c14.up hb5;have hB17:LB1 w w5:=bel_up hB15 hb5;clear c14;have K18:=Lib.hid (fun W=>at_q 2 1 q21 W (by decide) (by decide) Hq21.out);have uc16:=c16;simp only [At,Own,Nat.reduceAdd,and_true] at uc16;go_wp2_with (fail)
 refine calls_named ?_;intro W6 hW6;have hL6:LB1 w5 W6:=by rw [hW6];exact bB
 have c19:=c16.up hL6;have hB20:LB1 w W6:=by rw [hW6];exact bB
 clear hW6 hL6 uc16 c16;with_reducible refine (K18.out _).mono ?_
 rintro e w6 ⟨rfl,hb6⟩;have c21:=c19.up hb6;have hB22:LB1 w w6:=bel_up hB20 hb6;clear c19;have K23:=Lib.hid (fun W=>at_q 2 2 q22 W (by decide) (by decide) Hq22.out);have uc21:=c21;simp only [At,Own,Nat.reduceAdd,and_true] at uc21;go_wp2_with (fail)
 refine calls_named ?_;intro W7 hW7;have hL7:LB1 w6 W7:=by rw [hW7];exact bB
 have c24:=c21.up hL7;have hB25:LB1 w W7:=by rw [hW7];exact bB
 clear hW7 hL7 uc21 c21;with_reducible refine (K23.out _).mono ?_
 rintro e w7 ⟨rfl,hb7⟩;have c26:=c24.up hb7;have hB27:LB1 w w7:=bel_up hB25 hb7;clear c24;have K28:=Lib.hid (fun W=>at_q 1 2 q12 W (by decide) (by decide) Hq12.out);have uc26:=c26;simp only [At,Own,Nat.reduceAdd,and_true] at uc26;go_wp2_with (fail)
 refine calls_named ?_;intro W8 hW8;have hL8:LB1 w7 W8:=by rw [hW8];exact bB
 have c29:=c26.up hL8;have hB30:LB1 w W8:=by rw [hW8];exact bB
 clear hW8 hL8 uc26 c26;with_reducible refine (K28.out _).mono ?_
 rintro e w8 ⟨rfl,hb8⟩;have c31:=c29.up hb8;have hB32:LB1 w w8:=bel_up hB30 hb8;clear c29;have ne33_:w4.heap.size<w8.heap.size:=by have:=c31.lt;omega
 have ne33:=Nat.ne_of_lt ne33_;have ne33':=ne33.symm;have ne34_:w4.heap.size<w8.heap.size+1:=by have:=c31.lt;omega
 have ne34:=Nat.ne_of_lt ne34_;have ne34':=ne34.symm;have ne35_:w4.heap.size<w8.heap.size+2:=by have:=c31.lt;omega
 have ne35:=Nat.ne_of_lt ne35_;have ne35':=ne35.symm;have uc31:=c31;simp only [At,Own,Nat.reduceAdd,and_true] at uc31;have KCN:=Lib.hid (fun W (hP:PoV W (.agg #[(.slice (some ⟨w4.heap.size,0,none⟩) 4 4),(.slice (some ⟨w8.heap.size+1,0,none⟩) 1 1)]) kO [kH])=>canon_kn _ W hP);go_wp2_with (fail)
 refine calls_named ?_;intro W9 hW9;have hL9:LB1 w8 W9:=by rw [hW9];exact bB
 have c36:=c31.up hL9
 have c37:Own W9 w8.heap.size 0 [.bool (ng q11.1.num),.string (mg q11.1.num.natAbs),.bool false,.string (mg (dn q11.1)),.bool (ng q11.2.num),.string (mg q11.2.num.natAbs),.bool false,.string (mg (dn q11.2)),.bool (ng q21.1.num),.string (mg q21.1.num.natAbs),.bool false,.string (mg (dn q21.1)),.bool (ng q21.2.num),.string (mg q21.2.num.natAbs),.bool false,.string (mg (dn q21.2)),.bool (ng q22.1.num),.string (mg q22.1.num.natAbs),.bool false,.string (mg (dn q22.1)),.bool (ng q22.2.num),.string (mg q22.2.num.natAbs),.bool false,.string (mg (dn q22.2)),.bool (ng q12.1.num),.string (mg q12.1.num.natAbs),.bool false,.string (mg (dn q12.1)),.bool (ng q12.2.num),.string (mg q12.2.num.natAbs),.bool false,.string (mg (dn q12.2))]:=by
  rw [hW9]
  first
  | (repeat (first|(with_reducible refine own_new ?_;(simp;done))|with_reducible refine Own.alloc ?_ _|refine Own.far _ _ (by first|(simp;done)|(simp [*];done)|(simp;omega)) ?_));done
  | simp [Own,go_sem,uc31,ne33,ne33',ne33_,ne34,ne34',ne34_,ne35,ne35',ne35_]
 have c38:Own W9 (w8.heap.size+1) 0 [(.slice (some ⟨w8.heap.size,0,none⟩) 4 4)]:=by
  rw [hW9]
  first
  | (repeat (first|(with_reducible refine own_new ?_;(simp;done))|with_reducible refine Own.alloc ?_ _|refine Own.far _ _ (by first|(simp;done)|(simp [*];done)|(simp;omega)) ?_));done
  | simp [Own,go_sem,uc31,ne33,ne33',ne33_,ne34,ne34',ne34_,ne35,ne35',ne35_]
 have c39:Own W9 (w8.heap.size+2) 0 [((.slice (some ⟨w4.heap.size,0,none⟩) 4 4)),((.slice (some ⟨w8.heap.size+1,0,none⟩) 1 1))]:=by
  rw [hW9]
  first
  | (repeat (first|(with_reducible refine own_new ?_;(simp;done))|with_reducible refine Own.alloc ?_ _|refine Own.far _ _ (by first|(simp;done)|(simp [*];done)|(simp;omega)) ?_));done
  | simp [Own,go_sem,uc31,ne33,ne33',ne33_,ne34,ne34',ne34_,ne35,ne35',ne35_]
 have hB40:LB1 w W9:=by rw [hW9];exact bB
 clear hW9 hL9 uc31 c31;have HPO:Hid (PoV W9 (.agg #[(.slice (some ⟨w4.heap.size,0,none⟩) 4 4),(.slice (some ⟨w8.heap.size+1,0,none⟩) 1 1)]) kO [kH]):=Lib.hid ⟨_,_,rfl,HKO.out▸pv_lit (n:=4) (l:=[q00,q40,q44,q04]) c36 rfl ⟨rfl,by decide⟩,[_],vll_one c38,rgs_one (HKH.out▸pv_lit (n:=4) (l:=[q11,q21,q22,q12]) c37 rfl ⟨rfl,by decide⟩)⟩;with_reducible refine (KCN.out _ HPO.out).mono ?_
 rintro e w9 ⟨v1,rfl,hpo,hb9⟩;have c41:=c36.up hb9;have c42:=c37.up hb9;have c43:=c38.up hb9;have c44:=c39.up hb9;have hA45:=hb9;have hB46:LB1 w w9:=bel_up hB40 hb9;clear c36 c37 c38 c39;obtain ⟨voC,vhC,rfl,hvoC,LhC,hvhC,hrgC⟩:=hpo;have hlC:LhC.length=1:=hrgC.1;obtain ⟨AhC,chC,rfl,hccC,hmmC,hxhC⟩:=hvhC.open_;obtain ⟨xC,rC,hx0,hr0,hp0⟩:=hrgC.get (i:=0) (by omega);obtain rfl:kC=rC:=by simpa using hr0
 obtain ⟨AxC,cxC,hvx,-,-,hxx⟩:=hp0.open_;rw [show kC.length=4 from rfl] at hvx;subst hvx;rw [hlC] at hccC ⊢;obtain ⟨AoC,coC,hvo,-,-,-⟩:=hvoC.open_;rw [show kO.length=4 from rfl] at hvo;subst hvo;have HXHC:=Lib.hid hxhC;have HX0:=Lib.hid hx0;have HXX:=Lib.hid hxx;clear hvoC hvhC hrgC hr0 hp0 hxhC hx0 hxx hlC;have uc41:=c41;have uc42:=c42;have uc43:=c43;have uc44:=c44;simp only [At,Own,Nat.reduceAdd,and_true] at uc41 uc42 uc43 uc44;have an47:W9.heap.size≤w9.heap.size:=by have:=hA45.size;omega
 have an48:w9.heap.size≤w9.heap.size:=by omega
 have ne49_:w4.heap.size<w9.heap.size:=by have:=c41.lt;omega
 have ne49:=Nat.ne_of_lt ne49_;have ne49':=ne49.symm;have ne50_:w8.heap.size<w9.heap.size:=by have:=c42.lt;omega
 have ne50:=Nat.ne_of_lt ne50_;have ne50':=ne50.symm;have ne51_:w8.heap.size+1<w9.heap.size:=by have:=c43.lt;omega
 have ne51:=Nat.ne_of_lt ne51_;have ne51':=ne51.symm;have ne52_:w8.heap.size+2<w9.heap.size:=by have:=c44.lt;omega
 have ne52:=Nat.ne_of_lt ne52_;have ne52':=ne52.symm;go_upto_region 3 with fail
 refine wp_named ?_;intro W10 hW10;have hL10:LB1 w9 W10:=by rw [hW10];exact bB
 have c53:=c41.up hL10;have c54:=c42.up hL10;have c55:=c43.up hL10;have c56:=c44.up hL10
 have c57:Own W10 w9.heap.size 0 [((.slice AoC 4 coC)),.slice AhC 1 chC]:=by
  rw [hW10]
  first
  | (repeat (first|(with_reducible refine own_new ?_;(simp;done))|with_reducible refine Own.alloc ?_ _|refine Own.far _ _ (by first|(simp;done)|(simp [*];done)|(simp;omega)) ?_));done
  | simp [Own,go_sem,uc41,uc42,uc43,uc44,ne49,ne49',ne49_,ne50,ne50',ne50_,ne51,ne51',ne51_,ne52,ne52',ne52_]
 have hA58:=bel_up hA45 hL10;have hA59:=hL10;have hB60:LB1 w W10:=by rw [hW10];exact bB
 clear hW10 hL10 uc41 uc42 uc43 uc44 c41 c42 c43 c44 hA45;have K62:=Lib.hid (fun W (hP:PoV W (.agg #[(.slice (some ⟨w4.heap.size,0,none⟩) 4 4),(.slice (some ⟨w8.heap.size+1,0,none⟩) 1 1)]) kO [kH])=>check_kn _ W hP);have K63:=Lib.hid (fun W (hP:PoV W (.agg #[(.slice (some ⟨w4.heap.size,0,none⟩) 4 4),(.slice (some ⟨w8.heap.size+1,0,none⟩) 1 1)]) kO [kH])=>area_kn _ W r30 Hr30.out hP);have K64:=Lib.hid (fun W=>of_kn r30 W Hr30.out);have K65:=Lib.hid (fun W (hP:PoV W (.agg #[(.slice (some ⟨w4.heap.size,0,none⟩) 4 4),(.slice (some ⟨w8.heap.size+1,0,none⟩) 1 1)]) kO [kH])=>loc_kn _ W 1 1 q11 0 Hq11.out (by decide) hP);have K66:=Lib.hid (fun W=>at_q 3 3 q33 W (by decide) (by decide) Hq33.out);have K67:=Lib.hid (fun W (hP:PoV W (.agg #[(.slice (some ⟨w4.heap.size,0,none⟩) 4 4),(.slice (some ⟨w8.heap.size+1,0,none⟩) 1 1)]) kO [kH])=>loc_kn _ W 3 3 q33 1 Hq33.out (by decide) hP);have K68:=Lib.hid (fun W=>at_q 2 0 q20 W (by decide) (by decide) Hq20.out);have K69:=Lib.hid (fun W=>at_q 0 2 q02 W (by decide) (by decide) Hq02.out);have K70:=Lib.hid (fun v_ W (hv:PV W v_ kB)=>ring_kn v_ W hv);obtain ⟨g72,o73,ha74,-⟩:=(LX.up HXHC.out kpV hA59) _ _ HX0.out;subst ha74;have ce71:=LX.at_ ((LX.up HXHC.out kpV hA59)) HX0.out;have ce71_:g72<W10.heap.size:=World.block_lt_of_cell? _ _ ce71.1;obtain ⟨g76,o77,ha78,-⟩:=(LX.up HXX.out kpP hA59) _ _ HK1.out;subst ha78;have ce75:=LX.at_ ((LX.up HXX.out kpP hA59)) HK1.out;have ce75_:g76<W10.heap.size:=World.block_lt_of_cell? _ _ ce75.1;refine wp_region_hold 50 51 67 (.int .i64 13) (fun v_ w_=>PV w_ v_ kB) (by kernel_rfl) rfl rfl (by kernel_rfl) (by simp) (by intro e_ h_;cases h_;simp) (fun _ _ _ h_ hb_=>h_.up hb_) ?_;intro V_61 hV_61;have vc53:=c53.up hV_61;have dc53:=fun p:Bel V_61=>vc53.bel p
 have vc54:=c54.up hV_61;have dc54:=fun p:Bel V_61=>vc54.bel p
 have vc55:=c55.up hV_61;have dc55:=fun p:Bel V_61=>vc55.bel p
 have vc56:=c56.up hV_61;have dc56:=fun p:Bel V_61=>vc56.bel p
 have vc57:=c57.up hV_61;have dc57:=fun p:Bel V_61=>vc57.bel p
 simp only [At,Own,Nat.reduceAdd,and_true] at dc53 dc54 dc55 dc56 dc57;have vce71:=ce71.up hV_61;have dce71:=fun b:Bel V_61=>vce71.bel b
 simp only [CVL,vlc,At,Nat.mul_one,Nat.reduceMul,Nat.zero_mul,Nat.add_zero,Nat.add_assoc,Nat.reduceAdd] at dce71;have vce75:=ce75.up hV_61;have dce75:=fun b:Bel V_61=>vce75.bel b
 simp only [CE,Nat.reduceMul,Nat.zero_mul,Nat.add_zero,Nat.add_assoc,Nat.reduceAdd] at dce75;have hBV_61:=bel_up hB60 hV_61;have hA79:=bel_up hA58 hV_61;have hA80:=bel_up hA59 hV_61;simp only [maskL,mask2,Nat.reduceAdd,Nat.reduceEqDiff,reduceCtorEq,reduceIte];repeat (go_big_quiet_step (first|(go_at_call 20;with_reducible exact Calls.bel (K62.out _ ((HPO.out.up hA79).up (Bel.h _))))|(go_at_call 22;with_reducible exact Calls.bel (K63.out _ ((HPO.out.up hA79).up (Bel.h _))))|(go_at_call 42;with_reducible exact Calls.bel (K64.out _))|(go_at_call 51;with_reducible exact Calls.bel (K13.out _))|(go_at_call 29;with_reducible exact Calls.bel (K65.out _ ((HPO.out.up hA79).up (Bel.h _))))|(go_at_call 51;with_reducible exact Calls.bel (K66.out _))|(go_at_call 29;with_reducible exact Calls.bel (K67.out _ ((HPO.out.up hA79).up (Bel.h _))))|(go_at_call 51;with_reducible exact Calls.bel (K28.out _))|(go_at_call 51;with_reducible exact Calls.bel (K1.out _))|(go_at_call 51;with_reducible exact Calls.bel (K23.out _))|(go_at_call 51;with_reducible exact Calls.bel (K68.out _))|(go_at_call 51;with_reducible exact Calls.bel (K69.out _))))
 refine wpQuiet_nil ?_;refine ⟨⟨fun V1_ hV1_ => ?_,fun V1_ v1_ hV1_ hv1_ => ?_⟩,?_⟩
 ·go_wp2_with fail
  all_goals first|exact ⟨_,rfl,rfl,(Below.refl _ _).alloc (Nat.le_refl _) _,pv_new HKB.out⟩|exact ⟨(Below.refl _ _).alloc (Nat.le_refl _) _,pv_new HKB.out⟩|exact pv_new HKB.out
 ·simp only [Act.put,List.setIfInBounds_toArray,List.set_cons_zero,List.set_cons_succ]
  go_wp2_with (go_at_call 17;with_reducible refine (K70.out _ _ hv1_).mono ?_;rintro e w2_ ⟨rfl,hbq_⟩)
  all_goals first|exact ⟨rfl,rfl,hbq_⟩|exact hbq_
 intro vh_61 wn_61 hbn_61 hf_61;clear hf_61 hA80 hA79 hBV_61 dce75 vce75 dce71 vce71 dc57 vc57 dc56 vc56 dc55 vc55 dc54 vc54 dc53 vc53 hV_61 V_61;simp only [Act.put,List.setIfInBounds_toArray,List.set_cons_zero,List.set_cons_succ];have c81:=c53.up hbn_61;have c82:=c54.up hbn_61;have c83:=c55.up hbn_61;have c84:=c56.up hbn_61;have c85:=c57.up hbn_61;have hA86:=bel_up hA58 hbn_61;have hA87:=bel_up hA59 hbn_61;have hB88:LB1 w wn_61:=bel_up hB60 hbn_61;clear c53 c54 c55 c56 c57 hA58 hA59;have uc81:=c81;have uc82:=c82;have uc83:=c83;have uc84:=c84;have uc85:=c85;simp only [At,Own,Nat.reduceAdd,and_true] at uc81 uc82 uc83 uc84 uc85;go_wp2;go_ret;refine ⟨rfl,?_⟩;exact bB
end Go.Proofs.YtiochgoocbkckaaGreatDoor
