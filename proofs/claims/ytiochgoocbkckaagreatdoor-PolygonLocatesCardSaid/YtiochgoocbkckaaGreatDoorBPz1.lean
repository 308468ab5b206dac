/-
 The reference for polygons: turns, order, points on segments.
 The reference for polygons: the next vertex, segments that meet.
 The reference for polygons: places in rings and in polygons.
-/
import Derived.Test.YtiochgoocbkckaaGreatDoorAgao
import Derived.Test.YtiochgoocbkckaaGreatDoorAgax
import Derived.Test.YtiochgoocbkckaaGreatDoorAgav
import Derived.Test.YtiochgoocbkckaaGreatDoorAgbj
import Derived.Test.YtiochgoocbkckaaGreatDoorAReg3
set_option maxRecDepth 100000
set_option linter.unusedSimpArgs false
set_option linter.unusedVariables false
namespace Go.Proofs.YtiochgoocbkckaaGreatDoor
open Go Go.RowKit
abbrev LB8 (a b:World):Prop:=Below a.heap.size a b
theorem rIB8 {p:Prop} (h:p:=by first|rfl|exact congrArg (Value.int .i64) (by omega)|simp [*]):p:=h
theorem oFB8 {p:Prop} (h:p:=by repeat (first|with_reducible assumption|refine Own.far _ _ (by simp<;>omega) ?_|with_reducible refine Own.alloc ?_ _)):p:=h

theorem turn_cmp (a b c:Rat×Rat):Pl.cmpQ ((b.1-a.1)*(c.2-a.2)) ((b.2-a.2)*(c.1-a.1))=Pl.turn a b c:=rfl
theorem onR_t {p a b:Rat×Rat} (h:Pl.turn a b p=0∧((Pl.cmpP a p≤0∧Pl.cmpP p b≤0)∨(Pl.cmpP b p≤0∧Pl.cmpP p a≤0))):Pg.onR p a b=true:=by
 unfold Pg.onR;simp only [Bool.and_eq_true,Bool.or_eq_true,decide_eq_true_eq];exact h
theorem onR_f {p a b:Rat×Rat} (h:¬ (Pl.turn a b p=0∧((Pl.cmpP a p≤0∧Pl.cmpP p b≤0)∨(Pl.cmpP b p≤0∧Pl.cmpP p a≤0)))):Pg.onR p a b=false:=by
 rw [← Bool.not_eq_true];unfold Pg.onR;simp only [Bool.and_eq_true,Bool.or_eq_true,decide_eq_true_eq];exact h
theorem cmpP_one {a b:Rat×Rat} {x:Int} (h:Pl.cmpQ a.1 b.1=x) (hx:¬ x=0):Pl.cmpP a b=x:=by unfold Pl.cmpP;rw [h,if_neg (by first|exact hx|(simpa using hx))]
theorem cmpP_two {a b:Rat×Rat} {x:Int} (h:Pl.cmpQ a.1 b.1=x) (hx:x=0):Pl.cmpP a b=Pl.cmpQ a.2 b.2:=by unfold Pl.cmpP;rw [h,if_pos (by first|exact hx|(simpa using hx))]

theorem rturn_any {S:Nat} (a b c:Rat×Rat) (w:World) (ha:Pl.SzP S a) (hb:Pl.SzP S b) (hc:Pl.SzP S c) (hS:S≤2000) :
 Calls Tryz.prog 79 #[pv a,pv b,pv c] w fun e w'=>e=.returned (.int .i64 (Pl.turn a b c))∧Below w.heap.size w w':=by
 go_enter Tryz.func79,Tryz.ntmps79;have K1:=Lib.hid (fun W=>rsub_any b.1 a.1 W (hb.1.mono (by omega)) (ha.1.mono (by omega)));have K2:=Lib.hid (fun W=>rsub_any c.2 a.2 W (hc.2.mono (by omega)) (ha.2.mono (by omega)));have K3:=Lib.hid (fun W=>rmul_any (b.1-a.1) (c.2-a.2) W ((hb.1.sub ha.1).mono (by omega)) ((hc.2.sub ha.2).mono (by omega)));have K4:=Lib.hid (fun W=>rsub_any b.2 a.2 W (hb.2.mono (by omega)) (ha.2.mono (by omega)));have K5:=Lib.hid (fun W=>rsub_any c.1 a.1 W (hc.1.mono (by omega)) (ha.1.mono (by omega)));have K6:=Lib.hid (fun W=>rmul_any (b.2-a.2) (c.1-a.1) W ((hb.2.sub ha.2).mono (by omega)) ((hc.1.sub ha.1).mono (by omega)));have kK7:=fun W=>rcompare_any ((b.1-a.1)*(c.2-a.2)) ((b.2-a.2)*(c.1-a.1)) W (((hb.1.sub ha.1).mul (hc.2.sub ha.2)).mono (by omega)) (((hb.2.sub ha.2).mul (hc.1.sub ha.1)).mono (by omega))
 generalize hT9:Pl.cmpQ ((b.1-a.1)*(c.2-a.2)) ((b.2-a.2)*(c.1-a.1))=t8 at kK7;have K7:=Lib.hid kK7;clear kK7;have T10:=Lib.hid (sgnQ hT9);have HhT9:=Lib.hid hT9;clear hT9;go_wp2_with fail;refine wp_named ?_;intro W1 hW1;have hL1:LB8 w W1:=by rw [hW1];exact bB
 have c11:Own W1 w.heap.size 0 [.bool (ng a.1.num),.string (mg a.1.num.natAbs),.bool false,.string (mg (dn a.1)),.bool (ng a.2.num),.string (mg a.2.num.natAbs),.bool false,.string (mg (dn a.2))]:=by
  rw [hW1]
  first
  | (repeat (first|(with_reducible refine own_new ?_;(simp;done))|with_reducible refine Own.alloc ?_ _|refine Own.far _ _ (by first|(simp;done)|(simp [*];done)|(simp;omega)) ?_));done
  | simp [Own,go_sem]
 have c12:Own W1 (w.heap.size+1) 0 [.bool (ng b.1.num),.string (mg b.1.num.natAbs),.bool false,.string (mg (dn b.1)),.bool (ng b.2.num),.string (mg b.2.num.natAbs),.bool false,.string (mg (dn b.2))]:=by
  rw [hW1]
  first
  | (repeat (first|(with_reducible refine own_new ?_;(simp;done))|with_reducible refine Own.alloc ?_ _|refine Own.far _ _ (by first|(simp;done)|(simp [*];done)|(simp;omega)) ?_));done
  | simp [Own,go_sem]
 have c13:Own W1 (w.heap.size+2) 0 [.bool (ng c.1.num),.string (mg c.1.num.natAbs),.bool false,.string (mg (dn c.1)),.bool (ng c.2.num),.string (mg c.2.num.natAbs),.bool false,.string (mg (dn c.2))]:=by
  rw [hW1]
  first
  | (repeat (first|(with_reducible refine own_new ?_;(simp;done))|with_reducible refine Own.alloc ?_ _|refine Own.far _ _ (by first|(simp;done)|(simp [*];done)|(simp;omega)) ?_));done
  | simp [Own,go_sem]
 have hB14:LB8 w W1:=by rw [hW1];exact bB
 clear hW1 hL1;have dc11:=fun p:Bel W1=>c11.bel p;have dc12:=fun p:Bel W1=>c12.bel p;have dc13:=fun p:Bel W1=>c13.bel p
 simp only [At,Own,Nat.reduceAdd,and_true] at dc11 dc12 dc13;refine wp_region_tail 23 (by kernel_rfl) (by kernel_rfl) ?_;simp only [List.take_succ_cons,List.take_zero,List.drop_succ_cons,List.drop_zero];repeat (go_big_quiet_step (first|(go_at_call 66;with_reducible exact Calls.bel (K1.out _))|(go_at_call 66;with_reducible exact Calls.bel (K2.out _))|(go_at_call 41;with_reducible exact Calls.bel (K3.out _))|(go_at_call 66;with_reducible exact Calls.bel (K4.out _))|(go_at_call 66;with_reducible exact Calls.bel (K5.out _))|(go_at_call 41;with_reducible exact Calls.bel (K6.out _))|(go_at_call 46;with_reducible exact Calls.bel (K7.out _))))
 refine wpQuiet_nil ?_;intro w1 hb1;have c15:=c11.up hb1;have c16:=c12.up hb1;have c17:=c13.up hb1;have hB18:LB8 w w1:=bel_up hB14 hb1;clear dc11 dc12 dc13 c11 c12 c13;have uc15:=c15;have uc16:=c16;have uc17:=c17;simp only [At,Own,Nat.reduceAdd,and_true] at uc15 uc16 uc17;go_wp2;go_ret;refine ⟨(by rw [← turn_cmp,HhT9.out]<;>rfl),?_⟩;exact bB

theorem rorder_any {S:Nat} (a b:Rat×Rat) (w:World) (ha:Pl.SzP S a) (hb:Pl.SzP S b) (hS:S≤100000) :
 Calls Tryz.prog 91 #[pv a,pv b] w fun e w'=>e=.returned (.int .i64 (Pl.cmpP a b))∧Below w.heap.size w w':=by
 go_enter Tryz.func91,Tryz.ntmps91;have kK1:=fun W=>rcompare_any a.1 b.1 W (ha.1.mono (by omega)) (hb.1.mono (by omega))
 generalize hT3:Pl.cmpQ a.1 b.1=o2 at kK1;have K1:=Lib.hid kK1;clear kK1;have HhT3:=Lib.hid hT3;clear hT3;go_wp2_with (fail)
 refine calls_named ?_;intro W1 hW1;have hL1:LB8 w W1:=by rw [hW1];exact bB
 have c4:Own W1 w.heap.size 0 [.bool (ng a.1.num),.string (mg a.1.num.natAbs),.bool false,.string (mg (dn a.1)),.bool (ng a.2.num),.string (mg a.2.num.natAbs),.bool false,.string (mg (dn a.2))]:=by
  rw [hW1]
  first
  | (repeat (first|(with_reducible refine own_new ?_;(simp;done))|with_reducible refine Own.alloc ?_ _|refine Own.far _ _ (by first|(simp;done)|(simp [*];done)|(simp;omega)) ?_));done
  | simp [Own,go_sem]
 have c5:Own W1 (w.heap.size+1) 0 [.bool (ng b.1.num),.string (mg b.1.num.natAbs),.bool false,.string (mg (dn b.1)),.bool (ng b.2.num),.string (mg b.2.num.natAbs),.bool false,.string (mg (dn b.2))]:=by
  rw [hW1]
  first
  | (repeat (first|(with_reducible refine own_new ?_;(simp;done))|with_reducible refine Own.alloc ?_ _|refine Own.far _ _ (by first|(simp;done)|(simp [*];done)|(simp;omega)) ?_));done
  | simp [Own,go_sem]
 have hB6:LB8 w W1:=by rw [hW1];exact bB
 clear hW1 hL1;with_reducible refine (K1.out _).mono ?_
 rintro e w1 ⟨rfl,hb1⟩;have c7:=c4.up hb1;have c8:=c5.up hb1;have hB9:LB8 w w1:=bel_up hB6 hb1;clear c4 c5
 by_cases hc10:(o2:Int)=0
 ·skip
  have hc10_:(((o2:Int))==0)=true:=by simpa using hc10
  have Hhc10:=Lib.hid hc10;clear hc10;have uc7:=c7;have uc8:=c8;simp only [At,Own,Nat.reduceAdd,and_true] at uc7 uc8;have kK11:=fun W=>rcompare_any a.2 b.2 W (ha.2.mono (by omega)) (hb.2.mono (by omega))
  generalize hT13:Pl.cmpQ a.2 b.2=o12 at kK11;have K11:=Lib.hid kK11;clear kK11;have HhT13:=Lib.hid hT13;clear hT13;go_wp2_with (fail)
  refine calls_named ?_;intro W2 hW2;have hL2:LB8 w1 W2:=by rw [hW2];exact bB
  have c14:=c7.up hL2;have c15:=c8.up hL2;have hB16:LB8 w W2:=by rw [hW2];exact bB
  clear hW2 hL2 uc7 uc8 c7 c8;with_reducible refine (K11.out _).mono ?_
  rintro e w2 ⟨rfl,hb2⟩;have c17:=c14.up hb2;have c18:=c15.up hb2;have hB19:LB8 w w2:=bel_up hB16 hb2;clear c14 c15;have uc17:=c17;have uc18:=c18;simp only [At,Own,Nat.reduceAdd,and_true] at uc17 uc18;go_wp2;go_ret;refine ⟨(by rw [cmpP_two HhT3.out Hhc10.out,HhT13.out]<;>rfl),?_⟩;exact bB
 ·skip
  have hc10_:(((o2:Int))==0)=false:=by simpa using hc10
  have uc7:=c7;have uc8:=c8;simp only [At,Own,Nat.reduceAdd,and_true] at uc7 uc8;go_wp2;go_ret;refine ⟨(by rw [cmpP_one HhT3.out hc10]<;>rfl),?_⟩;exact bB

set_option maxHeartbeats 2000000 in
theorem ron_any {S:Nat} (p a b:Rat×Rat) (w:World) (hp:Pl.SzP S p) (ha:Pl.SzP S a) (hb:Pl.SzP S b) (hS:S≤2000) :
 Calls Tryz.prog 78 #[pv p,pv a,pv b] w fun e w'=>e=.returned (.bool (Pg.onR p a b))∧Below w.heap.size w w':=by
 go_enter Tryz.func78,Tryz.ntmps78;have kK1:=fun W=>rturn_any a b p W ha hb hp hS
 generalize hT3:Pl.turn a b p=t2 at kK1;have K1:=Lib.hid kK1;clear kK1;have HhT3:=Lib.hid hT3;clear hT3;have kK4:=fun W=>rorder_any a p W ha hp (by omega)
 generalize hT6:Pl.cmpP a p=o5 at kK4;have K4:=Lib.hid kK4;clear kK4;have HhT6:=Lib.hid hT6;clear hT6;have kK7:=fun W=>rorder_any p b W hp hb (by omega)
 generalize hT9:Pl.cmpP p b=o8 at kK7;have K7:=Lib.hid kK7;clear kK7;have HhT9:=Lib.hid hT9;clear hT9;have kK10:=fun W=>rorder_any b p W hb hp (by omega)
 generalize hT12:Pl.cmpP b p=o11 at kK10;have K10:=Lib.hid kK10;clear kK10;have HhT12:=Lib.hid hT12;clear hT12;have kK13:=fun W=>rorder_any p a W hp ha (by omega)
 generalize hT15:Pl.cmpP p a=o14 at kK13;have K13:=Lib.hid kK13;clear kK13;have HhT15:=Lib.hid hT15;clear hT15
 by_cases hc24:(t2:Int)=0
 ·skip
  have hc24_:(((t2:Int))==0)=true:=by simpa using hc24
  have Hhc24:=Lib.hid hc24;clear hc24
  by_cases hc41:(0:Int)<o5
  ·skip
   have hc41_d:decide ((0:Int)<o5)=true:=decide_eq_true hc41;have hc41_:¬ ((o5:Int)≤0):=by omega
   have hc41_e:decide ((o5:Int)≤0)=false:=decide_eq_false hc41_
   by_cases hc66:(0:Int)<o11
   ·skip
    have hc66_d:decide ((0:Int)<o11)=true:=decide_eq_true hc66;have hc66_:¬ ((o11:Int)≤0):=by omega
    have hc66_e:decide ((o11:Int)≤0)=false:=decide_eq_false hc66_;go_wp2_with (fail)
    refine calls_named ?_;intro W7 hW7;have hL7:LB8 w W7:=by rw [hW7];exact bB
    have c67:Own W7 w.heap.size 0 [.bool (ng p.1.num),.string (mg p.1.num.natAbs),.bool false,.string (mg (dn p.1)),.bool (ng p.2.num),.string (mg p.2.num.natAbs),.bool false,.string (mg (dn p.2))]:=by
     rw [hW7]
     first
     | (repeat (first|(with_reducible refine own_new ?_;(simp;done))|with_reducible refine Own.alloc ?_ _|refine Own.far _ _ (by first|(simp;done)|(simp [*];done)|(simp;omega)) ?_));done
     | simp [Own,go_sem]
    have c68:Own W7 (w.heap.size+1) 0 [.bool (ng a.1.num),.string (mg a.1.num.natAbs),.bool false,.string (mg (dn a.1)),.bool (ng a.2.num),.string (mg a.2.num.natAbs),.bool false,.string (mg (dn a.2))]:=by
     rw [hW7]
     first
     | (repeat (first|(with_reducible refine own_new ?_;(simp;done))|with_reducible refine Own.alloc ?_ _|refine Own.far _ _ (by first|(simp;done)|(simp [*];done)|(simp;omega)) ?_));done
     | simp [Own,go_sem]
    have c69:Own W7 (w.heap.size+2) 0 [.bool (ng b.1.num),.string (mg b.1.num.natAbs),.bool false,.string (mg (dn b.1)),.bool (ng b.2.num),.string (mg b.2.num.natAbs),.bool false,.string (mg (dn b.2))]:=by
     rw [hW7]
     first
     | (repeat (first|(with_reducible refine own_new ?_;(simp;done))|with_reducible refine Own.alloc ?_ _|refine Own.far _ _ (by first|(simp;done)|(simp [*];done)|(simp;omega)) ?_));done
     | simp [Own,go_sem]
    have hB70:LB8 w W7:=by rw [hW7];exact bB
    clear hW7 hL7;with_reducible refine (K1.out _).mono ?_
    rintro e w7 ⟨rfl,hb7⟩;have c71:=c67.up hb7;have c72:=c68.up hb7;have c73:=c69.up hb7;have hB74:LB8 w w7:=bel_up hB70 hb7;clear c67 c68 c69;have uc71:=c71;have uc72:=c72;have uc73:=c73;simp only [At,Own,Nat.reduceAdd,and_true] at uc71 uc72 uc73;go_wp2_with (fail)
    refine calls_named ?_;intro W8 hW8;have hL8:LB8 w7 W8:=by rw [hW8];exact bB
    have c75:=c71.up hL8;have c76:=c72.up hL8;have c77:=c73.up hL8;have hB78:LB8 w W8:=by rw [hW8];exact bB
    clear hW8 hL8 uc71 uc72 uc73 c71 c72 c73;with_reducible refine (K4.out _).mono ?_
    rintro e w8 ⟨rfl,hb8⟩;have c79:=c75.up hb8;have c80:=c76.up hb8;have c81:=c77.up hb8;have hB82:LB8 w w8:=bel_up hB78 hb8;clear c75 c76 c77;have uc79:=c79;have uc80:=c80;have uc81:=c81;simp only [At,Own,Nat.reduceAdd,and_true] at uc79 uc80 uc81;go_wp2_with (fail)
    refine calls_named ?_;intro W9 hW9;have hL9:LB8 w8 W9:=by rw [hW9];exact bB
    have c83:=c79.up hL9;have c84:=c80.up hL9;have c85:=c81.up hL9;have hB86:LB8 w W9:=by rw [hW9];exact bB
    clear hW9 hL9 uc79 uc80 uc81 c79 c80 c81;with_reducible refine (K10.out _).mono ?_
    rintro e w9 ⟨rfl,hb9⟩;have c87:=c83.up hb9;have c88:=c84.up hb9;have c89:=c85.up hb9;have hB90:LB8 w w9:=bel_up hB86 hb9;clear c83 c84 c85;have uc87:=c87;have uc88:=c88;have uc89:=c89;simp only [At,Own,Nat.reduceAdd,and_true] at uc87 uc88 uc89;go_wp2;go_ret;refine ⟨(by rw [onR_f (by have q0:=Hhc24.out;have q1:=hc41;have q2:=hc66;have q3:=HhT3.out;have q4:=HhT6.out;have q5:=HhT9.out;have q6:=HhT12.out;have q7:=HhT15.out;omega)]<;>rfl),?_⟩;exact bB
   ·skip
    have hc66_d:decide ((0:Int)<o11)=false:=decide_eq_false hc66;have hc66_:((o11:Int)≤0):=by omega
    have hc66_e:decide ((o11:Int)≤0)=true:=decide_eq_true hc66_
    by_cases hc123:(0:Int)<o14
    ·skip
     have hc123_d:decide ((0:Int)<o14)=true:=decide_eq_true hc123;have hc123_:¬ ((o14:Int)≤0):=by omega
     have hc123_e:decide ((o14:Int)≤0)=false:=decide_eq_false hc123_;go_wp2_with (fail)
     refine calls_named ?_;intro W14 hW14;have hL14:LB8 w W14:=by rw [hW14];exact bB
     have c124:Own W14 w.heap.size 0 [.bool (ng p.1.num),.string (mg p.1.num.natAbs),.bool false,.string (mg (dn p.1)),.bool (ng p.2.num),.string (mg p.2.num.natAbs),.bool false,.string (mg (dn p.2))]:=by
      rw [hW14]
      first
      | (repeat (first|(with_reducible refine own_new ?_;(simp;done))|with_reducible refine Own.alloc ?_ _|refine Own.far _ _ (by first|(simp;done)|(simp [*];done)|(simp;omega)) ?_));done
      | simp [Own,go_sem]
     have c125:Own W14 (w.heap.size+1) 0 [.bool (ng a.1.num),.string (mg a.1.num.natAbs),.bool false,.string (mg (dn a.1)),.bool (ng a.2.num),.string (mg a.2.num.natAbs),.bool false,.string (mg (dn a.2))]:=by
      rw [hW14]
      first
      | (repeat (first|(with_reducible refine own_new ?_;(simp;done))|with_reducible refine Own.alloc ?_ _|refine Own.far _ _ (by first|(simp;done)|(simp [*];done)|(simp;omega)) ?_));done
      | simp [Own,go_sem]
     have c126:Own W14 (w.heap.size+2) 0 [.bool (ng b.1.num),.string (mg b.1.num.natAbs),.bool false,.string (mg (dn b.1)),.bool (ng b.2.num),.string (mg b.2.num.natAbs),.bool false,.string (mg (dn b.2))]:=by
      rw [hW14]
      first
      | (repeat (first|(with_reducible refine own_new ?_;(simp;done))|with_reducible refine Own.alloc ?_ _|refine Own.far _ _ (by first|(simp;done)|(simp [*];done)|(simp;omega)) ?_));done
      | simp [Own,go_sem]
     have hB127:LB8 w W14:=by rw [hW14];exact bB
     clear hW14 hL14;with_reducible refine (K1.out _).mono ?_
     rintro e w14 ⟨rfl,hb14⟩;have c128:=c124.up hb14;have c129:=c125.up hb14;have c130:=c126.up hb14;have hB131:LB8 w w14:=bel_up hB127 hb14;clear c124 c125 c126;have uc128:=c128;have uc129:=c129;have uc130:=c130;simp only [At,Own,Nat.reduceAdd,and_true] at uc128 uc129 uc130;go_wp2_with (fail)
     refine calls_named ?_;intro W15 hW15;have hL15:LB8 w14 W15:=by rw [hW15];exact bB
     have c132:=c128.up hL15;have c133:=c129.up hL15;have c134:=c130.up hL15;have hB135:LB8 w W15:=by rw [hW15];exact bB
     clear hW15 hL15 uc128 uc129 uc130 c128 c129 c130;with_reducible refine (K4.out _).mono ?_
     rintro e w15 ⟨rfl,hb15⟩;have c136:=c132.up hb15;have c137:=c133.up hb15;have c138:=c134.up hb15;have hB139:LB8 w w15:=bel_up hB135 hb15;clear c132 c133 c134;have uc136:=c136;have uc137:=c137;have uc138:=c138;simp only [At,Own,Nat.reduceAdd,and_true] at uc136 uc137 uc138;go_wp2_with (fail)
     refine calls_named ?_;intro W16 hW16;have hL16:LB8 w15 W16:=by rw [hW16];exact bB
     have c140:=c136.up hL16;have c141:=c137.up hL16;have c142:=c138.up hL16;have hB143:LB8 w W16:=by rw [hW16];exact bB
     clear hW16 hL16 uc136 uc137 uc138 c136 c137 c138;with_reducible refine (K10.out _).mono ?_
     rintro e w16 ⟨rfl,hb16⟩;have c144:=c140.up hb16;have c145:=c141.up hb16;have c146:=c142.up hb16;have hB147:LB8 w w16:=bel_up hB143 hb16;clear c140 c141 c142;have uc144:=c144;have uc145:=c145;have uc146:=c146;simp only [At,Own,Nat.reduceAdd,and_true] at uc144 uc145 uc146;go_wp2_with (fail)
     refine calls_named ?_;intro W17 hW17;have hL17:LB8 w16 W17:=by rw [hW17];exact bB
     have c148:=c144.up hL17;have c149:=c145.up hL17;have c150:=c146.up hL17;have hB151:LB8 w W17:=by rw [hW17];exact bB
     clear hW17 hL17 uc144 uc145 uc146 c144 c145 c146;with_reducible refine (K13.out _).mono ?_
     rintro e w17 ⟨rfl,hb17⟩;have c152:=c148.up hb17;have c153:=c149.up hb17;have c154:=c150.up hb17;have hB155:LB8 w w17:=bel_up hB151 hb17;clear c148 c149 c150;have uc152:=c152;have uc153:=c153;have uc154:=c154;simp only [At,Own,Nat.reduceAdd,and_true] at uc152 uc153 uc154;go_wp2;go_ret;refine ⟨(by rw [onR_f (by have q0:=Hhc24.out;have q1:=hc41;have q2:=hc66;have q3:=hc123;have q4:=HhT3.out;have q5:=HhT6.out;have q6:=HhT9.out;have q7:=HhT12.out;have q8:=HhT15.out;omega)]<;>rfl),?_⟩;exact bB
    ·skip
     have hc123_d:decide ((0:Int)<o14)=false:=decide_eq_false hc123;have hc123_:((o14:Int)≤0):=by omega
     have hc123_e:decide ((o14:Int)≤0)=true:=decide_eq_true hc123_;go_wp2_with (fail)
     refine calls_named ?_;intro W18 hW18;have hL18:LB8 w W18:=by rw [hW18];exact bB
     have c156:Own W18 w.heap.size 0 [.bool (ng p.1.num),.string (mg p.1.num.natAbs),.bool false,.string (mg (dn p.1)),.bool (ng p.2.num),.string (mg p.2.num.natAbs),.bool false,.string (mg (dn p.2))]:=by
      rw [hW18]
      first
      | (repeat (first|(with_reducible refine own_new ?_;(simp;done))|with_reducible refine Own.alloc ?_ _|refine Own.far _ _ (by first|(simp;done)|(simp [*];done)|(simp;omega)) ?_));done
      | simp [Own,go_sem]
     have c157:Own W18 (w.heap.size+1) 0 [.bool (ng a.1.num),.string (mg a.1.num.natAbs),.bool false,.string (mg (dn a.1)),.bool (ng a.2.num),.string (mg a.2.num.natAbs),.bool false,.string (mg (dn a.2))]:=by
      rw [hW18]
      first
      | (repeat (first|(with_reducible refine own_new ?_;(simp;done))|with_reducible refine Own.alloc ?_ _|refine Own.far _ _ (by first|(simp;done)|(simp [*];done)|(simp;omega)) ?_));done
      | simp [Own,go_sem]
     have c158:Own W18 (w.heap.size+2) 0 [.bool (ng b.1.num),.string (mg b.1.num.natAbs),.bool false,.string (mg (dn b.1)),.bool (ng b.2.num),.string (mg b.2.num.natAbs),.bool false,.string (mg (dn b.2))]:=by
      rw [hW18]
      first
      | (repeat (first|(with_reducible refine own_new ?_;(simp;done))|with_reducible refine Own.alloc ?_ _|refine Own.far _ _ (by first|(simp;done)|(simp [*];done)|(simp;omega)) ?_));done
      | simp [Own,go_sem]
     have hB159:LB8 w W18:=by rw [hW18];exact bB
     clear hW18 hL18;with_reducible refine (K1.out _).mono ?_
     rintro e w18 ⟨rfl,hb18⟩;have c160:=c156.up hb18;have c161:=c157.up hb18;have c162:=c158.up hb18;have hB163:LB8 w w18:=bel_up hB159 hb18;clear c156 c157 c158;have uc160:=c160;have uc161:=c161;have uc162:=c162;simp only [At,Own,Nat.reduceAdd,and_true] at uc160 uc161 uc162;go_wp2_with (fail)
     refine calls_named ?_;intro W19 hW19;have hL19:LB8 w18 W19:=by rw [hW19];exact bB
     have c164:=c160.up hL19;have c165:=c161.up hL19;have c166:=c162.up hL19;have hB167:LB8 w W19:=by rw [hW19];exact bB
     clear hW19 hL19 uc160 uc161 uc162 c160 c161 c162;with_reducible refine (K4.out _).mono ?_
     rintro e w19 ⟨rfl,hb19⟩;have c168:=c164.up hb19;have c169:=c165.up hb19;have c170:=c166.up hb19;have hB171:LB8 w w19:=bel_up hB167 hb19;clear c164 c165 c166;have uc168:=c168;have uc169:=c169;have uc170:=c170;simp only [At,Own,Nat.reduceAdd,and_true] at uc168 uc169 uc170;go_wp2_with (fail)
     refine calls_named ?_;intro W20 hW20;have hL20:LB8 w19 W20:=by rw [hW20];exact bB
     have c172:=c168.up hL20;have c173:=c169.up hL20;have c174:=c170.up hL20;have hB175:LB8 w W20:=by rw [hW20];exact bB
     clear hW20 hL20 uc168 uc169 uc170 c168 c169 c170;with_reducible refine (K10.out _).mono ?_
     rintro e w20 ⟨rfl,hb20⟩;have c176:=c172.up hb20;have c177:=c173.up hb20;have c178:=c174.up hb20;have hB179:LB8 w w20:=bel_up hB175 hb20;clear c172 c173 c174;have uc176:=c176;have uc177:=c177;have uc178:=c178;simp only [At,Own,Nat.reduceAdd,and_true] at uc176 uc177 uc178;go_wp2_with (fail)
     refine calls_named ?_;intro W21 hW21;have hL21:LB8 w20 W21:=by rw [hW21];exact bB
     have c180:=c176.up hL21;have c181:=c177.up hL21;have c182:=c178.up hL21;have hB183:LB8 w W21:=by rw [hW21];exact bB
     clear hW21 hL21 uc176 uc177 uc178 c176 c177 c178;with_reducible refine (K13.out _).mono ?_
     rintro e w21 ⟨rfl,hb21⟩;have c184:=c180.up hb21;have c185:=c181.up hb21;have c186:=c182.up hb21;have hB187:LB8 w w21:=bel_up hB183 hb21;clear c180 c181 c182;have uc184:=c184;have uc185:=c185;have uc186:=c186;simp only [At,Own,Nat.reduceAdd,and_true] at uc184 uc185 uc186;go_wp2;go_ret;refine ⟨(by rw [onR_t (by have q0:=Hhc24.out;have q1:=hc41;have q2:=hc66;have q3:=hc123;have q4:=HhT3.out;have q5:=HhT6.out;have q6:=HhT9.out;have q7:=HhT12.out;have q8:=HhT15.out;omega)]<;>rfl),?_⟩;exact bB
  ·skip
   have hc41_d:decide ((0:Int)<o5)=false:=decide_eq_false hc41;have hc41_:((o5:Int)≤0):=by omega
   have hc41_e:decide ((o5:Int)≤0)=true:=decide_eq_true hc41_
   by_cases hc212:(0:Int)<o8
   ·skip
    have hc212_d:decide ((0:Int)<o8)=true:=decide_eq_true hc212;have hc212_:¬ ((o8:Int)≤0):=by omega
    have hc212_e:decide ((o8:Int)≤0)=false:=decide_eq_false hc212_
    by_cases hc245:(0:Int)<o11
    ·skip
     have hc245_d:decide ((0:Int)<o11)=true:=decide_eq_true hc245;have hc245_:¬ ((o11:Int)≤0):=by omega
     have hc245_e:decide ((o11:Int)≤0)=false:=decide_eq_false hc245_;go_wp2_with (fail)
     refine calls_named ?_;intro W29 hW29;have hL29:LB8 w W29:=by rw [hW29];exact bB
     have c246:Own W29 w.heap.size 0 [.bool (ng p.1.num),.string (mg p.1.num.natAbs),.bool false,.string (mg (dn p.1)),.bool (ng p.2.num),.string (mg p.2.num.natAbs),.bool false,.string (mg (dn p.2))]:=by
      rw [hW29]
      first
      | (repeat (first|(with_reducible refine own_new ?_;(simp;done))|with_reducible refine Own.alloc ?_ _|refine Own.far _ _ (by first|(simp;done)|(simp [*];done)|(simp;omega)) ?_));done
      | simp [Own,go_sem]
     have c247:Own W29 (w.heap.size+1) 0 [.bool (ng a.1.num),.string (mg a.1.num.natAbs),.bool false,.string (mg (dn a.1)),.bool (ng a.2.num),.string (mg a.2.num.natAbs),.bool false,.string (mg (dn a.2))]:=by
      rw [hW29]
      first
      | (repeat (first|(with_reducible refine own_new ?_;(simp;done))|with_reducible refine Own.alloc ?_ _|refine Own.far _ _ (by first|(simp;done)|(simp [*];done)|(simp;omega)) ?_));done
      | simp [Own,go_sem]
     have c248:Own W29 (w.heap.size+2) 0 [.bool (ng b.1.num),.string (mg b.1.num.natAbs),.bool false,.string (mg (dn b.1)),.bool (ng b.2.num),.string (mg b.2.num.natAbs),.bool false,.string (mg (dn b.2))]:=by
      rw [hW29]
      first
      | (repeat (first|(with_reducible refine own_new ?_;(simp;done))|with_reducible refine Own.alloc ?_ _|refine Own.far _ _ (by first|(simp;done)|(simp [*];done)|(simp;omega)) ?_));done
      | simp [Own,go_sem]
     have hB249:LB8 w W29:=by rw [hW29];exact bB
     clear hW29 hL29;with_reducible refine (K1.out _).mono ?_
     rintro e w29 ⟨rfl,hb29⟩;have c250:=c246.up hb29;have c251:=c247.up hb29;have c252:=c248.up hb29;have hB253:LB8 w w29:=bel_up hB249 hb29;clear c246 c247 c248;have uc250:=c250;have uc251:=c251;have uc252:=c252;simp only [At,Own,Nat.reduceAdd,and_true] at uc250 uc251 uc252;go_wp2_with (fail)
     refine calls_named ?_;intro W30 hW30;have hL30:LB8 w29 W30:=by rw [hW30];exact bB
     have c254:=c250.up hL30;have c255:=c251.up hL30;have c256:=c252.up hL30;have hB257:LB8 w W30:=by rw [hW30];exact bB
     clear hW30 hL30 uc250 uc251 uc252 c250 c251 c252;with_reducible refine (K4.out _).mono ?_
     rintro e w30 ⟨rfl,hb30⟩;have c258:=c254.up hb30;have c259:=c255.up hb30;have c260:=c256.up hb30;have hB261:LB8 w w30:=bel_up hB257 hb30;clear c254 c255 c256;have uc258:=c258;have uc259:=c259;have uc260:=c260;simp only [At,Own,Nat.reduceAdd,and_true] at uc258 uc259 uc260;go_wp2_with (fail)
     refine calls_named ?_;intro W31 hW31;have hL31:LB8 w30 W31:=by rw [hW31];exact bB
     have c262:=c258.up hL31;have c263:=c259.up hL31;have c264:=c260.up hL31;have hB265:LB8 w W31:=by rw [hW31];exact bB
     clear hW31 hL31 uc258 uc259 uc260 c258 c259 c260;with_reducible refine (K7.out _).mono ?_
     rintro e w31 ⟨rfl,hb31⟩;have c266:=c262.up hb31;have c267:=c263.up hb31;have c268:=c264.up hb31;have hB269:LB8 w w31:=bel_up hB265 hb31;clear c262 c263 c264;have uc266:=c266;have uc267:=c267;have uc268:=c268;simp only [At,Own,Nat.reduceAdd,and_true] at uc266 uc267 uc268;go_wp2_with (fail)
     refine calls_named ?_;intro W32 hW32;have hL32:LB8 w31 W32:=by rw [hW32];exact bB
     have c270:=c266.up hL32;have c271:=c267.up hL32;have c272:=c268.up hL32;have hB273:LB8 w W32:=by rw [hW32];exact bB
     clear hW32 hL32 uc266 uc267 uc268 c266 c267 c268;with_reducible refine (K10.out _).mono ?_
     rintro e w32 ⟨rfl,hb32⟩;have c274:=c270.up hb32;have c275:=c271.up hb32;have c276:=c272.up hb32;have hB277:LB8 w w32:=bel_up hB273 hb32;clear c270 c271 c272;have uc274:=c274;have uc275:=c275;have uc276:=c276;simp only [At,Own,Nat.reduceAdd,and_true] at uc274 uc275 uc276;go_wp2;go_ret;refine ⟨(by rw [onR_f (by have q0:=Hhc24.out;have q1:=hc41;have q2:=hc212;have q3:=hc245;have q4:=HhT3.out;have q5:=HhT6.out;have q6:=HhT9.out;have q7:=HhT12.out;have q8:=HhT15.out;omega)]<;>rfl),?_⟩;exact bB
    ·skip
     have hc245_d:decide ((0:Int)<o11)=false:=decide_eq_false hc245;have hc245_:((o11:Int)≤0):=by omega
     have hc245_e:decide ((o11:Int)≤0)=true:=decide_eq_true hc245_
     by_cases hc318:(0:Int)<o14
     ·skip
      have hc318_d:decide ((0:Int)<o14)=true:=decide_eq_true hc318;have hc318_:¬ ((o14:Int)≤0):=by omega
      have hc318_e:decide ((o14:Int)≤0)=false:=decide_eq_false hc318_;go_wp2_with (fail)
      refine calls_named ?_;intro W38 hW38;have hL38:LB8 w W38:=by rw [hW38];exact bB
      have c319:Own W38 w.heap.size 0 [.bool (ng p.1.num),.string (mg p.1.num.natAbs),.bool false,.string (mg (dn p.1)),.bool (ng p.2.num),.string (mg p.2.num.natAbs),.bool false,.string (mg (dn p.2))]:=by
       rw [hW38]
       first
       | (repeat (first|(with_reducible refine own_new ?_;(simp;done))|with_reducible refine Own.alloc ?_ _|refine Own.far _ _ (by first|(simp;done)|(simp [*];done)|(simp;omega)) ?_));done
       | simp [Own,go_sem]
      have c320:Own W38 (w.heap.size+1) 0 [.bool (ng a.1.num),.string (mg a.1.num.natAbs),.bool false,.string (mg (dn a.1)),.bool (ng a.2.num),.string (mg a.2.num.natAbs),.bool false,.string (mg (dn a.2))]:=by
       rw [hW38]
       first
       | (repeat (first|(with_reducible refine own_new ?_;(simp;done))|with_reducible refine Own.alloc ?_ _|refine Own.far _ _ (by first|(simp;done)|(simp [*];done)|(simp;omega)) ?_));done
       | simp [Own,go_sem]
      have c321:Own W38 (w.heap.size+2) 0 [.bool (ng b.1.num),.string (mg b.1.num.natAbs),.bool false,.string (mg (dn b.1)),.bool (ng b.2.num),.string (mg b.2.num.natAbs),.bool false,.string (mg (dn b.2))]:=by
       rw [hW38]
       first
       | (repeat (first|(with_reducible refine own_new ?_;(simp;done))|with_reducible refine Own.alloc ?_ _|refine Own.far _ _ (by first|(simp;done)|(simp [*];done)|(simp;omega)) ?_));done
       | simp [Own,go_sem]
      have hB322:LB8 w W38:=by rw [hW38];exact bB
      clear hW38 hL38;with_reducible refine (K1.out _).mono ?_
      rintro e w38 ⟨rfl,hb38⟩;have c323:=c319.up hb38;have c324:=c320.up hb38;have c325:=c321.up hb38;have hB326:LB8 w w38:=bel_up hB322 hb38;clear c319 c320 c321;have uc323:=c323;have uc324:=c324;have uc325:=c325;simp only [At,Own,Nat.reduceAdd,and_true] at uc323 uc324 uc325;go_wp2_with (fail)
      refine calls_named ?_;intro W39 hW39;have hL39:LB8 w38 W39:=by rw [hW39];exact bB
      have c327:=c323.up hL39;have c328:=c324.up hL39;have c329:=c325.up hL39;have hB330:LB8 w W39:=by rw [hW39];exact bB
      clear hW39 hL39 uc323 uc324 uc325 c323 c324 c325;with_reducible refine (K4.out _).mono ?_
      rintro e w39 ⟨rfl,hb39⟩;have c331:=c327.up hb39;have c332:=c328.up hb39;have c333:=c329.up hb39;have hB334:LB8 w w39:=bel_up hB330 hb39;clear c327 c328 c329;have uc331:=c331;have uc332:=c332;have uc333:=c333;simp only [At,Own,Nat.reduceAdd,and_true] at uc331 uc332 uc333;go_wp2_with (fail)
      refine calls_named ?_;intro W40 hW40;have hL40:LB8 w39 W40:=by rw [hW40];exact bB
      have c335:=c331.up hL40;have c336:=c332.up hL40;have c337:=c333.up hL40;have hB338:LB8 w W40:=by rw [hW40];exact bB
      clear hW40 hL40 uc331 uc332 uc333 c331 c332 c333;with_reducible refine (K7.out _).mono ?_
      rintro e w40 ⟨rfl,hb40⟩;have c339:=c335.up hb40;have c340:=c336.up hb40;have c341:=c337.up hb40;have hB342:LB8 w w40:=bel_up hB338 hb40;clear c335 c336 c337;have uc339:=c339;have uc340:=c340;have uc341:=c341;simp only [At,Own,Nat.reduceAdd,and_true] at uc339 uc340 uc341;go_wp2_with (fail)
      refine calls_named ?_;intro W41 hW41;have hL41:LB8 w40 W41:=by rw [hW41];exact bB
      have c343:=c339.up hL41;have c344:=c340.up hL41;have c345:=c341.up hL41;have hB346:LB8 w W41:=by rw [hW41];exact bB
      clear hW41 hL41 uc339 uc340 uc341 c339 c340 c341;with_reducible refine (K10.out _).mono ?_
      rintro e w41 ⟨rfl,hb41⟩;have c347:=c343.up hb41;have c348:=c344.up hb41;have c349:=c345.up hb41;have hB350:LB8 w w41:=bel_up hB346 hb41;clear c343 c344 c345;have uc347:=c347;have uc348:=c348;have uc349:=c349;simp only [At,Own,Nat.reduceAdd,and_true] at uc347 uc348 uc349;go_wp2_with (fail)
      refine calls_named ?_;intro W42 hW42;have hL42:LB8 w41 W42:=by rw [hW42];exact bB
      have c351:=c347.up hL42;have c352:=c348.up hL42;have c353:=c349.up hL42;have hB354:LB8 w W42:=by rw [hW42];exact bB
      clear hW42 hL42 uc347 uc348 uc349 c347 c348 c349;with_reducible refine (K13.out _).mono ?_
      rintro e w42 ⟨rfl,hb42⟩;have c355:=c351.up hb42;have c356:=c352.up hb42;have c357:=c353.up hb42;have hB358:LB8 w w42:=bel_up hB354 hb42;clear c351 c352 c353;have uc355:=c355;have uc356:=c356;have uc357:=c357;simp only [At,Own,Nat.reduceAdd,and_true] at uc355 uc356 uc357;go_wp2;go_ret;refine ⟨(by rw [onR_f (by have q0:=Hhc24.out;have q1:=hc41;have q2:=hc212;have q3:=hc245;have q4:=hc318;have q5:=HhT3.out;have q6:=HhT6.out;have q7:=HhT9.out;have q8:=HhT12.out;have q9:=HhT15.out;omega)]<;>rfl),?_⟩;exact bB
     ·skip
      have hc318_d:decide ((0:Int)<o14)=false:=decide_eq_false hc318;have hc318_:((o14:Int)≤0):=by omega
      have hc318_e:decide ((o14:Int)≤0)=true:=decide_eq_true hc318_;go_wp2_with (fail)
      refine calls_named ?_;intro W43 hW43;have hL43:LB8 w W43:=by rw [hW43];exact bB
      have c359:Own W43 w.heap.size 0 [.bool (ng p.1.num),.string (mg p.1.num.natAbs),.bool false,.string (mg (dn p.1)),.bool (ng p.2.num),.string (mg p.2.num.natAbs),.bool false,.string (mg (dn p.2))]:=by
       rw [hW43]
       first
       | (repeat (first|(with_reducible refine own_new ?_;(simp;done))|with_reducible refine Own.alloc ?_ _|refine Own.far _ _ (by first|(simp;done)|(simp [*];done)|(simp;omega)) ?_));done
       | simp [Own,go_sem]
      have c360:Own W43 (w.heap.size+1) 0 [.bool (ng a.1.num),.string (mg a.1.num.natAbs),.bool false,.string (mg (dn a.1)),.bool (ng a.2.num),.string (mg a.2.num.natAbs),.bool false,.string (mg (dn a.2))]:=by
       rw [hW43]
       first
       | (repeat (first|(with_reducible refine own_new ?_;(simp;done))|with_reducible refine Own.alloc ?_ _|refine Own.far _ _ (by first|(simp;done)|(simp [*];done)|(simp;omega)) ?_));done
       | simp [Own,go_sem]
      have c361:Own W43 (w.heap.size+2) 0 [.bool (ng b.1.num),.string (mg b.1.num.natAbs),.bool false,.string (mg (dn b.1)),.bool (ng b.2.num),.string (mg b.2.num.natAbs),.bool false,.string (mg (dn b.2))]:=by
       rw [hW43]
       first
       | (repeat (first|(with_reducible refine own_new ?_;(simp;done))|with_reducible refine Own.alloc ?_ _|refine Own.far _ _ (by first|(simp;done)|(simp [*];done)|(simp;omega)) ?_));done
       | simp [Own,go_sem]
      have hB362:LB8 w W43:=by rw [hW43];exact bB
      clear hW43 hL43;with_reducible refine (K1.out _).mono ?_
      rintro e w43 ⟨rfl,hb43⟩;have c363:=c359.up hb43;have c364:=c360.up hb43;have c365:=c361.up hb43;have hB366:LB8 w w43:=bel_up hB362 hb43;clear c359 c360 c361;have uc363:=c363;have uc364:=c364;have uc365:=c365;simp only [At,Own,Nat.reduceAdd,and_true] at uc363 uc364 uc365;go_wp2_with (fail)
      refine calls_named ?_;intro W44 hW44;have hL44:LB8 w43 W44:=by rw [hW44];exact bB
      have c367:=c363.up hL44;have c368:=c364.up hL44;have c369:=c365.up hL44;have hB370:LB8 w W44:=by rw [hW44];exact bB
      clear hW44 hL44 uc363 uc364 uc365 c363 c364 c365;with_reducible refine (K4.out _).mono ?_
      rintro e w44 ⟨rfl,hb44⟩;have c371:=c367.up hb44;have c372:=c368.up hb44;have c373:=c369.up hb44;have hB374:LB8 w w44:=bel_up hB370 hb44;clear c367 c368 c369;have uc371:=c371;have uc372:=c372;have uc373:=c373;simp only [At,Own,Nat.reduceAdd,and_true] at uc371 uc372 uc373;go_wp2_with (fail)
      refine calls_named ?_;intro W45 hW45;have hL45:LB8 w44 W45:=by rw [hW45];exact bB
      have c375:=c371.up hL45;have c376:=c372.up hL45;have c377:=c373.up hL45;have hB378:LB8 w W45:=by rw [hW45];exact bB
      clear hW45 hL45 uc371 uc372 uc373 c371 c372 c373;with_reducible refine (K7.out _).mono ?_
      rintro e w45 ⟨rfl,hb45⟩;have c379:=c375.up hb45;have c380:=c376.up hb45;have c381:=c377.up hb45;have hB382:LB8 w w45:=bel_up hB378 hb45;clear c375 c376 c377;have uc379:=c379;have uc380:=c380;have uc381:=c381;simp only [At,Own,Nat.reduceAdd,and_true] at uc379 uc380 uc381;go_wp2_with (fail)
      refine calls_named ?_;intro W46 hW46;have hL46:LB8 w45 W46:=by rw [hW46];exact bB
      have c383:=c379.up hL46;have c384:=c380.up hL46;have c385:=c381.up hL46;have hB386:LB8 w W46:=by rw [hW46];exact bB
      clear hW46 hL46 uc379 uc380 uc381 c379 c380 c381;with_reducible refine (K10.out _).mono ?_
      rintro e w46 ⟨rfl,hb46⟩;have c387:=c383.up hb46;have c388:=c384.up hb46;have c389:=c385.up hb46;have hB390:LB8 w w46:=bel_up hB386 hb46;clear c383 c384 c385;have uc387:=c387;have uc388:=c388;have uc389:=c389;simp only [At,Own,Nat.reduceAdd,and_true] at uc387 uc388 uc389;go_wp2_with (fail)
      refine calls_named ?_;intro W47 hW47;have hL47:LB8 w46 W47:=by rw [hW47];exact bB
      have c391:=c387.up hL47;have c392:=c388.up hL47;have c393:=c389.up hL47;have hB394:LB8 w W47:=by rw [hW47];exact bB
      clear hW47 hL47 uc387 uc388 uc389 c387 c388 c389;with_reducible refine (K13.out _).mono ?_
      rintro e w47 ⟨rfl,hb47⟩;have c395:=c391.up hb47;have c396:=c392.up hb47;have c397:=c393.up hb47;have hB398:LB8 w w47:=bel_up hB394 hb47;clear c391 c392 c393;have uc395:=c395;have uc396:=c396;have uc397:=c397;simp only [At,Own,Nat.reduceAdd,and_true] at uc395 uc396 uc397;go_wp2;go_ret;refine ⟨(by rw [onR_t (by have q0:=Hhc24.out;have q1:=hc41;have q2:=hc212;have q3:=hc245;have q4:=hc318;have q5:=HhT3.out;have q6:=HhT6.out;have q7:=HhT9.out;have q8:=HhT12.out;have q9:=HhT15.out;omega)]<;>rfl),?_⟩;exact bB
   ·skip
    have hc212_d:decide ((0:Int)<o8)=false:=decide_eq_false hc212;have hc212_:((o8:Int)≤0):=by omega
    have hc212_e:decide ((o8:Int)≤0)=true:=decide_eq_true hc212_;go_wp2_with (fail)
    refine calls_named ?_;intro W48 hW48;have hL48:LB8 w W48:=by rw [hW48];exact bB
    have c399:Own W48 w.heap.size 0 [.bool (ng p.1.num),.string (mg p.1.num.natAbs),.bool false,.string (mg (dn p.1)),.bool (ng p.2.num),.string (mg p.2.num.natAbs),.bool false,.string (mg (dn p.2))]:=by
     rw [hW48]
     first
     | (repeat (first|(with_reducible refine own_new ?_;(simp;done))|with_reducible refine Own.alloc ?_ _|refine Own.far _ _ (by first|(simp;done)|(simp [*];done)|(simp;omega)) ?_));done
     | simp [Own,go_sem]
    have c400:Own W48 (w.heap.size+1) 0 [.bool (ng a.1.num),.string (mg a.1.num.natAbs),.bool false,.string (mg (dn a.1)),.bool (ng a.2.num),.string (mg a.2.num.natAbs),.bool false,.string (mg (dn a.2))]:=by
     rw [hW48]
     first
     | (repeat (first|(with_reducible refine own_new ?_;(simp;done))|with_reducible refine Own.alloc ?_ _|refine Own.far _ _ (by first|(simp;done)|(simp [*];done)|(simp;omega)) ?_));done
     | simp [Own,go_sem]
    have c401:Own W48 (w.heap.size+2) 0 [.bool (ng b.1.num),.string (mg b.1.num.natAbs),.bool false,.string (mg (dn b.1)),.bool (ng b.2.num),.string (mg b.2.num.natAbs),.bool false,.string (mg (dn b.2))]:=by
     rw [hW48]
     first
     | (repeat (first|(with_reducible refine own_new ?_;(simp;done))|with_reducible refine Own.alloc ?_ _|refine Own.far _ _ (by first|(simp;done)|(simp [*];done)|(simp;omega)) ?_));done
     | simp [Own,go_sem]
    have hB402:LB8 w W48:=by rw [hW48];exact bB
    clear hW48 hL48;with_reducible refine (K1.out _).mono ?_
    rintro e w48 ⟨rfl,hb48⟩;have c403:=c399.up hb48;have c404:=c400.up hb48;have c405:=c401.up hb48;have hB406:LB8 w w48:=bel_up hB402 hb48;clear c399 c400 c401;have uc403:=c403;have uc404:=c404;have uc405:=c405;simp only [At,Own,Nat.reduceAdd,and_true] at uc403 uc404 uc405;go_wp2_with (fail)
    refine calls_named ?_;intro W49 hW49;have hL49:LB8 w48 W49:=by rw [hW49];exact bB
    have c407:=c403.up hL49;have c408:=c404.up hL49;have c409:=c405.up hL49;have hB410:LB8 w W49:=by rw [hW49];exact bB
    clear hW49 hL49 uc403 uc404 uc405 c403 c404 c405;with_reducible refine (K4.out _).mono ?_
    rintro e w49 ⟨rfl,hb49⟩;have c411:=c407.up hb49;have c412:=c408.up hb49;have c413:=c409.up hb49;have hB414:LB8 w w49:=bel_up hB410 hb49;clear c407 c408 c409;have uc411:=c411;have uc412:=c412;have uc413:=c413;simp only [At,Own,Nat.reduceAdd,and_true] at uc411 uc412 uc413;go_wp2_with (fail)
    refine calls_named ?_;intro W50 hW50;have hL50:LB8 w49 W50:=by rw [hW50];exact bB
    have c415:=c411.up hL50;have c416:=c412.up hL50;have c417:=c413.up hL50;have hB418:LB8 w W50:=by rw [hW50];exact bB
    clear hW50 hL50 uc411 uc412 uc413 c411 c412 c413;with_reducible refine (K7.out _).mono ?_
    rintro e w50 ⟨rfl,hb50⟩;have c419:=c415.up hb50;have c420:=c416.up hb50;have c421:=c417.up hb50;have hB422:LB8 w w50:=bel_up hB418 hb50;clear c415 c416 c417;have uc419:=c419;have uc420:=c420;have uc421:=c421;simp only [At,Own,Nat.reduceAdd,and_true] at uc419 uc420 uc421;go_wp2;go_ret;refine ⟨(by rw [onR_t (by have q0:=Hhc24.out;have q1:=hc41;have q2:=hc212;have q3:=HhT3.out;have q4:=HhT6.out;have q5:=HhT9.out;have q6:=HhT12.out;have q7:=HhT15.out;omega)]<;>rfl),?_⟩;exact bB
 ·skip
  have hc24_:(((t2:Int))==0)=false:=by simpa using hc24
  go_wp2_with (fail)
  refine calls_named ?_;intro W51 hW51;have hL51:LB8 w W51:=by rw [hW51];exact bB
  have c423:Own W51 w.heap.size 0 [.bool (ng p.1.num),.string (mg p.1.num.natAbs),.bool false,.string (mg (dn p.1)),.bool (ng p.2.num),.string (mg p.2.num.natAbs),.bool false,.string (mg (dn p.2))]:=by
   rw [hW51]
   first
   | (repeat (first|(with_reducible refine own_new ?_;(simp;done))|with_reducible refine Own.alloc ?_ _|refine Own.far _ _ (by first|(simp;done)|(simp [*];done)|(simp;omega)) ?_));done
   | simp [Own,go_sem]
  have c424:Own W51 (w.heap.size+1) 0 [.bool (ng a.1.num),.string (mg a.1.num.natAbs),.bool false,.string (mg (dn a.1)),.bool (ng a.2.num),.string (mg a.2.num.natAbs),.bool false,.string (mg (dn a.2))]:=by
   rw [hW51]
   first
   | (repeat (first|(with_reducible refine own_new ?_;(simp;done))|with_reducible refine Own.alloc ?_ _|refine Own.far _ _ (by first|(simp;done)|(simp [*];done)|(simp;omega)) ?_));done
   | simp [Own,go_sem]
  have c425:Own W51 (w.heap.size+2) 0 [.bool (ng b.1.num),.string (mg b.1.num.natAbs),.bool false,.string (mg (dn b.1)),.bool (ng b.2.num),.string (mg b.2.num.natAbs),.bool false,.string (mg (dn b.2))]:=by
   rw [hW51]
   first
   | (repeat (first|(with_reducible refine own_new ?_;(simp;done))|with_reducible refine Own.alloc ?_ _|refine Own.far _ _ (by first|(simp;done)|(simp [*];done)|(simp;omega)) ?_));done
   | simp [Own,go_sem]
  have hB426:LB8 w W51:=by rw [hW51];exact bB
  clear hW51 hL51;with_reducible refine (K1.out _).mono ?_
  rintro e w51 ⟨rfl,hb51⟩;have c427:=c423.up hb51;have c428:=c424.up hb51;have c429:=c425.up hb51;have hB430:LB8 w w51:=bel_up hB426 hb51;clear c423 c424 c425;have uc427:=c427;have uc428:=c428;have uc429:=c429;simp only [At,Own,Nat.reduceAdd,and_true] at uc427 uc428 uc429;go_wp2;go_ret;refine ⟨(by rw [onR_f (by have q0:=hc24;have q1:=HhT3.out;have q2:=HhT6.out;have q3:=HhT9.out;have q4:=HhT12.out;have q5:=HhT15.out;omega)]<;>rfl),?_⟩;exact bB
end Go.Proofs.YtiochgoocbkckaaGreatDoor

namespace Go.Proofs.YtiochgoocbkckaaGreatDoor
open Go Go.RowKit

set_option maxHeartbeats 4000000 in
theorem rnext_any {S:Nat} (v:Value) (l:List (Rat×Rat)) (k:Nat) (w:World) (h:PV w v l) (hs:∀ q∈l,Pl.SzP S q) (hn:l.length≤1000000) (hS:S≤100000) (hk:k<l.length) :
 Calls Tryz.prog 74 #[v,.int .i64 k] w fun e w'=>e=.returned (pv (Pg.vx l (k+1)))∧Below w.heap.size w w':=by
 obtain ⟨A,c,rfl,hc,hm,hx⟩:=h.open_;have HV:=Lib.hid h;have HX:=Lib.hid hx;have HS:=Lib.hid hs;have i1:(k:Int)<(l.length:Int):=by omega
 have j0:¬ (l.length:Int)=0:=by omega
 have j1:((l.length:Int)==0)=false:=by simpa using j0
 have HF:Hid (l.take l.length=l):=Lib.hid List.take_length;generalize hN:l.length=N at *;have HN:=Lib.hid hN;clear h hx hs hN;go_enter Tryz.func74,Tryz.ntmps74;obtain ⟨m,hm1⟩:∃ m,m=(k+1)%N:=⟨_,rfl⟩
 have hm2:m<N:=hm1▸Nat.mod_lt _ (by omega);have i2:(m:Int)<N:=by omega
 obtain ⟨r1,r2,r3,r4,r5,r6⟩:=remS k N m hm1 (by omega) (by omega);have HM:=Lib.hid hm1;clear hm1;obtain ⟨x1,hx2⟩:∃ x,l[m]?=some x:=⟨_,List.getElem?_eq_getElem (by rw [HN.out];omega)⟩
 have Hhx2:=Lib.hid hx2;have Zhx2:=Lib.hid (HS.out _ (List.mem_of_getElem? hx2));clear hx2;have HT:=Lib.hid (Pg.vx_some (by rw [HN.out,← HM.out];exact Hhx2.out):Pg.vx l (k+1)=x1);clear r2 r4 r5 r6 hm2 j0;obtain ⟨g4,o5,ha6,-⟩:=HX.out _ _ Hhx2.out;subst ha6;have ce3:=LX.at_ (HX.out) Hhx2.out;have ce3_:g4<w.heap.size:=World.block_lt_of_cell? _ _ ce3.1;have uce3:=ce3;simp only [CE,Nat.reduceMul] at uce3;go_wp2;refine bodyPost_ret (v:=.agg #[.bool (ng x1.1.num),.string (mg x1.1.num.natAbs),.bool false,.string (mg (dn x1.1)),.bool (ng x1.2.num),.string (mg x1.2.num.natAbs),.bool false,.string (mg (dn x1.2))]) (by simp [results,Tryz.results74,go_sem,uce3]) rfl ⟨(by rw [HT.out]),?_⟩;exact bB

end Go.Proofs.YtiochgoocbkckaaGreatDoor

namespace Go.Proofs.YtiochgoocbkckaaGreatDoor
open Go Go.RowKit

theorem locO_on {p x y:Rat×Rat} {es:List ((Rat×Rat)×(Rat×Rat))} {o:Int} (h:Pg.onR p x y=true):Pg.locO p ((x,y) :: es) o=0:=by rw [Pg.locO,if_pos h]
theorem locO_to {p x y:Rat×Rat} {es:List ((Rat×Rat)×(Rat×Rat))} {o u:Int} {b:Bool} (h:Pg.onR p x y=false) (hb:Pg.hitR p (x,y)=b) (hu:u=if b=true then 0-o else o):Pg.locO p ((x,y) :: es) o=Pg.locO p es u:=by
 rw [Pg.locO,if_neg (by rw [h];decide),hb,hu]
theorem hit_t {p x y:Rat×Rat} (h:(Pl.cmpQ x.2 p.2≤0∧Pl.cmpQ p.2 y.2<0∧0<Pl.turn x y p)∨(Pl.cmpQ y.2 p.2≤0∧Pl.cmpQ p.2 x.2<0∧Pl.turn x y p<0)):Pg.hitR p (x,y)=true:=by
 unfold Pg.hitR;simp only [Bool.and_eq_true,Bool.or_eq_true,decide_eq_true_eq,and_assoc];exact h
theorem hit_f {p x y:Rat×Rat} (h:¬ ((Pl.cmpQ x.2 p.2≤0∧Pl.cmpQ p.2 y.2<0∧0<Pl.turn x y p)∨(Pl.cmpQ y.2 p.2≤0∧Pl.cmpQ p.2 x.2<0∧Pl.turn x y p<0))):Pg.hitR p (x,y)=false:=by
 rw [← Bool.not_eq_true];unfold Pg.hitR;simp only [Bool.and_eq_true,Bool.or_eq_true,decide_eq_true_eq,and_assoc];exact h
theorem locO_fin {p:Rat×Rat} {l:List (Rat×Rat)} {N:Nat} {o:Int} (hN:l.length=N) (h:Pg.locO p (Pg.ringE l) (-1)=Pg.locO p ((Pg.ringE l).drop N) o):Pg.locO p (Pg.ringE l) (-1)=o:=by
 rw [h,List.drop_eq_nil_of_le (by rw [Pg.ringE_len,hN];exact Nat.le_refl _),Pg.locO]
theorem locO3 (p:Rat×Rat):∀ (es:List ((Rat×Rat)×(Rat×Rat))) (o:Int),(o=-1∨o=1)→Pg.locO p es o=-1∨Pg.locO p es o=0∨Pg.locO p es o=1
 | [],o,h=>by simp only [Pg.locO];omega
 | e :: es,o,h=>by
  simp only [Pg.locO]
  split
  ·exact .inr (.inl rfl)
  ·exact locO3 p es _ (by split<;>omega)
theorem locO_three (p:Rat×Rat) (es:List ((Rat×Rat)×(Rat×Rat))) {z:Int} (h:Pg.locO p es (-1)=z):z=-1∨z=0∨z=1:=h▸locO3 p es (-1) (.inl rfl)

set_option maxHeartbeats 4000000 in
theorem rloc_any {S:Nat} (v:Value) (l:List (Rat×Rat)) (p:Rat×Rat) (w:World) (h:PV w v l) (hs:∀ q∈l,Pl.SzP S q) (hn:l.length≤1000) (hS:S≤1000) (hp:Pl.SzP S p) :
 Calls Tryz.prog 32 #[v,pv p] w fun e w'=>e=.returned (.int .i64 (Pg.locO p (Pg.ringE l) (-1)))∧Below w.heap.size w w':=by
 obtain ⟨A,c,rfl,hc,hm,hx⟩:=h.open_;have HV:=Lib.hid h;have HX:=Lib.hid hx;have HS:=Lib.hid hs;have HF:Hid (l.take l.length=l):=Lib.hid List.take_length;generalize hN:l.length=N at *;have HN:=Lib.hid hN;clear h hx hs hN;go_enter Tryz.func32,Tryz.ntmps32;go_wp2_with fail;refine wp_named ?_;intro W1 hW1;have hL1:LB8 w W1:=by rw [hW1];exact bB
 have c1:Own W1 w.heap.size 0 [.bool (ng p.1.num),.string (mg p.1.num.natAbs),.bool false,.string (mg (dn p.1)),.bool (ng p.2.num),.string (mg p.2.num.natAbs),.bool false,.string (mg (dn p.2))]:=by
  rw [hW1]
  first
  | (repeat (first|(with_reducible refine own_new ?_;(simp;done))|with_reducible refine Own.alloc ?_ _|refine Own.far _ _ (by first|(simp;done)|(simp [*];done)|(simp;omega)) ?_));done
  | simp [Own,go_sem]
 have hB2:LB8 w W1:=by rw [hW1];exact bB
 clear hW1 hL1;go_loopw [5,6] (fun s5 s6 wr=>∃ (k:Nat) (o:Int),s5=.int .i64 o∧s6=.int .i64 k∧Own wr w.heap.size 0 [.bool (ng p.1.num),.string (mg p.1.num.natAbs),.bool false,.string (mg (dn p.1)),.bool (ng p.2.num),.string (mg p.2.num.natAbs),.bool false,.string (mg (dn p.2))]∧Below w.heap.size w wr∧k≤N∧(o=-1∨o=1)∧Hid (Pg.locO p (Pg.ringE l) (-1)=Pg.locO p ((Pg.ringE l).drop k) o)) (fun _ s6 _=>N-(intOf s6).toNat)
 case atStart=>exact ⟨0,(-1),rfl,rfl,c1,hB2,(by omega),(.inl rfl),Lib.hid rfl⟩
 case round =>
  clear c1 hB2;obtain ⟨k,o,rfl,rfl,b3,hB4,hk,hb,HE⟩:=hrel;obtain ⟨wr5,hwr5⟩:∃ W_,W_=wr:=⟨_,rfl⟩
  subst hwr5
  by_cases hltk:k<N
  ·skip
   have i1k:(k:Int)<N:=by omega
   obtain ⟨x6,hx7⟩:∃ x,l[k]?=some x:=⟨_,List.getElem?_eq_getElem (by rw [HN.out];omega)⟩
   have Hhx7:=Lib.hid hx7;have Zhx7:=Lib.hid (HS.out _ (List.mem_of_getElem? hx7));clear hx7;obtain ⟨y,hy⟩:∃ y,Pg.vx l (k+1)=y:=⟨_,rfl⟩
   have HY:=Lib.hid hy;have HZY:Hid (Pl.SzP S y):=Lib.hid (hy▸vx_sz HS.out (by rw [HN.out];omega) _);have HDR:Hid ((Pg.ringE l).drop k=(x6,y) :: (Pg.ringE l).drop (k+1)):=Lib.hid (by rw [← hy,← (Pg.vx_some (by rw [HN.out,Nat.mod_eq_of_lt (by omega)];exact Hhx7.out):Pg.vx l k=x6)];exact Pl.drop_of (Pg.ringE_get l (by rw [HN.out];omega)));clear hy;obtain ⟨o2,ho2⟩:∃ z:Int,z=0-o:=⟨_,rfl⟩
   have s1:(0:Int)-o=o2:=ho2.symm;have s3 : -o=o2:=by omega
   have s2:IntKind.i64.wrap o2=o2:=by rcases hb with h_|h_<;>(subst h_;subst ho2;rfl)
   have HO2:=Lib.hid ho2;clear ho2;go_upto_region 5 with fail
   refine wp_named ?_;intro W2 hW2;have hL2:LB8 wr5 W2:=by rw [hW2];exact bB
   have c8:=b3.up hL2;have hB9:LB8 w W2:=by rw [hW2];exact bB
   clear hW2 hL2 b3;have K11:=Lib.hid (fun W (hW:PV W (.slice A N c) l)=>HY.out▸rnext_any _ l k W hW HS.out (by rw [HN.out];omega) (by omega) (by rw [HN.out];omega));obtain ⟨g15,o16,ha17,-⟩:=(HX.out).up kpP hB9 _ _ Hhx7.out;subst ha17;have ce14:=LX.at_ ((HX.out).up kpP hB9) Hhx7.out;have ce14_:g15<W2.heap.size:=World.block_lt_of_cell? _ _ ce14.1;refine wp_region_new2 9 7 7 8 8 [.bool false,.string ⟨#[]⟩,.bool false,.string ⟨#[]⟩,.bool false,.string ⟨#[]⟩,.bool false,.string ⟨#[]⟩] [.bool false,.string ⟨#[]⟩,.bool false,.string ⟨#[]⟩,.bool false,.string ⟨#[]⟩,.bool false,.string ⟨#[]⟩] 45 45 (by kernel_rfl) (by kernel_rfl) rfl rfl rfl rfl rfl rfl rfl ⟨(by intro h_;cases h_),(by intro h_;cases h_),(by intro h_;cases h_),(by intro h_;cases h_)⟩ (by simp) (by simp) (run_alloc_zero Tryz.zeroValue45 rfl) (by kernel_rfl) (run_alloc_zero Tryz.zeroValue45 rfl) (by kernel_rfl) ?_;intro V_10 hV_10;have vc8:=c8.up hV_10;have dc8:=fun p:Bel V_10=>vc8.bel p
   simp only [At,Own,Nat.reduceAdd,and_true] at dc8;have vce14:=ce14.up hV_10;have dce14:=fun b:Bel V_10=>vce14.bel b
   simp only [CE,Nat.reduceMul] at dce14;have hBV_10:=bel_up hB9 hV_10;simp only [List.map_cons,List.map_nil,maskOp,List.take_succ_cons,List.take_zero];repeat (go_big_quiet_step (first|(go_at_call 74;with_reducible exact Calls.bel (K11.out _ ((HV.out.up hBV_10).up (Bel.h _))))))
   refine wpQuiet_nil ?_;refine ⟨[.bool (ng x6.1.num),.string (mg x6.1.num.natAbs),.bool false,.string (mg (dn x6.1)),.bool (ng x6.2.num),.string (mg x6.2.num.natAbs),.bool false,.string (mg (dn x6.2))],[.bool (ng y.1.num),.string (mg y.1.num.natAbs),.bool false,.string (mg (dn y.1)),.bool (ng y.2.num),.string (mg y.2.num.natAbs),.bool false,.string (mg (dn y.2))],rfl,rfl,by simp [Value.oneCell'],rfl,rfl,by simp [Value.oneCell'],?_⟩;intro bq12 bq13 wn_10 hbn_10 lbq12 mbq12 lbq13 mbq13 nbq12 c18 c19;have nbq12':=nbq12.symm;simp only [Act.put,List.setIfInBounds_toArray,List.set_cons_zero,List.set_cons_succ];have ne20:w.heap.size≠bq12:=by have:=c8.lt;omega
   have ne20':=ne20.symm;have ne21:g15≠bq12:=by omega
   have ne21':=ne21.symm;have wbq12:=Nat.le_trans hB9.size lbq12;have ne22:w.heap.size≠bq13:=by have:=c8.lt;omega
   have ne22':=ne22.symm;have ne23:g15≠bq13:=by omega
   have ne23':=ne23.symm;have wbq13:=Nat.le_trans hB9.size lbq13;clear hBV_10 dce14 vce14 dc8 vc8 hV_10 V_10;have c24:=c8.up hbn_10;have hB25:LB8 w wn_10:=bel_up hB9 hbn_10;clear c8;have kK26:=fun W=>ron_any p x6 y W hp Zhx7.out HZY.out (by omega)
   generalize hT28:Pg.onR p x6 y=b27 at kK26;have K26:=Lib.hid kK26;clear kK26;have HhT28:=Lib.hid hT28;clear hT28;have uc24:=c24;have uc18:=c18;have uc19:=c19;simp only [At,Own,Nat.reduceAdd,and_true] at uc24 uc18 uc19;go_wp2_with (fail)
   refine calls_named ?_;intro W3 hW3;have hL3:LB8 wn_10 W3:=by rw [hW3];exact bB
   have c29:=c24.up hL3;have c30:=c18.up hL3;have c31:=c19.up hL3;have hB32:LB8 w W3:=by rw [hW3];exact bB
   clear hW3 hL3 uc24 uc18 uc19 c24 c18 c19;with_reducible refine (K26.out _).mono ?_
   rintro e w3 ⟨rfl,hb3⟩;have c33:=c29.up hb3;have c34:=c30.up hb3;have c35:=c31.up hb3;have hB36:LB8 w w3:=bel_up hB32 hb3;clear c29 c30 c31;cases b27
   ·skip
    have kK37:=fun W=>rcompare_any x6.2 p.2 W (Zhx7.out.2.mono (by omega)) (hp.2.mono (by omega))
    generalize hT39:Pl.cmpQ x6.2 p.2=o38 at kK37;have K37:=Lib.hid kK37;clear kK37;have HhT39:=Lib.hid hT39;clear hT39;have kK40:=fun W=>rcompare_any p.2 y.2 W (hp.2.mono (by omega)) (HZY.out.2.mono (by omega))
    generalize hT42:Pl.cmpQ p.2 y.2=o41 at kK40;have K40:=Lib.hid kK40;clear kK40;have HhT42:=Lib.hid hT42;clear hT42;have kK43:=fun W=>rcompare_any y.2 p.2 W (HZY.out.2.mono (by omega)) (hp.2.mono (by omega))
    generalize hT45:Pl.cmpQ y.2 p.2=o44 at kK43;have K43:=Lib.hid kK43;clear kK43;have HhT45:=Lib.hid hT45;clear hT45;have kK46:=fun W=>rcompare_any p.2 x6.2 W (hp.2.mono (by omega)) (Zhx7.out.2.mono (by omega))
    generalize hT48:Pl.cmpQ p.2 x6.2=o47 at kK46;have K46:=Lib.hid kK46;clear kK46;have HhT48:=Lib.hid hT48;clear hT48
    by_cases hc49:(0:Int)<o38
    ·skip
     have hc49_d:decide ((0:Int)<o38)=true:=decide_eq_true hc49;have hc49_:¬ ((o38:Int)≤0):=by omega
     have hc49_e:decide ((o38:Int)≤0)=false:=decide_eq_false hc49_
     by_cases hc50:(0:Int)<o44
     ·skip
      have hc50_d:decide ((0:Int)<o44)=true:=decide_eq_true hc50;have hc50_:¬ ((o44:Int)≤0):=by omega
      have hc50_e:decide ((o44:Int)≤0)=false:=decide_eq_false hc50_;go_wp2_with fail;refine wp_named ?_;intro W4 hW4;have hL4:LB8 w3 W4:=by rw [hW4];exact bB
      have c51:=c33.up hL4;have c52:=c34.up hL4;have c53:=c35.up hL4;have hB54:LB8 w W4:=by rw [hW4];exact bB
      clear hW4 hL4 c33 c34 c35;have dc51:=fun p:Bel W4=>c51.bel p;have dc52:=fun p:Bel W4=>c52.bel p;have dc53:=fun p:Bel W4=>c53.bel p
      simp only [At,Own,Nat.reduceAdd,and_true] at dc51 dc52 dc53;refine wp_region_all (by kernel_rfl) (by kernel_rfl) ?_;repeat (go_big_quiet_step (first|(go_at_call 46;with_reducible exact Calls.bel (K37.out _))|(go_at_call 46;with_reducible exact Calls.bel (K43.out _))))
      refine wpQuiet_nil ?_;intro w4 hb4;have c55:=c51.up hb4;have c56:=c52.up hb4;have c57:=c53.up hb4;have hB58:LB8 w w4:=bel_up hB54 hb4;clear dc51 dc52 dc53 c51 c52 c53;have uc55:=c55;have uc56:=c56;have uc57:=c57;simp only [At,Own,Nat.reduceAdd,and_true] at uc55 uc56 uc57;have kK59:=fun W=>rturn_any x6 y p W Zhx7.out HZY.out hp (by omega)
      generalize hT61:Pl.turn x6 y p=t60 at kK59;have K59:=Lib.hid kK59;clear kK59;have HhT61:=Lib.hid hT61;clear hT61;go_wp2;go_roundw
      case rel=>exact ⟨(k+1),o,rIB8,rIB8,oFB8,(by exact bB),(by omega),(by have q_:=HO2.out;first|omega|exact hb),Lib.hid (by rw [HE.out,HDR.out,locO_to (b:=false) (u:=o) HhT28.out (hit_f (by have q0:=hc49;have q1:=hc50;have q2:=HhT39.out;have q3:=HhT42.out;have q4:=HhT45.out;have q5:=HhT48.out;have q6:=HhT61.out;omega)) (by rw [if_neg (by decide)])])⟩
      case measure=>simp [intOf]<;>omega
     ·skip
      have hc50_d:decide ((0:Int)<o44)=false:=decide_eq_false hc50;have hc50_:((o44:Int)≤0):=by omega
      have hc50_e:decide ((o44:Int)≤0)=true:=decide_eq_true hc50_
      by_cases hc62:(o47:Int)<0
      ·skip
       have hc62_d:decide ((o47:Int)<0)=true:=decide_eq_true hc62;have hc62_:¬ ((0:Int)≤o47):=by omega
       have hc62_e:decide ((0:Int)≤o47)=false:=decide_eq_false hc62_;go_wp2_with fail;refine wp_named ?_;intro W5 hW5;have hL5:LB8 w3 W5:=by rw [hW5];exact bB
       have c63:=c33.up hL5;have c64:=c34.up hL5;have c65:=c35.up hL5;have hB66:LB8 w W5:=by rw [hW5];exact bB
       clear hW5 hL5 c33 c34 c35;have dc63:=fun p:Bel W5=>c63.bel p;have dc64:=fun p:Bel W5=>c64.bel p;have dc65:=fun p:Bel W5=>c65.bel p
       simp only [At,Own,Nat.reduceAdd,and_true] at dc63 dc64 dc65;refine wp_region_all (by kernel_rfl) (by kernel_rfl) ?_;repeat (go_big_quiet_step (first|(go_at_call 46;with_reducible exact Calls.bel (K37.out _))|(go_at_call 46;with_reducible exact Calls.bel (K43.out _))|(go_at_call 46;with_reducible exact Calls.bel (K46.out _))))
       refine wpQuiet_nil ?_;intro w5 hb5;have c67:=c63.up hb5;have c68:=c64.up hb5;have c69:=c65.up hb5;have hB70:LB8 w w5:=bel_up hB66 hb5;clear dc63 dc64 dc65 c63 c64 c65;have uc67:=c67;have uc68:=c68;have uc69:=c69;simp only [At,Own,Nat.reduceAdd,and_true] at uc67 uc68 uc69;have kK71:=fun W=>rturn_any x6 y p W Zhx7.out HZY.out hp (by omega)
       generalize hT73:Pl.turn x6 y p=t72 at kK71;have K71:=Lib.hid kK71;clear kK71;have HhT73:=Lib.hid hT73;clear hT73;go_wp2_with (fail)
       refine calls_named ?_;intro W6 hW6;have hL6:LB8 w5 W6:=by rw [hW6];exact bB
       have c74:=c67.up hL6;have c75:=c68.up hL6;have c76:=c69.up hL6;have hB77:LB8 w W6:=by rw [hW6];exact bB
       clear hW6 hL6 uc67 uc68 uc69 c67 c68 c69;with_reducible refine (K71.out _).mono ?_
       rintro e w6 ⟨rfl,hb6⟩;have c78:=c74.up hb6;have c79:=c75.up hb6;have c80:=c76.up hb6;have hB81:LB8 w w6:=bel_up hB77 hb6;clear c74 c75 c76
       by_cases hc82:(t72:Int)<0
       ·skip
        have hc82_d:decide ((t72:Int)<0)=true:=decide_eq_true hc82;have hc82_:¬ ((0:Int)≤t72):=by omega
        have hc82_e:decide ((0:Int)≤t72)=false:=decide_eq_false hc82_;have uc78:=c78;have uc79:=c79;have uc80:=c80;simp only [At,Own,Nat.reduceAdd,and_true] at uc78 uc79 uc80;go_wp2;go_roundw
        case rel=>exact ⟨(k+1),o2,rIB8,rIB8,oFB8,(by exact bB),(by omega),(by have q_:=HO2.out;first|omega|exact hb),Lib.hid (by rw [HE.out,HDR.out,locO_to (b:=true) (u:=o2) HhT28.out (hit_t (by have q0:=hc49;have q1:=hc50;have q2:=hc62;have q3:=hc82;have q4:=HhT39.out;have q5:=HhT42.out;have q6:=HhT45.out;have q7:=HhT48.out;have q8:=HhT73.out;omega)) (by rw [if_pos rfl];exact HO2.out)])⟩
        case measure=>simp [intOf]<;>omega
       ·skip
        have hc82_d:decide ((t72:Int)<0)=false:=decide_eq_false hc82;have hc82_:((0:Int)≤t72):=by omega
        have hc82_e:decide ((0:Int)≤t72)=true:=decide_eq_true hc82_;have uc78:=c78;have uc79:=c79;have uc80:=c80;simp only [At,Own,Nat.reduceAdd,and_true] at uc78 uc79 uc80;go_wp2;go_roundw
        case rel=>exact ⟨(k+1),o,rIB8,rIB8,oFB8,(by exact bB),(by omega),(by have q_:=HO2.out;first|omega|exact hb),Lib.hid (by rw [HE.out,HDR.out,locO_to (b:=false) (u:=o) HhT28.out (hit_f (by have q0:=hc49;have q1:=hc50;have q2:=hc62;have q3:=hc82;have q4:=HhT39.out;have q5:=HhT42.out;have q6:=HhT45.out;have q7:=HhT48.out;have q8:=HhT73.out;omega)) (by rw [if_neg (by decide)])])⟩
        case measure=>simp [intOf]<;>omega
      ·skip
       have hc62_d:decide ((o47:Int)<0)=false:=decide_eq_false hc62;have hc62_:((0:Int)≤o47):=by omega
       have hc62_e:decide ((0:Int)≤o47)=true:=decide_eq_true hc62_;go_wp2_with fail;refine wp_named ?_;intro W7 hW7;have hL7:LB8 w3 W7:=by rw [hW7];exact bB
       have c83:=c33.up hL7;have c84:=c34.up hL7;have c85:=c35.up hL7;have hB86:LB8 w W7:=by rw [hW7];exact bB
       clear hW7 hL7 c33 c34 c35;have dc83:=fun p:Bel W7=>c83.bel p;have dc84:=fun p:Bel W7=>c84.bel p;have dc85:=fun p:Bel W7=>c85.bel p
       simp only [At,Own,Nat.reduceAdd,and_true] at dc83 dc84 dc85;refine wp_region_all (by kernel_rfl) (by kernel_rfl) ?_;repeat (go_big_quiet_step (first|(go_at_call 46;with_reducible exact Calls.bel (K37.out _))|(go_at_call 46;with_reducible exact Calls.bel (K43.out _))|(go_at_call 46;with_reducible exact Calls.bel (K46.out _))))
       refine wpQuiet_nil ?_;intro w7 hb7;have c87:=c83.up hb7;have c88:=c84.up hb7;have c89:=c85.up hb7;have hB90:LB8 w w7:=bel_up hB86 hb7;clear dc83 dc84 dc85 c83 c84 c85;have uc87:=c87;have uc88:=c88;have uc89:=c89;simp only [At,Own,Nat.reduceAdd,and_true] at uc87 uc88 uc89;have kK91:=fun W=>rturn_any x6 y p W Zhx7.out HZY.out hp (by omega)
       generalize hT93:Pl.turn x6 y p=t92 at kK91;have K91:=Lib.hid kK91;clear kK91;have HhT93:=Lib.hid hT93;clear hT93;go_wp2;go_roundw
       case rel=>exact ⟨(k+1),o,rIB8,rIB8,oFB8,(by exact bB),(by omega),(by have q_:=HO2.out;first|omega|exact hb),Lib.hid (by rw [HE.out,HDR.out,locO_to (b:=false) (u:=o) HhT28.out (hit_f (by have q0:=hc49;have q1:=hc50;have q2:=hc62;have q3:=HhT39.out;have q4:=HhT42.out;have q5:=HhT45.out;have q6:=HhT48.out;have q7:=HhT93.out;omega)) (by rw [if_neg (by decide)])])⟩
       case measure=>simp [intOf]<;>omega
    ·skip
     have hc49_d:decide ((0:Int)<o38)=false:=decide_eq_false hc49;have hc49_:((o38:Int)≤0):=by omega
     have hc49_e:decide ((o38:Int)≤0)=true:=decide_eq_true hc49_
     by_cases hc94:(0:Int)<o44
     ·skip
      have hc94_d:decide ((0:Int)<o44)=true:=decide_eq_true hc94;have hc94_:¬ ((o44:Int)≤0):=by omega
      have hc94_e:decide ((o44:Int)≤0)=false:=decide_eq_false hc94_
      by_cases hc95:(o41:Int)<0
      ·skip
       have hc95_d:decide ((o41:Int)<0)=true:=decide_eq_true hc95;have hc95_:¬ ((0:Int)≤o41):=by omega
       have hc95_e:decide ((0:Int)≤o41)=false:=decide_eq_false hc95_;go_wp2_with fail;refine wp_named ?_;intro W8 hW8;have hL8:LB8 w3 W8:=by rw [hW8];exact bB
       have c96:=c33.up hL8;have c97:=c34.up hL8;have c98:=c35.up hL8;have hB99:LB8 w W8:=by rw [hW8];exact bB
       clear hW8 hL8 c33 c34 c35;have dc96:=fun p:Bel W8=>c96.bel p;have dc97:=fun p:Bel W8=>c97.bel p;have dc98:=fun p:Bel W8=>c98.bel p
       simp only [At,Own,Nat.reduceAdd,and_true] at dc96 dc97 dc98;refine wp_region_all (by kernel_rfl) (by kernel_rfl) ?_;repeat (go_big_quiet_step (first|(go_at_call 46;with_reducible exact Calls.bel (K37.out _))|(go_at_call 46;with_reducible exact Calls.bel (K40.out _))|(go_at_call 46;with_reducible exact Calls.bel (K43.out _))))
       refine wpQuiet_nil ?_;intro w8 hb8;have c100:=c96.up hb8;have c101:=c97.up hb8;have c102:=c98.up hb8;have hB103:LB8 w w8:=bel_up hB99 hb8;clear dc96 dc97 dc98 c96 c97 c98;have uc100:=c100;have uc101:=c101;have uc102:=c102;simp only [At,Own,Nat.reduceAdd,and_true] at uc100 uc101 uc102;have kK104:=fun W=>rturn_any x6 y p W Zhx7.out HZY.out hp (by omega)
       generalize hT106:Pl.turn x6 y p=t105 at kK104;have K104:=Lib.hid kK104;clear kK104;have HhT106:=Lib.hid hT106;clear hT106
       by_cases hc115:(0:Int)<t105
       ·skip
        have hc115_d:decide ((0:Int)<t105)=true:=decide_eq_true hc115;have hc115_:¬ ((t105:Int)≤0):=by omega
        have hc115_e:decide ((t105:Int)≤0)=false:=decide_eq_false hc115_;go_wp2_with (fail)
        refine calls_named ?_;intro W10 hW10;have hL10:LB8 w8 W10:=by rw [hW10];exact bB
        have c116:=c100.up hL10;have c117:=c101.up hL10;have c118:=c102.up hL10;have hB119:LB8 w W10:=by rw [hW10];exact bB
        clear hW10 hL10 uc100 uc101 uc102 c100 c101 c102;with_reducible refine (K104.out _).mono ?_
        rintro e w10 ⟨rfl,hb10⟩;have c120:=c116.up hb10;have c121:=c117.up hb10;have c122:=c118.up hb10;have hB123:LB8 w w10:=bel_up hB119 hb10;clear c116 c117 c118;have uc120:=c120;have uc121:=c121;have uc122:=c122;simp only [At,Own,Nat.reduceAdd,and_true] at uc120 uc121 uc122;go_wp2;go_roundw
        case rel=>exact ⟨(k+1),o2,rIB8,rIB8,oFB8,(by exact bB),(by omega),(by have q_:=HO2.out;first|omega|exact hb),Lib.hid (by rw [HE.out,HDR.out,locO_to (b:=true) (u:=o2) HhT28.out (hit_t (by have q0:=hc49;have q1:=hc94;have q2:=hc95;have q3:=hc115;have q4:=HhT39.out;have q5:=HhT42.out;have q6:=HhT45.out;have q7:=HhT48.out;have q8:=HhT106.out;omega)) (by rw [if_pos rfl];exact HO2.out)])⟩
        case measure=>simp [intOf]<;>omega
       ·skip
        have hc115_d:decide ((0:Int)<t105)=false:=decide_eq_false hc115;have hc115_:((t105:Int)≤0):=by omega
        have hc115_e:decide ((t105:Int)≤0)=true:=decide_eq_true hc115_;go_wp2_with (fail)
        refine calls_named ?_;intro W11 hW11;have hL11:LB8 w8 W11:=by rw [hW11];exact bB
        have c124:=c100.up hL11;have c125:=c101.up hL11;have c126:=c102.up hL11;have hB127:LB8 w W11:=by rw [hW11];exact bB
        clear hW11 hL11 uc100 uc101 uc102 c100 c101 c102;with_reducible refine (K104.out _).mono ?_
        rintro e w11 ⟨rfl,hb11⟩;have c128:=c124.up hb11;have c129:=c125.up hb11;have c130:=c126.up hb11;have hB131:LB8 w w11:=bel_up hB127 hb11;clear c124 c125 c126;have uc128:=c128;have uc129:=c129;have uc130:=c130;simp only [At,Own,Nat.reduceAdd,and_true] at uc128 uc129 uc130;go_wp2;go_roundw
        case rel=>exact ⟨(k+1),o,rIB8,rIB8,oFB8,(by exact bB),(by omega),(by have q_:=HO2.out;first|omega|exact hb),Lib.hid (by rw [HE.out,HDR.out,locO_to (b:=false) (u:=o) HhT28.out (hit_f (by have q0:=hc49;have q1:=hc94;have q2:=hc95;have q3:=hc115;have q4:=HhT39.out;have q5:=HhT42.out;have q6:=HhT45.out;have q7:=HhT48.out;have q8:=HhT106.out;omega)) (by rw [if_neg (by decide)])])⟩
        case measure=>simp [intOf]<;>omega
      ·skip
       have hc95_d:decide ((o41:Int)<0)=false:=decide_eq_false hc95;have hc95_:((0:Int)≤o41):=by omega
       have hc95_e:decide ((0:Int)≤o41)=true:=decide_eq_true hc95_;go_wp2_with fail;refine wp_named ?_;intro W12 hW12;have hL12:LB8 w3 W12:=by rw [hW12];exact bB
       have c132:=c33.up hL12;have c133:=c34.up hL12;have c134:=c35.up hL12;have hB135:LB8 w W12:=by rw [hW12];exact bB
       clear hW12 hL12 c33 c34 c35;have dc132:=fun p:Bel W12=>c132.bel p;have dc133:=fun p:Bel W12=>c133.bel p;have dc134:=fun p:Bel W12=>c134.bel p
       simp only [At,Own,Nat.reduceAdd,and_true] at dc132 dc133 dc134;refine wp_region_all (by kernel_rfl) (by kernel_rfl) ?_;repeat (go_big_quiet_step (first|(go_at_call 46;with_reducible exact Calls.bel (K37.out _))|(go_at_call 46;with_reducible exact Calls.bel (K40.out _))|(go_at_call 46;with_reducible exact Calls.bel (K43.out _))))
       refine wpQuiet_nil ?_;intro w12 hb12;have c136:=c132.up hb12;have c137:=c133.up hb12;have c138:=c134.up hb12;have hB139:LB8 w w12:=bel_up hB135 hb12;clear dc132 dc133 dc134 c132 c133 c134;have uc136:=c136;have uc137:=c137;have uc138:=c138;simp only [At,Own,Nat.reduceAdd,and_true] at uc136 uc137 uc138;have kK140:=fun W=>rturn_any x6 y p W Zhx7.out HZY.out hp (by omega)
       generalize hT142:Pl.turn x6 y p=t141 at kK140;have K140:=Lib.hid kK140;clear kK140;have HhT142:=Lib.hid hT142;clear hT142;go_wp2;go_roundw
       case rel=>exact ⟨(k+1),o,rIB8,rIB8,oFB8,(by exact bB),(by omega),(by have q_:=HO2.out;first|omega|exact hb),Lib.hid (by rw [HE.out,HDR.out,locO_to (b:=false) (u:=o) HhT28.out (hit_f (by have q0:=hc49;have q1:=hc94;have q2:=hc95;have q3:=HhT39.out;have q4:=HhT42.out;have q5:=HhT45.out;have q6:=HhT48.out;have q7:=HhT142.out;omega)) (by rw [if_neg (by decide)])])⟩
       case measure=>simp [intOf]<;>omega
     ·skip
      have hc94_d:decide ((0:Int)<o44)=false:=decide_eq_false hc94;have hc94_:((o44:Int)≤0):=by omega
      have hc94_e:decide ((o44:Int)≤0)=true:=decide_eq_true hc94_
      by_cases hc143:(o41:Int)<0
      ·skip
       have hc143_d:decide ((o41:Int)<0)=true:=decide_eq_true hc143;have hc143_:¬ ((0:Int)≤o41):=by omega
       have hc143_e:decide ((0:Int)≤o41)=false:=decide_eq_false hc143_
       by_cases hc144:(o47:Int)<0
       ·skip
        have hc144_d:decide ((o47:Int)<0)=true:=decide_eq_true hc144;have hc144_:¬ ((0:Int)≤o47):=by omega
        have hc144_e:decide ((0:Int)≤o47)=false:=decide_eq_false hc144_;go_wp2_with fail;refine wp_named ?_;intro W13 hW13;have hL13:LB8 w3 W13:=by rw [hW13];exact bB
        have c145:=c33.up hL13;have c146:=c34.up hL13;have c147:=c35.up hL13;have hB148:LB8 w W13:=by rw [hW13];exact bB
        clear hW13 hL13 c33 c34 c35;have dc145:=fun p:Bel W13=>c145.bel p;have dc146:=fun p:Bel W13=>c146.bel p;have dc147:=fun p:Bel W13=>c147.bel p
        simp only [At,Own,Nat.reduceAdd,and_true] at dc145 dc146 dc147;refine wp_region_all (by kernel_rfl) (by kernel_rfl) ?_;repeat (go_big_quiet_step (first|(go_at_call 46;with_reducible exact Calls.bel (K37.out _))|(go_at_call 46;with_reducible exact Calls.bel (K40.out _))|(go_at_call 46;with_reducible exact Calls.bel (K43.out _))|(go_at_call 46;with_reducible exact Calls.bel (K46.out _))))
        refine wpQuiet_nil ?_;intro w13 hb13;have c149:=c145.up hb13;have c150:=c146.up hb13;have c151:=c147.up hb13;have hB152:LB8 w w13:=bel_up hB148 hb13;clear dc145 dc146 dc147 c145 c146 c147;have uc149:=c149;have uc150:=c150;have uc151:=c151;simp only [At,Own,Nat.reduceAdd,and_true] at uc149 uc150 uc151;have kK153:=fun W=>rturn_any x6 y p W Zhx7.out HZY.out hp (by omega)
        generalize hT155:Pl.turn x6 y p=t154 at kK153;have K153:=Lib.hid kK153;clear kK153;have HhT155:=Lib.hid hT155;clear hT155
        by_cases hc164:(0:Int)<t154
        ·skip
         have hc164_d:decide ((0:Int)<t154)=true:=decide_eq_true hc164;have hc164_:¬ ((t154:Int)≤0):=by omega
         have hc164_e:decide ((t154:Int)≤0)=false:=decide_eq_false hc164_;go_wp2_with (fail)
         refine calls_named ?_;intro W15 hW15;have hL15:LB8 w13 W15:=by rw [hW15];exact bB
         have c165:=c149.up hL15;have c166:=c150.up hL15;have c167:=c151.up hL15;have hB168:LB8 w W15:=by rw [hW15];exact bB
         clear hW15 hL15 uc149 uc150 uc151 c149 c150 c151;with_reducible refine (K153.out _).mono ?_
         rintro e w15 ⟨rfl,hb15⟩;have c169:=c165.up hb15;have c170:=c166.up hb15;have c171:=c167.up hb15;have hB172:LB8 w w15:=bel_up hB168 hb15;clear c165 c166 c167;have uc169:=c169;have uc170:=c170;have uc171:=c171;simp only [At,Own,Nat.reduceAdd,and_true] at uc169 uc170 uc171;go_wp2;go_roundw
         case rel=>exact ⟨(k+1),o2,rIB8,rIB8,oFB8,(by exact bB),(by omega),(by have q_:=HO2.out;first|omega|exact hb),Lib.hid (by rw [HE.out,HDR.out,locO_to (b:=true) (u:=o2) HhT28.out (hit_t (by have q0:=hc49;have q1:=hc94;have q2:=hc143;have q3:=hc144;have q4:=hc164;have q5:=HhT39.out;have q6:=HhT42.out;have q7:=HhT45.out;have q8:=HhT48.out;have q9:=HhT155.out;omega)) (by rw [if_pos rfl];exact HO2.out)])⟩
         case measure=>simp [intOf]<;>omega
        ·skip
         have hc164_d:decide ((0:Int)<t154)=false:=decide_eq_false hc164;have hc164_:((t154:Int)≤0):=by omega
         have hc164_e:decide ((t154:Int)≤0)=true:=decide_eq_true hc164_;go_wp2_with (fail)
         refine calls_named ?_;intro W16 hW16;have hL16:LB8 w13 W16:=by rw [hW16];exact bB
         have c173:=c149.up hL16;have c174:=c150.up hL16;have c175:=c151.up hL16;have hB176:LB8 w W16:=by rw [hW16];exact bB
         clear hW16 hL16 uc149 uc150 uc151 c149 c150 c151;with_reducible refine (K153.out _).mono ?_
         rintro e w16 ⟨rfl,hb16⟩;have c177:=c173.up hb16;have c178:=c174.up hb16;have c179:=c175.up hb16;have hB180:LB8 w w16:=bel_up hB176 hb16;clear c173 c174 c175;have uc177:=c177;have uc178:=c178;have uc179:=c179;simp only [At,Own,Nat.reduceAdd,and_true] at uc177 uc178 uc179;go_wp2_with (fail)
         refine calls_named ?_;intro W17 hW17;have hL17:LB8 w16 W17:=by rw [hW17];exact bB
         have c181:=c177.up hL17;have c182:=c178.up hL17;have c183:=c179.up hL17;have hB184:LB8 w W17:=by rw [hW17];exact bB
         clear hW17 hL17 uc177 uc178 uc179 c177 c178 c179;with_reducible refine (K153.out _).mono ?_
         rintro e w17 ⟨rfl,hb17⟩;have c185:=c181.up hb17;have c186:=c182.up hb17;have c187:=c183.up hb17;have hB188:LB8 w w17:=bel_up hB184 hb17;clear c181 c182 c183
         by_cases hc189:(t154:Int)<0
         ·skip
          have hc189_d:decide ((t154:Int)<0)=true:=decide_eq_true hc189;have hc189_:¬ ((0:Int)≤t154):=by omega
          have hc189_e:decide ((0:Int)≤t154)=false:=decide_eq_false hc189_;have uc185:=c185;have uc186:=c186;have uc187:=c187;simp only [At,Own,Nat.reduceAdd,and_true] at uc185 uc186 uc187;go_wp2;go_roundw
          case rel=>exact ⟨(k+1),o2,rIB8,rIB8,oFB8,(by exact bB),(by omega),(by have q_:=HO2.out;first|omega|exact hb),Lib.hid (by rw [HE.out,HDR.out,locO_to (b:=true) (u:=o2) HhT28.out (hit_t (by have q0:=hc49;have q1:=hc94;have q2:=hc143;have q3:=hc144;have q4:=hc164;have q5:=hc189;have q6:=HhT39.out;have q7:=HhT42.out;have q8:=HhT45.out;have q9:=HhT48.out;have q10:=HhT155.out;omega)) (by rw [if_pos rfl];exact HO2.out)])⟩
          case measure=>simp [intOf]<;>omega
         ·skip
          have hc189_d:decide ((t154:Int)<0)=false:=decide_eq_false hc189;have hc189_:((0:Int)≤t154):=by omega
          have hc189_e:decide ((0:Int)≤t154)=true:=decide_eq_true hc189_;have uc185:=c185;have uc186:=c186;have uc187:=c187;simp only [At,Own,Nat.reduceAdd,and_true] at uc185 uc186 uc187;go_wp2;go_roundw
          case rel=>exact ⟨(k+1),o,rIB8,rIB8,oFB8,(by exact bB),(by omega),(by have q_:=HO2.out;first|omega|exact hb),Lib.hid (by rw [HE.out,HDR.out,locO_to (b:=false) (u:=o) HhT28.out (hit_f (by have q0:=hc49;have q1:=hc94;have q2:=hc143;have q3:=hc144;have q4:=hc164;have q5:=hc189;have q6:=HhT39.out;have q7:=HhT42.out;have q8:=HhT45.out;have q9:=HhT48.out;have q10:=HhT155.out;omega)) (by rw [if_neg (by decide)])])⟩
          case measure=>simp [intOf]<;>omega
       ·skip
        have hc144_d:decide ((o47:Int)<0)=false:=decide_eq_false hc144;have hc144_:((0:Int)≤o47):=by omega
        have hc144_e:decide ((0:Int)≤o47)=true:=decide_eq_true hc144_;go_wp2_with fail;refine wp_named ?_;intro W18 hW18;have hL18:LB8 w3 W18:=by rw [hW18];exact bB
        have c190:=c33.up hL18;have c191:=c34.up hL18;have c192:=c35.up hL18;have hB193:LB8 w W18:=by rw [hW18];exact bB
        clear hW18 hL18 c33 c34 c35;have dc190:=fun p:Bel W18=>c190.bel p;have dc191:=fun p:Bel W18=>c191.bel p;have dc192:=fun p:Bel W18=>c192.bel p
        simp only [At,Own,Nat.reduceAdd,and_true] at dc190 dc191 dc192;refine wp_region_all (by kernel_rfl) (by kernel_rfl) ?_;repeat (go_big_quiet_step (first|(go_at_call 46;with_reducible exact Calls.bel (K37.out _))|(go_at_call 46;with_reducible exact Calls.bel (K40.out _))|(go_at_call 46;with_reducible exact Calls.bel (K43.out _))|(go_at_call 46;with_reducible exact Calls.bel (K46.out _))))
        refine wpQuiet_nil ?_;intro w18 hb18;have c194:=c190.up hb18;have c195:=c191.up hb18;have c196:=c192.up hb18;have hB197:LB8 w w18:=bel_up hB193 hb18;clear dc190 dc191 dc192 c190 c191 c192;have uc194:=c194;have uc195:=c195;have uc196:=c196;simp only [At,Own,Nat.reduceAdd,and_true] at uc194 uc195 uc196;have kK198:=fun W=>rturn_any x6 y p W Zhx7.out HZY.out hp (by omega)
        generalize hT200:Pl.turn x6 y p=t199 at kK198;have K198:=Lib.hid kK198;clear kK198;have HhT200:=Lib.hid hT200;clear hT200
        by_cases hc209:(0:Int)<t199
        ·skip
         have hc209_d:decide ((0:Int)<t199)=true:=decide_eq_true hc209;have hc209_:¬ ((t199:Int)≤0):=by omega
         have hc209_e:decide ((t199:Int)≤0)=false:=decide_eq_false hc209_;go_wp2_with (fail)
         refine calls_named ?_;intro W20 hW20;have hL20:LB8 w18 W20:=by rw [hW20];exact bB
         have c210:=c194.up hL20;have c211:=c195.up hL20;have c212:=c196.up hL20;have hB213:LB8 w W20:=by rw [hW20];exact bB
         clear hW20 hL20 uc194 uc195 uc196 c194 c195 c196;with_reducible refine (K198.out _).mono ?_
         rintro e w20 ⟨rfl,hb20⟩;have c214:=c210.up hb20;have c215:=c211.up hb20;have c216:=c212.up hb20;have hB217:LB8 w w20:=bel_up hB213 hb20;clear c210 c211 c212;have uc214:=c214;have uc215:=c215;have uc216:=c216;simp only [At,Own,Nat.reduceAdd,and_true] at uc214 uc215 uc216;go_wp2;go_roundw
         case rel=>exact ⟨(k+1),o2,rIB8,rIB8,oFB8,(by exact bB),(by omega),(by have q_:=HO2.out;first|omega|exact hb),Lib.hid (by rw [HE.out,HDR.out,locO_to (b:=true) (u:=o2) HhT28.out (hit_t (by have q0:=hc49;have q1:=hc94;have q2:=hc143;have q3:=hc144;have q4:=hc209;have q5:=HhT39.out;have q6:=HhT42.out;have q7:=HhT45.out;have q8:=HhT48.out;have q9:=HhT200.out;omega)) (by rw [if_pos rfl];exact HO2.out)])⟩
         case measure=>simp [intOf]<;>omega
        ·skip
         have hc209_d:decide ((0:Int)<t199)=false:=decide_eq_false hc209;have hc209_:((t199:Int)≤0):=by omega
         have hc209_e:decide ((t199:Int)≤0)=true:=decide_eq_true hc209_;go_wp2_with (fail)
         refine calls_named ?_;intro W21 hW21;have hL21:LB8 w18 W21:=by rw [hW21];exact bB
         have c218:=c194.up hL21;have c219:=c195.up hL21;have c220:=c196.up hL21;have hB221:LB8 w W21:=by rw [hW21];exact bB
         clear hW21 hL21 uc194 uc195 uc196 c194 c195 c196;with_reducible refine (K198.out _).mono ?_
         rintro e w21 ⟨rfl,hb21⟩;have c222:=c218.up hb21;have c223:=c219.up hb21;have c224:=c220.up hb21;have hB225:LB8 w w21:=bel_up hB221 hb21;clear c218 c219 c220;have uc222:=c222;have uc223:=c223;have uc224:=c224;simp only [At,Own,Nat.reduceAdd,and_true] at uc222 uc223 uc224;go_wp2;go_roundw
         case rel=>exact ⟨(k+1),o,rIB8,rIB8,oFB8,(by exact bB),(by omega),(by have q_:=HO2.out;first|omega|exact hb),Lib.hid (by rw [HE.out,HDR.out,locO_to (b:=false) (u:=o) HhT28.out (hit_f (by have q0:=hc49;have q1:=hc94;have q2:=hc143;have q3:=hc144;have q4:=hc209;have q5:=HhT39.out;have q6:=HhT42.out;have q7:=HhT45.out;have q8:=HhT48.out;have q9:=HhT200.out;omega)) (by rw [if_neg (by decide)])])⟩
         case measure=>simp [intOf]<;>omega
      ·skip
       have hc143_d:decide ((o41:Int)<0)=false:=decide_eq_false hc143;have hc143_:((0:Int)≤o41):=by omega
       have hc143_e:decide ((0:Int)≤o41)=true:=decide_eq_true hc143_
       by_cases hc226:(o47:Int)<0
       ·skip
        have hc226_d:decide ((o47:Int)<0)=true:=decide_eq_true hc226;have hc226_:¬ ((0:Int)≤o47):=by omega
        have hc226_e:decide ((0:Int)≤o47)=false:=decide_eq_false hc226_;go_wp2_with fail;refine wp_named ?_;intro W22 hW22;have hL22:LB8 w3 W22:=by rw [hW22];exact bB
        have c227:=c33.up hL22;have c228:=c34.up hL22;have c229:=c35.up hL22;have hB230:LB8 w W22:=by rw [hW22];exact bB
        clear hW22 hL22 c33 c34 c35;have dc227:=fun p:Bel W22=>c227.bel p;have dc228:=fun p:Bel W22=>c228.bel p;have dc229:=fun p:Bel W22=>c229.bel p
        simp only [At,Own,Nat.reduceAdd,and_true] at dc227 dc228 dc229;refine wp_region_all (by kernel_rfl) (by kernel_rfl) ?_;repeat (go_big_quiet_step (first|(go_at_call 46;with_reducible exact Calls.bel (K37.out _))|(go_at_call 46;with_reducible exact Calls.bel (K40.out _))|(go_at_call 46;with_reducible exact Calls.bel (K43.out _))|(go_at_call 46;with_reducible exact Calls.bel (K46.out _))))
        refine wpQuiet_nil ?_;intro w22 hb22;have c231:=c227.up hb22;have c232:=c228.up hb22;have c233:=c229.up hb22;have hB234:LB8 w w22:=bel_up hB230 hb22;clear dc227 dc228 dc229 c227 c228 c229;have uc231:=c231;have uc232:=c232;have uc233:=c233;simp only [At,Own,Nat.reduceAdd,and_true] at uc231 uc232 uc233;have kK235:=fun W=>rturn_any x6 y p W Zhx7.out HZY.out hp (by omega)
        generalize hT237:Pl.turn x6 y p=t236 at kK235;have K235:=Lib.hid kK235;clear kK235;have HhT237:=Lib.hid hT237;clear hT237;go_wp2_with (fail)
        refine calls_named ?_;intro W23 hW23;have hL23:LB8 w22 W23:=by rw [hW23];exact bB
        have c238:=c231.up hL23;have c239:=c232.up hL23;have c240:=c233.up hL23;have hB241:LB8 w W23:=by rw [hW23];exact bB
        clear hW23 hL23 uc231 uc232 uc233 c231 c232 c233;with_reducible refine (K235.out _).mono ?_
        rintro e w23 ⟨rfl,hb23⟩;have c242:=c238.up hb23;have c243:=c239.up hb23;have c244:=c240.up hb23;have hB245:LB8 w w23:=bel_up hB241 hb23;clear c238 c239 c240
        by_cases hc246:(t236:Int)<0
        ·skip
         have hc246_d:decide ((t236:Int)<0)=true:=decide_eq_true hc246;have hc246_:¬ ((0:Int)≤t236):=by omega
         have hc246_e:decide ((0:Int)≤t236)=false:=decide_eq_false hc246_;have uc242:=c242;have uc243:=c243;have uc244:=c244;simp only [At,Own,Nat.reduceAdd,and_true] at uc242 uc243 uc244;go_wp2;go_roundw
         case rel=>exact ⟨(k+1),o2,rIB8,rIB8,oFB8,(by exact bB),(by omega),(by have q_:=HO2.out;first|omega|exact hb),Lib.hid (by rw [HE.out,HDR.out,locO_to (b:=true) (u:=o2) HhT28.out (hit_t (by have q0:=hc49;have q1:=hc94;have q2:=hc143;have q3:=hc226;have q4:=hc246;have q5:=HhT39.out;have q6:=HhT42.out;have q7:=HhT45.out;have q8:=HhT48.out;have q9:=HhT237.out;omega)) (by rw [if_pos rfl];exact HO2.out)])⟩
         case measure=>simp [intOf]<;>omega
        ·skip
         have hc246_d:decide ((t236:Int)<0)=false:=decide_eq_false hc246;have hc246_:((0:Int)≤t236):=by omega
         have hc246_e:decide ((0:Int)≤t236)=true:=decide_eq_true hc246_;have uc242:=c242;have uc243:=c243;have uc244:=c244;simp only [At,Own,Nat.reduceAdd,and_true] at uc242 uc243 uc244;go_wp2;go_roundw
         case rel=>exact ⟨(k+1),o,rIB8,rIB8,oFB8,(by exact bB),(by omega),(by have q_:=HO2.out;first|omega|exact hb),Lib.hid (by rw [HE.out,HDR.out,locO_to (b:=false) (u:=o) HhT28.out (hit_f (by have q0:=hc49;have q1:=hc94;have q2:=hc143;have q3:=hc226;have q4:=hc246;have q5:=HhT39.out;have q6:=HhT42.out;have q7:=HhT45.out;have q8:=HhT48.out;have q9:=HhT237.out;omega)) (by rw [if_neg (by decide)])])⟩
         case measure=>simp [intOf]<;>omega
       ·skip
        have hc226_d:decide ((o47:Int)<0)=false:=decide_eq_false hc226;have hc226_:((0:Int)≤o47):=by omega
        have hc226_e:decide ((0:Int)≤o47)=true:=decide_eq_true hc226_;go_wp2_with fail;refine wp_named ?_;intro W24 hW24;have hL24:LB8 w3 W24:=by rw [hW24];exact bB
        have c247:=c33.up hL24;have c248:=c34.up hL24;have c249:=c35.up hL24;have hB250:LB8 w W24:=by rw [hW24];exact bB
        clear hW24 hL24 c33 c34 c35;have dc247:=fun p:Bel W24=>c247.bel p;have dc248:=fun p:Bel W24=>c248.bel p;have dc249:=fun p:Bel W24=>c249.bel p
        simp only [At,Own,Nat.reduceAdd,and_true] at dc247 dc248 dc249;refine wp_region_all (by kernel_rfl) (by kernel_rfl) ?_;repeat (go_big_quiet_step (first|(go_at_call 46;with_reducible exact Calls.bel (K37.out _))|(go_at_call 46;with_reducible exact Calls.bel (K40.out _))|(go_at_call 46;with_reducible exact Calls.bel (K43.out _))|(go_at_call 46;with_reducible exact Calls.bel (K46.out _))))
        refine wpQuiet_nil ?_;intro w24 hb24;have c251:=c247.up hb24;have c252:=c248.up hb24;have c253:=c249.up hb24;have hB254:LB8 w w24:=bel_up hB250 hb24;clear dc247 dc248 dc249 c247 c248 c249;have uc251:=c251;have uc252:=c252;have uc253:=c253;simp only [At,Own,Nat.reduceAdd,and_true] at uc251 uc252 uc253;have kK255:=fun W=>rturn_any x6 y p W Zhx7.out HZY.out hp (by omega)
        generalize hT257:Pl.turn x6 y p=t256 at kK255;have K255:=Lib.hid kK255;clear kK255;have HhT257:=Lib.hid hT257;clear hT257;go_wp2;go_roundw
        case rel=>exact ⟨(k+1),o,rIB8,rIB8,oFB8,(by exact bB),(by omega),(by have q_:=HO2.out;first|omega|exact hb),Lib.hid (by rw [HE.out,HDR.out,locO_to (b:=false) (u:=o) HhT28.out (hit_f (by have q0:=hc49;have q1:=hc94;have q2:=hc143;have q3:=hc226;have q4:=HhT39.out;have q5:=HhT42.out;have q6:=HhT45.out;have q7:=HhT48.out;have q8:=HhT257.out;omega)) (by rw [if_neg (by decide)])])⟩
        case measure=>simp [intOf]<;>omega
   ·skip
    have uc33:=c33;have uc34:=c34;have uc35:=c35;simp only [At,Own,Nat.reduceAdd,and_true] at uc33 uc34 uc35;go_wp2;go_ret;refine ⟨(by rw [HE.out,HDR.out,locO_on HhT28.out]<;>rfl),?_⟩;exact bB
  ·skip
   have hkN:N=k:=by omega
   subst hkN;have ub3:=b3;simp only [At,Own,Nat.reduceAdd,and_true] at ub3;go_wp2;go_ret;refine ⟨(by rw [locO_fin HN.out HE.out]<;>rfl),?_⟩;exact bB

def locRH (p:Rat×Rat):List (List (Rat×Rat))→Int→Int
 | [],a=>a
 | h :: t,a=>if Pg.locO p (Pg.ringE h) (-1)=1 then -1 else if Pg.locO p (Pg.ringE h) (-1)=0 then 0 else locRH p t a
def locRP (O:List (Rat×Rat)) (Hs:List (List (Rat×Rat))) (p:Rat×Rat):Int:=locRH p Hs (Pg.locO p (Pg.ringE O) (-1))
theorem locRP_pg (O:List (Rat×Rat)) (h:Option (List (Rat×Rat))) (p:Rat×Rat):locRP O h.toList p=Pg.locRG O h p:=by cases h<;>rfl
theorem locP_pg (O:List (Rat×Rat)) (h:Option (List (Rat×Rat))) (p:Rat×Rat):locP O h.toList p=Pg.locPG O h p:=by
 unfold locP Pg.locPG
 cases h with
 | none =>
  by_cases h1:Pg.locW p (Pg.ringE O) 0=1
  ·simp [h1,locH]
  ·simp [h1]
 | some l =>
  simp only [Option.toList,locH]
  by_cases h1:Pg.locW p (Pg.ringE O) 0=1
  ·by_cases h2:Pg.locW p (Pg.ringE l) 0=-1<;>simp [h1,h2]
  ·simp [h1]
theorem locRH_in {p:Rat×Rat} {h:List (Rat×Rat)} {t:List (List (Rat×Rat))} {a z:Int} (e:Pg.locO p (Pg.ringE h) (-1)=z) (hz:z=1):locRH p (h :: t) a=-1:=by rw [locRH,e,if_pos hz]
theorem locRH_on {p:Rat×Rat} {h:List (Rat×Rat)} {t:List (List (Rat×Rat))} {a z:Int} (e:Pg.locO p (Pg.ringE h) (-1)=z) (hz:z=0):locRH p (h :: t) a=0:=by rw [locRH,e,hz];rfl
theorem locRH_no {p:Rat×Rat} {h:List (Rat×Rat)} {t:List (List (Rat×Rat))} {a z:Int} (e:Pg.locO p (Pg.ringE h) (-1)=z) (hz:z=-1):locRH p (h :: t) a=locRH p t a:=by rw [locRH,e,hz];rfl

set_option maxHeartbeats 2000000 in
theorem rlocate_any {S:Nat} (v:Value) (O:List (Rat×Rat)) (Hs:List (List (Rat×Rat))) (p:Rat×Rat) (w:World) (h:PoV w v O Hs) (hO:∀ q∈O,Pl.SzP S q) (hH:∀ r∈Hs,∀ q∈r,Pl.SzP S q) (hn:O.length≤100) (hnH:∀ r∈Hs,r.length≤100) (hm:Hs.length≤20) (hS:S≤1000) (hp:Pl.SzP S p) :
 Calls Tryz.prog 30 #[v,pv p] w fun e w'=>e=.returned (.int .i64 (locRP O Hs p))∧Below w.heap.size w w':=by
 obtain ⟨vo,vh,rfl,hvo,Lh,hvh,hrg⟩:=h;obtain ⟨Ah,ch,rfl,hch,hmh,hxh⟩:=hvh.open_;have HVO:=Lib.hid hvo;have HXH:=Lib.hid hxh;have HRG:=Lib.hid hrg;have HVH:=Lib.hid hvh;have hlh:Lh.length=Hs.length:=hrg.1;generalize hNh:Lh.length=Nh at *;have HNh:=Lib.hid hNh;have HLH:=Lib.hid hlh;have hbn:Nh≤20:=by omega
 clear hlh hvo hxh hrg hvh hNh;obtain ⟨a,ha⟩:∃ z,Pg.locO p (Pg.ringE O) (-1)=z:=⟨_,rfl⟩
 have HA:=Lib.hid ha;have HLP:Hid (locRP O Hs p=locRH p (Hs.drop 0) a):=Lib.hid (by unfold locRP;rw [ha];rfl);clear ha;go_enter Tryz.func30,Tryz.ntmps30;have K1:=Lib.hid (fun W (hW:PV W vo O)=>HA.out▸rloc_any _ O p W hW hO (Nat.le_trans hn (by decide)) hS hp);go_wp2_with (fail)
 refine calls_named ?_;intro W1 hW1;have hL1:LB8 w W1:=by rw [hW1];exact bB
 have c2:Own W1 w.heap.size 0 [vo,.slice Ah Nh ch]:=by
  rw [hW1]
  first
  | (repeat (first|(with_reducible refine own_new ?_;(simp;done))|with_reducible refine Own.alloc ?_ _|refine Own.far _ _ (by first|(simp;done)|(simp [*];done)|(simp;omega)) ?_));done
  | simp [Own,go_sem]
 have c3:Own W1 (w.heap.size+1) 0 [.bool (ng p.1.num),.string (mg p.1.num.natAbs),.bool false,.string (mg (dn p.1)),.bool (ng p.2.num),.string (mg p.2.num.natAbs),.bool false,.string (mg (dn p.2))]:=by
  rw [hW1]
  first
  | (repeat (first|(with_reducible refine own_new ?_;(simp;done))|with_reducible refine Own.alloc ?_ _|refine Own.far _ _ (by first|(simp;done)|(simp [*];done)|(simp;omega)) ?_));done
  | simp [Own,go_sem]
 have hB4:LB8 w W1:=by rw [hW1];exact bB
 clear hW1 hL1;with_reducible refine (K1.out _ (HVO.out.up hB4)).mono ?_
 rintro e w1 ⟨rfl,hb1⟩;have c5:=c2.up hb1;have c6:=c3.up hb1;have hB7:LB8 w w1:=bel_up hB4 hb1;clear c2 c3;go_wp2_with fail;go_loopw [6] (fun s6 wr=>∃ (k:Nat),s6=.int .i64 k∧Own wr w.heap.size 0 [vo,.slice Ah Nh ch]∧Own wr (w.heap.size+1) 0 [.bool (ng p.1.num),.string (mg p.1.num.natAbs),.bool false,.string (mg (dn p.1)),.bool (ng p.2.num),.string (mg p.2.num.natAbs),.bool false,.string (mg (dn p.2))]∧Below w.heap.size w wr∧k≤Nh∧Hid (locRP O Hs p=locRH p (Hs.drop k) a)) (fun s6 _=>Nh-(intOf s6).toNat)
 case atStart=>exact ⟨0,rfl,c5,c6,hB7,(by omega),HLP⟩
 case round =>
  clear c5 c6 hB7;obtain ⟨k,rfl,b8,b9,hB10,hk,HE⟩:=hrel;obtain ⟨wr11,hwr11⟩:∃ W_,W_=wr:=⟨_,rfl⟩
  subst hwr11
  by_cases hltk:k<Nh
  ·skip
   have i1k:(k:Int)<Nh:=by omega
   obtain ⟨xr12,rg12,hx12,hr12,hp12⟩:=HRG.out.get (i:=k) (by rw [HNh.out];omega);have HX12:=Lib.hid hx12;have HR12:=Lib.hid hr12;have HP12:=Lib.hid hp12;clear hx12 hr12 hp12;have HRr:=HR12.out;have HDR:Hid (Hs.drop k=rg12 :: Hs.drop (k+1)):=Lib.hid (Pl.drop_of HR12.out);have ub8:=b8;have ub9:=b9;simp only [At,Own,Nat.reduceAdd,and_true] at ub8 ub9;have kK13:=fun W (hW:PV W xr12 rg12)=>rloc_any _ rg12 p W hW (hH _ (List.mem_of_getElem? HRr)) (Nat.le_trans (hnH _ (List.mem_of_getElem? HRr)) (by decide)) hS hp
   generalize hT15:Pg.locO p (Pg.ringE rg12) (-1)=z14 at kK13;have K13:=Lib.hid kK13;clear kK13;have T16:=Lib.hid (locO_three _ _ hT15);have HhT15:=Lib.hid hT15;clear hT15;go_wp2_with fail;refine wp_named ?_;intro W2 hW2;have hL2:LB8 wr11 W2:=by rw [hW2];exact bB
   have c17:=b8.up hL2;have c18:=b9.up hL2;have hB19:LB8 w W2:=by rw [hW2];exact bB
   clear hW2 hL2 ub8 ub9 b8 b9;have dc17:=fun p:Bel W2=>c17.bel p;have dc18:=fun p:Bel W2=>c18.bel p
   simp only [At,Own,Nat.reduceAdd,and_true] at dc17 dc18;obtain ⟨g21,o22,ha23,-⟩:=(HXH.out).up kpV hB19 _ _ HX12.out;subst ha23;have ce20:=LX.at_ ((HXH.out).up kpV hB19) HX12.out;have ce20_:g21<W2.heap.size:=World.block_lt_of_cell? _ _ ce20.1;have dce20:=fun b:Bel W2=>ce20.bel b
   simp only [CVL,vlc,At,Nat.mul_one,Nat.reduceMul] at dce20;refine wp_region_all (by kernel_rfl) (by kernel_rfl) ?_;repeat (go_big_quiet_step (first|(go_at_call 32;with_reducible exact Calls.bel (K13.out _ ((HP12.out.up hB19).up (Bel.h _))))))
   refine wpQuiet_nil ?_;intro w2 hb2;have c24:=c17.up hb2;have c25:=c18.up hb2;have hB26:LB8 w w2:=bel_up hB19 hb2;clear dc17 dc18 dce20 c17 c18;have uc24:=c24;have uc25:=c25;simp only [At,Own,Nat.reduceAdd,and_true] at uc24 uc25;rcases T16.out with rfl|rfl|rfl
   ·skip
    go_wp2;go_roundw
    case rel=>exact ⟨(k+1),rIB8,oFB8,oFB8,(by exact bB),(by omega),Lib.hid (by rw [HE.out,HDR.out,locRH_no HhT15.out rfl])⟩
    case measure=>simp [intOf]<;>omega
   ·skip
    go_wp2;go_ret;refine ⟨(by rw [HE.out,HDR.out,locRH_on HhT15.out rfl]<;>rfl),?_⟩;exact bB
   ·skip
    go_wp2;go_ret;refine ⟨(by rw [HE.out,HDR.out,locRH_in HhT15.out rfl]<;>rfl),?_⟩;exact bB
  ·skip
   have hkN:Nh=k:=by omega
   subst hkN;have ub8:=b8;have ub9:=b9;simp only [At,Own,Nat.reduceAdd,and_true] at ub8 ub9;go_wp2;go_ret;refine ⟨(by rw [HE.out,List.drop_eq_nil_of_le (by rw [← HLH.out];exact Nat.le_refl _)]<;>rfl),?_⟩;exact bB
end Go.Proofs.YtiochgoocbkckaaGreatDoor
