/-
 The reference for polygons: turns, order, points on segments.
-/
import Derived.Test.YtiochgoocbkckaaGreatDoorAgao
import Derived.Test.YtiochgoocbkckaaGreatDoorAgax
import Derived.Test.YtiochgoocbkckaaGreatDoorAgav
set_option maxRecDepth 100000
set_option linter.unusedSimpArgs false
set_option linter.unusedVariables false
namespace Go.Proofs.YtiochgoocbkckaaGreatDoor
open Go Go.RowKit

theorem turn_cmp (a b c:Rat×Rat):Pl.cmpQ ((b.1-a.1)*(c.2-a.2)) ((b.2-a.2)*(c.1-a.1))=Pl.turn a b c:=rfl
theorem onR_t {p a b:Rat×Rat} (h:Pl.turn a b p=0∧((Pl.cmpP a p≤0∧Pl.cmpP p b≤0)∨(Pl.cmpP b p≤0∧Pl.cmpP p a≤0))):Pg.onR p a b=true:=by
 unfold Pg.onR;simp only [Bool.and_eq_true,Bool.or_eq_true,decide_eq_true_eq];exact h
theorem onR_f {p a b:Rat×Rat} (h:¬ (Pl.turn a b p=0∧((Pl.cmpP a p≤0∧Pl.cmpP p b≤0)∨(Pl.cmpP b p≤0∧Pl.cmpP p a≤0)))):Pg.onR p a b=false:=by
 rw [← Bool.not_eq_true];unfold Pg.onR;simp only [Bool.and_eq_true,Bool.or_eq_true,decide_eq_true_eq];exact h
theorem cmpP_one {a b:Rat×Rat} {x:Int} (h:Pl.cmpQ a.1 b.1=x) (hx:¬ x=0):Pl.cmpP a b=x:=by unfold Pl.cmpP;rw [h,if_neg (by first|exact hx|(simpa using hx))]
theorem cmpP_two {a b:Rat×Rat} {x:Int} (h:Pl.cmpQ a.1 b.1=x) (hx:x=0):Pl.cmpP a b=Pl.cmpQ a.2 b.2:=by unfold Pl.cmpP;rw [h,if_pos (by first|exact hx|(simpa using hx))]

theorem rturn_any {S:Nat} (a b c:Rat×Rat) (w:World) (ha:Pl.SzP S a) (hb:Pl.SzP S b) (hc:Pl.SzP S c) (hS:S≤2000) :
 Calls Tryz.prog 79 #[pv a,pv b,pv c] w fun e w'=>e=.returned (.int .i64 (Pl.turn a b c))∧Below w.heap.size w w':=by
 go_enter Tryz.func79,Tryz.ntmps79;have K1:=Lib.hid (fun W=>rsub_any b.1 a.1 W (hb.1.mono (by omega)) (ha.1.mono (by omega)));have K2:=Lib.hid (fun W=>rsub_any c.2 a.2 W (hc.2.mono (by omega)) (ha.2.mono (by omega)));have K3:=Lib.hid (fun W=>rmul_any (b.1-a.1) (c.2-a.2) W ((hb.1.sub ha.1).mono (by omega)) ((hc.2.sub ha.2).mono (by omega)));have K4:=Lib.hid (fun W=>rsub_any b.2 a.2 W (hb.2.mono (by omega)) (ha.2.mono (by omega)));have K5:=Lib.hid (fun W=>rsub_any c.1 a.1 W (hc.1.mono (by omega)) (ha.1.mono (by omega)));have K6:=Lib.hid (fun W=>rmul_any (b.2-a.2) (c.1-a.1) W ((hb.2.sub ha.2).mono (by omega)) ((hc.1.sub ha.1).mono (by omega)));have kK7:=fun W=>rcompare_any ((b.1-a.1)*(c.2-a.2)) ((b.2-a.2)*(c.1-a.1)) W (((hb.1.sub ha.1).mul (hc.2.sub ha.2)).mono (by omega)) (((hb.2.sub ha.2).mul (hc.1.sub ha.1)).mono (by omega))
 generalize hT9:Pl.cmpQ ((b.1-a.1)*(c.2-a.2)) ((b.2-a.2)*(c.1-a.1))=t8 at kK7;have K7:=Lib.hid kK7;clear kK7;have T10:=Lib.hid (sgnQ hT9);have HhT9:=Lib.hid hT9;clear hT9;go_wp2_with fail;refine wp_named ?_;intro W1 hW1;have hL1:Below w.heap.size w W1:=by rw [hW1];exact bB
 have c11:Own W1 w.heap.size 0 [.bool (ng a.1.num),.string (mg a.1.num.natAbs),.bool false,.string (mg (dn a.1)),.bool (ng a.2.num),.string (mg a.2.num.natAbs),.bool false,.string (mg (dn a.2))]:=by
  rw [hW1]
  first
  | (repeat (first|(with_reducible refine own_new (l:=[.bool (ng a.1.num),.string (mg a.1.num.natAbs),.bool false,.string (mg (dn a.1)),.bool (ng a.2.num),.string (mg a.2.num.natAbs),.bool false,.string (mg (dn a.2))]) ?_;(simp;done))|with_reducible refine Own.alloc ?_ _|refine Own.far _ _ (by first|(simp;done)|(simp [*];done)|(simp;omega)) ?_));done
  | simp [Own,go_sem]
 have c12:Own W1 (w.heap.size+1) 0 [.bool (ng b.1.num),.string (mg b.1.num.natAbs),.bool false,.string (mg (dn b.1)),.bool (ng b.2.num),.string (mg b.2.num.natAbs),.bool false,.string (mg (dn b.2))]:=by
  rw [hW1]
  first
  | (repeat (first|(with_reducible refine own_new (l:=[.bool (ng b.1.num),.string (mg b.1.num.natAbs),.bool false,.string (mg (dn b.1)),.bool (ng b.2.num),.string (mg b.2.num.natAbs),.bool false,.string (mg (dn b.2))]) ?_;(simp;done))|with_reducible refine Own.alloc ?_ _|refine Own.far _ _ (by first|(simp;done)|(simp [*];done)|(simp;omega)) ?_));done
  | simp [Own,go_sem]
 have c13:Own W1 (w.heap.size+2) 0 [.bool (ng c.1.num),.string (mg c.1.num.natAbs),.bool false,.string (mg (dn c.1)),.bool (ng c.2.num),.string (mg c.2.num.natAbs),.bool false,.string (mg (dn c.2))]:=by
  rw [hW1]
  first
  | (repeat (first|(with_reducible refine own_new (l:=[.bool (ng c.1.num),.string (mg c.1.num.natAbs),.bool false,.string (mg (dn c.1)),.bool (ng c.2.num),.string (mg c.2.num.natAbs),.bool false,.string (mg (dn c.2))]) ?_;(simp;done))|with_reducible refine Own.alloc ?_ _|refine Own.far _ _ (by first|(simp;done)|(simp [*];done)|(simp;omega)) ?_));done
  | simp [Own,go_sem]
 have hB14:Below w.heap.size w W1:=by rw [hW1];exact bB
 clear hW1 hL1;have dc11:=fun p:Bel W1=>c11.bel p;have dc12:=fun p:Bel W1=>c12.bel p;have dc13:=fun p:Bel W1=>c13.bel p
 simp only [At,Own,Nat.reduceAdd,and_true] at dc11 dc12 dc13;refine wp_region_tail 23 (by kernel_rfl) (by kernel_rfl) ?_;simp only [List.take_succ_cons,List.take_zero,List.drop_succ_cons,List.drop_zero];repeat (go_big_quiet_step (first|(go_at_call 66;with_reducible exact Calls.bel (K1.out _))|(go_at_call 66;with_reducible exact Calls.bel (K2.out _))|(go_at_call 41;with_reducible exact Calls.bel (K3.out _))|(go_at_call 66;with_reducible exact Calls.bel (K4.out _))|(go_at_call 66;with_reducible exact Calls.bel (K5.out _))|(go_at_call 41;with_reducible exact Calls.bel (K6.out _))|(go_at_call 46;with_reducible exact Calls.bel (K7.out _))))
 refine wpQuiet_nil ?_;intro w1 hb1;have c15:=c11.up hb1;have c16:=c12.up hb1;have c17:=c13.up hb1;have hB18:Below w.heap.size w w1:=bel_up hB14 hb1;clear dc11 dc12 dc13 c11 c12 c13;have uc15:=c15;have uc16:=c16;have uc17:=c17;simp only [At,Own,Nat.reduceAdd,and_true] at uc15 uc16 uc17;go_wp2;go_ret;refine ⟨(by rw [← turn_cmp,HhT9.out]<;>rfl),?_⟩;exact bB

theorem rorder_any {S:Nat} (a b:Rat×Rat) (w:World) (ha:Pl.SzP S a) (hb:Pl.SzP S b) (hS:S≤100000) :
 Calls Tryz.prog 91 #[pv a,pv b] w fun e w'=>e=.returned (.int .i64 (Pl.cmpP a b))∧Below w.heap.size w w':=by
 go_enter Tryz.func91,Tryz.ntmps91;have kK1:=fun W=>rcompare_any a.1 b.1 W (ha.1.mono (by omega)) (hb.1.mono (by omega))
 generalize hT3:Pl.cmpQ a.1 b.1=o2 at kK1;have K1:=Lib.hid kK1;clear kK1;have HhT3:=Lib.hid hT3;clear hT3;go_wp2_with (fail)
 refine calls_named ?_;intro W1 hW1;have hL1:Below w.heap.size w W1:=by rw [hW1];exact bB
 have c4:Own W1 w.heap.size 0 [.bool (ng a.1.num),.string (mg a.1.num.natAbs),.bool false,.string (mg (dn a.1)),.bool (ng a.2.num),.string (mg a.2.num.natAbs),.bool false,.string (mg (dn a.2))]:=by
  rw [hW1]
  first
  | (repeat (first|(with_reducible refine own_new (l:=[.bool (ng a.1.num),.string (mg a.1.num.natAbs),.bool false,.string (mg (dn a.1)),.bool (ng a.2.num),.string (mg a.2.num.natAbs),.bool false,.string (mg (dn a.2))]) ?_;(simp;done))|with_reducible refine Own.alloc ?_ _|refine Own.far _ _ (by first|(simp;done)|(simp [*];done)|(simp;omega)) ?_));done
  | simp [Own,go_sem]
 have c5:Own W1 (w.heap.size+1) 0 [.bool (ng b.1.num),.string (mg b.1.num.natAbs),.bool false,.string (mg (dn b.1)),.bool (ng b.2.num),.string (mg b.2.num.natAbs),.bool false,.string (mg (dn b.2))]:=by
  rw [hW1]
  first
  | (repeat (first|(with_reducible refine own_new (l:=[.bool (ng b.1.num),.string (mg b.1.num.natAbs),.bool false,.string (mg (dn b.1)),.bool (ng b.2.num),.string (mg b.2.num.natAbs),.bool false,.string (mg (dn b.2))]) ?_;(simp;done))|with_reducible refine Own.alloc ?_ _|refine Own.far _ _ (by first|(simp;done)|(simp [*];done)|(simp;omega)) ?_));done
  | simp [Own,go_sem]
 have hB6:Below w.heap.size w W1:=by rw [hW1];exact bB
 clear hW1 hL1;with_reducible refine (K1.out _).mono ?_
 rintro e w1 ⟨rfl,hb1⟩;have c7:=c4.up hb1;have c8:=c5.up hb1;have hB9:Below w.heap.size w w1:=bel_up hB6 hb1;clear c4 c5
 by_cases hc10:(o2:Int)=0
 ·skip
  have hc10_:(((o2:Int))==0)=true:=by simpa using hc10
  have Hhc10:=Lib.hid hc10;clear hc10;have uc7:=c7;have uc8:=c8;simp only [At,Own,Nat.reduceAdd,and_true] at uc7 uc8;have kK11:=fun W=>rcompare_any a.2 b.2 W (ha.2.mono (by omega)) (hb.2.mono (by omega))
  generalize hT13:Pl.cmpQ a.2 b.2=o12 at kK11;have K11:=Lib.hid kK11;clear kK11;have HhT13:=Lib.hid hT13;clear hT13;go_wp2_with (fail)
  refine calls_named ?_;intro W2 hW2;have hL2:Below w1.heap.size w1 W2:=by rw [hW2];exact bB
  have c14:=c7.up hL2;have c15:=c8.up hL2;have hB16:Below w.heap.size w W2:=by rw [hW2];exact bB
  clear hW2 hL2 uc7 uc8 c7 c8;with_reducible refine (K11.out _).mono ?_
  rintro e w2 ⟨rfl,hb2⟩;have c17:=c14.up hb2;have c18:=c15.up hb2;have hB19:Below w.heap.size w w2:=bel_up hB16 hb2;clear c14 c15;have uc17:=c17;have uc18:=c18;simp only [At,Own,Nat.reduceAdd,and_true] at uc17 uc18;go_wp2;go_ret;refine ⟨(by rw [cmpP_two HhT3.out Hhc10.out,HhT13.out]<;>rfl),?_⟩;exact bB
 ·skip
  have hc10_:(((o2:Int))==0)=false:=by simpa using hc10
  have uc7:=c7;have uc8:=c8;simp only [At,Own,Nat.reduceAdd,and_true] at uc7 uc8;go_wp2;go_ret;refine ⟨(by rw [cmpP_one HhT3.out hc10]<;>rfl),?_⟩;exact bB

set_option maxHeartbeats 2000000 in
theorem ron_any {S:Nat} (p a b:Rat×Rat) (w:World) (hp:Pl.SzP S p) (ha:Pl.SzP S a) (hb:Pl.SzP S b) (hS:S≤2000) :
 Calls Tryz.prog 78 #[pv p,pv a,pv b] w fun e w'=>e=.returned (.bool (Pg.onR p a b))∧Below w.heap.size w w':=by
 go_enter Tryz.func78,Tryz.ntmps78;have kK1:=fun W=>rturn_any a b p W ha hb hp hS
 generalize hT3:Pl.turn a b p=t2 at kK1;have K1:=Lib.hid kK1;clear kK1;have HhT3:=Lib.hid hT3;clear hT3;have kK4:=fun W=>rorder_any a p W ha hp (by omega)
 generalize hT6:Pl.cmpP a p=o5 at kK4;have K4:=Lib.hid kK4;clear kK4;have HhT6:=Lib.hid hT6;clear hT6;have kK7:=fun W=>rorder_any p b W hp hb (by omega)
 generalize hT9:Pl.cmpP p b=o8 at kK7;have K7:=Lib.hid kK7;clear kK7;have HhT9:=Lib.hid hT9;clear hT9;have kK10:=fun W=>rorder_any b p W hb hp (by omega)
 generalize hT12:Pl.cmpP b p=o11 at kK10;have K10:=Lib.hid kK10;clear kK10;have HhT12:=Lib.hid hT12;clear hT12;have kK13:=fun W=>rorder_any p a W hp ha (by omega)
 generalize hT15:Pl.cmpP p a=o14 at kK13;have K13:=Lib.hid kK13;clear kK13;have HhT15:=Lib.hid hT15;clear hT15
 by_cases hc24:(t2:Int)=0
 ·skip
  have hc24_:(((t2:Int))==0)=true:=by simpa using hc24
  have Hhc24:=Lib.hid hc24;clear hc24
  by_cases hc41:(0:Int)<o5
  ·skip
   have hc41_d:decide ((0:Int)<o5)=true:=decide_eq_true hc41;have hc41_:¬ ((o5:Int)≤0):=by omega
   have hc41_e:decide ((o5:Int)≤0)=false:=decide_eq_false hc41_
   by_cases hc66:(0:Int)<o11
   ·skip
    have hc66_d:decide ((0:Int)<o11)=true:=decide_eq_true hc66;have hc66_:¬ ((o11:Int)≤0):=by omega
    have hc66_e:decide ((o11:Int)≤0)=false:=decide_eq_false hc66_;go_wp2_with (fail)
    refine calls_named ?_;intro W7 hW7;have hL7:Below w.heap.size w W7:=by rw [hW7];exact bB
    have c67:Own W7 w.heap.size 0 [.bool (ng p.1.num),.string (mg p.1.num.natAbs),.bool false,.string (mg (dn p.1)),.bool (ng p.2.num),.string (mg p.2.num.natAbs),.bool false,.string (mg (dn p.2))]:=by
     rw [hW7]
     first
     | (repeat (first|(with_reducible refine own_new (l:=[.bool (ng p.1.num),.string (mg p.1.num.natAbs),.bool false,.string (mg (dn p.1)),.bool (ng p.2.num),.string (mg p.2.num.natAbs),.bool false,.string (mg (dn p.2))]) ?_;(simp;done))|with_reducible refine Own.alloc ?_ _|refine Own.far _ _ (by first|(simp;done)|(simp [*];done)|(simp;omega)) ?_));done
     | simp [Own,go_sem]
    have c68:Own W7 (w.heap.size+1) 0 [.bool (ng a.1.num),.string (mg a.1.num.natAbs),.bool false,.string (mg (dn a.1)),.bool (ng a.2.num),.string (mg a.2.num.natAbs),.bool false,.string (mg (dn a.2))]:=by
     rw [hW7]
     first
     | (repeat (first|(with_reducible refine own_new (l:=[.bool (ng a.1.num),.string (mg a.1.num.natAbs),.bool false,.string (mg (dn a.1)),.bool (ng a.2.num),.string (mg a.2.num.natAbs),.bool false,.string (mg (dn a.2))]) ?_;(simp;done))|with_reducible refine Own.alloc ?_ _|refine Own.far _ _ (by first|(simp;done)|(simp [*];done)|(simp;omega)) ?_));done
     | simp [Own,go_sem]
    have c69:Own W7 (w.heap.size+2) 0 [.bool (ng b.1.num),.string (mg b.1.num.natAbs),.bool false,.string (mg (dn b.1)),.bool (ng b.2.num),.string (mg b.2.num.natAbs),.bool false,.string (mg (dn b.2))]:=by
     rw [hW7]
     first
     | (repeat (first|(with_reducible refine own_new (l:=[.bool (ng b.1.num),.string (mg b.1.num.natAbs),.bool false,.string (mg (dn b.1)),.bool (ng b.2.num),.string (mg b.2.num.natAbs),.bool false,.string (mg (dn b.2))]) ?_;(simp;done))|with_reducible refine Own.alloc ?_ _|refine Own.far _ _ (by first|(simp;done)|(simp [*];done)|(simp;omega)) ?_));done
     | simp [Own,go_sem]
    have hB70:Below w.heap.size w W7:=by rw [hW7];exact bB
    clear hW7 hL7;with_reducible refine (K1.out _).mono ?_
    rintro e w7 ⟨rfl,hb7⟩;have c71:=c67.up hb7;have c72:=c68.up hb7;have c73:=c69.up hb7;have hB74:Below w.heap.size w w7:=bel_up hB70 hb7;clear c67 c68 c69;have uc71:=c71;have uc72:=c72;have uc73:=c73;simp only [At,Own,Nat.reduceAdd,and_true] at uc71 uc72 uc73;go_wp2_with (fail)
    refine calls_named ?_;intro W8 hW8;have hL8:Below w7.heap.size w7 W8:=by rw [hW8];exact bB
    have c75:=c71.up hL8;have c76:=c72.up hL8;have c77:=c73.up hL8;have hB78:Below w.heap.size w W8:=by rw [hW8];exact bB
    clear hW8 hL8 uc71 uc72 uc73 c71 c72 c73;with_reducible refine (K4.out _).mono ?_
    rintro e w8 ⟨rfl,hb8⟩;have c79:=c75.up hb8;have c80:=c76.up hb8;have c81:=c77.up hb8;have hB82:Below w.heap.size w w8:=bel_up hB78 hb8;clear c75 c76 c77;have uc79:=c79;have uc80:=c80;have uc81:=c81;simp only [At,Own,Nat.reduceAdd,and_true] at uc79 uc80 uc81;go_wp2_with (fail)
    refine calls_named ?_;intro W9 hW9;have hL9:Below w8.heap.size w8 W9:=by rw [hW9];exact bB
    have c83:=c79.up hL9;have c84:=c80.up hL9;have c85:=c81.up hL9;have hB86:Below w.heap.size w W9:=by rw [hW9];exact bB
    clear hW9 hL9 uc79 uc80 uc81 c79 c80 c81;with_reducible refine (K10.out _).mono ?_
    rintro e w9 ⟨rfl,hb9⟩;have c87:=c83.up hb9;have c88:=c84.up hb9;have c89:=c85.up hb9;have hB90:Below w.heap.size w w9:=bel_up hB86 hb9;clear c83 c84 c85;have uc87:=c87;have uc88:=c88;have uc89:=c89;simp only [At,Own,Nat.reduceAdd,and_true] at uc87 uc88 uc89;go_wp2;go_ret;refine ⟨(by rw [onR_f (by have q0:=Hhc24.out;have q1:=hc41;have q2:=hc66;have q3:=HhT3.out;have q4:=HhT6.out;have q5:=HhT9.out;have q6:=HhT12.out;have q7:=HhT15.out;omega)]<;>rfl),?_⟩;exact bB
   ·skip
    have hc66_d:decide ((0:Int)<o11)=false:=decide_eq_false hc66;have hc66_:((o11:Int)≤0):=by omega
    have hc66_e:decide ((o11:Int)≤0)=true:=decide_eq_true hc66_
    by_cases hc123:(0:Int)<o14
    ·skip
     have hc123_d:decide ((0:Int)<o14)=true:=decide_eq_true hc123;have hc123_:¬ ((o14:Int)≤0):=by omega
     have hc123_e:decide ((o14:Int)≤0)=false:=decide_eq_false hc123_;go_wp2_with (fail)
     refine calls_named ?_;intro W14 hW14;have hL14:Below w.heap.size w W14:=by rw [hW14];exact bB
     have c124:Own W14 w.heap.size 0 [.bool (ng p.1.num),.string (mg p.1.num.natAbs),.bool false,.string (mg (dn p.1)),.bool (ng p.2.num),.string (mg p.2.num.natAbs),.bool false,.string (mg (dn p.2))]:=by
      rw [hW14]
      first
      | (repeat (first|(with_reducible refine own_new (l:=[.bool (ng p.1.num),.string (mg p.1.num.natAbs),.bool false,.string (mg (dn p.1)),.bool (ng p.2.num),.string (mg p.2.num.natAbs),.bool false,.string (mg (dn p.2))]) ?_;(simp;done))|with_reducible refine Own.alloc ?_ _|refine Own.far _ _ (by first|(simp;done)|(simp [*];done)|(simp;omega)) ?_));done
      | simp [Own,go_sem]
     have c125:Own W14 (w.heap.size+1) 0 [.bool (ng a.1.num),.string (mg a.1.num.natAbs),.bool false,.string (mg (dn a.1)),.bool (ng a.2.num),.string (mg a.2.num.natAbs),.bool false,.string (mg (dn a.2))]:=by
      rw [hW14]
      first
      | (repeat (first|(with_reducible refine own_new (l:=[.bool (ng a.1.num),.string (mg a.1.num.natAbs),.bool false,.string (mg (dn a.1)),.bool (ng a.2.num),.string (mg a.2.num.natAbs),.bool false,.string (mg (dn a.2))]) ?_;(simp;done))|with_reducible refine Own.alloc ?_ _|refine Own.far _ _ (by first|(simp;done)|(simp [*];done)|(simp;omega)) ?_));done
      | simp [Own,go_sem]
     have c126:Own W14 (w.heap.size+2) 0 [.bool (ng b.1.num),.string (mg b.1.num.natAbs),.bool false,.string (mg (dn b.1)),.bool (ng b.2.num),.string (mg b.2.num.natAbs),.bool false,.string (mg (dn b.2))]:=by
      rw [hW14]
      first
      | (repeat (first|(with_reducible refine own_new (l:=[.bool (ng b.1.num),.string (mg b.1.num.natAbs),.bool false,.string (mg (dn b.1)),.bool (ng b.2.num),.string (mg b.2.num.natAbs),.bool false,.string (mg (dn b.2))]) ?_;(simp;done))|with_reducible refine Own.alloc ?_ _|refine Own.far _ _ (by first|(simp;done)|(simp [*];done)|(simp;omega)) ?_));done
      | simp [Own,go_sem]
     have hB127:Below w.heap.size w W14:=by rw [hW14];exact bB
     clear hW14 hL14;with_reducible refine (K1.out _).mono ?_
     rintro e w14 ⟨rfl,hb14⟩;have c128:=c124.up hb14;have c129:=c125.up hb14;have c130:=c126.up hb14;have hB131:Below w.heap.size w w14:=bel_up hB127 hb14;clear c124 c125 c126;have uc128:=c128;have uc129:=c129;have uc130:=c130;simp only [At,Own,Nat.reduceAdd,and_true] at uc128 uc129 uc130;go_wp2_with (fail)
     refine calls_named ?_;intro W15 hW15;have hL15:Below w14.heap.size w14 W15:=by rw [hW15];exact bB
     have c132:=c128.up hL15;have c133:=c129.up hL15;have c134:=c130.up hL15;have hB135:Below w.heap.size w W15:=by rw [hW15];exact bB
     clear hW15 hL15 uc128 uc129 uc130 c128 c129 c130;with_reducible refine (K4.out _).mono ?_
     rintro e w15 ⟨rfl,hb15⟩;have c136:=c132.up hb15;have c137:=c133.up hb15;have c138:=c134.up hb15;have hB139:Below w.heap.size w w15:=bel_up hB135 hb15;clear c132 c133 c134;have uc136:=c136;have uc137:=c137;have uc138:=c138;simp only [At,Own,Nat.reduceAdd,and_true] at uc136 uc137 uc138;go_wp2_with (fail)
     refine calls_named ?_;intro W16 hW16;have hL16:Below w15.heap.size w15 W16:=by rw [hW16];exact bB
     have c140:=c136.up hL16;have c141:=c137.up hL16;have c142:=c138.up hL16;have hB143:Below w.heap.size w W16:=by rw [hW16];exact bB
     clear hW16 hL16 uc136 uc137 uc138 c136 c137 c138;with_reducible refine (K10.out _).mono ?_
     rintro e w16 ⟨rfl,hb16⟩;have c144:=c140.up hb16;have c145:=c141.up hb16;have c146:=c142.up hb16;have hB147:Below w.heap.size w w16:=bel_up hB143 hb16;clear c140 c141 c142;have uc144:=c144;have uc145:=c145;have uc146:=c146;simp only [At,Own,Nat.reduceAdd,and_true] at uc144 uc145 uc146;go_wp2_with (fail)
     refine calls_named ?_;intro W17 hW17;have hL17:Below w16.heap.size w16 W17:=by rw [hW17];exact bB
     have c148:=c144.up hL17;have c149:=c145.up hL17;have c150:=c146.up hL17;have hB151:Below w.heap.size w W17:=by rw [hW17];exact bB
     clear hW17 hL17 uc144 uc145 uc146 c144 c145 c146;with_reducible refine (K13.out _).mono ?_
     rintro e w17 ⟨rfl,hb17⟩;have c152:=c148.up hb17;have c153:=c149.up hb17;have c154:=c150.up hb17;have hB155:Below w.heap.size w w17:=bel_up hB151 hb17;clear c148 c149 c150;have uc152:=c152;have uc153:=c153;have uc154:=c154;simp only [At,Own,Nat.reduceAdd,and_true] at uc152 uc153 uc154;go_wp2;go_ret;refine ⟨(by rw [onR_f (by have q0:=Hhc24.out;have q1:=hc41;have q2:=hc66;have q3:=hc123;have q4:=HhT3.out;have q5:=HhT6.out;have q6:=HhT9.out;have q7:=HhT12.out;have q8:=HhT15.out;omega)]<;>rfl),?_⟩;exact bB
    ·skip
     have hc123_d:decide ((0:Int)<o14)=false:=decide_eq_false hc123;have hc123_:((o14:Int)≤0):=by omega
     have hc123_e:decide ((o14:Int)≤0)=true:=decide_eq_true hc123_;go_wp2_with (fail)
     refine calls_named ?_;intro W18 hW18;have hL18:Below w.heap.size w W18:=by rw [hW18];exact bB
     have c156:Own W18 w.heap.size 0 [.bool (ng p.1.num),.string (mg p.1.num.natAbs),.bool false,.string (mg (dn p.1)),.bool (ng p.2.num),.string (mg p.2.num.natAbs),.bool false,.string (mg (dn p.2))]:=by
      rw [hW18]
      first
      | (repeat (first|(with_reducible refine own_new (l:=[.bool (ng p.1.num),.string (mg p.1.num.natAbs),.bool false,.string (mg (dn p.1)),.bool (ng p.2.num),.string (mg p.2.num.natAbs),.bool false,.string (mg (dn p.2))]) ?_;(simp;done))|with_reducible refine Own.alloc ?_ _|refine Own.far _ _ (by first|(simp;done)|(simp [*];done)|(simp;omega)) ?_));done
      | simp [Own,go_sem]
     have c157:Own W18 (w.heap.size+1) 0 [.bool (ng a.1.num),.string (mg a.1.num.natAbs),.bool false,.string (mg (dn a.1)),.bool (ng a.2.num),.string (mg a.2.num.natAbs),.bool false,.string (mg (dn a.2))]:=by
      rw [hW18]
      first
      | (repeat (first|(with_reducible refine own_new (l:=[.bool (ng a.1.num),.string (mg a.1.num.natAbs),.bool false,.string (mg (dn a.1)),.bool (ng a.2.num),.string (mg a.2.num.natAbs),.bool false,.string (mg (dn a.2))]) ?_;(simp;done))|with_reducible refine Own.alloc ?_ _|refine Own.far _ _ (by first|(simp;done)|(simp [*];done)|(simp;omega)) ?_));done
      | simp [Own,go_sem]
     have c158:Own W18 (w.heap.size+2) 0 [.bool (ng b.1.num),.string (mg b.1.num.natAbs),.bool false,.string (mg (dn b.1)),.bool (ng b.2.num),.string (mg b.2.num.natAbs),.bool false,.string (mg (dn b.2))]:=by
      rw [hW18]
      first
      | (repeat (first|(with_reducible refine own_new (l:=[.bool (ng b.1.num),.string (mg b.1.num.natAbs),.bool false,.string (mg (dn b.1)),.bool (ng b.2.num),.string (mg b.2.num.natAbs),.bool false,.string (mg (dn b.2))]) ?_;(simp;done))|with_reducible refine Own.alloc ?_ _|refine Own.far _ _ (by first|(simp;done)|(simp [*];done)|(simp;omega)) ?_));done
      | simp [Own,go_sem]
     have hB159:Below w.heap.size w W18:=by rw [hW18];exact bB
     clear hW18 hL18;with_reducible refine (K1.out _).mono ?_
     rintro e w18 ⟨rfl,hb18⟩;have c160:=c156.up hb18;have c161:=c157.up hb18;have c162:=c158.up hb18;have hB163:Below w.heap.size w w18:=bel_up hB159 hb18;clear c156 c157 c158;have uc160:=c160;have uc161:=c161;have uc162:=c162;simp only [At,Own,Nat.reduceAdd,and_true] at uc160 uc161 uc162;go_wp2_with (fail)
     refine calls_named ?_;intro W19 hW19;have hL19:Below w18.heap.size w18 W19:=by rw [hW19];exact bB
     have c164:=c160.up hL19;have c165:=c161.up hL19;have c166:=c162.up hL19;have hB167:Below w.heap.size w W19:=by rw [hW19];exact bB
     clear hW19 hL19 uc160 uc161 uc162 c160 c161 c162;with_reducible refine (K4.out _).mono ?_
     rintro e w19 ⟨rfl,hb19⟩;have c168:=c164.up hb19;have c169:=c165.up hb19;have c170:=c166.up hb19;have hB171:Below w.heap.size w w19:=bel_up hB167 hb19;clear c164 c165 c166;have uc168:=c168;have uc169:=c169;have uc170:=c170;simp only [At,Own,Nat.reduceAdd,and_true] at uc168 uc169 uc170;go_wp2_with (fail)
     refine calls_named ?_;intro W20 hW20;have hL20:Below w19.heap.size w19 W20:=by rw [hW20];exact bB
     have c172:=c168.up hL20;have c173:=c169.up hL20;have c174:=c170.up hL20;have hB175:Below w.heap.size w W20:=by rw [hW20];exact bB
     clear hW20 hL20 uc168 uc169 uc170 c168 c169 c170;with_reducible refine (K10.out _).mono ?_
     rintro e w20 ⟨rfl,hb20⟩;have c176:=c172.up hb20;have c177:=c173.up hb20;have c178:=c174.up hb20;have hB179:Below w.heap.size w w20:=bel_up hB175 hb20;clear c172 c173 c174;have uc176:=c176;have uc177:=c177;have uc178:=c178;simp only [At,Own,Nat.reduceAdd,and_true] at uc176 uc177 uc178;go_wp2_with (fail)
     refine calls_named ?_;intro W21 hW21;have hL21:Below w20.heap.size w20 W21:=by rw [hW21];exact bB
     have c180:=c176.up hL21;have c181:=c177.up hL21;have c182:=c178.up hL21;have hB183:Below w.heap.size w W21:=by rw [hW21];exact bB
     clear hW21 hL21 uc176 uc177 uc178 c176 c177 c178;with_reducible refine (K13.out _).mono ?_
     rintro e w21 ⟨rfl,hb21⟩;have c184:=c180.up hb21;have c185:=c181.up hb21;have c186:=c182.up hb21;have hB187:Below w.heap.size w w21:=bel_up hB183 hb21;clear c180 c181 c182;have uc184:=c184;have uc185:=c185;have uc186:=c186;simp only [At,Own,Nat.reduceAdd,and_true] at uc184 uc185 uc186;go_wp2;go_ret;refine ⟨(by rw [onR_t (by have q0:=Hhc24.out;have q1:=hc41;have q2:=hc66;have q3:=hc123;have q4:=HhT3.out;have q5:=HhT6.out;have q6:=HhT9.out;have q7:=HhT12.out;have q8:=HhT15.out;omega)]<;>rfl),?_⟩;exact bB
  ·skip
   have hc41_d:decide ((0:Int)<o5)=false:=decide_eq_false hc41;have hc41_:((o5:Int)≤0):=by omega
   have hc41_e:decide ((o5:Int)≤0)=true:=decide_eq_true hc41_
   by_cases hc212:(0:Int)<o8
   ·skip
    have hc212_d:decide ((0:Int)<o8)=true:=decide_eq_true hc212;have hc212_:¬ ((o8:Int)≤0):=by omega
    have hc212_e:decide ((o8:Int)≤0)=false:=decide_eq_false hc212_
    by_cases hc245:(0:Int)<o11
    ·skip
     have hc245_d:decide ((0:Int)<o11)=true:=decide_eq_true hc245;have hc245_:¬ ((o11:Int)≤0):=by omega
     have hc245_e:decide ((o11:Int)≤0)=false:=decide_eq_false hc245_;go_wp2_with (fail)
     refine calls_named ?_;intro W29 hW29;have hL29:Below w.heap.size w W29:=by rw [hW29];exact bB
     have c246:Own W29 w.heap.size 0 [.bool (ng p.1.num),.string (mg p.1.num.natAbs),.bool false,.string (mg (dn p.1)),.bool (ng p.2.num),.string (mg p.2.num.natAbs),.bool false,.string (mg (dn p.2))]:=by
      rw [hW29]
      first
      | (repeat (first|(with_reducible refine own_new (l:=[.bool (ng p.1.num),.string (mg p.1.num.natAbs),.bool false,.string (mg (dn p.1)),.bool (ng p.2.num),.string (mg p.2.num.natAbs),.bool false,.string (mg (dn p.2))]) ?_;(simp;done))|with_reducible refine Own.alloc ?_ _|refine Own.far _ _ (by first|(simp;done)|(simp [*];done)|(simp;omega)) ?_));done
      | simp [Own,go_sem]
     have c247:Own W29 (w.heap.size+1) 0 [.bool (ng a.1.num),.string (mg a.1.num.natAbs),.bool false,.string (mg (dn a.1)),.bool (ng a.2.num),.string (mg a.2.num.natAbs),.bool false,.string (mg (dn a.2))]:=by
      rw [hW29]
      first
      | (repeat (first|(with_reducible refine own_new (l:=[.bool (ng a.1.num),.string (mg a.1.num.natAbs),.bool false,.string (mg (dn a.1)),.bool (ng a.2.num),.string (mg a.2.num.natAbs),.bool false,.string (mg (dn a.2))]) ?_;(simp;done))|with_reducible refine Own.alloc ?_ _|refine Own.far _ _ (by first|(simp;done)|(simp [*];done)|(simp;omega)) ?_));done
      | simp [Own,go_sem]
     have c248:Own W29 (w.heap.size+2) 0 [.bool (ng b.1.num),.string (mg b.1.num.natAbs),.bool false,.string (mg (dn b.1)),.bool (ng b.2.num),.string (mg b.2.num.natAbs),.bool false,.string (mg (dn b.2))]:=by
      rw [hW29]
      first
      | (repeat (first|(with_reducible refine own_new (l:=[.bool (ng b.1.num),.string (mg b.1.num.natAbs),.bool false,.string (mg (dn b.1)),.bool (ng b.2.num),.string (mg b.2.num.natAbs),.bool false,.string (mg (dn b.2))]) ?_;(simp;done))|with_reducible refine Own.alloc ?_ _|refine Own.far _ _ (by first|(simp;done)|(simp [*];done)|(simp;omega)) ?_));done
      | simp [Own,go_sem]
     have hB249:Below w.heap.size w W29:=by rw [hW29];exact bB
     clear hW29 hL29;with_reducible refine (K1.out _).mono ?_
     rintro e w29 ⟨rfl,hb29⟩;have c250:=c246.up hb29;have c251:=c247.up hb29;have c252:=c248.up hb29;have hB253:Below w.heap.size w w29:=bel_up hB249 hb29;clear c246 c247 c248;have uc250:=c250;have uc251:=c251;have uc252:=c252;simp only [At,Own,Nat.reduceAdd,and_true] at uc250 uc251 uc252;go_wp2_with (fail)
     refine calls_named ?_;intro W30 hW30;have hL30:Below w29.heap.size w29 W30:=by rw [hW30];exact bB
     have c254:=c250.up hL30;have c255:=c251.up hL30;have c256:=c252.up hL30;have hB257:Below w.heap.size w W30:=by rw [hW30];exact bB
     clear hW30 hL30 uc250 uc251 uc252 c250 c251 c252;with_reducible refine (K4.out _).mono ?_
     rintro e w30 ⟨rfl,hb30⟩;have c258:=c254.up hb30;have c259:=c255.up hb30;have c260:=c256.up hb30;have hB261:Below w.heap.size w w30:=bel_up hB257 hb30;clear c254 c255 c256;have uc258:=c258;have uc259:=c259;have uc260:=c260;simp only [At,Own,Nat.reduceAdd,and_true] at uc258 uc259 uc260;go_wp2_with (fail)
     refine calls_named ?_;intro W31 hW31;have hL31:Below w30.heap.size w30 W31:=by rw [hW31];exact bB
     have c262:=c258.up hL31;have c263:=c259.up hL31;have c264:=c260.up hL31;have hB265:Below w.heap.size w W31:=by rw [hW31];exact bB
     clear hW31 hL31 uc258 uc259 uc260 c258 c259 c260;with_reducible refine (K7.out _).mono ?_
     rintro e w31 ⟨rfl,hb31⟩;have c266:=c262.up hb31;have c267:=c263.up hb31;have c268:=c264.up hb31;have hB269:Below w.heap.size w w31:=bel_up hB265 hb31;clear c262 c263 c264;have uc266:=c266;have uc267:=c267;have uc268:=c268;simp only [At,Own,Nat.reduceAdd,and_true] at uc266 uc267 uc268;go_wp2_with (fail)
     refine calls_named ?_;intro W32 hW32;have hL32:Below w31.heap.size w31 W32:=by rw [hW32];exact bB
     have c270:=c266.up hL32;have c271:=c267.up hL32;have c272:=c268.up hL32;have hB273:Below w.heap.size w W32:=by rw [hW32];exact bB
     clear hW32 hL32 uc266 uc267 uc268 c266 c267 c268;with_reducible refine (K10.out _).mono ?_
     rintro e w32 ⟨rfl,hb32⟩;have c274:=c270.up hb32;have c275:=c271.up hb32;have c276:=c272.up hb32;have hB277:Below w.heap.size w w32:=bel_up hB273 hb32;clear c270 c271 c272;have uc274:=c274;have uc275:=c275;have uc276:=c276;simp only [At,Own,Nat.reduceAdd,and_true] at uc274 uc275 uc276;go_wp2;go_ret;refine ⟨(by rw [onR_f (by have q0:=Hhc24.out;have q1:=hc41;have q2:=hc212;have q3:=hc245;have q4:=HhT3.out;have q5:=HhT6.out;have q6:=HhT9.out;have q7:=HhT12.out;have q8:=HhT15.out;omega)]<;>rfl),?_⟩;exact bB
    ·skip
     have hc245_d:decide ((0:Int)<o11)=false:=decide_eq_false hc245;have hc245_:((o11:Int)≤0):=by omega
     have hc245_e:decide ((o11:Int)≤0)=true:=decide_eq_true hc245_
     by_cases hc318:(0:Int)<o14
     ·skip
      have hc318_d:decide ((0:Int)<o14)=true:=decide_eq_true hc318;have hc318_:¬ ((o14:Int)≤0):=by omega
      have hc318_e:decide ((o14:Int)≤0)=false:=decide_eq_false hc318_;go_wp2_with (fail)
      refine calls_named ?_;intro W38 hW38;have hL38:Below w.heap.size w W38:=by rw [hW38];exact bB
      have c319:Own W38 w.heap.size 0 [.bool (ng p.1.num),.string (mg p.1.num.natAbs),.bool false,.string (mg (dn p.1)),.bool (ng p.2.num),.string (mg p.2.num.natAbs),.bool false,.string (mg (dn p.2))]:=by
       rw [hW38]
       first
       | (repeat (first|(with_reducible refine own_new (l:=[.bool (ng p.1.num),.string (mg p.1.num.natAbs),.bool false,.string (mg (dn p.1)),.bool (ng p.2.num),.string (mg p.2.num.natAbs),.bool false,.string (mg (dn p.2))]) ?_;(simp;done))|with_reducible refine Own.alloc ?_ _|refine Own.far _ _ (by first|(simp;done)|(simp [*];done)|(simp;omega)) ?_));done
       | simp [Own,go_sem]
      have c320:Own W38 (w.heap.size+1) 0 [.bool (ng a.1.num),.string (mg a.1.num.natAbs),.bool false,.string (mg (dn a.1)),.bool (ng a.2.num),.string (mg a.2.num.natAbs),.bool false,.string (mg (dn a.2))]:=by
       rw [hW38]
       first
       | (repeat (first|(with_reducible refine own_new (l:=[.bool (ng a.1.num),.string (mg a.1.num.natAbs),.bool false,.string (mg (dn a.1)),.bool (ng a.2.num),.string (mg a.2.num.natAbs),.bool false,.string (mg (dn a.2))]) ?_;(simp;done))|with_reducible refine Own.alloc ?_ _|refine Own.far _ _ (by first|(simp;done)|(simp [*];done)|(simp;omega)) ?_));done
       | simp [Own,go_sem]
      have c321:Own W38 (w.heap.size+2) 0 [.bool (ng b.1.num),.string (mg b.1.num.natAbs),.bool false,.string (mg (dn b.1)),.bool (ng b.2.num),.string (mg b.2.num.natAbs),.bool false,.string (mg (dn b.2))]:=by
       rw [hW38]
       first
       | (repeat (first|(with_reducible refine own_new (l:=[.bool (ng b.1.num),.string (mg b.1.num.natAbs),.bool false,.string (mg (dn b.1)),.bool (ng b.2.num),.string (mg b.2.num.natAbs),.bool false,.string (mg (dn b.2))]) ?_;(simp;done))|with_reducible refine Own.alloc ?_ _|refine Own.far _ _ (by first|(simp;done)|(simp [*];done)|(simp;omega)) ?_));done
       | simp [Own,go_sem]
      have hB322:Below w.heap.size w W38:=by rw [hW38];exact bB
      clear hW38 hL38;with_reducible refine (K1.out _).mono ?_
      rintro e w38 ⟨rfl,hb38⟩;have c323:=c319.up hb38;have c324:=c320.up hb38;have c325:=c321.up hb38;have hB326:Below w.heap.size w w38:=bel_up hB322 hb38;clear c319 c320 c321;have uc323:=c323;have uc324:=c324;have uc325:=c325;simp only [At,Own,Nat.reduceAdd,and_true] at uc323 uc324 uc325;go_wp2_with (fail)
      refine calls_named ?_;intro W39 hW39;have hL39:Below w38.heap.size w38 W39:=by rw [hW39];exact bB
      have c327:=c323.up hL39;have c328:=c324.up hL39;have c329:=c325.up hL39;have hB330:Below w.heap.size w W39:=by rw [hW39];exact bB
      clear hW39 hL39 uc323 uc324 uc325 c323 c324 c325;with_reducible refine (K4.out _).mono ?_
      rintro e w39 ⟨rfl,hb39⟩;have c331:=c327.up hb39;have c332:=c328.up hb39;have c333:=c329.up hb39;have hB334:Below w.heap.size w w39:=bel_up hB330 hb39;clear c327 c328 c329;have uc331:=c331;have uc332:=c332;have uc333:=c333;simp only [At,Own,Nat.reduceAdd,and_true] at uc331 uc332 uc333;go_wp2_with (fail)
      refine calls_named ?_;intro W40 hW40;have hL40:Below w39.heap.size w39 W40:=by rw [hW40];exact bB
      have c335:=c331.up hL40;have c336:=c332.up hL40;have c337:=c333.up hL40;have hB338:Below w.heap.size w W40:=by rw [hW40];exact bB
      clear hW40 hL40 uc331 uc332 uc333 c331 c332 c333;with_reducible refine (K7.out _).mono ?_
      rintro e w40 ⟨rfl,hb40⟩;have c339:=c335.up hb40;have c340:=c336.up hb40;have c341:=c337.up hb40;have hB342:Below w.heap.size w w40:=bel_up hB338 hb40;clear c335 c336 c337;have uc339:=c339;have uc340:=c340;have uc341:=c341;simp only [At,Own,Nat.reduceAdd,and_true] at uc339 uc340 uc341;go_wp2_with (fail)
      refine calls_named ?_;intro W41 hW41;have hL41:Below w40.heap.size w40 W41:=by rw [hW41];exact bB
      have c343:=c339.up hL41;have c344:=c340.up hL41;have c345:=c341.up hL41;have hB346:Below w.heap.size w W41:=by rw [hW41];exact bB
      clear hW41 hL41 uc339 uc340 uc341 c339 c340 c341;with_reducible refine (K10.out _).mono ?_
      rintro e w41 ⟨rfl,hb41⟩;have c347:=c343.up hb41;have c348:=c344.up hb41;have c349:=c345.up hb41;have hB350:Below w.heap.size w w41:=bel_up hB346 hb41;clear c343 c344 c345;have uc347:=c347;have uc348:=c348;have uc349:=c349;simp only [At,Own,Nat.reduceAdd,and_true] at uc347 uc348 uc349;go_wp2_with (fail)
      refine calls_named ?_;intro W42 hW42;have hL42:Below w41.heap.size w41 W42:=by rw [hW42];exact bB
      have c351:=c347.up hL42;have c352:=c348.up hL42;have c353:=c349.up hL42;have hB354:Below w.heap.size w W42:=by rw [hW42];exact bB
      clear hW42 hL42 uc347 uc348 uc349 c347 c348 c349;with_reducible refine (K13.out _).mono ?_
      rintro e w42 ⟨rfl,hb42⟩;have c355:=c351.up hb42;have c356:=c352.up hb42;have c357:=c353.up hb42;have hB358:Below w.heap.size w w42:=bel_up hB354 hb42;clear c351 c352 c353;have uc355:=c355;have uc356:=c356;have uc357:=c357;simp only [At,Own,Nat.reduceAdd,and_true] at uc355 uc356 uc357;go_wp2;go_ret;refine ⟨(by rw [onR_f (by have q0:=Hhc24.out;have q1:=hc41;have q2:=hc212;have q3:=hc245;have q4:=hc318;have q5:=HhT3.out;have q6:=HhT6.out;have q7:=HhT9.out;have q8:=HhT12.out;have q9:=HhT15.out;omega)]<;>rfl),?_⟩;exact bB
     ·skip
      have hc318_d:decide ((0:Int)<o14)=false:=decide_eq_false hc318;have hc318_:((o14:Int)≤0):=by omega
      have hc318_e:decide ((o14:Int)≤0)=true:=decide_eq_true hc318_;go_wp2_with (fail)
      refine calls_named ?_;intro W43 hW43;have hL43:Below w.heap.size w W43:=by rw [hW43];exact bB
      have c359:Own W43 w.heap.size 0 [.bool (ng p.1.num),.string (mg p.1.num.natAbs),.bool false,.string (mg (dn p.1)),.bool (ng p.2.num),.string (mg p.2.num.natAbs),.bool false,.string (mg (dn p.2))]:=by
       rw [hW43]
       first
       | (repeat (first|(with_reducible refine own_new (l:=[.bool (ng p.1.num),.string (mg p.1.num.natAbs),.bool false,.string (mg (dn p.1)),.bool (ng p.2.num),.string (mg p.2.num.natAbs),.bool false,.string (mg (dn p.2))]) ?_;(simp;done))|with_reducible refine Own.alloc ?_ _|refine Own.far _ _ (by first|(simp;done)|(simp [*];done)|(simp;omega)) ?_));done
       | simp [Own,go_sem]
      have c360:Own W43 (w.heap.size+1) 0 [.bool (ng a.1.num),.string (mg a.1.num.natAbs),.bool false,.string (mg (dn a.1)),.bool (ng a.2.num),.string (mg a.2.num.natAbs),.bool false,.string (mg (dn a.2))]:=by
       rw [hW43]
       first
       | (repeat (first|(with_reducible refine own_new (l:=[.bool (ng a.1.num),.string (mg a.1.num.natAbs),.bool false,.string (mg (dn a.1)),.bool (ng a.2.num),.string (mg a.2.num.natAbs),.bool false,.string (mg (dn a.2))]) ?_;(simp;done))|with_reducible refine Own.alloc ?_ _|refine Own.far _ _ (by first|(simp;done)|(simp [*];done)|(simp;omega)) ?_));done
       | simp [Own,go_sem]
      have c361:Own W43 (w.heap.size+2) 0 [.bool (ng b.1.num),.string (mg b.1.num.natAbs),.bool false,.string (mg (dn b.1)),.bool (ng b.2.num),.string (mg b.2.num.natAbs),.bool false,.string (mg (dn b.2))]:=by
       rw [hW43]
       first
       | (repeat (first|(with_reducible refine own_new (l:=[.bool (ng b.1.num),.string (mg b.1.num.natAbs),.bool false,.string (mg (dn b.1)),.bool (ng b.2.num),.string (mg b.2.num.natAbs),.bool false,.string (mg (dn b.2))]) ?_;(simp;done))|with_reducible refine Own.alloc ?_ _|refine Own.far _ _ (by first|(simp;done)|(simp [*];done)|(simp;omega)) ?_));done
       | simp [Own,go_sem]
      have hB362:Below w.heap.size w W43:=by rw [hW43];exact bB
      clear hW43 hL43;with_reducible refine (K1.out _).mono ?_
      rintro e w43 ⟨rfl,hb43⟩;have c363:=c359.up hb43;have c364:=c360.up hb43;have c365:=c361.up hb43;have hB366:Below w.heap.size w w43:=bel_up hB362 hb43;clear c359 c360 c361;have uc363:=c363;have uc364:=c364;have uc365:=c365;simp only [At,Own,Nat.reduceAdd,and_true] at uc363 uc364 uc365;go_wp2_with (fail)
      refine calls_named ?_;intro W44 hW44;have hL44:Below w43.heap.size w43 W44:=by rw [hW44];exact bB
      have c367:=c363.up hL44;have c368:=c364.up hL44;have c369:=c365.up hL44;have hB370:Below w.heap.size w W44:=by rw [hW44];exact bB
      clear hW44 hL44 uc363 uc364 uc365 c363 c364 c365;with_reducible refine (K4.out _).mono ?_
      rintro e w44 ⟨rfl,hb44⟩;have c371:=c367.up hb44;have c372:=c368.up hb44;have c373:=c369.up hb44;have hB374:Below w.heap.size w w44:=bel_up hB370 hb44;clear c367 c368 c369;have uc371:=c371;have uc372:=c372;have uc373:=c373;simp only [At,Own,Nat.reduceAdd,and_true] at uc371 uc372 uc373;go_wp2_with (fail)
      refine calls_named ?_;intro W45 hW45;have hL45:Below w44.heap.size w44 W45:=by rw [hW45];exact bB
      have c375:=c371.up hL45;have c376:=c372.up hL45;have c377:=c373.up hL45;have hB378:Below w.heap.size w W45:=by rw [hW45];exact bB
      clear hW45 hL45 uc371 uc372 uc373 c371 c372 c373;with_reducible refine (K7.out _).mono ?_
      rintro e w45 ⟨rfl,hb45⟩;have c379:=c375.up hb45;have c380:=c376.up hb45;have c381:=c377.up hb45;have hB382:Below w.heap.size w w45:=bel_up hB378 hb45;clear c375 c376 c377;have uc379:=c379;have uc380:=c380;have uc381:=c381;simp only [At,Own,Nat.reduceAdd,and_true] at uc379 uc380 uc381;go_wp2_with (fail)
      refine calls_named ?_;intro W46 hW46;have hL46:Below w45.heap.size w45 W46:=by rw [hW46];exact bB
      have c383:=c379.up hL46;have c384:=c380.up hL46;have c385:=c381.up hL46;have hB386:Below w.heap.size w W46:=by rw [hW46];exact bB
      clear hW46 hL46 uc379 uc380 uc381 c379 c380 c381;with_reducible refine (K10.out _).mono ?_
      rintro e w46 ⟨rfl,hb46⟩;have c387:=c383.up hb46;have c388:=c384.up hb46;have c389:=c385.up hb46;have hB390:Below w.heap.size w w46:=bel_up hB386 hb46;clear c383 c384 c385;have uc387:=c387;have uc388:=c388;have uc389:=c389;simp only [At,Own,Nat.reduceAdd,and_true] at uc387 uc388 uc389;go_wp2_with (fail)
      refine calls_named ?_;intro W47 hW47;have hL47:Below w46.heap.size w46 W47:=by rw [hW47];exact bB
      have c391:=c387.up hL47;have c392:=c388.up hL47;have c393:=c389.up hL47;have hB394:Below w.heap.size w W47:=by rw [hW47];exact bB
      clear hW47 hL47 uc387 uc388 uc389 c387 c388 c389;with_reducible refine (K13.out _).mono ?_
      rintro e w47 ⟨rfl,hb47⟩;have c395:=c391.up hb47;have c396:=c392.up hb47;have c397:=c393.up hb47;have hB398:Below w.heap.size w w47:=bel_up hB394 hb47;clear c391 c392 c393;have uc395:=c395;have uc396:=c396;have uc397:=c397;simp only [At,Own,Nat.reduceAdd,and_true] at uc395 uc396 uc397;go_wp2;go_ret;refine ⟨(by rw [onR_t (by have q0:=Hhc24.out;have q1:=hc41;have q2:=hc212;have q3:=hc245;have q4:=hc318;have q5:=HhT3.out;have q6:=HhT6.out;have q7:=HhT9.out;have q8:=HhT12.out;have q9:=HhT15.out;omega)]<;>rfl),?_⟩;exact bB
   ·skip
    have hc212_d:decide ((0:Int)<o8)=false:=decide_eq_false hc212;have hc212_:((o8:Int)≤0):=by omega
    have hc212_e:decide ((o8:Int)≤0)=true:=decide_eq_true hc212_;go_wp2_with (fail)
    refine calls_named ?_;intro W48 hW48;have hL48:Below w.heap.size w W48:=by rw [hW48];exact bB
    have c399:Own W48 w.heap.size 0 [.bool (ng p.1.num),.string (mg p.1.num.natAbs),.bool false,.string (mg (dn p.1)),.bool (ng p.2.num),.string (mg p.2.num.natAbs),.bool false,.string (mg (dn p.2))]:=by
     rw [hW48]
     first
     | (repeat (first|(with_reducible refine own_new (l:=[.bool (ng p.1.num),.string (mg p.1.num.natAbs),.bool false,.string (mg (dn p.1)),.bool (ng p.2.num),.string (mg p.2.num.natAbs),.bool false,.string (mg (dn p.2))]) ?_;(simp;done))|with_reducible refine Own.alloc ?_ _|refine Own.far _ _ (by first|(simp;done)|(simp [*];done)|(simp;omega)) ?_));done
     | simp [Own,go_sem]
    have c400:Own W48 (w.heap.size+1) 0 [.bool (ng a.1.num),.string (mg a.1.num.natAbs),.bool false,.string (mg (dn a.1)),.bool (ng a.2.num),.string (mg a.2.num.natAbs),.bool false,.string (mg (dn a.2))]:=by
     rw [hW48]
     first
     | (repeat (first|(with_reducible refine own_new (l:=[.bool (ng a.1.num),.string (mg a.1.num.natAbs),.bool false,.string (mg (dn a.1)),.bool (ng a.2.num),.string (mg a.2.num.natAbs),.bool false,.string (mg (dn a.2))]) ?_;(simp;done))|with_reducible refine Own.alloc ?_ _|refine Own.far _ _ (by first|(simp;done)|(simp [*];done)|(simp;omega)) ?_));done
     | simp [Own,go_sem]
    have c401:Own W48 (w.heap.size+2) 0 [.bool (ng b.1.num),.string (mg b.1.num.natAbs),.bool false,.string (mg (dn b.1)),.bool (ng b.2.num),.string (mg b.2.num.natAbs),.bool false,.string (mg (dn b.2))]:=by
     rw [hW48]
     first
     | (repeat (first|(with_reducible refine own_new (l:=[.bool (ng b.1.num),.string (mg b.1.num.natAbs),.bool false,.string (mg (dn b.1)),.bool (ng b.2.num),.string (mg b.2.num.natAbs),.bool false,.string (mg (dn b.2))]) ?_;(simp;done))|with_reducible refine Own.alloc ?_ _|refine Own.far _ _ (by first|(simp;done)|(simp [*];done)|(simp;omega)) ?_));done
     | simp [Own,go_sem]
    have hB402:Below w.heap.size w W48:=by rw [hW48];exact bB
    clear hW48 hL48;with_reducible refine (K1.out _).mono ?_
    rintro e w48 ⟨rfl,hb48⟩;have c403:=c399.up hb48;have c404:=c400.up hb48;have c405:=c401.up hb48;have hB406:Below w.heap.size w w48:=bel_up hB402 hb48;clear c399 c400 c401;have uc403:=c403;have uc404:=c404;have uc405:=c405;simp only [At,Own,Nat.reduceAdd,and_true] at uc403 uc404 uc405;go_wp2_with (fail)
    refine calls_named ?_;intro W49 hW49;have hL49:Below w48.heap.size w48 W49:=by rw [hW49];exact bB
    have c407:=c403.up hL49;have c408:=c404.up hL49;have c409:=c405.up hL49;have hB410:Below w.heap.size w W49:=by rw [hW49];exact bB
    clear hW49 hL49 uc403 uc404 uc405 c403 c404 c405;with_reducible refine (K4.out _).mono ?_
    rintro e w49 ⟨rfl,hb49⟩;have c411:=c407.up hb49;have c412:=c408.up hb49;have c413:=c409.up hb49;have hB414:Below w.heap.size w w49:=bel_up hB410 hb49;clear c407 c408 c409;have uc411:=c411;have uc412:=c412;have uc413:=c413;simp only [At,Own,Nat.reduceAdd,and_true] at uc411 uc412 uc413;go_wp2_with (fail)
    refine calls_named ?_;intro W50 hW50;have hL50:Below w49.heap.size w49 W50:=by rw [hW50];exact bB
    have c415:=c411.up hL50;have c416:=c412.up hL50;have c417:=c413.up hL50;have hB418:Below w.heap.size w W50:=by rw [hW50];exact bB
    clear hW50 hL50 uc411 uc412 uc413 c411 c412 c413;with_reducible refine (K7.out _).mono ?_
    rintro e w50 ⟨rfl,hb50⟩;have c419:=c415.up hb50;have c420:=c416.up hb50;have c421:=c417.up hb50;have hB422:Below w.heap.size w w50:=bel_up hB418 hb50;clear c415 c416 c417;have uc419:=c419;have uc420:=c420;have uc421:=c421;simp only [At,Own,Nat.reduceAdd,and_true] at uc419 uc420 uc421;go_wp2;go_ret;refine ⟨(by rw [onR_t (by have q0:=Hhc24.out;have q1:=hc41;have q2:=hc212;have q3:=HhT3.out;have q4:=HhT6.out;have q5:=HhT9.out;have q6:=HhT12.out;have q7:=HhT15.out;omega)]<;>rfl),?_⟩;exact bB
 ·skip
  have hc24_:(((t2:Int))==0)=false:=by simpa using hc24
  go_wp2_with (fail)
  refine calls_named ?_;intro W51 hW51;have hL51:Below w.heap.size w W51:=by rw [hW51];exact bB
  have c423:Own W51 w.heap.size 0 [.bool (ng p.1.num),.string (mg p.1.num.natAbs),.bool false,.string (mg (dn p.1)),.bool (ng p.2.num),.string (mg p.2.num.natAbs),.bool false,.string (mg (dn p.2))]:=by
   rw [hW51]
   first
   | (repeat (first|(with_reducible refine own_new (l:=[.bool (ng p.1.num),.string (mg p.1.num.natAbs),.bool false,.string (mg (dn p.1)),.bool (ng p.2.num),.string (mg p.2.num.natAbs),.bool false,.string (mg (dn p.2))]) ?_;(simp;done))|with_reducible refine Own.alloc ?_ _|refine Own.far _ _ (by first|(simp;done)|(simp [*];done)|(simp;omega)) ?_));done
   | simp [Own,go_sem]
  have c424:Own W51 (w.heap.size+1) 0 [.bool (ng a.1.num),.string (mg a.1.num.natAbs),.bool false,.string (mg (dn a.1)),.bool (ng a.2.num),.string (mg a.2.num.natAbs),.bool false,.string (mg (dn a.2))]:=by
   rw [hW51]
   first
   | (repeat (first|(with_reducible refine own_new (l:=[.bool (ng a.1.num),.string (mg a.1.num.natAbs),.bool false,.string (mg (dn a.1)),.bool (ng a.2.num),.string (mg a.2.num.natAbs),.bool false,.string (mg (dn a.2))]) ?_;(simp;done))|with_reducible refine Own.alloc ?_ _|refine Own.far _ _ (by first|(simp;done)|(simp [*];done)|(simp;omega)) ?_));done
   | simp [Own,go_sem]
  have c425:Own W51 (w.heap.size+2) 0 [.bool (ng b.1.num),.string (mg b.1.num.natAbs),.bool false,.string (mg (dn b.1)),.bool (ng b.2.num),.string (mg b.2.num.natAbs),.bool false,.string (mg (dn b.2))]:=by
   rw [hW51]
   first
   | (repeat (first|(with_reducible refine own_new (l:=[.bool (ng b.1.num),.string (mg b.1.num.natAbs),.bool false,.string (mg (dn b.1)),.bool (ng b.2.num),.string (mg b.2.num.natAbs),.bool false,.string (mg (dn b.2))]) ?_;(simp;done))|with_reducible refine Own.alloc ?_ _|refine Own.far _ _ (by first|(simp;done)|(simp [*];done)|(simp;omega)) ?_));done
   | simp [Own,go_sem]
  have hB426:Below w.heap.size w W51:=by rw [hW51];exact bB
  clear hW51 hL51;with_reducible refine (K1.out _).mono ?_
  rintro e w51 ⟨rfl,hb51⟩;have c427:=c423.up hb51;have c428:=c424.up hb51;have c429:=c425.up hb51;have hB430:Below w.heap.size w w51:=bel_up hB426 hb51;clear c423 c424 c425;have uc427:=c427;have uc428:=c428;have uc429:=c429;simp only [At,Own,Nat.reduceAdd,and_true] at uc427 uc428 uc429;go_wp2;go_ret;refine ⟨(by rw [onR_f (by have q0:=hc24;have q1:=HhT3.out;have q2:=HhT6.out;have q3:=HhT9.out;have q4:=HhT12.out;have q5:=HhT15.out;omega)]<;>rfl),?_⟩;exact bB
end Go.Proofs.YtiochgoocbkckaaGreatDoor
