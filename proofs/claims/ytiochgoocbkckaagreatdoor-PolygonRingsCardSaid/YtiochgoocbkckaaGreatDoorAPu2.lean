/-
 The reference for polygons: the next vertex, segments that meet.
-/
import Derived.Test.YtiochgoocbkckaaGreatDoorAPu1
import Derived.Test.YtiochgoocbkckaaGreatDoorAgax
set_option maxRecDepth 100000
set_option linter.unusedSimpArgs false
set_option linter.unusedVariables false
namespace Go.Proofs.YtiochgoocbkckaaGreatDoor
open Go Go.RowKit

set_option maxHeartbeats 4000000 in
theorem rnext_any {S:Nat} (v:Value) (l:List (Rat×Rat)) (k:Nat) (w:World) (h:PV w v l) (hs:∀ q∈l,Pl.SzP S q) (hn:l.length≤1000000) (hS:S≤100000) (hk:k<l.length) :
 Calls Tryz.prog 74 #[v,.int .i64 k] w fun e w'=>e=.returned (pv (Pg.vx l (k+1)))∧Below w.heap.size w w':=by
 obtain ⟨A,c,rfl,hc,hm,hx⟩:=h.open_;have HV:=Lib.hid h;have HX:=Lib.hid hx;have HS:=Lib.hid hs;have i1:(k:Int)<(l.length:Int):=by omega
 have j0:¬ (l.length:Int)=0:=by omega
 have j1:((l.length:Int)==0)=false:=by simpa using j0
 have HF:Hid (l.take l.length=l):=Lib.hid List.take_length;generalize hN:l.length=N at *;have HN:=Lib.hid hN;clear h hx hs hN;go_enter Tryz.func74,Tryz.ntmps74;obtain ⟨m,hm1⟩:∃ m,m=(k+1)%N:=⟨_,rfl⟩
 have hm2:m<N:=hm1▸Nat.mod_lt _ (by omega);have i2:(m:Int)<N:=by omega
 obtain ⟨r1,r2,r3,r4,r5,r6⟩:=remS k N m hm1 (by omega) (by omega);have HM:=Lib.hid hm1;clear hm1;obtain ⟨x1,hx2⟩:∃ x,l[m]?=some x:=⟨_,List.getElem?_eq_getElem (by rw [HN.out];omega)⟩
 have Hhx2:=Lib.hid hx2;have Zhx2:=Lib.hid (HS.out _ (List.mem_of_getElem? hx2));clear hx2;have HT:=Lib.hid (Pg.vx_some (by rw [HN.out,← HM.out];exact Hhx2.out):Pg.vx l (k+1)=x1);clear r2 r4 r5 r6 hm2 j0;obtain ⟨g4,o5,ha6,-⟩:=HX.out _ _ Hhx2.out;subst ha6;have ce3:=LX.at_ (HX.out) Hhx2.out;have ce3_:g4<w.heap.size:=World.block_lt_of_cell? _ _ ce3.1;have uce3:=ce3;simp only [CE,Nat.reduceMul] at uce3;go_wp2;refine bodyPost_ret (v:=.agg #[.bool (ng x1.1.num),.string (mg x1.1.num.natAbs),.bool false,.string (mg (dn x1.1)),.bool (ng x1.2.num),.string (mg x1.2.num.natAbs),.bool false,.string (mg (dn x1.2))]) (by simp [results,Tryz.results74,go_sem,uce3]) rfl ⟨(by rw [HT.out]),?_⟩;exact bB

set_option maxHeartbeats 4000000 in
theorem rmeet_any {S:Nat} (a b c d:Rat×Rat) (w:World) (ha:Pl.SzP S a) (hb:Pl.SzP S b) (hc:Pl.SzP S c) (hd:Pl.SzP S d) (hS:S≤2000) :
 Calls Tryz.prog 80 #[pv a,pv b,pv c,pv d] w fun e w'=>e=.returned (.bool (Pg.meetR a b c d))∧Below w.heap.size w w':=by
 go_enter Tryz.func80,Tryz.ntmps80;have kK1:=fun W=>ron_any a c d W ha hc hd hS
 generalize hT3:Pg.onR a c d=b2 at kK1;have K1:=Lib.hid kK1;clear kK1;have HhT3:=Lib.hid hT3;clear hT3;have kK4:=fun W=>ron_any b c d W hb hc hd hS
 generalize hT6:Pg.onR b c d=b5 at kK4;have K4:=Lib.hid kK4;clear kK4;have HhT6:=Lib.hid hT6;clear hT6;have kK7:=fun W=>ron_any c a b W hc ha hb hS
 generalize hT9:Pg.onR c a b=b8 at kK7;have K7:=Lib.hid kK7;clear kK7;have HhT9:=Lib.hid hT9;clear hT9;have kK10:=fun W=>ron_any d a b W hd ha hb hS
 generalize hT12:Pg.onR d a b=b11 at kK10;have K10:=Lib.hid kK10;clear kK10;have HhT12:=Lib.hid hT12;clear hT12;cases b2
 ·skip
  cases b5
  ·skip
   cases b8
   ·skip
    go_wp2_with (fail)
    refine calls_named ?_;intro W7 hW7;have hL7:Below w.heap.size w W7:=by rw [hW7];exact bB
    have c73:Own W7 w.heap.size 0 [.bool (ng a.1.num),.string (mg a.1.num.natAbs),.bool false,.string (mg (dn a.1)),.bool (ng a.2.num),.string (mg a.2.num.natAbs),.bool false,.string (mg (dn a.2))]:=by
     rw [hW7]
     first
     | (repeat (first|(with_reducible refine own_new (l:=[.bool (ng a.1.num),.string (mg a.1.num.natAbs),.bool false,.string (mg (dn a.1)),.bool (ng a.2.num),.string (mg a.2.num.natAbs),.bool false,.string (mg (dn a.2))]) ?_;(simp;done))|with_reducible refine Own.alloc ?_ _|refine Own.far _ _ (by first|(simp;done)|(simp [*];done)|(simp;omega)) ?_));done
     | simp [Own,go_sem]
    have c74:Own W7 (w.heap.size+1) 0 [.bool (ng b.1.num),.string (mg b.1.num.natAbs),.bool false,.string (mg (dn b.1)),.bool (ng b.2.num),.string (mg b.2.num.natAbs),.bool false,.string (mg (dn b.2))]:=by
     rw [hW7]
     first
     | (repeat (first|(with_reducible refine own_new (l:=[.bool (ng b.1.num),.string (mg b.1.num.natAbs),.bool false,.string (mg (dn b.1)),.bool (ng b.2.num),.string (mg b.2.num.natAbs),.bool false,.string (mg (dn b.2))]) ?_;(simp;done))|with_reducible refine Own.alloc ?_ _|refine Own.far _ _ (by first|(simp;done)|(simp [*];done)|(simp;omega)) ?_));done
     | simp [Own,go_sem]
    have c75:Own W7 (w.heap.size+2) 0 [.bool (ng c.1.num),.string (mg c.1.num.natAbs),.bool false,.string (mg (dn c.1)),.bool (ng c.2.num),.string (mg c.2.num.natAbs),.bool false,.string (mg (dn c.2))]:=by
     rw [hW7]
     first
     | (repeat (first|(with_reducible refine own_new (l:=[.bool (ng c.1.num),.string (mg c.1.num.natAbs),.bool false,.string (mg (dn c.1)),.bool (ng c.2.num),.string (mg c.2.num.natAbs),.bool false,.string (mg (dn c.2))]) ?_;(simp;done))|with_reducible refine Own.alloc ?_ _|refine Own.far _ _ (by first|(simp;done)|(simp [*];done)|(simp;omega)) ?_));done
     | simp [Own,go_sem]
    have c76:Own W7 (w.heap.size+3) 0 [.bool (ng d.1.num),.string (mg d.1.num.natAbs),.bool false,.string (mg (dn d.1)),.bool (ng d.2.num),.string (mg d.2.num.natAbs),.bool false,.string (mg (dn d.2))]:=by
     rw [hW7]
     first
     | (repeat (first|(with_reducible refine own_new (l:=[.bool (ng d.1.num),.string (mg d.1.num.natAbs),.bool false,.string (mg (dn d.1)),.bool (ng d.2.num),.string (mg d.2.num.natAbs),.bool false,.string (mg (dn d.2))]) ?_;(simp;done))|with_reducible refine Own.alloc ?_ _|refine Own.far _ _ (by first|(simp;done)|(simp [*];done)|(simp;omega)) ?_));done
     | simp [Own,go_sem]
    have hB77:Below w.heap.size w W7:=by rw [hW7];exact bB
    clear hW7 hL7;with_reducible refine (K1.out _).mono ?_
    rintro e w7 ⟨rfl,hb7⟩;have c78:=c73.up hb7;have c79:=c74.up hb7;have c80:=c75.up hb7;have c81:=c76.up hb7;have hB82:Below w.heap.size w w7:=bel_up hB77 hb7;clear c73 c74 c75 c76;have uc78:=c78;have uc79:=c79;have uc80:=c80;have uc81:=c81;simp only [At,Own,Nat.reduceAdd,and_true] at uc78 uc79 uc80 uc81;go_wp2_with (fail)
    refine calls_named ?_;intro W8 hW8;have hL8:Below w7.heap.size w7 W8:=by rw [hW8];exact bB
    have c83:=c78.up hL8;have c84:=c79.up hL8;have c85:=c80.up hL8;have c86:=c81.up hL8;have hB87:Below w.heap.size w W8:=by rw [hW8];exact bB
    clear hW8 hL8 uc78 uc79 uc80 uc81 c78 c79 c80 c81;with_reducible refine (K4.out _).mono ?_
    rintro e w8 ⟨rfl,hb8⟩;have c88:=c83.up hb8;have c89:=c84.up hb8;have c90:=c85.up hb8;have c91:=c86.up hb8;have hB92:Below w.heap.size w w8:=bel_up hB87 hb8;clear c83 c84 c85 c86;have uc88:=c88;have uc89:=c89;have uc90:=c90;have uc91:=c91;simp only [At,Own,Nat.reduceAdd,and_true] at uc88 uc89 uc90 uc91;go_wp2_with (fail)
    refine calls_named ?_;intro W9 hW9;have hL9:Below w8.heap.size w8 W9:=by rw [hW9];exact bB
    have c93:=c88.up hL9;have c94:=c89.up hL9;have c95:=c90.up hL9;have c96:=c91.up hL9;have hB97:Below w.heap.size w W9:=by rw [hW9];exact bB
    clear hW9 hL9 uc88 uc89 uc90 uc91 c88 c89 c90 c91;with_reducible refine (K7.out _).mono ?_
    rintro e w9 ⟨rfl,hb9⟩;have c98:=c93.up hb9;have c99:=c94.up hb9;have c100:=c95.up hb9;have c101:=c96.up hb9;have hB102:Below w.heap.size w w9:=bel_up hB97 hb9;clear c93 c94 c95 c96;have uc98:=c98;have uc99:=c99;have uc100:=c100;have uc101:=c101;simp only [At,Own,Nat.reduceAdd,and_true] at uc98 uc99 uc100 uc101;go_wp2_with (fail)
    refine calls_named ?_;intro W10 hW10;have hL10:Below w9.heap.size w9 W10:=by rw [hW10];exact bB
    have c103:=c98.up hL10;have c104:=c99.up hL10;have c105:=c100.up hL10;have c106:=c101.up hL10;have hB107:Below w.heap.size w W10:=by rw [hW10];exact bB
    clear hW10 hL10 uc98 uc99 uc100 uc101 c98 c99 c100 c101;with_reducible refine (K10.out _).mono ?_
    rintro e w10 ⟨rfl,hb10⟩;have c108:=c103.up hb10;have c109:=c104.up hb10;have c110:=c105.up hb10;have c111:=c106.up hb10;have hB112:Below w.heap.size w w10:=bel_up hB107 hb10;clear c103 c104 c105 c106;cases b11
    ·skip
     have kK113:=fun W=>rturn_any a b c W ha hb hc hS
     generalize hT115:Pl.turn a b c=t114 at kK113;have K113:=Lib.hid kK113;clear kK113;have T116:=Lib.hid (sgn3 hT115);have HhT115:=Lib.hid hT115;clear hT115;have kK117:=fun W=>rturn_any a b d W ha hb hd hS
     generalize hT119:Pl.turn a b d=t118 at kK117;have K117:=Lib.hid kK117;clear kK117;have T120:=Lib.hid (sgn3 hT119);have HhT119:=Lib.hid hT119;clear hT119;have kK121:=fun W=>rturn_any c d a W hc hd ha hS
     generalize hT123:Pl.turn c d a=t122 at kK121;have K121:=Lib.hid kK121;clear kK121;have T124:=Lib.hid (sgn3 hT123);have HhT123:=Lib.hid hT123;clear hT123;have kK125:=fun W=>rturn_any c d b W hc hd hb hS
     generalize hT127:Pl.turn c d b=t126 at kK125;have K125:=Lib.hid kK125;clear kK125;have T128:=Lib.hid (sgn3 hT127);have HhT127:=Lib.hid hT127;clear hT127;rcases T116.out with rfl|rfl|rfl
     ·skip
      rcases T120.out with rfl|rfl|rfl
      ·skip
       go_wp2_with fail;refine wp_named ?_;intro W11 hW11;have hL11:Below w10.heap.size w10 W11:=by rw [hW11];exact bB
       have c129:=c108.up hL11;have c130:=c109.up hL11;have c131:=c110.up hL11;have c132:=c111.up hL11;have hB133:Below w.heap.size w W11:=by rw [hW11];exact bB
       clear hW11 hL11 c108 c109 c110 c111;have dc129:=fun p:Bel W11=>c129.bel p;have dc130:=fun p:Bel W11=>c130.bel p;have dc131:=fun p:Bel W11=>c131.bel p;have dc132:=fun p:Bel W11=>c132.bel p
       simp only [At,Own,Nat.reduceAdd,and_true] at dc129 dc130 dc131 dc132;refine wp_region_tail 22 (by kernel_rfl) (by kernel_rfl) ?_;simp only [List.take_succ_cons,List.take_zero,List.drop_succ_cons,List.drop_zero];repeat (go_big_quiet_step (first|(go_at_call 79;with_reducible exact Calls.bel (K113.out _))|(go_at_call 79;with_reducible exact Calls.bel (K117.out _))))
       refine wpQuiet_nil ?_;intro w11 hb11;have c134:=c129.up hb11;have c135:=c130.up hb11;have c136:=c131.up hb11;have c137:=c132.up hb11;have hB138:Below w.heap.size w w11:=bel_up hB133 hb11;clear dc129 dc130 dc131 dc132 c129 c130 c131 c132;have uc134:=c134;have uc135:=c135;have uc136:=c136;have uc137:=c137;simp only [At,Own,Nat.reduceAdd,and_true] at uc134 uc135 uc136 uc137;go_wp2;go_ret;refine ⟨(by unfold Pg.meetR;rw [HhT3.out,HhT6.out,HhT9.out,HhT12.out,HhT115.out,HhT119.out,HhT123.out,HhT127.out]<;>rfl),?_⟩;exact bB
      ·skip
       go_wp2_with fail;refine wp_named ?_;intro W12 hW12;have hL12:Below w10.heap.size w10 W12:=by rw [hW12];exact bB
       have c139:=c108.up hL12;have c140:=c109.up hL12;have c141:=c110.up hL12;have c142:=c111.up hL12;have hB143:Below w.heap.size w W12:=by rw [hW12];exact bB
       clear hW12 hL12 c108 c109 c110 c111;have dc139:=fun p:Bel W12=>c139.bel p;have dc140:=fun p:Bel W12=>c140.bel p;have dc141:=fun p:Bel W12=>c141.bel p;have dc142:=fun p:Bel W12=>c142.bel p
       simp only [At,Own,Nat.reduceAdd,and_true] at dc139 dc140 dc141 dc142;refine wp_region_tail 22 (by kernel_rfl) (by kernel_rfl) ?_;simp only [List.take_succ_cons,List.take_zero,List.drop_succ_cons,List.drop_zero];repeat (go_big_quiet_step (first|(go_at_call 79;with_reducible exact Calls.bel (K113.out _))|(go_at_call 79;with_reducible exact Calls.bel (K117.out _))))
       refine wpQuiet_nil ?_;intro w12 hb12;have c144:=c139.up hb12;have c145:=c140.up hb12;have c146:=c141.up hb12;have c147:=c142.up hb12;have hB148:Below w.heap.size w w12:=bel_up hB143 hb12;clear dc139 dc140 dc141 dc142 c139 c140 c141 c142;have uc144:=c144;have uc145:=c145;have uc146:=c146;have uc147:=c147;simp only [At,Own,Nat.reduceAdd,and_true] at uc144 uc145 uc146 uc147;go_wp2;go_ret;refine ⟨(by unfold Pg.meetR;rw [HhT3.out,HhT6.out,HhT9.out,HhT12.out,HhT115.out,HhT119.out,HhT123.out,HhT127.out]<;>rfl),?_⟩;exact bB
      ·skip
       rcases T124.out with rfl|rfl|rfl
       ·skip
        rcases T128.out with rfl|rfl|rfl
        ·skip
         go_wp2_with fail;refine wp_named ?_;intro W13 hW13;have hL13:Below w10.heap.size w10 W13:=by rw [hW13];exact bB
         have c149:=c108.up hL13;have c150:=c109.up hL13;have c151:=c110.up hL13;have c152:=c111.up hL13;have hB153:Below w.heap.size w W13:=by rw [hW13];exact bB
         clear hW13 hL13 c108 c109 c110 c111;have dc149:=fun p:Bel W13=>c149.bel p;have dc150:=fun p:Bel W13=>c150.bel p;have dc151:=fun p:Bel W13=>c151.bel p;have dc152:=fun p:Bel W13=>c152.bel p
         simp only [At,Own,Nat.reduceAdd,and_true] at dc149 dc150 dc151 dc152;refine wp_region_tail 22 (by kernel_rfl) (by kernel_rfl) ?_;simp only [List.take_succ_cons,List.take_zero,List.drop_succ_cons,List.drop_zero];repeat (go_big_quiet_step (first|(go_at_call 79;with_reducible exact Calls.bel (K113.out _))|(go_at_call 79;with_reducible exact Calls.bel (K117.out _))|(go_at_call 79;with_reducible exact Calls.bel (K121.out _))|(go_at_call 79;with_reducible exact Calls.bel (K125.out _))))
         refine wpQuiet_nil ?_;intro w13 hb13;have c154:=c149.up hb13;have c155:=c150.up hb13;have c156:=c151.up hb13;have c157:=c152.up hb13;have hB158:Below w.heap.size w w13:=bel_up hB153 hb13;clear dc149 dc150 dc151 dc152 c149 c150 c151 c152;have uc154:=c154;have uc155:=c155;have uc156:=c156;have uc157:=c157;simp only [At,Own,Nat.reduceAdd,and_true] at uc154 uc155 uc156 uc157;go_wp2;go_ret;refine ⟨(by unfold Pg.meetR;rw [HhT3.out,HhT6.out,HhT9.out,HhT12.out,HhT115.out,HhT119.out,HhT123.out,HhT127.out]<;>rfl),?_⟩;exact bB
        ·skip
         go_wp2_with fail;refine wp_named ?_;intro W14 hW14;have hL14:Below w10.heap.size w10 W14:=by rw [hW14];exact bB
         have c159:=c108.up hL14;have c160:=c109.up hL14;have c161:=c110.up hL14;have c162:=c111.up hL14;have hB163:Below w.heap.size w W14:=by rw [hW14];exact bB
         clear hW14 hL14 c108 c109 c110 c111;have dc159:=fun p:Bel W14=>c159.bel p;have dc160:=fun p:Bel W14=>c160.bel p;have dc161:=fun p:Bel W14=>c161.bel p;have dc162:=fun p:Bel W14=>c162.bel p
         simp only [At,Own,Nat.reduceAdd,and_true] at dc159 dc160 dc161 dc162;refine wp_region_tail 22 (by kernel_rfl) (by kernel_rfl) ?_;simp only [List.take_succ_cons,List.take_zero,List.drop_succ_cons,List.drop_zero];repeat (go_big_quiet_step (first|(go_at_call 79;with_reducible exact Calls.bel (K113.out _))|(go_at_call 79;with_reducible exact Calls.bel (K117.out _))|(go_at_call 79;with_reducible exact Calls.bel (K121.out _))|(go_at_call 79;with_reducible exact Calls.bel (K125.out _))))
         refine wpQuiet_nil ?_;intro w14 hb14;have c164:=c159.up hb14;have c165:=c160.up hb14;have c166:=c161.up hb14;have c167:=c162.up hb14;have hB168:Below w.heap.size w w14:=bel_up hB163 hb14;clear dc159 dc160 dc161 dc162 c159 c160 c161 c162;have uc164:=c164;have uc165:=c165;have uc166:=c166;have uc167:=c167;simp only [At,Own,Nat.reduceAdd,and_true] at uc164 uc165 uc166 uc167;go_wp2;go_ret;refine ⟨(by unfold Pg.meetR;rw [HhT3.out,HhT6.out,HhT9.out,HhT12.out,HhT115.out,HhT119.out,HhT123.out,HhT127.out]<;>rfl),?_⟩;exact bB
        ·skip
         go_wp2_with fail;refine wp_named ?_;intro W15 hW15;have hL15:Below w10.heap.size w10 W15:=by rw [hW15];exact bB
         have c169:=c108.up hL15;have c170:=c109.up hL15;have c171:=c110.up hL15;have c172:=c111.up hL15;have hB173:Below w.heap.size w W15:=by rw [hW15];exact bB
         clear hW15 hL15 c108 c109 c110 c111;have dc169:=fun p:Bel W15=>c169.bel p;have dc170:=fun p:Bel W15=>c170.bel p;have dc171:=fun p:Bel W15=>c171.bel p;have dc172:=fun p:Bel W15=>c172.bel p
         simp only [At,Own,Nat.reduceAdd,and_true] at dc169 dc170 dc171 dc172;refine wp_region_tail 22 (by kernel_rfl) (by kernel_rfl) ?_;simp only [List.take_succ_cons,List.take_zero,List.drop_succ_cons,List.drop_zero];repeat (go_big_quiet_step (first|(go_at_call 79;with_reducible exact Calls.bel (K113.out _))|(go_at_call 79;with_reducible exact Calls.bel (K117.out _))|(go_at_call 79;with_reducible exact Calls.bel (K121.out _))|(go_at_call 79;with_reducible exact Calls.bel (K125.out _))))
         refine wpQuiet_nil ?_;intro w15 hb15;have c174:=c169.up hb15;have c175:=c170.up hb15;have c176:=c171.up hb15;have c177:=c172.up hb15;have hB178:Below w.heap.size w w15:=bel_up hB173 hb15;clear dc169 dc170 dc171 dc172 c169 c170 c171 c172;have uc174:=c174;have uc175:=c175;have uc176:=c176;have uc177:=c177;simp only [At,Own,Nat.reduceAdd,and_true] at uc174 uc175 uc176 uc177;go_wp2;go_ret;refine ⟨(by unfold Pg.meetR;rw [HhT3.out,HhT6.out,HhT9.out,HhT12.out,HhT115.out,HhT119.out,HhT123.out,HhT127.out]<;>rfl),?_⟩;exact bB
       ·skip
        rcases T128.out with rfl|rfl|rfl
        ·skip
         go_wp2_with fail;refine wp_named ?_;intro W16 hW16;have hL16:Below w10.heap.size w10 W16:=by rw [hW16];exact bB
         have c179:=c108.up hL16;have c180:=c109.up hL16;have c181:=c110.up hL16;have c182:=c111.up hL16;have hB183:Below w.heap.size w W16:=by rw [hW16];exact bB
         clear hW16 hL16 c108 c109 c110 c111;have dc179:=fun p:Bel W16=>c179.bel p;have dc180:=fun p:Bel W16=>c180.bel p;have dc181:=fun p:Bel W16=>c181.bel p;have dc182:=fun p:Bel W16=>c182.bel p
         simp only [At,Own,Nat.reduceAdd,and_true] at dc179 dc180 dc181 dc182;refine wp_region_tail 22 (by kernel_rfl) (by kernel_rfl) ?_;simp only [List.take_succ_cons,List.take_zero,List.drop_succ_cons,List.drop_zero];repeat (go_big_quiet_step (first|(go_at_call 79;with_reducible exact Calls.bel (K113.out _))|(go_at_call 79;with_reducible exact Calls.bel (K117.out _))|(go_at_call 79;with_reducible exact Calls.bel (K121.out _))|(go_at_call 79;with_reducible exact Calls.bel (K125.out _))))
         refine wpQuiet_nil ?_;intro w16 hb16;have c184:=c179.up hb16;have c185:=c180.up hb16;have c186:=c181.up hb16;have c187:=c182.up hb16;have hB188:Below w.heap.size w w16:=bel_up hB183 hb16;clear dc179 dc180 dc181 dc182 c179 c180 c181 c182;have uc184:=c184;have uc185:=c185;have uc186:=c186;have uc187:=c187;simp only [At,Own,Nat.reduceAdd,and_true] at uc184 uc185 uc186 uc187;go_wp2;go_ret;refine ⟨(by unfold Pg.meetR;rw [HhT3.out,HhT6.out,HhT9.out,HhT12.out,HhT115.out,HhT119.out,HhT123.out,HhT127.out]<;>rfl),?_⟩;exact bB
        ·skip
         go_wp2_with fail;refine wp_named ?_;intro W17 hW17;have hL17:Below w10.heap.size w10 W17:=by rw [hW17];exact bB
         have c189:=c108.up hL17;have c190:=c109.up hL17;have c191:=c110.up hL17;have c192:=c111.up hL17;have hB193:Below w.heap.size w W17:=by rw [hW17];exact bB
         clear hW17 hL17 c108 c109 c110 c111;have dc189:=fun p:Bel W17=>c189.bel p;have dc190:=fun p:Bel W17=>c190.bel p;have dc191:=fun p:Bel W17=>c191.bel p;have dc192:=fun p:Bel W17=>c192.bel p
         simp only [At,Own,Nat.reduceAdd,and_true] at dc189 dc190 dc191 dc192;refine wp_region_tail 22 (by kernel_rfl) (by kernel_rfl) ?_;simp only [List.take_succ_cons,List.take_zero,List.drop_succ_cons,List.drop_zero];repeat (go_big_quiet_step (first|(go_at_call 79;with_reducible exact Calls.bel (K113.out _))|(go_at_call 79;with_reducible exact Calls.bel (K117.out _))|(go_at_call 79;with_reducible exact Calls.bel (K121.out _))|(go_at_call 79;with_reducible exact Calls.bel (K125.out _))))
         refine wpQuiet_nil ?_;intro w17 hb17;have c194:=c189.up hb17;have c195:=c190.up hb17;have c196:=c191.up hb17;have c197:=c192.up hb17;have hB198:Below w.heap.size w w17:=bel_up hB193 hb17;clear dc189 dc190 dc191 dc192 c189 c190 c191 c192;have uc194:=c194;have uc195:=c195;have uc196:=c196;have uc197:=c197;simp only [At,Own,Nat.reduceAdd,and_true] at uc194 uc195 uc196 uc197;go_wp2;go_ret;refine ⟨(by unfold Pg.meetR;rw [HhT3.out,HhT6.out,HhT9.out,HhT12.out,HhT115.out,HhT119.out,HhT123.out,HhT127.out]<;>rfl),?_⟩;exact bB
        ·skip
         go_wp2_with fail;refine wp_named ?_;intro W18 hW18;have hL18:Below w10.heap.size w10 W18:=by rw [hW18];exact bB
         have c199:=c108.up hL18;have c200:=c109.up hL18;have c201:=c110.up hL18;have c202:=c111.up hL18;have hB203:Below w.heap.size w W18:=by rw [hW18];exact bB
         clear hW18 hL18 c108 c109 c110 c111;have dc199:=fun p:Bel W18=>c199.bel p;have dc200:=fun p:Bel W18=>c200.bel p;have dc201:=fun p:Bel W18=>c201.bel p;have dc202:=fun p:Bel W18=>c202.bel p
         simp only [At,Own,Nat.reduceAdd,and_true] at dc199 dc200 dc201 dc202;refine wp_region_tail 22 (by kernel_rfl) (by kernel_rfl) ?_;simp only [List.take_succ_cons,List.take_zero,List.drop_succ_cons,List.drop_zero];repeat (go_big_quiet_step (first|(go_at_call 79;with_reducible exact Calls.bel (K113.out _))|(go_at_call 79;with_reducible exact Calls.bel (K117.out _))|(go_at_call 79;with_reducible exact Calls.bel (K121.out _))|(go_at_call 79;with_reducible exact Calls.bel (K125.out _))))
         refine wpQuiet_nil ?_;intro w18 hb18;have c204:=c199.up hb18;have c205:=c200.up hb18;have c206:=c201.up hb18;have c207:=c202.up hb18;have hB208:Below w.heap.size w w18:=bel_up hB203 hb18;clear dc199 dc200 dc201 dc202 c199 c200 c201 c202;have uc204:=c204;have uc205:=c205;have uc206:=c206;have uc207:=c207;simp only [At,Own,Nat.reduceAdd,and_true] at uc204 uc205 uc206 uc207;go_wp2;go_ret;refine ⟨(by unfold Pg.meetR;rw [HhT3.out,HhT6.out,HhT9.out,HhT12.out,HhT115.out,HhT119.out,HhT123.out,HhT127.out]<;>rfl),?_⟩;exact bB
       ·skip
        rcases T128.out with rfl|rfl|rfl
        ·skip
         go_wp2_with fail;refine wp_named ?_;intro W19 hW19;have hL19:Below w10.heap.size w10 W19:=by rw [hW19];exact bB
         have c209:=c108.up hL19;have c210:=c109.up hL19;have c211:=c110.up hL19;have c212:=c111.up hL19;have hB213:Below w.heap.size w W19:=by rw [hW19];exact bB
         clear hW19 hL19 c108 c109 c110 c111;have dc209:=fun p:Bel W19=>c209.bel p;have dc210:=fun p:Bel W19=>c210.bel p;have dc211:=fun p:Bel W19=>c211.bel p;have dc212:=fun p:Bel W19=>c212.bel p
         simp only [At,Own,Nat.reduceAdd,and_true] at dc209 dc210 dc211 dc212;refine wp_region_tail 22 (by kernel_rfl) (by kernel_rfl) ?_;simp only [List.take_succ_cons,List.take_zero,List.drop_succ_cons,List.drop_zero];repeat (go_big_quiet_step (first|(go_at_call 79;with_reducible exact Calls.bel (K113.out _))|(go_at_call 79;with_reducible exact Calls.bel (K117.out _))|(go_at_call 79;with_reducible exact Calls.bel (K121.out _))|(go_at_call 79;with_reducible exact Calls.bel (K125.out _))))
         refine wpQuiet_nil ?_;intro w19 hb19;have c214:=c209.up hb19;have c215:=c210.up hb19;have c216:=c211.up hb19;have c217:=c212.up hb19;have hB218:Below w.heap.size w w19:=bel_up hB213 hb19;clear dc209 dc210 dc211 dc212 c209 c210 c211 c212;have uc214:=c214;have uc215:=c215;have uc216:=c216;have uc217:=c217;simp only [At,Own,Nat.reduceAdd,and_true] at uc214 uc215 uc216 uc217;go_wp2;go_ret;refine ⟨(by unfold Pg.meetR;rw [HhT3.out,HhT6.out,HhT9.out,HhT12.out,HhT115.out,HhT119.out,HhT123.out,HhT127.out]<;>rfl),?_⟩;exact bB
        ·skip
         go_wp2_with fail;refine wp_named ?_;intro W20 hW20;have hL20:Below w10.heap.size w10 W20:=by rw [hW20];exact bB
         have c219:=c108.up hL20;have c220:=c109.up hL20;have c221:=c110.up hL20;have c222:=c111.up hL20;have hB223:Below w.heap.size w W20:=by rw [hW20];exact bB
         clear hW20 hL20 c108 c109 c110 c111;have dc219:=fun p:Bel W20=>c219.bel p;have dc220:=fun p:Bel W20=>c220.bel p;have dc221:=fun p:Bel W20=>c221.bel p;have dc222:=fun p:Bel W20=>c222.bel p
         simp only [At,Own,Nat.reduceAdd,and_true] at dc219 dc220 dc221 dc222;refine wp_region_tail 22 (by kernel_rfl) (by kernel_rfl) ?_;simp only [List.take_succ_cons,List.take_zero,List.drop_succ_cons,List.drop_zero];repeat (go_big_quiet_step (first|(go_at_call 79;with_reducible exact Calls.bel (K113.out _))|(go_at_call 79;with_reducible exact Calls.bel (K117.out _))|(go_at_call 79;with_reducible exact Calls.bel (K121.out _))|(go_at_call 79;with_reducible exact Calls.bel (K125.out _))))
         refine wpQuiet_nil ?_;intro w20 hb20;have c224:=c219.up hb20;have c225:=c220.up hb20;have c226:=c221.up hb20;have c227:=c222.up hb20;have hB228:Below w.heap.size w w20:=bel_up hB223 hb20;clear dc219 dc220 dc221 dc222 c219 c220 c221 c222;have uc224:=c224;have uc225:=c225;have uc226:=c226;have uc227:=c227;simp only [At,Own,Nat.reduceAdd,and_true] at uc224 uc225 uc226 uc227;go_wp2;go_ret;refine ⟨(by unfold Pg.meetR;rw [HhT3.out,HhT6.out,HhT9.out,HhT12.out,HhT115.out,HhT119.out,HhT123.out,HhT127.out]<;>rfl),?_⟩;exact bB
        ·skip
         go_wp2_with fail;refine wp_named ?_;intro W21 hW21;have hL21:Below w10.heap.size w10 W21:=by rw [hW21];exact bB
         have c229:=c108.up hL21;have c230:=c109.up hL21;have c231:=c110.up hL21;have c232:=c111.up hL21;have hB233:Below w.heap.size w W21:=by rw [hW21];exact bB
         clear hW21 hL21 c108 c109 c110 c111;have dc229:=fun p:Bel W21=>c229.bel p;have dc230:=fun p:Bel W21=>c230.bel p;have dc231:=fun p:Bel W21=>c231.bel p;have dc232:=fun p:Bel W21=>c232.bel p
         simp only [At,Own,Nat.reduceAdd,and_true] at dc229 dc230 dc231 dc232;refine wp_region_tail 22 (by kernel_rfl) (by kernel_rfl) ?_;simp only [List.take_succ_cons,List.take_zero,List.drop_succ_cons,List.drop_zero];repeat (go_big_quiet_step (first|(go_at_call 79;with_reducible exact Calls.bel (K113.out _))|(go_at_call 79;with_reducible exact Calls.bel (K117.out _))|(go_at_call 79;with_reducible exact Calls.bel (K121.out _))|(go_at_call 79;with_reducible exact Calls.bel (K125.out _))))
         refine wpQuiet_nil ?_;intro w21 hb21;have c234:=c229.up hb21;have c235:=c230.up hb21;have c236:=c231.up hb21;have c237:=c232.up hb21;have hB238:Below w.heap.size w w21:=bel_up hB233 hb21;clear dc229 dc230 dc231 dc232 c229 c230 c231 c232;have uc234:=c234;have uc235:=c235;have uc236:=c236;have uc237:=c237;simp only [At,Own,Nat.reduceAdd,and_true] at uc234 uc235 uc236 uc237;go_wp2;go_ret;refine ⟨(by unfold Pg.meetR;rw [HhT3.out,HhT6.out,HhT9.out,HhT12.out,HhT115.out,HhT119.out,HhT123.out,HhT127.out]<;>rfl),?_⟩;exact bB
     ·skip
      rcases T120.out with rfl|rfl|rfl
      ·skip
       go_wp2_with fail;refine wp_named ?_;intro W22 hW22;have hL22:Below w10.heap.size w10 W22:=by rw [hW22];exact bB
       have c239:=c108.up hL22;have c240:=c109.up hL22;have c241:=c110.up hL22;have c242:=c111.up hL22;have hB243:Below w.heap.size w W22:=by rw [hW22];exact bB
       clear hW22 hL22 c108 c109 c110 c111;have dc239:=fun p:Bel W22=>c239.bel p;have dc240:=fun p:Bel W22=>c240.bel p;have dc241:=fun p:Bel W22=>c241.bel p;have dc242:=fun p:Bel W22=>c242.bel p
       simp only [At,Own,Nat.reduceAdd,and_true] at dc239 dc240 dc241 dc242;refine wp_region_tail 22 (by kernel_rfl) (by kernel_rfl) ?_;simp only [List.take_succ_cons,List.take_zero,List.drop_succ_cons,List.drop_zero];repeat (go_big_quiet_step (first|(go_at_call 79;with_reducible exact Calls.bel (K113.out _))|(go_at_call 79;with_reducible exact Calls.bel (K117.out _))))
       refine wpQuiet_nil ?_;intro w22 hb22;have c244:=c239.up hb22;have c245:=c240.up hb22;have c246:=c241.up hb22;have c247:=c242.up hb22;have hB248:Below w.heap.size w w22:=bel_up hB243 hb22;clear dc239 dc240 dc241 dc242 c239 c240 c241 c242;have uc244:=c244;have uc245:=c245;have uc246:=c246;have uc247:=c247;simp only [At,Own,Nat.reduceAdd,and_true] at uc244 uc245 uc246 uc247;go_wp2;go_ret;refine ⟨(by unfold Pg.meetR;rw [HhT3.out,HhT6.out,HhT9.out,HhT12.out,HhT115.out,HhT119.out,HhT123.out,HhT127.out]<;>rfl),?_⟩;exact bB
      ·skip
       go_wp2_with fail;refine wp_named ?_;intro W23 hW23;have hL23:Below w10.heap.size w10 W23:=by rw [hW23];exact bB
       have c249:=c108.up hL23;have c250:=c109.up hL23;have c251:=c110.up hL23;have c252:=c111.up hL23;have hB253:Below w.heap.size w W23:=by rw [hW23];exact bB
       clear hW23 hL23 c108 c109 c110 c111;have dc249:=fun p:Bel W23=>c249.bel p;have dc250:=fun p:Bel W23=>c250.bel p;have dc251:=fun p:Bel W23=>c251.bel p;have dc252:=fun p:Bel W23=>c252.bel p
       simp only [At,Own,Nat.reduceAdd,and_true] at dc249 dc250 dc251 dc252;refine wp_region_tail 22 (by kernel_rfl) (by kernel_rfl) ?_;simp only [List.take_succ_cons,List.take_zero,List.drop_succ_cons,List.drop_zero];repeat (go_big_quiet_step (first|(go_at_call 79;with_reducible exact Calls.bel (K113.out _))|(go_at_call 79;with_reducible exact Calls.bel (K117.out _))))
       refine wpQuiet_nil ?_;intro w23 hb23;have c254:=c249.up hb23;have c255:=c250.up hb23;have c256:=c251.up hb23;have c257:=c252.up hb23;have hB258:Below w.heap.size w w23:=bel_up hB253 hb23;clear dc249 dc250 dc251 dc252 c249 c250 c251 c252;have uc254:=c254;have uc255:=c255;have uc256:=c256;have uc257:=c257;simp only [At,Own,Nat.reduceAdd,and_true] at uc254 uc255 uc256 uc257;go_wp2;go_ret;refine ⟨(by unfold Pg.meetR;rw [HhT3.out,HhT6.out,HhT9.out,HhT12.out,HhT115.out,HhT119.out,HhT123.out,HhT127.out]<;>rfl),?_⟩;exact bB
      ·skip
       go_wp2_with fail;refine wp_named ?_;intro W24 hW24;have hL24:Below w10.heap.size w10 W24:=by rw [hW24];exact bB
       have c259:=c108.up hL24;have c260:=c109.up hL24;have c261:=c110.up hL24;have c262:=c111.up hL24;have hB263:Below w.heap.size w W24:=by rw [hW24];exact bB
       clear hW24 hL24 c108 c109 c110 c111;have dc259:=fun p:Bel W24=>c259.bel p;have dc260:=fun p:Bel W24=>c260.bel p;have dc261:=fun p:Bel W24=>c261.bel p;have dc262:=fun p:Bel W24=>c262.bel p
       simp only [At,Own,Nat.reduceAdd,and_true] at dc259 dc260 dc261 dc262;refine wp_region_tail 22 (by kernel_rfl) (by kernel_rfl) ?_;simp only [List.take_succ_cons,List.take_zero,List.drop_succ_cons,List.drop_zero];repeat (go_big_quiet_step (first|(go_at_call 79;with_reducible exact Calls.bel (K113.out _))|(go_at_call 79;with_reducible exact Calls.bel (K117.out _))))
       refine wpQuiet_nil ?_;intro w24 hb24;have c264:=c259.up hb24;have c265:=c260.up hb24;have c266:=c261.up hb24;have c267:=c262.up hb24;have hB268:Below w.heap.size w w24:=bel_up hB263 hb24;clear dc259 dc260 dc261 dc262 c259 c260 c261 c262;have uc264:=c264;have uc265:=c265;have uc266:=c266;have uc267:=c267;simp only [At,Own,Nat.reduceAdd,and_true] at uc264 uc265 uc266 uc267;go_wp2;go_ret;refine ⟨(by unfold Pg.meetR;rw [HhT3.out,HhT6.out,HhT9.out,HhT12.out,HhT115.out,HhT119.out,HhT123.out,HhT127.out]<;>rfl),?_⟩;exact bB
     ·skip
      rcases T120.out with rfl|rfl|rfl
      ·skip
       rcases T124.out with rfl|rfl|rfl
       ·skip
        rcases T128.out with rfl|rfl|rfl
        ·skip
         go_wp2_with fail;refine wp_named ?_;intro W25 hW25;have hL25:Below w10.heap.size w10 W25:=by rw [hW25];exact bB
         have c269:=c108.up hL25;have c270:=c109.up hL25;have c271:=c110.up hL25;have c272:=c111.up hL25;have hB273:Below w.heap.size w W25:=by rw [hW25];exact bB
         clear hW25 hL25 c108 c109 c110 c111;have dc269:=fun p:Bel W25=>c269.bel p;have dc270:=fun p:Bel W25=>c270.bel p;have dc271:=fun p:Bel W25=>c271.bel p;have dc272:=fun p:Bel W25=>c272.bel p
         simp only [At,Own,Nat.reduceAdd,and_true] at dc269 dc270 dc271 dc272;refine wp_region_tail 22 (by kernel_rfl) (by kernel_rfl) ?_;simp only [List.take_succ_cons,List.take_zero,List.drop_succ_cons,List.drop_zero];repeat (go_big_quiet_step (first|(go_at_call 79;with_reducible exact Calls.bel (K113.out _))|(go_at_call 79;with_reducible exact Calls.bel (K117.out _))|(go_at_call 79;with_reducible exact Calls.bel (K121.out _))|(go_at_call 79;with_reducible exact Calls.bel (K125.out _))))
         refine wpQuiet_nil ?_;intro w25 hb25;have c274:=c269.up hb25;have c275:=c270.up hb25;have c276:=c271.up hb25;have c277:=c272.up hb25;have hB278:Below w.heap.size w w25:=bel_up hB273 hb25;clear dc269 dc270 dc271 dc272 c269 c270 c271 c272;have uc274:=c274;have uc275:=c275;have uc276:=c276;have uc277:=c277;simp only [At,Own,Nat.reduceAdd,and_true] at uc274 uc275 uc276 uc277;go_wp2;go_ret;refine ⟨(by unfold Pg.meetR;rw [HhT3.out,HhT6.out,HhT9.out,HhT12.out,HhT115.out,HhT119.out,HhT123.out,HhT127.out]<;>rfl),?_⟩;exact bB
        ·skip
         go_wp2_with fail;refine wp_named ?_;intro W26 hW26;have hL26:Below w10.heap.size w10 W26:=by rw [hW26];exact bB
         have c279:=c108.up hL26;have c280:=c109.up hL26;have c281:=c110.up hL26;have c282:=c111.up hL26;have hB283:Below w.heap.size w W26:=by rw [hW26];exact bB
         clear hW26 hL26 c108 c109 c110 c111;have dc279:=fun p:Bel W26=>c279.bel p;have dc280:=fun p:Bel W26=>c280.bel p;have dc281:=fun p:Bel W26=>c281.bel p;have dc282:=fun p:Bel W26=>c282.bel p
         simp only [At,Own,Nat.reduceAdd,and_true] at dc279 dc280 dc281 dc282;refine wp_region_tail 22 (by kernel_rfl) (by kernel_rfl) ?_;simp only [List.take_succ_cons,List.take_zero,List.drop_succ_cons,List.drop_zero];repeat (go_big_quiet_step (first|(go_at_call 79;with_reducible exact Calls.bel (K113.out _))|(go_at_call 79;with_reducible exact Calls.bel (K117.out _))|(go_at_call 79;with_reducible exact Calls.bel (K121.out _))|(go_at_call 79;with_reducible exact Calls.bel (K125.out _))))
         refine wpQuiet_nil ?_;intro w26 hb26;have c284:=c279.up hb26;have c285:=c280.up hb26;have c286:=c281.up hb26;have c287:=c282.up hb26;have hB288:Below w.heap.size w w26:=bel_up hB283 hb26;clear dc279 dc280 dc281 dc282 c279 c280 c281 c282;have uc284:=c284;have uc285:=c285;have uc286:=c286;have uc287:=c287;simp only [At,Own,Nat.reduceAdd,and_true] at uc284 uc285 uc286 uc287;go_wp2;go_ret;refine ⟨(by unfold Pg.meetR;rw [HhT3.out,HhT6.out,HhT9.out,HhT12.out,HhT115.out,HhT119.out,HhT123.out,HhT127.out]<;>rfl),?_⟩;exact bB
        ·skip
         go_wp2_with fail;refine wp_named ?_;intro W27 hW27;have hL27:Below w10.heap.size w10 W27:=by rw [hW27];exact bB
         have c289:=c108.up hL27;have c290:=c109.up hL27;have c291:=c110.up hL27;have c292:=c111.up hL27;have hB293:Below w.heap.size w W27:=by rw [hW27];exact bB
         clear hW27 hL27 c108 c109 c110 c111;have dc289:=fun p:Bel W27=>c289.bel p;have dc290:=fun p:Bel W27=>c290.bel p;have dc291:=fun p:Bel W27=>c291.bel p;have dc292:=fun p:Bel W27=>c292.bel p
         simp only [At,Own,Nat.reduceAdd,and_true] at dc289 dc290 dc291 dc292;refine wp_region_tail 22 (by kernel_rfl) (by kernel_rfl) ?_;simp only [List.take_succ_cons,List.take_zero,List.drop_succ_cons,List.drop_zero];repeat (go_big_quiet_step (first|(go_at_call 79;with_reducible exact Calls.bel (K113.out _))|(go_at_call 79;with_reducible exact Calls.bel (K117.out _))|(go_at_call 79;with_reducible exact Calls.bel (K121.out _))|(go_at_call 79;with_reducible exact Calls.bel (K125.out _))))
         refine wpQuiet_nil ?_;intro w27 hb27;have c294:=c289.up hb27;have c295:=c290.up hb27;have c296:=c291.up hb27;have c297:=c292.up hb27;have hB298:Below w.heap.size w w27:=bel_up hB293 hb27;clear dc289 dc290 dc291 dc292 c289 c290 c291 c292;have uc294:=c294;have uc295:=c295;have uc296:=c296;have uc297:=c297;simp only [At,Own,Nat.reduceAdd,and_true] at uc294 uc295 uc296 uc297;go_wp2;go_ret;refine ⟨(by unfold Pg.meetR;rw [HhT3.out,HhT6.out,HhT9.out,HhT12.out,HhT115.out,HhT119.out,HhT123.out,HhT127.out]<;>rfl),?_⟩;exact bB
       ·skip
        rcases T128.out with rfl|rfl|rfl
        ·skip
         go_wp2_with fail;refine wp_named ?_;intro W28 hW28;have hL28:Below w10.heap.size w10 W28:=by rw [hW28];exact bB
         have c299:=c108.up hL28;have c300:=c109.up hL28;have c301:=c110.up hL28;have c302:=c111.up hL28;have hB303:Below w.heap.size w W28:=by rw [hW28];exact bB
         clear hW28 hL28 c108 c109 c110 c111;have dc299:=fun p:Bel W28=>c299.bel p;have dc300:=fun p:Bel W28=>c300.bel p;have dc301:=fun p:Bel W28=>c301.bel p;have dc302:=fun p:Bel W28=>c302.bel p
         simp only [At,Own,Nat.reduceAdd,and_true] at dc299 dc300 dc301 dc302;refine wp_region_tail 22 (by kernel_rfl) (by kernel_rfl) ?_;simp only [List.take_succ_cons,List.take_zero,List.drop_succ_cons,List.drop_zero];repeat (go_big_quiet_step (first|(go_at_call 79;with_reducible exact Calls.bel (K113.out _))|(go_at_call 79;with_reducible exact Calls.bel (K117.out _))|(go_at_call 79;with_reducible exact Calls.bel (K121.out _))|(go_at_call 79;with_reducible exact Calls.bel (K125.out _))))
         refine wpQuiet_nil ?_;intro w28 hb28;have c304:=c299.up hb28;have c305:=c300.up hb28;have c306:=c301.up hb28;have c307:=c302.up hb28;have hB308:Below w.heap.size w w28:=bel_up hB303 hb28;clear dc299 dc300 dc301 dc302 c299 c300 c301 c302;have uc304:=c304;have uc305:=c305;have uc306:=c306;have uc307:=c307;simp only [At,Own,Nat.reduceAdd,and_true] at uc304 uc305 uc306 uc307;go_wp2;go_ret;refine ⟨(by unfold Pg.meetR;rw [HhT3.out,HhT6.out,HhT9.out,HhT12.out,HhT115.out,HhT119.out,HhT123.out,HhT127.out]<;>rfl),?_⟩;exact bB
        ·skip
         go_wp2_with fail;refine wp_named ?_;intro W29 hW29;have hL29:Below w10.heap.size w10 W29:=by rw [hW29];exact bB
         have c309:=c108.up hL29;have c310:=c109.up hL29;have c311:=c110.up hL29;have c312:=c111.up hL29;have hB313:Below w.heap.size w W29:=by rw [hW29];exact bB
         clear hW29 hL29 c108 c109 c110 c111;have dc309:=fun p:Bel W29=>c309.bel p;have dc310:=fun p:Bel W29=>c310.bel p;have dc311:=fun p:Bel W29=>c311.bel p;have dc312:=fun p:Bel W29=>c312.bel p
         simp only [At,Own,Nat.reduceAdd,and_true] at dc309 dc310 dc311 dc312;refine wp_region_tail 22 (by kernel_rfl) (by kernel_rfl) ?_;simp only [List.take_succ_cons,List.take_zero,List.drop_succ_cons,List.drop_zero];repeat (go_big_quiet_step (first|(go_at_call 79;with_reducible exact Calls.bel (K113.out _))|(go_at_call 79;with_reducible exact Calls.bel (K117.out _))|(go_at_call 79;with_reducible exact Calls.bel (K121.out _))|(go_at_call 79;with_reducible exact Calls.bel (K125.out _))))
         refine wpQuiet_nil ?_;intro w29 hb29;have c314:=c309.up hb29;have c315:=c310.up hb29;have c316:=c311.up hb29;have c317:=c312.up hb29;have hB318:Below w.heap.size w w29:=bel_up hB313 hb29;clear dc309 dc310 dc311 dc312 c309 c310 c311 c312;have uc314:=c314;have uc315:=c315;have uc316:=c316;have uc317:=c317;simp only [At,Own,Nat.reduceAdd,and_true] at uc314 uc315 uc316 uc317;go_wp2;go_ret;refine ⟨(by unfold Pg.meetR;rw [HhT3.out,HhT6.out,HhT9.out,HhT12.out,HhT115.out,HhT119.out,HhT123.out,HhT127.out]<;>rfl),?_⟩;exact bB
        ·skip
         go_wp2_with fail;refine wp_named ?_;intro W30 hW30;have hL30:Below w10.heap.size w10 W30:=by rw [hW30];exact bB
         have c319:=c108.up hL30;have c320:=c109.up hL30;have c321:=c110.up hL30;have c322:=c111.up hL30;have hB323:Below w.heap.size w W30:=by rw [hW30];exact bB
         clear hW30 hL30 c108 c109 c110 c111;have dc319:=fun p:Bel W30=>c319.bel p;have dc320:=fun p:Bel W30=>c320.bel p;have dc321:=fun p:Bel W30=>c321.bel p;have dc322:=fun p:Bel W30=>c322.bel p
         simp only [At,Own,Nat.reduceAdd,and_true] at dc319 dc320 dc321 dc322;refine wp_region_tail 22 (by kernel_rfl) (by kernel_rfl) ?_;simp only [List.take_succ_cons,List.take_zero,List.drop_succ_cons,List.drop_zero];repeat (go_big_quiet_step (first|(go_at_call 79;with_reducible exact Calls.bel (K113.out _))|(go_at_call 79;with_reducible exact Calls.bel (K117.out _))|(go_at_call 79;with_reducible exact Calls.bel (K121.out _))|(go_at_call 79;with_reducible exact Calls.bel (K125.out _))))
         refine wpQuiet_nil ?_;intro w30 hb30;have c324:=c319.up hb30;have c325:=c320.up hb30;have c326:=c321.up hb30;have c327:=c322.up hb30;have hB328:Below w.heap.size w w30:=bel_up hB323 hb30;clear dc319 dc320 dc321 dc322 c319 c320 c321 c322;have uc324:=c324;have uc325:=c325;have uc326:=c326;have uc327:=c327;simp only [At,Own,Nat.reduceAdd,and_true] at uc324 uc325 uc326 uc327;go_wp2;go_ret;refine ⟨(by unfold Pg.meetR;rw [HhT3.out,HhT6.out,HhT9.out,HhT12.out,HhT115.out,HhT119.out,HhT123.out,HhT127.out]<;>rfl),?_⟩;exact bB
       ·skip
        rcases T128.out with rfl|rfl|rfl
        ·skip
         go_wp2_with fail;refine wp_named ?_;intro W31 hW31;have hL31:Below w10.heap.size w10 W31:=by rw [hW31];exact bB
         have c329:=c108.up hL31;have c330:=c109.up hL31;have c331:=c110.up hL31;have c332:=c111.up hL31;have hB333:Below w.heap.size w W31:=by rw [hW31];exact bB
         clear hW31 hL31 c108 c109 c110 c111;have dc329:=fun p:Bel W31=>c329.bel p;have dc330:=fun p:Bel W31=>c330.bel p;have dc331:=fun p:Bel W31=>c331.bel p;have dc332:=fun p:Bel W31=>c332.bel p
         simp only [At,Own,Nat.reduceAdd,and_true] at dc329 dc330 dc331 dc332;refine wp_region_tail 22 (by kernel_rfl) (by kernel_rfl) ?_;simp only [List.take_succ_cons,List.take_zero,List.drop_succ_cons,List.drop_zero];repeat (go_big_quiet_step (first|(go_at_call 79;with_reducible exact Calls.bel (K113.out _))|(go_at_call 79;with_reducible exact Calls.bel (K117.out _))|(go_at_call 79;with_reducible exact Calls.bel (K121.out _))|(go_at_call 79;with_reducible exact Calls.bel (K125.out _))))
         refine wpQuiet_nil ?_;intro w31 hb31;have c334:=c329.up hb31;have c335:=c330.up hb31;have c336:=c331.up hb31;have c337:=c332.up hb31;have hB338:Below w.heap.size w w31:=bel_up hB333 hb31;clear dc329 dc330 dc331 dc332 c329 c330 c331 c332;have uc334:=c334;have uc335:=c335;have uc336:=c336;have uc337:=c337;simp only [At,Own,Nat.reduceAdd,and_true] at uc334 uc335 uc336 uc337;go_wp2;go_ret;refine ⟨(by unfold Pg.meetR;rw [HhT3.out,HhT6.out,HhT9.out,HhT12.out,HhT115.out,HhT119.out,HhT123.out,HhT127.out]<;>rfl),?_⟩;exact bB
        ·skip
         go_wp2_with fail;refine wp_named ?_;intro W32 hW32;have hL32:Below w10.heap.size w10 W32:=by rw [hW32];exact bB
         have c339:=c108.up hL32;have c340:=c109.up hL32;have c341:=c110.up hL32;have c342:=c111.up hL32;have hB343:Below w.heap.size w W32:=by rw [hW32];exact bB
         clear hW32 hL32 c108 c109 c110 c111;have dc339:=fun p:Bel W32=>c339.bel p;have dc340:=fun p:Bel W32=>c340.bel p;have dc341:=fun p:Bel W32=>c341.bel p;have dc342:=fun p:Bel W32=>c342.bel p
         simp only [At,Own,Nat.reduceAdd,and_true] at dc339 dc340 dc341 dc342;refine wp_region_tail 22 (by kernel_rfl) (by kernel_rfl) ?_;simp only [List.take_succ_cons,List.take_zero,List.drop_succ_cons,List.drop_zero];repeat (go_big_quiet_step (first|(go_at_call 79;with_reducible exact Calls.bel (K113.out _))|(go_at_call 79;with_reducible exact Calls.bel (K117.out _))|(go_at_call 79;with_reducible exact Calls.bel (K121.out _))|(go_at_call 79;with_reducible exact Calls.bel (K125.out _))))
         refine wpQuiet_nil ?_;intro w32 hb32;have c344:=c339.up hb32;have c345:=c340.up hb32;have c346:=c341.up hb32;have c347:=c342.up hb32;have hB348:Below w.heap.size w w32:=bel_up hB343 hb32;clear dc339 dc340 dc341 dc342 c339 c340 c341 c342;have uc344:=c344;have uc345:=c345;have uc346:=c346;have uc347:=c347;simp only [At,Own,Nat.reduceAdd,and_true] at uc344 uc345 uc346 uc347;go_wp2;go_ret;refine ⟨(by unfold Pg.meetR;rw [HhT3.out,HhT6.out,HhT9.out,HhT12.out,HhT115.out,HhT119.out,HhT123.out,HhT127.out]<;>rfl),?_⟩;exact bB
        ·skip
         go_wp2_with fail;refine wp_named ?_;intro W33 hW33;have hL33:Below w10.heap.size w10 W33:=by rw [hW33];exact bB
         have c349:=c108.up hL33;have c350:=c109.up hL33;have c351:=c110.up hL33;have c352:=c111.up hL33;have hB353:Below w.heap.size w W33:=by rw [hW33];exact bB
         clear hW33 hL33 c108 c109 c110 c111;have dc349:=fun p:Bel W33=>c349.bel p;have dc350:=fun p:Bel W33=>c350.bel p;have dc351:=fun p:Bel W33=>c351.bel p;have dc352:=fun p:Bel W33=>c352.bel p
         simp only [At,Own,Nat.reduceAdd,and_true] at dc349 dc350 dc351 dc352;refine wp_region_tail 22 (by kernel_rfl) (by kernel_rfl) ?_;simp only [List.take_succ_cons,List.take_zero,List.drop_succ_cons,List.drop_zero];repeat (go_big_quiet_step (first|(go_at_call 79;with_reducible exact Calls.bel (K113.out _))|(go_at_call 79;with_reducible exact Calls.bel (K117.out _))|(go_at_call 79;with_reducible exact Calls.bel (K121.out _))|(go_at_call 79;with_reducible exact Calls.bel (K125.out _))))
         refine wpQuiet_nil ?_;intro w33 hb33;have c354:=c349.up hb33;have c355:=c350.up hb33;have c356:=c351.up hb33;have c357:=c352.up hb33;have hB358:Below w.heap.size w w33:=bel_up hB353 hb33;clear dc349 dc350 dc351 dc352 c349 c350 c351 c352;have uc354:=c354;have uc355:=c355;have uc356:=c356;have uc357:=c357;simp only [At,Own,Nat.reduceAdd,and_true] at uc354 uc355 uc356 uc357;go_wp2;go_ret;refine ⟨(by unfold Pg.meetR;rw [HhT3.out,HhT6.out,HhT9.out,HhT12.out,HhT115.out,HhT119.out,HhT123.out,HhT127.out]<;>rfl),?_⟩;exact bB
      ·skip
       go_wp2_with fail;refine wp_named ?_;intro W34 hW34;have hL34:Below w10.heap.size w10 W34:=by rw [hW34];exact bB
       have c359:=c108.up hL34;have c360:=c109.up hL34;have c361:=c110.up hL34;have c362:=c111.up hL34;have hB363:Below w.heap.size w W34:=by rw [hW34];exact bB
       clear hW34 hL34 c108 c109 c110 c111;have dc359:=fun p:Bel W34=>c359.bel p;have dc360:=fun p:Bel W34=>c360.bel p;have dc361:=fun p:Bel W34=>c361.bel p;have dc362:=fun p:Bel W34=>c362.bel p
       simp only [At,Own,Nat.reduceAdd,and_true] at dc359 dc360 dc361 dc362;refine wp_region_tail 22 (by kernel_rfl) (by kernel_rfl) ?_;simp only [List.take_succ_cons,List.take_zero,List.drop_succ_cons,List.drop_zero];repeat (go_big_quiet_step (first|(go_at_call 79;with_reducible exact Calls.bel (K113.out _))|(go_at_call 79;with_reducible exact Calls.bel (K117.out _))))
       refine wpQuiet_nil ?_;intro w34 hb34;have c364:=c359.up hb34;have c365:=c360.up hb34;have c366:=c361.up hb34;have c367:=c362.up hb34;have hB368:Below w.heap.size w w34:=bel_up hB363 hb34;clear dc359 dc360 dc361 dc362 c359 c360 c361 c362;have uc364:=c364;have uc365:=c365;have uc366:=c366;have uc367:=c367;simp only [At,Own,Nat.reduceAdd,and_true] at uc364 uc365 uc366 uc367;go_wp2;go_ret;refine ⟨(by unfold Pg.meetR;rw [HhT3.out,HhT6.out,HhT9.out,HhT12.out,HhT115.out,HhT119.out,HhT123.out,HhT127.out]<;>rfl),?_⟩;exact bB
      ·skip
       go_wp2_with fail;refine wp_named ?_;intro W35 hW35;have hL35:Below w10.heap.size w10 W35:=by rw [hW35];exact bB
       have c369:=c108.up hL35;have c370:=c109.up hL35;have c371:=c110.up hL35;have c372:=c111.up hL35;have hB373:Below w.heap.size w W35:=by rw [hW35];exact bB
       clear hW35 hL35 c108 c109 c110 c111;have dc369:=fun p:Bel W35=>c369.bel p;have dc370:=fun p:Bel W35=>c370.bel p;have dc371:=fun p:Bel W35=>c371.bel p;have dc372:=fun p:Bel W35=>c372.bel p
       simp only [At,Own,Nat.reduceAdd,and_true] at dc369 dc370 dc371 dc372;refine wp_region_tail 22 (by kernel_rfl) (by kernel_rfl) ?_;simp only [List.take_succ_cons,List.take_zero,List.drop_succ_cons,List.drop_zero];repeat (go_big_quiet_step (first|(go_at_call 79;with_reducible exact Calls.bel (K113.out _))|(go_at_call 79;with_reducible exact Calls.bel (K117.out _))))
       refine wpQuiet_nil ?_;intro w35 hb35;have c374:=c369.up hb35;have c375:=c370.up hb35;have c376:=c371.up hb35;have c377:=c372.up hb35;have hB378:Below w.heap.size w w35:=bel_up hB373 hb35;clear dc369 dc370 dc371 dc372 c369 c370 c371 c372;have uc374:=c374;have uc375:=c375;have uc376:=c376;have uc377:=c377;simp only [At,Own,Nat.reduceAdd,and_true] at uc374 uc375 uc376 uc377;go_wp2;go_ret;refine ⟨(by unfold Pg.meetR;rw [HhT3.out,HhT6.out,HhT9.out,HhT12.out,HhT115.out,HhT119.out,HhT123.out,HhT127.out]<;>rfl),?_⟩;exact bB
    ·skip
     have uc108:=c108;have uc109:=c109;have uc110:=c110;have uc111:=c111;simp only [At,Own,Nat.reduceAdd,and_true] at uc108 uc109 uc110 uc111;go_wp2;go_ret;refine ⟨(by unfold Pg.meetR;rw [HhT3.out,HhT6.out,HhT9.out,HhT12.out]<;>rfl),?_⟩;exact bB
   ·skip
    go_wp2_with (fail)
    refine calls_named ?_;intro W36 hW36;have hL36:Below w.heap.size w W36:=by rw [hW36];exact bB
    have c379:Own W36 w.heap.size 0 [.bool (ng a.1.num),.string (mg a.1.num.natAbs),.bool false,.string (mg (dn a.1)),.bool (ng a.2.num),.string (mg a.2.num.natAbs),.bool false,.string (mg (dn a.2))]:=by
     rw [hW36]
     first
     | (repeat (first|(with_reducible refine own_new (l:=[.bool (ng a.1.num),.string (mg a.1.num.natAbs),.bool false,.string (mg (dn a.1)),.bool (ng a.2.num),.string (mg a.2.num.natAbs),.bool false,.string (mg (dn a.2))]) ?_;(simp;done))|with_reducible refine Own.alloc ?_ _|refine Own.far _ _ (by first|(simp;done)|(simp [*];done)|(simp;omega)) ?_));done
     | simp [Own,go_sem]
    have c380:Own W36 (w.heap.size+1) 0 [.bool (ng b.1.num),.string (mg b.1.num.natAbs),.bool false,.string (mg (dn b.1)),.bool (ng b.2.num),.string (mg b.2.num.natAbs),.bool false,.string (mg (dn b.2))]:=by
     rw [hW36]
     first
     | (repeat (first|(with_reducible refine own_new (l:=[.bool (ng b.1.num),.string (mg b.1.num.natAbs),.bool false,.string (mg (dn b.1)),.bool (ng b.2.num),.string (mg b.2.num.natAbs),.bool false,.string (mg (dn b.2))]) ?_;(simp;done))|with_reducible refine Own.alloc ?_ _|refine Own.far _ _ (by first|(simp;done)|(simp [*];done)|(simp;omega)) ?_));done
     | simp [Own,go_sem]
    have c381:Own W36 (w.heap.size+2) 0 [.bool (ng c.1.num),.string (mg c.1.num.natAbs),.bool false,.string (mg (dn c.1)),.bool (ng c.2.num),.string (mg c.2.num.natAbs),.bool false,.string (mg (dn c.2))]:=by
     rw [hW36]
     first
     | (repeat (first|(with_reducible refine own_new (l:=[.bool (ng c.1.num),.string (mg c.1.num.natAbs),.bool false,.string (mg (dn c.1)),.bool (ng c.2.num),.string (mg c.2.num.natAbs),.bool false,.string (mg (dn c.2))]) ?_;(simp;done))|with_reducible refine Own.alloc ?_ _|refine Own.far _ _ (by first|(simp;done)|(simp [*];done)|(simp;omega)) ?_));done
     | simp [Own,go_sem]
    have c382:Own W36 (w.heap.size+3) 0 [.bool (ng d.1.num),.string (mg d.1.num.natAbs),.bool false,.string (mg (dn d.1)),.bool (ng d.2.num),.string (mg d.2.num.natAbs),.bool false,.string (mg (dn d.2))]:=by
     rw [hW36]
     first
     | (repeat (first|(with_reducible refine own_new (l:=[.bool (ng d.1.num),.string (mg d.1.num.natAbs),.bool false,.string (mg (dn d.1)),.bool (ng d.2.num),.string (mg d.2.num.natAbs),.bool false,.string (mg (dn d.2))]) ?_;(simp;done))|with_reducible refine Own.alloc ?_ _|refine Own.far _ _ (by first|(simp;done)|(simp [*];done)|(simp;omega)) ?_));done
     | simp [Own,go_sem]
    have hB383:Below w.heap.size w W36:=by rw [hW36];exact bB
    clear hW36 hL36;with_reducible refine (K1.out _).mono ?_
    rintro e w36 ⟨rfl,hb36⟩;have c384:=c379.up hb36;have c385:=c380.up hb36;have c386:=c381.up hb36;have c387:=c382.up hb36;have hB388:Below w.heap.size w w36:=bel_up hB383 hb36;clear c379 c380 c381 c382;have uc384:=c384;have uc385:=c385;have uc386:=c386;have uc387:=c387;simp only [At,Own,Nat.reduceAdd,and_true] at uc384 uc385 uc386 uc387;go_wp2_with (fail)
    refine calls_named ?_;intro W37 hW37;have hL37:Below w36.heap.size w36 W37:=by rw [hW37];exact bB
    have c389:=c384.up hL37;have c390:=c385.up hL37;have c391:=c386.up hL37;have c392:=c387.up hL37;have hB393:Below w.heap.size w W37:=by rw [hW37];exact bB
    clear hW37 hL37 uc384 uc385 uc386 uc387 c384 c385 c386 c387;with_reducible refine (K4.out _).mono ?_
    rintro e w37 ⟨rfl,hb37⟩;have c394:=c389.up hb37;have c395:=c390.up hb37;have c396:=c391.up hb37;have c397:=c392.up hb37;have hB398:Below w.heap.size w w37:=bel_up hB393 hb37;clear c389 c390 c391 c392;have uc394:=c394;have uc395:=c395;have uc396:=c396;have uc397:=c397;simp only [At,Own,Nat.reduceAdd,and_true] at uc394 uc395 uc396 uc397;go_wp2_with (fail)
    refine calls_named ?_;intro W38 hW38;have hL38:Below w37.heap.size w37 W38:=by rw [hW38];exact bB
    have c399:=c394.up hL38;have c400:=c395.up hL38;have c401:=c396.up hL38;have c402:=c397.up hL38;have hB403:Below w.heap.size w W38:=by rw [hW38];exact bB
    clear hW38 hL38 uc394 uc395 uc396 uc397 c394 c395 c396 c397;with_reducible refine (K7.out _).mono ?_
    rintro e w38 ⟨rfl,hb38⟩;have c404:=c399.up hb38;have c405:=c400.up hb38;have c406:=c401.up hb38;have c407:=c402.up hb38;have hB408:Below w.heap.size w w38:=bel_up hB403 hb38;clear c399 c400 c401 c402;have uc404:=c404;have uc405:=c405;have uc406:=c406;have uc407:=c407;simp only [At,Own,Nat.reduceAdd,and_true] at uc404 uc405 uc406 uc407;go_wp2;go_ret;refine ⟨(by unfold Pg.meetR;rw [HhT3.out,HhT6.out,HhT9.out,HhT12.out]<;>rfl),?_⟩;exact bB
  ·skip
   go_wp2_with (fail)
   refine calls_named ?_;intro W39 hW39;have hL39:Below w.heap.size w W39:=by rw [hW39];exact bB
   have c409:Own W39 w.heap.size 0 [.bool (ng a.1.num),.string (mg a.1.num.natAbs),.bool false,.string (mg (dn a.1)),.bool (ng a.2.num),.string (mg a.2.num.natAbs),.bool false,.string (mg (dn a.2))]:=by
    rw [hW39]
    first
    | (repeat (first|(with_reducible refine own_new (l:=[.bool (ng a.1.num),.string (mg a.1.num.natAbs),.bool false,.string (mg (dn a.1)),.bool (ng a.2.num),.string (mg a.2.num.natAbs),.bool false,.string (mg (dn a.2))]) ?_;(simp;done))|with_reducible refine Own.alloc ?_ _|refine Own.far _ _ (by first|(simp;done)|(simp [*];done)|(simp;omega)) ?_));done
    | simp [Own,go_sem]
   have c410:Own W39 (w.heap.size+1) 0 [.bool (ng b.1.num),.string (mg b.1.num.natAbs),.bool false,.string (mg (dn b.1)),.bool (ng b.2.num),.string (mg b.2.num.natAbs),.bool false,.string (mg (dn b.2))]:=by
    rw [hW39]
    first
    | (repeat (first|(with_reducible refine own_new (l:=[.bool (ng b.1.num),.string (mg b.1.num.natAbs),.bool false,.string (mg (dn b.1)),.bool (ng b.2.num),.string (mg b.2.num.natAbs),.bool false,.string (mg (dn b.2))]) ?_;(simp;done))|with_reducible refine Own.alloc ?_ _|refine Own.far _ _ (by first|(simp;done)|(simp [*];done)|(simp;omega)) ?_));done
    | simp [Own,go_sem]
   have c411:Own W39 (w.heap.size+2) 0 [.bool (ng c.1.num),.string (mg c.1.num.natAbs),.bool false,.string (mg (dn c.1)),.bool (ng c.2.num),.string (mg c.2.num.natAbs),.bool false,.string (mg (dn c.2))]:=by
    rw [hW39]
    first
    | (repeat (first|(with_reducible refine own_new (l:=[.bool (ng c.1.num),.string (mg c.1.num.natAbs),.bool false,.string (mg (dn c.1)),.bool (ng c.2.num),.string (mg c.2.num.natAbs),.bool false,.string (mg (dn c.2))]) ?_;(simp;done))|with_reducible refine Own.alloc ?_ _|refine Own.far _ _ (by first|(simp;done)|(simp [*];done)|(simp;omega)) ?_));done
    | simp [Own,go_sem]
   have c412:Own W39 (w.heap.size+3) 0 [.bool (ng d.1.num),.string (mg d.1.num.natAbs),.bool false,.string (mg (dn d.1)),.bool (ng d.2.num),.string (mg d.2.num.natAbs),.bool false,.string (mg (dn d.2))]:=by
    rw [hW39]
    first
    | (repeat (first|(with_reducible refine own_new (l:=[.bool (ng d.1.num),.string (mg d.1.num.natAbs),.bool false,.string (mg (dn d.1)),.bool (ng d.2.num),.string (mg d.2.num.natAbs),.bool false,.string (mg (dn d.2))]) ?_;(simp;done))|with_reducible refine Own.alloc ?_ _|refine Own.far _ _ (by first|(simp;done)|(simp [*];done)|(simp;omega)) ?_));done
    | simp [Own,go_sem]
   have hB413:Below w.heap.size w W39:=by rw [hW39];exact bB
   clear hW39 hL39;with_reducible refine (K1.out _).mono ?_
   rintro e w39 ⟨rfl,hb39⟩;have c414:=c409.up hb39;have c415:=c410.up hb39;have c416:=c411.up hb39;have c417:=c412.up hb39;have hB418:Below w.heap.size w w39:=bel_up hB413 hb39;clear c409 c410 c411 c412;have uc414:=c414;have uc415:=c415;have uc416:=c416;have uc417:=c417;simp only [At,Own,Nat.reduceAdd,and_true] at uc414 uc415 uc416 uc417;go_wp2_with (fail)
   refine calls_named ?_;intro W40 hW40;have hL40:Below w39.heap.size w39 W40:=by rw [hW40];exact bB
   have c419:=c414.up hL40;have c420:=c415.up hL40;have c421:=c416.up hL40;have c422:=c417.up hL40;have hB423:Below w.heap.size w W40:=by rw [hW40];exact bB
   clear hW40 hL40 uc414 uc415 uc416 uc417 c414 c415 c416 c417;with_reducible refine (K4.out _).mono ?_
   rintro e w40 ⟨rfl,hb40⟩;have c424:=c419.up hb40;have c425:=c420.up hb40;have c426:=c421.up hb40;have c427:=c422.up hb40;have hB428:Below w.heap.size w w40:=bel_up hB423 hb40;clear c419 c420 c421 c422;have uc424:=c424;have uc425:=c425;have uc426:=c426;have uc427:=c427;simp only [At,Own,Nat.reduceAdd,and_true] at uc424 uc425 uc426 uc427;go_wp2;go_ret;refine ⟨(by unfold Pg.meetR;rw [HhT3.out,HhT6.out,HhT9.out,HhT12.out]<;>rfl),?_⟩;exact bB
 ·skip
  go_wp2_with (fail)
  refine calls_named ?_;intro W41 hW41;have hL41:Below w.heap.size w W41:=by rw [hW41];exact bB
  have c429:Own W41 w.heap.size 0 [.bool (ng a.1.num),.string (mg a.1.num.natAbs),.bool false,.string (mg (dn a.1)),.bool (ng a.2.num),.string (mg a.2.num.natAbs),.bool false,.string (mg (dn a.2))]:=by
   rw [hW41]
   first
   | (repeat (first|(with_reducible refine own_new (l:=[.bool (ng a.1.num),.string (mg a.1.num.natAbs),.bool false,.string (mg (dn a.1)),.bool (ng a.2.num),.string (mg a.2.num.natAbs),.bool false,.string (mg (dn a.2))]) ?_;(simp;done))|with_reducible refine Own.alloc ?_ _|refine Own.far _ _ (by first|(simp;done)|(simp [*];done)|(simp;omega)) ?_));done
   | simp [Own,go_sem]
  have c430:Own W41 (w.heap.size+1) 0 [.bool (ng b.1.num),.string (mg b.1.num.natAbs),.bool false,.string (mg (dn b.1)),.bool (ng b.2.num),.string (mg b.2.num.natAbs),.bool false,.string (mg (dn b.2))]:=by
   rw [hW41]
   first
   | (repeat (first|(with_reducible refine own_new (l:=[.bool (ng b.1.num),.string (mg b.1.num.natAbs),.bool false,.string (mg (dn b.1)),.bool (ng b.2.num),.string (mg b.2.num.natAbs),.bool false,.string (mg (dn b.2))]) ?_;(simp;done))|with_reducible refine Own.alloc ?_ _|refine Own.far _ _ (by first|(simp;done)|(simp [*];done)|(simp;omega)) ?_));done
   | simp [Own,go_sem]
  have c431:Own W41 (w.heap.size+2) 0 [.bool (ng c.1.num),.string (mg c.1.num.natAbs),.bool false,.string (mg (dn c.1)),.bool (ng c.2.num),.string (mg c.2.num.natAbs),.bool false,.string (mg (dn c.2))]:=by
   rw [hW41]
   first
   | (repeat (first|(with_reducible refine own_new (l:=[.bool (ng c.1.num),.string (mg c.1.num.natAbs),.bool false,.string (mg (dn c.1)),.bool (ng c.2.num),.string (mg c.2.num.natAbs),.bool false,.string (mg (dn c.2))]) ?_;(simp;done))|with_reducible refine Own.alloc ?_ _|refine Own.far _ _ (by first|(simp;done)|(simp [*];done)|(simp;omega)) ?_));done
   | simp [Own,go_sem]
  have c432:Own W41 (w.heap.size+3) 0 [.bool (ng d.1.num),.string (mg d.1.num.natAbs),.bool false,.string (mg (dn d.1)),.bool (ng d.2.num),.string (mg d.2.num.natAbs),.bool false,.string (mg (dn d.2))]:=by
   rw [hW41]
   first
   | (repeat (first|(with_reducible refine own_new (l:=[.bool (ng d.1.num),.string (mg d.1.num.natAbs),.bool false,.string (mg (dn d.1)),.bool (ng d.2.num),.string (mg d.2.num.natAbs),.bool false,.string (mg (dn d.2))]) ?_;(simp;done))|with_reducible refine Own.alloc ?_ _|refine Own.far _ _ (by first|(simp;done)|(simp [*];done)|(simp;omega)) ?_));done
   | simp [Own,go_sem]
  have hB433:Below w.heap.size w W41:=by rw [hW41];exact bB
  clear hW41 hL41;with_reducible refine (K1.out _).mono ?_
  rintro e w41 ⟨rfl,hb41⟩;have c434:=c429.up hb41;have c435:=c430.up hb41;have c436:=c431.up hb41;have c437:=c432.up hb41;have hB438:Below w.heap.size w w41:=bel_up hB433 hb41;clear c429 c430 c431 c432;have uc434:=c434;have uc435:=c435;have uc436:=c436;have uc437:=c437;simp only [At,Own,Nat.reduceAdd,and_true] at uc434 uc435 uc436 uc437;go_wp2;go_ret;refine ⟨(by unfold Pg.meetR;rw [HhT3.out,HhT6.out,HhT9.out,HhT12.out]<;>rfl),?_⟩;exact bB
end Go.Proofs.YtiochgoocbkckaaGreatDoor
