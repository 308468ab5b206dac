/-
 The examples with which the statements begin: the walk.
-/
import Derived.Test.YtdkkjfnpinckjaaGreatDoorYMq
import Derived.Deep.WholeRow
import Derived.Deep.MidRow
set_option maxRecDepth 100000
set_option linter.unusedSimpArgs false
set_option linter.unusedVariables false
namespace Go.Proofs.YtdkkjfnpinckjaaGreatDoor
open Go Go.RowKit

theorem wpList_store_new {P:Program} {ops:Array Oper} {rest:List Oper} {op:Oper} {a:Act} {w:World} {Q:Exit→Act→World→Prop} (hgd:op.guard=none) (ty:TypeId) (x y:Operand) (ho:op.op=.store ty x y)
 (c c':Array Value) (hx:a.eval x=.pointer (some ⟨w.heap.size,0,none⟩)) (hy:a.eval y=.agg c') (hi:(P.info? ty).map (·.size)=some c'.size) (hs:c.size=c'.size) (h1:c'.all (·.oneCell')=true)
 (h:wpList P ops Q rest (a.put op.dst undef) (w.alloc (.cells c' ty))):wpList P ops Q (op :: rest) a (w.alloc (.cells c ty)) :=
 wpList_plain hgd fun _ hK=>by
  unfold Oper.wp execOp;simp only [ho,hx,hy,Sem.run_bind,Sem.run_pure,Result.andThen_ok,run_storeAt_new w ty c c' hi hs h1];exact hK _ _ h

theorem Own.range {w:World} {b:Nat} {l:List Value} (h:Own w b 0 l):w.rangeAt b 0 l:=fun j v hv=>by simpa using At.get h.at_ hv
theorem wpList_load_own {P:Program} {ops:Array Oper} {rest:List Oper} {op:Oper} {a:Act} {w:World} {Q:Exit→Act→World→Prop} (hw:Region.wanted op (yielded ops a.tmps)=true) (ty:TypeId) (x:Operand) (ho:op.op=.load ty x)
 (b:Nat) (hx:a.eval x=.pointer (some ⟨b,0,none⟩)) (cs:List Value) (d:TypeDesc) (hc:Own w b 0 cs) (hu:P.underlying ty=some d) (hd:d.isRow=true) (hi:(P.info? ty).map (·.size)=some cs.length)
 (h:wpList P ops Q rest (a.put op.dst (.agg cs.toArray)) w):wpList P ops Q (op :: rest) a w :=
 BigFrame.wpList_want hw fun _ hK=>wp_load_mid ty x ho b 0 hx cs d hc.range hu hd hi (hK _ _ h)

set_option maxHeartbeats 2000000 in
theorem known_any (w:World) :
 Calls Tryz.prog 17 #[] w fun e w'=>e=.returned (.bool true)∧Below w.heap.size w w':=by
 obtain ⟨q00,hq00⟩:∃ q,q=QI 0 0:=⟨_,rfl⟩
 have Hq00:=Lib.hid hq00;obtain ⟨q10,hq10⟩:∃ q,q=QI 1 0:=⟨_,rfl⟩
 have Hq10:=Lib.hid hq10;obtain ⟨q01,hq01⟩:∃ q,q=QI 0 1:=⟨_,rfl⟩
 have Hq01:=Lib.hid hq01;obtain ⟨q20,hq20⟩:∃ q,q=QI 2 0:=⟨_,rfl⟩
 have Hq20:=Lib.hid hq20;obtain ⟨q11,hq11⟩:∃ q,q=QI 1 1:=⟨_,rfl⟩
 have Hq11:=Lib.hid hq11;obtain ⟨q21,hq21⟩:∃ q,q=QI 2 1:=⟨_,rfl⟩
 have Hq21:=Lib.hid hq21;obtain ⟨q12,hq12⟩:∃ q,q=QI 1 2:=⟨_,rfl⟩
 have Hq12:=Lib.hid hq12;obtain ⟨q30,hq30⟩:∃ q,q=QI 3 0:=⟨_,rfl⟩
 have Hq30:=Lib.hid hq30;obtain ⟨r32,hr32⟩:∃ r,r=Rat.divInt 3 2:=⟨_,rfl⟩
 have Hr32:=Lib.hid hr32;have HKA:Hid ([q00,q10,q01]=KA):=Lib.hid (by simp only [hq00,hq10,hq01];rfl);have HKB:Hid ([q00,q20]=KB):=Lib.hid (by simp only [hq00,hq20];rfl);have HKC:Hid ([q11,q21,q12]=KC):=Lib.hid (by simp only [hq11,hq21,hq12];rfl);have HKR:Hid ([q00,q30,q21,q01]=KR):=Lib.hid (by simp only [hq00,hq30,hq21,hq01];rfl);clear hq00 hq10 hq01 hq20 hq11 hq21 hq12 hq30 hr32;go_enter Tryz.func17,Tryz.ntmps17;have K1:=Lib.hid (fun W=>of_q 0 0 q00 W (by decide) (by decide) Hq00.out);go_wp2_with (fail)
 refine calls_named ?_;intro W1 hW1;have hL1:Below w.heap.size w W1:=by rw [hW1];exact bB
 have hB2:Below w.heap.size w W1:=by rw [hW1];exact bB
 clear hW1 hL1;with_reducible refine (K1.out _).mono ?_
 rintro e w1 ⟨rfl,hb1⟩;have hB3:Below w.heap.size w w1:=bel_up hB2 hb1;have K4:=Lib.hid (fun W=>of_q 1 0 q10 W (by decide) (by decide) Hq10.out);go_wp2_with (fail)
 refine calls_named ?_;intro W2 hW2;have hL2:Below w1.heap.size w1 W2:=by rw [hW2];exact bB
 have hB5:Below w.heap.size w W2:=by rw [hW2];exact bB
 clear hW2 hL2;with_reducible refine (K4.out _).mono ?_
 rintro e w2 ⟨rfl,hb2⟩;have hB6:Below w.heap.size w w2:=bel_up hB5 hb2;have K7:=Lib.hid (fun W=>of_q 0 1 q01 W (by decide) (by decide) Hq01.out);go_wp2_with (fail)
 refine calls_named ?_;intro W3 hW3;have hL3:Below w2.heap.size w2 W3:=by rw [hW3];exact bB
 have hB8:Below w.heap.size w W3:=by rw [hW3];exact bB
 clear hW3 hL3;with_reducible refine (K7.out _).mono ?_
 rintro e w3 ⟨rfl,hb3⟩;have hB9:Below w.heap.size w w3:=bel_up hB8 hb3;go_wp2_with (fail)
 refine calls_named ?_;intro W4 hW4;have hL4:Below w3.heap.size w3 W4:=by rw [hW4];exact bB
 have c10:Own W4 w3.heap.size 0 [.bool (ng q00.1.num),.string (mg q00.1.num.natAbs),.bool false,.string (mg (dn q00.1)),.bool (ng q00.2.num),.string (mg q00.2.num.natAbs),.bool false,.string (mg (dn q00.2)),.bool (ng q10.1.num),.string (mg q10.1.num.natAbs),.bool false,.string (mg (dn q10.1)),.bool (ng q10.2.num),.string (mg q10.2.num.natAbs),.bool false,.string (mg (dn q10.2)),.bool (ng q01.1.num),.string (mg q01.1.num.natAbs),.bool false,.string (mg (dn q01.1)),.bool (ng q01.2.num),.string (mg q01.2.num.natAbs),.bool false,.string (mg (dn q01.2))]:=by
  rw [hW4]
  first
  | (repeat (first|(with_reducible refine own_new (l:=[.bool (ng q00.1.num),.string (mg q00.1.num.natAbs),.bool false,.string (mg (dn q00.1)),.bool (ng q00.2.num),.string (mg q00.2.num.natAbs),.bool false,.string (mg (dn q00.2)),.bool (ng q10.1.num),.string (mg q10.1.num.natAbs),.bool false,.string (mg (dn q10.1)),.bool (ng q10.2.num),.string (mg q10.2.num.natAbs),.bool false,.string (mg (dn q10.2)),.bool (ng q01.1.num),.string (mg q01.1.num.natAbs),.bool false,.string (mg (dn q01.1)),.bool (ng q01.2.num),.string (mg q01.2.num.natAbs),.bool false,.string (mg (dn q01.2))]) ?_;(simp;done))|with_reducible refine Own.alloc ?_ _|refine Own.far _ _ (by first|(simp;done)|(simp [*];done)|(simp;omega)) ?_));done
  | simp [Own,go_sem]
 have hB11:Below w.heap.size w W4:=by rw [hW4];exact bB
 clear hW4 hL4;with_reducible refine (K1.out _).mono ?_
 rintro e w4 ⟨rfl,hb4⟩;have c12:=c10.up hb4;have hB13:Below w.heap.size w w4:=bel_up hB11 hb4;clear c10;have K14:=Lib.hid (fun W=>of_q 2 0 q20 W (by decide) (by decide) Hq20.out);have uc12:=c12;simp only [At,Own,Nat.reduceAdd,and_true] at uc12;go_wp2_with (fail)
 refine calls_named ?_;intro W5 hW5;have hL5:Below w4.heap.size w4 W5:=by rw [hW5];exact bB
 have c15:=c12.up hL5;have hB16:Below w.heap.size w W5:=by rw [hW5];exact bB
 clear hW5 hL5 uc12 c12;with_reducible refine (K14.out _).mono ?_
 rintro e w5 ⟨rfl,hb5⟩;have c17:=c15.up hb5;have hB18:Below w.heap.size w w5:=bel_up hB16 hb5;clear c15;have ne19_:w3.heap.size<w5.heap.size:=by have:=c17.lt;omega
 have ne19:=Nat.ne_of_lt ne19_;have ne19':=ne19.symm;have K20:=Lib.hid (fun va vb W (ha:PV W va [q00,q10,q01]) (hb:PV W vb [q00,q20])=>sum_known va vb W (HKA.out▸ha) (HKB.out▸hb));have uc17:=c17;simp only [At,Own,Nat.reduceAdd,and_true] at uc17;go_wp2_with (fail)
 refine calls_named ?_;intro W6 hW6;have hL6:Below w5.heap.size w5 W6:=by rw [hW6];exact bB
 have c21:=c17.up hL6
 have c22:Own W6 w5.heap.size 0 [.bool (ng q00.1.num),.string (mg q00.1.num.natAbs),.bool false,.string (mg (dn q00.1)),.bool (ng q00.2.num),.string (mg q00.2.num.natAbs),.bool false,.string (mg (dn q00.2)),.bool (ng q20.1.num),.string (mg q20.1.num.natAbs),.bool false,.string (mg (dn q20.1)),.bool (ng q20.2.num),.string (mg q20.2.num.natAbs),.bool false,.string (mg (dn q20.2))]:=by
  rw [hW6]
  first
  | (repeat (first|(with_reducible refine own_new (l:=[.bool (ng q00.1.num),.string (mg q00.1.num.natAbs),.bool false,.string (mg (dn q00.1)),.bool (ng q00.2.num),.string (mg q00.2.num.natAbs),.bool false,.string (mg (dn q00.2)),.bool (ng q20.1.num),.string (mg q20.1.num.natAbs),.bool false,.string (mg (dn q20.1)),.bool (ng q20.2.num),.string (mg q20.2.num.natAbs),.bool false,.string (mg (dn q20.2))]) ?_;(simp;done))|with_reducible refine Own.alloc ?_ _|refine Own.far _ _ (by first|(simp;done)|(simp [*];done)|(simp;omega)) ?_));done
  | simp [Own,go_sem,uc17,ne19,ne19',ne19_]
 have hB23:Below w.heap.size w W6:=by rw [hW6];exact bB
 clear hW6 hL6 uc17 c17;with_reducible refine (K20.out _ _ _ (pv_lit (n:=3) (l:=[q00,q10,q01]) c21 rfl ⟨rfl,by decide⟩) (pv_lit (n:=2) (l:=[q00,q20]) c22 rfl ⟨rfl,by decide⟩)).mono ?_
 rintro e w6 ⟨v6,rfl,hv6,hb6⟩;have c24:=c21.up hb6;have c25:=c22.up hb6;have hB26:Below w.heap.size w w6:=bel_up hB23 hb6;clear c21 c22;have PW6:=Lib.hid hv6;clear hv6;have K27:=Lib.hid (fun W=>of_q 1 1 q11 W (by decide) (by decide) Hq11.out);have uc24:=c24;have uc25:=c25;simp only [At,Own,Nat.reduceAdd,and_true] at uc24 uc25;go_wp2_with (fail)
 refine calls_named ?_;intro W7 hW7;have hL7:Below w6.heap.size w6 W7:=by rw [hW7];exact bB
 have c28:=c24.up hL7;have c29:=c25.up hL7;have PV30:=Lib.hid (PW6.out.up hL7);have hB31:Below w.heap.size w W7:=by rw [hW7];exact bB
 clear hW7 hL7 uc24 uc25 c24 c25 PW6;with_reducible refine (K27.out _).mono ?_
 rintro e w7 ⟨rfl,hb7⟩;have c32:=c28.up hb7;have c33:=c29.up hb7;have PV34:=Lib.hid (PV30.out.up hb7);have hB35:Below w.heap.size w w7:=bel_up hB31 hb7;clear c28 c29 PV30;have K36:=Lib.hid (fun W=>of_r 3 2 r32 W (by decide) (by decide) (by decide) Hr32.out);have uc32:=c32;have uc33:=c33;simp only [At,Own,Nat.reduceAdd,and_true] at uc32 uc33;go_wp2_with (fail)
 refine calls_named ?_;intro W8 hW8;have hL8:Below w7.heap.size w7 W8:=by rw [hW8];exact bB
 have c37:=c32.up hL8;have c38:=c33.up hL8;have PV39:=Lib.hid (PV34.out.up hL8);have hB40:Below w.heap.size w W8:=by rw [hW8];exact bB
 clear hW8 hL8 uc32 uc33 c32 c33 PV34;with_reducible refine (K36.out _).mono ?_
 rintro e w8 ⟨rfl,hb8⟩;have c41:=c37.up hb8;have c42:=c38.up hb8;have PV43:=Lib.hid (PV39.out.up hb8);have hB44:Below w.heap.size w w8:=bel_up hB40 hb8;clear c37 c38 PV39;have ne45_:w3.heap.size<w8.heap.size:=by have:=c41.lt;omega
 have ne45:=Nat.ne_of_lt ne45_;have ne45':=ne45.symm;have ne46_:w5.heap.size<w8.heap.size:=by have:=c42.lt;omega
 have ne46:=Nat.ne_of_lt ne46_;have ne46':=ne46.symm;have uc41:=c41;have uc42:=c42;simp only [At,Own,Nat.reduceAdd,and_true] at uc41 uc42;go_wp2_with (refine wpList_store_new rfl _ _ _ rfl _ _ rfl rfl (by kernel_rfl) (by rfl) (by simp [Value.oneCell']) ?_)
 refine calls_named ?_;intro W9 hW9;have hL9:Below w8.heap.size w8 W9:=by rw [hW9];exact bB
 have c47:=c41.up hL9;have c48:=c42.up hL9
 have c49:Own W9 w8.heap.size 0 [.bool true,.bool false,.string ⟨#[]⟩,.bool false,.string ⟨#[]⟩,.bool false,.string ⟨#[]⟩,.bool false,.string ⟨#[]⟩,.bool (ng q11.1.num),.string (mg q11.1.num.natAbs),.bool false,.string (mg (dn q11.1)),.bool (ng q11.2.num),.string (mg q11.2.num.natAbs),.bool false,.string (mg (dn q11.2)),.bool (ng r32.num),.string (mg r32.num.natAbs),.bool false,.string (mg (dn r32))]:=by
  rw [hW9]
  first
  | (repeat (first|(with_reducible refine own_new (l:=[.bool true,.bool false,.string ⟨#[]⟩,.bool false,.string ⟨#[]⟩,.bool false,.string ⟨#[]⟩,.bool false,.string ⟨#[]⟩,.bool (ng q11.1.num),.string (mg q11.1.num.natAbs),.bool false,.string (mg (dn q11.1)),.bool (ng q11.2.num),.string (mg q11.2.num.natAbs),.bool false,.string (mg (dn q11.2)),.bool (ng r32.num),.string (mg r32.num.natAbs),.bool false,.string (mg (dn r32))]) ?_;(simp;done))|with_reducible refine Own.alloc ?_ _|refine Own.far _ _ (by first|(simp;done)|(simp [*];done)|(simp;omega)) ?_));done
  | simp [Own,go_sem,uc41,uc42,ne45,ne45',ne45_,ne46,ne46',ne46_]
 have PV50:=Lib.hid (PV43.out.up hL9);have hB51:Below w.heap.size w W9:=by rw [hW9];exact bB
 clear hW9 hL9 uc41 uc42 c41 c42 PV43;with_reducible refine (K1.out _).mono ?_
 rintro e w9 ⟨rfl,hb9⟩;have c52:=c47.up hb9;have c53:=c48.up hb9;have c54:=c49.up hb9;have PV55:=Lib.hid (PV50.out.up hb9);have hB56:Below w.heap.size w w9:=bel_up hB51 hb9;clear c47 c48 c49 PV50;have uc52:=c52;have uc53:=c53;have uc54:=c54;simp only [At,Own,Nat.reduceAdd,and_true] at uc52 uc53 uc54;go_wp2_with (fail)
 refine calls_named ?_;intro W10 hW10;have hL10:Below w9.heap.size w9 W10:=by rw [hW10];exact bB
 have c57:=c52.up hL10;have c58:=c53.up hL10;have c59:=c54.up hL10;have PV60:=Lib.hid (PV55.out.up hL10);have hB61:Below w.heap.size w W10:=by rw [hW10];exact bB
 clear hW10 hL10 uc52 uc53 uc54 c52 c53 c54 PV55;with_reducible refine (K4.out _).mono ?_
 rintro e w10 ⟨rfl,hb10⟩;have c62:=c57.up hb10;have c63:=c58.up hb10;have c64:=c59.up hb10;have PV65:=Lib.hid (PV60.out.up hb10);have hB66:Below w.heap.size w w10:=bel_up hB61 hb10;clear c57 c58 c59 PV60;have uc62:=c62;have uc63:=c63;have uc64:=c64;simp only [At,Own,Nat.reduceAdd,and_true] at uc62 uc63 uc64;go_wp2_with (fail)
 refine calls_named ?_;intro W11 hW11;have hL11:Below w10.heap.size w10 W11:=by rw [hW11];exact bB
 have c67:=c62.up hL11;have c68:=c63.up hL11;have c69:=c64.up hL11;have PV70:=Lib.hid (PV65.out.up hL11);have hB71:Below w.heap.size w W11:=by rw [hW11];exact bB
 clear hW11 hL11 uc62 uc63 uc64 c62 c63 c64 PV65;with_reducible refine (K7.out _).mono ?_
 rintro e w11 ⟨rfl,hb11⟩;have c72:=c67.up hb11;have c73:=c68.up hb11;have c74:=c69.up hb11;have PV75:=Lib.hid (PV70.out.up hb11);have hB76:Below w.heap.size w w11:=bel_up hB71 hb11;clear c67 c68 c69 PV70;have ne77_:w3.heap.size<w11.heap.size:=by have:=c72.lt;omega
 have ne77:=Nat.ne_of_lt ne77_;have ne77':=ne77.symm;have ne78_:w5.heap.size<w11.heap.size:=by have:=c73.lt;omega
 have ne78:=Nat.ne_of_lt ne78_;have ne78':=ne78.symm;have ne79_:w8.heap.size<w11.heap.size:=by have:=c74.lt;omega
 have ne79:=Nat.ne_of_lt ne79_;have ne79':=ne79.symm;have uc72:=c72;have uc73:=c73;have uc74:=c74;simp only [At,Own,Nat.reduceAdd,and_true] at uc72 uc73 uc74;go_wp2_with (fail)
 refine calls_named ?_;intro W12 hW12;have hL12:Below w11.heap.size w11 W12:=by rw [hW12];exact bB
 have c80:=c72.up hL12;have c81:=c73.up hL12;have c82:=c74.up hL12
 have c83:Own W12 w11.heap.size 0 [.bool (ng q00.1.num),.string (mg q00.1.num.natAbs),.bool false,.string (mg (dn q00.1)),.bool (ng q00.2.num),.string (mg q00.2.num.natAbs),.bool false,.string (mg (dn q00.2)),.bool (ng q10.1.num),.string (mg q10.1.num.natAbs),.bool false,.string (mg (dn q10.1)),.bool (ng q10.2.num),.string (mg q10.2.num.natAbs),.bool false,.string (mg (dn q10.2)),.bool (ng q01.1.num),.string (mg q01.1.num.natAbs),.bool false,.string (mg (dn q01.1)),.bool (ng q01.2.num),.string (mg q01.2.num.natAbs),.bool false,.string (mg (dn q01.2))]:=by
  rw [hW12]
  first
  | (repeat (first|(with_reducible refine own_new (l:=[.bool (ng q00.1.num),.string (mg q00.1.num.natAbs),.bool false,.string (mg (dn q00.1)),.bool (ng q00.2.num),.string (mg q00.2.num.natAbs),.bool false,.string (mg (dn q00.2)),.bool (ng q10.1.num),.string (mg q10.1.num.natAbs),.bool false,.string (mg (dn q10.1)),.bool (ng q10.2.num),.string (mg q10.2.num.natAbs),.bool false,.string (mg (dn q10.2)),.bool (ng q01.1.num),.string (mg q01.1.num.natAbs),.bool false,.string (mg (dn q01.1)),.bool (ng q01.2.num),.string (mg q01.2.num.natAbs),.bool false,.string (mg (dn q01.2))]) ?_;(simp;done))|with_reducible refine Own.alloc ?_ _|refine Own.far _ _ (by first|(simp;done)|(simp [*];done)|(simp;omega)) ?_));done
  | simp [Own,go_sem,uc72,uc73,uc74,ne77,ne77',ne77_,ne78,ne78',ne78_,ne79,ne79',ne79_]
 have PV84:=Lib.hid (PV75.out.up hL12);have hB85:Below w.heap.size w W12:=by rw [hW12];exact bB
 clear hW12 hL12 uc72 uc73 uc74 c72 c73 c74 PV75;with_reducible refine (K27.out _).mono ?_
 rintro e w12 ⟨rfl,hb12⟩;have c86:=c80.up hb12;have c87:=c81.up hb12;have c88:=c82.up hb12;have c89:=c83.up hb12;have PV90:=Lib.hid (PV84.out.up hb12);have hB91:Below w.heap.size w w12:=bel_up hB85 hb12;clear c80 c81 c82 c83 PV84;have K92:=Lib.hid (fun W=>of_q 2 1 q21 W (by decide) (by decide) Hq21.out);have uc86:=c86;have uc87:=c87;have uc88:=c88;have uc89:=c89;simp only [At,Own,Nat.reduceAdd,and_true] at uc86 uc87 uc88 uc89;go_wp2_with (fail)
 refine calls_named ?_;intro W13 hW13;have hL13:Below w12.heap.size w12 W13:=by rw [hW13];exact bB
 have c93:=c86.up hL13;have c94:=c87.up hL13;have c95:=c88.up hL13;have c96:=c89.up hL13;have PV97:=Lib.hid (PV90.out.up hL13);have hB98:Below w.heap.size w W13:=by rw [hW13];exact bB
 clear hW13 hL13 uc86 uc87 uc88 uc89 c86 c87 c88 c89 PV90;with_reducible refine (K92.out _).mono ?_
 rintro e w13 ⟨rfl,hb13⟩;have c99:=c93.up hb13;have c100:=c94.up hb13;have c101:=c95.up hb13;have c102:=c96.up hb13;have PV103:=Lib.hid (PV97.out.up hb13);have hB104:Below w.heap.size w w13:=bel_up hB98 hb13;clear c93 c94 c95 c96 PV97;have K105:=Lib.hid (fun W=>of_q 1 2 q12 W (by decide) (by decide) Hq12.out);have uc99:=c99;have uc100:=c100;have uc101:=c101;have uc102:=c102;simp only [At,Own,Nat.reduceAdd,and_true] at uc99 uc100 uc101 uc102;go_wp2_with (fail)
 refine calls_named ?_;intro W14 hW14;have hL14:Below w13.heap.size w13 W14:=by rw [hW14];exact bB
 have c106:=c99.up hL14;have c107:=c100.up hL14;have c108:=c101.up hL14;have c109:=c102.up hL14;have PV110:=Lib.hid (PV103.out.up hL14);have hB111:Below w.heap.size w W14:=by rw [hW14];exact bB
 clear hW14 hL14 uc99 uc100 uc101 uc102 c99 c100 c101 c102 PV103;with_reducible refine (K105.out _).mono ?_
 rintro e w14 ⟨rfl,hb14⟩;have c112:=c106.up hb14;have c113:=c107.up hb14;have c114:=c108.up hb14;have c115:=c109.up hb14;have PV116:=Lib.hid (PV110.out.up hb14);have hB117:Below w.heap.size w w14:=bel_up hB111 hb14;clear c106 c107 c108 c109 PV110;have ne118_:w3.heap.size<w14.heap.size:=by have:=c112.lt;omega
 have ne118:=Nat.ne_of_lt ne118_;have ne118':=ne118.symm;have ne119_:w5.heap.size<w14.heap.size:=by have:=c113.lt;omega
 have ne119:=Nat.ne_of_lt ne119_;have ne119':=ne119.symm;have ne120_:w8.heap.size<w14.heap.size:=by have:=c114.lt;omega
 have ne120:=Nat.ne_of_lt ne120_;have ne120':=ne120.symm;have ne121_:w11.heap.size<w14.heap.size:=by have:=c115.lt;omega
 have ne121:=Nat.ne_of_lt ne121_;have ne121':=ne121.symm;have uc112:=c112;have uc113:=c113;have uc114:=c114;have uc115:=c115;simp only [At,Own,Nat.reduceAdd,and_true] at uc112 uc113 uc114 uc115;go_wp2_with (fail)
 refine calls_named ?_;intro W15 hW15;have hL15:Below w14.heap.size w14 W15:=by rw [hW15];exact bB
 have c122:=c112.up hL15;have c123:=c113.up hL15;have c124:=c114.up hL15;have c125:=c115.up hL15
 have c126:Own W15 w14.heap.size 0 [.bool (ng q11.1.num),.string (mg q11.1.num.natAbs),.bool false,.string (mg (dn q11.1)),.bool (ng q11.2.num),.string (mg q11.2.num.natAbs),.bool false,.string (mg (dn q11.2)),.bool (ng q21.1.num),.string (mg q21.1.num.natAbs),.bool false,.string (mg (dn q21.1)),.bool (ng q21.2.num),.string (mg q21.2.num.natAbs),.bool false,.string (mg (dn q21.2)),.bool (ng q12.1.num),.string (mg q12.1.num.natAbs),.bool false,.string (mg (dn q12.1)),.bool (ng q12.2.num),.string (mg q12.2.num.natAbs),.bool false,.string (mg (dn q12.2))]:=by
  rw [hW15]
  first
  | (repeat (first|(with_reducible refine own_new (l:=[.bool (ng q11.1.num),.string (mg q11.1.num.natAbs),.bool false,.string (mg (dn q11.1)),.bool (ng q11.2.num),.string (mg q11.2.num.natAbs),.bool false,.string (mg (dn q11.2)),.bool (ng q21.1.num),.string (mg q21.1.num.natAbs),.bool false,.string (mg (dn q21.1)),.bool (ng q21.2.num),.string (mg q21.2.num.natAbs),.bool false,.string (mg (dn q21.2)),.bool (ng q12.1.num),.string (mg q12.1.num.natAbs),.bool false,.string (mg (dn q12.1)),.bool (ng q12.2.num),.string (mg q12.2.num.natAbs),.bool false,.string (mg (dn q12.2))]) ?_;(simp;done))|with_reducible refine Own.alloc ?_ _|refine Own.far _ _ (by first|(simp;done)|(simp [*];done)|(simp;omega)) ?_));done
  | simp [Own,go_sem,uc112,uc113,uc114,uc115,ne118,ne118',ne118_,ne119,ne119',ne119_,ne120,ne120',ne120_,ne121,ne121',ne121_]
 have PV127:=Lib.hid (PV116.out.up hL15);have hB128:Below w.heap.size w W15:=by rw [hW15];exact bB
 clear hW15 hL15 uc112 uc113 uc114 uc115 c112 c113 c114 c115 PV116;with_reducible refine (K1.out _).mono ?_
 rintro e w15 ⟨rfl,hb15⟩;have c129:=c122.up hb15;have c130:=c123.up hb15;have c131:=c124.up hb15;have c132:=c125.up hb15;have c133:=c126.up hb15;have PV134:=Lib.hid (PV127.out.up hb15);have hB135:Below w.heap.size w w15:=bel_up hB128 hb15;clear c122 c123 c124 c125 c126 PV127;have K136:=Lib.hid (fun W=>of_q 3 0 q30 W (by decide) (by decide) Hq30.out);have uc129:=c129;have uc130:=c130;have uc131:=c131;have uc132:=c132;have uc133:=c133;simp only [At,Own,Nat.reduceAdd,and_true] at uc129 uc130 uc131 uc132 uc133;go_wp2_with (fail)
 refine calls_named ?_;intro W16 hW16;have hL16:Below w15.heap.size w15 W16:=by rw [hW16];exact bB
 have c137:=c129.up hL16;have c138:=c130.up hL16;have c139:=c131.up hL16;have c140:=c132.up hL16;have c141:=c133.up hL16;have PV142:=Lib.hid (PV134.out.up hL16);have hB143:Below w.heap.size w W16:=by rw [hW16];exact bB
 clear hW16 hL16 uc129 uc130 uc131 uc132 uc133 c129 c130 c131 c132 c133 PV134;with_reducible refine (K136.out _).mono ?_
 rintro e w16 ⟨rfl,hb16⟩;have c144:=c137.up hb16;have c145:=c138.up hb16;have c146:=c139.up hb16;have c147:=c140.up hb16;have c148:=c141.up hb16;have PV149:=Lib.hid (PV142.out.up hb16);have hB150:Below w.heap.size w w16:=bel_up hB143 hb16;clear c137 c138 c139 c140 c141 PV142;have uc144:=c144;have uc145:=c145;have uc146:=c146;have uc147:=c147;have uc148:=c148;simp only [At,Own,Nat.reduceAdd,and_true] at uc144 uc145 uc146 uc147 uc148;go_wp2_with (fail)
 refine calls_named ?_;intro W17 hW17;have hL17:Below w16.heap.size w16 W17:=by rw [hW17];exact bB
 have c151:=c144.up hL17;have c152:=c145.up hL17;have c153:=c146.up hL17;have c154:=c147.up hL17;have c155:=c148.up hL17;have PV156:=Lib.hid (PV149.out.up hL17);have hB157:Below w.heap.size w W17:=by rw [hW17];exact bB
 clear hW17 hL17 uc144 uc145 uc146 uc147 uc148 c144 c145 c146 c147 c148 PV149;with_reducible refine (K92.out _).mono ?_
 rintro e w17 ⟨rfl,hb17⟩;have c158:=c151.up hb17;have c159:=c152.up hb17;have c160:=c153.up hb17;have c161:=c154.up hb17;have c162:=c155.up hb17;have PV163:=Lib.hid (PV156.out.up hb17);have hB164:Below w.heap.size w w17:=bel_up hB157 hb17;clear c151 c152 c153 c154 c155 PV156;have uc158:=c158;have uc159:=c159;have uc160:=c160;have uc161:=c161;have uc162:=c162;simp only [At,Own,Nat.reduceAdd,and_true] at uc158 uc159 uc160 uc161 uc162;go_wp2_with (fail)
 refine calls_named ?_;intro W18 hW18;have hL18:Below w17.heap.size w17 W18:=by rw [hW18];exact bB
 have c165:=c158.up hL18;have c166:=c159.up hL18;have c167:=c160.up hL18;have c168:=c161.up hL18;have c169:=c162.up hL18;have PV170:=Lib.hid (PV163.out.up hL18);have hB171:Below w.heap.size w W18:=by rw [hW18];exact bB
 clear hW18 hL18 uc158 uc159 uc160 uc161 uc162 c158 c159 c160 c161 c162 PV163;with_reducible refine (K7.out _).mono ?_
 rintro e w18 ⟨rfl,hb18⟩;have c172:=c165.up hb18;have c173:=c166.up hb18;have c174:=c167.up hb18;have c175:=c168.up hb18;have c176:=c169.up hb18;have PV177:=Lib.hid (PV170.out.up hb18);have hB178:Below w.heap.size w w18:=bel_up hB171 hb18;clear c165 c166 c167 c168 c169 PV170;have ne179_:w3.heap.size<w18.heap.size:=by have:=c172.lt;omega
 have ne179:=Nat.ne_of_lt ne179_;have ne179':=ne179.symm;have ne180_:w5.heap.size<w18.heap.size:=by have:=c173.lt;omega
 have ne180:=Nat.ne_of_lt ne180_;have ne180':=ne180.symm;have ne181_:w8.heap.size<w18.heap.size:=by have:=c174.lt;omega
 have ne181:=Nat.ne_of_lt ne181_;have ne181':=ne181.symm;have ne182_:w11.heap.size<w18.heap.size:=by have:=c175.lt;omega
 have ne182:=Nat.ne_of_lt ne182_;have ne182':=ne182.symm;have ne183_:w14.heap.size<w18.heap.size:=by have:=c176.lt;omega
 have ne183:=Nat.ne_of_lt ne183_;have ne183':=ne183.symm;have K184:=Lib.hid (fun va vb W (ha:PV W va KR) (hb:PV W vb [q00,q30,q21,q01])=>same_known va vb W ha (HKR.out▸hb));have uc172:=c172;have uc173:=c173;have uc174:=c174;have uc175:=c175;have uc176:=c176;simp only [At,Own,Nat.reduceAdd,and_true] at uc172 uc173 uc174 uc175 uc176;go_wp2_with (fail)
 refine calls_named ?_;intro W19 hW19;have hL19:Below w18.heap.size w18 W19:=by rw [hW19];exact bB
 have c185:=c172.up hL19;have c186:=c173.up hL19;have c187:=c174.up hL19;have c188:=c175.up hL19;have c189:=c176.up hL19
 have c190:Own W19 w18.heap.size 0 [.bool (ng q00.1.num),.string (mg q00.1.num.natAbs),.bool false,.string (mg (dn q00.1)),.bool (ng q00.2.num),.string (mg q00.2.num.natAbs),.bool false,.string (mg (dn q00.2)),.bool (ng q30.1.num),.string (mg q30.1.num.natAbs),.bool false,.string (mg (dn q30.1)),.bool (ng q30.2.num),.string (mg q30.2.num.natAbs),.bool false,.string (mg (dn q30.2)),.bool (ng q21.1.num),.string (mg q21.1.num.natAbs),.bool false,.string (mg (dn q21.1)),.bool (ng q21.2.num),.string (mg q21.2.num.natAbs),.bool false,.string (mg (dn q21.2)),.bool (ng q01.1.num),.string (mg q01.1.num.natAbs),.bool false,.string (mg (dn q01.1)),.bool (ng q01.2.num),.string (mg q01.2.num.natAbs),.bool false,.string (mg (dn q01.2))]:=by
  rw [hW19]
  first
  | (repeat (first|(with_reducible refine own_new (l:=[.bool (ng q00.1.num),.string (mg q00.1.num.natAbs),.bool false,.string (mg (dn q00.1)),.bool (ng q00.2.num),.string (mg q00.2.num.natAbs),.bool false,.string (mg (dn q00.2)),.bool (ng q30.1.num),.string (mg q30.1.num.natAbs),.bool false,.string (mg (dn q30.1)),.bool (ng q30.2.num),.string (mg q30.2.num.natAbs),.bool false,.string (mg (dn q30.2)),.bool (ng q21.1.num),.string (mg q21.1.num.natAbs),.bool false,.string (mg (dn q21.1)),.bool (ng q21.2.num),.string (mg q21.2.num.natAbs),.bool false,.string (mg (dn q21.2)),.bool (ng q01.1.num),.string (mg q01.1.num.natAbs),.bool false,.string (mg (dn q01.1)),.bool (ng q01.2.num),.string (mg q01.2.num.natAbs),.bool false,.string (mg (dn q01.2))]) ?_;(simp;done))|with_reducible refine Own.alloc ?_ _|refine Own.far _ _ (by first|(simp;done)|(simp [*];done)|(simp;omega)) ?_));done
  | simp [Own,go_sem,uc172,uc173,uc174,uc175,uc176,ne179,ne179',ne179_,ne180,ne180',ne180_,ne181,ne181',ne181_,ne182,ne182',ne182_,ne183,ne183',ne183_]
 have PV191:=Lib.hid (PV177.out.up hL19);have hB192:Below w.heap.size w W19:=by rw [hW19];exact bB
 clear hW19 hL19 uc172 uc173 uc174 uc175 uc176 c172 c173 c174 c175 c176 PV177;with_reducible refine (K184.out _ _ _ PV191.out (pv_lit (n:=4) (l:=[q00,q30,q21,q01]) c190 rfl ⟨rfl,by decide⟩)).mono ?_
 rintro e w19 ⟨rfl,hb19⟩;have c193:=c185.up hb19;have c194:=c186.up hb19;have c195:=c187.up hb19;have c196:=c188.up hb19;have c197:=c189.up hb19;have c198:=c190.up hb19;have PV199:=Lib.hid (PV191.out.up hb19);have hB200:Below w.heap.size w w19:=bel_up hB192 hb19;clear c185 c186 c187 c188 c189 c190 PV191;have uc193:=c193;have uc194:=c194;have uc195:=c195;have uc196:=c196;have uc197:=c197;have uc198:=c198;simp only [At,Own,Nat.reduceAdd,and_true] at uc193 uc194 uc195 uc196 uc197 uc198;have K201:=Lib.hid (fun va vb W (ha:PV W va [q00,q10,q01]) (hb:PV W vb [q11,q21,q12])=>csep_q1 va vb q11 r32 W Hq11.out Hr32.out (HKA.out▸ha) (HKC.out▸hb));go_wp2_with (refine wpList_load_own (by rfl) _ _ rfl _ rfl _ _ c195 Tryz.underlying42 (by rfl) (by kernel_rfl) ?_)
 refine calls_named ?_;intro W20 hW20;have hL20:Below w19.heap.size w19 W20:=by rw [hW20];exact bB
 have c202:=c193.up hL20;have c203:=c194.up hL20;have c204:=c195.up hL20;have c205:=c196.up hL20;have c206:=c197.up hL20;have c207:=c198.up hL20;have PV208:=Lib.hid (PV199.out.up hL20);have hB209:Below w.heap.size w W20:=by rw [hW20];exact bB
 clear hW20 hL20 uc193 uc194 uc195 uc196 uc197 uc198 c193 c194 c195 c196 c197 c198 PV199;with_reducible refine (K201.out _ _ _ (pv_lit (n:=3) (l:=[q00,q10,q01]) c205 rfl ⟨rfl,by decide⟩) (pv_lit (n:=3) (l:=[q11,q21,q12]) c206 rfl ⟨rfl,by decide⟩)).mono ?_
 rintro e w20 ⟨rfl,hb20⟩;have c210:=c202.up hb20;have c211:=c203.up hb20;have c212:=c204.up hb20;have c213:=c205.up hb20;have c214:=c206.up hb20;have c215:=c207.up hb20;have PV216:=Lib.hid (PV208.out.up hb20);have hB217:Below w.heap.size w w20:=bel_up hB209 hb20;clear c202 c203 c204 c205 c206 c207 PV208;have uc210:=c210;have uc211:=c211;have uc212:=c212;have uc213:=c213;have uc214:=c214;have uc215:=c215;simp only [At,Own,Nat.reduceAdd,and_true] at uc210 uc211 uc212 uc213 uc214 uc215;have K218:=Lib.hid (fun va vb W (ha:PV W va [q11,q21,q12]) (hb:PV W vb [q00,q10,q01])=>csep_q2 va vb q11 r32 W Hq11.out Hr32.out (HKC.out▸ha) (HKA.out▸hb));go_wp2_with (refine wpList_load_own (by rfl) _ _ rfl _ rfl _ _ c212 Tryz.underlying42 (by rfl) (by kernel_rfl) ?_)
 refine calls_named ?_;intro W21 hW21;have hL21:Below w20.heap.size w20 W21:=by rw [hW21];exact bB
 have c219:=c210.up hL21;have c220:=c211.up hL21;have c221:=c212.up hL21;have c222:=c213.up hL21;have c223:=c214.up hL21;have c224:=c215.up hL21;have PV225:=Lib.hid (PV216.out.up hL21);have hB226:Below w.heap.size w W21:=by rw [hW21];exact bB
 clear hW21 hL21 uc210 uc211 uc212 uc213 uc214 uc215 c210 c211 c212 c213 c214 c215 PV216;with_reducible refine (K218.out _ _ _ (pv_lit (n:=3) (l:=[q11,q21,q12]) c223 rfl ⟨rfl,by decide⟩) (pv_lit (n:=3) (l:=[q00,q10,q01]) c222 rfl ⟨rfl,by decide⟩)).mono ?_
 rintro e w21 ⟨rfl,hb21⟩;have c227:=c219.up hb21;have c228:=c220.up hb21;have c229:=c221.up hb21;have c230:=c222.up hb21;have c231:=c223.up hb21;have c232:=c224.up hb21;have PV233:=Lib.hid (PV225.out.up hb21);have hB234:Below w.heap.size w w21:=bel_up hB226 hb21;clear c219 c220 c221 c222 c223 c224 PV225;have uc227:=c227;have uc228:=c228;have uc229:=c229;have uc230:=c230;have uc231:=c231;have uc232:=c232;simp only [At,Own,Nat.reduceAdd,and_true] at uc227 uc228 uc229 uc230 uc231 uc232;go_wp2;go_ret;refine ⟨rfl,?_⟩;exact bB
end Go.Proofs.YtdkkjfnpinckjaaGreatDoor
