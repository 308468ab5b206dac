/-
 Contracts for the plane: the nearest point of a segment; a look at two points.
-/
import Derived.Test.YtdkkjfnpinckjaaGreatDoorYReg4
import Derived.Test.YtdkkjfnpinckjaaGreatDoorYReg5
import Derived.Test.YtdkkjfnpinckjaaGreatDoorYSeG
import Derived.Test.YtdkkjfnpinckjaaGreatDoorYPl
import Derived.Test.YtdkkjfnpinckjaaGreatDoorYMn
import Derived.Deep.RegionHeld3
import Derived.Deep.DeepCutAuto
set_option maxRecDepth 100000
set_option linter.unusedSimpArgs false
set_option linter.unusedVariables false
namespace Go.Proofs.YtdkkjfnpinckjaaGreatDoor
open Go Go.RowKit

theorem qmax_zero (x:Rat) (w:World) (hx:Pl.Sz 16777216 x) :
 Calls Tryz.prog 77 #[.agg #[.bool false,.string ⟨#[]⟩,.bool false,.string ⟨#[]⟩],qv x] w fun e w'=>e=.returned (qv (Pl.maxQ 0 x))∧Below w.heap.size w w' :=
 qmax_any 0 x w (Pl.sz_zero.mono (by decide)) hx
theorem dot_ne {a b:Rat×Rat} (h:a≠b):Pl.dotP (Pl.subP b a) (Pl.subP b a)≠0:=fun e=>by
 have:=Pl.dot_self_pos (Pl.sub_ne (Ne.symm h));rw [e] at this;exact absurd this (by decide)
theorem one_sz:Pl.Sz 1 (1:Rat):=⟨by decide,by decide⟩

set_option maxHeartbeats 1000000 in
theorem pnear_ab (p a b:Rat×Rat) (w:World) (hp:Pl.SzP 1 p) (ha:Pl.SzP 1 a) (hb:Pl.SzP 1 b) (hne:a≠b) :
 Calls Tryz.prog 127 #[pv p,.agg #[.bool (ng a.1.num),.string (mg a.1.num.natAbs),.bool false,.string (mg (dn a.1)),.bool (ng a.2.num),.string (mg a.2.num.natAbs),.bool false,.string (mg (dn a.2)),.bool (ng b.1.num),.string (mg b.1.num.natAbs),.bool false,.string (mg (dn b.1)),.bool (ng b.2.num),.string (mg b.2.num.natAbs),.bool false,.string (mg (dn b.2))]] w fun e w'=>e=.returned (.tuple #[pv (Pl.nearP p (a,b)),qv (Pl.nearT p (a,b))])∧Below w.heap.size w w':=by
 obtain ⟨z,hz⟩:∃ z,Pl.nearP p (a,b)=z:=⟨_,rfl⟩
 obtain ⟨t,ht⟩:∃ z,Pl.nearT p (a,b)=z:=⟨_,rfl⟩
 rw [hz,ht];have hz2:Pl.divide (a,b) t=z:=by rw [← hz,← ht,Pl.nearP,if_neg (dot_ne hne)]
 unfold Pl.nearT at ht;simp only at ht;obtain ⟨d,hd⟩:∃ z,Pl.subP b a=z:=⟨_,rfl⟩
 have HZd:Hid (Pl.SzP 3 d):=Lib.hid (hd▸hb.sub ha);have hne2:=dot_ne hne;rw [hd] at ht hne2;obtain ⟨n,hn⟩:∃ z,Pl.dotP d d=z:=⟨_,rfl⟩
 have HZn:Hid (Pl.Sz 13 n):=Lib.hid (hn▸HZd.out.dot HZd.out);rw [hn] at ht hne2;obtain ⟨x,hx⟩:∃ z,Pl.dotP (Pl.subP p a) d/n=z:=⟨_,rfl⟩
 have HZx:Hid (Pl.Sz 26 x):=Lib.hid (hx▸((hp.sub ha).dot HZd.out).div HZn.out);rw [hx] at ht;have HZt:Hid (Pl.Sz 28 t):=Lib.hid (ht▸(Pl.sz_zero.maxQ (HZx.out.minQ one_sz)));have Hd:=Lib.hid hd;have Hn:=Lib.hid hn;have Hx:=Lib.hid hx;have Ht:=Lib.hid ht;have Hz:=Lib.hid hz2;have HNE:=Lib.hid hne2;clear hz ht hz2 hd hn hx hne hne2;go_enter Tryz.func127,Tryz.ntmps127;have K1:=Lib.hid (fun W=>Hd.out▸psub_any b a W hb ha (by omega) (by omega));go_wp2_with (fail)
 refine calls_named ?_;intro W1 hW1;have hL1:Below w.heap.size w W1:=by rw [hW1];exact bB
 have c2:Own W1 w.heap.size 0 [.bool (ng p.1.num),.string (mg p.1.num.natAbs),.bool false,.string (mg (dn p.1)),.bool (ng p.2.num),.string (mg p.2.num.natAbs),.bool false,.string (mg (dn p.2))]:=by
  rw [hW1]
  first
  | (repeat (first|(with_reducible refine own_new (l:=[.bool (ng p.1.num),.string (mg p.1.num.natAbs),.bool false,.string (mg (dn p.1)),.bool (ng p.2.num),.string (mg p.2.num.natAbs),.bool false,.string (mg (dn p.2))]) ?_;(simp;done))|with_reducible refine Own.alloc ?_ _|refine Own.far _ _ (by first|(simp;done)|(simp [*];done)|(simp;omega)) ?_));done
  | simp [Own,go_sem]
 have c3:Own W1 (w.heap.size+1) 0 [.bool (ng a.1.num),.string (mg a.1.num.natAbs),.bool false,.string (mg (dn a.1)),.bool (ng a.2.num),.string (mg a.2.num.natAbs),.bool false,.string (mg (dn a.2)),.bool (ng b.1.num),.string (mg b.1.num.natAbs),.bool false,.string (mg (dn b.1)),.bool (ng b.2.num),.string (mg b.2.num.natAbs),.bool false,.string (mg (dn b.2))]:=by
  rw [hW1]
  first
  | (repeat (first|(with_reducible refine own_new (l:=[.bool (ng a.1.num),.string (mg a.1.num.natAbs),.bool false,.string (mg (dn a.1)),.bool (ng a.2.num),.string (mg a.2.num.natAbs),.bool false,.string (mg (dn a.2)),.bool (ng b.1.num),.string (mg b.1.num.natAbs),.bool false,.string (mg (dn b.1)),.bool (ng b.2.num),.string (mg b.2.num.natAbs),.bool false,.string (mg (dn b.2))]) ?_;(simp;done))|with_reducible refine Own.alloc ?_ _|refine Own.far _ _ (by first|(simp;done)|(simp [*];done)|(simp;omega)) ?_));done
  | simp [Own,go_sem]
 have c4:Own W1 (w.heap.size+2) 0 [.bool false,.string ⟨#[]⟩,.bool false,.string ⟨#[]⟩,.bool false,.string ⟨#[]⟩,.bool false,.string ⟨#[]⟩]:=by
  rw [hW1]
  first
  | (repeat (first|(with_reducible refine own_new (l:=[.bool false,.string ⟨#[]⟩,.bool false,.string ⟨#[]⟩,.bool false,.string ⟨#[]⟩,.bool false,.string ⟨#[]⟩]) ?_;(simp;done))|with_reducible refine Own.alloc ?_ _|refine Own.far _ _ (by first|(simp;done)|(simp [*];done)|(simp;omega)) ?_));done
  | simp [Own,go_sem]
 have c5:Own W1 (w.heap.size+3) 0 [.bool false,.string ⟨#[]⟩,.bool false,.string ⟨#[]⟩]:=by
  rw [hW1]
  first
  | (repeat (first|(with_reducible refine own_new (l:=[.bool false,.string ⟨#[]⟩,.bool false,.string ⟨#[]⟩]) ?_;(simp;done))|with_reducible refine Own.alloc ?_ _|refine Own.far _ _ (by first|(simp;done)|(simp [*];done)|(simp;omega)) ?_));done
  | simp [Own,go_sem]
 have hB6:Below w.heap.size w W1:=by rw [hW1];exact bB
 clear hW1 hL1;with_reducible refine (K1.out _).mono ?_
 rintro e w1 ⟨rfl,hb1⟩;have c7:=c2.up hb1;have c8:=c3.up hb1;have c9:=c4.up hb1;have c10:=c5.up hb1;have hB11:Below w.heap.size w w1:=bel_up hB6 hb1;clear c2 c3 c4 c5;have ne12_:w.heap.size<w1.heap.size:=by have:=c7.lt;omega
 have ne12:=Nat.ne_of_lt ne12_;have ne12':=ne12.symm;have ne13_:w.heap.size+1<w1.heap.size:=by have:=c8.lt;omega
 have ne13:=Nat.ne_of_lt ne13_;have ne13':=ne13.symm;have ne14_:w.heap.size+2<w1.heap.size:=by have:=c9.lt;omega
 have ne14:=Nat.ne_of_lt ne14_;have ne14':=ne14.symm;have ne15_:w.heap.size+3<w1.heap.size:=by have:=c10.lt;omega
 have ne15:=Nat.ne_of_lt ne15_;have ne15':=ne15.symm;have uc7:=c7;have uc8:=c8;have uc9:=c9;have uc10:=c10;simp only [At,Own,Nat.reduceAdd,and_true] at uc7 uc8 uc9 uc10;go_upto_region 2 with fail
 refine wp_named ?_;intro W2 hW2;have hL2:Below w1.heap.size w1 W2:=by rw [hW2];exact bB
 have c16:=c7.up hL2;have c17:=c8.up hL2;have c18:=c9.up hL2;have c19:=c10.up hL2
 have c20:Own W2 w1.heap.size 0 [.bool (ng d.1.num),.string (mg d.1.num.natAbs),.bool false,.string (mg (dn d.1)),.bool (ng d.2.num),.string (mg d.2.num.natAbs),.bool false,.string (mg (dn d.2))]:=by
  rw [hW2]
  first
  | (repeat (first|(with_reducible refine own_new (l:=[.bool (ng d.1.num),.string (mg d.1.num.natAbs),.bool false,.string (mg (dn d.1)),.bool (ng d.2.num),.string (mg d.2.num.natAbs),.bool false,.string (mg (dn d.2))]) ?_;(simp;done))|with_reducible refine Own.alloc ?_ _|refine Own.far _ _ (by first|(simp;done)|(simp [*];done)|(simp;omega)) ?_));done
  | simp [Own,go_sem,uc7,uc8,uc9,uc10,ne12,ne12',ne12_,ne13,ne13',ne13_,ne14,ne14',ne14_,ne15,ne15',ne15_]
 have hB21:Below w.heap.size w W2:=by rw [hW2];exact bB
 clear hW2 hL2 uc7 uc8 uc9 uc10 c7 c8 c9 c10;have K23:=Lib.hid (fun W=>psub_any p a W hp ha (by omega) (by omega));have K24:=Lib.hid (fun W=>pdot_any (Pl.subP p a) d W (hp.sub ha) HZd.out (by omega) (by omega));have K25:=Lib.hid (fun W=>Hn.out▸pdot_any d d W HZd.out HZd.out (by omega) (by omega));have K26:=Lib.hid (fun W=>Hx.out▸qdiv_any (Pl.dotP (Pl.subP p a) d) n W HNE.out (((hp.sub ha).dot HZd.out).mono (by omega)) (HZn.out.mono (by omega)));refine wp_region_new1l 14 12 13 7 8 [.bool false,.string ⟨#[]⟩,.bool false,.string ⟨#[]⟩] 33 (by kernel_rfl) rfl rfl rfl rfl (by kernel_rfl) (by kernel_rfl) rfl rfl rfl rfl rfl rfl rfl ⟨(by intro h_;cases h_),(by intro h_;cases h_),(by intro h_;cases h_)⟩ (by kernel_rfl) (by simp) (run_alloc_zero Tryz.zeroValue33 rfl) (by kernel_rfl) ?_;intro V_22 hV_22;have vc16:=c16.up hV_22;have dc16:=fun p:Bel V_22=>vc16.bel p
 have vc17:=c17.up hV_22;have dc17:=fun p:Bel V_22=>vc17.bel p
 have vc18:=c18.up hV_22;have dc18:=fun p:Bel V_22=>vc18.bel p
 have vc19:=c19.up hV_22;have dc19:=fun p:Bel V_22=>vc19.bel p
 have vc20:=c20.up hV_22;have dc20:=fun p:Bel V_22=>vc20.bel p
 simp only [At,Own,Nat.reduceAdd,and_true] at dc16 dc17 dc18 dc19 dc20;have hBV_22:=bel_up hB21 hV_22;simp only [waitL,List.getElem?_cons_succ,List.getElem?_cons_zero,List.set_cons_succ,List.set_cons_zero,List.map_cons,List.map_nil,maskOp,List.take_succ_cons,List.take_zero];repeat (go_big_quiet_step (first|(go_at_call 99;with_reducible exact Calls.bel (K23.out _))|(go_at_call 63;with_reducible exact Calls.bel (K24.out _))|(go_at_call 63;with_reducible exact Calls.bel (K25.out _))|(go_at_call 87;with_reducible exact Calls.bel (K26.out _))))
 refine wpQuiet_nil ?_;refine ⟨[.bool (ng x.num),.string (mg x.num.natAbs),.bool false,.string (mg (dn x))],rfl,rfl,by simp [Value.oneCell'],?_⟩;intro bq27 wn_22 hbn_22 lbq27 mbq27 c28;simp only [Act.put,List.setIfInBounds_toArray,List.set_cons_zero,List.set_cons_succ];go_simp;have ne29:w.heap.size≠bq27:=by have:=c16.lt;omega
 have ne29':=ne29.symm;have ne30:w.heap.size+1≠bq27:=by have:=c17.lt;omega
 have ne30':=ne30.symm;have ne31:w.heap.size+2≠bq27:=by have:=c18.lt;omega
 have ne31':=ne31.symm;have ne32:w.heap.size+3≠bq27:=by have:=c19.lt;omega
 have ne32':=ne32.symm;have ne33:w1.heap.size≠bq27:=by have:=c20.lt;omega
 have ne33':=ne33.symm;have wbq27:=Nat.le_trans hB21.size lbq27;clear hBV_22 dc20 vc20 dc19 vc19 dc18 vc18 dc17 vc17 dc16 vc16 hV_22 V_22;have c34:=c16.up hbn_22;have c35:=c17.up hbn_22;have c36:=c18.up hbn_22;have c37:=c19.up hbn_22;have c38:=c20.up hbn_22;have hB39:Below w.heap.size w wn_22:=bel_up hB21 hbn_22;clear c16 c17 c18 c19 c20;have K40:=Lib.hid (fun W=>(show Calls Tryz.prog 145 #[.int .i64 1] W fun e w'=>e=.returned (qv (1:Rat))∧Below W.heap.size W w' from qfromInt_any 1 W (by decide) (by decide)));have K41:=Lib.hid (fun W=>qmin_any x 1 W (HZx.out.mono (by omega)) (one_sz.mono (by omega)));have K42:=Lib.hid (fun W=>Ht.out▸qmax_zero (Pl.minQ x 1) W ((HZx.out.minQ one_sz).mono (by omega)));go_wp2_with fail;refine wp_named ?_;intro W3 hW3;have hL3:Below wn_22.heap.size wn_22 W3:=by rw [hW3];exact bB
 have c43:=c34.up hL3;have c44:=c35.up hL3;have c45:=c36.up hL3;have c46:=c37.up hL3;have c47:=c38.up hL3;have c48:=c28.up hL3;have hB49:Below w.heap.size w W3:=by rw [hW3];exact bB
 clear hW3 hL3 c34 c35 c36 c37 c38 c28;have dc43:=fun p:Bel W3=>c43.bel p;have dc44:=fun p:Bel W3=>c44.bel p;have dc45:=fun p:Bel W3=>c45.bel p;have dc46:=fun p:Bel W3=>c46.bel p;have dc47:=fun p:Bel W3=>c47.bel p;have dc48:=fun p:Bel W3=>c48.bel p
 simp only [At,Own,Nat.reduceAdd,and_true] at dc43 dc44 dc45 dc46 dc47 dc48;refine wp_region_tail 5 (by kernel_rfl) (by kernel_rfl) ?_;simp only [List.take_succ_cons,List.take_zero,List.drop_succ_cons,List.drop_zero];repeat (go_big_quiet_step (first|(go_at_call 145;with_reducible exact Calls.bel (K40.out _))|(go_at_call 144;with_reducible exact Calls.bel (K41.out _))|(go_at_call 77;with_reducible exact Calls.bel (K42.out _))))
 refine wpQuiet_nil ?_;intro w3 hb3;have c50:=c43.up hb3;have c51:=c44.up hb3;have c52:=c45.up hb3;have c53:=c46.up hb3;have c54:=c47.up hb3;have c55:=c48.up hb3;have hB56:Below w.heap.size w w3:=bel_up hB49 hb3;clear dc43 dc44 dc45 dc46 dc47 dc48 c43 c44 c45 c46 c47 c48;have uc50:=c50;have uc51:=c51;have uc52:=c52;have uc53:=c53;have uc54:=c54;have uc55:=c55;simp only [At,Own,Nat.reduceAdd,and_true] at uc50 uc51 uc52 uc53 uc54 uc55;go_upto_region 6 with fail
 refine wp_named ?_;intro W4 hW4;have c57:Own W4 w.heap.size 0 [.bool (ng p.1.num),.string (mg p.1.num.natAbs),.bool false,.string (mg (dn p.1)),.bool (ng p.2.num),.string (mg p.2.num.natAbs),.bool false,.string (mg (dn p.2))]:=by rw [hW4];simp [Own,go_sem,uc50,uc51,uc52,uc53,uc54,uc55,ne29,ne29',ne30,ne30',ne31,ne31',ne32,ne32',ne33,ne33']
 have c58:Own W4 (w.heap.size+1) 0 [.bool (ng a.1.num),.string (mg a.1.num.natAbs),.bool false,.string (mg (dn a.1)),.bool (ng a.2.num),.string (mg a.2.num.natAbs),.bool false,.string (mg (dn a.2)),.bool (ng b.1.num),.string (mg b.1.num.natAbs),.bool false,.string (mg (dn b.1)),.bool (ng b.2.num),.string (mg b.2.num.natAbs),.bool false,.string (mg (dn b.2))]:=by rw [hW4];simp [Own,go_sem,uc50,uc51,uc52,uc53,uc54,uc55,ne29,ne29',ne30,ne30',ne31,ne31',ne32,ne32',ne33,ne33']
 have c59:Own W4 (w.heap.size+2) 0 [.bool false,.string ⟨#[]⟩,.bool false,.string ⟨#[]⟩,.bool false,.string ⟨#[]⟩,.bool false,.string ⟨#[]⟩]:=by rw [hW4];simp [Own,go_sem,uc50,uc51,uc52,uc53,uc54,uc55,ne29,ne29',ne30,ne30',ne31,ne31',ne32,ne32',ne33,ne33']
 have c60:Own W4 (w.heap.size+3) 0 [.bool false,.string ⟨#[]⟩,.bool false,.string ⟨#[]⟩]:=by rw [hW4];simp [Own,go_sem,uc50,uc51,uc52,uc53,uc54,uc55,ne29,ne29',ne30,ne30',ne31,ne31',ne32,ne32',ne33,ne33']
 have c61:Own W4 w1.heap.size 0 [.bool (ng d.1.num),.string (mg d.1.num.natAbs),.bool false,.string (mg (dn d.1)),.bool (ng d.2.num),.string (mg d.2.num.natAbs),.bool false,.string (mg (dn d.2))]:=by rw [hW4];simp [Own,go_sem,uc50,uc51,uc52,uc53,uc54,uc55,ne29,ne29',ne30,ne30',ne31,ne31',ne32,ne32',ne33,ne33']
 have c62:Own W4 (bq27) 0 [.bool (ng t.num),.string (mg t.num.natAbs),.bool false,.string (mg (dn t))]:=by rw [hW4];simp [Own,go_sem,uc50,uc51,uc52,uc53,uc54,uc55,ne29,ne29',ne30,ne30',ne31,ne31',ne32,ne32',ne33,ne33']
 have hB63:Below w.heap.size w W4:=by rw [hW4];exact bB
 clear hW4 uc50 uc51 uc52 uc53 uc54 uc55 c50 c51 c52 c53 c54 c55;have K64:=Lib.hid (fun W=>Hz.out▸pdiv_any (a,b) t W ⟨ha,hb⟩ HZt.out (by omega) (by omega))
 have HSS66:∀ w':World,Below W4.heap.size W4 w'→(w'.cell? ⟨w.heap.size+1,0,none⟩=some (.bool (ng a.1.num))∧w'.cell? ⟨w.heap.size+1,1,none⟩=some (.string (mg a.1.num.natAbs))∧w'.cell? ⟨w.heap.size+1,2,none⟩=some (.bool false)∧w'.cell? ⟨w.heap.size+1,3,none⟩=some (.string (mg (dn a.1)))∧w'.cell? ⟨w.heap.size+1,4,none⟩=some (.bool (ng a.2.num))∧w'.cell? ⟨w.heap.size+1,5,none⟩=some (.string (mg a.2.num.natAbs))∧w'.cell? ⟨w.heap.size+1,6,none⟩=some (.bool false)∧w'.cell? ⟨w.heap.size+1,7,none⟩=some (.string (mg (dn a.2)))∧w'.cell? ⟨w.heap.size+1,8,none⟩=some (.bool (ng b.1.num))∧w'.cell? ⟨w.heap.size+1,9,none⟩=some (.string (mg b.1.num.natAbs))∧w'.cell? ⟨w.heap.size+1,10,none⟩=some (.bool false)∧w'.cell? ⟨w.heap.size+1,11,none⟩=some (.string (mg (dn b.1)))∧w'.cell? ⟨w.heap.size+1,12,none⟩=some (.bool (ng b.2.num))∧w'.cell? ⟨w.heap.size+1,13,none⟩=some (.string (mg b.2.num.natAbs))∧w'.cell? ⟨w.heap.size+1,14,none⟩=some (.bool false)∧w'.cell? ⟨w.heap.size+1,15,none⟩=some (.string (mg (dn b.2)))∧w'.cell? ⟨bq27,0,none⟩=some (.bool (ng t.num))∧w'.cell? ⟨bq27,1,none⟩=some (.string (mg t.num.natAbs))∧w'.cell? ⟨bq27,2,none⟩=some (.bool false)∧w'.cell? ⟨bq27,3,none⟩=some (.string (mg (dn t)))):=fun w' hb=>by
  have qc58:=c58.up hb;have qc62:=c62.up hb;simp only [At,Own,Nat.reduceAdd,and_true] at qc58 qc62;simp [*]
 go_cut [] (fun wx=>Own wx w.heap.size 0 [.bool (ng p.1.num),.string (mg p.1.num.natAbs),.bool false,.string (mg (dn p.1)),.bool (ng p.2.num),.string (mg p.2.num.natAbs),.bool false,.string (mg (dn p.2))]∧Own wx (w.heap.size+1) 0 [.bool (ng a.1.num),.string (mg a.1.num.natAbs),.bool false,.string (mg (dn a.1)),.bool (ng a.2.num),.string (mg a.2.num.natAbs),.bool false,.string (mg (dn a.2)),.bool (ng b.1.num),.string (mg b.1.num.natAbs),.bool false,.string (mg (dn b.1)),.bool (ng b.2.num),.string (mg b.2.num.natAbs),.bool false,.string (mg (dn b.2))]∧Own wx (w.heap.size+2) 0 [.bool (ng z.1.num),.string (mg z.1.num.natAbs),.bool false,.string (mg (dn z.1)),.bool (ng z.2.num),.string (mg z.2.num.natAbs),.bool false,.string (mg (dn z.2))]∧Own wx (w.heap.size+3) 0 [.bool (ng t.num),.string (mg t.num.natAbs),.bool false,.string (mg (dn t))]∧Own wx w1.heap.size 0 [.bool (ng d.1.num),.string (mg d.1.num.natAbs),.bool false,.string (mg (dn d.1)),.bool (ng d.2.num),.string (mg d.2.num.natAbs),.bool false,.string (mg (dn d.2))]∧Own wx (bq27) 0 [.bool (ng t.num),.string (mg t.num.natAbs),.bool false,.string (mg (dn t))]∧W4.heap.size≤wx.heap.size∧Below w.heap.size w wx)
 case first =>
  have hu:=HSS66 W4 (Below.refl _ _)
  go_region_held3 (fun w'=>w'.cell? ⟨w.heap.size+1,0,none⟩=some (.bool (ng a.1.num))∧w'.cell? ⟨w.heap.size+1,1,none⟩=some (.string (mg a.1.num.natAbs))∧w'.cell? ⟨w.heap.size+1,2,none⟩=some (.bool false)∧w'.cell? ⟨w.heap.size+1,3,none⟩=some (.string (mg (dn a.1)))∧w'.cell? ⟨w.heap.size+1,4,none⟩=some (.bool (ng a.2.num))∧w'.cell? ⟨w.heap.size+1,5,none⟩=some (.string (mg a.2.num.natAbs))∧w'.cell? ⟨w.heap.size+1,6,none⟩=some (.bool false)∧w'.cell? ⟨w.heap.size+1,7,none⟩=some (.string (mg (dn a.2)))∧w'.cell? ⟨w.heap.size+1,8,none⟩=some (.bool (ng b.1.num))∧w'.cell? ⟨w.heap.size+1,9,none⟩=some (.string (mg b.1.num.natAbs))∧w'.cell? ⟨w.heap.size+1,10,none⟩=some (.bool false)∧w'.cell? ⟨w.heap.size+1,11,none⟩=some (.string (mg (dn b.1)))∧w'.cell? ⟨w.heap.size+1,12,none⟩=some (.bool (ng b.2.num))∧w'.cell? ⟨w.heap.size+1,13,none⟩=some (.string (mg b.2.num.natAbs))∧w'.cell? ⟨w.heap.size+1,14,none⟩=some (.bool false)∧w'.cell? ⟨w.heap.size+1,15,none⟩=some (.string (mg (dn b.2)))∧w'.cell? ⟨bq27,0,none⟩=some (.bool (ng t.num))∧w'.cell? ⟨bq27,1,none⟩=some (.string (mg t.num.natAbs))∧w'.cell? ⟨bq27,2,none⟩=some (.bool false)∧w'.cell? ⟨bq27,3,none⟩=some (.string (mg (dn t)))) (first|(refine HSS66 _ ?_<;>((repeat (first|with_reducible exact Below.refl _ _|with_reducible refine Below.drew ?_|with_reducible refine bel_up ?_ (by with_reducible assumption)));done))|((repeat' refine And.intro ?_ ?_)<;>((repeat (refine (World.cell?_setCell_far _ _ _ _ (by dsimp only;omega)).trans ?_));simp only [*]))) (first
   | (go_at_call 115;with_reducible refine (K64.out _).mono ?_;rintro e v_65 ⟨rfl,hbq_65⟩;have hs_65_0:Own v_65 (w.heap.size+2) 0 [.bool false,.string ⟨#[]⟩,.bool false,.string ⟨#[]⟩,.bool false,.string ⟨#[]⟩,.bool false,.string ⟨#[]⟩]:=Own.up c59 (by (repeat (first|with_reducible exact Below.refl _ _|with_reducible refine Below.drew ?_|with_reducible refine bel_up ?_ hbq_65)));simp only [At,Own,Nat.reduceAdd,and_true] at hs_65_0;have hs_65_1:Own v_65 (w.heap.size+3) 0 [.bool false,.string ⟨#[]⟩,.bool false,.string ⟨#[]⟩]:=Own.up c60 (by (repeat (first|with_reducible exact Below.refl _ _|with_reducible refine Below.drew ?_|with_reducible refine bel_up ?_ hbq_65)));simp only [At,Own,Nat.reduceAdd,and_true] at hs_65_1;have hk_65:=HSS66 v_65 (by (repeat (first|with_reducible exact Below.refl _ _|with_reducible refine Below.drew ?_|with_reducible refine bel_up ?_ (by with_reducible assumption))))))
  all_goals
   go_wp2_with fail;go_meet;refine ⟨?_,?_,?_,?_,?_,?_,?_,?_⟩
   ·(repeat (first|with_reducible exact c57|refine Own.far _ _ (by dsimp only;omega) ?_|(refine Own.up c57 ?_;((repeat (first|with_reducible exact Below.refl _ _|with_reducible refine Below.drew ?_|with_reducible refine bel_up ?_ (by with_reducible assumption)));done))))
   ·(repeat (first|with_reducible exact c58|refine Own.far _ _ (by dsimp only;omega) ?_|(refine Own.up c58 ?_;((repeat (first|with_reducible exact Below.refl _ _|with_reducible refine Below.drew ?_|with_reducible refine bel_up ?_ (by with_reducible assumption)));done))))
   ·simp [Own,go_sem, *]
   ·simp [Own,go_sem, *]
   ·(repeat (first|with_reducible exact c61|refine Own.far _ _ (by dsimp only;omega) ?_|(refine Own.up c61 ?_;((repeat (first|with_reducible exact Below.refl _ _|with_reducible refine Below.drew ?_|with_reducible refine bel_up ?_ (by with_reducible assumption)));done))))
   ·(repeat (first|with_reducible exact c62|refine Own.far _ _ (by dsimp only;omega) ?_|(refine Own.up c62 ?_;((repeat (first|with_reducible exact Below.refl _ _|with_reducible refine Below.drew ?_|with_reducible refine bel_up ?_ (by with_reducible assumption)));done))))
   ·(have h_:W4.heap.size≤v_65.heap.size:=hbq_65.size;simp [World.setCell];(try omega))
   ·(repeat (first|with_reducible exact Below.refl _ _|with_reducible exact hB63|with_reducible refine Below.drew ?_|refine Below.setCell ?_ (by first|(simp;done)|(simp;omega)|omega) _|with_reducible refine bel_up ?_ (by with_reducible assumption)))
 case rest =>
  clear HSS66 c57 c58 c59 c60 c61 c62;obtain ⟨c67,c68,c69,c70,c71,c72,hz73,hB74⟩:=hcut;obtain ⟨ws75,hws75⟩:∃ W_,W_=wc:=⟨_,rfl⟩
  subst hws75;have uc67:=c67;have uc68:=c68;have uc69:=c69;have uc70:=c70;have uc71:=c71;have uc72:=c72;simp only [At,Own,Nat.reduceAdd,and_true] at uc67 uc68 uc69 uc70 uc71 uc72;go_wp2;refine bodyPost_ret (v:=.tuple #[.agg #[.bool (ng z.1.num),.string (mg z.1.num.natAbs),.bool false,.string (mg (dn z.1)),.bool (ng z.2.num),.string (mg z.2.num.natAbs),.bool false,.string (mg (dn z.2))],.agg #[.bool (ng t.num),.string (mg t.num.natAbs),.bool false,.string (mg (dn t))]]) (by simp [results,Tryz.results127,go_sem,uc67,uc68,uc69,uc70,uc71,uc72]) rfl ⟨rfl,?_⟩;exact bB
theorem pnear_any (p:Rat×Rat) (e:(Rat×Rat)×(Rat×Rat)) (w:World) (hp:Pl.SzP 1 p) (hs:Pl.SzS 1 e) (hne:e.1≠e.2) :
 Calls Tryz.prog 127 #[pv p,sv e] w fun r w'=>r=.returned (.tuple #[pv (Pl.nearP p e),qv (Pl.nearT p e)])∧Below w.heap.size w w':=pnear_ab p e.1 e.2 w hp hs.1 hs.2 hne
theorem nearT_sz {p:Rat×Rat} {e:(Rat×Rat)×(Rat×Rat)} (hp:Pl.SzP 1 p) (hs:Pl.SzS 1 e):Pl.Sz 28 (Pl.nearT p e):=by
 have d:=hs.2.sub hs.1;exact Pl.sz_zero.maxQ ((((hp.sub hs.1).dot d).div (d.dot d)).minQ one_sz)
theorem nearP_sz {p:Rat×Rat} {e:(Rat×Rat)×(Rat×Rat)} (hp:Pl.SzP 1 p) (hs:Pl.SzS 1 e):Pl.SzP 33 (Pl.nearP p e):=by
 unfold Pl.nearP
 split
 ·exact hs.1.mono (by decide)
 ·exact (hs.1.add ((hs.2.sub hs.1).scale (nearT_sz hp hs))).mono (by omega)
end Go.Proofs.YtdkkjfnpinckjaaGreatDoor
