/-
 The reference for polygons: turns, order, points on segments.
 The reference for polygons: the next vertex, segments that meet.
 The reference for polygons: places in rings and in polygons.
 The reference for polygons: areas.
-/
import Derived.Test.YtiochgoocbkckaaGreatDoorAgao
import Derived.Test.YtiochgoocbkckaaGreatDoorAgax
import Derived.Test.YtiochgoocbkckaaGreatDoorAgav
import Derived.Test.YtiochgoocbkckaaGreatDoorAgbj
import Derived.Test.YtiochgoocbkckaaGreatDoorAReg3
set_option maxRecDepth 100000
set_option linter.unusedSimpArgs false
set_option linter.unusedVariables false
namespace Go.Proofs.YtiochgoocbkckaaGreatDoor
open Go Go.RowKit
abbrev LC4 (a b:World):Prop:=Below a.heap.size a b

end Go.Proofs.YtiochgoocbkckaaGreatDoor

namespace Go.Proofs.YtiochgoocbkckaaGreatDoor
open Go Go.RowKit

set_option maxHeartbeats 4000000 in
theorem rnext_any {S:Nat} (v:Value) (l:List (Rat×Rat)) (k:Nat) (w:World) (h:PV w v l) (hs:∀ q∈l,Pl.SzP S q) (hn:l.length≤1000000) (hS:S≤100000) (hk:k<l.length) :
 Calls Tryz.prog 74 #[v,.int .i64 k] w fun e w'=>e=.returned (pv (Pg.vx l (k+1)))∧Below w.heap.size w w':=by
 obtain ⟨A,c,rfl,hc,hm,hx⟩:=h.open_;have HV:=Lib.hid h;have HX:=Lib.hid hx;have HS:=Lib.hid hs;have i1:(k:Int)<(l.length:Int):=by omega
 have j0:¬ (l.length:Int)=0:=by omega
 have j1:((l.length:Int)==0)=false:=by simpa using j0
 have HF:Hid (l.take l.length=l):=Lib.hid List.take_length;generalize hN:l.length=N at *;have HN:=Lib.hid hN;clear h hx hs hN;go_enter Tryz.func74,Tryz.ntmps74;obtain ⟨m,hm1⟩:∃ m,m=(k+1)%N:=⟨_,rfl⟩
 have hm2:m<N:=hm1▸Nat.mod_lt _ (by omega);have i2:(m:Int)<N:=by omega
 obtain ⟨r1,r2,r3,r4,r5,r6⟩:=remS k N m hm1 (by omega) (by omega);have HM:=Lib.hid hm1;clear hm1;obtain ⟨x1,hx2⟩:∃ x,l[m]?=some x:=⟨_,List.getElem?_eq_getElem (by rw [HN.out];omega)⟩
 have Hhx2:=Lib.hid hx2;have Zhx2:=Lib.hid (HS.out _ (List.mem_of_getElem? hx2));clear hx2;have HT:=Lib.hid (Pg.vx_some (by rw [HN.out,← HM.out];exact Hhx2.out):Pg.vx l (k+1)=x1);clear r2 r4 r5 r6 hm2 j0;obtain ⟨g4,o5,ha6,-⟩:=HX.out _ _ Hhx2.out;subst ha6;have ce3:=LX.at_ (HX.out) Hhx2.out;have ce3_:g4<w.heap.size:=World.block_lt_of_cell? _ _ ce3.1;have uce3:=ce3;simp only [CE,Nat.reduceMul] at uce3;go_wp2;refine bodyPost_ret (v:=.agg #[.bool (ng x1.1.num),.string (mg x1.1.num.natAbs),.bool false,.string (mg (dn x1.1)),.bool (ng x1.2.num),.string (mg x1.2.num.natAbs),.bool false,.string (mg (dn x1.2))]) (by simp [results,Tryz.results74,go_sem,uce3]) rfl ⟨(by rw [HT.out]),?_⟩;exact bB

end Go.Proofs.YtiochgoocbkckaaGreatDoor

namespace Go.Proofs.YtiochgoocbkckaaGreatDoor
open Go Go.RowKit

end Go.Proofs.YtiochgoocbkckaaGreatDoor

namespace Go.Proofs.YtiochgoocbkckaaGreatDoor
open Go Go.RowKit

theorem areaR_to {x y:Rat×Rat} {es:List ((Rat×Rat)×(Rat×Rat))} {s:Rat} : Pg.areaS ((x,y) :: es) s=Pg.areaS es (s+(x.1*y.2-y.1*x.2)):=by
 rw [Pg.areaS];unfold Pl.crossP;rw [Rat.mul_comm y.1 x.2]

set_option maxHeartbeats 2000000 in
theorem rarea_any {S:Nat} (v:Value) (l:List (Rat×Rat)) (w:World) (h:PV w v l) (hs:∀ q∈l,Pl.SzP S q) (hn:l.length≤1000) (hS:S≤1000) :
 Calls Tryz.prog 27 #[v] w fun e w'=>e=.returned (qv (Pg.ringA l))∧Below w.heap.size w w':=by
 obtain ⟨A,c,rfl,hc,hm,hx⟩:=h.open_;have HV:=Lib.hid h;have HX:=Lib.hid hx;have HS:=Lib.hid hs;have HF:Hid (l.take l.length=l):=Lib.hid List.take_length;generalize hN:l.length=N at *;have HN:=Lib.hid hN;clear h hx hs hN;go_enter Tryz.func27,Tryz.ntmps27;go_wp2_with fail;refine wp_named ?_;intro W1 hW1;have hL1:LC4 w W1:=by rw [hW1];exact bB
 have c1:Own W1 w.heap.size 0 [.bool false,.string ⟨#[]⟩,.bool false,.string ⟨#[]⟩]:=by
  rw [hW1]
  first
  | (repeat (first|(with_reducible refine own_new (l:=[.bool false,.string ⟨#[]⟩,.bool false,.string ⟨#[]⟩]) ?_;(simp;done))|with_reducible refine Own.alloc ?_ _|refine Own.far _ _ (by first|(simp;done)|(simp [*];done)|(simp;omega)) ?_));done
  | simp [Own,go_sem]
 have c2:Own W1 (w.heap.size+1) 0 [.bool false,.string ⟨#[]⟩,.bool false,.string ⟨#[]⟩]:=by
  rw [hW1]
  first
  | (repeat (first|(with_reducible refine own_new (l:=[.bool false,.string ⟨#[]⟩,.bool false,.string ⟨#[]⟩]) ?_;(simp;done))|with_reducible refine Own.alloc ?_ _|refine Own.far _ _ (by first|(simp;done)|(simp [*];done)|(simp;omega)) ?_));done
  | simp [Own,go_sem]
 have hB3:LC4 w W1:=by rw [hW1];exact bB
 clear hW1 hL1;go_loopw [4] (fun s4 wr=>∃ (k:Nat) (out:Rat),s4=.int .i64 k∧Own wr w.heap.size 0 [.bool false,.string ⟨#[]⟩,.bool false,.string ⟨#[]⟩]∧Own wr (w.heap.size+1) 0 [.bool (ng out.num),.string (mg out.num.natAbs),.bool false,.string (mg (dn out))]∧Below w.heap.size w wr∧k≤N∧Hid (Pl.Sz (1+4010*k) out)∧Hid (Pg.ringA l=Pg.areaS ((Pg.ringE l).drop k) out)) (fun s4 _=>N-(intOf s4).toNat)
 case atStart=>exact ⟨0,0,rfl,c1,c2,hB3,(by omega),Lib.hid (Pl.sz_zero.mono (by omega)),Lib.hid rfl⟩
 case round =>
  clear c1 c2 hB3;obtain ⟨k,out,rfl,b4,b5,hB6,hk,HOUT,HE⟩:=hrel;obtain ⟨wr7,hwr7⟩:∃ W_,W_=wr:=⟨_,rfl⟩
  subst hwr7
  by_cases hltk:k<N
  ·skip
   have i1k:(k:Int)<N:=by omega
   obtain ⟨x8,hx9⟩:∃ x,l[k]?=some x:=⟨_,List.getElem?_eq_getElem (by rw [HN.out];omega)⟩
   have Hhx9:=Lib.hid hx9;have Zhx9:=Lib.hid (HS.out _ (List.mem_of_getElem? hx9));clear hx9;obtain ⟨y,hy⟩:∃ y,Pg.vx l (k+1)=y:=⟨_,rfl⟩
   have HY:=Lib.hid hy;have HZY:Hid (Pl.SzP S y):=Lib.hid (hy▸vx_sz HS.out (by rw [HN.out];omega) _);have HDR:Hid ((Pg.ringE l).drop k=(x8,y) :: (Pg.ringE l).drop (k+1)):=Lib.hid (by rw [← hy,← (Pg.vx_some (by rw [HN.out,Nat.mod_eq_of_lt (by omega)];exact Hhx9.out):Pg.vx l k=x8)];exact Pl.drop_of (Pg.ringE_get l (by rw [HN.out];omega)));clear hy;go_upto_region 5 with fail
   refine wp_named ?_;intro W2 hW2;have hL2:LC4 wr7 W2:=by rw [hW2];exact bB
   have c10:=b4.up hL2;have c11:=b5.up hL2;have hB12:LC4 w W2:=by rw [hW2];exact bB
   clear hW2 hL2 b4 b5;have K14:=Lib.hid (fun W (hW:PV W (.slice A N c) l)=>HY.out▸rnext_any _ l k W hW HS.out (by rw [HN.out];omega) (by omega) (by rw [HN.out];omega));obtain ⟨g18,o19,ha20,-⟩:=(HX.out).up kpP hB12 _ _ Hhx9.out;subst ha20;have ce17:=LX.at_ ((HX.out).up kpP hB12) Hhx9.out;have ce17_:g18<W2.heap.size:=World.block_lt_of_cell? _ _ ce17.1;refine wp_region_new2 9 7 5 8 6 [.bool false,.string ⟨#[]⟩,.bool false,.string ⟨#[]⟩,.bool false,.string ⟨#[]⟩,.bool false,.string ⟨#[]⟩] [.bool false,.string ⟨#[]⟩,.bool false,.string ⟨#[]⟩,.bool false,.string ⟨#[]⟩,.bool false,.string ⟨#[]⟩] 45 45 (by kernel_rfl) (by kernel_rfl) rfl rfl rfl rfl rfl rfl rfl ⟨(by intro h_;cases h_),(by intro h_;cases h_),(by intro h_;cases h_),(by intro h_;cases h_)⟩ (by simp) (by simp) (run_alloc_zero Tryz.zeroValue45 rfl) (by kernel_rfl) (run_alloc_zero Tryz.zeroValue45 rfl) (by kernel_rfl) ?_;intro V_13 hV_13;have vc10:=c10.up hV_13;have dc10:=fun p:Bel V_13=>vc10.bel p
   have vc11:=c11.up hV_13;have dc11:=fun p:Bel V_13=>vc11.bel p
   simp only [At,Own,Nat.reduceAdd,and_true] at dc10 dc11;have vce17:=ce17.up hV_13;have dce17:=fun b:Bel V_13=>vce17.bel b
   simp only [CE,Nat.reduceMul] at dce17;have hBV_13:=bel_up hB12 hV_13;simp only [List.map_cons,List.map_nil,maskOp,List.take_succ_cons,List.take_zero];repeat (go_big_quiet_step (first|(go_at_call 74;with_reducible exact Calls.bel (K14.out _ ((HV.out.up hBV_13).up (Bel.h _))))))
   refine wpQuiet_nil ?_;refine ⟨[.bool (ng x8.1.num),.string (mg x8.1.num.natAbs),.bool false,.string (mg (dn x8.1)),.bool (ng x8.2.num),.string (mg x8.2.num.natAbs),.bool false,.string (mg (dn x8.2))],[.bool (ng y.1.num),.string (mg y.1.num.natAbs),.bool false,.string (mg (dn y.1)),.bool (ng y.2.num),.string (mg y.2.num.natAbs),.bool false,.string (mg (dn y.2))],rfl,rfl,by simp [Value.oneCell'],rfl,rfl,by simp [Value.oneCell'],?_⟩;intro bq15 bq16 wn_13 hbn_13 lbq15 mbq15 lbq16 mbq16 nbq15 c21 c22;have nbq15':=nbq15.symm;simp only [Act.put,List.setIfInBounds_toArray,List.set_cons_zero,List.set_cons_succ];have ne23:w.heap.size≠bq15:=by have:=c10.lt;omega
   have ne23':=ne23.symm;have ne24:w.heap.size+1≠bq15:=by have:=c11.lt;omega
   have ne24':=ne24.symm;have ne25:g18≠bq15:=by omega
   have ne25':=ne25.symm;have wbq15:=Nat.le_trans hB12.size lbq15;have ne26:w.heap.size≠bq16:=by have:=c10.lt;omega
   have ne26':=ne26.symm;have ne27:w.heap.size+1≠bq16:=by have:=c11.lt;omega
   have ne27':=ne27.symm;have ne28:g18≠bq16:=by omega
   have ne28':=ne28.symm;have wbq16:=Nat.le_trans hB12.size lbq16;clear hBV_13 dce17 vce17 dc11 vc11 dc10 vc10 hV_13 V_13;have c29:=c10.up hbn_13;have c30:=c11.up hbn_13;have hB31:LC4 w wn_13:=bel_up hB12 hbn_13;clear c10 c11;have K32:=Lib.hid (fun W=>rmul_any x8.1 y.2 W (Zhx9.out.1.mono (by omega)) (HZY.out.2.mono (by omega)));have K33:=Lib.hid (fun W=>rmul_any y.1 x8.2 W (HZY.out.1.mono (by omega)) (Zhx9.out.2.mono (by omega)));have K34:=Lib.hid (fun W=>rsub_any (x8.1*y.2) (y.1*x8.2) W ((Zhx9.out.1.mul HZY.out.2).mono (by omega)) ((HZY.out.1.mul Zhx9.out.2).mono (by omega)));have K35:=Lib.hid (fun W=>radd_any out ((x8.1*y.2)-(y.1*x8.2)) W (HOUT.out.mono (by omega)) (((Zhx9.out.1.mul HZY.out.2).sub (HZY.out.1.mul Zhx9.out.2)).mono (by omega)));go_wp2_with fail;refine wp_named ?_;intro W3 hW3;have hL3:LC4 wn_13 W3:=by rw [hW3];exact bB
   have c36:=c29.up hL3;have c37:=c30.up hL3;have c38:=c21.up hL3;have c39:=c22.up hL3;have hB40:LC4 w W3:=by rw [hW3];exact bB
   clear hW3 hL3 c29 c30 c21 c22;have dc36:=fun p:Bel W3=>c36.bel p;have dc37:=fun p:Bel W3=>c37.bel p;have dc38:=fun p:Bel W3=>c38.bel p;have dc39:=fun p:Bel W3=>c39.bel p
   simp only [At,Own,Nat.reduceAdd,and_true] at dc36 dc37 dc38 dc39;refine wp_region_tail 13 (by kernel_rfl) (by kernel_rfl) ?_;simp only [List.take_succ_cons,List.take_zero,List.drop_succ_cons,List.drop_zero];repeat (go_big_quiet_step (first|(go_at_call 41;with_reducible exact Calls.bel (K32.out _))|(go_at_call 41;with_reducible exact Calls.bel (K33.out _))|(go_at_call 66;with_reducible exact Calls.bel (K34.out _))|(go_at_call 38;with_reducible exact Calls.bel (K35.out _))))
   refine wpQuiet_nil ?_;intro w3 hb3;have c41:=c36.up hb3;have c42:=c37.up hb3;have c43:=c38.up hb3;have c44:=c39.up hb3;have hB45:LC4 w w3:=bel_up hB40 hb3;clear dc36 dc37 dc38 dc39 c36 c37 c38 c39;have uc41:=c41;have uc42:=c42;have uc43:=c43;have uc44:=c44;simp only [At,Own,Nat.reduceAdd,and_true] at uc41 uc42 uc43 uc44;go_wp2;go_roundw
   case rel=>exact ⟨(k+1),(out+((x8.1*y.2)-(y.1*x8.2))),(by first|rfl|exact congrArg (Value.int .i64) (by omega)|simp [*]),(by repeat (first|with_reducible exact c41|refine Own.far _ _ (by simp<;>omega) ?_|with_reducible refine Own.alloc ?_ _)),(by simp [Own,go_sem,uc41,uc42,uc43,uc44,nbq15,nbq15',ne23,ne23',ne24,ne24',ne25,ne25',ne26,ne26',ne27,ne27',ne28,ne28']),(by exact bB),(by omega),Lib.hid ((HOUT.out.add ((Zhx9.out.1.mul HZY.out.2).sub (HZY.out.1.mul Zhx9.out.2))).mono (by omega)),Lib.hid (by rw [HE.out,HDR.out,areaR_to])⟩
   case measure=>simp [intOf]<;>omega
  ·skip
   have hkN:N=k:=by omega
   subst hkN;have ub4:=b4;have ub5:=b5;simp only [At,Own,Nat.reduceAdd,and_true] at ub4 ub5;go_wp2;refine bodyPost_ret (v:=.agg #[.bool (ng out.num),.string (mg out.num.natAbs),.bool false,.string (mg (dn out))]) (by simp [results,Tryz.results27,go_sem,ub4,ub5]) rfl ⟨(by rw [area_fin HN.out HE.out]),?_⟩;exact bB

theorem rpos_any {S:Nat} (a:Rat) (w:World) (ha:Pl.Sz S a) :
 Calls Tryz.prog 65 #[qv a] w fun e w'=>e=.returned (qv (Pg.absQ a))∧Below w.heap.size w w':=by
 go_enter Tryz.func65,Tryz.ntmps65;have kK1:=fun W=>rsign_any a W
 generalize hT3:Pl.sgn a=t2 at kK1;have K1:=Lib.hid kK1;clear kK1;have HhT3:=Lib.hid hT3;clear hT3;go_wp2_with (fail)
 refine calls_named ?_;intro W1 hW1;have hL1:LC4 w W1:=by rw [hW1];exact bB
 have c4:Own W1 w.heap.size 0 [.bool (ng a.num),.string (mg a.num.natAbs),.bool false,.string (mg (dn a))]:=by
  rw [hW1]
  first
  | (repeat (first|(with_reducible refine own_new ?_;(simp;done))|with_reducible refine Own.alloc ?_ _|refine Own.far _ _ (by first|(simp;done)|(simp [*];done)|(simp;omega)) ?_));done
  | simp [Own,go_sem]
 have c5:Own W1 (w.heap.size+1) 0 [.bool false,.string ⟨#[]⟩,.bool false,.string ⟨#[]⟩]:=by
  rw [hW1]
  first
  | (repeat (first|(with_reducible refine own_new (l:=[.bool false,.string ⟨#[]⟩,.bool false,.string ⟨#[]⟩]) ?_;(simp;done))|with_reducible refine Own.alloc ?_ _|refine Own.far _ _ (by first|(simp;done)|(simp [*];done)|(simp;omega)) ?_));done
  | simp [Own,go_sem]
 have hB6:LC4 w W1:=by rw [hW1];exact bB
 clear hW1 hL1;with_reducible refine (K1.out _).mono ?_
 rintro e w1 ⟨rfl,hb1⟩;have c7:=c4.up hb1;have c8:=c5.up hb1;have hB9:LC4 w w1:=bel_up hB6 hb1;clear c4 c5
 by_cases hc10:(t2:Int)<0
 ·skip
  have hc10_:¬ ((0:Int)≤t2):=by omega
  have uc7:=c7;have uc8:=c8;simp only [At,Own,Nat.reduceAdd,and_true] at uc7 uc8;have K11:=Lib.hid (fun W=>rneg_any a W);go_wp2_with (fail)
  refine calls_named ?_;intro W2 hW2;have hL2:LC4 w1 W2:=by rw [hW2];exact bB
  have c12:=c7.up hL2;have c13:=c8.up hL2;have hB14:LC4 w W2:=by rw [hW2];exact bB
  clear hW2 hL2 uc7 uc8 c7 c8;with_reducible refine (K11.out _).mono ?_
  rintro e w2 ⟨rfl,hb2⟩;have c15:=c12.up hb2;have c16:=c13.up hb2;have hB17:LC4 w w2:=bel_up hB14 hb2;clear c12 c13;have uc15:=c15;have uc16:=c16;simp only [At,Own,Nat.reduceAdd,and_true] at uc15 uc16;go_wp2;refine bodyPost_ret (v:=.agg #[.bool (ng ((-a).num)),.string (mg ((-a).num).natAbs),.bool false,.string (mg (dn (-a)))]) (by simp [results,Tryz.results65,go_sem,uc15,uc16]) rfl ⟨(by unfold Pg.absQ;rw [HhT3.out,if_pos (by have:=hc10;omega)]),?_⟩;exact bB
 ·skip
  have hc10_:((0:Int)≤t2):=by omega
  have uc7:=c7;have uc8:=c8;simp only [At,Own,Nat.reduceAdd,and_true] at uc7 uc8;go_wp2;refine bodyPost_ret (v:=.agg #[.bool (ng a.num),.string (mg a.num.natAbs),.bool false,.string (mg (dn a))]) (by simp [results,Tryz.results65,go_sem,uc7,uc8]) rfl ⟨(by unfold Pg.absQ;rw [HhT3.out,if_neg (by have:=hc10;omega)]),?_⟩;exact bB

set_option maxHeartbeats 2000000 in
theorem rarea2_any {S:Nat} (v:Value) (O:List (Rat×Rat)) (Hs:List (List (Rat×Rat))) (w:World) (h:PoV w v O Hs) (hO:∀ q∈O,Pl.SzP S q) (hH:∀ r∈Hs,∀ q∈r,Pl.SzP S q) (hn:O.length≤100) (hnH:∀ r∈Hs,r.length≤100) (hm:Hs.length≤20) (hS:S≤1000) :
 Calls Tryz.prog 23 #[v] w fun e w'=>e=.returned (qv (areaP O Hs))∧Below w.heap.size w w':=by
 obtain ⟨vo,vh,rfl,hvo,Lh,hvh,hrg⟩:=h;obtain ⟨Ah,ch,rfl,hch,hmh,hxh⟩:=hvh.open_;have HVO:=Lib.hid hvo;have HXH:=Lib.hid hxh;have HRG:=Lib.hid hrg;have HVH:=Lib.hid hvh;have hlh:Lh.length=Hs.length:=hrg.1;generalize hNh:Lh.length=Nh at *;have HNh:=Lib.hid hNh;have HLH:=Lib.hid hlh;have hbn:Nh≤20:=by omega
 clear hlh hvo hxh hrg hvh hNh;go_enter Tryz.func23,Tryz.ntmps23;have K1:=Lib.hid (fun W (hW:PV W vo O)=>rarea_any _ O W hW hO (Nat.le_trans hn (by decide)) hS);go_wp2_with (fail)
 refine calls_named ?_;intro W1 hW1;have hL1:LC4 w W1:=by rw [hW1];exact bB
 have c2:Own W1 w.heap.size 0 [vo,.slice Ah Nh ch]:=by
  rw [hW1]
  first
  | (repeat (first|(with_reducible refine own_new ?_;(simp;done))|with_reducible refine Own.alloc ?_ _|refine Own.far _ _ (by first|(simp;done)|(simp [*];done)|(simp;omega)) ?_));done
  | simp [Own,go_sem]
 have c3:Own W1 (w.heap.size+1) 0 [.bool false,.string ⟨#[]⟩,.bool false,.string ⟨#[]⟩]:=by
  rw [hW1]
  first
  | (repeat (first|(with_reducible refine own_new (l:=[.bool false,.string ⟨#[]⟩,.bool false,.string ⟨#[]⟩]) ?_;(simp;done))|with_reducible refine Own.alloc ?_ _|refine Own.far _ _ (by first|(simp;done)|(simp [*];done)|(simp;omega)) ?_));done
  | simp [Own,go_sem]
 have hB4:LC4 w W1:=by rw [hW1];exact bB
 clear hW1 hL1;with_reducible refine (K1.out _ (HVO.out.up hB4)).mono ?_
 rintro e w1 ⟨rfl,hb1⟩;have c5:=c2.up hb1;have c6:=c3.up hb1;have hB7:LC4 w w1:=bel_up hB4 hb1;clear c2 c3;have K8:=Lib.hid (fun W=>rpos_any (Pg.ringA O) W (ringA_sz hO hS hn));have uc5:=c5;have uc6:=c6;simp only [At,Own,Nat.reduceAdd,and_true] at uc5 uc6;go_wp2_with (fail)
 refine calls_named ?_;intro W2 hW2;have hL2:LC4 w1 W2:=by rw [hW2];exact bB
 have c9:=c5.up hL2;have c10:=c6.up hL2;have hB11:LC4 w W2:=by rw [hW2];exact bB
 clear hW2 hL2 uc5 uc6 c5 c6;with_reducible refine (K8.out _).mono ?_
 rintro e w2 ⟨rfl,hb2⟩;have c12:=c9.up hb2;have c13:=c10.up hb2;have hB14:LC4 w w2:=bel_up hB11 hb2;clear c9 c10;have ne15_:w.heap.size<w2.heap.size:=by have:=c12.lt;omega
 have ne15:=Nat.ne_of_lt ne15_;have ne15':=ne15.symm;have ne16_:w.heap.size+1<w2.heap.size:=by have:=c13.lt;omega
 have ne16:=Nat.ne_of_lt ne16_;have ne16':=ne16.symm;have uc12:=c12;have uc13:=c13;simp only [At,Own,Nat.reduceAdd,and_true] at uc12 uc13;go_wp2_with fail;refine wp_named ?_;intro W3 hW3;have hL3:LC4 w2 W3:=by rw [hW3];exact bB
 have c17:=c12.up hL3;have c18:=c13.up hL3
 have c19:Own W3 w2.heap.size 0 [.bool (ng ((Pg.absQ (Pg.ringA O)).num)),.string (mg ((Pg.absQ (Pg.ringA O)).num).natAbs),.bool false,.string (mg (dn (Pg.absQ (Pg.ringA O))))]:=by
  rw [hW3]
  first
  | (repeat (first|(with_reducible refine own_new ?_;(simp;done))|with_reducible refine Own.alloc ?_ _|refine Own.far _ _ (by first|(simp;done)|(simp [*];done)|(simp;omega)) ?_));done
  | simp [Own,go_sem,uc12,uc13,ne15,ne15',ne15_,ne16,ne16',ne16_]
 have hB20:LC4 w W3:=by rw [hW3];exact bB
 clear hW3 hL3 uc12 uc13 c12 c13;go_loopw [4] (fun s4 wr=>∃ (k:Nat) (out:Rat),s4=.int .i64 k∧Own wr w.heap.size 0 [vo,.slice Ah Nh ch]∧Own wr (w.heap.size+1) 0 [.bool false,.string ⟨#[]⟩,.bool false,.string ⟨#[]⟩]∧Own wr w2.heap.size 0 [.bool (ng out.num),.string (mg out.num.natAbs),.bool false,.string (mg (dn out))]∧Below w.heap.size w wr∧k≤Nh∧Hid (Pl.Sz (401001+401010*k) out)∧Hid (areaP O Hs=(Hs.drop k).foldl (fun s h=>s-Pg.absQ (Pg.ringA h)) out)) (fun s4 _=>Nh-(intOf s4).toNat)
 case atStart=>exact ⟨0,(Pg.absQ (Pg.ringA O)),rfl,c17,c18,c19,hB20,(by omega),Lib.hid ((Sz_abs (ringA_sz hO hS hn)).mono (by omega)),Lib.hid rfl⟩
 case round =>
  clear c17 c18 c19 hB20;obtain ⟨k,out,rfl,b21,b22,b23,hB24,hk,HOUT,HE⟩:=hrel;obtain ⟨wr25,hwr25⟩:∃ W_,W_=wr:=⟨_,rfl⟩
  subst hwr25
  by_cases hltk:k<Nh
  ·skip
   have i1k:(k:Int)<Nh:=by omega
   obtain ⟨xr26,rg26,hx26,hr26,hp26⟩:=HRG.out.get (i:=k) (by rw [HNh.out];omega);have HX26:=Lib.hid hx26;have HR26:=Lib.hid hr26;have HP26:=Lib.hid hp26;clear hx26 hr26 hp26;have HRr:=HR26.out;have HDR:Hid (Hs.drop k=rg26 :: Hs.drop (k+1)):=Lib.hid (Pl.drop_of HR26.out);have ub21:=b21;have ub22:=b22;have ub23:=b23;simp only [At,Own,Nat.reduceAdd,and_true] at ub21 ub22 ub23;have K27:=Lib.hid (fun W (hW:PV W xr26 rg26)=>rarea_any _ rg26 W hW (hH _ (List.mem_of_getElem? HRr)) (Nat.le_trans (hnH _ (List.mem_of_getElem? HRr)) (by decide)) hS);have K28:=Lib.hid (fun W=>rpos_any (Pg.ringA rg26) W (ringA_sz (hH _ (List.mem_of_getElem? HRr)) hS (hnH _ (List.mem_of_getElem? HRr))));have K29:=Lib.hid (fun W=>rsub_any out (Pg.absQ (Pg.ringA rg26)) W (HOUT.out.mono (by omega)) ((Sz_abs (ringA_sz (hH _ (List.mem_of_getElem? HRr)) hS (hnH _ (List.mem_of_getElem? HRr)))).mono (by omega)));go_wp2_with fail;refine wp_named ?_;intro W4 hW4;have hL4:LC4 wr25 W4:=by rw [hW4];exact bB
   have c30:=b21.up hL4;have c31:=b22.up hL4;have c32:=b23.up hL4;have hB33:LC4 w W4:=by rw [hW4];exact bB
   clear hW4 hL4 ub21 ub22 ub23 b21 b22 b23;have dc30:=fun p:Bel W4=>c30.bel p;have dc31:=fun p:Bel W4=>c31.bel p;have dc32:=fun p:Bel W4=>c32.bel p
   simp only [At,Own,Nat.reduceAdd,and_true] at dc30 dc31 dc32;obtain ⟨g35,o36,ha37,-⟩:=(HXH.out).up kpV hB33 _ _ HX26.out;subst ha37;have ce34:=LX.at_ ((HXH.out).up kpV hB33) HX26.out;have ce34_:g35<W4.heap.size:=World.block_lt_of_cell? _ _ ce34.1;have dce34:=fun b:Bel W4=>ce34.bel b
   simp only [CVL,vlc,At,Nat.mul_one,Nat.reduceMul] at dce34;refine wp_region_tail 9 (by kernel_rfl) (by kernel_rfl) ?_;simp only [List.take_succ_cons,List.take_zero,List.drop_succ_cons,List.drop_zero];repeat (go_big_quiet_step (first|(go_at_call 27;with_reducible exact Calls.bel (K27.out _ ((HP26.out.up hB33).up (Bel.h _))))|(go_at_call 65;with_reducible exact Calls.bel (K28.out _))|(go_at_call 66;with_reducible exact Calls.bel (K29.out _))))
   refine wpQuiet_nil ?_;intro w4 hb4;have c38:=c30.up hb4;have c39:=c31.up hb4;have c40:=c32.up hb4;have hB41:LC4 w w4:=bel_up hB33 hb4;clear dc30 dc31 dc32 dce34 c30 c31 c32;have uc38:=c38;have uc39:=c39;have uc40:=c40;simp only [At,Own,Nat.reduceAdd,and_true] at uc38 uc39 uc40;go_wp2;go_roundw
   case rel=>exact ⟨(k+1),(out-(Pg.absQ (Pg.ringA rg26))),(by first|rfl|exact congrArg (Value.int .i64) (by omega)|simp [*]),(by repeat (first|with_reducible exact c38|refine Own.far _ _ (by simp<;>omega) ?_|with_reducible refine Own.alloc ?_ _)),(by repeat (first|with_reducible exact c39|refine Own.far _ _ (by simp<;>omega) ?_|with_reducible refine Own.alloc ?_ _)),(by simp [Own,go_sem,uc38,uc39,uc40]),(by exact bB),(by omega),Lib.hid ((HOUT.out.sub (Sz_abs (ringA_sz (hH _ (List.mem_of_getElem? HRr)) hS (hnH _ (List.mem_of_getElem? HRr))))).mono (by omega)),Lib.hid (by rw [HE.out,HDR.out];rfl)⟩
   case measure=>simp [intOf]<;>omega
  ·skip
   have hkN:Nh=k:=by omega
   subst hkN;have ub21:=b21;have ub22:=b22;have ub23:=b23;simp only [At,Own,Nat.reduceAdd,and_true] at ub21 ub22 ub23;go_wp2;refine bodyPost_ret (v:=.agg #[.bool (ng out.num),.string (mg out.num.natAbs),.bool false,.string (mg (dn out))]) (by simp [results,Tryz.results23,go_sem,ub21,ub22,ub23]) rfl ⟨(by rw [HE.out,List.drop_eq_nil_of_le (by rw [← HLH.out];exact Nat.le_refl _)]<;>rfl),?_⟩;exact bB
end Go.Proofs.YtiochgoocbkckaaGreatDoor
