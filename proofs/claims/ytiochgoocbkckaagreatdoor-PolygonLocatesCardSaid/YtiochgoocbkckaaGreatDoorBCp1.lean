/-
 The laws on shapes: what they share.
 The law PolygonLocates: the walk.
 The statements' arguments, opened: shapes.
-/
import Derived.Test.YtiochgoocbkckaaGreatDoorBPy8
import Derived.Test.YtiochgoocbkckaaGreatDoorBPhK
import Derived.Test.YtiochgoocbkckaaGreatDoorAgav
import Derived.Test.YtiochgoocbkckaaGreatDoorBKw8
import Derived.Test.YtiochgoocbkckaaGreatDoorAgbj
import Derived.Test.YtiochgoocbkckaaGreatDoorBPz1
import Derived.Test.YtiochgoocbkckaaGreatDoorAReg3
set_option maxRecDepth 100000
set_option linter.unusedSimpArgs false
set_option linter.unusedVariables false
namespace Go.Proofs.YtiochgoocbkckaaGreatDoor
open Go Go.RowKit
abbrev LB0 (a b:World):Prop:=Below a.heap.size a b

def shCells (s:Pg.Shp):List Value:=[.int .u8 (s.R 0:Nat),.int .u8 (s.R 1:Nat),.int .u8 (s.R 2:Nat),.int .u8 (s.R 3:Nat),.int .u8 (s.R 4:Nat),.int .u8 (s.R 5:Nat),.int .u8 (s.R 6:Nat),.int .u8 (s.R 7:Nat),.int .i8 s.x,.int .i8 s.y,.int .u8 s.hole,.int .u8 s.start,.bool s.back]
theorem shape_any (s:Pg.Shp) (w:World) (h:Pg.ShOk s):Calls Tryz.prog 19 #[.agg #[.int .u8 (s.R 0:Nat),.int .u8 (s.R 1:Nat),.int .u8 (s.R 2:Nat),.int .u8 (s.R 3:Nat),.int .u8 (s.R 4:Nat),.int .u8 (s.R 5:Nat),.int .u8 (s.R 6:Nat),.int .u8 (s.R 7:Nat),.int .i8 s.x,.int .i8 s.y,.int .u8 s.hole,.int .u8 s.start,.bool s.back]] w fun e w'=>∃ v',e=.returned v'∧PoV w' v' (Pg.outerS s) (Pg.holeS s).toList∧Below w.heap.size w w' :=
 polygon_any s.R s.x s.y s.hole s.start s.back w h.hR h.x1 h.x2 h.y1 h.y2 h.hh h.hs
end Go.Proofs.YtiochgoocbkckaaGreatDoor

namespace Go.Proofs.YtiochgoocbkckaaGreatDoor
open Go Go.RowKit

set_option maxHeartbeats 2000000 in
theorem llocates_any (S:Pg.Shp) (s:Int×Int×Bool) (w:World) (hok:Pg.ShOk S) (hI:In8 s) :
 Calls Tryz.prog 7 #[.agg #[.int .u8 (S.R 0:Nat),.int .u8 (S.R 1:Nat),.int .u8 (S.R 2:Nat),.int .u8 (S.R 3:Nat),.int .u8 (S.R 4:Nat),.int .u8 (S.R 5:Nat),.int .u8 (S.R 6:Nat),.int .u8 (S.R 7:Nat),.int .i8 S.x,.int .i8 S.y,.int .u8 S.hole,.int .u8 S.start,.bool S.back],.agg #[.int .i8 s.1,.int .i8 s.2.1,.bool s.2.2]] w fun e w'=>e=.returned (.bool true)∧Below w.heap.size w w':=by
 obtain ⟨O,hO0⟩:∃ z,z=Pg.outerS S:=⟨_,rfl⟩
 obtain ⟨Hs,hH0⟩:∃ z,z=(Pg.holeS S).toList:=⟨_,rfl⟩
 have HO:=Lib.hid hO0.symm;have HHs:=Lib.hid hH0.symm;have hO:∀ q∈O,Pl.SzP 2 q:=hO0▸Pg.outerS_sz hok
 have hH:∀ r∈Hs,∀ q∈r,Pl.SzP 2 q:=hH0▸Pg.holeS_sz hok
 have hn8:O.length≤8:=hO0▸(Pg.outS_len S).2;have hO2:2≤O.length:=hO0▸Nat.le_trans (by decide) (Pg.outS_len S).1;have hnH4:∀ r∈Hs,r.length≤4:=hH0▸Pg.holeS_len S
 have hH2:∀ r∈Hs,2≤r.length:=hH0▸Pg.holeS_min S
 have hm1:Hs.length≤1:=hH0▸Pg.holeS_one S;obtain ⟨q,hq0⟩:∃ z,z=ptOf s:=⟨_,rfl⟩
 have HQq:=Lib.hid hq0.symm;have HZq:Hid (Pl.SzP 2 q):=Lib.hid (hq0▸(ptOf_sz hI).mono (by decide));obtain ⟨z0,hz0⟩:∃ z,locP O Hs q=z:=⟨_,rfl⟩
 have HY0:Hid (locRP O Hs q=z0):=Lib.hid (by rw [← hz0,hO0,hH0,locRP_pg,locP_pg,Pg.locS]);have HZ0:=Lib.hid hz0;obtain ⟨z1,hz1⟩:∃ z,Pg.locW q (Pg.ringE O) 0=z:=⟨_,rfl⟩
 have HY1:Hid (Pg.locO q (Pg.ringE O) (-1)=z1):=Lib.hid (by rw [← hz1,hO0];exact (Pg.loc_outer S q).symm);have HZ1:=Lib.hid hz1;have HGH:Hid (∀ r∈Hs,∀ p,Pg.locW p (Pg.ringE r) 0=Pg.locO p (Pg.ringE r) (-1)):=Lib.hid (hH0▸Pg.loc_holes S);clear hq0 hz0 hz1 hO0 hH0;go_enter Tryz.func7,Tryz.ntmps7;go_upto_region 1 with fail
 refine wp_named ?_;intro W1 hW1;have hL1:LB0 w W1:=by rw [hW1];exact bB
 have c1:Own W1 w.heap.size 0 [.int .u8 (S.R 0:Nat),.int .u8 (S.R 1:Nat),.int .u8 (S.R 2:Nat),.int .u8 (S.R 3:Nat),.int .u8 (S.R 4:Nat),.int .u8 (S.R 5:Nat),.int .u8 (S.R 6:Nat),.int .u8 (S.R 7:Nat),.int .i8 S.x,.int .i8 S.y,.int .u8 S.hole,.int .u8 S.start,.bool S.back]:=by
  rw [hW1]
  first
  | (repeat (first|(with_reducible refine own_new ?_;(simp;done))|with_reducible refine Own.alloc ?_ _|refine Own.far _ _ (by first|(simp;done)|(simp [*];done)|(simp;omega)) ?_));done
  | simp [Own,go_sem]
 have c2:Own W1 (w.heap.size+1) 0 [.int .i8 s.1,.int .i8 s.2.1,.bool s.2.2]:=by
  rw [hW1]
  first
  | (repeat (first|(with_reducible refine own_new ?_;(simp;done))|with_reducible refine Own.alloc ?_ _|refine Own.far _ _ (by first|(simp;done)|(simp [*];done)|(simp;omega)) ?_));done
  | simp [Own,go_sem]
 have hB3:LB0 w W1:=by rw [hW1];exact bB
 clear hW1 hL1;have K5:=Lib.hid (fun W=>HO.out▸HHs.out▸shape_any S W hok);have K6:=Lib.hid (fun W=>HQq.out▸point_any s W hI);refine wp_region_poPt 6 1 4 5 9 5 6 11 O Hs hO2 hH2 rfl (by kernel_rfl) (by decide) (by decide) ⟨by decide,by decide⟩ rfl rfl ⟨_,rfl,rfl,rfl,rfl⟩ ⟨_,rfl,rfl,rfl,rfl⟩ ⟨by simp,by simp,by simp⟩ ?_;intro V_4 hV_4;have vc1:=c1.up hV_4;have dc1:=fun p:Bel V_4=>vc1.bel p
 have vc2:=c2.up hV_4;have dc2:=fun p:Bel V_4=>vc2.bel p
 simp only [At,Own,Nat.reduceAdd,and_true] at dc1 dc2;simp only [maskDL,maskD,maskS,List.contains_cons,List.contains_nil,Nat.reduceAdd,Nat.reduceBEq,Bool.or_false,Bool.false_eq_true,reduceIte,List.take_succ_cons,List.take_zero];repeat (go_big_quiet_step (first|(go_at_call 28;with_reducible exact Calls.bel (K6.out _))))
 refine wpQuiet_nil ?_;refine ⟨fun oi_ hoi_ => ?_,q,rfl,?_⟩
 ·obtain rfl:=Option.some.inj hoi_
  intro V1_ hV1_;go_wp2_with (go_at_call 19;with_reducible refine (K5.out _).mono ?_;rintro e w2_ ⟨vv_,rfl,hvv_,hbq_⟩)
  all_goals exact ⟨vv_,rfl,rfl,hbq_,hvv_⟩
 intro bp bt v1_ wn_4 hbn_4 lbp mbp lbt mbt nbp hpo ho_ ct0_;have ct_:Own wn_4 bt 0 [.bool (ng q.1.num),.string (mg q.1.num.natAbs),.bool false,.string (mg (dn q.1)),.bool (ng q.2.num),.string (mg q.2.num.natAbs),.bool false,.string (mg (dn q.2))]:=ct0_;clear ct0_;have nbp':=nbp.symm;clear dc2 vc2 dc1 vc1 hV_4 V_4;obtain ⟨vo,vh,rfl,hvo,Lh,hvh,hrg⟩:=hpo;obtain ⟨Ah,ch,rfl,hch,hmh,hxh⟩:=hvh.open_;have c_:=ho_ _ _ rfl;have HPO:Hid (PoV wn_4 (.agg #[vo,.slice Ah Lh.length ch]) O Hs):=Lib.hid ⟨_,_,rfl,hvo,Lh,hvh,hrg⟩;have HVO:=Lib.hid hvo;have HXH:=Lib.hid hxh;have HRG:=Lib.hid hrg;have hlh:Lh.length=Hs.length:=hrg.1;generalize hNh:Lh.length=Nh at *;have HNh:=Lib.hid hNh;have HLH:=Lib.hid hlh;have hbn:Nh≤20:=by omega
 clear hlh hvo hxh hrg hvh hNh ho_;simp only [Act.put,List.setIfInBounds_toArray,List.set_cons_zero,List.set_cons_succ];have hB7:LB0 w wn_4:=bel_up hB3 hbn_4;clear c1 c2;obtain ⟨w0,hw0⟩:∃ W_,W_=w:=⟨_,rfl⟩
 subst hw0;obtain ⟨w,hw⟩:∃ W_,W_=wn_4:=⟨_,rfl⟩
 subst hw;have hBw:=hB7;clear hB7;have K8:=Lib.hid (fun W=>known_any W);have K9:=Lib.hid (fun W (hP:PoV W (.agg #[vo,.slice Ah Nh ch]) O Hs)=>HZ0.out▸plocate_any _ O Hs q W hP hO hH (by omega) (fun r hr=>Nat.le_trans (hnH4 r hr) (by decide)) (by omega) (by decide) HZq.out);have K10:=Lib.hid (fun W (hP:PoV W (.agg #[vo,.slice Ah Nh ch]) O Hs)=>HY0.out▸rlocate_any _ O Hs q W hP hO hH (by omega) (fun r hr=>Nat.le_trans (hnH4 r hr) (by decide)) (by omega) (by decide) HZq.out);have K11:=Lib.hid (fun W (hW:PV W vo O)=>HZ1.out▸ploc_any _ O q W hW hO (by omega) (by decide) HZq.out);have K12:=Lib.hid (fun W (hW:PV W vo O)=>HY1.out▸rloc_any _ O q W hW hO (by omega) (by decide) HZq.out);go_wp2_with fail;refine wp_named ?_;intro W2 hW2;have hL2:LB0 w W2:=by rw [hW2];exact bB
 have c13:=c_.up hL2;have c14:=ct_.up hL2;have hB15:LB0 w W2:=by rw [hW2];exact bB
 clear hW2 hL2 c_ ct_;have dc13:=fun p:Bel W2=>c13.bel p;have dc14:=fun p:Bel W2=>c14.bel p
 simp only [At,Own,Nat.reduceAdd,and_true] at dc13 dc14;refine wp_region_all (by kernel_rfl) (by kernel_rfl) ?_;repeat (go_big_quiet_step (first|(go_at_call 16;with_reducible exact Calls.bel (K8.out _))|(go_at_call 29;with_reducible exact Calls.bel (K9.out _ ((HPO.out.up hB15).up (Bel.h _))))|(go_at_call 30;with_reducible exact Calls.bel (K10.out _ ((HPO.out.up hB15).up (Bel.h _))))|(go_at_call 31;with_reducible exact Calls.bel (K11.out _ ((HVO.out.up hB15).up (Bel.h _))))|(go_at_call 32;with_reducible exact Calls.bel (K12.out _ ((HVO.out.up hB15).up (Bel.h _))))))
 refine wpQuiet_nil ?_;intro w2 hb2;have c16:=c13.up hb2;have c17:=c14.up hb2;have hB18:LB0 w w2:=bel_up hB15 hb2;clear dc13 dc14 c13 c14;have uc16:=c16;have uc17:=c17;simp only [At,Own,Nat.reduceAdd,and_true] at uc16 uc17;go_wp2_with fail;go_loopw [7] (fun s7 wr=>∃ (k:Nat),s7=.int .i64 k∧Own wr (bp) 0 [vo,.slice Ah Nh ch]∧Own wr (bt) 0 [.bool (ng q.1.num),.string (mg q.1.num.natAbs),.bool false,.string (mg (dn q.1)),.bool (ng q.2.num),.string (mg q.2.num.natAbs),.bool false,.string (mg (dn q.2))]∧Below w.heap.size w wr∧k≤Nh) (fun s7 _=>Nh-(intOf s7).toNat)
 case atStart=>exact ⟨0,rfl,c16,c17,hB18,(by omega)⟩
 case round =>
  clear c16 c17 hB18 uc16 uc17;obtain ⟨k,rfl,b19,b20,hB21,hk⟩:=hrel;obtain ⟨wr22,hwr22⟩:∃ W_,W_=wr:=⟨_,rfl⟩
  subst hwr22
  by_cases hltk:k<Nh
  ·skip
   have i1k:(k:Int)<Nh:=by omega
   obtain ⟨xr23,rg23,hx23,hr23,hp23⟩:=HRG.out.get (i:=k) (by rw [HNh.out];omega);have HX23:=Lib.hid hx23;have HR23:=Lib.hid hr23;have HP23:=Lib.hid hp23;clear hx23 hr23 hp23;have HRr:=HR23.out;obtain ⟨zr,hzr⟩:∃ z,Pg.locW q (Pg.ringE rg23) 0=z:=⟨_,rfl⟩
   have HYr:Hid (Pg.locO q (Pg.ringE rg23) (-1)=zr):=Lib.hid (by rw [← HGH.out _ (List.mem_of_getElem? HRr) q];exact hzr);have HZr:=Lib.hid hzr;clear hzr;have ub19:=b19;have ub20:=b20;simp only [At,Own,Nat.reduceAdd,and_true] at ub19 ub20;have K24:=Lib.hid (fun W (hW:PV W xr23 rg23)=>HZr.out▸ploc_any _ rg23 q W hW (hH _ (List.mem_of_getElem? HRr)) (Nat.le_trans (hnH4 _ (List.mem_of_getElem? HRr)) (by decide)) (by decide) HZq.out);have K25:=Lib.hid (fun W (hW:PV W xr23 rg23)=>HYr.out▸rloc_any _ rg23 q W hW (hH _ (List.mem_of_getElem? HRr)) (Nat.le_trans (hnH4 _ (List.mem_of_getElem? HRr)) (by decide)) (by decide) HZq.out);go_wp2_with fail;refine wp_named ?_;intro W3 hW3;have hL3:LB0 wr22 W3:=by rw [hW3];exact bB
   have c26:=b19.up hL3;have c27:=b20.up hL3;have hB28:LB0 w W3:=by rw [hW3];exact bB
   clear hW3 hL3 ub19 ub20 b19 b20;have dc26:=fun p:Bel W3=>c26.bel p;have dc27:=fun p:Bel W3=>c27.bel p
   simp only [At,Own,Nat.reduceAdd,and_true] at dc26 dc27;obtain ⟨g30,o31,ha32,-⟩:=(HXH.out).up kpV hB28 _ _ HX23.out;subst ha32;have ce29:=LX.at_ ((HXH.out).up kpV hB28) HX23.out;have ce29_:g30<W3.heap.size:=World.block_lt_of_cell? _ _ ce29.1;have dce29:=fun b:Bel W3=>ce29.bel b
   simp only [CVL,vlc,At,Nat.mul_one,Nat.reduceMul] at dce29;refine wp_region_all (by kernel_rfl) (by kernel_rfl) ?_;repeat (go_big_quiet_step (first|(go_at_call 31;with_reducible exact Calls.bel (K24.out _ ((HP23.out.up hB28).up (Bel.h _))))|(go_at_call 32;with_reducible exact Calls.bel (K25.out _ ((HP23.out.up hB28).up (Bel.h _))))))
   refine wpQuiet_nil ?_;intro w3 hb3;have c33:=c26.up hb3;have c34:=c27.up hb3;have hB35:LB0 w w3:=bel_up hB28 hb3;clear dc26 dc27 dce29 c26 c27;have uc33:=c33;have uc34:=c34;simp only [At,Own,Nat.reduceAdd,and_true] at uc33 uc34;go_wp2;go_roundw
   case rel=>exact ⟨(k+1),(by first|rfl|exact congrArg (Value.int .i64) (by omega)|simp [*]),(by repeat (first|with_reducible exact c33|refine Own.far _ _ (by simp<;>omega) ?_|with_reducible refine Own.alloc ?_ _)),(by repeat (first|with_reducible exact c34|refine Own.far _ _ (by simp<;>omega) ?_|with_reducible refine Own.alloc ?_ _)),(by exact bB),(by omega)⟩
   case measure=>simp [intOf]<;>omega
  ·skip
   have hkN:Nh=k:=by omega
   subst hkN;have ub19:=b19;have ub20:=b20;simp only [At,Own,Nat.reduceAdd,and_true] at ub19 ub20;go_wp2;go_ret;exact ⟨rfl,bel_up hBw (by exact bB)⟩
end Go.Proofs.YtiochgoocbkckaaGreatDoor

namespace Go.Proofs.YtiochgoocbkckaaGreatDoor
open Go Go.ChangeShapes Go.WideShapes Go.ChangeAt Go.WideMaps Go.WideElems Go.RowKit
set_option maxRecDepth 100000

def pick8 (k0 k1 k2 k3 k4 k5 k6 k7:Nat):Nat→Nat
 | 0=>k0
 | 1=>k1
 | 2=>k2
 | 3=>k3
 | 4=>k4
 | 5=>k5
 | 6=>k6
 | 7=>k7
 | _+8=>0
theorem pick8_lt {k0 k1 k2 k3 k4 k5 k6 k7:Nat} (h0:k0<256) (h1:k1<256) (h2:k2<256) (h3:k3<256) (h4:k4<256) (h5:k5<256) (h6:k6<256) (h7:k7<256):∀ i,pick8 k0 k1 k2 k3 k4 k5 k6 k7 i<256
 | 0=>h0
 | 1=>h1
 | 2=>h2
 | 3=>h3
 | 4=>h4
 | 5=>h5
 | 6=>h6
 | 7=>h7
 | _+8=>show 0<256 by decide
theorem u8_ex {k:Int} (h:(Lit.int .u8 k).wf=true):∃ n:Nat,k=n∧n<256:=by
 simp [Lit.wf,IntKind.min,IntKind.max,IntKind.signed,IntKind.bits] at h;exact ⟨k.toNat,by omega,by omega⟩
theorem trod_u8 {H:Type} {enc:TypeId×Value→H} {W:World} {base n:Nat} {sp:Nat→Bool} {hd:Bool} {c:Value} {x:DataW H×List MemPlace} (h:DataW.trod enc Tryz.prog W base sp hd n 5 [c]=some x):∃ u:Nat,c=.int .u8 u∧u<256:=by
 obtain ⟨k,e,_,w⟩:=DataW.trod_int Tryz.underlying5 h;obtain ⟨u,rfl,hu⟩:=u8_ex w;cases e;exact ⟨u,rfl,hu⟩
theorem trod_shape {H:Type} {enc:TypeId×Value→H} {W:World} {base n:Nat} {sp:Nat→Bool} {hd:Bool} {cs:List Value} {x:DataW H×List MemPlace}
 (h:DataW.trod enc Tryz.prog W base sp hd n 33 cs=some x):∃ s,Pg.ShOk s∧cs=shCells s:=by
 obtain ⟨xs,n',_,_,hl,hlen,hf⟩:=DataW.trod_struct Tryz.underlying33 h;have cS:Tryz.prog.cellsOf 33 = 13:=by kernel_rfl
 have cA:Tryz.prog.cellsOf 30 = 8:=by kernel_rfl
 have c23:Tryz.prog.cellsOf 31 = 1:=by kernel_rfl
 have cu:Tryz.prog.cellsOf 5 = 1:=by kernel_rfl
 have c4:Tryz.prog.cellsOf 4 = 1:=by kernel_rfl
 rw [cS] at hl
 match cs,hl,xs,hlen with
 | [r0,r1,r2,r3,r4,r5,r6,r7,a,b,c,d,e],_,[y0,y1,y2,y3,y4,y5],_ =>
  have h0:=hf 0 _ rfl;have h1:=hf 1 _ rfl;have h2:=hf 2 _ rfl;have h3:=hf 3 _ rfl;have h4:=hf 4 _ rfl;have h5:=hf 5 _ rfl;clear hf;simp only [cA,c23,cu,c4,List.drop_zero,List.drop_succ_cons,List.take_succ_cons,List.take_zero,List.getElem?_cons_zero,List.getElem?_cons_succ] at h0 h1 h2 h3 h4 h5;obtain ⟨zs,m,_,_,_,hz,hg⟩:=DataW.trod_array Tryz.underlying30 h0
  match zs,hz with
  | [z0,z1,z2,z3,z4,z5,z6,z7],_ =>
   have g0:=hg 0 (by decide);have g1:=hg 1 (by decide);have g2:=hg 2 (by decide);have g3:=hg 3 (by decide);have g4:=hg 4 (by decide);have g5:=hg 5 (by decide);have g6:=hg 6 (by decide);have g7:=hg 7 (by decide);clear hg;simp only [cu,Nat.reduceMul,List.drop_zero,List.drop_succ_cons,List.take_succ_cons,List.take_zero,List.getElem?_cons_zero,List.getElem?_cons_succ] at g0 g1 g2 g3 g4 g5 g6 g7;obtain ⟨u0,rfl,hu0⟩:=trod_u8 g0;obtain ⟨u1,rfl,hu1⟩:=trod_u8 g1;obtain ⟨u2,rfl,hu2⟩:=trod_u8 g2;obtain ⟨u3,rfl,hu3⟩:=trod_u8 g3;obtain ⟨u4,rfl,hu4⟩:=trod_u8 g4;obtain ⟨u5,rfl,hu5⟩:=trod_u8 g5;obtain ⟨u6,rfl,hu6⟩:=trod_u8 g6;obtain ⟨u7,rfl,hu7⟩:=trod_u8 g7;obtain ⟨k,e1,_,w1⟩:=DataW.trod_int Tryz.underlying31 h1;obtain ⟨j,e2,_,w2⟩:=DataW.trod_int Tryz.underlying31 h2;obtain ⟨o,rfl,ho⟩:=trod_u8 h3;obtain ⟨q,rfl,hq⟩:=trod_u8 h4;obtain ⟨t,e5,_⟩:=DataW.trod_bool Tryz.underlying4 h5;have b1:=bounds_i8 w1;have b2:=bounds_i8 w2;cases e1;cases e2;cases e5;exact ⟨⟨pick8 u0 u1 u2 u3 u4 u5 u6 u7,k,j,o,q,t⟩,⟨pick8_lt hu0 hu1 hu2 hu3 hu4 hu5 hu6 hu7,b1.1,b1.2,b2.1,b2.2,ho,hq⟩,rfl⟩
theorem open_shape {H:Type} {enc:TypeId×Value→H} {W:World} {base:Nat} {sp:Nat→Bool} {hd:Bool} {v:Value} {d:DataW H} {ps:List MemPlace} {b0:Nat}
 (hv:Value.okWide Tryz.prog W .any b0 33 v) (h:DataW.Trod enc Tryz.prog W base sp hd 33 v d ps):∃ s,Pg.ShOk s∧v=.agg (shCells s).toArray:=by
 obtain ⟨cs,rfl,_⟩:=okWide_struct Tryz.underlying33 hv;obtain ⟨fuel,hf⟩:=h;obtain ⟨s,hs,hc⟩:=trod_shape hf;refine ⟨s,hs,?_⟩
 have:cs=(shCells s).toArray:=by
  have h2:cs.toList=shCells s:=by simpa [Value.cells] using hc
  rw [← h2]
 rw [this]
theorem open_spot1 {H:Type} {enc:TypeId×Value→H} {W:World} {base:Nat} {sp:Nat→Bool} {hd:Bool} {v:Value} {d:DataW H} {ps:List MemPlace} {b0:Nat}
 (hv:Value.okWide Tryz.prog W .any b0 53 v) (h:DataW.Trod enc Tryz.prog W base sp hd 53 v d ps):∃ s:Int×Int×Bool,In8 s∧v=.agg #[.int .i8 s.1,.int .i8 s.2.1,.bool s.2.2]:=by
 obtain ⟨cs,rfl,_⟩:=okWide_struct Tryz.underlying53 hv;obtain ⟨fuel,hf⟩:=h;obtain ⟨s,hs,hc⟩:=trod_spot hf;refine ⟨s,hs,?_⟩
 have:cs=(tcells s).toArray:=by
  have h2:cs.toList=tcells s:=by simpa [Value.cells] using hc
  rw [← h2]
 rw [this];rfl
end Go.Proofs.YtiochgoocbkckaaGreatDoor
