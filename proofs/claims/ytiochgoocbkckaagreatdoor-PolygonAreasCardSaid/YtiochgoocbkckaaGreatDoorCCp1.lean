/-
 The laws on shapes: what they share.
 The law PolygonAreas: the walk.
 The statements' arguments, opened: shapes.
-/
import Derived.Test.YtiochgoocbkckaaGreatDoorCPy8
import Derived.Test.YtiochgoocbkckaaGreatDoorCPhK
import Derived.Test.YtiochgoocbkckaaGreatDoorAgav
import Derived.Test.YtiochgoocbkckaaGreatDoorAgbp
import Derived.Test.YtiochgoocbkckaaGreatDoorAgbj
import Derived.Test.YtiochgoocbkckaaGreatDoorCPz2
import Derived.Test.YtiochgoocbkckaaGreatDoorAgbo
import Derived.Test.YtiochgoocbkckaaGreatDoorAReg7
set_option maxRecDepth 100000
set_option linter.unusedSimpArgs false
set_option linter.unusedVariables false
namespace Go.Proofs.YtiochgoocbkckaaGreatDoor
open Go Go.RowKit
abbrev LC0 (a b:World):Prop:=Below a.heap.size a b

def shCells (s:Pg.Shp):List Value:=[.int .u8 (s.R 0:Nat),.int .u8 (s.R 1:Nat),.int .u8 (s.R 2:Nat),.int .u8 (s.R 3:Nat),.int .u8 (s.R 4:Nat),.int .u8 (s.R 5:Nat),.int .u8 (s.R 6:Nat),.int .u8 (s.R 7:Nat),.int .i8 s.x,.int .i8 s.y,.int .u8 s.hole,.int .u8 s.start,.bool s.back]
theorem shape_any (s:Pg.Shp) (w:World) (h:Pg.ShOk s):Calls Tryz.prog 19 #[.agg #[.int .u8 (s.R 0:Nat),.int .u8 (s.R 1:Nat),.int .u8 (s.R 2:Nat),.int .u8 (s.R 3:Nat),.int .u8 (s.R 4:Nat),.int .u8 (s.R 5:Nat),.int .u8 (s.R 6:Nat),.int .u8 (s.R 7:Nat),.int .i8 s.x,.int .i8 s.y,.int .u8 s.hole,.int .u8 s.start,.bool s.back]] w fun e w'=>∃ v',e=.returned v'∧PoV w' v' (Pg.outerS s) (Pg.holeS s).toList∧Below w.heap.size w w' :=
 polygon_any s.R s.x s.y s.hole s.start s.back w h.hR h.x1 h.x2 h.y1 h.y2 h.hh h.hs
end Go.Proofs.YtiochgoocbkckaaGreatDoor

namespace Go.Proofs.YtiochgoocbkckaaGreatDoor
open Go Go.RowKit

theorem formP_mem {l:List (Rat×Rat)} {sg:Int} {q:Rat×Rat} (h:q∈Pg.formP l sg):q∈l:=by
 unfold Pg.formP at h;rw [Pg.canP_def] at h;unfold Pg.rotL Pg.orient at h;have h2:=(Pg.thin_sub 300 l 0).subset;rcases List.mem_append.1 h with h|h
 ·have h:=List.mem_of_mem_drop h
  split at h
  ·exact h2 (List.mem_reverse.1 h)
  ·exact h2 h
 ·have h:=List.mem_of_mem_take h
  split at h
  ·exact h2 (List.mem_reverse.1 h)
  ·exact h2 h
theorem area_forms (s:Pg.Shp):areaP (Pg.formP (Pg.outerS s) 1) ((Pg.holeS s).toList.map fun r=>Pg.formP r (-1))=areaP (Pg.outerS s) (Pg.holeS s).toList:=by
 unfold areaP;rw [Pg.form_area 1 (Pg.outer_nz s)];unfold Pg.holeS
 split
 ·simp only [Option.toList,List.map_cons,List.map_nil,List.foldl_cons,List.foldl_nil]
  rw [Pg.form_area (-1) (Pg.hole_nz s)]
 ·rfl
theorem holes_nz (s:Pg.Shp):∀ r∈(Pg.holeS s).toList,Pg.ringA r≠0:=fun r hr=>Pg.holeS_mem hr▸Pg.hole_nz s
theorem forms_sz {Hs:List (List (Rat×Rat))} (h:∀ r∈Hs,∀ q∈r,Pl.SzP 2 q):∀ r∈Hs.map (fun r=>Pg.formP r (-1)),∀ q∈r,Pl.SzP 2 q:=fun r hr q hq=>by
 obtain ⟨r0,h0,rfl⟩:=List.mem_map.1 hr;exact h r0 h0 q (formP_mem hq)
theorem forms_len {Hs:List (List (Rat×Rat))} (h:∀ r∈Hs,r.length≤4):∀ r∈Hs.map (fun r=>Pg.formP r (-1)),r.length≤100:=fun r hr=>by
 obtain ⟨r0,h0,rfl⟩:=List.mem_map.1 hr;exact Nat.le_trans (formP_len r0 (-1)) (Nat.le_trans (h r0 h0) (by decide))
theorem sgn_pos {a:Rat} (h:0<a):Pl.sgn a=1:=by
 rcases Pl.sgn_cases a with h1|h1|h1<;>grind

set_option maxHeartbeats 2000000 in
theorem lareas_any (S:Pg.Shp) (v:Value) (l:List (Int×Int×Bool)) (w:World) (hok:Pg.ShOk S) (h:TV w v l) (hs:∀ s∈l,In8 s) (hn:l.length≤9223372036854775807) :
 Calls Tryz.prog 6 #[.agg #[.int .u8 (S.R 0:Nat),.int .u8 (S.R 1:Nat),.int .u8 (S.R 2:Nat),.int .u8 (S.R 3:Nat),.int .u8 (S.R 4:Nat),.int .u8 (S.R 5:Nat),.int .u8 (S.R 6:Nat),.int .u8 (S.R 7:Nat),.int .i8 S.x,.int .i8 S.y,.int .u8 S.hole,.int .u8 S.start,.bool S.back],v] w fun e w'=>e=.returned (.bool true)∧Below w.heap.size w w':=by
 obtain ⟨O,hO0⟩:∃ z,z=Pg.outerS S:=⟨_,rfl⟩
 obtain ⟨Hs,hH0⟩:∃ z,z=(Pg.holeS S).toList:=⟨_,rfl⟩
 have HO:=Lib.hid hO0.symm;have HHs:=Lib.hid hH0.symm;have hO:∀ q∈O,Pl.SzP 2 q:=hO0▸Pg.outerS_sz hok
 have hH:∀ r∈Hs,∀ q∈r,Pl.SzP 2 q:=hH0▸Pg.holeS_sz hok
 have hn8:O.length≤8:=hO0▸(Pg.outS_len S).2;have hO2:2≤O.length:=hO0▸Nat.le_trans (by decide) (Pg.outS_len S).1;have hnH4:∀ r∈Hs,r.length≤4:=hH0▸Pg.holeS_len S
 have hH2:∀ r∈Hs,2≤r.length:=hH0▸Pg.holeS_min S
 have hm1:Hs.length≤1:=hH0▸Pg.holeS_one S;obtain ⟨m,hm0⟩:∃ z,z=ptsOf l:=⟨_,rfl⟩
 have HM:=Lib.hid hm0.symm;have hms:∀ q∈m,Pl.SzP 2 q:=hm0▸fun q hq=>(ptsOf_sz hs q hq).mono (by decide)
 have hmn:m.length≤13:=hm0▸ptsOf_len l;obtain ⟨CO,hC0⟩:∃ z,z=Pg.formP O 1:=⟨_,rfl⟩
 obtain ⟨CH,hC1⟩:∃ z,z=Hs.map fun r=>Pg.formP r (-1):=⟨_,rfl⟩
 have HCO:=Lib.hid hC0.symm;have HCH:=Lib.hid hC1.symm;have hCO:∀ q∈CO,Pl.SzP 2 q:=hC0▸fun q hq=>hO q (formP_mem hq)
 have hCH:∀ r∈CH,∀ q∈r,Pl.SzP 2 q:=hC1▸forms_sz hH
 have hCn:CO.length≤100:=hC0▸Nat.le_trans (formP_len O 1) (by omega);have hCl:∀ r∈CH,r.length≤100:=hC1▸forms_len hnH4
 have hCm:CH.length≤20:=hC1▸by rw [List.length_map];omega
 have hA:Pg.ringA O≠0:=hO0▸Pg.outer_nz S;have hAH:∀ r∈Hs,Pg.ringA r≠0:=hH0▸holes_nz S
 obtain ⟨a,ha⟩:∃ z,areaP O Hs=z:=⟨_,rfl⟩
 have HCa:Hid (areaP CO CH=a):=Lib.hid (by rw [← ha,hC0,hC1,hO0,hH0];exact area_forms S);have HSa:Hid (Pl.sgn a=1):=Lib.hid (sgn_pos (by rw [← ha,hO0,hH0,areaP_pg];exact Pg.areaS_pos S));have HZa:=Lib.hid ha;obtain ⟨ra,hra⟩:∃ z,Pg.ringA m=z:=⟨_,rfl⟩
 have HZm:=Lib.hid hra;have EQa:=fun W=>eqQ_in a a W
 rw [decide_eq_true rfl] at EQa;have EQm:=fun W=>eqQ_in ra ra W
 rw [decide_eq_true rfl] at EQm;clear hm0 hC0 hC1 ha hra hO0 hH0;go_enter Tryz.func6,Tryz.ntmps6;have K1:=Lib.hid (fun W=>HO.out▸HHs.out▸shape_any S W hok);go_wp2_with (fail)
 refine calls_named ?_;intro W1 hW1;have hL1:LC0 w W1:=by rw [hW1];exact bB
 have c2:Own W1 w.heap.size 0 [.int .u8 (S.R 0:Nat),.int .u8 (S.R 1:Nat),.int .u8 (S.R 2:Nat),.int .u8 (S.R 3:Nat),.int .u8 (S.R 4:Nat),.int .u8 (S.R 5:Nat),.int .u8 (S.R 6:Nat),.int .u8 (S.R 7:Nat),.int .i8 S.x,.int .i8 S.y,.int .u8 S.hole,.int .u8 S.start,.bool S.back]:=by
  rw [hW1]
  first
  | (repeat (first|(with_reducible refine own_new ?_;(simp;done))|with_reducible refine Own.alloc ?_ _|refine Own.far _ _ (by first|(simp;done)|(simp [*];done)|(simp;omega)) ?_));done
  | simp [Own,go_sem]
 have hB3:LC0 w W1:=by rw [hW1];exact bB
 clear hW1 hL1;with_reducible refine (K1.out _).mono ?_
 rintro e w1 ⟨v1,rfl,hpo,hb1⟩;have c4:=c2.up hb1;have hB5:LC0 w w1:=bel_up hB3 hb1;clear c2;obtain ⟨vo,vh,rfl,hvo,Lh,hvh,hrg⟩:=hpo;obtain ⟨Ao,co,rfl,hco,hmo,hxo⟩:=hvo.open_;obtain ⟨Ah,ch,rfl,hch,hmh,hxh⟩:=hvh.open_;have HPO:Hid (PoV w1 (.agg #[.slice Ao O.length co,.slice Ah Lh.length ch]) O Hs):=Lib.hid ⟨_,_,rfl,hvo,Lh,hvh,hrg⟩;have HVO:=Lib.hid hvo;have HXH:=Lib.hid hxh;have HRG:=Lib.hid hrg;have hlh:Lh.length=Hs.length:=hrg.1;generalize hNh:Lh.length=Nh at *;have HNh:=Lib.hid hNh;have HLH:=Lib.hid hlh;have hbn:Nh≤20:=by omega
 clear hlh hvo hxh hrg hvh hNh hxo;have K6:=Lib.hid (fun W hb=>HM.out▸points_any v l W (h.up hb) hs hn);have uc4:=c4;simp only [At,Own,Nat.reduceAdd,and_true] at uc4;go_wp2_with (fail)
 refine calls_named ?_;intro W2 hW2;have hL2:LC0 w1 W2:=by rw [hW2];exact bB
 have c7:=c4.up hL2;have hA8:=hL2;have hB9:LC0 w W2:=by rw [hW2];exact bB
 clear hW2 hL2 uc4 c4;with_reducible refine (K6.out _ hB9).mono ?_
 rintro e w2 ⟨v2,rfl,hv2,hb2⟩;have c10:=c7.up hb2;have hA11:=bel_up hA8 hb2;have hB12:LC0 w w2:=bel_up hB9 hb2;clear c7 hA8;have PW2:=Lib.hid hv2;clear hv2;have an13:w1.heap.size≤w2.heap.size:=by have:=hA11.size;omega
 have an14:w2.heap.size≤w2.heap.size:=by omega
 have ne15_:w.heap.size<w2.heap.size:=by have:=c10.lt;omega
 have ne15:=Nat.ne_of_lt ne15_;have ne15':=ne15.symm;have uc10:=c10;simp only [At,Own,Nat.reduceAdd,and_true] at uc10;have K16:=Lib.hid (fun W (hP:PoV W (.agg #[(.slice Ao O.length co),.slice Ah Nh ch]) O Hs)=>HZa.out▸parea2_any _ O Hs W hP hO hH (by omega) (fun r hr=>Nat.le_trans (hnH4 r hr) (by decide)) (by omega) (by decide));go_wp2_with (fail)
 refine calls_named ?_;intro W3 hW3;have hL3:LC0 w2 W3:=by rw [hW3];exact bB
 have c17:=c10.up hL3
 have c18:Own W3 w2.heap.size 0 [(.slice Ao O.length co),.slice Ah Nh ch]:=by
  rw [hW3]
  first
  | (repeat (first|(with_reducible refine own_new ?_;(simp;done))|with_reducible refine Own.alloc ?_ _|refine Own.far _ _ (by first|(simp;done)|(simp [*];done)|(simp;omega)) ?_));done
  | simp [Own,go_sem,uc10,ne15,ne15',ne15_]
 have hA19:=bel_up hA11 hL3;have hA20:=hL3;have hB21:LC0 w W3:=by rw [hW3];exact bB
 clear hW3 hL3 uc10 c10 hA11;with_reducible refine (K16.out _ (HPO.out.up hA19)).mono ?_
 rintro e w3 ⟨rfl,hb3⟩;have c22:=c17.up hb3;have c23:=c18.up hb3;have hA24:=bel_up hA19 hb3;have hA25:=bel_up hA20 hb3;have hB26:LC0 w w3:=bel_up hB21 hb3;clear c17 c18 hA19 hA20;have an27:w1.heap.size≤w3.heap.size:=by have:=hA24.size;omega
 have an28:w2.heap.size≤w3.heap.size:=by have:=hA25.size;omega
 have ne29_:w.heap.size<w3.heap.size:=by have:=c22.lt;omega
 have ne29:=Nat.ne_of_lt ne29_;have ne29':=ne29.symm;have ne30_:w2.heap.size<w3.heap.size:=by have:=c23.lt;omega
 have ne30:=Nat.ne_of_lt ne30_;have ne30':=ne30.symm;have uc22:=c22;have uc23:=c23;simp only [At,Own,Nat.reduceAdd,and_true] at uc22 uc23;go_upto_region 3 with fail
 refine wp_named ?_;intro W4 hW4;have hL4:LC0 w3 W4:=by rw [hW4];exact bB
 have c31:=c22.up hL4;have c32:=c23.up hL4
 have c33:Own W4 w3.heap.size 0 [.bool (ng a.num),.string (mg a.num.natAbs),.bool false,.string (mg (dn a))]:=by
  rw [hW4]
  first
  | (repeat (first|(with_reducible refine own_new ?_;(simp;done))|with_reducible refine Own.alloc ?_ _|refine Own.far _ _ (by first|(simp;done)|(simp [*];done)|(simp;omega)) ?_));done
  | simp [Own,go_sem,uc22,uc23,ne29,ne29',ne29_,ne30,ne30',ne30_]
 have hA34:=bel_up hA24 hL4;have hA35:=bel_up hA25 hL4;have hB36:LC0 w W4:=by rw [hW4];exact bB
 clear hW4 hL4 uc22 uc23 c22 c23 hA24 hA25;have K38:=Lib.hid (fun W=>known_any W);have K39:=Lib.hid (fun W (hP:PoV W (.agg #[(.slice Ao O.length co),.slice Ah Nh ch]) O Hs)=>HZa.out▸rarea2_any _ O Hs W hP hO hH (by omega) (fun r hr=>Nat.le_trans (hnH4 r hr) (by decide)) (by omega) (by decide));have K40:=Lib.hid (fun W=>HSa.out▸rsign_any a W);have K41:=Lib.hid (fun W (hP:PoV W (.agg #[(.slice Ao O.length co),.slice Ah Nh ch]) O Hs)=>(HCO.out▸HCH.out▸pcanon_any _ O Hs W hP hO hH (by omega) (fun r hr=>Nat.le_trans (hnH4 r hr) (by decide)) hm1 (by decide) hA hAH));have K42:=Lib.hid (fun v_ W (hP:PoV W v_ CO CH)=>HCa.out▸parea2_any v_ CO CH W hP hCO hCH hCn hCl hCm (by decide));have K43:=Lib.hid (fun W (hW:PV W v2 m)=>HZm.out▸parea_any _ m W hW hms (by omega) (by decide));have K44:=Lib.hid (fun W (hW:PV W v2 m)=>HZm.out▸rarea_any _ m W hW hms (by omega) (by decide));refine wp_region_hold 14 15 28 (.agg #[.bool (ng a.num),.string (mg a.num.natAbs),.bool false,.string (mg (dn a))]) (fun v_ w_=>PoV w_ v_ CO CH) (by kernel_rfl) rfl rfl (by kernel_rfl) (by simp) (by intro e_ h_;cases h_;simp) (fun _ _ _ h_ hb_=>h_.up hb_) ?_;intro V_37 hV_37;have vc31:=c31.up hV_37;have dc31:=fun p:Bel V_37=>vc31.bel p
 have vc32:=c32.up hV_37;have dc32:=fun p:Bel V_37=>vc32.bel p
 have vc33:=c33.up hV_37;have dc33:=fun p:Bel V_37=>vc33.bel p
 simp only [At,Own,Nat.reduceAdd,and_true] at dc31 dc32 dc33;have hBV_37:=bel_up hB36 hV_37;have hA45:=bel_up hA34 hV_37;have hA46:=bel_up hA35 hV_37;simp only [maskL,mask2,Nat.reduceAdd,Nat.reduceEqDiff,reduceCtorEq,reduceIte];repeat (go_big_quiet_step (first|(go_at_call 16;with_reducible exact Calls.bel (K38.out _))|(go_at_call 23;with_reducible exact Calls.bel (K39.out _ ((HPO.out.up hA45).up (Bel.h _))))|(go_at_call 24;with_reducible exact Calls.bel (K40.out _))|(go_at_call 26;with_reducible exact Calls.bel (K43.out _ ((PW2.out.up hA46).up (Bel.h _))))|(go_at_call 27;with_reducible exact Calls.bel (K44.out _ ((PW2.out.up hA46).up (Bel.h _))))))
 refine wpQuiet_nil ?_;refine ⟨⟨fun V1_ hV1_ => ?_,fun V1_ v1_ hV1_ hv1_ => ?_⟩,?_⟩
 ·go_wp2_with (go_at_call 25;with_reducible refine (K41.out _ ((HPO.out.up hA34).up hV1_)).mono ?_;rintro e w2_ ⟨v2_,rfl,hv2_,hbq_⟩)
  all_goals exact ⟨v2_,rfl,rfl,hbq_,hv2_⟩
 ·simp only [Act.put,List.setIfInBounds_toArray,List.set_cons_zero,List.set_cons_succ]
  go_wp2_with (go_at_call 22;with_reducible refine (K42.out _ _ hv1_).mono ?_;rintro e w2_ ⟨rfl,hbq_⟩)
  all_goals first|exact ⟨_,rfl,rfl,rfl,hbq_⟩|exact ⟨rfl,rfl,hbq_⟩|exact hbq_
 intro vh_37 wn_37 hbn_37 hf_37;clear hf_37 hA46 hA45 hBV_37 dc33 vc33 dc32 vc32 dc31 vc31 hV_37 V_37;simp only [Act.put,List.setIfInBounds_toArray,List.set_cons_zero,List.set_cons_succ];have c47:=c31.up hbn_37;have c48:=c32.up hbn_37;have c49:=c33.up hbn_37;have hA50:=bel_up hA34 hbn_37;have hA51:=bel_up hA35 hbn_37;have hB52:LC0 w wn_37:=bel_up hB36 hbn_37;clear c31 c32 c33 hA34 hA35;have uc47:=c47;have uc48:=c48;have uc49:=c49;simp only [At,Own,Nat.reduceAdd,and_true] at uc47 uc48 uc49;go_wp2;go_ret;exact ⟨rfl,(by exact bB)⟩
end Go.Proofs.YtiochgoocbkckaaGreatDoor

namespace Go.Proofs.YtiochgoocbkckaaGreatDoor
open Go Go.ChangeShapes Go.WideShapes Go.ChangeAt Go.WideMaps Go.WideElems Go.RowKit
set_option maxRecDepth 100000

def pick8 (k0 k1 k2 k3 k4 k5 k6 k7:Nat):Nat→Nat
 | 0=>k0
 | 1=>k1
 | 2=>k2
 | 3=>k3
 | 4=>k4
 | 5=>k5
 | 6=>k6
 | 7=>k7
 | _+8=>0
theorem pick8_lt {k0 k1 k2 k3 k4 k5 k6 k7:Nat} (h0:k0<256) (h1:k1<256) (h2:k2<256) (h3:k3<256) (h4:k4<256) (h5:k5<256) (h6:k6<256) (h7:k7<256):∀ i,pick8 k0 k1 k2 k3 k4 k5 k6 k7 i<256
 | 0=>h0
 | 1=>h1
 | 2=>h2
 | 3=>h3
 | 4=>h4
 | 5=>h5
 | 6=>h6
 | 7=>h7
 | _+8=>show 0<256 by decide
theorem u8_ex {k:Int} (h:(Lit.int .u8 k).wf=true):∃ n:Nat,k=n∧n<256:=by
 simp [Lit.wf,IntKind.min,IntKind.max,IntKind.signed,IntKind.bits] at h;exact ⟨k.toNat,by omega,by omega⟩
theorem trod_shape {H:Type} {enc:TypeId×Value→H} {W:World} {base n:Nat} {sp:Nat→Bool} {hd:Bool} {cs:List Value} {x:DataW H×List MemPlace}
 (h:DataW.trod enc Tryz.prog W base sp hd n 33 cs=some x):∃ s,Pg.ShOk s∧cs=shCells s:=by
 obtain ⟨xs,n',_,_,hl,hlen,hf⟩:=DataW.trod_struct Tryz.underlying33 h;have cS:Tryz.prog.cellsOf 33 = 13:=by kernel_rfl
 have cA:Tryz.prog.cellsOf 30 = 8:=by kernel_rfl
 have c23:Tryz.prog.cellsOf 31 = 1:=by kernel_rfl
 have cu:Tryz.prog.cellsOf 5 = 1:=by kernel_rfl
 have c4:Tryz.prog.cellsOf 4 = 1:=by kernel_rfl
 rw [cS] at hl
 match cs,hl,xs,hlen with
 | [r0,r1,r2,r3,r4,r5,r6,r7,a,b,c,d,e],_,[y0,y1,y2,y3,y4,y5],_ =>
  have h0:=hf 0 _ rfl;have h1:=hf 1 _ rfl;have h2:=hf 2 _ rfl;have h3:=hf 3 _ rfl;have h4:=hf 4 _ rfl;have h5:=hf 5 _ rfl;clear hf;simp only [cA,c23,cu,c4,List.drop_zero,List.drop_succ_cons,List.take_succ_cons,List.take_zero,List.getElem?_cons_zero,List.getElem?_cons_succ] at h0 h1 h2 h3 h4 h5;obtain ⟨zs,m,_,_,_,hz,hg⟩:=DataW.trod_array Tryz.underlying30 h0
  match zs,hz with
  | [z0,z1,z2,z3,z4,z5,z6,z7],_ =>
   have g0:=hg 0 (by decide);have g1:=hg 1 (by decide);have g2:=hg 2 (by decide);have g3:=hg 3 (by decide);have g4:=hg 4 (by decide);have g5:=hg 5 (by decide);have g6:=hg 6 (by decide);have g7:=hg 7 (by decide);clear hg;simp only [cu,Nat.reduceMul,List.drop_zero,List.drop_succ_cons,List.take_succ_cons,List.take_zero,List.getElem?_cons_zero,List.getElem?_cons_succ] at g0 g1 g2 g3 g4 g5 g6 g7;obtain ⟨u0,eu0,_,wu0⟩:=DataW.trod_int Tryz.underlying5 g0;obtain ⟨u0,rfl,hu0⟩:=u8_ex wu0;cases eu0;obtain ⟨u1,eu1,_,wu1⟩:=DataW.trod_int Tryz.underlying5 g1;obtain ⟨u1,rfl,hu1⟩:=u8_ex wu1;cases eu1;obtain ⟨u2,eu2,_,wu2⟩:=DataW.trod_int Tryz.underlying5 g2;obtain ⟨u2,rfl,hu2⟩:=u8_ex wu2;cases eu2;obtain ⟨u3,eu3,_,wu3⟩:=DataW.trod_int Tryz.underlying5 g3;obtain ⟨u3,rfl,hu3⟩:=u8_ex wu3;cases eu3;obtain ⟨u4,eu4,_,wu4⟩:=DataW.trod_int Tryz.underlying5 g4;obtain ⟨u4,rfl,hu4⟩:=u8_ex wu4;cases eu4;obtain ⟨u5,eu5,_,wu5⟩:=DataW.trod_int Tryz.underlying5 g5;obtain ⟨u5,rfl,hu5⟩:=u8_ex wu5;cases eu5;obtain ⟨u6,eu6,_,wu6⟩:=DataW.trod_int Tryz.underlying5 g6;obtain ⟨u6,rfl,hu6⟩:=u8_ex wu6;cases eu6;obtain ⟨u7,eu7,_,wu7⟩:=DataW.trod_int Tryz.underlying5 g7;obtain ⟨u7,rfl,hu7⟩:=u8_ex wu7;cases eu7;obtain ⟨k,e1,_,w1⟩:=DataW.trod_int Tryz.underlying31 h1;obtain ⟨j,e2,_,w2⟩:=DataW.trod_int Tryz.underlying31 h2;obtain ⟨o,e3,_,w3⟩:=DataW.trod_int Tryz.underlying5 h3;obtain ⟨q,e4,_,w4⟩:=DataW.trod_int Tryz.underlying5 h4;obtain ⟨t,e5,_⟩:=DataW.trod_bool Tryz.underlying4 h5;obtain ⟨o,rfl,ho⟩:=u8_ex w3;obtain ⟨q,rfl,hq⟩:=u8_ex w4;have b1:=bounds_i8 w1;have b2:=bounds_i8 w2;cases e1;cases e2;cases e3;cases e4;cases e5;exact ⟨⟨pick8 u0 u1 u2 u3 u4 u5 u6 u7,k,j,o,q,t⟩,⟨pick8_lt hu0 hu1 hu2 hu3 hu4 hu5 hu6 hu7,b1.1,b1.2,b2.1,b2.2,ho,hq⟩,rfl⟩
theorem open_shape {H:Type} {enc:TypeId×Value→H} {W:World} {base:Nat} {sp:Nat→Bool} {hd:Bool} {v:Value} {d:DataW H} {ps:List MemPlace} {b0:Nat}
 (hv:Value.okWide Tryz.prog W .any b0 33 v) (h:DataW.Trod enc Tryz.prog W base sp hd 33 v d ps):∃ s,Pg.ShOk s∧v=.agg (shCells s).toArray:=by
 obtain ⟨cs,rfl,_⟩:=okWide_struct Tryz.underlying33 hv;obtain ⟨fuel,hf⟩:=h;obtain ⟨s,hs,hc⟩:=trod_shape hf;refine ⟨s,hs,?_⟩
 have:cs=(shCells s).toArray:=by
  have h2:cs.toList=shCells s:=by simpa [Value.cells] using hc
  rw [← h2]
 rw [this]
end Go.Proofs.YtiochgoocbkckaaGreatDoor
