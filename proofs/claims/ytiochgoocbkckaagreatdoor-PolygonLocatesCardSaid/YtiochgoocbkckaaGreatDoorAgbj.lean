/-
 Contracts for polygons: areas and places.
 Contracts for polygons: searches in rings and edges.
-/
import Derived.Test.YtiochgoocbkckaaGreatDoorAgbh
import Derived.Test.YtiochgoocbkckaaGreatDoorAPe2
import Derived.Test.YtiochgoocbkckaaGreatDoorAgax
import Derived.Test.YtiochgoocbkckaaGreatDoorAPm3
set_option maxRecDepth 100000
set_option linter.unusedSimpArgs false
set_option linter.unusedVariables false
namespace Go.Proofs.YtiochgoocbkckaaGreatDoor
open Go Go.RowKit

def areaP (O:List (Rat×Rat)) (Hs:List (List (Rat×Rat))):Rat:=Hs.foldl (fun s h=>s-Pg.absQ (Pg.ringA h)) (Pg.absQ (Pg.ringA O))
def locH (p:Rat×Rat):List (List (Rat×Rat))→Int
 | []=>1
 | h :: t=>if Pg.locW p (Pg.ringE h) 0=-1 then locH p t else-Pg.locW p (Pg.ringE h) 0
def locP (O:List (Rat×Rat)) (Hs:List (List (Rat×Rat))) (p:Rat×Rat):Int:=if Pg.locW p (Pg.ringE O) 0=1 then locH p Hs else Pg.locW p (Pg.ringE O) 0
theorem areaP_pg (O:List (Rat×Rat)) (h:Option (List (Rat×Rat))):areaP O h.toList=Pg.areaG O h:=by cases h<;>rfl
theorem locH_no {p:Rat×Rat} {h:List (Rat×Rat)} {t:List (List (Rat×Rat))} {z:Int} (e:Pg.locW p (Pg.ringE h) 0=z) (hz:z=-1):locH p (h :: t)=locH p t:=by rw [locH,e,if_pos hz]
theorem locH_yes {p:Rat×Rat} {h:List (Rat×Rat)} {t:List (List (Rat×Rat))} {z:Int} (e:Pg.locW p (Pg.ringE h) 0=z) (hz:¬ z=-1):locH p (h :: t)=-z:=by rw [locH,e,if_neg hz]
theorem areaP_start (O:List (Rat×Rat)) (Hs:List (List (Rat×Rat))):areaP O Hs=(Hs.drop 0).foldl (fun s h=>s-Pg.absQ (Pg.ringA h)) (Pg.absQ (Pg.ringA O)):=rfl
theorem locW_three (p:Rat×Rat) (es:List ((Rat×Rat)×(Rat×Rat))) (t:Int) {z:Int} (h:Pg.locW p es t=z):z=-1∨z=0∨z=1:=h▸Pg.locW3 p es t
theorem ringA_sz {S:Nat} {l:List (Rat×Rat)} (hs:∀ q∈l,Pl.SzP S q) (hS:S≤1000) (hn:l.length≤100):Pl.Sz 401001 (Pg.ringA l):=by
 have key:∀ (es:List ((Rat×Rat)×(Rat×Rat))) (s:Rat) (k:Nat),(∀ e∈es,Pl.SzS 1000 e)→Pl.Sz k s→Pl.Sz (k+4010*es.length) (Pg.areaS es s):=by
  intro es
  induction es with
  | nil=>intro s k _ h;exact h
  | cons e es ih =>
   intro s k he h;have h1:=he e (by simp);rw [Pg.areaS];refine (ih _ (k+4010) (fun e' h'=>he e' (by simp [h'])) ((h.add (h1.1.cross h1.2)).mono (by omega))).mono ?_;simp only [List.length_cons];omega
 refine (key _ 0 1 (fun e he=>(Pg.ringE_sz hs e he).mono hS) Pl.sz_zero).mono ?_;rw [Pg.ringE_len];omega

set_option maxHeartbeats 2000000 in
theorem parea2_any {S:Nat} (v:Value) (O:List (Rat×Rat)) (Hs:List (List (Rat×Rat))) (w:World) (h:PoV w v O Hs) (hO:∀ q∈O,Pl.SzP S q) (hH:∀ r∈Hs,∀ q∈r,Pl.SzP S q) (hn:O.length≤100) (hnH:∀ r∈Hs,r.length≤100) (hm:Hs.length≤20) (hS:S≤1000) :
 Calls Tryz.prog 22 #[v] w fun e w'=>e=.returned (qv (areaP O Hs))∧Below w.heap.size w w':=by
 obtain ⟨vo,vh,rfl,hvo,Lh,hvh,hrg⟩:=h;obtain ⟨Ah,ch,rfl,hch,hmh,hxh⟩:=hvh.open_;have HVO:=Lib.hid hvo;have HXH:=Lib.hid hxh;have HRG:=Lib.hid hrg;have HVH:=Lib.hid hvh;have hlh:Lh.length=Hs.length:=hrg.1;generalize hNh:Lh.length=Nh at *;have HNh:=Lib.hid hNh;have HLH:=Lib.hid hlh;have hbn:Nh≤20:=by omega
 clear hlh hvo hxh hrg hvh hNh;go_enter Tryz.func22,Tryz.ntmps22;have K1:=Lib.hid (fun W (hW:PV W vo O)=>parea_any _ O W hW hO (Nat.le_trans hn (by decide)) hS);go_wp2_with (fail)
 refine calls_named ?_;intro W1 hW1;have hL1:Below w.heap.size w W1:=by rw [hW1];exact bB
 have c2:Own W1 w.heap.size 0 [vo,.slice Ah Nh ch]:=by
  rw [hW1]
  first
  | (repeat (first|(with_reducible refine own_new (l:=[vo,.slice Ah Nh ch]) ?_;(simp;done))|with_reducible refine Own.alloc ?_ _|refine Own.far _ _ (by first|(simp;done)|(simp [*];done)|(simp;omega)) ?_));done
  | simp [Own,go_sem]
 have c3:Own W1 (w.heap.size+1) 0 [.bool false,.string ⟨#[]⟩,.bool false,.string ⟨#[]⟩]:=by
  rw [hW1]
  first
  | (repeat (first|(with_reducible refine own_new (l:=[.bool false,.string ⟨#[]⟩,.bool false,.string ⟨#[]⟩]) ?_;(simp;done))|with_reducible refine Own.alloc ?_ _|refine Own.far _ _ (by first|(simp;done)|(simp [*];done)|(simp;omega)) ?_));done
  | simp [Own,go_sem]
 have hB4:Below w.heap.size w W1:=by rw [hW1];exact bB
 clear hW1 hL1;with_reducible refine (K1.out _ (HVO.out.up hB4)).mono ?_
 rintro e w1 ⟨rfl,hb1⟩;have c5:=c2.up hb1;have c6:=c3.up hb1;have hB7:Below w.heap.size w w1:=bel_up hB4 hb1;clear c2 c3;have K8:=Lib.hid (fun W=>qabs_any (Pg.ringA O) W);have uc5:=c5;have uc6:=c6;simp only [At,Own,Nat.reduceAdd,and_true] at uc5 uc6;go_wp2_with (fail)
 refine calls_named ?_;intro W2 hW2;have hL2:Below w1.heap.size w1 W2:=by rw [hW2];exact bB
 have c9:=c5.up hL2;have c10:=c6.up hL2;have hB11:Below w.heap.size w W2:=by rw [hW2];exact bB
 clear hW2 hL2 uc5 uc6 c5 c6;with_reducible refine (K8.out _).mono ?_
 rintro e w2 ⟨rfl,hb2⟩;have c12:=c9.up hb2;have c13:=c10.up hb2;have hB14:Below w.heap.size w w2:=bel_up hB11 hb2;clear c9 c10;have ne15_:w.heap.size<w2.heap.size:=by have:=c12.lt;omega
 have ne15:=Nat.ne_of_lt ne15_;have ne15':=ne15.symm;have ne16_:w.heap.size+1<w2.heap.size:=by have:=c13.lt;omega
 have ne16:=Nat.ne_of_lt ne16_;have ne16':=ne16.symm;have uc12:=c12;have uc13:=c13;simp only [At,Own,Nat.reduceAdd,and_true] at uc12 uc13;go_wp2_with fail;refine wp_named ?_;intro W3 hW3;have hL3:Below w2.heap.size w2 W3:=by rw [hW3];exact bB
 have c17:=c13.up hL3
 have c18:Own W3 w2.heap.size 0 [.bool (ng ((Pg.absQ (Pg.ringA O)).num)),.string (mg ((Pg.absQ (Pg.ringA O)).num).natAbs),.bool false,.string (mg (dn (Pg.absQ (Pg.ringA O))))]:=by
  rw [hW3]
  first
  | (repeat (first|(with_reducible refine own_new (l:=[.bool (ng ((Pg.absQ (Pg.ringA O)).num)),.string (mg ((Pg.absQ (Pg.ringA O)).num).natAbs),.bool false,.string (mg (dn (Pg.absQ (Pg.ringA O))))]) ?_;(simp;done))|with_reducible refine Own.alloc ?_ _|refine Own.far _ _ (by first|(simp;done)|(simp [*];done)|(simp;omega)) ?_));done
  | simp [Own,go_sem,uc12,uc13,ne15,ne15',ne15_,ne16,ne16',ne16_]
 have hB19:Below w.heap.size w W3:=by rw [hW3];exact bB
 clear hW3 hL3 uc12 uc13 c13;go_loopw [13] (fun s13 wr=>∃ (k:Nat) (out:Rat),s13=.int .i64 k∧Own wr (w.heap.size+1) 0 [.bool false,.string ⟨#[]⟩,.bool false,.string ⟨#[]⟩]∧Own wr w2.heap.size 0 [.bool (ng out.num),.string (mg out.num.natAbs),.bool false,.string (mg (dn out))]∧Below w.heap.size w wr∧k≤Nh∧Hid (Pl.Sz (401001+401010*k) out)∧Hid (areaP O Hs=(Hs.drop k).foldl (fun s h=>s-Pg.absQ (Pg.ringA h)) out)) (fun s13 _=>Nh-(intOf s13).toNat)
 case atStart=>exact ⟨0,(Pg.absQ (Pg.ringA O)),rfl,c17,c18,hB19,(by omega),Lib.hid ((Sz_abs (ringA_sz hO hS hn)).mono (by omega)),Lib.hid rfl⟩
 case round =>
  clear c17 c18 hB19;obtain ⟨k,out,rfl,b20,b21,hB22,hk,HOUT,HE⟩:=hrel;obtain ⟨wr23,hwr23⟩:∃ W_,W_=wr:=⟨_,rfl⟩
  subst hwr23
  by_cases hltk:k<Nh
  ·skip
   have i1k:(k:Int)<Nh:=by omega
   obtain ⟨xr24,rg24,hx24,hr24,hp24⟩:=HRG.out.get (i:=k) (by rw [HNh.out];omega);have HX24:=Lib.hid hx24;have HR24:=Lib.hid hr24;have HP24:=Lib.hid hp24;clear hx24 hr24 hp24;have HRr:=HR24.out;have HDR:Hid (Hs.drop k=rg24 :: Hs.drop (k+1)):=Lib.hid (Pl.drop_of HR24.out);obtain ⟨g26,o27,ha28,-⟩:=(HXH.out).up kpV hB22 _ _ HX24.out;subst ha28;have ce25:=LX.at_ ((HXH.out).up kpV hB22) HX24.out;have ce25_:g26<wr23.heap.size:=World.block_lt_of_cell? _ _ ce25.1;have uce25:=ce25;simp only [CVL,vlc,At,Nat.mul_one,Nat.reduceMul] at uce25;have K29:=Lib.hid (fun W (hW:PV W xr24 rg24)=>parea_any _ rg24 W hW (hH _ (List.mem_of_getElem? HRr)) (Nat.le_trans (hnH _ (List.mem_of_getElem? HRr)) (by decide)) hS);have K30:=Lib.hid (fun W=>qabs_any (Pg.ringA rg24) W);have K31:=Lib.hid (fun W=>qsub_any out (Pg.absQ (Pg.ringA rg24)) W (HOUT.out.mono (by omega)) ((Sz_abs (ringA_sz (hH _ (List.mem_of_getElem? HRr)) hS (hnH _ (List.mem_of_getElem? HRr)))).mono (by omega)));go_wp2_with fail;refine wp_named ?_;intro W4 hW4;have hL4:Below wr23.heap.size wr23 W4:=by rw [hW4];exact bB
   have c32:=b20.up hL4;have c33:=b21.up hL4;have hB34:Below w.heap.size w W4:=by rw [hW4];exact bB
   clear hW4 hL4 uce25 b20 b21;have dc32:=fun p:Bel W4=>c32.bel p;have dc33:=fun p:Bel W4=>c33.bel p
   simp only [At,Own,Nat.reduceAdd,and_true] at dc32 dc33;refine wp_region_tail 5 (by kernel_rfl) (by kernel_rfl) ?_;simp only [List.take_succ_cons,List.take_zero,List.drop_succ_cons,List.drop_zero];repeat (go_big_quiet_step (first|(go_at_call 26;with_reducible exact Calls.bel (K29.out _ ((HP24.out.up hB34).up (Bel.h _))))|(go_at_call 63;with_reducible exact Calls.bel (K30.out _))|(go_at_call 64;with_reducible exact Calls.bel (K31.out _))))
   refine wpQuiet_nil ?_;intro w4 hb4;have c35:=c32.up hb4;have c36:=c33.up hb4;have hB37:Below w.heap.size w w4:=bel_up hB34 hb4;clear dc32 dc33 c32 c33;have uc35:=c35;have uc36:=c36;simp only [At,Own,Nat.reduceAdd,and_true] at uc35 uc36;go_wp2;go_roundw
   case rel=>exact ⟨(k+1),(out-(Pg.absQ (Pg.ringA rg24))),(by first|rfl|exact congrArg (Value.int .i64) (by omega)|simp [*]),(by repeat (first|with_reducible exact c35|refine Own.far _ _ (by simp<;>omega) ?_|with_reducible refine Own.alloc ?_ _)),(by simp [Own,go_sem,uc35,uc36]),(by exact bB),(by omega),Lib.hid ((HOUT.out.sub (Sz_abs (ringA_sz (hH _ (List.mem_of_getElem? HRr)) hS (hnH _ (List.mem_of_getElem? HRr))))).mono (by omega)),Lib.hid (by rw [HE.out,HDR.out];rfl)⟩
   case measure=>simp [intOf]<;>omega
  ·skip
   have hkN:Nh=k:=by omega
   subst hkN;have ub20:=b20;have ub21:=b21;simp only [At,Own,Nat.reduceAdd,and_true] at ub20 ub21;go_wp2;refine bodyPost_ret (v:=.agg #[.bool (ng out.num),.string (mg out.num.natAbs),.bool false,.string (mg (dn out))]) (by simp [results,Tryz.results22,go_sem,ub20,ub21]) rfl ⟨(by rw [HE.out,List.drop_eq_nil_of_le (by rw [← HLH.out];exact Nat.le_refl _)]<;>rfl),?_⟩;exact bB

set_option maxHeartbeats 2000000 in
theorem plocate_any {S:Nat} (v:Value) (O:List (Rat×Rat)) (Hs:List (List (Rat×Rat))) (p:Rat×Rat) (w:World) (h:PoV w v O Hs) (hO:∀ q∈O,Pl.SzP S q) (hH:∀ r∈Hs,∀ q∈r,Pl.SzP S q) (hn:O.length≤100) (hnH:∀ r∈Hs,r.length≤100) (hm:Hs.length≤20) (hS:S≤1000) (hp:Pl.SzP S p) :
 Calls Tryz.prog 29 #[v,pv p] w fun e w'=>e=.returned (.int .i64 (locP O Hs p))∧Below w.heap.size w w':=by
 obtain ⟨vo,vh,rfl,hvo,Lh,hvh,hrg⟩:=h;obtain ⟨Ah,ch,rfl,hch,hmh,hxh⟩:=hvh.open_;have HVO:=Lib.hid hvo;have HXH:=Lib.hid hxh;have HRG:=Lib.hid hrg;have HVH:=Lib.hid hvh;have hlh:Lh.length=Hs.length:=hrg.1;generalize hNh:Lh.length=Nh at *;have HNh:=Lib.hid hNh;have HLH:=Lib.hid hlh;have hbn:Nh≤20:=by omega
 clear hlh hvo hxh hrg hvh hNh;go_enter Tryz.func29,Tryz.ntmps29;have kK1:=fun W (hW:PV W vo O)=>ploc_any _ O p W hW hO (Nat.le_trans hn (by decide)) hS hp
 generalize hT3:Pg.locW p (Pg.ringE O) 0=z2 at kK1;have K1:=Lib.hid kK1;clear kK1;have T4:=Lib.hid (locW_three _ _ _ hT3);have HhT3:=Lib.hid hT3;clear hT3;go_wp2_with (fail)
 refine calls_named ?_;intro W1 hW1;have hL1:Below w.heap.size w W1:=by rw [hW1];exact bB
 have c5:Own W1 w.heap.size 0 [vo,.slice Ah Nh ch]:=by
  rw [hW1]
  first
  | (repeat (first|(with_reducible refine own_new (l:=[vo,.slice Ah Nh ch]) ?_;(simp;done))|with_reducible refine Own.alloc ?_ _|refine Own.far _ _ (by first|(simp;done)|(simp [*];done)|(simp;omega)) ?_));done
  | simp [Own,go_sem]
 have c6:Own W1 (w.heap.size+1) 0 [.bool (ng p.1.num),.string (mg p.1.num.natAbs),.bool false,.string (mg (dn p.1)),.bool (ng p.2.num),.string (mg p.2.num.natAbs),.bool false,.string (mg (dn p.2))]:=by
  rw [hW1]
  first
  | (repeat (first|(with_reducible refine own_new (l:=[.bool (ng p.1.num),.string (mg p.1.num.natAbs),.bool false,.string (mg (dn p.1)),.bool (ng p.2.num),.string (mg p.2.num.natAbs),.bool false,.string (mg (dn p.2))]) ?_;(simp;done))|with_reducible refine Own.alloc ?_ _|refine Own.far _ _ (by first|(simp;done)|(simp [*];done)|(simp;omega)) ?_));done
  | simp [Own,go_sem]
 have hB7:Below w.heap.size w W1:=by rw [hW1];exact bB
 clear hW1 hL1;with_reducible refine (K1.out _ (HVO.out.up hB7)).mono ?_
 rintro e w1 ⟨rfl,hb1⟩;have c8:=c5.up hb1;have c9:=c6.up hb1;have hB10:Below w.heap.size w w1:=bel_up hB7 hb1;clear c5 c6;rcases T4.out with rfl|rfl|rfl
 ·skip
  have uc8:=c8;have uc9:=c9;simp only [At,Own,Nat.reduceAdd,and_true] at uc8 uc9;go_wp2;go_ret;refine ⟨(by unfold locP;rw [HhT3.out,if_neg (by decide)]<;>rfl),?_⟩;exact bB
 ·skip
  have uc8:=c8;have uc9:=c9;simp only [At,Own,Nat.reduceAdd,and_true] at uc8 uc9;go_wp2;go_ret;refine ⟨(by unfold locP;rw [HhT3.out,if_neg (by decide)]<;>rfl),?_⟩;exact bB
 ·skip
  have HLP:Hid (locP O Hs p=locH p (Hs.drop 0)):=Lib.hid (by unfold locP;rw [HhT3.out,if_pos rfl]<;>rfl);have uc8:=c8;have uc9:=c9;simp only [At,Own,Nat.reduceAdd,and_true] at uc8 uc9;go_wp2_with fail;go_loopw [19] (fun s19 wr=>∃ (k:Nat),s19=.int .i64 k∧Own wr (w.heap.size+1) 0 [.bool (ng p.1.num),.string (mg p.1.num.natAbs),.bool false,.string (mg (dn p.1)),.bool (ng p.2.num),.string (mg p.2.num.natAbs),.bool false,.string (mg (dn p.2))]∧Below w.heap.size w wr∧k≤Nh∧Hid (locP O Hs p=locH p (Hs.drop k))) (fun s19 _=>Nh-(intOf s19).toNat)
  case atStart=>exact ⟨0,rfl,c9,hB10,(by omega),HLP⟩
  case round =>
   clear c9 hB10 uc8 uc9;obtain ⟨k,rfl,b11,hB12,hk,HE⟩:=hrel;obtain ⟨wr13,hwr13⟩:∃ W_,W_=wr:=⟨_,rfl⟩
   subst hwr13
   by_cases hltk:k<Nh
   ·skip
    have i1k:(k:Int)<Nh:=by omega
    obtain ⟨xr14,rg14,hx14,hr14,hp14⟩:=HRG.out.get (i:=k) (by rw [HNh.out];omega);have HX14:=Lib.hid hx14;have HR14:=Lib.hid hr14;have HP14:=Lib.hid hp14;clear hx14 hr14 hp14;have HRr:=HR14.out;have HDR:Hid (Hs.drop k=rg14 :: Hs.drop (k+1)):=Lib.hid (Pl.drop_of HR14.out);obtain ⟨g16,o17,ha18,-⟩:=(HXH.out).up kpV hB12 _ _ HX14.out;subst ha18;have ce15:=LX.at_ ((HXH.out).up kpV hB12) HX14.out;have ce15_:g16<wr13.heap.size:=World.block_lt_of_cell? _ _ ce15.1;have uce15:=ce15;simp only [CVL,vlc,At,Nat.mul_one,Nat.reduceMul] at uce15;have ub11:=b11;simp only [At,Own,Nat.reduceAdd,and_true] at ub11;have kK19:=fun W (hW:PV W xr14 rg14)=>ploc_any _ rg14 p W hW (hH _ (List.mem_of_getElem? HRr)) (Nat.le_trans (hnH _ (List.mem_of_getElem? HRr)) (by decide)) hS hp
    generalize hT21:Pg.locW p (Pg.ringE rg14) 0=z20 at kK19;have K19:=Lib.hid kK19;clear kK19;have T22:=Lib.hid (locW_three _ _ _ hT21);have HhT21:=Lib.hid hT21;clear hT21;go_wp2_with (fail)
    refine calls_named ?_;intro W2 hW2;have hL2:Below wr13.heap.size wr13 W2:=by rw [hW2];exact bB
    have c23:=b11.up hL2;have hB24:Below w.heap.size w W2:=by rw [hW2];exact bB
    clear hW2 hL2 uce15 ub11 b11;with_reducible refine (K19.out _ (HP14.out.up hB24)).mono ?_
    rintro e w2 ⟨rfl,hb2⟩;have c25:=c23.up hb2;have hB26:Below w.heap.size w w2:=bel_up hB24 hb2;clear c23;rcases T22.out with rfl|rfl|rfl
    ·skip
     have uc25:=c25;simp only [At,Own,Nat.reduceAdd,and_true] at uc25;go_wp2;go_roundw
     case rel=>exact ⟨(k+1),(by first|rfl|exact congrArg (Value.int .i64) (by omega)|simp [*]),(by repeat (first|with_reducible exact c25|refine Own.far _ _ (by simp<;>omega) ?_|with_reducible refine Own.alloc ?_ _)),(by exact bB),(by omega),Lib.hid (by rw [HE.out,HDR.out,locH_no HhT21.out rfl])⟩
     case measure=>simp [intOf]<;>omega
    ·skip
     have uc25:=c25;simp only [At,Own,Nat.reduceAdd,and_true] at uc25;go_wp2;go_ret;refine ⟨(by rw [HE.out,HDR.out,locH_yes HhT21.out (by decide)]<;>rfl),?_⟩;exact bB
    ·skip
     have uc25:=c25;simp only [At,Own,Nat.reduceAdd,and_true] at uc25;go_wp2;go_ret;refine ⟨(by rw [HE.out,HDR.out,locH_yes HhT21.out (by decide)]<;>rfl),?_⟩;exact bB
   ·skip
    have hkN:Nh=k:=by omega
    subst hkN;have ub11:=b11;simp only [At,Own,Nat.reduceAdd,and_true] at ub11;go_wp2;go_ret;refine ⟨(by rw [HE.out,List.drop_eq_nil_of_le (by rw [← HLH.out];exact Nat.le_refl _)]<;>rfl),?_⟩;exact bB
end Go.Proofs.YtiochgoocbkckaaGreatDoor

namespace Go.Proofs.YtiochgoocbkckaaGreatDoor
open Go Go.RowKit

theorem take_snocG {l:List ((Rat×Rat)×(Rat×Rat))} {k:Nat} {x:(Rat×Rat)×(Rat×Rat)} (h:l[k]?=some x):l.take (k+1)=l.take k++[x]:=by
 rw [List.take_add_one,h];rfl
set_option maxHeartbeats 1000000 in
theorem indexFuncS_any (v:Value) (l:List ((Rat×Rat)×(Rat×Rat))) (w:World) (f:FuncId) (cb:Array Value) (pr:(Rat×Rat)×(Rat×Rat)→Bool) (h:SV w v l) (hn:l.length≤1000000)
 (eg:∀ args w,(callFunc f args).run Tryz.prog w=.ok (.enter f args) w)
 (hp:∀ W x,Below w.heap.size w W→x∈l→Calls Tryz.prog f (#[sv x]++cb) W fun e w'=>e=.returned (.bool (pr x))∧Below W.heap.size W w') :
 Calls Tryz.prog 157 #[v,.func (.func f) #[] cb] w fun e w'=>(∃ z:Int,e=.returned (.int .i64 z)∧decide (0≤z)=l.any pr)∧Below w.heap.size w w':=by
 obtain ⟨A,c,rfl,hc,hm,hx⟩:=h.open_;have HX:=Lib.hid hx;have HP:=Lib.hid hp;have HF:Hid (l.take l.length=l):=Lib.hid List.take_length;generalize hN:l.length=N at *;have HN:=Lib.hid hN;clear h hx hN hp;go_enter Tryz.func157,Tryz.ntmps157;go_wp2_with fail;go_loopw [8] (fun i wr=>∃ k:Nat,k≤N∧i=.int .i64 k∧Below w.heap.size w wr∧Hid ((l.take k).any pr=false)) (fun i _=>N-(intOf i).toNat)
 case atStart=>exact ⟨0,Nat.zero_le _,rfl,Below.refl _ _,Lib.hid rfl⟩
 case round =>
  obtain ⟨k,hk,rfl,hB,HE⟩:=hrel
  by_cases hlt:k<N
  ·have i1:(k:Int)<N:=by omega
   obtain ⟨x,hx⟩:∃ x,l[k]?=some x:=⟨_,List.getElem?_eq_getElem (by rw [HN.out];omega)⟩
   have HT:Hid ((l.take (k+1)).any pr=pr x):=Lib.hid (by rw [take_snocG hx,List.any_append,HE.out];simp);have HM:=Lib.hid (List.mem_of_getElem? hx);obtain ⟨g,o,hA,-⟩:=HX.out _ _ hx;subst hA;have c1:=LX.at_ (HX.out.up kpS hB) hx;have u1:=c1;simp only [CS] at u1;have kp:=HP.out wr x hB HM.out;have HA:Hid (pr x=true→l.any pr=true):=Lib.hid (fun h=>List.any_eq_true.2 ⟨x,HM.out,h⟩);generalize pr x=b at kp HA HT;have KP:=Lib.hid kp;clear hx kp c1;go_wp2_with fail;go_at_fn f;with_reducible refine KP.out.mono ?_
   rintro e w1 ⟨rfl,hb1⟩;have hB1:Below w.heap.size w w1:=bel_up hB hb1;cases b
   ·go_wp2
    go_roundw
    case rel=>exact ⟨k+1,by omega,congrArg (Value.int .i64) (by omega),hB1,Lib.hid HT.out⟩
    case measure=>simp [intOf];omega
   ·go_wp2
    go_ret;exact ⟨⟨k,rfl,by rw [HA.out (by first|rfl|trivial)];simp⟩,hB1⟩
  ·have hkN:N=k:=by omega
   subst hkN;go_wp2;go_ret;exact ⟨⟨-1,rfl,by rw [← HF.out,HE.out];decide⟩,hB⟩
theorem containsFuncS_any (v:Value) (l:List ((Rat×Rat)×(Rat×Rat))) (w:World) (f:FuncId) (cb:Array Value) (pr:(Rat×Rat)×(Rat×Rat)→Bool) (h:SV w v l) (hn:l.length≤1000000)
 (eg:∀ args w,(callFunc f args).run Tryz.prog w=.ok (.enter f args) w)
 (hp:∀ W x,Below w.heap.size w W→x∈l→Calls Tryz.prog f (#[sv x]++cb) W fun e w'=>e=.returned (.bool (pr x))∧Below W.heap.size W w') :
 Calls Tryz.prog 117 #[v,.func (.func f) #[] cb] w fun e w'=>e=.returned (.bool (l.any pr))∧Below w.heap.size w w':=by
 have K:=Lib.hid (indexFuncS_any v l w f cb pr h hn eg hp);clear h hp;go_enter Tryz.func117,Tryz.ntmps117;go_wp2_with fail;with_reducible refine K.out.mono ?_
 rintro e w1 ⟨⟨z,rfl,hz⟩,hb1⟩;have HZ:=Lib.hid hz;clear hz;go_wp2;go_ret;exact ⟨by rw [← HZ.out]<;>rfl,hb1⟩

theorem fd_head {ops:Array Oper} {Q:Exit→Act→World→Prop} {a:Act} {w:World} {rest:List Oper} {d:Option Tmp} {ty0:TypeId} {pos:String} {af:Array Edge} {g:Option (Nat×Bool)} {ty:TypeId} {x:Operand} {i:Nat} (h:wpList Tryz.prog ops Q (⟨d,.field ty x i,ty0,pos,af,g⟩ :: rest) a w):wpList Tryz.prog ops Q (⟨d,.field ty x i,ty0,pos,af,g⟩ :: rest) a w:=h
theorem wpList_kind {ops:Array Oper} {Q:Exit→Act→World→Prop} {a:Act} {w:World} {op:Oper} {rest:List Oper} (hg:op.guard=none) (x:Operand) (ho:op.op=.field 124 x 0) (m:Int×((Rat×Rat)×(Rat×Rat))) (hx:a.eval x=mtv m)
 (h:wpList Tryz.prog ops Q rest (a.put op.dst (.int .i64 m.1)) w):wpList Tryz.prog ops Q (op :: rest) a w :=
 wpList_plain hg fun _ hK=>by
  unfold Oper.wp execOp;simp only [ho,hx,fld_kind,Sem.run_bind,Sem.run_pure,Result.andThen_ok];show _;simp only [Oper.upon];exact hK _ _ h

theorem pins1_any {S:Nat} (p:Rat×Rat) (vr:Value) (r:List (Rat×Rat)) (br:Nat) (w:World) (hb:Own w br 0 [vr]) (hr:PV w vr r) (hs:∀ q∈r,Pl.SzP S q) (hn:r.length≤100) (hp:Pl.SzP S p) (hS:S≤1000) :
 Calls Tryz.prog 116 #[pv p,.pointer (some ⟨br,0,none⟩)] w fun e w'=>e=.returned (.bool (Pg.locW p (Pg.ringE r) 0 != 1))∧Below w.heap.size w w':=by
 have HVR:=Lib.hid hr;go_enter Tryz.func116,Tryz.ntmps116;have ne1_:br<w.heap.size:=by have:=hb.lt;omega
 have ne1:=Nat.ne_of_lt ne1_;have ne1':=ne1.symm;have uhb:=hb;simp only [At,Own,Nat.reduceAdd,and_true] at uhb;have kK2:=fun W (hW:PV W vr r)=>ploc_any _ r p W hW hs (Nat.le_trans hn (by decide)) hS hp
 generalize hT4:Pg.locW p (Pg.ringE r) 0=z3 at kK2;have K2:=Lib.hid kK2;clear kK2;have T5:=Lib.hid (locW_three _ _ _ hT4);have HhT4:=Lib.hid hT4;clear hT4;go_wp2_with (fail)
 refine calls_named ?_;intro W1 hW1;have hL1:Below w.heap.size w W1:=by rw [hW1];exact bB
 have c6:=hb.up hL1
 have c7:Own W1 w.heap.size 0 [.bool (ng p.1.num),.string (mg p.1.num.natAbs),.bool false,.string (mg (dn p.1)),.bool (ng p.2.num),.string (mg p.2.num.natAbs),.bool false,.string (mg (dn p.2))]:=by
  rw [hW1]
  first
  | (repeat (first|(with_reducible refine own_new (l:=[.bool (ng p.1.num),.string (mg p.1.num.natAbs),.bool false,.string (mg (dn p.1)),.bool (ng p.2.num),.string (mg p.2.num.natAbs),.bool false,.string (mg (dn p.2))]) ?_;(simp;done))|with_reducible refine Own.alloc ?_ _|refine Own.far _ _ (by first|(simp;done)|(simp [*];done)|(simp;omega)) ?_));done
  | simp [Own,go_sem,uhb,ne1,ne1',ne1_]
 have hB8:Below w.heap.size w W1:=by rw [hW1];exact bB
 clear hW1 hL1 uhb hb;with_reducible refine (K2.out _ (HVR.out.up hB8)).mono ?_
 rintro e w1 ⟨rfl,hb1⟩;have c9:=c6.up hb1;have c10:=c7.up hb1;have hB11:Below w.heap.size w w1:=bel_up hB8 hb1;clear c6 c7;have uc9:=c9;have uc10:=c10;simp only [At,Own,Nat.reduceAdd,and_true] at uc9 uc10;go_wp2;go_ret;refine ⟨(by first|rfl|(rw [HhT4.out]<;>rfl)),?_⟩;exact bB

theorem psom1_any {S:Nat} (p:Rat×Rat) (vr:Value) (r:List (Rat×Rat)) (br:Nat) (w:World) (hb:Own w br 0 [vr]) (hr:PV w vr r) (hs:∀ q∈r,Pl.SzP S q) (hn:r.length≤100) (hp:Pl.SzP S p) (hS:S≤1000) :
 Calls Tryz.prog 120 #[pv p,.pointer (some ⟨br,0,none⟩)] w fun e w'=>e=.returned (.bool (Pg.locW p (Pg.ringE r) 0==1))∧Below w.heap.size w w':=by
 have HVR:=Lib.hid hr;go_enter Tryz.func120,Tryz.ntmps120;have ne1_:br<w.heap.size:=by have:=hb.lt;omega
 have ne1:=Nat.ne_of_lt ne1_;have ne1':=ne1.symm;have uhb:=hb;simp only [At,Own,Nat.reduceAdd,and_true] at uhb;have kK2:=fun W (hW:PV W vr r)=>ploc_any _ r p W hW hs (Nat.le_trans hn (by decide)) hS hp
 generalize hT4:Pg.locW p (Pg.ringE r) 0=z3 at kK2;have K2:=Lib.hid kK2;clear kK2;have T5:=Lib.hid (locW_three _ _ _ hT4);have HhT4:=Lib.hid hT4;clear hT4;go_wp2_with (fail)
 refine calls_named ?_;intro W1 hW1;have hL1:Below w.heap.size w W1:=by rw [hW1];exact bB
 have c6:=hb.up hL1
 have c7:Own W1 w.heap.size 0 [.bool (ng p.1.num),.string (mg p.1.num.natAbs),.bool false,.string (mg (dn p.1)),.bool (ng p.2.num),.string (mg p.2.num.natAbs),.bool false,.string (mg (dn p.2))]:=by
  rw [hW1]
  first
  | (repeat (first|(with_reducible refine own_new (l:=[.bool (ng p.1.num),.string (mg p.1.num.natAbs),.bool false,.string (mg (dn p.1)),.bool (ng p.2.num),.string (mg p.2.num.natAbs),.bool false,.string (mg (dn p.2))]) ?_;(simp;done))|with_reducible refine Own.alloc ?_ _|refine Own.far _ _ (by first|(simp;done)|(simp [*];done)|(simp;omega)) ?_));done
  | simp [Own,go_sem,uhb,ne1,ne1',ne1_]
 have hB8:Below w.heap.size w W1:=by rw [hW1];exact bB
 clear hW1 hL1 uhb hb;with_reducible refine (K2.out _ (HVR.out.up hB8)).mono ?_
 rintro e w1 ⟨rfl,hb1⟩;have c9:=c6.up hb1;have c10:=c7.up hb1;have hB11:Below w.heap.size w w1:=bel_up hB8 hb1;clear c6 c7;have uc9:=c9;have uc10:=c10;simp only [At,Own,Nat.reduceAdd,and_true] at uc9 uc10;go_wp2;go_ret;refine ⟨(by first|rfl|(rw [HhT4.out]<;>rfl)),?_⟩;exact bB

theorem cfi_any {S:Nat} (vl:Value) (l:List (Rat×Rat)) (vr:Value) (r:List (Rat×Rat)) (gb:Nat) (w:World) (h:PV w vl l) (hr:PV w vr r) (ho:Own w gb 0 [vr]) (hs:∀ q∈l,Pl.SzP S q) (hsr:∀ q∈r,Pl.SzP S q) (hn:l.length≤100) (hnr:r.length≤100) (hS:S≤1000) :
 Calls Tryz.prog 52 #[vl,.func (.func 116) #[] #[.pointer (some ⟨gb,0,none⟩)]] w fun e w'=>e=.returned (.bool (l.any fun p=>Pg.locW p (Pg.ringE r) 0 != 1))∧Below w.heap.size w w' :=
 containsFunc_any vl l w _ _ (fun p=>Pg.locW p (Pg.ringE r) 0 != 1) h (Nat.le_trans hn (by decide)) (enters_of Tryz.func116 (by kernel_rfl) rfl) fun W x hb hx=>pins1_any x vr r gb W (ho.up hb) (hr.up hb) hsr hnr (hs x hx) hS

theorem cfo_any {S:Nat} (vl:Value) (l:List (Rat×Rat)) (vr:Value) (r:List (Rat×Rat)) (gb:Nat) (w:World) (h:PV w vl l) (hr:PV w vr r) (ho:Own w gb 0 [vr]) (hs:∀ q∈l,Pl.SzP S q) (hsr:∀ q∈r,Pl.SzP S q) (hn:l.length≤100) (hnr:r.length≤100) (hS:S≤1000) :
 Calls Tryz.prog 52 #[vl,.func (.func 120) #[] #[.pointer (some ⟨gb,0,none⟩)]] w fun e w'=>e=.returned (.bool (l.any fun p=>Pg.locW p (Pg.ringE r) 0==1))∧Below w.heap.size w w' :=
 containsFunc_any vl l w _ _ (fun p=>Pg.locW p (Pg.ringE r) 0==1) h (Nat.le_trans hn (by decide)) (enters_of Tryz.func120 (by kernel_rfl) rfl) fun W x hb hx=>psom1_any x vr r gb W (ho.up hb) (hr.up hb) hsr hnr (hs x hx) hS

def insB (l r:List (Rat×Rat)):Bool := !(l.any fun p=>Pg.locW p (Pg.ringE r) 0 != 1)
def somB (l r:List (Rat×Rat)):Bool:=l.any fun p=>Pg.locW p (Pg.ringE r) 0==1

theorem inside_any {S:Nat} (vl:Value) (l:List (Rat×Rat)) (vr:Value) (r:List (Rat×Rat)) (w:World) (hl:PV w vl l) (hr:PV w vr r) (hsl:∀ q∈l,Pl.SzP S q) (hsr:∀ q∈r,Pl.SzP S q) (hnl:l.length≤100) (hnr:r.length≤100) (hS:S≤1000) :
 Calls Tryz.prog 58 #[vl,vr] w fun e w'=>e=.returned (.bool (insB l r))∧Below w.heap.size w w':=by
 obtain ⟨Ar,cr,rfl,-,-,-⟩:=hr.open_;have HVL:=Lib.hid hl;have HVR:=Lib.hid hr;go_enter Tryz.func58,Tryz.ntmps58;have kK1:=fun W (hv:PV W vl l) (hr:PV W (.slice Ar r.length cr) r) (ho:Own W w.heap.size 0 [.slice Ar r.length cr])=>cfi_any vl l _ r w.heap.size W hv hr ho hsl hsr hnl hnr hS
 generalize hT3:(l.any fun p=>Pg.locW p (Pg.ringE r) 0 != 1)=b2 at kK1;have K1:=Lib.hid kK1;clear kK1;have HhT3:=Lib.hid hT3;clear hT3;go_wp2_with (fail)
 refine calls_named ?_;intro W1 hW1;have hL1:Below w.heap.size w W1:=by rw [hW1];exact bB
 have c4:Own W1 w.heap.size 0 [(.slice Ar r.length cr)]:=by
  rw [hW1]
  first
  | (repeat (first|(with_reducible refine own_new (l:=[(.slice Ar r.length cr)]) ?_;(simp;done))|with_reducible refine Own.alloc ?_ _|refine Own.far _ _ (by first|(simp;done)|(simp [*];done)|(simp;omega)) ?_));done
  | simp [Own,go_sem]
 have hB5:Below w.heap.size w W1:=by rw [hW1];exact bB
 clear hW1 hL1;with_reducible refine (K1.out _ (HVL.out.up hB5) (HVR.out.up hB5) c4).mono ?_
 rintro e w1 ⟨rfl,hb1⟩;have c6:=c4.up hb1;have hB7:Below w.heap.size w w1:=bel_up hB5 hb1;clear c4;have uc6:=c6;simp only [At,Own,Nat.reduceAdd,and_true] at uc6;go_wp2;go_ret;refine ⟨(by unfold insB;first|rfl|(rw [HhT3.out]<;>rfl)),?_⟩;exact bB

theorem some_any {S:Nat} (vl:Value) (l:List (Rat×Rat)) (vr:Value) (r:List (Rat×Rat)) (w:World) (hl:PV w vl l) (hr:PV w vr r) (hsl:∀ q∈l,Pl.SzP S q) (hsr:∀ q∈r,Pl.SzP S q) (hnl:l.length≤100) (hnr:r.length≤100) (hS:S≤1000) :
 Calls Tryz.prog 61 #[vl,vr] w fun e w'=>e=.returned (.bool (somB l r))∧Below w.heap.size w w':=by
 obtain ⟨Ar,cr,rfl,-,-,-⟩:=hr.open_;have HVL:=Lib.hid hl;have HVR:=Lib.hid hr;go_enter Tryz.func61,Tryz.ntmps61;have kK1:=fun W (hv:PV W vl l) (hr:PV W (.slice Ar r.length cr) r) (ho:Own W w.heap.size 0 [.slice Ar r.length cr])=>cfo_any vl l _ r w.heap.size W hv hr ho hsl hsr hnl hnr hS
 generalize hT3:(l.any fun p=>Pg.locW p (Pg.ringE r) 0==1)=b2 at kK1;have K1:=Lib.hid kK1;clear kK1;have HhT3:=Lib.hid hT3;clear hT3;go_wp2_with (fail)
 refine calls_named ?_;intro W1 hW1;have hL1:Below w.heap.size w W1:=by rw [hW1];exact bB
 have c4:Own W1 w.heap.size 0 [(.slice Ar r.length cr)]:=by
  rw [hW1]
  first
  | (repeat (first|(with_reducible refine own_new (l:=[(.slice Ar r.length cr)]) ?_;(simp;done))|with_reducible refine Own.alloc ?_ _|refine Own.far _ _ (by first|(simp;done)|(simp [*];done)|(simp;omega)) ?_));done
  | simp [Own,go_sem]
 have hB5:Below w.heap.size w W1:=by rw [hW1];exact bB
 clear hW1 hL1;with_reducible refine (K1.out _ (HVL.out.up hB5) (HVR.out.up hB5) c4).mono ?_
 rintro e w1 ⟨rfl,hb1⟩;have c6:=c4.up hb1;have hB7:Below w.heap.size w w1:=bel_up hB5 hb1;clear c4;have uc6:=c6;simp only [At,Own,Nat.reduceAdd,and_true] at uc6;go_wp2;go_ret;refine ⟨(by unfold somB;first|rfl|(rw [HhT3.out]<;>rfl)),?_⟩;exact bB

theorem mt11_any {S:Nat} (s t:(Rat×Rat)×(Rat×Rat)) (bs:Nat) (w:World) (hb:Own w bs 0 [.bool (ng s.1.1.num),.string (mg s.1.1.num.natAbs),.bool false,.string (mg (dn s.1.1)),.bool (ng s.1.2.num),.string (mg s.1.2.num.natAbs),.bool false,.string (mg (dn s.1.2)),.bool (ng s.2.1.num),.string (mg s.2.1.num.natAbs),.bool false,.string (mg (dn s.2.1)),.bool (ng s.2.2.num),.string (mg s.2.2.num.natAbs),.bool false,.string (mg (dn s.2.2))]) (hs:Pl.SzS S s) (ht:Pl.SzS S t) (hS:S≤1000) :
 Calls Tryz.prog 119 #[sv t,.pointer (some ⟨bs,0,none⟩)] w fun e w'=>e=.returned (.bool ((meetM s t).1 != 0))∧Below w.heap.size w w':=by
 go_enter Tryz.func119,Tryz.ntmps119;have ne1_:bs<w.heap.size:=by have:=hb.lt;omega
 have ne1:=Nat.ne_of_lt ne1_;have ne1':=ne1.symm;have uhb:=hb;simp only [At,Own,Nat.reduceAdd,and_true] at uhb;have kK2:=fun W=>meet_any s t W hs ht (by omega)
 generalize hT4:meetM s t=m3 at kK2;have K2:=Lib.hid kK2;clear kK2;have HhT4:=Lib.hid hT4;clear hT4;go_wp2_with (fail)
 refine calls_named ?_;intro W1 hW1;have hL1:Below w.heap.size w W1:=by rw [hW1];exact bB
 have c5:=hb.up hL1
 have c6:Own W1 w.heap.size 0 [.bool (ng t.1.1.num),.string (mg t.1.1.num.natAbs),.bool false,.string (mg (dn t.1.1)),.bool (ng t.1.2.num),.string (mg t.1.2.num.natAbs),.bool false,.string (mg (dn t.1.2)),.bool (ng t.2.1.num),.string (mg t.2.1.num.natAbs),.bool false,.string (mg (dn t.2.1)),.bool (ng t.2.2.num),.string (mg t.2.2.num.natAbs),.bool false,.string (mg (dn t.2.2))]:=by
  rw [hW1]
  first
  | (repeat (first|(with_reducible refine own_new (l:=[.bool (ng t.1.1.num),.string (mg t.1.1.num.natAbs),.bool false,.string (mg (dn t.1.1)),.bool (ng t.1.2.num),.string (mg t.1.2.num.natAbs),.bool false,.string (mg (dn t.1.2)),.bool (ng t.2.1.num),.string (mg t.2.1.num.natAbs),.bool false,.string (mg (dn t.2.1)),.bool (ng t.2.2.num),.string (mg t.2.2.num.natAbs),.bool false,.string (mg (dn t.2.2))]) ?_;(simp;done))|with_reducible refine Own.alloc ?_ _|refine Own.far _ _ (by first|(simp;done)|(simp [*];done)|(simp;omega)) ?_));done
  | simp [Own,go_sem,uhb,ne1,ne1',ne1_]
 have hB7:Below w.heap.size w W1:=by rw [hW1];exact bB
 clear hW1 hL1 uhb hb;with_reducible refine (K2.out _).mono ?_
 rintro e w1 ⟨rfl,hb1⟩;have c8:=c5.up hb1;have c9:=c6.up hb1;have hB10:Below w.heap.size w w1:=bel_up hB7 hb1;clear c5 c6;have uc8:=c8;have uc9:=c9;simp only [At,Own,Nat.reduceAdd,and_true] at uc8 uc9;go_wp2_with (with_reducible refine fd_head ?_;refine Hid.out ?_)
 refine Lib.hid ?_;refine wpList_kind ?hg (.tmp 6) ?ho m3 ?hx ?h
 case hg=>rfl
 case ho=>rfl
 case hx=>rfl
 case h =>
  simp only [Act.put,List.setIfInBounds_toArray,List.set_cons_zero,List.set_cons_succ];go_wp2;go_ret;refine ⟨(by first|rfl|(rw [HhT4.out]<;>rfl)),?_⟩;exact bB

theorem cfs_any {S:Nat} (vm:Value) (m:List ((Rat×Rat)×(Rat×Rat))) (s:(Rat×Rat)×(Rat×Rat)) (gb:Nat) (w:World) (h:SV w vm m) (ho:Own w gb 0 [.bool (ng s.1.1.num),.string (mg s.1.1.num.natAbs),.bool false,.string (mg (dn s.1.1)),.bool (ng s.1.2.num),.string (mg s.1.2.num.natAbs),.bool false,.string (mg (dn s.1.2)),.bool (ng s.2.1.num),.string (mg s.2.1.num.natAbs),.bool false,.string (mg (dn s.2.1)),.bool (ng s.2.2.num),.string (mg s.2.2.num.natAbs),.bool false,.string (mg (dn s.2.2))]) (hs:Pl.SzS S s) (hm:∀ t∈m,Pl.SzS S t) (hn:m.length≤1000000) (hS:S≤1000) :
 Calls Tryz.prog 117 #[vm,.func (.func 119) #[] #[.pointer (some ⟨gb,0,none⟩)]] w fun e w'=>e=.returned (.bool (m.any fun t=>(meetM s t).1 != 0))∧Below w.heap.size w w' :=
 containsFuncS_any vm m w _ _ (fun t=>(meetM s t).1 != 0) h hn (enters_of Tryz.func119 (by kernel_rfl) rfl) fun W x hb hx=>mt11_any s x gb W (ho.up hb) hs (hm x hx) hS

theorem mt1_any {S:Nat} (s:(Rat×Rat)×(Rat×Rat)) (vm:Value) (m:List ((Rat×Rat)×(Rat×Rat))) (bm:Nat) (w:World) (hb:Own w bm 0 [vm]) (hv:SV w vm m) (hs:Pl.SzS S s) (hm:∀ t∈m,Pl.SzS S t) (hn:m.length≤1000000) (hS:S≤1000) :
 Calls Tryz.prog 118 #[sv s,.pointer (some ⟨bm,0,none⟩)] w fun e w'=>e=.returned (.bool (m.any fun t=>(meetM s t).1 != 0))∧Below w.heap.size w w':=by
 have HVM:=Lib.hid hv;go_enter Tryz.func118,Tryz.ntmps118;have ne1_:bm<w.heap.size:=by have:=hb.lt;omega
 have ne1:=Nat.ne_of_lt ne1_;have ne1':=ne1.symm;have uhb:=hb;simp only [At,Own,Nat.reduceAdd,and_true] at uhb;have kK2:=fun W (hv:SV W vm m) (ho:Own W w.heap.size 0 [.bool (ng s.1.1.num),.string (mg s.1.1.num.natAbs),.bool false,.string (mg (dn s.1.1)),.bool (ng s.1.2.num),.string (mg s.1.2.num.natAbs),.bool false,.string (mg (dn s.1.2)),.bool (ng s.2.1.num),.string (mg s.2.1.num.natAbs),.bool false,.string (mg (dn s.2.1)),.bool (ng s.2.2.num),.string (mg s.2.2.num.natAbs),.bool false,.string (mg (dn s.2.2))])=>cfs_any vm m s w.heap.size W hv ho hs hm hn hS
 generalize hT4:(m.any fun t=>(meetM s t).1 != 0)=b3 at kK2;have K2:=Lib.hid kK2;clear kK2;have HhT4:=Lib.hid hT4;clear hT4;go_wp2_with (fail)
 refine calls_named ?_;intro W1 hW1;have hL1:Below w.heap.size w W1:=by rw [hW1];exact bB
 have c5:=hb.up hL1
 have c6:Own W1 w.heap.size 0 [.bool (ng s.1.1.num),.string (mg s.1.1.num.natAbs),.bool false,.string (mg (dn s.1.1)),.bool (ng s.1.2.num),.string (mg s.1.2.num.natAbs),.bool false,.string (mg (dn s.1.2)),.bool (ng s.2.1.num),.string (mg s.2.1.num.natAbs),.bool false,.string (mg (dn s.2.1)),.bool (ng s.2.2.num),.string (mg s.2.2.num.natAbs),.bool false,.string (mg (dn s.2.2))]:=by
  rw [hW1]
  first
  | (repeat (first|(with_reducible refine own_new (l:=[.bool (ng s.1.1.num),.string (mg s.1.1.num.natAbs),.bool false,.string (mg (dn s.1.1)),.bool (ng s.1.2.num),.string (mg s.1.2.num.natAbs),.bool false,.string (mg (dn s.1.2)),.bool (ng s.2.1.num),.string (mg s.2.1.num.natAbs),.bool false,.string (mg (dn s.2.1)),.bool (ng s.2.2.num),.string (mg s.2.2.num.natAbs),.bool false,.string (mg (dn s.2.2))]) ?_;(simp;done))|with_reducible refine Own.alloc ?_ _|refine Own.far _ _ (by first|(simp;done)|(simp [*];done)|(simp;omega)) ?_));done
  | simp [Own,go_sem,uhb,ne1,ne1',ne1_]
 have hB7:Below w.heap.size w W1:=by rw [hW1];exact bB
 clear hW1 hL1 uhb hb;with_reducible refine (K2.out _ (HVM.out.up hB7) c6).mono ?_
 rintro e w1 ⟨rfl,hb1⟩;have c8:=c5.up hb1;have c9:=c6.up hb1;have hB10:Below w.heap.size w w1:=bel_up hB7 hb1;clear c5 c6;have uc8:=c8;have uc9:=c9;simp only [At,Own,Nat.reduceAdd,and_true] at uc8 uc9;go_wp2;go_ret;refine ⟨(by first|rfl|(rw [HhT4.out]<;>rfl)),?_⟩;exact bB

def mtB (l m:List ((Rat×Rat)×(Rat×Rat))):Bool:=l.any fun s=>m.any fun t=>(meetM s t).1 != 0
theorem cfm_any {S:Nat} (va:Value) (l:List ((Rat×Rat)×(Rat×Rat))) (vm:Value) (m:List ((Rat×Rat)×(Rat×Rat))) (gb:Nat) (w:World) (h:SV w va l) (hv:SV w vm m) (ho:Own w gb 0 [vm]) (hl:∀ t∈l,Pl.SzS S t) (hm:∀ t∈m,Pl.SzS S t) (hn:l.length≤1000000) (hnm:m.length≤1000000) (hS:S≤1000) :
 Calls Tryz.prog 117 #[va,.func (.func 118) #[] #[.pointer (some ⟨gb,0,none⟩)]] w fun e w'=>e=.returned (.bool (mtB l m))∧Below w.heap.size w w' :=
 containsFuncS_any va l w _ _ (fun s=>m.any fun t=>(meetM s t).1 != 0) h hn (enters_of Tryz.func118 (by kernel_rfl) rfl) fun W x hb hx=>mt1_any x vm m gb W (ho.up hb) (hv.up hb) (hl x hx) hm hnm hS

theorem pmeet_any {S:Nat} (va:Value) (l:List ((Rat×Rat)×(Rat×Rat))) (vm:Value) (m:List ((Rat×Rat)×(Rat×Rat))) (w:World) (h:SV w va l) (hv:SV w vm m) (hl:∀ t∈l,Pl.SzS S t) (hm:∀ t∈m,Pl.SzS S t) (hn:l.length≤1000000) (hnm:m.length≤1000000) (hS:S≤1000) :
 Calls Tryz.prog 59 #[va,vm] w fun e w'=>e=.returned (.bool (mtB l m))∧Below w.heap.size w w':=by
 obtain ⟨Am,cm,rfl,-,-,-⟩:=hv.open_;have HVA:=Lib.hid h;have HVM:=Lib.hid hv;go_enter Tryz.func59,Tryz.ntmps59;have kK1:=fun W (ha:SV W va l) (hv:SV W (.slice Am m.length cm) m) (ho:Own W w.heap.size 0 [.slice Am m.length cm])=>cfm_any va l _ m w.heap.size W ha hv ho hl hm hn hnm hS
 generalize hT3:mtB l m=b2 at kK1;have K1:=Lib.hid kK1;clear kK1;have HhT3:=Lib.hid hT3;clear hT3;go_wp2_with (fail)
 refine calls_named ?_;intro W1 hW1;have hL1:Below w.heap.size w W1:=by rw [hW1];exact bB
 have c4:Own W1 w.heap.size 0 [(.slice Am m.length cm)]:=by
  rw [hW1]
  first
  | (repeat (first|(with_reducible refine own_new (l:=[(.slice Am m.length cm)]) ?_;(simp;done))|with_reducible refine Own.alloc ?_ _|refine Own.far _ _ (by first|(simp;done)|(simp [*];done)|(simp;omega)) ?_));done
  | simp [Own,go_sem]
 have hB5:Below w.heap.size w W1:=by rw [hW1];exact bB
 clear hW1 hL1;with_reducible refine (K1.out _ (HVA.out.up hB5) (HVM.out.up hB5) c4).mono ?_
 rintro e w1 ⟨rfl,hb1⟩;have c6:=c4.up hb1;have hB7:Below w.heap.size w w1:=bel_up hB5 hb1;clear c4;have uc6:=c6;simp only [At,Own,Nat.reduceAdd,and_true] at uc6;go_wp2;go_ret;refine ⟨(by first|rfl|(rw [HhT3.out]<;>rfl)),?_⟩;exact bB
end Go.Proofs.YtiochgoocbkckaaGreatDoor
