/-
 Contracts for polygons: the first error of a polygon.
-/
import Derived.Test.YtiochgoocbkckaaGreatDoorAgbh
import Derived.Test.YtiochgoocbkckaaGreatDoorAgbj
import Derived.Test.YtiochgoocbkckaaGreatDoorAgbk
set_option maxRecDepth 100000
set_option linter.unusedSimpArgs false
set_option linter.unusedVariables false
namespace Go.Proofs.YtiochgoocbkckaaGreatDoor
open Go Go.RowKit

def errRs:List (List (Rat×Rat))→Int
 | []=>0
 | h :: t=>if Pg.errR h=0 then errRs t else Pg.errR h
def badO (O h:List (Rat×Rat)):Bool := !(insB h O)||mtB (Pg.ringE h) (Pg.ringE O)
def badG (h g:List (Rat×Rat)):Bool:=mtB (Pg.ringE h) (Pg.ringE g)||somB h g||somB g h
def chkH (O:List (Rat×Rat)):List (List (Rat×Rat))→List (List (Rat×Rat))→Int
 | _,[]=>0
 | pre,h :: t=>if badO O h||pre.any (badG h) then 11 else chkH O (pre++[h]) t
def errP (O:List (Rat×Rat)) (Hs:List (List (Rat×Rat))):Int:=if Pg.errR O=0 then (if 4≤Hs.length then 3 else if errRs Hs=0 then chkH O [] Hs else errRs Hs) else Pg.errR O
theorem errP_o {O:List (Rat×Rat)} {Hs:List (List (Rat×Rat))} {e:Int} (h:Pg.errR O=e) (he:¬ e=0):errP O Hs=e:=by unfold errP;rw [h,if_neg he]
theorem errP_4 {O:List (Rat×Rat)} {Hs:List (List (Rat×Rat))} (h:Pg.errR O=0) (he:4≤Hs.length):errP O Hs=3:=by unfold errP;rw [if_pos h,if_pos he]
theorem errP_go {O:List (Rat×Rat)} {Hs:List (List (Rat×Rat))} (h:Pg.errR O=0) (he:¬ 4≤Hs.length):errP O Hs=if errRs Hs=0 then chkH O [] Hs else errRs Hs:=by unfold errP;rw [if_pos h,if_neg he]
theorem errRs_go {h:List (Rat×Rat)} {t:List (List (Rat×Rat))} (e:Pg.errR h=0):errRs (h :: t)=errRs t:=by rw [errRs,if_pos e]
theorem errRs_no {h:List (Rat×Rat)} {t:List (List (Rat×Rat))} {z:Int} (e:Pg.errR h=z) (hz:¬ z=0):errRs (h :: t)=z:=by rw [errRs,e,if_neg hz]
theorem chkH_out {O h:List (Rat×Rat)} {pre t:List (List (Rat×Rat))} (hb:badO O h=true):chkH O pre (h :: t)=11:=by rw [chkH,hb];rfl
theorem chkH_in {O h g:List (Rat×Rat)} {pre t:List (List (Rat×Rat))} (hg:g∈pre) (hb:badG h g=true):chkH O pre (h :: t)=11:=by
 rw [chkH,List.any_eq_true.2 ⟨g,hg,hb⟩,Bool.or_true];rfl
theorem chkH_go {O h:List (Rat×Rat)} {pre t:List (List (Rat×Rat))} (hb:badO O h=false) (ha:pre.any (badG h)=false):chkH O pre (h :: t)=chkH O (pre++[h]) t:=by rw [chkH,hb,ha];rfl
theorem any_next {α:Type} {l:List α} {k:Nat} {x:α} {p:α→Bool} (h:(l.take k).any p=false) (hx:l[k]?=some x) (hp:p x=false):(l.take (k+1)).any p=false:=by
 rw [List.take_add_one,hx,List.any_append,h];simp [hp]
theorem mem_take {α:Type} {l:List α} {j k:Nat} {x:α} (hx:l[j]?=some x) (h:j<k):x∈l.take k:=List.mem_of_getElem? (i:=j) (by rw [List.getElem?_take,if_pos h];exact hx)
theorem take_next {α:Type} {l:List α} {k:Nat} {x:α} (hx:l[k]?=some x):l.take (k+1)=l.take k++[x]:=by rw [List.take_add_one,hx];rfl

set_option maxHeartbeats 8000000 in
theorem pcheckP_any {S:Nat} (v:Value) (O:List (Rat×Rat)) (Hs:List (List (Rat×Rat))) (w:World) (h:PoV w v O Hs) (hO:∀ q∈O,Pl.SzP S q) (hH:∀ r∈Hs,∀ q∈r,Pl.SzP S q) (hn:O.length≤100) (hnH:∀ r∈Hs,r.length≤100) (hm:Hs.length≤20) (hS:S≤1000) :
 Calls Tryz.prog 20 #[v] w fun e w'=>e=.returned (.int .i64 (errP O Hs))∧Below w.heap.size w w':=by
 obtain ⟨vo,vh,rfl,hvo,Lh,hvh,hrg⟩:=h;obtain ⟨Ah,ch,rfl,hch,hmh,hxh⟩:=hvh.open_;have HVO:=Lib.hid hvo;have HXH:=Lib.hid hxh;have HRG:=Lib.hid hrg;have HVH:=Lib.hid hvh;have hlh:Lh.length=Hs.length:=hrg.1;generalize hNh:Lh.length=Nh at *;have HNh:=Lib.hid hNh;have HLH:=Lib.hid hlh;have hbn:Nh≤20:=by omega
 clear hlh hvo hxh hrg hvh hNh;go_enter Tryz.func20,Tryz.ntmps20;have kK1:=fun W (hW:PV W vo O)=>cring_any _ O W hW hO (Nat.le_trans hn (by decide)) hS
 generalize hT3:Pg.errR O=e2 at kK1;have K1:=Lib.hid kK1;clear kK1;have HhT3:=Lib.hid hT3;clear hT3;go_wp2_with (fail)
 refine calls_named ?_;intro W1 hW1;have hL1:Below w.heap.size w W1:=by rw [hW1];exact bB
 have c4:Own W1 w.heap.size 0 [vo,.slice Ah Nh ch]:=by
  rw [hW1]
  first
  | (repeat (first|(with_reducible refine own_new (l:=[vo,.slice Ah Nh ch]) ?_;(simp;done))|with_reducible refine Own.alloc ?_ _|refine Own.far _ _ (by first|(simp;done)|(simp [*];done)|(simp;omega)) ?_));done
  | simp [Own,go_sem]
 have hB5:Below w.heap.size w W1:=by rw [hW1];exact bB
 clear hW1 hL1;with_reducible refine (K1.out _ (HVO.out.up hB5)).mono ?_
 rintro e w1 ⟨rfl,hb1⟩;have c6:=c4.up hb1;have hB7:Below w.heap.size w w1:=bel_up hB5 hb1;clear c4
 by_cases hc8:e2=0
 ·skip
  subst hc8;have uc6:=c6;simp only [At,Own,Nat.reduceAdd,and_true] at uc6
  by_cases hc9:(Nh:Int)<4
  ·skip
   have hc9_:¬ ((4:Int)≤Nh):=by omega
   have HF:Hid (errP O Hs=if errRs Hs=0 then chkH O [] Hs else errRs Hs):=Lib.hid (errP_go HhT3.out (by rw [← HLH.out];omega));go_wp2_with fail;go_loopw [24] (fun s24 wr=>∃ (k:Nat),s24=.int .i64 k∧Own wr w.heap.size 0 [vo,.slice Ah Nh ch]∧Below w.heap.size w wr∧k≤Nh∧Hid (errRs Hs=errRs (Hs.drop k))) (fun s24 _=>Nh-(intOf s24).toNat)
   case atStart=>exact ⟨0,rfl,c6,hB7,(by omega),Lib.hid rfl⟩
   case round =>
    clear c6 hB7 uc6;obtain ⟨k,rfl,b10,hB11,hk,HE⟩:=hrel;obtain ⟨wr12,hwr12⟩:∃ W_,W_=wr:=⟨_,rfl⟩
    subst hwr12
    by_cases hltk:k<Nh
    ·skip
     have i1k:(k:Int)<Nh:=by omega
     obtain ⟨xr13,rg13,hx13,hr13,hp13⟩:=HRG.out.get (i:=k) (by rw [HNh.out];omega);have HX13:=Lib.hid hx13;have HR13:=Lib.hid hr13;have HP13:=Lib.hid hp13;clear hx13 hr13 hp13;have HRr:=HR13.out;have HDR:Hid (Hs.drop k=rg13 :: Hs.drop (k+1)):=Lib.hid (Pl.drop_of HR13.out);obtain ⟨g15,o16,ha17,-⟩:=(HXH.out).up kpV hB11 _ _ HX13.out;subst ha17;have ce14:=LX.at_ ((HXH.out).up kpV hB11) HX13.out;have ce14_:g15<wr12.heap.size:=World.block_lt_of_cell? _ _ ce14.1;have uce14:=ce14;simp only [CVL,vlc,At,Nat.mul_one,Nat.reduceMul] at uce14;have kK18:=fun W (hW:PV W xr13 rg13)=>cring_any _ rg13 W hW (hH _ (List.mem_of_getElem? HR13.out)) (Nat.le_trans (hnH _ (List.mem_of_getElem? HR13.out)) (by decide)) hS
     generalize hT20:Pg.errR rg13=e19 at kK18;have K18:=Lib.hid kK18;clear kK18;have HhT20:=Lib.hid hT20;clear hT20;have ub10:=b10;simp only [At,Own,Nat.reduceAdd,and_true] at ub10;go_wp2_with (fail)
     refine calls_named ?_;intro W2 hW2;have hL2:Below wr12.heap.size wr12 W2:=by rw [hW2];exact bB
     have c21:=b10.up hL2;have hB22:Below w.heap.size w W2:=by rw [hW2];exact bB
     clear hW2 hL2 uce14 ub10 b10;with_reducible refine (K18.out _ (HP13.out.up hB22)).mono ?_
     rintro e w2 ⟨rfl,hb2⟩;have c23:=c21.up hb2;have hB24:Below w.heap.size w w2:=bel_up hB22 hb2;clear c21
     by_cases hc25:e19=0
     ·skip
      subst hc25;have uc23:=c23;simp only [At,Own,Nat.reduceAdd,and_true] at uc23;go_wp2;go_roundw
      case rel=>exact ⟨(k+1),(by first|rfl|exact congrArg (Value.int .i64) (by omega)|simp [*]),(by repeat (first|with_reducible exact c23|refine Own.far _ _ (by simp<;>omega) ?_|with_reducible refine Own.alloc ?_ _)),(by exact bB),(by omega),Lib.hid (by rw [HE.out,HDR.out,errRs_go HhT20.out])⟩
      case measure=>simp [intOf]<;>omega
     ·skip
      have hc25_:(((e19:Int))==0)=false:=by simpa using hc25
      have uc23:=c23;simp only [At,Own,Nat.reduceAdd,and_true] at uc23;go_wp2;go_ret;refine ⟨(by rw [HF.out,HE.out,HDR.out,errRs_no HhT20.out hc25,if_neg hc25]<;>rfl),?_⟩;exact bB
    ·skip
     have hkN:Nh=k:=by omega
     subst hkN;have HG:Hid (errP O Hs=chkH O [] Hs):=Lib.hid (by rw [HF.out,HE.out,List.drop_eq_nil_of_le (by rw [← HLH.out];exact Nat.le_refl _),errRs,if_pos rfl]);clear HF HE;have HF:=HG;have ub10:=b10;simp only [At,Own,Nat.reduceAdd,and_true] at ub10;go_wp2_with fail;go_loopw [37] (fun s37 wr=>∃ (k:Nat),s37=.int .i64 k∧Own wr w.heap.size 0 [vo,.slice Ah Nh ch]∧Below w.heap.size w wr∧k≤Nh∧Hid (errP O Hs=chkH O (Hs.take k) (Hs.drop k))) (fun s37 _=>Nh-(intOf s37).toNat)
     case atStart=>exact ⟨0,rfl,b10,hB11,(by omega),HF⟩
     case round =>
      clear b10 hB11 ub10;obtain ⟨k,rfl,b26,hB27,hk,HE⟩:=hrel;obtain ⟨wr28,hwr28⟩:∃ W_,W_=wr:=⟨_,rfl⟩
      subst hwr28
      by_cases hltk:k<Nh
      ·skip
       have i1k:(k:Int)<Nh:=by omega
       obtain ⟨xr29,rg29,hx29,hr29,hp29⟩:=HRG.out.get (i:=k) (by rw [HNh.out];omega);have HX29:=Lib.hid hx29;have HR29:=Lib.hid hr29;have HP29:=Lib.hid hp29;clear hx29 hr29 hp29;have HRr:=HR29.out;have HDR:Hid (Hs.drop k=rg29 :: Hs.drop (k+1)):=Lib.hid (Pl.drop_of HR29.out);obtain ⟨g31,o32,ha33,-⟩:=(HXH.out).up kpV hB27 _ _ HX29.out;subst ha33;have ce30:=LX.at_ ((HXH.out).up kpV hB27) HX29.out;have ce30_:g31<wr28.heap.size:=World.block_lt_of_cell? _ _ ce30.1;have uce30:=ce30;simp only [CVL,vlc,At,Nat.mul_one,Nat.reduceMul] at uce30;have kK34:=fun W (hA:PV W xr29 rg29) (hB:PV W vo O)=>inside_any _ rg29 _ O W hA hB (hH _ (List.mem_of_getElem? HR29.out)) hO (hnH _ (List.mem_of_getElem? HR29.out)) hn hS
       generalize hT36:insB rg29 O=b35 at kK34;have K34:=Lib.hid kK34;clear kK34;have HhT36:=Lib.hid hT36;clear hT36;cases b35
       ·skip
        go_wp2_with fail;refine wp_named ?_;intro W3 hW3;have hL3:Below wr28.heap.size wr28 W3:=by rw [hW3];exact bB
        have c37:=b26.up hL3;have hB38:Below w.heap.size w W3:=by rw [hW3];exact bB
        clear hW3 hL3 uce30 b26;have dc37:=fun p:Bel W3=>c37.bel p
        simp only [At,Own,Nat.reduceAdd,and_true] at dc37;refine wp_region_all (by kernel_rfl) (by kernel_rfl) ?_;repeat (go_big_quiet_step (first|(go_at_call 58;with_reducible exact Calls.bel (K34.out _ ((HP29.out.up hB38).up (Bel.h _)) ((HVO.out.up hB38).up (Bel.h _))))))
        refine wpQuiet_nil ?_;intro w3 hb3;have c39:=c37.up hb3;have hB40:Below w.heap.size w w3:=bel_up hB38 hb3;clear dc37 c37;have uc39:=c39;simp only [At,Own,Nat.reduceAdd,and_true] at uc39;go_wp2;go_ret;refine ⟨(by rw [HE.out,HDR.out,chkH_out (by unfold badO;rw [HhT36.out]<;>rfl)]<;>rfl),?_⟩;exact bB
       ·skip
        have K41:=Lib.hid (fun W (hW:PV W xr29 rg29)=>pedges_any _ rg29 W hW (hH _ (List.mem_of_getElem? HR29.out)) (Nat.le_trans (hnH _ (List.mem_of_getElem? HR29.out)) (by decide)) (Nat.le_trans hS (by decide)));have K42:=Lib.hid (fun W (hW:PV W vo O)=>pedges_any _ O W hW hO (Nat.le_trans hn (by decide)) (Nat.le_trans hS (by decide)));have kK43:=fun V_ U_ W (hA:SV W V_ (Pg.ringE rg29)) (hB:SV W U_ (Pg.ringE O))=>pmeet_any V_ (Pg.ringE rg29) U_ (Pg.ringE O) W hA hB (Pg.ringE_sz (hH _ (List.mem_of_getElem? HR29.out))) (Pg.ringE_sz hO) (by rw [Pg.ringE_len];exact Nat.le_trans (hnH _ (List.mem_of_getElem? HR29.out)) (by decide)) (by rw [Pg.ringE_len];exact Nat.le_trans hn (by decide)) hS
        generalize hT45:mtB (Pg.ringE rg29) (Pg.ringE O)=m44 at kK43;have K43:=Lib.hid kK43;clear kK43;have HhT45:=Lib.hid hT45;clear hT45;go_upto_region 16 with fail
        refine wp_named ?_;intro W4 hW4;have hL4:Below wr28.heap.size wr28 W4:=by rw [hW4];exact bB
        have c46:=b26.up hL4;have hB47:Below w.heap.size w W4:=by rw [hW4];exact bB
        clear hW4 hL4 uce30 b26;refine wp_region_chain3 12 (7,49) (10,52) (11,53) (fun v_ w_=>SV w_ v_ (Pg.ringE rg29)) (fun v_ u_ w_=>SV w_ v_ (Pg.ringE rg29)∧SV w_ u_ (Pg.ringE O)) (fun v_ u_ z_ w_=>z_=.bool m44) (by kernel_rfl) rfl rfl rfl (by kernel_rfl) (by simp) (fun _ _ _ h_ hb_=>h_.up hb_) (fun _ _ _ _ h_ hb_=>⟨h_.1.up hb_,h_.2.up hb_⟩) (fun _ _ _ _ _ h_ _=>h_) ?_;intro V_48 hV_48;have vc46:=c46.up hV_48;have dc46:=fun p:Bel V_48=>vc46.bel p
        simp only [At,Own,Nat.reduceAdd,and_true] at dc46;simp only [maskHL,maskH,List.any_cons,List.any_nil,Nat.reduceAdd,Nat.reduceBEq,Bool.or_false,Bool.false_or,Bool.or_self,Bool.false_eq_true,Bool.or_true,Bool.true_or,reduceIte,List.take_succ_cons,List.take_zero];repeat (go_big_quiet_step (first|(go_at_call 58;with_reducible exact Calls.bel (K34.out _ (((HP29.out.up hB47).up hV_48).up (Bel.h _)) (((HVO.out.up hB47).up hV_48).up (Bel.h _))))))
        refine wpQuiet_nil ?_;refine ⟨fun V1_ hV1_ => ?_,fun v_ V1_ hV1_ hf_ => ?_,fun v_ u_ V1_ hV1_ hf_ => ?_,?_⟩
        ·go_wp2_with (go_at_call 60;with_reducible refine (K41.out _ ((HP29.out.up hB47).up hV1_)).mono ?_;rintro e w2_ ⟨vv_,rfl,hvv_,hbq_⟩)
         all_goals first|exact ⟨vv_,rfl,rfl,hbq_,hvv_⟩|exact ⟨hbq_,hvv_⟩|exact hvv_
        ·simp only [Act.put,List.setIfInBounds_toArray,List.set_cons_zero,List.set_cons_succ]
         go_wp2_with (go_at_call 60;with_reducible refine (K42.out _ ((HVO.out.up hB47).up hV1_)).mono ?_;rintro e w2_ ⟨vv_,rfl,hvv_,hbq_⟩)
         all_goals first|exact ⟨vv_,rfl,rfl,hbq_,hf_.up hbq_,hvv_⟩|exact ⟨hbq_,hf_.up hbq_,hvv_⟩|exact ⟨hf_.up hbq_,hvv_⟩|exact hf_.up hbq_
        ·simp only [Act.put,List.setIfInBounds_toArray,List.set_cons_zero,List.set_cons_succ]
         go_wp2_with (go_at_call 59;with_reducible refine (K43.out _ _ _ hf_.1 hf_.2).mono ?_;rintro e w2_ ⟨rfl,hbq_⟩)
         all_goals first|exact ⟨_,rfl,rfl,hbq_,rfl⟩|exact ⟨hbq_,rfl⟩|exact hbq_|exact rfl
        intro vh_48 uh_48 zh_48 wn_48 hbn_48 hf_48;subst hf_48;clear dc46 vc46 hV_48 V_48;simp only [Act.put,List.setIfInBounds_toArray,List.set_cons_zero,List.set_cons_succ,List.drop_succ_cons,List.drop_zero];have c49:=c46.up hbn_48;have hB50:Below w.heap.size w wn_48:=bel_up hB47 hbn_48;clear c46;have uc49:=c49;simp only [At,Own,Nat.reduceAdd,and_true] at uc49;cases m44
        ·skip
         go_wp2_with fail;go_loopw [60] (fun s60 wr=>∃ (j:Nat),s60=.int .i64 j∧Own wr w.heap.size 0 [vo,.slice (some ⟨g31,o32,none⟩) Nh ch]∧Below w.heap.size w wr∧j≤k∧Hid ((Hs.take j).any (badG rg29)=false)) (fun s60 _=>k-(intOf s60).toNat)
         case atStart=>exact ⟨0,rfl,c49,hB50,(by omega),Lib.hid rfl⟩
         case round =>
          clear c49 hB50 uc49;obtain ⟨j,rfl,b51,hB52,hj,HI⟩:=hrel;obtain ⟨wr53,hwr53⟩:∃ W_,W_=wr:=⟨_,rfl⟩
          subst hwr53
          by_cases hltj:j<k
          ·skip
           have i1j:(j:Int)<k:=by omega
           obtain ⟨xr54,rg54,hx54,hr54,hp54⟩:=HRG.out.get (i:=j) (by rw [HNh.out];omega);have HX54:=Lib.hid hx54;have HR54:=Lib.hid hr54;have HP54:=Lib.hid hp54;clear hx54 hr54 hp54;have HRg:=HR54.out;have ce55:=LX.at_ ((HXH.out).up kpV hB52) HX54.out;have ce55_:g31<wr53.heap.size:=World.block_lt_of_cell? _ _ ce55.1;have uce55:=ce55;simp only [CVL,vlc,At,Nat.mul_one,Nat.reduceMul] at uce55;have kK56:=fun V_ U_ W (hA:SV W V_ (Pg.ringE rg29)) (hB:SV W U_ (Pg.ringE rg54))=>pmeet_any V_ (Pg.ringE rg29) U_ (Pg.ringE rg54) W hA hB (Pg.ringE_sz (hH _ (List.mem_of_getElem? HR29.out))) (Pg.ringE_sz (hH _ (List.mem_of_getElem? HR54.out))) (by rw [Pg.ringE_len];exact Nat.le_trans (hnH _ (List.mem_of_getElem? HR29.out)) (by decide)) (by rw [Pg.ringE_len];exact Nat.le_trans (hnH _ (List.mem_of_getElem? HR54.out)) (by decide)) hS
           generalize hT58:mtB (Pg.ringE rg29) (Pg.ringE rg54)=m57 at kK56;have K56:=Lib.hid kK56;clear kK56;have HhT58:=Lib.hid hT58;clear hT58;have kK59:=fun W (hA:PV W xr29 rg29) (hB:PV W xr54 rg54)=>some_any _ rg29 _ rg54 W hA hB (hH _ (List.mem_of_getElem? HR29.out)) (hH _ (List.mem_of_getElem? HR54.out)) (hnH _ (List.mem_of_getElem? HR29.out)) (hnH _ (List.mem_of_getElem? HR54.out)) hS
           generalize hT61:somB rg29 rg54=b60 at kK59;have K59:=Lib.hid kK59;clear kK59;have HhT61:=Lib.hid hT61;clear hT61;have kK62:=fun W (hA:PV W xr54 rg54) (hB:PV W xr29 rg29)=>some_any _ rg54 _ rg29 W hA hB (hH _ (List.mem_of_getElem? HR54.out)) (hH _ (List.mem_of_getElem? HR29.out)) (hnH _ (List.mem_of_getElem? HR54.out)) (hnH _ (List.mem_of_getElem? HR29.out)) hS
           generalize hT64:somB rg54 rg29=b63 at kK62;have K62:=Lib.hid kK62;clear kK62;have HhT64:=Lib.hid hT64;clear hT64;cases m57
           ·skip
            cases b60
            ·skip
             have K113:=Lib.hid (fun W (hW:PV W xr29 rg29)=>pedges_any _ rg29 W hW (hH _ (List.mem_of_getElem? HR29.out)) (Nat.le_trans (hnH _ (List.mem_of_getElem? HR29.out)) (by decide)) (Nat.le_trans hS (by decide)));have ub51:=b51;simp only [At,Own,Nat.reduceAdd,and_true] at ub51;go_wp2_with (fail)
             refine calls_named ?_;intro W12 hW12;have hL12:Below wr53.heap.size wr53 W12:=by rw [hW12];exact bB
             have c114:=b51.up hL12;have hB115:Below w.heap.size w W12:=by rw [hW12];exact bB
             clear hW12 hL12 uce55 ub51 b51;with_reducible refine (K113.out _ (HP29.out.up hB115)).mono ?_
             rintro e w12 ⟨v12,rfl,hv12,hb12⟩;have c116:=c114.up hb12;have hB117:Below w.heap.size w w12:=bel_up hB115 hb12;clear c114;have PW12:=Lib.hid hv12;clear hv12;have K118:=Lib.hid (fun W (hW:PV W xr54 rg54)=>pedges_any _ rg54 W hW (hH _ (List.mem_of_getElem? HR54.out)) (Nat.le_trans (hnH _ (List.mem_of_getElem? HR54.out)) (by decide)) (Nat.le_trans hS (by decide)));have uc116:=c116;simp only [At,Own,Nat.reduceAdd,and_true] at uc116;go_wp2_with (fail)
             refine calls_named ?_;intro W13 hW13;have hL13:Below w12.heap.size w12 W13:=by rw [hW13];exact bB
             have c119:=c116.up hL13;have hA120:=hL13;have hB121:Below w.heap.size w W13:=by rw [hW13];exact bB
             clear hW13 hL13 uc116 c116;with_reducible refine (K118.out _ (HP54.out.up hB121)).mono ?_
             rintro e w13 ⟨v13,rfl,hv13,hb13⟩;have c122:=c119.up hb13;have hA123:=bel_up hA120 hb13;have hB124:Below w.heap.size w w13:=bel_up hB121 hb13;clear c119 hA120;have PW13:=Lib.hid hv13;clear hv13;have uc122:=c122;simp only [At,Own,Nat.reduceAdd,and_true] at uc122;go_wp2_with (fail)
             refine calls_named ?_;intro W14 hW14;have hL14:Below w13.heap.size w13 W14:=by rw [hW14];exact bB
             have c125:=c122.up hL14;have hA126:=bel_up hA123 hL14;have hA127:=hL14;have hB128:Below w.heap.size w W14:=by rw [hW14];exact bB
             clear hW14 hL14 uc122 c122 hA123;with_reducible refine (K56.out _ _ _ (PW12.out.up hA126) (PW13.out.up hA127)).mono ?_
             rintro e w14 ⟨rfl,hb14⟩;have c129:=c125.up hb14;have hA130:=bel_up hA126 hb14;have hA131:=bel_up hA127 hb14;have hB132:Below w.heap.size w w14:=bel_up hB128 hb14;clear c125 hA126 hA127;have uc129:=c129;simp only [At,Own,Nat.reduceAdd,and_true] at uc129;go_wp2_with (fail)
             refine calls_named ?_;intro W15 hW15;have hL15:Below w14.heap.size w14 W15:=by rw [hW15];exact bB
             have c133:=c129.up hL15;have hA134:=bel_up hA130 hL15;have hA135:=bel_up hA131 hL15;have hB136:Below w.heap.size w W15:=by rw [hW15];exact bB
             clear hW15 hL15 uc129 c129 hA130 hA131;with_reducible refine (K59.out _ (HP29.out.up hB136) (HP54.out.up hB136)).mono ?_
             rintro e w15 ⟨rfl,hb15⟩;have c137:=c133.up hb15;have hA138:=bel_up hA134 hb15;have hA139:=bel_up hA135 hb15;have hB140:Below w.heap.size w w15:=bel_up hB136 hb15;clear c133 hA134 hA135;have uc137:=c137;simp only [At,Own,Nat.reduceAdd,and_true] at uc137;go_wp2_with (fail)
             refine calls_named ?_;intro W16 hW16;have hL16:Below w15.heap.size w15 W16:=by rw [hW16];exact bB
             have c141:=c137.up hL16;have hA142:=bel_up hA138 hL16;have hA143:=bel_up hA139 hL16;have hB144:Below w.heap.size w W16:=by rw [hW16];exact bB
             clear hW16 hL16 uc137 c137 hA138 hA139;with_reducible refine (K62.out _ (HP54.out.up hB144) (HP29.out.up hB144)).mono ?_
             rintro e w16 ⟨rfl,hb16⟩;have c145:=c141.up hb16;have hA146:=bel_up hA142 hb16;have hA147:=bel_up hA143 hb16;have hB148:Below w.heap.size w w16:=bel_up hB144 hb16;clear c141 hA142 hA143;cases b63
             ·skip
              have uc145:=c145;simp only [At,Own,Nat.reduceAdd,and_true] at uc145;go_wp2;go_roundw
              case rel=>exact ⟨(j+1),(by first|rfl|exact congrArg (Value.int .i64) (by omega)|simp [*]),(by repeat (first|with_reducible exact c145|refine Own.far _ _ (by simp<;>omega) ?_|with_reducible refine Own.alloc ?_ _)),(by exact bB),(by omega),Lib.hid (any_next HI.out HRg (by unfold badG;rw [HhT58.out,HhT61.out,HhT64.out]<;>rfl))⟩
              case measure=>simp [intOf]<;>omega
             ·skip
              have uc145:=c145;simp only [At,Own,Nat.reduceAdd,and_true] at uc145;go_wp2;go_ret;refine ⟨(by rw [HE.out,HDR.out,chkH_in (mem_take HRg (show j<k by omega)) (by unfold badG;rw [HhT58.out,HhT61.out,HhT64.out]<;>rfl)]<;>rfl),?_⟩;exact bB
            ·skip
             have K149:=Lib.hid (fun W (hW:PV W xr29 rg29)=>pedges_any _ rg29 W hW (hH _ (List.mem_of_getElem? HR29.out)) (Nat.le_trans (hnH _ (List.mem_of_getElem? HR29.out)) (by decide)) (Nat.le_trans hS (by decide)));have ub51:=b51;simp only [At,Own,Nat.reduceAdd,and_true] at ub51;go_wp2_with (fail)
             refine calls_named ?_;intro W17 hW17;have hL17:Below wr53.heap.size wr53 W17:=by rw [hW17];exact bB
             have c150:=b51.up hL17;have hB151:Below w.heap.size w W17:=by rw [hW17];exact bB
             clear hW17 hL17 uce55 ub51 b51;with_reducible refine (K149.out _ (HP29.out.up hB151)).mono ?_
             rintro e w17 ⟨v17,rfl,hv17,hb17⟩;have c152:=c150.up hb17;have hB153:Below w.heap.size w w17:=bel_up hB151 hb17;clear c150;have PW17:=Lib.hid hv17;clear hv17;have K154:=Lib.hid (fun W (hW:PV W xr54 rg54)=>pedges_any _ rg54 W hW (hH _ (List.mem_of_getElem? HR54.out)) (Nat.le_trans (hnH _ (List.mem_of_getElem? HR54.out)) (by decide)) (Nat.le_trans hS (by decide)));have uc152:=c152;simp only [At,Own,Nat.reduceAdd,and_true] at uc152;go_wp2_with (fail)
             refine calls_named ?_;intro W18 hW18;have hL18:Below w17.heap.size w17 W18:=by rw [hW18];exact bB
             have c155:=c152.up hL18;have hA156:=hL18;have hB157:Below w.heap.size w W18:=by rw [hW18];exact bB
             clear hW18 hL18 uc152 c152;with_reducible refine (K154.out _ (HP54.out.up hB157)).mono ?_
             rintro e w18 ⟨v18,rfl,hv18,hb18⟩;have c158:=c155.up hb18;have hA159:=bel_up hA156 hb18;have hB160:Below w.heap.size w w18:=bel_up hB157 hb18;clear c155 hA156;have PW18:=Lib.hid hv18;clear hv18;have uc158:=c158;simp only [At,Own,Nat.reduceAdd,and_true] at uc158;go_wp2_with (fail)
             refine calls_named ?_;intro W19 hW19;have hL19:Below w18.heap.size w18 W19:=by rw [hW19];exact bB
             have c161:=c158.up hL19;have hA162:=bel_up hA159 hL19;have hA163:=hL19;have hB164:Below w.heap.size w W19:=by rw [hW19];exact bB
             clear hW19 hL19 uc158 c158 hA159;with_reducible refine (K56.out _ _ _ (PW17.out.up hA162) (PW18.out.up hA163)).mono ?_
             rintro e w19 ⟨rfl,hb19⟩;have c165:=c161.up hb19;have hA166:=bel_up hA162 hb19;have hA167:=bel_up hA163 hb19;have hB168:Below w.heap.size w w19:=bel_up hB164 hb19;clear c161 hA162 hA163;have uc165:=c165;simp only [At,Own,Nat.reduceAdd,and_true] at uc165;go_wp2_with (fail)
             refine calls_named ?_;intro W20 hW20;have hL20:Below w19.heap.size w19 W20:=by rw [hW20];exact bB
             have c169:=c165.up hL20;have hA170:=bel_up hA166 hL20;have hA171:=bel_up hA167 hL20;have hB172:Below w.heap.size w W20:=by rw [hW20];exact bB
             clear hW20 hL20 uc165 c165 hA166 hA167;with_reducible refine (K59.out _ (HP29.out.up hB172) (HP54.out.up hB172)).mono ?_
             rintro e w20 ⟨rfl,hb20⟩;have c173:=c169.up hb20;have hA174:=bel_up hA170 hb20;have hA175:=bel_up hA171 hb20;have hB176:Below w.heap.size w w20:=bel_up hB172 hb20;clear c169 hA170 hA171;have uc173:=c173;simp only [At,Own,Nat.reduceAdd,and_true] at uc173;go_wp2;go_ret;refine ⟨(by rw [HE.out,HDR.out,chkH_in (mem_take HRg (show j<k by omega)) (by unfold badG;rw [HhT58.out,HhT61.out,HhT64.out]<;>rfl)]<;>rfl),?_⟩;exact bB
           ·skip
            have K177:=Lib.hid (fun W (hW:PV W xr29 rg29)=>pedges_any _ rg29 W hW (hH _ (List.mem_of_getElem? HR29.out)) (Nat.le_trans (hnH _ (List.mem_of_getElem? HR29.out)) (by decide)) (Nat.le_trans hS (by decide)));have ub51:=b51;simp only [At,Own,Nat.reduceAdd,and_true] at ub51;go_wp2_with (fail)
            refine calls_named ?_;intro W21 hW21;have hL21:Below wr53.heap.size wr53 W21:=by rw [hW21];exact bB
            have c178:=b51.up hL21;have hB179:Below w.heap.size w W21:=by rw [hW21];exact bB
            clear hW21 hL21 uce55 ub51 b51;with_reducible refine (K177.out _ (HP29.out.up hB179)).mono ?_
            rintro e w21 ⟨v21,rfl,hv21,hb21⟩;have c180:=c178.up hb21;have hB181:Below w.heap.size w w21:=bel_up hB179 hb21;clear c178;have PW21:=Lib.hid hv21;clear hv21;have K182:=Lib.hid (fun W (hW:PV W xr54 rg54)=>pedges_any _ rg54 W hW (hH _ (List.mem_of_getElem? HR54.out)) (Nat.le_trans (hnH _ (List.mem_of_getElem? HR54.out)) (by decide)) (Nat.le_trans hS (by decide)));have uc180:=c180;simp only [At,Own,Nat.reduceAdd,and_true] at uc180;go_wp2_with (fail)
            refine calls_named ?_;intro W22 hW22;have hL22:Below w21.heap.size w21 W22:=by rw [hW22];exact bB
            have c183:=c180.up hL22;have hA184:=hL22;have hB185:Below w.heap.size w W22:=by rw [hW22];exact bB
            clear hW22 hL22 uc180 c180;with_reducible refine (K182.out _ (HP54.out.up hB185)).mono ?_
            rintro e w22 ⟨v22,rfl,hv22,hb22⟩;have c186:=c183.up hb22;have hA187:=bel_up hA184 hb22;have hB188:Below w.heap.size w w22:=bel_up hB185 hb22;clear c183 hA184;have PW22:=Lib.hid hv22;clear hv22;have uc186:=c186;simp only [At,Own,Nat.reduceAdd,and_true] at uc186;go_wp2_with (fail)
            refine calls_named ?_;intro W23 hW23;have hL23:Below w22.heap.size w22 W23:=by rw [hW23];exact bB
            have c189:=c186.up hL23;have hA190:=bel_up hA187 hL23;have hA191:=hL23;have hB192:Below w.heap.size w W23:=by rw [hW23];exact bB
            clear hW23 hL23 uc186 c186 hA187;with_reducible refine (K56.out _ _ _ (PW21.out.up hA190) (PW22.out.up hA191)).mono ?_
            rintro e w23 ⟨rfl,hb23⟩;have c193:=c189.up hb23;have hA194:=bel_up hA190 hb23;have hA195:=bel_up hA191 hb23;have hB196:Below w.heap.size w w23:=bel_up hB192 hb23;clear c189 hA190 hA191;have uc193:=c193;simp only [At,Own,Nat.reduceAdd,and_true] at uc193;go_wp2;go_ret;refine ⟨(by rw [HE.out,HDR.out,chkH_in (mem_take HRg (show j<k by omega)) (by unfold badG;rw [HhT58.out,HhT61.out,HhT64.out]<;>rfl)]<;>rfl),?_⟩;exact bB
          ·skip
           have hkN:k=j:=by omega
           subst hkN;have ub51:=b51;simp only [At,Own,Nat.reduceAdd,and_true] at ub51;go_wp2;go_roundw
           case rel=>exact ⟨(k+1),(by first|rfl|exact congrArg (Value.int .i64) (by omega)|simp [*]),(by repeat (first|with_reducible exact b51|refine Own.far _ _ (by simp<;>omega) ?_|with_reducible refine Own.alloc ?_ _)),(by exact bB),(by omega),Lib.hid (by rw [HE.out,HDR.out,chkH_go (by unfold badO;rw [HhT36.out,HhT45.out]<;>rfl) HI.out,take_next HRr])⟩
           case measure=>simp [intOf]<;>omega
        ·skip
         go_wp2;go_ret;refine ⟨(by rw [HE.out,HDR.out,chkH_out (by unfold badO;rw [HhT36.out,HhT45.out]<;>rfl)]<;>rfl),?_⟩;exact bB
      ·skip
       have hkN:Nh=k:=by omega
       subst hkN;have ub26:=b26;simp only [At,Own,Nat.reduceAdd,and_true] at ub26;go_wp2;go_ret;refine ⟨(by rw [HE.out,List.drop_eq_nil_of_le (by rw [← HLH.out];exact Nat.le_refl _)]<;>rfl),?_⟩;exact bB
  ·skip
   have hc9_:((4:Int)≤Nh):=by omega
   go_wp2;go_ret;refine ⟨(by rw [errP_4 HhT3.out (by rw [← HLH.out];omega)]<;>rfl),?_⟩;exact bB
 ·skip
  have hc8_:(((e2:Int))==0)=false:=by simpa using hc8
  have uc6:=c6;simp only [At,Own,Nat.reduceAdd,and_true] at uc6;go_wp2;go_ret;refine ⟨(by rw [errP_o HhT3.out hc8]<;>rfl),?_⟩;exact bB
end Go.Proofs.YtiochgoocbkckaaGreatDoor
