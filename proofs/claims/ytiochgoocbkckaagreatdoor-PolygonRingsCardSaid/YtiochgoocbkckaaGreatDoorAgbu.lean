/-
 The reference: checks of canonical fractions.
 The reference for polygons: the first error of a ring.
 The law PolygonRings: the walk.
-/
import Derived.Test.YtiochgoocbkckaaGreatDoorAgao
import Derived.Test.YtiochgoocbkckaaGreatDoorAgbk
import Derived.Test.YtiochgoocbkckaaGreatDoorAgbh
import Derived.Test.YtiochgoocbkckaaGreatDoorAPu3
import Derived.Test.YtiochgoocbkckaaGreatDoorAgbp
import Derived.Test.YtiochgoocbkckaaGreatDoorAgav
set_option maxRecDepth 100000
set_option linter.unusedSimpArgs false
set_option linter.unusedVariables false
namespace Go.Proofs.YtiochgoocbkckaaGreatDoor
open Go Go.RowKit

theorem risint_zero (w:World):Calls Tryz.prog 106 #[.agg #[.bool false,.string ⟨#[]⟩]] w fun e w'=>e=.returned (.bool true)∧Below w.heap.size w w':=by
 go_enter Tryz.func106,Tryz.ntmps106;go_wp2;go_ret;refine ⟨rfl,?_⟩;repeat (first|with_reducible exact Below.refl _ _|with_reducible refine bel_alloc ?_ _)
theorem risint_some (s:Bool) (n:Nat) (hn:n≠0) (w:World):Calls Tryz.prog 106 #[.agg #[.bool s,.string (mg n)]] w fun e w'=>e=.returned (.bool true)∧Below w.heap.size w w':=by
 have h1:=mg_some hn;have h2:=mg_size n;have h3:1≤Pl.L n:=Pl.L_pos hn;have h4:∀ h:0<(mg n).size,((((mg n)[0]'h).toNat:Int) != 0)=true:=fun h=>by have:=mg_head hn h;simp;omega
 generalize mg n=x at *;go_enter Tryz.func106,Tryz.ntmps106;go_wp2;go_ret;refine ⟨rfl,?_⟩;repeat (first|with_reducible exact Below.refl _ _|with_reducible refine bel_alloc ?_ _)
theorem risint_any (z:Int) (w:World):Calls Tryz.prog 106 #[.agg #[.bool (ng z),.string (mg z.natAbs)]] w fun e w'=>e=.returned (.bool true)∧Below w.heap.size w w':=by
 by_cases h:z=0
 ·subst h;exact risint_zero w
 ·exact risint_some _ _ (by omega) w
theorem mg_no1 {d:Nat} (hd:2≤d):(mg d).toList≠[1]∧mg d≠⟨#[]⟩:=by
 have el:∀ n,(mg n).toList=Pl.magL n:=fun n=>by rw [← mg_data];exact ByteArray.toList_eq _
 have e0:(⟨#[]⟩:ByteArray)=mg 0:=by decide +kernel
 exact ⟨fun h=>by rw [el,show ([1]:List UInt8)=Pl.magL 1 by decide +kernel] at h;have:=Pl.magL_inj h;omega,fun h=>by rw [e0] at h;have:=mg_inj h;omega⟩
theorem rcheck_whole (z:Int) (w:World):Calls Tryz.prog 48 #[.agg #[.bool (ng z),.string (mg z.natAbs),.bool false,.string ⟨#[]⟩]] w fun e w'=>e=.returned (.bool true)∧Below w.heap.size w w':=by
 go_enter Tryz.func48,Tryz.ntmps48;have K1:=Lib.hid (fun W=>risint_any z W);have K2:=Lib.hid (fun W=>risint_zero W);go_wp2_with (fail)
 refine calls_named ?_;intro W1 hW1;have c2:Own W1 w.heap.size 0 [.bool (ng z),.string (mg z.natAbs),.bool false,.string ⟨#[]⟩]:=by rw [hW1];exact own_new rfl
 have hB3:Below w.heap.size w W1:=by rw [hW1];repeat (first|with_reducible exact Below.refl _ _|with_reducible refine bel_alloc ?_ _)
 clear hW1;with_reducible refine (K1.out _).mono ?_
 rintro e w1 ⟨rfl,hb1⟩;have c4:=c2.up hb1;have hB5:Below w.heap.size w w1:=bel_up hB3 hb1;clear c2;have uc4:=c4;simp only [At,Own,Nat.reduceAdd,and_true] at uc4;go_wp2_with (fail)
 refine calls_named ?_;intro W2 hW2;have hL2:Below w1.heap.size w1 W2:=by rw [hW2];repeat (first|with_reducible exact Below.refl _ _|with_reducible refine bel_alloc ?_ _)
 have c7:=c4.up hL2;have hB8:=bel_up hB5 hL2;clear hW2 hL2 uc4 c4;with_reducible refine (K2.out _).mono ?_
 rintro e w2 ⟨rfl,hb2⟩;have c9:=c7.up hb2;have hB10:Below w.heap.size w w2:=bel_up hB8 hb2;clear c7;have uc9:=c9;simp only [At,Own,Nat.reduceAdd,and_true] at uc9;go_wp2;go_ret;exact ⟨rfl,hB10⟩
theorem rcheck_frac (z:Int) (d:Nat) (w:World) (hd:2≤d) (hg:Nat.gcd z.natAbs d=1) (h1:Pl.L z.natAbs≤67108000) (h2:Pl.L d≤67108000):Calls Tryz.prog 48 #[.agg #[.bool (ng z),.string (mg z.natAbs),.bool false,.string (mg d)]] w fun e w'=>e=.returned (.bool true)∧Below w.heap.size w w':=by
 obtain ⟨n1,n0⟩:=mg_no1 hd;have hne:=mg_some (n:=d) (by omega);have hHG:=Lib.hid hg;go_enter Tryz.func48,Tryz.ntmps48;have K1:=Lib.hid (fun W=>risint_any z W);have K2:=Lib.hid (fun W=>risint_some false d (by omega) W);have K3:=Lib.hid (fun W=>rdigits_any (ng z) z.natAbs W (by omega));have K4:=Lib.hid (fun W=>rdigits_any false d W (by omega));have K5:=Lib.hid (fun va vb W (ha:DV W va z.natAbs) (hb:DV W vb d)=>rcommon_any va vb z.natAbs d W ha hb h1 h2);clear hg hd;go_wp2_with (fail)
 refine calls_named ?_;intro W1 hW1;have c2:Own W1 w.heap.size 0 [.bool (ng z),.string (mg z.natAbs),.bool false,.string (mg d)]:=by rw [hW1];exact own_new rfl
 have hB3:Below w.heap.size w W1:=by rw [hW1];repeat (first|with_reducible exact Below.refl _ _|with_reducible refine bel_alloc ?_ _)
 clear hW1;with_reducible refine (K1.out _).mono ?_
 rintro e w1 ⟨rfl,hb1⟩;have c4:=c2.up hb1;have hB5:Below w.heap.size w w1:=bel_up hB3 hb1;clear c2;have uc4:=c4;simp only [At,Own,Nat.reduceAdd,and_true] at uc4;go_wp2_with (fail)
 refine calls_named ?_;intro W2 hW2;have hL2:Below w1.heap.size w1 W2:=by rw [hW2];repeat (first|with_reducible exact Below.refl _ _|with_reducible refine bel_alloc ?_ _)
 have c7:=c4.up hL2;have hB8:=bel_up hB5 hL2;clear hW2 hL2 uc4 c4;with_reducible refine (K2.out _).mono ?_
 rintro e w2 ⟨rfl,hb2⟩;have c9:=c7.up hb2;have hB10:Below w.heap.size w w2:=bel_up hB8 hb2;clear c7;have uc9:=c9;simp only [At,Own,Nat.reduceAdd,and_true] at uc9;go_upto_region 5 with fail
 refine wp_named ?_;intro W3 hW3;have hL3:Below w2.heap.size w2 W3:=by rw [hW3];repeat (first|with_reducible exact Below.refl _ _|with_reducible refine bel_alloc ?_ _)
 have c11:=c9.up hL3;have hB12:=bel_up hB10 hL3;clear hW3 hL3 uc9 c9;refine wp_region_chain3 7 (2,25) (5,28) (6,29) (fun v_ w_=>DV w_ v_ z.natAbs) (fun v_ u_ w_=>DV w_ v_ z.natAbs∧DV w_ u_ d) (fun v_ u_ z_ w_=>DV w_ z_ 1) (by kernel_rfl) rfl rfl rfl (by kernel_rfl) (by simp) (fun _ _ _ h_ hb_=>h_.up hb_) (fun _ _ _ _ h_ hb_=>⟨h_.1.up hb_,h_.2.up hb_⟩) (fun _ _ _ _ _ h_ hb_=>h_.up hb_) ?_;intro V_1 hV_1;have vc11:=c11.up hV_1;have dc11:=fun p:Bel V_1=>vc11.bel p
 simp only [At,Own,Nat.reduceAdd,and_true] at dc11;simp only [maskHL,maskH,List.any_cons,List.any_nil,Nat.reduceAdd,Nat.reduceBEq,Bool.or_false,Bool.false_or,Bool.or_self,Bool.false_eq_true,Bool.or_true,Bool.true_or,reduceIte,List.take_succ_cons,List.take_zero];repeat (go_big_quiet_step (fail))
 refine wpQuiet_nil ?_;refine ⟨fun V1_ hV1_ => ?_,fun v_ V1_ hV1_ hf_ => ?_,fun v_ u_ V1_ hV1_ hf_ => ?_,?_⟩
 ·go_wp2_with (go_at_call 108;with_reducible refine (K3.out _).mono ?_;rintro e w2_ ⟨vv_,rfl,hvv_,hbq_⟩)
  all_goals first|exact ⟨vv_,rfl,rfl,hbq_,hvv_⟩|exact ⟨hbq_,hvv_⟩|exact hvv_
 ·simp only [Act.put,List.setIfInBounds_toArray,List.set_cons_zero,List.set_cons_succ]
  go_wp2_with (go_at_call 108;with_reducible refine (K4.out _).mono ?_;rintro e w2_ ⟨vv_,rfl,hvv_,hbq_⟩)
  all_goals first|exact ⟨vv_,rfl,rfl,hbq_,hf_.up hbq_,hvv_⟩|exact ⟨hbq_,hf_.up hbq_,hvv_⟩|exact ⟨hf_.up hbq_,hvv_⟩|exact hf_.up hbq_
 ·simp only [Act.put,List.setIfInBounds_toArray,List.set_cons_zero,List.set_cons_succ]
  go_wp2_with (go_at_call 107;with_reducible refine (K5.out _ _ _ hf_.1 hf_.2).mono ?_;rintro e w2_ ⟨vv_,rfl,hvv_,hbq_⟩;rw [hHG.out] at hvv_)
  all_goals first|exact ⟨vv_,rfl,rfl,hbq_,hvv_⟩|exact ⟨hbq_,hvv_⟩|exact hvv_
 intro vh uh zh wn hbn hf;clear dc11 vc11 hV_1 V_1;simp only [Act.put,List.setIfInBounds_toArray,List.set_cons_zero,List.set_cons_succ,List.drop_succ_cons,List.drop_zero];have c13:=c11.up hbn;have hB14:=bel_up hB12 hbn;clear c11;have uc13:=c13;simp only [At,Own,Nat.reduceAdd,and_true] at uc13;obtain ⟨g,o,cc,hz,-,-,hgs,hcell⟩:=dv_some hf (by decide);rw [show Pl.L 1=1 from by decide] at hz hcell;subst hz;have hc0:=hcell 0 (by decide);simp only [Nat.add_zero,Nat.pow_zero,Nat.div_one] at hc0;have hc1:wn.cell? ⟨g,o,none⟩=some (.int .i64 1):=hc0;clear hcell hc0;go_wp2;go_ret
 all_goals first|exact ⟨rfl,hB14⟩|exact ⟨by simp [n1],hB14⟩
theorem rcheck_any (q:Rat) (w:World) (h:Pl.Sz 16777216 q):Calls Tryz.prog 48 #[qv q] w fun e w'=>e=.returned (.bool true)∧Below w.heap.size w w':=by
 by_cases hd:q.den=1
 ·have e:dn q=0:=by unfold dn;rw [if_pos hd]
  have:=rcheck_whole q.num w;rw [← mg_zero,← e] at this;exact this
 ·have e:dn q=q.den:=by unfold dn;rw [if_neg hd]
  have:=rcheck_frac q.num q.den w (by have:=q.den_nz;omega) q.reduced (Nat.le_trans h.1 (by decide)) (Nat.le_trans h.2 (by decide));rw [← e] at this;exact this
end Go.Proofs.YtiochgoocbkckaaGreatDoor

namespace Go.Proofs.YtiochgoocbkckaaGreatDoor
open Go Go.RowKit

set_option maxHeartbeats 1000000 in
theorem rcring_any {S:Nat} (v:Value) (l:List (Rat×Rat)) (w:World) (h:PV w v l) (hs:∀ q∈l,Pl.SzP S q) (hn:l.length≤1000) (hS:S≤1000) :
 Calls Tryz.prog 18 #[v] w fun e w'=>e=.returned (.int .i64 (Pg.errR l))∧Below w.heap.size w w':=by
 obtain ⟨A,c,rfl,hc,hm,hx⟩:=h.open_;have HV:=Lib.hid h;have HX:=Lib.hid hx;have HS:=Lib.hid hs;have HF:Hid (l.take l.length=l):=Lib.hid List.take_length;generalize hN:l.length=N at *;have HN:=Lib.hid hN;clear h hx hs hN;go_enter Tryz.func18,Tryz.ntmps18;go_wp2_with fail;go_loopw [3] (fun s3 wr=>∃ (k:Nat),s3=.int .i64 k∧Below w.heap.size w wr∧k≤N) (fun s3 _=>N-(intOf s3).toNat)
 case atStart=>exact ⟨0,rfl,Below.refl _ _,(by omega)⟩
 case round =>
  obtain ⟨k,rfl,hB1,hk⟩:=hrel;obtain ⟨wr2,hwr2⟩:∃ W_,W_=wr:=⟨_,rfl⟩
  subst hwr2
  by_cases hltk:k<N
  ·skip
   have i1k:(k:Int)<N:=by omega
   obtain ⟨x3,hx4⟩:∃ x,l[k]?=some x:=⟨_,List.getElem?_eq_getElem (by rw [HN.out];omega)⟩
   have Hhx4:=Lib.hid hx4;have Zhx4:=Lib.hid (HS.out _ (List.mem_of_getElem? hx4));clear hx4;obtain ⟨g6,o7,ha8,-⟩:=(HX.out).up kpP hB1 _ _ Hhx4.out;subst ha8;have ce5:=LX.at_ ((HX.out).up kpP hB1) Hhx4.out;have ce5_:g6<wr2.heap.size:=World.block_lt_of_cell? _ _ ce5.1;have uce5:=ce5;simp only [CE,Nat.reduceMul] at uce5;have K9:=Lib.hid (fun W=>rcheck_any x3.1 W (Zhx4.out.1.mono (by omega)));go_wp2_with (fail)
   refine calls_named ?_;intro W1 hW1;have hL1:Below wr2.heap.size wr2 W1:=by rw [hW1];exact bB
   have hB10:Below w.heap.size w W1:=by rw [hW1];exact bB
   clear hW1 hL1 uce5;with_reducible refine (K9.out _).mono ?_
   rintro e w1 ⟨rfl,hb1⟩;have hB11:Below w.heap.size w w1:=bel_up hB10 hb1;have ce12:=LX.at_ ((HX.out).up kpP hB11) Hhx4.out;have ce12_:g6<w1.heap.size:=World.block_lt_of_cell? _ _ ce12.1;have uce12:=ce12;simp only [CE,Nat.reduceMul] at uce12;have K13:=Lib.hid (fun W=>rcheck_any x3.2 W (Zhx4.out.2.mono (by omega)));go_wp2_with (fail)
   refine calls_named ?_;intro W2 hW2;have hL2:Below w1.heap.size w1 W2:=by rw [hW2];exact bB
   have hB14:Below w.heap.size w W2:=by rw [hW2];exact bB
   clear hW2 hL2 uce12;with_reducible refine (K13.out _).mono ?_
   rintro e w2 ⟨rfl,hb2⟩;have hB15:Below w.heap.size w w2:=bel_up hB14 hb2;go_wp2;go_roundw
   case rel=>exact ⟨(k+1),(by first|rfl|exact congrArg (Value.int .i64) (by omega)|simp [*]),(by exact bB),(by omega)⟩
   case measure=>simp [intOf]<;>omega
  ·skip
   have hkN:N=k:=by omega
   subst hkN
   by_cases hc16:(12:Int)<N
   ·skip
    have hc16_:¬ ((N:Int)≤12):=by omega
    go_wp2;go_ret;refine ⟨(by rw [Pg.errR_ref,HN.out,if_pos (by omega)]<;>rfl),?_⟩;exact bB
   ·skip
    have hc16_:((N:Int)≤12):=by omega
    have kK17:=fun W (hW:PV W (.slice A N c) l)=>rsimple_any _ l W hW HS.out (by rw [HN.out];omega) hS
    generalize hT19:Pg.simB Pg.badR l=b18 at kK17;have K17:=Lib.hid kK17;clear kK17;have HhT19:=Lib.hid hT19;clear hT19;go_wp2_with (fail)
    refine calls_named ?_;intro W3 hW3;have hL3:Below wr2.heap.size wr2 W3:=by rw [hW3];exact bB
    have hB20:Below w.heap.size w W3:=by rw [hW3];exact bB
    clear hW3 hL3;with_reducible refine (K17.out _ (HV.out.up hB20)).mono ?_
    rintro e w3 ⟨rfl,hb3⟩;have hB21:Below w.heap.size w w3:=bel_up hB20 hb3;cases b18
    ·skip
     go_wp2;go_ret;refine ⟨(by rw [Pg.errR_ref,HN.out,if_neg (by omega),HhT19.out,if_neg (by decide)]<;>rfl),?_⟩;exact bB
    ·skip
     go_wp2;go_ret;refine ⟨(by rw [Pg.errR_ref,HN.out,if_neg (by omega),HhT19.out,if_pos rfl]<;>rfl),?_⟩;exact bB
end Go.Proofs.YtiochgoocbkckaaGreatDoor

namespace Go.Proofs.YtiochgoocbkckaaGreatDoor
open Go Go.RowKit

theorem lrings_any (v:Value) (l:List (Int×Int×Bool)) (w:World) (h:TV w v l) (hs:∀ s∈l,In8 s) (hn:l.length≤9223372036854775807) :
 Calls Tryz.prog 3 #[v] w fun e w'=>e=.returned (.bool true)∧Below w.heap.size w w':=by
 obtain ⟨z,hz⟩:∃ z,Pg.errR (ptsOf l)=z:=⟨_,rfl⟩
 have HZ:=Lib.hid hz;clear hz;go_enter Tryz.func3,Tryz.ntmps3;have K1:=Lib.hid (fun W hb=>points_any v l W (h.up hb) hs hn);go_wp2_with (fail)
 refine calls_named ?_;intro W1 hW1;have hL1:Below w.heap.size w W1:=by rw [hW1];exact bB
 have hB2:Below w.heap.size w W1:=by rw [hW1];exact bB
 clear hW1 hL1;with_reducible refine (K1.out _ hB2).mono ?_
 rintro e w1 ⟨v1,rfl,hv1,hb1⟩;have hB3:Below w.heap.size w w1:=bel_up hB2 hb1;have PW1:=Lib.hid hv1;clear hv1;have K4:=Lib.hid (fun W=>known_any W);go_wp2_with (fail)
 refine calls_named ?_;intro W2 hW2;have hL2:Below w1.heap.size w1 W2:=by rw [hW2];exact bB
 have hA5:=hL2;have hB6:Below w.heap.size w W2:=by rw [hW2];exact bB
 clear hW2 hL2;with_reducible refine (K4.out _).mono ?_
 rintro e w2 ⟨rfl,hb2⟩;have hA7:=bel_up hA5 hb2;have hB8:Below w.heap.size w w2:=bel_up hB6 hb2;clear hA5;have K9:=Lib.hid (fun vp W (hp:PV W vp (ptsOf l))=>HZ.out▸cring_any (S:=1) vp (ptsOf l) W hp (ptsOf_sz hs) (Nat.le_trans (ptsOf_len l) (by decide)) (by decide));go_wp2_with (fail)
 refine calls_named ?_;intro W3 hW3;have hL3:Below w2.heap.size w2 W3:=by rw [hW3];exact bB
 have hA10:=bel_up hA7 hL3;have hB11:Below w.heap.size w W3:=by rw [hW3];exact bB
 clear hW3 hL3 hA7;with_reducible refine (K9.out _ _ (PW1.out.up hA10)).mono ?_
 rintro e w3 ⟨rfl,hb3⟩;have hA12:=bel_up hA10 hb3;have hB13:Below w.heap.size w w3:=bel_up hB11 hb3;clear hA10;have K14:=Lib.hid (fun vp W (hp:PV W vp (ptsOf l))=>HZ.out▸rcring_any (S:=1) vp (ptsOf l) W hp (ptsOf_sz hs) (Nat.le_trans (ptsOf_len l) (by decide)) (by decide));go_wp2_with (fail)
 refine calls_named ?_;intro W4 hW4;have hL4:Below w3.heap.size w3 W4:=by rw [hW4];exact bB
 have hA15:=bel_up hA12 hL4;have hB16:Below w.heap.size w W4:=by rw [hW4];exact bB
 clear hW4 hL4 hA12;with_reducible refine (K14.out _ _ (PW1.out.up hA15)).mono ?_
 rintro e w4 ⟨rfl,hb4⟩;have hA17:=bel_up hA15 hb4;have hB18:Below w.heap.size w w4:=bel_up hB16 hb4;clear hA15;go_wp2;go_ret;refine ⟨rfl,?_⟩;exact bB
end Go.Proofs.YtiochgoocbkckaaGreatDoor
