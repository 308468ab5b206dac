/-
 Contracts of the reference for fractions: long division of digits.
-/
import Derived.Test.YtiochgoocbkckaaGreatDoorAgap
import Derived.Deep.LoopGhost
import Derived.BigRegion
set_option maxRecDepth 100000
set_option linter.unusedSimpArgs false
set_option linter.unusedVariables false
namespace Go.Proofs.YtiochgoocbkckaaGreatDoor
open Go Go.RowKit Go.Shelf

theorem ints_one (l:List Nat):∀ u∈ints l,u.oneCell'=true:=by
 intro u hu;simp only [ints,List.mem_map] at hu;obtain ⟨d,_,rfl⟩:=hu;rfl
theorem vB_cons_dL (x R:Nat):Pl.vB 256 (x :: dL R)=R*256+x:=by rw [Pl.vB_cons,vB_dL];omega
theorem far_of {w:World} {v:Value} {n:Nat} (h:DV w v n) (h0:n≠0) {g:Nat} (hg:w.heap.size≤g):Far g v:=by
 obtain ⟨g',o,c,rfl,_,_,hl,_⟩:=dv_some h h0;intro a m c' hv;injection hv with e1 e2 e3
 injection e1 with e1
 rw [← e1];show g'≠g;omega
theorem qrow_start (N Q k:Nat) (h0:0<k) (hk:k≤N):(qrow N Q k).set (k-1) 0=qrow N Q k:=by
 apply List.ext_getElem?;intro j;rcases Nat.lt_or_ge j N with hj|hj
 ·rw [List.getElem?_set,qrow_length,qrow_get _ _ _ _ hj]
  by_cases h1:k-1=j
  ·rw [if_pos h1,if_pos (by omega),if_neg (by omega)]
  ·rw [if_neg h1]
 ·rw [List.getElem?_eq_none (by rw [List.length_set,qrow_length];exact hj),List.getElem?_eq_none (by rw [qrow_length];exact hj)]
theorem set_set (l:List Nat) (i x y:Nat):(l.set i x).set i y=l.set i y:=List.set_set ..
theorem L_top {b x N:Nat} (hb:Pl.L b≤N) (h:x<256*b):Pl.L x≤N+2:=by
 have h1:=Pl.L_mono (Nat.le_of_lt h);have h2:=Pl.L_mul 256 b;have h3:Pl.L 256=2:=by decide
 omega

theorem blk_put_sum {W:World} {g i t s:Nat} {T:TypeId} {l:List Nat} (h:Blk W g T (ints (l.set i t))):Blk (W.setCell ⟨g,i,none⟩ (.int .i64 ((t:Int)+s))) g T (ints (l.set i (t+s))):=by
 have:=h.put i (.int .i64 ((t+s:Nat):Int));rw [ints_set,set_set,Int.natCast_add] at this;exact this
set_option maxHeartbeats 12000000 in
theorem rdiv_long (va vb:Value) (a b:Nat) (w:World) (ha:DV w va a) (hb:DV w vb b) (hl:7<Pl.L a∨7<Pl.L b) (hab:b≤a) (h0:b≠0) (hla:Pl.L a≤67108000) :
 Calls Tryz.prog 138 #[va,vb] w fun e w'=>∃ q r,e=.returned (.tuple #[q,r])∧DV w' q (a/b)∧DV w' r (a%b)∧Below w.heap.size w w':=by
 have K1:=Lib.hid (rsmall_long va a w ha);have K1s:=Lib.hid (rsmall_short va a w ha);have K2:=Lib.hid (rsmall_long vb b w hb);have K2e:=Lib.hid (rsmall_ex vb b w hb);obtain ⟨z,hz,hz0⟩:∃ z:Int,cmpZ a b=z∧¬ z<0:=⟨_,rfl,by unfold cmpZ;rw [if_neg (by omega)];split<;>omega⟩
 have kc:=rcmp_any va vb a b w ha hb (by omega);rw [hz] at kc;have KC:=Lib.hid kc;obtain ⟨A,c,rfl⟩:=dv_form ha;have HB:=Lib.hid hb;have HXA:=Lib.hid (fun k h=>@dv_at w A a c _ k ha h);have HAL:=Lib.hid (Pl.lt_L a);have hblb:Pl.L b≤Pl.L a:=Pl.L_mono hab;have HLT:=Lib.hid (fun x hx=>@L_top b x (Pl.L a) hblb hx);have hmk:=make_ints (Pl.L a) (Pl.L a) rfl (by omega);have HMK:=Lib.hid hmk;have HB0:=Lib.hid (Nat.pos_of_ne_zero h0);have HQD:=Lib.hid (fun k hk t h1 h2=>quo_digit a b k (Nat.pos_of_ne_zero h0) hk t h1 h2);have HQT:=Lib.hid (fun k=>quo_top a b k (Nat.pos_of_ne_zero h0));have HFB:=Lib.hid (fun g hg=>@far_of w vb b hb h0 g hg);have h7:7<Pl.L a:=by omega
 clear kc ha hb hz hmk h0 hl;generalize Pl.L a=N at *;generalize Pl.L b=M at *
 ·go_enter Tryz.func138,Tryz.ntmps138
  go_wp2_with fail;with_reducible refine (K1.out h7).mono ?_
  rintro e w1 ⟨rfl,rfl⟩;go_wp2_with fail;with_reducible refine K2e.out.mono ?_
  rintro e w1 ⟨⟨x,f,rfl⟩,rfl⟩;go_wp2_with fail;with_reducible refine KC.out.mono ?_
  rintro e w1 ⟨rfl,hb1⟩;have hmk:=HMK.out;go_wp2_with fail;clear hmk;go_loopw [5,10] (fun v i wr=>∃ k:Nat,k≤N∧i=.int .i64 ((k:Int)-1)∧DV wr v (a/256 ^ k%b)∧Blk wr w1.heap.size 3 (ints (qrow N (a/b) k))∧Below w1.heap.size w1 wr) (fun _ i _=>(intOf i+1).toNat)
  case atStart=>exact ⟨N,Nat.le_refl _,rfl,by rw [Nat.div_eq_of_lt HAL.out,Nat.zero_mod];exact dv_nil _,by rw [qrow_full];exact Blk.new _ _ _,(Below.refl _ _).alloc (Nat.le_refl _) _⟩
  case round =>
   obtain ⟨k,hk,rfl,hv,hq,hbl⟩:=hrel
   by_cases hk0:k=0
   ·subst hk0
    rw [Nat.pow_zero,Nat.div_one] at hv;rw [qrow_zero] at hq;have hS:Sl wr (.slice (some ⟨w1.heap.size,0,none⟩) N N) N 1 (ints (Pl.dg 256 N (a/b))):=⟨by rw [ints_length,Pl.dg_length,Nat.mul_one],.inr ⟨_,0,_,rfl,Nat.le_refl _,by unfold maxLen;omega,fun j u hj=>by rw [Nat.zero_add,hq.cell];exact hj⟩⟩
    have hR:=rtrim_any _ N (Pl.dg 256 N (a/b)) wr hS (Pl.dg_lt (by omega)) (by omega);rw [Pl.vB_dg,Nat.mod_eq_of_lt (Nat.lt_of_le_of_lt (Nat.div_le_self _ _) HAL.out)] at hR;have HR:=Lib.hid hR;have HV:=Lib.hid hv;clear hR hS hv;go_wp2_with fail;refine HR.out.mono ?_;rintro e w3 ⟨⟨vq,rfl,hvq,_⟩,rfl⟩;go_wp2;go_ret2;exact ⟨_,_,rfl,hvq,HV.out,bel_up hb1 hbl⟩
   ·obtain ⟨g,o,rfl,hg,hx⟩:=HXA.out (k-1) (by omega)
    have hw1:=hb1.size;have hxc:=(bel_up hb1 hbl).cell (p:=⟨g,o+(k-1),none⟩) (by exact hg) |>.trans hx;have hqd:=HQD.out k (by omega);have hqt:=HQT.out k;have hx1:a/256 ^ (k-1)%256<256:=Nat.mod_lt _ (by omega);have hRl:Pl.L (a/256 ^ k%b)≤N+2:=HLT.out _ (by have:=Nat.mod_lt (a/256 ^ k) HB0.out;omega);have HNXT:Hid (∀ t,t=a/b/256 ^ (k-1)%256→(qrow N (a/b) k).set (k-1) t=qrow N (a/b) (k-1)):=Lib.hid (fun t ht=>by rw [ht];exact qrow_set _ _ _ (by omega) hk);have HQS:=Lib.hid (qrow_start N (a/b) k (by omega) hk);have HQG:=Lib.hid (fun t=>qrow_same N (a/b) k t (by omega) hk);have HQN:=Lib.hid (qrow_length N (a/b) k);clear hx;generalize a/256 ^ (k-1)%256=x at *;generalize a/256 ^ k%b=R at *;have HQ1:=Lib.hid hqd;have HQ2:=Lib.hid hqt;clear hqd hqt;have i1:(0:Int)≤(k:Int)-1:=by omega
    have i2:(k:Int)-1<N:=by omega
    have i3:((k:Int)-1).toNat=k-1:=by omega
    have i4:(1:Int)≤k:=by omega
    have HV:=Lib.hid hv;clear hv;go_wp2_with (at_builtin;refine wpList_appS rfl _ _ _ rfl ti_int (base:=wr.heap.size) (w0:=wr) (World.ownsRow_lit wr #[.int .i64 (x:Int)] 1 (Nat.le_refl _) (by decide) rfl) ((Below.refl _ _).alloc (Nat.le_refl _) _) (by simp) rfl rfl (Sl.up HV.out ((Below.refl _ _).alloc (Nat.le_refl _) _)) (ints_one _) (by omega) (by decide) ?_)
    intro v' w2 hown hb2 _ _;have hR0:R*256+x<256*b:=HQ2.out
    have HTR:=Lib.hid (rtrim_any v' (1+Pl.L R) (x :: dL R) w2 (Sl.of_own hown) (fun d hd=>by
     rcases List.mem_cons.1 hd with rfl|hd
     ·exact hx1
     ·exact dL_lt R d hd) (by omega))
    rw [vB_cons_dL] at HTR;have HFO:=Lib.hid (fresh_own hown);generalize R*256+x=r0 at *;have hb3:Below w1.heap.size w1 w2:=hbl.trans (hb2.mono hbl.size);have hq3:Blk w2 w1.heap.size 3 (ints (qrow N (a/b) k)):=hq.below hb2 hq.lt;have hfar:w1.heap.size<wr.heap.size:=hq.lt;clear hown hb2 hq hbl hxc HV;go_wp2_with fail;refine HTR.out.mono ?_;rintro e w3 ⟨⟨vr,rfl,hvr,hfr⟩,rfl⟩;have hfr0:Far w1.heap.size vr:=(hfr _ HFO.out).far hfar;clear hfr HTR HFO;go_wp2_with fail;go_loopg [5] 256 (fun gk v wx=>∃ t:Nat,gk=256-t∧t≤255∧t*b≤r0∧DV wx v (r0-t*b)∧Far w1.heap.size v∧Blk wx w1.heap.size 3 (ints ((qrow N (a/b) k).set (k-1) t))∧Below w1.heap.size w1 wx)
    case atStart=>exact ⟨0,rfl,by omega,by omega,by rw [Nat.zero_mul];exact hvr,hfr0,by rw [HQS.out];exact hq3,hb3⟩
    case round =>
     obtain ⟨t,rfl,ht,htb,hv,hfv,hqt,hbx⟩:=hrel;clear hvr hfr0 hq3 hb3;have HBx:DV wr vb b:=HB.out.up (bel_up hb1 hbx)
     by_cases hge:b≤r0-t*b
     ·have ht2:t<255:=by
       rcases Nat.lt_or_ge t 255 with h|h
       ·exact h
       ·have h1:255*b≤t*b:=Nat.mul_le_mul_right b h
        omega
      obtain ⟨z2,hz2,hz20⟩:∃ z2:Int,cmpZ ((r0-t*b:Nat):Int) (b:Int)=z2∧0≤z2:=⟨_,rfl,by unfold cmpZ;rw [if_neg (by omega)];split<;>omega⟩
      have hrl:Pl.L (r0-t*b)≤N+2:=HLT.out (r0-t*b) (by omega);have kc:=rcmp_any _ vb (r0-t*b) b wr hv HBx (by omega);rw [hz2] at kc;have KC2:=Lib.hid kc;have hqc:=HQG.out t;have HVV:=Lib.hid hv
      have HTB:Hid (∀ s,s*b≤r0-t*b→(t+s)*b≤r0∧r0-(t+s)*b=r0-t*b-s*b∧t+s≤255):=Lib.hid (fun s hs=>by
       rw [Nat.add_mul];refine ⟨by omega,by omega,?_⟩;rcases Nat.lt_or_ge (t+s) 256 with h|h
       ·omega
       ·have h1:256*b≤(t+s)*b:=Nat.mul_le_mul_right b h
        rw [Nat.add_mul] at h1;omega)
      have hbb:0<b:=HB0.out;have hqx:=hqt.cell (k-1);rw [ints_get,hqc] at hqx;simp only [Option.map_some] at hqx;have htz:(t:Int)<255:=by omega
      clear kc hz2 hv;generalize hrr:r0-t*b=rr at *;go_wp2_with fail;with_reducible refine KC2.out.mono ?_
      rintro e w4 ⟨rfl,hb4⟩;have hqx4:w4.cell? _=_:=Bel.cell hqx ⟨w4,hb4⟩;have hV4:=HVV.out.up hb4;have hB4:=HBx.up hb4;have hq4:=hqt.up hb4;have hbx4:=bel_up hbx hb4;clear hqx hqt hbx HBx;go_wp2_with fail;go_loopw [11,12] (fun st pt wr=>∃ s:Nat,st=.int .i64 s∧1≤s∧s≤128∧s*b≤rr∧DV wr pt (s*b)∧Far w1.heap.size pt∧Below w4.heap.size w4 wr) (fun st _ _=>256-(intOf st).toNat)
      case atStart=>exact ⟨1,rfl,Nat.le_refl _,by omega,by rw [Nat.one_mul];exact hge,by rw [Nat.one_mul];exact hB4,HFB.out _ hw1,Below.refl _ _⟩
      case round =>
       obtain ⟨s,rfl,hs1,hs2,hsr,hp,hfp,hb5⟩:=hrel;have hrl2:Pl.L (s*b)≤N+2:=Nat.le_trans (Pl.L_mono hsr) hrl
       by_cases h2:2*s≤128
       ·have h2':2*(s:Int)≤128:=by omega
        have HP1:=Lib.hid (fun W hW=>rplus_any u12 u12 (s*b) (s*b) W hW hW (by omega) (by omega));have HP2:=Lib.hid hp;have HV4:=Lib.hid (hV4.up hb5);have e2:s*b+s*b=2*s*b:=by rw [Nat.mul_assoc];omega
        have HE2:=Lib.hid e2;clear e2 hp;go_wp2_with fail;with_reducible refine (HP1.out _ HP2.out).mono ?_
        rintro e w6 ⟨v6,rfl,hv6,hb6,hf6⟩;have hrl3:Pl.L (s*b+s*b)≤N+3:=by have:=Pl.L_add (s*b) (s*b);omega
        by_cases h3:s*b+s*b≤rr
        ·obtain ⟨z3,hz3,hz30⟩:∃ z3:Int,cmpZ ((s*b+s*b:Nat):Int) (rr:Int)=z3∧z3≤0:=⟨_,rfl,by unfold cmpZ;split;(omega);split<;>omega⟩
         have kc:=rcmp_any v6 u5 (s*b+s*b) rr w6 hv6 (HV4.out.up hb6) (by omega);rw [hz3] at kc;have KC3:=Lib.hid kc;clear kc hz3 hv6;go_wp2_with fail;with_reducible refine KC3.out.mono ?_
         rintro e w7 ⟨rfl,hb7⟩;have hp7:=(HP2.out.up hb6).up hb7;go_wp2_with fail;with_reducible refine (HP1.out _ hp7).mono ?_
         rintro e w8 ⟨v8,rfl,hv8,hb8,hf8⟩;have hb58:=bel_up (bel_up (bel_up hb5 hb6) hb7) hb8;rw [HE2.out] at hv8 h3;have hfar8:Far w1.heap.size v8:=hf8.far (by have:=hb5.size;have:=hb6.size;have:=hb7.size;have:=hq4.lt;omega);clear hp7 KC3;go_wp2;go_roundw
         case rel=>exact ⟨2*s,by go_num,by omega,h2,h3,hv8,hfar8,hb58⟩
         case measure=>simp [intOf];omega
        ·have hz3:cmpZ ((s*b+s*b:Nat):Int) (rr:Int)=1:=cmpZ_gt (Int.ofNat_lt.2 (by omega))
         have kc:=rcmp_any v6 u5 (s*b+s*b) rr w6 hv6 (HV4.out.up hb6) (by omega);rw [hz3] at kc;have KC3:=Lib.hid kc;clear kc hz3 hv6;go_wp2_with fail;with_reducible refine KC3.out.mono ?_
         rintro e w7 ⟨rfl,hb7⟩;have hV5:=(HV4.out.up hb6).up hb7;have hp5:=(HP2.out.up hb6).up hb7;have hq5:=((hq4.up hb5).up hb6).up hb7;have hb6:=bel_up (bel_up (bel_up hbx4 hb5) hb6) hb7;go_wp2_with fail;refine wp_named ?_;intro Wx hWx;have hVx:DV Wx u5 rr:=by rw [hWx];exact hV5
         have hPx:DV Wx u12 (s*b):=by rw [hWx];exact hp5
         have hQx:Blk Wx w1.heap.size 3 (ints ((qrow N (a/b) k).set (k-1) t)):=by rw [hWx];exact hq5
         have hBx:Below w1.heap.size w1 Wx:=by rw [hWx];exact hb6
         clear hWx hV5 hp5 hq5 hb6;have hcx:=hQx.cell (k-1);rw [ints_get,HQG.out t] at hcx;simp only [Option.map_some] at hcx;have hfx:=hQx.free (k-1);have hlx:=hQx.lt;have HM:=Lib.hid (fun W hr hp=>rminus_any u5 u12 rr (s*b) W hr hp hsr (by omega));have hHT:=HTB.out s hsr;have HT3:=Lib.hid hHT.2.2;have HT2:=Lib.hid hHT.2.1;have HT1:=Lib.hid hHT.1;have HFP:=Lib.hid hfp;have HFV:=Lib.hid hfv;have HWR:Hid (IntKind.i64.wrap ((t:Int)+s)=(t:Int)+s):=Lib.hid (IntWalk.i64_in _ ⟨by omega,by omega⟩);clear hHT hfp hfv;go_region_with (first|(go_at_call 89;refine (HM.out _ (by first|exact hVx|exact Sl.setCell hVx HFV.out _) (by first|exact hPx|exact Sl.setCell hPx HFP.out _)).mono ?_;rintro e v9 ⟨vn,rfl,hvn,hbn,hfn⟩;(first|(have hcn:v9.cell? ⟨w1.heap.size,k-1,none⟩=some (.int .i64 (t:Int)):=(hbn.cell (p:=⟨w1.heap.size,k-1,none⟩) hlx).trans hcx)|skip);(first|(have hfnn:v9.frozen? ⟨w1.heap.size,k-1,none⟩=false:=(hbn.frozen (p:=⟨w1.heap.size,k-1,none⟩) hlx).trans hfx)|skip)))
         all_goals
          go_wp2;go_roundg (256-(t+s))
          case measure=>omega
          case rel =>
           refine ⟨t+s,rfl,HT3.out,HT1.out,by rw [HT2.out];first|exact hvn|exact Sl.setCell hvn (hfn.far hlx) _,hfn.far hlx,?_,?_⟩
           ·first|exact blk_put_sum (hQx.drew.up hbn)|exact Blk.up (blk_put_sum hQx) hbn|(rw [HWR.out];exact blk_put_sum (hQx.drew.up hbn))|exact Blk.up (blk_put_sum hQx.drew) hbn
           ·first|exact (bel_up hBx.drew hbn).setCell (Nat.le_refl _) _|exact bel_up (hBx.drew.setCell (Nat.le_refl _) _) hbn|exact bel_up (hBx.setCell (Nat.le_refl _) _).drew hbn
       ·have h2':¬ 2*(s:Int)≤128:=by omega
        have hV5:=hV4.up hb5;have hp5:=hp;have hq5:=hq4.up hb5;have hb6:=bel_up hbx4 hb5;go_wp2_with fail;refine wp_named ?_;intro Wx hWx;have hVx:DV Wx u5 rr:=by rw [hWx];exact hV5
        have hPx:DV Wx u12 (s*b):=by rw [hWx];exact hp5
        have hQx:Blk Wx w1.heap.size 3 (ints ((qrow N (a/b) k).set (k-1) t)):=by rw [hWx];exact hq5
        have hBx:Below w1.heap.size w1 Wx:=by rw [hWx];exact hb6
        clear hWx hV5 hp5 hq5 hb6;have hcx:=hQx.cell (k-1);rw [ints_get,HQG.out t] at hcx;simp only [Option.map_some] at hcx;have hfx:=hQx.free (k-1);have hlx:=hQx.lt;have HM:=Lib.hid (fun W hr hp=>rminus_any u5 u12 rr (s*b) W hr hp hsr (by omega));have hHT:=HTB.out s hsr;have HT3:=Lib.hid hHT.2.2;have HT2:=Lib.hid hHT.2.1;have HT1:=Lib.hid hHT.1;have HFP:=Lib.hid hfp;have HFV:=Lib.hid hfv;have HWR:Hid (IntKind.i64.wrap ((t:Int)+s)=(t:Int)+s):=Lib.hid (IntWalk.i64_in _ ⟨by omega,by omega⟩);clear hHT hfp hfv;go_region_with (first|(go_at_call 89;refine (HM.out _ (by first|exact hVx|exact Sl.setCell hVx HFV.out _) (by first|exact hPx|exact Sl.setCell hPx HFP.out _)).mono ?_;rintro e v9 ⟨vn,rfl,hvn,hbn,hfn⟩;(first|(have hcn:v9.cell? ⟨w1.heap.size,k-1,none⟩=some (.int .i64 (t:Int)):=(hbn.cell (p:=⟨w1.heap.size,k-1,none⟩) hlx).trans hcx)|skip);(first|(have hfnn:v9.frozen? ⟨w1.heap.size,k-1,none⟩=false:=(hbn.frozen (p:=⟨w1.heap.size,k-1,none⟩) hlx).trans hfx)|skip)))
        all_goals
         go_wp2;go_roundg (256-(t+s))
         case measure=>omega
         case rel =>
          refine ⟨t+s,rfl,HT3.out,HT1.out,by rw [HT2.out];first|exact hvn|exact Sl.setCell hvn (hfn.far hlx) _,hfn.far hlx,?_,?_⟩
          ·first|exact blk_put_sum (hQx.drew.up hbn)|exact Blk.up (blk_put_sum hQx) hbn|(rw [HWR.out];exact blk_put_sum (hQx.drew.up hbn))|exact Blk.up (blk_put_sum hQx.drew) hbn
          ·first|exact (bel_up hBx.drew hbn).setCell (Nat.le_refl _) _|exact bel_up (hBx.drew.setCell (Nat.le_refl _) _) hbn|exact bel_up (hBx.setCell (Nat.le_refl _) _).drew hbn
     ·have hcz:cmpZ ((r0-t*b:Nat):Int) (b:Int)=-1:=cmpZ_lt (Int.ofNat_lt.2 (by omega))
      have kc:=rcmp_any _ vb (r0-t*b) b wr hv HBx (by have:=HLT.out (r0-t*b) (by omega);omega);rw [hcz] at kc;have KC2:=Lib.hid kc;obtain ⟨e1,e2⟩:=HQ1.out t htb (by omega);have HE1:=Lib.hid e1;have HE2:=Lib.hid e2;have HVV:=Lib.hid hv;clear kc hcz e1 e2 HBx hv;go_wp2_with fail;with_reducible refine KC2.out.mono ?_
      rintro e w4 ⟨rfl,hb4⟩;go_wp2;go_roundw
      case rel=>exact ⟨k-1,by omega,congrArg (Value.int .i64) (by omega),by rw [← HE2.out];exact HVV.out.up hb4,by rw [← HNXT.out t HE1.out];exact hqt.up hb4,bel_up hbx hb4⟩
      case measure=>simp [intOf];omega
end Go.Proofs.YtiochgoocbkckaaGreatDoor
