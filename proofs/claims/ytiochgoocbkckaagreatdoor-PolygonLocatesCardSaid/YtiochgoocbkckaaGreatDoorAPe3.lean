/-
 Contracts for polygons: whether a ring is simple.
-/
import Derived.Test.YtiochgoocbkckaaGreatDoorAgax
import Derived.Test.YtiochgoocbkckaaGreatDoorAPm3
set_option maxRecDepth 100000
set_option linter.unusedSimpArgs false
set_option linter.unusedVariables false
namespace Go.Proofs.YtiochgoocbkckaaGreatDoor
open Go Go.RowKit

theorem vx_same {l:List (Rat×Rat)} {i:Nat} {x:(Rat×Rat)×(Rat×Rat)} (h:(Pg.ringE l)[i]?=some x) (e:x.1=x.2):Pg.vx l i=Pg.vx l (i+1):=by
 rw [(Pg.ringE_vx h).2] at e;exact e
theorem vx_diff {l:List (Rat×Rat)} {i:Nat} {x:(Rat×Rat)×(Rat×Rat)} (h:(Pg.ringE l)[i]?=some x) (e:¬ x.1=x.2):Pg.vx l i≠Pg.vx l (i+1):=by
 rw [(Pg.ringE_vx h).2] at e;exact e
theorem bad_step {l:List (Rat×Rat)} {k j:Nat} (h:∀ i,k<i→i<j→Pg.badP l k i=false) (hj:Pg.badP l k j=false):∀ i,k<i→i<j+1→Pg.badP l k i=false:=fun i h1 h2=>by
 by_cases e:i=j
 ·rw [e];exact hj
 ·exact h i h1 (by omega)
theorem all_step {l:List (Rat×Rat)} {k:Nat} (h:∀ i,i<k→Pg.vx l i≠Pg.vx l (i+1)∧∀ j,i<j→j<l.length→Pg.badP l i j=false) (h1:Pg.vx l k≠Pg.vx l (k+1)) (h2:∀ j,k<j→j<l.length→Pg.badP l k j=false) :
 ∀ i,i<k+1→Pg.vx l i≠Pg.vx l (i+1)∧∀ j,i<j→j<l.length→Pg.badP l i j=false:=fun i hi=>by
 by_cases e:i=k
 ·rw [e];exact ⟨h1,h2⟩
 ·exact h i (by omega)

set_option maxHeartbeats 4000000 in
theorem simple_any {S:Nat} (v:Value) (l:List (Rat×Rat)) (w:World) (h:PV w v l) (hs:∀ q∈l,Pl.SzP S q) (hn:l.length≤1000) (hS:S≤1000) :
 Calls Tryz.prog 55 #[v] w fun e w'=>e=.returned (.bool (Pg.simB Pg.badP l))∧Below w.heap.size w w':=by
 obtain ⟨A,c,rfl,hc,hm,hx⟩:=h.open_;have HV:=Lib.hid h;have HX:=Lib.hid hx;have HS:=Lib.hid hs;have HF:Hid (l.take l.length=l):=Lib.hid List.take_length;generalize hN:l.length=N at *;have HN:=Lib.hid hN;clear h hx hs hN;go_enter Tryz.func55,Tryz.ntmps55
 by_cases hc1:(N:Int)<3
 ·skip
  have hc1_d:decide ((N:Int)<3)=true:=decide_eq_true hc1;have hc1_:¬ ((3:Int)≤N):=by omega
  go_wp2;go_ret;refine ⟨(by rw [Pg.sim_short (by rw [HN.out];omega)]<;>rfl),?_⟩;exact bB
 ·skip
  have hc1_d:decide ((N:Int)<3)=false:=decide_eq_false hc1;have hc1_:((3:Int)≤N):=by omega
  have K2:=Lib.hid (fun W (hW:PV W (.slice A N c) l)=>pedges_any _ l W hW HS.out (by rw [HN.out];omega) (by omega));go_wp2_with (fail)
  refine calls_named ?_;intro W1 hW1;have hL1:Below w.heap.size w W1:=by rw [hW1];exact bB
  have hB3:Below w.heap.size w W1:=by rw [hW1];exact bB
  clear hW1 hL1;with_reducible refine (K2.out _ (HV.out.up hB3)).mono ?_
  rintro e w1 ⟨v1,rfl,hv1,hb1⟩;have hB4:Below w.heap.size w w1:=bel_up hB3 hb1;obtain ⟨l1,hl1⟩:∃ y_,y_=(Pg.ringE l):=⟨_,rfl⟩
  rw [← hl1] at hv1;obtain ⟨A1,c1,rfl,hcc1,hmm1,hx1⟩:=hv1.open_;have XX1:=Lib.hid hx1;have HL1:=Lib.hid hl1;have PL1:=Lib.hid hv1;clear hx1 hv1;have hlen1:l1.length=N:=by rw [HL1.out];rw [Pg.ringE_len,HN.out]
  have hle1:l1.length≤1000000:=by rw [hlen1];omega
  have HLEN1:=Lib.hid hlen1;clear hl1 hlen1;generalize hn1:l1.length=N1 at *;have HN1:=Lib.hid hn1;clear hn1;clear PL1;have HSE:=Lib.hid (fun q hq=>Pg.ringE_sz HS.out q (by rw [← HL1.out];exact hq):∀ q∈l1,Pl.SzS S q);go_wp2_with fail;go_loopw [16] (fun s16 wr=>∃ (k:Nat),s16=.int .i64 k∧Below w1.heap.size w1 wr∧Below w.heap.size w wr∧k≤N1∧Hid (∀ i,i<k→Pg.vx l i≠Pg.vx l (i+1)∧∀ j,i<j→j<l.length→Pg.badP l i j=false)) (fun s16 _=>N1-(intOf s16).toNat)
  case atStart=>exact ⟨0,rfl,Below.refl _ _,hB4,(by omega),Lib.hid (fun i hi=>absurd hi (Nat.not_lt_zero _))⟩
  case round =>
   clear hB4;obtain ⟨k,rfl,hA5,hB6,hk,HE⟩:=hrel;obtain ⟨wr7,hwr7⟩:∃ W_,W_=wr:=⟨_,rfl⟩
   subst hwr7
   by_cases hltk:k<N1
   ·skip
    have i1k:(k:Int)<N1:=by omega
    obtain ⟨x8,hx9⟩:∃ x,l1[k]?=some x:=⟨_,List.getElem?_eq_getElem (by rw [HN1.out];omega)⟩
    have Hhx9:=Lib.hid hx9;have Zhx9:=Lib.hid (HSE.out _ (List.mem_of_getElem? hx9));clear hx9;obtain ⟨g11,o12,ha13,-⟩:=(LX.up XX1.out kpS hA5) _ _ Hhx9.out;subst ha13;have ce10:=LX.at_ ((LX.up XX1.out kpS hA5)) Hhx9.out;have ce10_:g11<wr7.heap.size:=World.block_lt_of_cell? _ _ ce10.1.1;have uce10:=ce10;simp only [CS,Nat.reduceMul] at uce10;have an14:w1.heap.size≤wr7.heap.size:=by have:=hA5.size;omega
    have ne15_:g11<wr7.heap.size:=by omega
    have ne15:=Nat.ne_of_lt ne15_;have ne15':=ne15.symm
    by_cases hq16:x8.1=x8.2
    ·skip
     have EQhq16:=fun W=>eqP_in x8.1 x8.2 W
     rw [decide_eq_true hq16] at EQhq16;have Hhq16:=Lib.hid hq16;clear hq16;go_wp2;go_ret;refine ⟨(by rw [Pg.sim_same (Pg.ringE_vx (HL1.out▸Hhx9.out)).1 (vx_same (HL1.out▸Hhx9.out) Hhq16.out)]<;>rfl),?_⟩;exact bB
    ·skip
     have EQhq16:=fun W=>eqP_in x8.1 x8.2 W
     rw [decide_eq_false hq16] at EQhq16;have Hhq16:=Lib.hid hq16;clear hq16;go_wp2_with fail;refine wp_named ?_;intro W2 hW2;have hL2:Below wr7.heap.size wr7 W2:=by rw [hW2];exact bB
     have c17:Own W2 wr7.heap.size 0 [.bool (ng x8.1.1.num),.string (mg x8.1.1.num.natAbs),.bool false,.string (mg (dn x8.1.1)),.bool (ng x8.1.2.num),.string (mg x8.1.2.num.natAbs),.bool false,.string (mg (dn x8.1.2)),.bool (ng x8.2.1.num),.string (mg x8.2.1.num.natAbs),.bool false,.string (mg (dn x8.2.1)),.bool (ng x8.2.2.num),.string (mg x8.2.2.num.natAbs),.bool false,.string (mg (dn x8.2.2))]:=by
      rw [hW2]
      first
      | (repeat (first|(with_reducible refine own_new (l:=[.bool (ng x8.1.1.num),.string (mg x8.1.1.num.natAbs),.bool false,.string (mg (dn x8.1.1)),.bool (ng x8.1.2.num),.string (mg x8.1.2.num.natAbs),.bool false,.string (mg (dn x8.1.2)),.bool (ng x8.2.1.num),.string (mg x8.2.1.num.natAbs),.bool false,.string (mg (dn x8.2.1)),.bool (ng x8.2.2.num),.string (mg x8.2.2.num.natAbs),.bool false,.string (mg (dn x8.2.2))]) ?_;(simp;done))|with_reducible refine Own.alloc ?_ _|refine Own.far _ _ (by first|(simp;done)|(simp [*];done)|(simp;omega)) ?_));done
      | simp [Own,go_sem,uce10,ne15,ne15',ne15_]
     have hA18:=bel_up hA5 hL2;have hB19:Below w.heap.size w W2:=by rw [hW2];exact bB
     clear hW2 hL2 uce10 hA5;go_loopw [6] (fun s6 wr=>∃ (j:Nat),s6=.int .i64 j∧Own wr wr7.heap.size 0 [.bool (ng x8.1.1.num),.string (mg x8.1.1.num.natAbs),.bool false,.string (mg (dn x8.1.1)),.bool (ng x8.1.2.num),.string (mg x8.1.2.num.natAbs),.bool false,.string (mg (dn x8.1.2)),.bool (ng x8.2.1.num),.string (mg x8.2.1.num.natAbs),.bool false,.string (mg (dn x8.2.1)),.bool (ng x8.2.2.num),.string (mg x8.2.2.num.natAbs),.bool false,.string (mg (dn x8.2.2))]∧Below w1.heap.size w1 wr∧Below w.heap.size w wr∧(k<j∧j≤N1)∧Hid (∀ i,k<i→i<j→Pg.badP l k i=false)) (fun s6 _=>N1-(intOf s6).toNat)
     case atStart=>exact ⟨(k+1),rfl,c17,hA18,hB19,⟨by omega,by omega⟩,Lib.hid (fun i h1 h2=>absurd h2 (by omega))⟩
     case round =>
      clear c17 hB19 hA18;obtain ⟨j,rfl,b20,hA21,hB22,hj,HI⟩:=hrel;obtain ⟨wr23,hwr23⟩:∃ W_,W_=wr:=⟨_,rfl⟩
      subst hwr23
      by_cases hltj:j<N1
      ·skip
       have i1j:(j:Int)<N1:=by omega
       obtain ⟨x24,hx25⟩:∃ x,l1[j]?=some x:=⟨_,List.getElem?_eq_getElem (by rw [HN1.out];omega)⟩
       have Hhx25:=Lib.hid hx25;have Zhx25:=Lib.hid (HSE.out _ (List.mem_of_getElem? hx25));clear hx25;have kK26:=fun W=>meet_any x8 x24 W Zhx9.out Zhx25.out (by omega)
       generalize hT28:meetM x8 x24=m27 at kK26;have K26:=Lib.hid kK26;clear kK26;have HhT28:=Lib.hid hT28;clear hT28;go_wp2_with fail;refine wp_named ?_;intro W3 hW3;have hL3:Below wr23.heap.size wr23 W3:=by rw [hW3];exact bB
       have c29:=b20.up hL3;have hA30:=bel_up hA21 hL3;have hB31:Below w.heap.size w W3:=by rw [hW3];exact bB
       clear hW3 hL3 b20 hA21;have dc29:=fun p:Bel W3=>c29.bel p
       simp only [At,Own,Nat.reduceAdd,and_true] at dc29;have ce32:=LX.at_ ((LX.up XX1.out kpS hA30)) Hhx25.out;have ce32_:g11<W3.heap.size:=World.block_lt_of_cell? _ _ ce32.1.1;have dce32:=fun b:Bel W3=>ce32.bel b
       simp only [CS,Nat.reduceMul] at dce32;refine wp_region_tail 7 (by kernel_rfl) (by kernel_rfl) ?_;simp only [List.take_succ_cons,List.take_zero,List.drop_succ_cons,List.drop_zero];repeat (go_big_quiet_step (first|(go_at_call 115;with_reducible exact Calls.bel (K26.out _))))
       with_reducible refine qf_head ?_
       refine wpQuiet_kind ?qw (.tmp 39) ?qo m27 ?qx ?qh
       case qw=>rfl
       case qo=>rfl
       case qx=>rfl
       simp only [Act.put,List.setIfInBounds_toArray,List.set_cons_zero,List.set_cons_succ];refine wpQuiet_nil ?_;intro w3 hb3;have c33:=c29.up hb3;have hA34:=bel_up hA30 hb3;have hB35:Below w.heap.size w w3:=bel_up hB31 hb3;clear dc29 dce32 c29 hA30;have uc33:=c33;simp only [At,Own,Nat.reduceAdd,and_true] at uc33
       by_cases hc36:(j:Int)=(k+1)
       ·skip
        have hc36_:(((j:Int))==(k+1))=true:=by simpa using hc36
        have Hhc36:=Lib.hid hc36;clear hc36
        by_cases hc37:(m27.1:Int)=3
        ·skip
         have hc37_:(((m27.1:Int))==3)=true:=by simpa using hc37
         have Hhc37:=Lib.hid hc37;clear hc37;go_wp2;go_ret;refine ⟨(by rw [Pg.sim_bad (show k<j by omega) (by rw [HN.out,← HLEN1.out];omega) (by rw [Pg.bad_f (HL1.out▸Hhx9.out) (HL1.out▸Hhx25.out) (by have e1:=HLEN1.out;have e2:=HN.out;have q0:=hc1;have q1:=Hhc36.out;have q2:=Hhc37.out;omega),← meetM_kind,HhT28.out];simp only [decide_eq_true_eq];have q0:=hc1;have q1:=Hhc36.out;have q2:=Hhc37.out;omega)]<;>rfl),?_⟩;exact bB
        ·skip
         have hc37_:(((m27.1:Int))==3)=false:=by simpa using hc37
         go_wp2;go_roundw
         case rel=>exact ⟨(j+1),(by first|rfl|exact congrArg (Value.int .i64) (by omega)|simp [*]),(by repeat (first|with_reducible exact c33|refine Own.far _ _ (by simp<;>omega) ?_|with_reducible refine Own.alloc ?_ _)),(by exact bB),(by exact bB),⟨by omega,by omega⟩,Lib.hid (bad_step HI.out (by rw [Pg.bad_f (HL1.out▸Hhx9.out) (HL1.out▸Hhx25.out) (by have e1:=HLEN1.out;have e2:=HN.out;have q0:=hc1;have q1:=Hhc36.out;have q2:=hc37;omega),← meetM_kind,HhT28.out];simp only [decide_eq_false_iff_not];have q0:=hc1;have q1:=Hhc36.out;have q2:=hc37;omega))⟩
         case measure=>simp [intOf]<;>omega
       ·skip
        have hc36_:(((j:Int))==(k+1))=false:=by simpa using hc36
        by_cases hc38:(k:Int)=0
        ·skip
         have hc38_:(((k:Int))==0)=true:=by simpa using hc38
         have Hhc38:=Lib.hid hc38;clear hc38
         by_cases hc39:(j:Int)=(N1-1)
         ·skip
          have hc39_:(((j:Int))==(N1-1))=true:=by simpa using hc39
          have Hhc39:=Lib.hid hc39;clear hc39
          by_cases hc40:(m27.1:Int)=3
          ·skip
           have hc40_:(((m27.1:Int))==3)=true:=by simpa using hc40
           have Hhc40:=Lib.hid hc40;clear hc40;go_wp2;go_ret;refine ⟨(by rw [Pg.sim_bad (show k<j by omega) (by rw [HN.out,← HLEN1.out];omega) (by rw [Pg.bad_f (HL1.out▸Hhx9.out) (HL1.out▸Hhx25.out) (by have e1:=HLEN1.out;have e2:=HN.out;have q0:=hc1;have q1:=hc36;have q2:=Hhc38.out;have q3:=Hhc39.out;have q4:=Hhc40.out;omega),← meetM_kind,HhT28.out];simp only [decide_eq_true_eq];have q0:=hc1;have q1:=hc36;have q2:=Hhc38.out;have q3:=Hhc39.out;have q4:=Hhc40.out;omega)]<;>rfl),?_⟩;exact bB
          ·skip
           have hc40_:(((m27.1:Int))==3)=false:=by simpa using hc40
           go_wp2;go_roundw
           case rel=>exact ⟨(j+1),(by first|rfl|exact congrArg (Value.int .i64) (by omega)|simp [*]),(by repeat (first|with_reducible exact c33|refine Own.far _ _ (by simp<;>omega) ?_|with_reducible refine Own.alloc ?_ _)),(by exact bB),(by exact bB),⟨by omega,by omega⟩,Lib.hid (bad_step HI.out (by rw [Pg.bad_f (HL1.out▸Hhx9.out) (HL1.out▸Hhx25.out) (by have e1:=HLEN1.out;have e2:=HN.out;have q0:=hc1;have q1:=hc36;have q2:=Hhc38.out;have q3:=Hhc39.out;have q4:=hc40;omega),← meetM_kind,HhT28.out];simp only [decide_eq_false_iff_not];have q0:=hc1;have q1:=hc36;have q2:=Hhc38.out;have q3:=Hhc39.out;have q4:=hc40;omega))⟩
           case measure=>simp [intOf]<;>omega
         ·skip
          have hc39_:(((j:Int))==(N1-1))=false:=by simpa using hc39
          by_cases hc41:(m27.1:Int)=0
          ·skip
           have hc41_:(((m27.1:Int))==0)=true:=by simpa using hc41
           have Hhc41:=Lib.hid hc41;clear hc41;go_wp2;go_roundw
           case rel=>exact ⟨(j+1),(by first|rfl|exact congrArg (Value.int .i64) (by omega)|simp [*]),(by repeat (first|with_reducible exact c33|refine Own.far _ _ (by simp<;>omega) ?_|with_reducible refine Own.alloc ?_ _)),(by exact bB),(by exact bB),⟨by omega,by omega⟩,Lib.hid (bad_step HI.out (by rw [Pg.bad_n (HL1.out▸Hhx9.out) (HL1.out▸Hhx25.out) (by have e1:=HLEN1.out;have e2:=HN.out;have q0:=hc1;have q1:=hc36;have q2:=Hhc38.out;have q3:=hc39;have q4:=Hhc41.out;omega),← meetM_kind,HhT28.out];simp only [decide_eq_false_iff_not];have q0:=hc1;have q1:=hc36;have q2:=Hhc38.out;have q3:=hc39;have q4:=Hhc41.out;omega))⟩
           case measure=>simp [intOf]<;>omega
          ·skip
           have hc41_:(((m27.1:Int))==0)=false:=by simpa using hc41
           go_wp2;go_ret;refine ⟨(by rw [Pg.sim_bad (show k<j by omega) (by rw [HN.out,← HLEN1.out];omega) (by rw [Pg.bad_n (HL1.out▸Hhx9.out) (HL1.out▸Hhx25.out) (by have e1:=HLEN1.out;have e2:=HN.out;have q0:=hc1;have q1:=hc36;have q2:=Hhc38.out;have q3:=hc39;have q4:=hc41;omega),← meetM_kind,HhT28.out];simp only [decide_eq_true_eq];have q0:=hc1;have q1:=hc36;have q2:=Hhc38.out;have q3:=hc39;have q4:=hc41;omega)]<;>rfl),?_⟩;exact bB
        ·skip
         have hc38_:(((k:Int))==0)=false:=by simpa using hc38
         by_cases hc42:(m27.1:Int)=0
         ·skip
          have hc42_:(((m27.1:Int))==0)=true:=by simpa using hc42
          have Hhc42:=Lib.hid hc42;clear hc42;go_wp2;go_roundw
          case rel=>exact ⟨(j+1),(by first|rfl|exact congrArg (Value.int .i64) (by omega)|simp [*]),(by repeat (first|with_reducible exact c33|refine Own.far _ _ (by simp<;>omega) ?_|with_reducible refine Own.alloc ?_ _)),(by exact bB),(by exact bB),⟨by omega,by omega⟩,Lib.hid (bad_step HI.out (by rw [Pg.bad_n (HL1.out▸Hhx9.out) (HL1.out▸Hhx25.out) (by have e1:=HLEN1.out;have e2:=HN.out;have q0:=hc1;have q1:=hc36;have q2:=hc38;have q3:=Hhc42.out;omega),← meetM_kind,HhT28.out];simp only [decide_eq_false_iff_not];have q0:=hc1;have q1:=hc36;have q2:=hc38;have q3:=Hhc42.out;omega))⟩
          case measure=>simp [intOf]<;>omega
         ·skip
          have hc42_:(((m27.1:Int))==0)=false:=by simpa using hc42
          go_wp2;go_ret;refine ⟨(by rw [Pg.sim_bad (show k<j by omega) (by rw [HN.out,← HLEN1.out];omega) (by rw [Pg.bad_n (HL1.out▸Hhx9.out) (HL1.out▸Hhx25.out) (by have e1:=HLEN1.out;have e2:=HN.out;have q0:=hc1;have q1:=hc36;have q2:=hc38;have q3:=hc42;omega),← meetM_kind,HhT28.out];simp only [decide_eq_true_eq];have q0:=hc1;have q1:=hc36;have q2:=hc38;have q3:=hc42;omega)]<;>rfl),?_⟩;exact bB
      ·skip
       have hkN:N1=j:=by omega
       subst hkN;have HEJ:Hid (∀ i,k<i→i<l.length→Pg.badP l k i=false):=Lib.hid (fun i h1 h2=>HI.out i h1 (by rw [HN.out,← HLEN1.out] at h2;exact h2));have ub20:=b20;simp only [At,Own,Nat.reduceAdd,and_true] at ub20;go_wp2;go_roundw
       case rel=>exact ⟨(k+1),(by first|rfl|exact congrArg (Value.int .i64) (by omega)|simp [*]),(by exact bB),(by exact bB),(by omega),Lib.hid (all_step HE.out (vx_diff (HL1.out▸Hhx9.out) Hhq16.out) HEJ.out)⟩
       case measure=>simp [intOf]<;>omega
   ·skip
    have hkN:N1=k:=by omega
    subst hkN;have HE2:Hid (∀ i,i<l.length→Pg.vx l i≠Pg.vx l (i+1)∧∀ j,i<j→j<l.length→Pg.badP l i j=false):=Lib.hid (fun i hi=>HE.out i (by rw [HN.out,← HLEN1.out] at hi;exact hi));clear HE;have HE:=HE2;go_wp2;go_ret;refine ⟨(by rw [Pg.sim_yes (by rw [HN.out];omega) HE.out]<;>rfl),?_⟩;exact bB
end Go.Proofs.YtiochgoocbkckaaGreatDoor
