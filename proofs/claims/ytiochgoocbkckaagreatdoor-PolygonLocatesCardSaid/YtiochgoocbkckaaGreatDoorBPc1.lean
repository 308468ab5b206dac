/-
 Contracts for polygons: the canonical form of a ring.
 Contracts for polygons: canonical forms.
-/
import Derived.Test.YtiochgoocbkckaaGreatDoorBPgK
import Derived.Test.YtiochgoocbkckaaGreatDoorAPe2
import Derived.Test.YtiochgoocbkckaaGreatDoorBPgR
import Derived.Test.YtiochgoocbkckaaGreatDoorAgay
import Derived.Test.YtiochgoocbkckaaGreatDoorAgbh
import Derived.Deep.Onto
import Derived.Test.YtiochgoocbkckaaGreatDoorAgbk
set_option maxRecDepth 100000
set_option linter.unusedSimpArgs false
set_option linter.unusedVariables false
namespace Go.Proofs.YtiochgoocbkckaaGreatDoor
open Go Go.RowKit
abbrev LB3 (a b:World):Prop:=Below a.heap.size a b

theorem clone_own (v:Value) (l:List (Rat×Rat)) (w:World) (h:PV w v l) (hn:l.length≤1000000) :
 Calls Tryz.prog 123 #[v] w fun e w'=>∃ v' n',e=.returned v'∧w'.ownsRow w.heap.size 45 8 v' n' (pts l)∧Below w.heap.size w w' :=
 (clone_any v l w h hn).mono fun _ _ ⟨v',h1,h2,h3⟩=>⟨v',_,h1,h2,h3⟩
theorem pv_low {w:World} {base n g cap k:Nat} {l:List (Rat×Rat)} (h:w.ownsRow base 45 8 (.slice (some ⟨g,0,none⟩) n cap) n (pts l)) (hk:k≤n):PV w (.slice (some ⟨g,0,none⟩) k cap) (l.take k):=by
 have h1:=own_cut h hk;rw [pts_take] at h1;exact pv_own h1
theorem pv_high {w:World} {base n g cap k:Nat} {l:List (Rat×Rat)} (h:w.ownsRow base 45 8 (.slice (some ⟨g,0,none⟩) n cap) n (pts l)) (hk:k≤n) (h0:0<n):PV w (.slice (some ⟨g,k*8,none⟩) (n-k) (cap-k)) (l.drop k):=by
 have hl:n=l.length:=by have:=h.1;rw [pts_length] at this;omega
 obtain ⟨g',cap',e,h1,h2,_⟩:=owns_form h h0;cases e;have hc:=h.cells (g:=g) rfl;refine ⟨by rw [pts_length],.inr ⟨g,k*8,cap-k,by rw [List.length_drop,← hl],by rw [List.length_drop];omega,by omega,fun j u hj => ?_⟩⟩;have:=hc (k*8+j) u (by rw [← pts_drop,List.getElem?_drop] at hj;exact hj);rw [Addr.add_lit,Nat.zero_add] at this;exact this
theorem remT (k N m:Nat) (h:m=(k+N-1)%N) (h0:0<N) (hN:N≤1000000000) (hk:k≤1000000000):((k:Int)+N-1).tmod N=m∧((k:Int)+N-1)%N=m∧IntKind.i64.wrap ((k:Int)+N)=k+N∧wrap64 ((k:Int)+N)=k+N∧IntKind.i64.wrap ((k:Int)+N-1)=k+N-1∧wrap64 ((k:Int)+N-1)=k+N-1∧IntKind.i64.wrap (m:Int)=m∧wrap64 (m:Int)=m:=by
 have e:((k:Int)+N-1)=((k+N-1:Nat):Int):=by omega
 have h1:((k:Int)+N-1).tmod N=m:=by rw [e,h];rfl
 have h2:((k:Int)+N-1)%N=m:=by rw [e,h];rfl
 have hm:m≤2000000001:=by rw [h];exact Nat.le_trans (Nat.mod_le _ _) (by omega)
 refine ⟨h1,h2,?_,?_,?_,?_,?_,?_⟩
 ·simp [IntKind.wrap,IntKind.bits,IntKind.signed];omega
 ·unfold wrap64;omega
 ·simp [IntKind.wrap,IntKind.bits,IntKind.signed];omega
 ·unfold wrap64;omega
 ·simp [IntKind.wrap,IntKind.bits,IntKind.signed];omega
 ·unfold wrap64;omega
theorem idxs (i n:Nat) (hi:i<n) (hn:n≤1000):∃ m1 m2:Nat,(m1:Int)<n∧(m2:Int)<n∧Hid ((i+n-1)%n=m1∧m1<n)∧Hid ((i+1)%n=m2∧m2<n)∧((i:Int)+n-1).tmod n=m1∧((i:Int)+1).tmod n=m2∧IntKind.i64.wrap ((i:Int)+n)=i+n∧IntKind.i64.wrap ((i:Int)+n-1)=i+n-1∧IntKind.i64.wrap ((i:Int)+1)=i+1∧((n:Int)==0)=false:=by
 have j1:((n:Int)==0)=false:=by simp;omega
 obtain ⟨m1,hm1⟩:∃ m,m=(i+n-1)%n:=⟨_,rfl⟩
 obtain ⟨m2,hm2⟩:∃ m,m=(i+1)%n:=⟨_,rfl⟩
 have hl1:m1<n:=hm1▸Nat.mod_lt _ (by omega);have hl2:m2<n:=hm2▸Nat.mod_lt _ (by omega);obtain ⟨t1,t2,t3,t4,t5,t6,t7,t8⟩:=remT i n m1 hm1 (by omega) (by omega) (by omega);obtain ⟨r1,r2,r3,r4,r5,r6⟩:=remS i n m2 hm2 (by omega) (by omega);refine ⟨m1,m2,?_,?_,Lib.hid ⟨hm1.symm,hl1⟩,Lib.hid ⟨hm2.symm,hl2⟩,t1,r1,t3,t5,r3,j1⟩
 ·exact Int.ofNat_lt.2 hl1
 ·exact Int.ofNat_lt.2 hl2
theorem thin_del {f i:Nat} {L:List (Rat×Rat)} (hi:i<L.length) (h:Pl.onSeg (Pg.vx L i) (Pg.vx L (i+L.length-1)) (Pg.vx L (i+1))=true):Pg.thinP (f+1) L i=Pg.thinP f (L.eraseIdx i) 0:=by rw [Pg.thinP,if_pos hi,if_pos h]
theorem thin_go {f i:Nat} {L:List (Rat×Rat)} (hi:i<L.length) (h:Pl.onSeg (Pg.vx L i) (Pg.vx L (i+L.length-1)) (Pg.vx L (i+1))=false):Pg.thinP (f+1) L i=Pg.thinP f L (i+1):=by rw [Pg.thinP,if_pos hi,if_neg (by rw [h];decide)]
theorem thin_end {f i:Nat} {L:List (Rat×Rat)} (hi:¬ i<L.length):Pg.thinP f L i=L:=by
 cases f with
 | zero=>rfl
 | succ f=>rw [Pg.thinP,if_neg hi]
structure ThS (S:Nat) (l L:List (Rat×Rat)) (i f:Nat):Prop where
 fuel:L.length*(L.length+1)-i<f
 eq:Pg.thinP f L i=Pg.thinP 300 l 0
 sz:∀ q∈L,Pl.SzP S q
theorem ThS.start {S:Nat} {l:List (Rat×Rat)} (hs:∀ q∈l,Pl.SzP S q) (hn:l.length≤16):ThS S l l 0 300:=⟨by
 have:=Nat.mul_le_mul hn (show l.length+1≤17 by omega)
 omega,rfl,hs⟩
theorem ThS.pos {S:Nat} {l L:List (Rat×Rat)} {i f:Nat} (h:ThS S l L i f) (hi:i<L.length):∃ f2,f=f2+1:=⟨f-1,by have:=h.fuel;omega⟩
theorem ThS.del {S:Nat} {l L:List (Rat×Rat)} {i f:Nat} (h:ThS S l L i (f+1)) (hi:i<L.length) (ho:Pl.onSeg (Pg.vx L i) (Pg.vx L (i+L.length-1)) (Pg.vx L (i+1))=true):ThS S l (L.eraseIdx i) 0 f:=by
 refine ⟨?_,by rw [← h.eq,thin_del hi ho],fun q hq=>h.sz q (List.mem_of_mem_eraseIdx hq)⟩;have h1:=h.fuel;rw [List.length_eraseIdx,if_pos hi];obtain ⟨n,hn⟩:∃ n,L.length=n+1:=⟨L.length-1,by omega⟩
 rw [hn] at h1 hi ⊢;simp only [Nat.add_sub_cancel] at *;have e:(n+1)*(n+1+1)=n*(n+1)+2*n+2:=by simp only [Nat.add_mul,Nat.mul_add];omega
 omega
theorem ThS.go {S:Nat} {l L:List (Rat×Rat)} {i f:Nat} (h:ThS S l L i (f+1)) (hi:i<L.length) (ho:Pl.onSeg (Pg.vx L i) (Pg.vx L (i+L.length-1)) (Pg.vx L (i+1))=false):ThS S l L (i+1) f:=by
 refine ⟨?_,by rw [← h.eq,thin_go hi ho],h.sz⟩;have h1:=h.fuel;have:L.length≤L.length*(L.length+1):=Nat.le_mul_of_pos_right _ (by omega);omega
theorem ThS.fin {S:Nat} {l L:List (Rat×Rat)} {i f:Nat} (h:ThS S l L i f) (hi:¬ i<L.length):L=Pg.thinP 300 l 0:=by rw [← h.eq,thin_end hi]
theorem thin_two {l L:List (Rat×Rat)} (ha:Pg.ringA l≠0) (h:L=Pg.thinP 300 l 0):1≤L.length:=by
 rcases Nat.eq_zero_or_pos L.length with h0|h0
 ·exfalso
  have:=Pg.thin_area 300 l 0 ha;rw [← h,Pg.ringA_short (by omega)] at this;exact ha this.symm
 ·exact h0
theorem form_def {l L O:List (Rat×Rat)} {sg:Int} {k:Nat} (h:L=Pg.thinP 300 l 0) (hO:O=Pg.orient L sg) (hk:Pg.idx O (Pg.least O)=k):Pg.formP l sg=O.drop k++O.take k:=by
 unfold Pg.formP;rw [← h,Pg.canP_def,Pg.rotL,← hO,hk]
theorem orient_y {L:List (Rat×Rat)} {sg g:Int} (hg:Pl.sgn (Pg.ringA L)=g) (h:¬ g=sg):L.reverse=Pg.orient L sg:=by unfold Pg.orient;rw [hg,if_pos h]
theorem orient_n {L:List (Rat×Rat)} {sg g:Int} (hg:Pl.sgn (Pg.ringA L)=g) (h:g=sg):L=Pg.orient L sg:=by unfold Pg.orient;rw [hg,if_neg (fun c=>c h)]

set_option maxHeartbeats 4000000 in
theorem pring_any {S:Nat} (v:Value) (l:List (Rat×Rat)) (sg:Int) (w:World) (h:PV w v l) (hs:∀ q∈l,Pl.SzP S q) (hn:l.length≤16) (hS:S≤1000) (ha:Pg.ringA l≠0) :
 Calls Tryz.prog 67 #[v,.int .i64 sg] w fun e w'=>∃ v',e=.returned v'∧PV w' v' (Pg.formP l sg)∧Below w.heap.size w w':=by
 have HAR:=Lib.hid ha;clear ha;obtain ⟨A,c,rfl,hc,hm,hx⟩:=h.open_;have HV:=Lib.hid h;have HX:=Lib.hid hx;have HS:=Lib.hid hs;have HF:Hid (l.take l.length=l):=Lib.hid List.take_length;generalize hN:l.length=N at *;have HN:=Lib.hid hN;clear h hx hs hN;go_enter Tryz.func67,Tryz.ntmps67;have K1:=Lib.hid (fun W (hW:PV W (.slice A N c) l)=>clone_own _ l W hW (by rw [HN.out];omega));go_wp2_with (fail)
 refine calls_named ?_;intro W1 hW1;have hL1:LB3 w W1:=by rw [hW1];exact bB
 have hB2:LB3 w W1:=by rw [hW1];exact bB
 clear hW1 hL1;with_reducible refine (K1.out _ (HV.out.up hB2)).mono ?_
 rintro e w1 ⟨v1,n1,rfl,ho1,hb1⟩;have OC1:=Lib.hid (ho1.mono (hB2).size);clear ho1;have hB3:LB3 w w1:=bel_up hB2 hb1;have HLN1:Hid (l.length=n1):=Lib.hid (owns_open OC1.out).1.symm;have hln1:n1≤16:=by have:=HLN1.out;rw [HN.out] at this;omega
 go_wp2_with fail;go_loopg [5,6] (300) (fun gk s5 s6 wr=>∃ (i:Nat) (n:Nat) (L:List (Rat×Rat)) (f:Nat),s6=.int .i64 i∧wr.ownsRow w.heap.size 45 8 s5 n (pts L)∧Below w.heap.size w wr∧(i≤n∧n≤16)∧Hid (L.length=n)∧Hid (ThS S l L i f)∧Hid (gk=f))
 case atStart=>exact ⟨0,n1,l,300,rfl,OC1.out,hB3,⟨by omega,by omega⟩,Lib.hid HLN1.out,Lib.hid (ThS.start HS.out (by rw [HN.out];omega)),Lib.hid rfl⟩
 case round =>
  clear hB3 OC1;obtain ⟨i,n,L,f,rfl,o4,hB5,hni,HLN,HTH,HGK6⟩:=hrel;obtain ⟨wr7,hwr7⟩:∃ W_,W_=wr:=⟨_,rfl⟩
  subst hwr7;obtain ⟨gk8,hgk8⟩:∃ W_,W_=gk:=⟨_,rfl⟩
  subst hgk8;have O9:=Lib.hid o4;clear o4
  by_cases hlti:i<n
  ·skip
   have i1i:(i:Int)<n:=by omega
   have hiL:i<L.length:=by rw [HLN.out];exact hlti
   obtain ⟨f2,hf2⟩:=HTH.out.pos hiL;subst hf2;obtain ⟨g4,c4,hv4,hc4,hcm4,hg4,hgb4⟩:=owns_form O9.out (by omega);obtain ⟨x,hx⟩:∃ x,L[i]?=some x:=⟨_,List.getElem?_eq_getElem hiL⟩
   obtain ⟨m1,m2,i3,i4,HM1,HM2,t1,r1,t3,t5,r3,j1⟩:=idxs i n hlti (by omega);obtain ⟨a,ha⟩:∃ x,L[m1]?=some x:=⟨_,List.getElem?_eq_getElem (by rw [HLN.out];exact HM1.out.2)⟩
   obtain ⟨b,hb⟩:∃ x,L[m2]?=some x:=⟨_,List.getElem?_eq_getElem (by rw [HLN.out];exact HM2.out.2)⟩
   have HVX:Hid (Pg.vx L i=x∧Pg.vx L (i+L.length-1)=a∧Pg.vx L (i+1)=b):=Lib.hid ⟨Pg.vx_some (by rw [Nat.mod_eq_of_lt hiL];exact hx),Pg.vx_some (by rw [HLN.out,HM1.out.1];exact ha),Pg.vx_some (by rw [HLN.out,HM2.out.1];exact hb)⟩;have HGX:=Lib.hid hx;have HGA:=Lib.hid ha;have HGB:=Lib.hid hb;have HZX:=Lib.hid (HTH.out.sz _ (List.mem_of_getElem? hx));have HZA:=Lib.hid (HTH.out.sz _ (List.mem_of_getElem? ha));have HZB:=Lib.hid (HTH.out.sz _ (List.mem_of_getElem? hb));clear hx ha hb;subst hv4
   skip
   have kK10:=fun W=>on2_any x a b W ⟨HZA.out,HZB.out⟩ HZX.out (by omega) (by omega)
   generalize hT12:Pl.onSeg x a b=b11 at kK10;have K10:=Lib.hid kK10;clear kK10;have HhT12:=Lib.hid hT12;clear hT12;go_wp2_with fail;refine wp_named ?_;intro W2 hW2;have hL2:LB3 wr7 W2:=by rw [hW2];exact bB
   have O13:=Lib.hid (owns_up O9.out hL2);have hB14:LB3 w W2:=by rw [hW2];exact bB
   clear hW2 hL2;have ce15:=LX.at_ (owns_viewP O13.out) HGX.out;have dce15:=fun b:Bel W2=>ce15.bel b
   simp only [CE,Nat.reduceMul,Nat.zero_add] at dce15;have ce16:=LX.at_ (owns_viewP O13.out) HGA.out;have dce16:=fun b:Bel W2=>ce16.bel b
   simp only [CE,Nat.reduceMul,Nat.zero_add] at dce16;have ce17:=LX.at_ (owns_viewP O13.out) HGB.out;have dce17:=fun b:Bel W2=>ce17.bel b
   simp only [CE,Nat.reduceMul,Nat.zero_add] at dce17;refine wp_region_all (by kernel_rfl) (by kernel_rfl) ?_;repeat (go_big_quiet_step (first|(go_at_call 75;with_reducible exact Calls.bel (K10.out _))))
   refine wpQuiet_nil ?_;intro w2 hb2;have O18:=Lib.hid (owns_up O13.out hb2);have hB19:LB3 w w2:=bel_up hB14 hb2;clear dce15 dce16 dce17 O13;cases b11
   ·skip
    go_wp2;go_roundg (f2)
    case rel=>exact ⟨(i+1),n,L,f2,(by first|rfl|exact congrArg (Value.int .i64) (by omega)|simp [*]),(by repeat (first|with_reducible exact O18.out|refine owns_far ?_ _ (by omega) _|with_reducible refine World.ownsRow.alloc ?_ _)),(by exact bB),⟨by omega,by omega⟩,HLN,Lib.hid (HTH.out.go hiL (by rw [HVX.out.1,HVX.out.2.1,HVX.out.2.2];exact HhT12.out)),Lib.hid rfl⟩
    case measure=>(rw [HGK6.out];omega)
   ·skip
    clear r1 r3 t1 t3 t5 j1 i3 i4;go_wp2_with (fail)
    refine calls_named ?_;intro W3 hW3;have hL3:LB3 w2 W3:=by rw [hW3];exact bB
    have O20:=Lib.hid (owns_up O18.out hL3);have hB21:LB3 w W3:=by rw [hW3];exact bB
    clear hW3 hL3;with_reducible refine (delete_any _ L n w.heap.size i _ O20.out (by omega) hlti).mono ?_
    rintro e wd ⟨vd,rfl,hod,hbd⟩;have OD:=Lib.hid hod;have hBD:=Below.trans hB21 hbd;clear hod hbd O20 hB21;go_wp2;go_roundg (f2)
    case rel=>exact ⟨0,(n-1),(L.eraseIdx i),f2,(by first|rfl|exact congrArg (Value.int .i64) (by omega)|simp [*]),(by repeat (first|with_reducible exact OD.out|refine owns_far ?_ _ (by omega) _|with_reducible refine World.ownsRow.alloc ?_ _)),(by exact bB),⟨by omega,by omega⟩,Lib.hid (by rw [List.length_eraseIdx,if_pos hiL,HLN.out]),Lib.hid (HTH.out.del hiL (by rw [HVX.out.1,HVX.out.2.1,HVX.out.2.2];exact HhT12.out)),Lib.hid rfl⟩
    case measure=>(rw [HGK6.out];omega)
  ·skip
   have hkN:n=i:=by omega
   subst hkN;have HLT:Hid (L=Pg.thinP 300 l 0):=Lib.hid (HTH.out.fin (by rw [HLN.out];omega));have HL1:Hid (1≤L.length):=Lib.hid (thin_two HAR.out HLT.out);have hn1:1≤n:=by have:=HL1.out;rw [HLN.out] at this;exact this
   have HSZ:=Lib.hid HTH.out.sz;obtain ⟨g4,c4,hv4,hc4,hcm4,hg4,hgb4⟩:=owns_form O9.out (by omega);subst hv4;have K22:=Lib.hid (fun W (hW:PV W (.slice (some ⟨g4,0,none⟩) n c4) L)=>parea_any _ L W hW HSZ.out (by rw [HLN.out];omega) hS);go_wp2_with (fail)
   refine calls_named ?_;intro W4 hW4;have hL4:LB3 wr7 W4:=by rw [hW4];exact bB
   have O23:=Lib.hid (owns_up O9.out hL4);have hB24:LB3 w W4:=by rw [hW4];exact bB
   clear hW4 hL4;with_reducible refine (K22.out _ (pv_own O23.out)).mono ?_
   rintro e w4 ⟨rfl,hb4⟩;have O25:=Lib.hid (owns_up O23.out hb4);have hB26:LB3 w w4:=bel_up hB24 hb4;clear O23;have kK27:=fun W=>qsign_any (Pg.ringA L) W
   generalize hT29:Pl.sgn (Pg.ringA L)=g28 at kK27;have K27:=Lib.hid kK27;clear kK27;have HhT29:=Lib.hid hT29;clear hT29;go_wp2_with (fail)
   refine calls_named ?_;intro W5 hW5;have hL5:LB3 w4 W5:=by rw [hW5];exact bB
   have O30:=Lib.hid (owns_up O25.out hL5);have hB31:LB3 w W5:=by rw [hW5];exact bB
   clear hW5 hL5;with_reducible refine (K27.out _).mono ?_
   rintro e w5 ⟨rfl,hb5⟩;have O32:=Lib.hid (owns_up O30.out hb5);have hB33:LB3 w w5:=bel_up hB31 hb5;clear O30
   by_cases hc34:(g28:Int)=sg
   ·skip
    have hc34_:(((g28:Int))==sg)=true:=by simpa using hc34
    have Hhc34:=Lib.hid hc34;clear hc34;obtain ⟨O,hO⟩:∃ z,z=L:=⟨_,rfl⟩
    have HOR:Hid (O=Pg.orient L sg):=Lib.hid (by rw [hO];exact orient_n HhT29.out Hhc34.out);have HLO:Hid (O.length=n):=Lib.hid (by rw [hO];exact HLN.out);have HSO:Hid (∀ q∈O,Pl.SzP S q):=Lib.hid (by rw [hO];exact HSZ.out);have OO:Hid (w5.ownsRow w.heap.size 45 8 (.slice (some ⟨g4,0,none⟩) n c4) n (pts O)):=Lib.hid (by rw [hO];exact O32.out);have HMM:Hid (Pg.least O∈O):=Lib.hid (Pg.least_is (by intro e_;have:=HLO.out;rw [e_] at this;simp at this;omega)).1;obtain ⟨k0,hk0⟩:∃ z,Pg.idx O (Pg.least O)=z:=⟨_,rfl⟩
    have HK0:=Lib.hid hk0;have hk1:k0<n:=by rw [← hk0,← HLO.out];exact (Pg.idx_spec HMM.out).1
    clear hO hk0 O32;have K35:=Lib.hid (fun W (hW:PV W (.slice (some ⟨g4,0,none⟩) n c4) O)=>minf_any _ O W hW HSO.out (by rw [HLO.out];omega) (by omega) (by rw [HLO.out];omega));go_wp2_with (fail)
    refine calls_named ?_;intro W6 hW6;have hL6:LB3 w5 W6:=by rw [hW6];exact bB
    have O36:=Lib.hid (owns_up OO.out hL6);have hB37:LB3 w W6:=by rw [hW6];exact bB
    clear hW6 hL6;with_reducible refine (K35.out _ (pv_own O36.out)).mono ?_
    rintro e w6 ⟨rfl,hb6⟩;have O38:=Lib.hid (owns_up O36.out hb6);have hB39:LB3 w w6:=bel_up hB37 hb6;clear O36;have K40:=Lib.hid (fun W (hW:PV W (.slice (some ⟨g4,0,none⟩) n c4) O)=>HK0.out▸index_any _ O (Pg.least O) W hW HSO.out (by rw [HLO.out];omega) HMM.out);go_wp2_with (fail)
    refine calls_named ?_;intro W7 hW7;have hL7:LB3 w6 W7:=by rw [hW7];exact bB
    have O41:=Lib.hid (owns_up O38.out hL7);have hB42:LB3 w W7:=by rw [hW7];exact bB
    clear hW7 hL7;with_reducible refine (K40.out _ (pv_own O41.out)).mono ?_
    rintro e w7 ⟨rfl,hb7⟩;have O43:=Lib.hid (owns_up O41.out hb7);have hB44:LB3 w w7:=bel_up hB42 hb7;clear O41;have P1:=Lib.hid (pv_high O43.out (k:=k0) (by omega) (by omega));have P2:=Lib.hid (pv_low O43.out (k:=k0) (by omega));have q1:(k0:Int)≤n:=by omega
    have q2:(n:Int)≤c4:=by omega
    have q3:¬ c4=k0:=by omega
    have q4:(k0:Int)≤c4:=by omega
    go_wp2_with fail;refine wp_region_tail 6 (by kernel_rfl) (by kernel_rfl) ?_;simp only [List.take_succ_cons,List.take_zero,List.drop_succ_cons,List.drop_zero];repeat (go_big_quiet_step (fail))
    refine wpQuiet_nil ?_;intro wa ha;have P1b:=Lib.hid (P1.out.up ha);have P2b:=Lib.hid (P2.out.up ha);have hBa:=bel_up hB44 ha;clear P1 P2 ha;go_wp2_with fail;refine calls_named ?_;intro Wc hWc;have hLc:Below wa.heap.size wa Wc:=by rw [hWc];repeat (first|with_reducible exact Below.refl _ _|with_reducible refine bel_alloc ?_ _)
    have z0:Wc.cell? ⟨wa.heap.size,0,none⟩=some (.slice (some ⟨g4,k0*8,none⟩) (n-k0) (c4-k0)):=by rw [hWc];simp [go_sem]
    have z1:Wc.cell? ⟨wa.heap.size,1,none⟩=some (.slice (some ⟨g4,0,none⟩) k0 c4):=by rw [hWc];simp [go_sem]
    clear hWc;with_reducible refine (concat_any _ _ _ _ _ _ (P1b.out.up hLc) (P2b.out.up hLc) z0 z1 (by rw [List.length_drop,HLO.out];omega) (by rw [List.length_take,HLO.out];omega) (by rw [List.length_drop,List.length_take,HLO.out];omega)).mono ?_
    rintro e w9 ⟨v9,rfl,hp9,hb9⟩;have hb9:=bel_up (bel_up hBa hLc) hb9;have P9:=Lib.hid hp9;clear hp9 z0 z1 hLc;go_wp2;go_ret;exact ⟨_,rfl,by rw [form_def HLT.out HOR.out HK0.out];exact P9.out,hb9⟩
   ·skip
    have hc34_:(((g28:Int))==sg)=false:=by simpa using hc34
    go_wp2_with (fail)
    refine calls_named ?_;intro W8 hW8;have hL8:LB3 w5 W8:=by rw [hW8];exact bB
    have O46:=Lib.hid (owns_up O32.out hL8);have hB47:LB3 w W8:=by rw [hW8];exact bB
    clear hW8 hL8;with_reducible refine (reverse_any _ n w.heap.size L _ O46.out HSZ.out (by omega)).mono ?_
    rintro e w8 ⟨rfl,hp8,hst8⟩;have O48:=Lib.hid hp8;clear hp8;have hB49:LB3 w w8:=hst8.below hB47 (hB47).size (fun r hr=>(O46.out.lt r hr).1);clear O46 hB47;obtain ⟨O,hO⟩:∃ z,z=L.reverse:=⟨_,rfl⟩
    have HOR:Hid (O=Pg.orient L sg):=Lib.hid (by rw [hO];exact orient_y HhT29.out hc34);have HLO:Hid (O.length=n):=Lib.hid (by rw [hO];rw [List.length_reverse];exact HLN.out);have HSO:Hid (∀ q∈O,Pl.SzP S q):=Lib.hid (by rw [hO];exact fun q hq=>HSZ.out q (List.mem_reverse.1 hq));have OO:Hid (w8.ownsRow w.heap.size 45 8 (.slice (some ⟨g4,0,none⟩) n c4) n (pts O)):=Lib.hid (by rw [hO];exact O48.out);have HMM:Hid (Pg.least O∈O):=Lib.hid (Pg.least_is (by intro e_;have:=HLO.out;rw [e_] at this;simp at this;omega)).1;obtain ⟨k0,hk0⟩:∃ z,Pg.idx O (Pg.least O)=z:=⟨_,rfl⟩
    have HK0:=Lib.hid hk0;have hk1:k0<n:=by rw [← hk0,← HLO.out];exact (Pg.idx_spec HMM.out).1
    clear hO hk0 O48;have K50:=Lib.hid (fun W (hW:PV W (.slice (some ⟨g4,0,none⟩) n c4) O)=>minf_any _ O W hW HSO.out (by rw [HLO.out];omega) (by omega) (by rw [HLO.out];omega));go_wp2_with (fail)
    refine calls_named ?_;intro W9 hW9;have hL9:LB3 w8 W9:=by rw [hW9];exact bB
    have O51:=Lib.hid (owns_up OO.out hL9);have hB52:LB3 w W9:=by rw [hW9];exact bB
    clear hW9 hL9;with_reducible refine (K50.out _ (pv_own O51.out)).mono ?_
    rintro e w9 ⟨rfl,hb9⟩;have O53:=Lib.hid (owns_up O51.out hb9);have hB54:LB3 w w9:=bel_up hB52 hb9;clear O51;have K55:=Lib.hid (fun W (hW:PV W (.slice (some ⟨g4,0,none⟩) n c4) O)=>HK0.out▸index_any _ O (Pg.least O) W hW HSO.out (by rw [HLO.out];omega) HMM.out);go_wp2_with (fail)
    refine calls_named ?_;intro W10 hW10;have hL10:LB3 w9 W10:=by rw [hW10];exact bB
    have O56:=Lib.hid (owns_up O53.out hL10);have hB57:LB3 w W10:=by rw [hW10];exact bB
    clear hW10 hL10;with_reducible refine (K55.out _ (pv_own O56.out)).mono ?_
    rintro e w10 ⟨rfl,hb10⟩;have O58:=Lib.hid (owns_up O56.out hb10);have hB59:LB3 w w10:=bel_up hB57 hb10;clear O56;have P1:=Lib.hid (pv_high O58.out (k:=k0) (by omega) (by omega));have P2:=Lib.hid (pv_low O58.out (k:=k0) (by omega));have q1:(k0:Int)≤n:=by omega
    have q2:(n:Int)≤c4:=by omega
    have q3:¬ c4=k0:=by omega
    have q4:(k0:Int)≤c4:=by omega
    go_wp2_with fail;refine wp_region_tail 6 (by kernel_rfl) (by kernel_rfl) ?_;simp only [List.take_succ_cons,List.take_zero,List.drop_succ_cons,List.drop_zero];repeat (go_big_quiet_step (fail))
    refine wpQuiet_nil ?_;intro wa ha;have P1b:=Lib.hid (P1.out.up ha);have P2b:=Lib.hid (P2.out.up ha);have hBa:=bel_up hB59 ha;clear P1 P2 ha;go_wp2_with fail;refine calls_named ?_;intro Wc hWc;have hLc:Below wa.heap.size wa Wc:=by rw [hWc];repeat (first|with_reducible exact Below.refl _ _|with_reducible refine bel_alloc ?_ _)
    have z0:Wc.cell? ⟨wa.heap.size,0,none⟩=some (.slice (some ⟨g4,k0*8,none⟩) (n-k0) (c4-k0)):=by rw [hWc];simp [go_sem]
    have z1:Wc.cell? ⟨wa.heap.size,1,none⟩=some (.slice (some ⟨g4,0,none⟩) k0 c4):=by rw [hWc];simp [go_sem]
    clear hWc;with_reducible refine (concat_any _ _ _ _ _ _ (P1b.out.up hLc) (P2b.out.up hLc) z0 z1 (by rw [List.length_drop,HLO.out];omega) (by rw [List.length_take,HLO.out];omega) (by rw [List.length_drop,List.length_take,HLO.out];omega)).mono ?_
    rintro e w9 ⟨v9,rfl,hp9,hb9⟩;have hb9:=bel_up (bel_up hBa hLc) hb9;have P9:=Lib.hid hp9;clear hp9 z0 z1 hLc;go_wp2;go_ret;exact ⟨_,rfl,by rw [form_def HLT.out HOR.out HK0.out];exact P9.out,hb9⟩
end Go.Proofs.YtiochgoocbkckaaGreatDoor

namespace Go.Proofs.YtiochgoocbkckaaGreatDoor
open Go Go.RowKit

theorem pts_noslice {l:List (Rat×Rat)} {A:Option Addr} {n c:Nat} (h:Value.slice A n c∈pts l):False:=by
 unfold pts at h;obtain ⟨p,_,h⟩:=List.mem_flatMap.1 h;simp [pcells] at h
theorem pv_setS {w:World} {v u:Value} {l:List (Rat×Rat)} {p:Addr} {A:Option Addr} {m k:Nat} (h:PV w v l) (hc:w.cell? p=some (.slice A m k)):PV (w.setCell p u) v l:=by
 refine ⟨h.1,h.2.imp id fun ⟨g,o,c,hv,h1,h2,hx⟩=>⟨g,o,c,hv,h1,h2,fun j x hj => ?_⟩⟩;refine (World.cell?_setCell_other w _ _ _ fun e => ?_).trans (hx j x hj);have h3:=hx j x hj
 first
 | (rw [← e,hc] at h3;exact pts_noslice (by rw [Option.some.inj h3];exact List.mem_of_getElem? hj))
 | (rw [e,hc] at h3;exact pts_noslice (by rw [Option.some.inj h3];exact List.mem_of_getElem? hj))
def RLo (w:World) (base b:Nat) (v:Value) (Hs:List (List (Rat×Rat))):Prop:=∃ L n,w.ownsRow base 23 1 v n (vls L)∧v.ownBlock≠some b∧Rgs w L Hs
theorem RLo.nil (w:World) (base b:Nat):RLo w base b (.slice none 0 0) []:=⟨[],0,World.ownsRow_nil _ _ _ _,by simp [Value.ownBlock],Rgs.nil w⟩
theorem RLo.up {w w1:World} {base b:Nat} {v:Value} {Hs:List (List (Rat×Rat))} (h:RLo w base b v Hs) (hb:Below w.heap.size w w1):RLo w1 base b v Hs:=by
 obtain ⟨L,n,h1,h2,h3⟩:=h;exact ⟨L,n,owns_up h1 hb,h2,h3.up hb⟩
theorem RLo.set {w:World} {base b i:Nat} {v u:Value} {Hs:List (List (Rat×Rat))} {A:Option Addr} {m k:Nat} (h:RLo w base b v Hs) (hc:w.cell? ⟨b,i,none⟩=some (.slice A m k)):RLo (w.setCell ⟨b,i,none⟩ u) base b v Hs:=by
 obtain ⟨L,n,h1,h2,h3⟩:=h;exact ⟨L,n,owns_far h1 _ h2 _,h2,h3.1,fun i u l hu hl=>pv_setS (h3.2 i u l hu hl) hc⟩
theorem RLo.rl {w:World} {base b:Nat} {v:Value} {Hs:List (List (Rat×Rat))} (h:RLo w base b v Hs):RL w v Hs:=by
 obtain ⟨L,n,h1,h2,h3⟩:=h;exact ⟨L,vl_own h1,h3⟩
theorem RLo.re {w:World} {base b b2:Nat} {v:Value} {Hs:List (List (Rat×Rat))} (h:RLo w base b v Hs) (hb:b2<base):RLo w base b2 v Hs:=by
 obtain ⟨L,n,h1,h2,h3⟩:=h;exact ⟨L,n,h1,fun e=>by have:=(h1.lt _ e).1;omega,h3⟩
theorem RLo.set2 {w:World} {base b:Nat} {v u1 u2:Value} {Hs:List (List (Rat×Rat))} {A B:Option Addr} {m k m' k':Nat} (h:RLo w base b v Hs) (hO:Own w b 0 [.slice A m k,.slice B m' k']):RL ((w.setCell ⟨b,0,none⟩ u1).setCell ⟨b,1,none⟩ u2) v Hs :=
 ((h.set hO.1.1).set ((World.cell?_setCell_other w _ _ _ (fun e=>by injection e with _ e2;cases e2)).trans hO.2.1.1)).rl
theorem pv_set2 {w:World} {b:Nat} {v u1 u2:Value} {l:List (Rat×Rat)} {A B:Option Addr} {m k m' k':Nat} (h:PV w v l) (hO:Own w b 0 [.slice A m k,.slice B m' k']):PV ((w.setCell ⟨b,0,none⟩ u1).setCell ⟨b,1,none⟩ u2) v l :=
 pv_setS (pv_setS h hO.1.1) ((World.cell?_setCell_other w _ _ _ (fun e=>by injection e with _ e2;cases e2)).trans hO.2.1.1)
theorem rlo_put {w:World} {base b n:Nat} {v u:Value} {l:List (Rat×Rat)} (h:w.ownsRow base 23 1 v n (vls [u])) (hf:v.ownBlock≠some b) (hp:PV w u l):RLo w base b v [l]:=by
 refine ⟨[u],n,h,hf,rfl,fun i x m hx hm => ?_⟩
 cases i with
 | zero=>simp at hx hm;subst hx;subst hm;exact hp
 | succ i=>simp at hx
theorem take_first {α:Type} {Hs:List (List (Rat×Rat))} {r:List (Rat×Rat)} {k:Nat} {f:List (Rat×Rat)→α} (hk:k=0) (h:Hs[k]?=some r):(Hs.take (k+1)).map f=[f r]:=by
 subst hk
 cases Hs with
 | nil=>simp at h
 | cons a t=>simp at h;subst h;rfl
theorem formP_len (l:List (Rat×Rat)) (sg:Int):(Pg.formP l sg).length≤l.length:=by
 unfold Pg.formP;rw [Pg.canP_def,Pg.rotL]
 have h1:∀ (o:List (Rat×Rat)) (k:Nat),(o.drop k++o.take k).length=o.length:=fun o k=>by
  rw [List.length_append,List.length_drop,List.length_take];omega
 rw [h1];unfold Pg.orient;have h2:=(Pg.thin_sub 300 l 0).length_le
 split
 ·rw [List.length_reverse];exact h2
 ·exact h2
theorem owns_base {w:World} {b1 b2:Nat} {e:TypeId} {k n:Nat} {v:Value} {xs:List Value} (h:w.ownsRow b1 e k v n xs) (hb:b2≤b1):w.ownsRow b2 e k v n xs:=by
 refine ⟨h.1,?_⟩;rcases h.2 with h2|⟨g,cap,cur,h1,h2,h3⟩
 ·exact .inl h2
 ·exact .inr ⟨g,cap,cur,h1,by omega,h3⟩
theorem sl_one (V:World) (u:Value) {T:TypeId} : Sl (V.alloc (.cells #[u] T)) (.slice (some ⟨V.heap.size,0,none⟩) 1 1) 1 1 [u]:=by
 refine ⟨rfl,.inr ⟨V.heap.size,0,1,rfl,by omega,by decide,fun j x hj => ?_⟩⟩
 cases j with
 | zero=>simp at hj;subst hj;rw [World.cell?_alloc_at _ _ _ _ rfl];rfl
 | succ j=>simp at hj
theorem vlc_pv {w:World} {v:Value} {l:List (Rat×Rat)} (h:PV w v l):∀ u∈[v],u.oneCell'=true:=fun u hu=>by
 obtain ⟨A,c,rfl,-⟩:=h.open_;simp at hu;subst hu;rfl
theorem RLo.open1 {w:World} {base b:Nat} {v:Value} {Hs:List (List (Rat×Rat))} (h:RLo w base b v Hs):∃ A c,v=.slice A Hs.length c:=by
 obtain ⟨L,n,h1,_,h2⟩:=h;obtain ⟨A,c,hv,_⟩:=(vl_own h1).open_;exact ⟨A,c,by rw [hv,h2.1]⟩

set_option maxHeartbeats 4000000 in
theorem pcanon_any {S:Nat} (v:Value) (O:List (Rat×Rat)) (Hs:List (List (Rat×Rat))) (w:World) (h:PoV w v O Hs) (hO:∀ q∈O,Pl.SzP S q) (hH:∀ r∈Hs,∀ q∈r,Pl.SzP S q) (hn:O.length≤16) (hnH:∀ r∈Hs,r.length≤16) (hm:Hs.length≤1) (hS:S≤1000) (hA:Pg.ringA O≠0) (hAH:∀ r∈Hs,Pg.ringA r≠0) :
 Calls Tryz.prog 25 #[v] w fun e w'=>∃ v',e=.returned v'∧PoV w' v' (Pg.formP O 1) (Hs.map fun r=>Pg.formP r (-1))∧Below w.heap.size w w':=by
 obtain ⟨vo,vh,rfl,hvo,Lh,hvh,hrg⟩:=h;obtain ⟨Ah,ch,rfl,hch,hmh,hxh⟩:=hvh.open_;have HVO:=Lib.hid hvo;have HXH:=Lib.hid hxh;have HRG:=Lib.hid hrg;have HVH:=Lib.hid hvh;have hlh:Lh.length=Hs.length:=hrg.1;generalize hNh:Lh.length=Nh at *;have HNh:=Lib.hid hNh;have HLH:=Lib.hid hlh;have hb1:Nh≤1:=by omega
 have hbn:Nh≤20:=by omega
 clear hlh hvo hxh hrg hvh hNh;have hfl1:(Pg.formP O 1).length≤1000000:=Nat.le_trans (formP_len _ _) (Nat.le_trans hn (by decide));go_enter Tryz.func25,Tryz.ntmps25;have K1:=Lib.hid (fun W (hW:PV W vo O)=>pring_any _ O 1 W hW hO hn hS hA);go_wp2_with (fail)
 refine calls_named ?_;intro W1 hW1;have hL1:LB3 w W1:=by rw [hW1];exact bB
 have c2:Own W1 w.heap.size 0 [vo,.slice Ah Nh ch]:=by
  rw [hW1]
  first
  | (repeat (first|(with_reducible refine own_new ?_;(simp;done))|with_reducible refine Own.alloc ?_ _|refine Own.far _ _ (by first|(simp;done)|(simp [*];done)|(simp;omega)) ?_));done
  | simp [Own,go_sem]
 have c3:Own W1 (w.heap.size+1) 0 [.slice none 0 0,.slice none 0 0]:=by
  rw [hW1]
  first
  | (repeat (first|(with_reducible refine own_new ?_;(simp;done))|with_reducible refine Own.alloc ?_ _|refine Own.far _ _ (by first|(simp;done)|(simp [*];done)|(simp;omega)) ?_));done
  | simp [Own,go_sem]
 have hB4:LB3 w W1:=by rw [hW1];exact bB
 clear hW1 hL1;with_reducible refine (K1.out _ (HVO.out.up hB4)).mono ?_
 rintro e w1 ⟨v1,rfl,hv1,hb1⟩;have c5:=c2.up hb1;have c6:=c3.up hb1;have hB7:LB3 w w1:=bel_up hB4 hb1;clear c2 c3;obtain ⟨l1,hl1⟩:∃ y_,y_=(Pg.formP O 1):=⟨_,rfl⟩
 rw [← hl1] at hv1;obtain ⟨A1,c1,rfl,hcc1,hmm1,hx1⟩:=hv1.open_;have XX1:=Lib.hid hx1;have HL1:=Lib.hid hl1;have PL1:=Lib.hid hv1;clear hx1 hv1;have hlen1:l1.length=(Pg.formP O 1).length:=by rw [HL1.out];done
 have hle1:l1.length≤1000000:=by rw [hlen1];omega
 have HLEN1:=Lib.hid hlen1;clear hl1 hlen1;generalize hn1:l1.length=N1 at *;have HN1:=Lib.hid hn1;clear hn1;have an8:w1.heap.size≤w1.heap.size:=by omega
 have ne9_:w.heap.size<w1.heap.size:=by have:=c5.lt;omega
 have ne9:=Nat.ne_of_lt ne9_;have ne9':=ne9.symm;have ne10_:w.heap.size+1<w1.heap.size:=by have:=c6.lt;omega
 have ne10:=Nat.ne_of_lt ne10_;have ne10':=ne10.symm;have uc5:=c5;have uc6:=c6;simp only [At,Own,Nat.reduceAdd,and_true] at uc5 uc6;go_wp2_with fail;refine wp_named ?_;intro W2 hW2;have hL2:LB3 w1 W2:=by rw [hW2];exact bB
 have c11:=c6.up hL2
 have c12:Own W2 w1.heap.size 0 [.slice A1 N1 c1,.slice none 0 0]:=by
  rw [hW2]
  first
  | (repeat (first|(with_reducible refine own_new ?_;(simp;done))|with_reducible refine Own.alloc ?_ _|refine Own.far _ _ (by first|(simp;done)|(simp [*];done)|(simp;omega)) ?_));done
  | simp [Own,go_sem,uc5,uc6,ne9,ne9',ne9_,ne10,ne10',ne10_]
 have hA13:=hL2;have hB14:LB3 w W2:=by rw [hW2];exact bB
 clear hW2 hL2 uc5 uc6 c6;go_loopw [13] (fun s13 wr=>∃ (k:Nat) (vR:Value),s13=.int .i64 k∧Own wr (w.heap.size+1) 0 [.slice none 0 0,.slice none 0 0]∧Own wr w1.heap.size 0 [.slice A1 N1 c1,(vR)]∧Below w1.heap.size w1 wr∧Below w.heap.size w wr∧k≤Nh∧Hid (k=0→vR=.slice none 0 0)∧Hid (RLo wr w1.heap.size w1.heap.size vR ((Hs.take k).map fun r=>Pg.formP r (-1)))) (fun s13 _=>Nh-(intOf s13).toNat)
 case atStart=>exact ⟨0,(.slice none 0 0),rfl,c11,c12,hA13,hB14,(by omega),Lib.hid (fun _=>rfl),Lib.hid (RLo.nil _ _ _)⟩
 case round =>
  clear c11 c12 hB14 hA13;obtain ⟨k,vR,rfl,b15,b16,hA17,hB18,hk,HV0,HRL⟩:=hrel;obtain ⟨wr19,hwr19⟩:∃ W_,W_=wr:=⟨_,rfl⟩
  subst hwr19
  by_cases hltk:k<Nh
  ·skip
   have i1k:(k:Int)<Nh:=by omega
   obtain ⟨xr20,rg20,hx20,hr20,hp20⟩:=HRG.out.get (i:=k) (by rw [HNh.out];omega);have HX20:=Lib.hid hx20;have HR20:=Lib.hid hr20;have HP20:=Lib.hid hp20;clear hx20 hr20 hp20;have HK00:Hid (k=0):=Lib.hid (by omega);have hv0:=HV0.out HK00.out;subst hv0;have HRr:=HR20.out;have hfl2:(Pg.formP rg20 (-1)).length≤1000000:=Nat.le_trans (formP_len _ _) (Nat.le_trans (hnH _ (List.mem_of_getElem? HRr)) (by decide));clear HRL;obtain ⟨g22,o23,ha24,-⟩:=(HXH.out).up kpV hB18 _ _ HX20.out;subst ha24;have ce21:=LX.at_ ((HXH.out).up kpV hB18) HX20.out;have ce21_:g22<wr19.heap.size:=World.block_lt_of_cell? _ _ ce21.1;have uce21:=ce21;simp only [CVL,vlc,At,Nat.mul_one,Nat.reduceMul] at uce21;go_upto_region 5 with fail
   refine wp_named ?_;intro W3 hW3;have hL3:LB3 wr19 W3:=by rw [hW3];exact bB
   have c25:=b15.up hL3;have c26:=b16.up hL3;have hA27:=bel_up hA17 hL3;have hB28:LB3 w W3:=by rw [hW3];exact bB
   clear hW3 hL3 uce21 b15 b16 hA17;have hl29:w1.heap.size<W3.heap.size:=c26.lt;have hw29:w.heap.size≤W3.heap.size:=(hB28).size;have K30:=Lib.hid (fun W (hW:PV W xr20 rg20)=>pring_any _ rg20 (-1) W hW (hH _ (List.mem_of_getElem? HRr)) (hnH _ (List.mem_of_getElem? HRr)) hS (hAH _ (List.mem_of_getElem? HRr)));refine wp_region_chain3 7 (3,20) (4,21) (5,22) (fun v_ w_=>PV w_ v_ ((Pg.formP rg20 (-1)))) (fun v_ u_ w_=>PV w_ v_ ((Pg.formP rg20 (-1)))∧Sl w_ u_ 1 1 [v_]) (fun v_ u_ z_ w_=>PV w_ v_ ((Pg.formP rg20 (-1)))∧w_.ownsRow W3.heap.size 23 1 z_ 1 [v_]) (by kernel_rfl) rfl rfl rfl (by kernel_rfl) (by simp) (fun _ _ _ h_ hb_=>h_.up hb_) (fun _ _ _ _ h_ hb_=>⟨h_.1.up hb_,h_.2.up hb_⟩) (fun _ _ _ _ _ h_ hb_=>⟨h_.1.up hb_,owns_up h_.2 hb_⟩) ?_;intro V_29 hV_29;have vc25:=c25.up hV_29;have dc25:=fun p:Bel V_29=>vc25.bel p
   have vc26:=c26.up hV_29;have dc26:=fun p:Bel V_29=>vc26.bel p
   simp only [At,Own,Nat.reduceAdd,and_true] at dc25 dc26;simp only [maskHL,maskH,List.any_cons,List.any_nil,Nat.reduceAdd,Nat.reduceBEq,Bool.or_false,Bool.false_or,Bool.or_self,Bool.false_eq_true,Bool.or_true,Bool.true_or,reduceIte,List.take_succ_cons,List.take_zero];repeat (go_big_quiet_step (first|fail))
   refine wpQuiet_nil ?_;refine ⟨fun V1_ hV1_ => ?_,fun v_ V1_ hV1_ hf_ => ?_,fun v_ u_ V1_ hV1_ hf_ => ?_,?_⟩
   ·go_wp2_with (go_at_call 67;with_reducible refine (K30.out _ ((HP20.out.up hB28).up hV1_)).mono ?_;rintro e w2_ ⟨vv_,rfl,hvv_,hbq_⟩)
    all_goals exact ⟨vv_,rfl,rfl,hbq_,hvv_⟩
   ·have hp_:=hf_
    obtain ⟨A_,c_,rfl,-⟩:=hf_.open_;simp only [Act.put,List.setIfInBounds_toArray,List.set_cons_zero,List.set_cons_succ];go_wp2_with fail;exact ⟨(Below.refl _ _).alloc (Nat.le_refl _) _,hp_.up ((Below.refl _ _).alloc (Nat.le_refl _) _),sl_one _ _⟩
   ·simp only [Act.put,List.setIfInBounds_toArray,List.set_cons_zero,List.set_cons_succ]
    go_wp2_with (at_builtin;refine wpList_appX rfl _ _ _ rfl ti_vl (World.ownsRow_nil _ W3.heap.size _ _) hV1_.size rfl rfl hf_.2 (vlc_pv hf_.1) (by omega) (by decide) ?_;intro z_ w2_ h2_ h3_)
    exact ⟨h3_.below (Below.refl _ _) (Nat.le_refl _) (fun r hr=>by simp [Value.ownBlock] at hr),hf_.1.up (h3_.below (Below.refl _ _) (Nat.le_refl _) (fun r hr=>by simp [Value.ownBlock] at hr)),h2_⟩
   intro vh_29 uh_29 zh_29 wn_29 hbn_29 hf_29;clear dc26 vc26 dc25 vc25 hV_29 V_29;simp only [Act.put,List.setIfInBounds_toArray,List.set_cons_zero,List.set_cons_succ,List.drop_succ_cons,List.drop_zero];have c31:=c25.up hbn_29;have c32:=c26.up hbn_29;have hA33:=bel_up hA27 hbn_29;have hB34:LB3 w wn_29:=bel_up hB28 hbn_29;clear c25 c26 hA27;obtain ⟨gr29,cr29,hr29,-⟩:=owns_form hf_29.2 (by omega);subst hr29;have HF29:=Lib.hid hf_29;have f35:(Value.slice (some ⟨gr29,0,none⟩) 1 cr29).ownBlock≠some w1.heap.size:=fun e_=>by have h1_:=(hf_29.2.lt _ e_).1;omega
   have uc31:=c31;have uc32:=c32;simp only [At,Own,Nat.reduceAdd,and_true] at uc31 uc32;go_wp2;go_roundw
   case rel=>exact ⟨(k+1),(.slice (some ⟨gr29,0,none⟩) 1 cr29),(by first|rfl|exact congrArg (Value.int .i64) (by omega)|simp [*]),(by repeat (first|with_reducible exact c31|refine Own.far _ _ (by simp<;>omega) ?_|with_reducible refine Own.alloc ?_ _)),(by simp [Own,go_sem,uc31,uc32]),(by exact bB),(by exact bB),(by omega),Lib.hid (fun e_=>absurd e_ (by omega)),Lib.hid (by rw [take_first HK00.out HRr];exact rlo_put (owns_far (owns_base HF29.out.2 (by omega)) _ f35 _) f35 (pv_setS HF29.out.1 c32.2.1.1))⟩
   case measure=>simp [intOf]<;>omega
  ·skip
   have hkN:Nh=k:=by omega
   subst hkN;have HRL2:Hid (RLo wr19 w1.heap.size w1.heap.size vR (Hs.map fun r=>Pg.formP r (-1))):=Lib.hid (by have:=HRL.out;rwa [List.take_of_length_le (by rw [← HLH.out];exact Nat.le_refl _)] at this);obtain ⟨AR,cR,hvR⟩:=HRL2.out.open1;rw [List.length_map] at hvR;obtain ⟨nR,hnR0⟩:∃ n,n=Hs.length:=⟨_,rfl⟩
   rw [← hnR0] at hvR;have hnR:nR≤1:=by omega
   clear hnR0;subst hvR;have ub15:=b15;have ub16:=b16;simp only [At,Own,Nat.reduceAdd,and_true] at ub15 ub16;have K36:=Lib.hid (fun W=>sortR_any AR nR cR (.func (.func 69) #[] #[]) W hnR);go_wp2_with (fail)
   refine calls_named ?_;intro W4 hW4;have hL4:LB3 wr19 W4:=by rw [hW4];exact bB
   have c37:=b15.up hL4;have c38:=b16.up hL4;have hA39:=bel_up hA17 hL4;have hA40:=hL4;have hB41:LB3 w W4:=by rw [hW4];exact bB
   clear hW4 hL4 ub15 ub16 b15 b16 hA17;with_reducible refine (K36.out _).mono ?_
   rintro e w4 ⟨rfl,hb4⟩;have c42:=c37.up hb4;have c43:=c38.up hb4;have hA44:=bel_up hA39 hb4;have hA45:=bel_up hA40 hb4;have hB46:LB3 w w4:=bel_up hB41 hb4;clear c37 c38 hA39 hA40;have uc42:=c42;have uc43:=c43;simp only [At,Own,Nat.reduceAdd,and_true] at uc42 uc43;go_wp2;refine bodyPost_ret (v:=.agg #[.slice A1 N1 c1,((.slice AR nR cR))]) (by simp [results,Tryz.results25,go_sem,uc42,uc43]) rfl ⟨_,rfl,⟨_,_,rfl,(by rw [← HL1.out];exact pv_set2 (PL1.out.up hA44) c42),(RLo.set2 (RLo.re (b2:=w.heap.size+1) (HRL2.out.up hA45) (by omega)) c42)⟩,?_⟩;exact bB
end Go.Proofs.YtiochgoocbkckaaGreatDoor
