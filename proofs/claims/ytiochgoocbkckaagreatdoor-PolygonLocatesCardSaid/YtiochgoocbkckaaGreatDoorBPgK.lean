/-
 Package slices: the sort of at most one row.
 Package slices: the index of a point, the least point.
 Package slices: one point taken out of a row of the call's own.
 A point inside of a shape: half way between the first two edges at a height between the two lowest heights of vertices. No program in sight.
 A point inside of a shape: what Inner finds. No program in sight.
 A point inside of a shape: out of the sorted crossings. No program in sight.
-/
import Derived.Test.YtiochgoocbkckaaGreatDoorAgbh
import Derived.Test.YtiochgoocbkckaaGreatDoorShelf
import Derived.Test.YtiochgoocbkckaaGreatDoorAgao
import Derived.Test.YtiochgoocbkckaaGreatDoorAgax
import Derived.Test.YtiochgoocbkckaaGreatDoorARst
import Derived.Deep.RegionLaw
set_option maxRecDepth 100000
set_option linter.unusedSimpArgs false
set_option linter.unusedVariables false
namespace Go.Proofs.YtiochgoocbkckaaGreatDoor
open Go Go.RowKit
abbrev LB4 (a b:World):Prop:=Below a.heap.size a b
theorem oFB4 {p:Prop} (h:p:=by repeat (first|with_reducible assumption|refine Own.far _ _ (by simp<;>omega) ?_|with_reducible refine Own.alloc ?_ _)):p:=h

theorem ins1_any (v f:Value) (n:Nat) (w:World) (hn:n≤1) :
 Calls Tryz.prog 161 #[v,.int .i64 0,.int .i64 n,f] w fun e w'=>e=.returned (.tuple #[])∧Below w.heap.size w w':=by
 have j1:¬ (1:Int)<n:=by omega
 go_enter Tryz.func161,Tryz.ntmps161;go_wp2_with fail;go_loopw [8] (fun s8 wr=>s8=.int .i64 1∧Below w.heap.size w wr) (fun s8 _=>0-(intOf s8).toNat)
 case atStart=>exact ⟨rfl,Below.refl _ _⟩
 case round =>
  obtain ⟨rfl,hB1⟩:=hrel;obtain ⟨wr2,hwr2⟩:∃ W_,W_=wr:=⟨_,rfl⟩
  subst hwr2;go_wp2
  (first|(refine bodyPost_ret (results_none rfl _ _ _) rfl ?_)|go_end0)
  refine ⟨rfl,?_⟩;exact bB

theorem pdq1_any (v f:Value) (n:Nat) (lim:Int) (w:World) (hn:n≤1) :
 Calls Tryz.prog 129 #[v,.int .i64 0,.int .i64 n,.int .i64 lim,f] w fun e w'=>e=.returned (.tuple #[])∧Below w.heap.size w w':=by
 have j1:¬ (12:Int)<n:=by omega
 have j2:(n:Int)≤12:=by omega
 go_enter Tryz.func129,Tryz.ntmps129;go_wp2_with fail;go_loopw [1,2,3,10,11] (fun s1 s2 s3 s10 s11 wr=>s1=.int .i64 0∧s2=.int .i64 n∧s3=.int .i64 lim∧s10=.bool true∧s11=.bool true∧Below w.heap.size w wr) (fun _ _ s3 _ _ _=>0-(intOf s3).toNat)
 case atStart=>exact ⟨rfl,rfl,rfl,rfl,rfl,Below.refl _ _⟩
 case round =>
  obtain ⟨rfl,rfl,rfl,rfl,rfl,hB1⟩:=hrel;obtain ⟨wr2,hwr2⟩:∃ W_,W_=wr:=⟨_,rfl⟩
  subst hwr2;have K3:=Lib.hid (fun W=>ins1_any v f n W hn);go_wp2_with (fail)
  refine calls_named ?_;intro W1 hW1;have hL1:LB4 wr2 W1:=by rw [hW1];exact bB
  have hB4:LB4 w W1:=by rw [hW1];exact bB
  clear hW1 hL1;with_reducible refine (K3.out _).mono ?_
  rintro e w1 ⟨rfl,hb1⟩;have hB5:LB4 w w1:=bel_up hB4 hb1;go_wp2
  (first|(refine bodyPost_ret (results_none rfl _ _ _) rfl ?_)|go_end0)
  refine ⟨rfl,?_⟩;exact bB

theorem bitlen_any (n:Nat) (w:World) (hn:n≤1000000):Calls Tryz.prog 130 #[.int .u64 n] w fun e w'=>e=.returned (.int .i64 (Lib.bitLen n))∧Below w.heap.size w w' :=
 (Tryz.bits_Len n w (by omega) (by omega)).mono fun _ _ ⟨h1,h2⟩=>⟨by rw [h1];rfl,by subst h2;exact Below.refl _ _⟩

theorem sortR_any (Ah:Option Addr) (n ch:Nat) (f:Value) (w:World) (hn:n≤1) :
 Calls Tryz.prog 68 #[.slice Ah n ch,f] w fun e w'=>e=.returned (.tuple #[])∧Below w.heap.size w w':=by
 go_enter Tryz.func68,Tryz.ntmps68;have K1:=Lib.hid (fun W=>(bitlen_any n W (by omega)));go_wp2_with (fail)
 refine calls_named ?_;intro W1 hW1;have hL1:LB4 w W1:=by rw [hW1];exact bB
 have hB2:LB4 w W1:=by rw [hW1];exact bB
 clear hW1 hL1;with_reducible refine (K1.out _).mono ?_
 rintro e w1 ⟨rfl,hb1⟩;have hB3:LB4 w w1:=bel_up hB2 hb1;have K4:=Lib.hid (fun W=>pdq1_any (.slice Ah n ch) f n (Lib.bitLen n:Int) W hn);go_wp2_with (fail)
 refine calls_named ?_;intro W2 hW2;have hL2:LB4 w1 W2:=by rw [hW2];exact bB
 have hB5:LB4 w W2:=by rw [hW2];exact bB
 clear hW2 hL2;with_reducible refine (K4.out _).mono ?_
 rintro e w2 ⟨rfl,hb2⟩;have hB6:LB4 w w2:=bel_up hB5 hb2;go_wp2
 (first|(refine bodyPost_ret (results_none rfl _ _ _) rfl ?_)|go_end0)
 refine ⟨rfl,?_⟩;exact bB
end Go.Proofs.YtiochgoocbkckaaGreatDoor

namespace Go.Proofs.YtiochgoocbkckaaGreatDoor
open Go Go.RowKit

theorem idx_at {l:List (Rat×Rat)} {k:Nat} {x:Rat×Rat} (h:l[k]?=some x) (hn:∀ j,j<k→l[j]?≠some x):Pg.idx l x=k:=by
 have hx:x∈l:=List.mem_of_getElem? h;obtain ⟨h1,h2,h3⟩:=Pg.idx_spec hx;have e:l[Pg.idx l x]?=some x:=by rw [List.getElem?_eq_getElem h1,← Pg.vx_lt h1,h2]
 rcases Nat.lt_trichotomy (Pg.idx l x) k with c|c|c
 ·exact absurd e (hn _ c)
 ·exact c
 ·have hk:=(List.getElem?_eq_some_iff.1 h).1
  have:=h3 k c;rw [Pg.vx_lt hk] at this;exact absurd (List.getElem?_eq_some_iff.1 h).2 this
theorem idx_no {l:List (Rat×Rat)} {N:Nat} {x:Rat×Rat} (hN:l.length=N) (h:∀ j,j<N→l[j]?≠some x) (hx:x∈l):False:=by
 obtain ⟨k,hk⟩:=List.getElem?_of_mem hx;have:=(List.getElem?_eq_some_iff.1 hk).1;exact h k (by omega) hk
theorem idx_step {l:List (Rat×Rat)} {k:Nat} {x y:Rat×Rat} (h:∀ j,j<k→l[j]?≠some x) (hy:l[k]?=some y) (hne:¬ x=y):∀ j,j<k+1→l[j]?≠some x:=fun j hj e=>by
 by_cases c:j=k
 ·subst c;rw [hy] at e;exact hne (Option.some.inj e).symm
 ·exact h j (by omega) e
theorem min_step {l:List (Rat×Rat)} {m x:Rat×Rat} {t:List (Rat×Rat)} {c:Int} (hl:l=x :: t) (hc:Pl.cmpP x m=c):Pg.minF l m=Pg.minF t (if c<0 then x else m):=by rw [hl,Pg.minF,hc]

set_option maxHeartbeats 1000000 in
theorem index_any {S:Nat} (v:Value) (l:List (Rat×Rat)) (x:Rat×Rat) (w:World) (h:PV w v l) (hs:∀ q∈l,Pl.SzP S q) (hn:l.length≤1000000) (hmem:x∈l) :
 Calls Tryz.prog 127 #[v,pv x] w fun e w'=>e=.returned (.int .i64 (Pg.idx l x:Nat))∧Below w.heap.size w w':=by
 have HM:=Lib.hid hmem;clear hmem;obtain ⟨A,c,rfl,hc,hm,hx⟩:=h.open_;have HV:=Lib.hid h;have HX:=Lib.hid hx;have HS:=Lib.hid hs;have HF:Hid (l.take l.length=l):=Lib.hid List.take_length;generalize hN:l.length=N at *;have HN:=Lib.hid hN;clear h hx hs hN;go_enter Tryz.func127,Tryz.ntmps127;go_wp2_with fail;refine wp_named ?_;intro W1 hW1;have hL1:LB4 w W1:=by rw [hW1];exact bB
 have c1:Own W1 w.heap.size 0 [.bool (ng x.1.num),.string (mg x.1.num.natAbs),.bool false,.string (mg (dn x.1)),.bool (ng x.2.num),.string (mg x.2.num.natAbs),.bool false,.string (mg (dn x.2))]:=by
  rw [hW1]
  first
  | (repeat (first|(with_reducible refine own_new ?_;(simp;done))|with_reducible refine Own.alloc ?_ _|refine Own.far _ _ (by first|(simp;done)|(simp [*];done)|(simp;omega)) ?_));done
  | simp [Own,go_sem]
 have hB2:LB4 w W1:=by rw [hW1];exact bB
 clear hW1 hL1;go_loopw [8] (fun s8 wr=>∃ (k:Nat),s8=.int .i64 k∧Own wr w.heap.size 0 [.bool (ng x.1.num),.string (mg x.1.num.natAbs),.bool false,.string (mg (dn x.1)),.bool (ng x.2.num),.string (mg x.2.num.natAbs),.bool false,.string (mg (dn x.2))]∧Below w.heap.size w wr∧k≤N∧Hid (∀ j,j<k→l[j]?≠some x)) (fun s8 _=>N-(intOf s8).toNat)
 case atStart=>exact ⟨0,rfl,c1,hB2,(by omega),Lib.hid (fun j hj=>absurd hj (Nat.not_lt_zero _))⟩
 case round =>
  clear c1 hB2;obtain ⟨k,rfl,b3,hB4,hk,HE⟩:=hrel;obtain ⟨wr5,hwr5⟩:∃ W_,W_=wr:=⟨_,rfl⟩
  subst hwr5
  by_cases hltk:k<N
  ·skip
   have i1k:(k:Int)<N:=by omega
   obtain ⟨x6,hx7⟩:∃ x,l[k]?=some x:=⟨_,List.getElem?_eq_getElem (by rw [HN.out];omega)⟩
   have Hhx7:=Lib.hid hx7;have Zhx7:=Lib.hid (HS.out _ (List.mem_of_getElem? hx7));clear hx7
   by_cases hq8:x=x6
   ·skip
    have EQhq8:=fun W=>eqP_in x x6 W
    rw [decide_eq_true hq8] at EQhq8;have Hhq8:=Lib.hid hq8;clear hq8;go_wp2_with fail;refine wp_named ?_;intro W2 hW2;have hL2:LB4 wr5 W2:=by rw [hW2];exact bB
    have c9:=b3.up hL2;have hB10:LB4 w W2:=by rw [hW2];exact bB
    clear hW2 hL2 b3;have dc9:=fun p:Bel W2=>c9.bel p
    simp only [At,Own,Nat.reduceAdd,and_true] at dc9;obtain ⟨g12,o13,ha14,-⟩:=(HX.out).up kpP hB10 _ _ Hhx7.out;subst ha14;have ce11:=LX.at_ ((HX.out).up kpP hB10) Hhx7.out;have ce11_:g12<W2.heap.size:=World.block_lt_of_cell? _ _ ce11.1;have dce11:=fun b:Bel W2=>ce11.bel b
    simp only [CE,Nat.reduceMul] at dce11;refine wp_region_all (by kernel_rfl) (by kernel_rfl) ?_;repeat (go_big_quiet_step (fail))
    refine wpQuiet_nil ?_;intro w2 hb2;have c15:=c9.up hb2;have hB16:LB4 w w2:=bel_up hB10 hb2;clear dc9 dce11 c9;have uc15:=c15;simp only [At,Own,Nat.reduceAdd,and_true] at uc15;go_wp2;go_ret;refine ⟨(by rw [show Pg.idx l x=k from idx_at (by rw [Hhq8.out];exact Hhx7.out) HE.out]<;>rfl),?_⟩;exact bB
   ·skip
    have EQhq8:=fun W=>eqP_in x x6 W
    rw [decide_eq_false hq8] at EQhq8;have Hhq8:=Lib.hid hq8;clear hq8;go_wp2_with fail;refine wp_named ?_;intro W3 hW3;have hL3:LB4 wr5 W3:=by rw [hW3];exact bB
    have c17:=b3.up hL3;have hB18:LB4 w W3:=by rw [hW3];exact bB
    clear hW3 hL3 b3;have dc17:=fun p:Bel W3=>c17.bel p
    simp only [At,Own,Nat.reduceAdd,and_true] at dc17;obtain ⟨g20,o21,ha22,-⟩:=(HX.out).up kpP hB18 _ _ Hhx7.out;subst ha22;have ce19:=LX.at_ ((HX.out).up kpP hB18) Hhx7.out;have ce19_:g20<W3.heap.size:=World.block_lt_of_cell? _ _ ce19.1;have dce19:=fun b:Bel W3=>ce19.bel b
    simp only [CE,Nat.reduceMul] at dce19;refine wp_region_all (by kernel_rfl) (by kernel_rfl) ?_;repeat (go_big_quiet_step (fail))
    refine wpQuiet_nil ?_;intro w3 hb3;have c23:=c17.up hb3;have hB24:LB4 w w3:=bel_up hB18 hb3;clear dc17 dce19 c17;have uc23:=c23;simp only [At,Own,Nat.reduceAdd,and_true] at uc23;go_wp2;go_roundw
    case rel=>exact ⟨(k+1),(by first|rfl|exact congrArg (Value.int .i64) (by omega)|simp [*]),oFB4,(by exact bB),(by omega),Lib.hid (idx_step HE.out Hhx7.out Hhq8.out)⟩
    case measure=>simp [intOf]<;>omega
  ·skip
   have hkN:N=k:=by omega
   subst hkN;exact absurd (idx_no HN.out HE.out HM.out) id

set_option maxHeartbeats 1000000 in
theorem minf_any {S:Nat} (v:Value) (l:List (Rat×Rat)) (w:World) (h:PV w v l) (hs:∀ q∈l,Pl.SzP S q) (hn:l.length≤1000000) (hS:S≤100000) (h1:1≤l.length) :
 Calls Tryz.prog 128 #[v,.func (.func 70) #[] #[]] w fun e w'=>e=.returned (pv (Pg.least l))∧Below w.heap.size w w':=by
 obtain ⟨A,c,rfl,hc,hm,hx⟩:=h.open_;have HV:=Lib.hid h;have HX:=Lib.hid hx;have HS:=Lib.hid hs;have HF:Hid (l.take l.length=l):=Lib.hid List.take_length;generalize hN:l.length=N at *;have HN:=Lib.hid hN;clear h hx hs hN;have j1:¬ (N:Int)<1:=by omega
 have j2:(0:Int)<N:=by omega
 go_enter Tryz.func128,Tryz.ntmps128;obtain ⟨x1,hx2⟩:∃ x,l[0]?=some x:=⟨_,List.getElem?_eq_getElem (by rw [HN.out];omega)⟩
 have Hhx2:=Lib.hid hx2;have Zhx2:=Lib.hid (HS.out _ (List.mem_of_getElem? hx2));clear hx2;obtain ⟨g4,o5,ha6,-⟩:=HX.out _ _ Hhx2.out;subst ha6;have ce3:=LX.at_ (HX.out) Hhx2.out;have ce3_:g4<w.heap.size:=World.block_lt_of_cell? _ _ ce3.1;have uce3:=ce3;simp only [CE,Nat.reduceMul,Nat.zero_mul,Nat.add_zero,Nat.add_assoc,Nat.reduceAdd] at uce3;have ne7_:g4<w.heap.size+1:=by omega
 have ne7:=Nat.ne_of_lt ne7_;have ne7':=ne7.symm;go_wp2_with fail;refine wp_named ?_;intro W1 hW1;have hL1:LB4 w W1:=by rw [hW1];exact bB
 have c8:Own W1 w.heap.size 0 [.bool false,.string ⟨#[]⟩,.bool false,.string ⟨#[]⟩,.bool false,.string ⟨#[]⟩,.bool false,.string ⟨#[]⟩]:=by
  rw [hW1]
  first
  | (repeat (first|(with_reducible refine own_new (l:=[.bool false,.string ⟨#[]⟩,.bool false,.string ⟨#[]⟩,.bool false,.string ⟨#[]⟩,.bool false,.string ⟨#[]⟩]) ?_;(simp;done))|with_reducible refine Own.alloc ?_ _|refine Own.far _ _ (by first|(simp;done)|(simp [*];done)|(simp;omega)) ?_));done
  | simp [Own,go_sem,uce3,ne7,ne7',ne7_]
 have c9:Own W1 (w.heap.size+1) 0 [.bool (ng x1.1.num),.string (mg x1.1.num.natAbs),.bool false,.string (mg (dn x1.1)),.bool (ng x1.2.num),.string (mg x1.2.num.natAbs),.bool false,.string (mg (dn x1.2))]:=by
  rw [hW1]
  first
  | (repeat (first|(with_reducible refine own_new ?_;(simp;done))|with_reducible refine Own.alloc ?_ _|refine Own.far _ _ (by first|(simp;done)|(simp [*];done)|(simp;omega)) ?_));done
  | simp [Own,go_sem,uce3,ne7,ne7',ne7_]
 have hB10:LB4 w W1:=by rw [hW1];exact bB
 clear hW1 hL1 uce3;go_loopw [6] (fun s6 wr=>∃ (k:Nat) (m:Rat×Rat),s6=.int .i64 k∧Own wr w.heap.size 0 [.bool false,.string ⟨#[]⟩,.bool false,.string ⟨#[]⟩,.bool false,.string ⟨#[]⟩,.bool false,.string ⟨#[]⟩]∧Own wr (w.heap.size+1) 0 [.bool (ng m.1.num),.string (mg m.1.num.natAbs),.bool false,.string (mg (dn m.1)),.bool (ng m.2.num),.string (mg m.2.num.natAbs),.bool false,.string (mg (dn m.2))]∧Below w.heap.size w wr∧(1≤k∧k≤N)∧Hid (Pl.SzP S m)∧Hid (Pg.least l=Pg.minF (l.drop k) m)) (fun s6 _=>N-(intOf s6).toNat)
 case atStart=>exact ⟨1,x1,rfl,c8,c9,hB10,⟨by omega,by omega⟩,Lib.hid Zhx2.out,Lib.hid (by unfold Pg.least;rw [List.drop_one,Pl.getD_of Hhx2.out])⟩
 case round =>
  clear c8 c9 hB10;obtain ⟨k,m,rfl,b11,b12,hB13,hk,HMZ,HE⟩:=hrel;obtain ⟨wr14,hwr14⟩:∃ W_,W_=wr:=⟨_,rfl⟩
  subst hwr14
  by_cases hltk:k<N
  ·skip
   have i1k:(k:Int)<N:=by omega
   obtain ⟨x15,hx16⟩:∃ x,l[k]?=some x:=⟨_,List.getElem?_eq_getElem (by rw [HN.out];omega)⟩
   have Hhx16:=Lib.hid hx16;have Zhx16:=Lib.hid (HS.out _ (List.mem_of_getElem? hx16));clear hx16;have HDR:Hid (l.drop k=x15 :: l.drop (k+1)):=Lib.hid (Pl.drop_of Hhx16.out);have kK17:=fun W=>pcmp_any x15 m W Zhx16.out HMZ.out (by omega) (by omega)
   generalize hT19:Pl.cmpP x15 m=c18 at kK17;have K17:=Lib.hid kK17;clear kK17;have HhT19:=Lib.hid hT19;clear hT19;go_wp2_with fail;refine wp_named ?_;intro W2 hW2;have hL2:LB4 wr14 W2:=by rw [hW2];exact bB
   have c20:=b11.up hL2;have c21:=b12.up hL2;have hB22:LB4 w W2:=by rw [hW2];exact bB
   clear hW2 hL2 b11 b12;have dc20:=fun p:Bel W2=>c20.bel p;have dc21:=fun p:Bel W2=>c21.bel p
   simp only [At,Own,Nat.reduceAdd,and_true] at dc20 dc21;have ce23:=LX.at_ ((HX.out).up kpP hB22) Hhx16.out;have ce23_:g4<W2.heap.size:=World.block_lt_of_cell? _ _ ce23.1;have dce23:=fun b:Bel W2=>ce23.bel b
   simp only [CE,Nat.reduceMul] at dce23;refine wp_region_all (by kernel_rfl) (by kernel_rfl) ?_;repeat (go_big_quiet_step (first|(with_reducible exact Calls.bel (K17.out _))))
   refine wpQuiet_nil ?_;intro w2 hb2;have c24:=c20.up hb2;have c25:=c21.up hb2;have hB26:LB4 w w2:=bel_up hB22 hb2;clear dc20 dc21 dce23 c20 c21;have uc24:=c24;have uc25:=c25;simp only [At,Own,Nat.reduceAdd,and_true] at uc24 uc25
   by_cases hc27:(c18:Int)<0
   ·skip
    have hc27_d:decide ((c18:Int)<0)=true:=decide_eq_true hc27;have hc27_:¬ ((0:Int)≤c18):=by omega
    have ce28:=LX.at_ ((HX.out).up kpP hB26) Hhx16.out;have ce28_:g4<w2.heap.size:=World.block_lt_of_cell? _ _ ce28.1;have uce28:=ce28;simp only [CE,Nat.reduceMul] at uce28;go_wp2;go_roundw
    case rel=>exact ⟨(k+1),x15,(by first|rfl|exact congrArg (Value.int .i64) (by omega)|simp [*]),oFB4,(by simp [Own,go_sem,uc24,uc25,uce28]),(by exact bB),⟨by omega,by omega⟩,Lib.hid Zhx16.out,Lib.hid (by rw [HE.out,min_step HDR.out HhT19.out,if_pos hc27])⟩
    case measure=>simp [intOf]<;>omega
   ·skip
    have hc27_d:decide ((c18:Int)<0)=false:=decide_eq_false hc27;have hc27_:((0:Int)≤c18):=by omega
    go_wp2;go_roundw
    case rel=>exact ⟨(k+1),m,(by first|rfl|exact congrArg (Value.int .i64) (by omega)|simp [*]),oFB4,oFB4,(by exact bB),⟨by omega,by omega⟩,Lib.hid HMZ.out,Lib.hid (by rw [HE.out,min_step HDR.out HhT19.out,if_neg hc27])⟩
    case measure=>simp [intOf]<;>omega
  ·skip
   have hkN:N=k:=by omega
   subst hkN;have ub11:=b11;have ub12:=b12;simp only [At,Own,Nat.reduceAdd,and_true] at ub11 ub12;go_wp2;refine bodyPost_ret (v:=.agg #[.bool (ng m.1.num),.string (mg m.1.num.natAbs),.bool false,.string (mg (dn m.1)),.bool (ng m.2.num),.string (mg m.2.num.natAbs),.bool false,.string (mg (dn m.2))]) (by simp [results,Tryz.results128,go_sem,ub11,ub12]) rfl ⟨(by rw [show Pg.least l=m from by rw [HE.out,List.drop_eq_nil_of_le (by rw [HN.out];exact Nat.le_refl _)];rfl]<;>rfl),?_⟩;exact bB
end Go.Proofs.YtiochgoocbkckaaGreatDoor

namespace Go.Proofs.YtiochgoocbkckaaGreatDoor
open Go Go.RowKit

theorem pts_app (a b:List (Rat×Rat)):pts (a++b)=pts a++pts b:=by simp [pts]
theorem pts_take (l:List (Rat×Rat)) (k:Nat):(pts l).take (k*8)=pts (l.take k):=by
 by_cases h:k≤l.length
 ·have e1:pts l=pts (l.take k)++pts (l.drop k):=by rw [← pts_app,List.take_append_drop]
  rw [e1,List.take_left' (by rw [pts_length,List.length_take,Nat.min_eq_left h])]
 ·rw [List.take_of_length_le (by rw [pts_length];omega),List.take_of_length_le (by omega)]
theorem pts_drop (l:List (Rat×Rat)) (k:Nat):(pts l).drop (k*8)=pts (l.drop k):=by
 by_cases h:k≤l.length
 ·have e1:pts l=pts (l.take k)++pts (l.drop k):=by rw [← pts_app,List.take_append_drop]
  rw [e1,List.drop_left' (by rw [pts_length,List.length_take,Nat.min_eq_left h])]
 ·rw [List.drop_eq_nil_of_le (by rw [pts_length];omega),@List.drop_eq_nil_of_le _ l k (by omega)];rfl
theorem setFrom_del {l:List (Rat×Rat)} {i:Nat} (hi:i<l.length) :
 setFrom (pts l) (i*8) (pts (l.drop (i+1)))=pts (l.take i++l.drop (i+1)++l.drop (l.length-1)):=by
 have e:pts l=pts (l.take i)++pts ((l.drop i).take (l.length-1-i))++pts (l.drop (l.length-1)):=by
  rw [← pts_app,← pts_app];congr 1;have e1:l.drop (l.length-1)=(l.drop i).drop (l.length-1-i):=by rw [List.drop_drop];congr 1;omega
  rw [e1,List.append_assoc,List.take_append_drop,List.take_append_drop]
 rw [e];have hp:(pts (l.take i)).length=i*8:=by rw [pts_length,List.length_take,Nat.min_eq_left (by omega)]
 have:=setFrom_mid (pts (l.drop (i+1))) (pts (l.take i)) (pts ((l.drop i).take (l.length-1-i))) (pts (l.drop (l.length-1))) (by
  rw [pts_length,pts_length,List.length_take,List.length_drop,List.length_drop];omega)
 rw [hp] at this;rw [this,pts_app,pts_app]
theorem del_take {l:List (Rat×Rat)} {i:Nat} (hi:i<l.length):(l.take i++l.drop (i+1)++l.drop (l.length-1)).take (l.length-1)=l.eraseIdx i:=by
 rw [List.take_left' (by rw [List.length_append,List.length_take,List.length_drop];omega),List.eraseIdx_eq_take_drop_succ]
set_option maxHeartbeats 1000000 in
theorem delete_ij (v:Value) (l:List (Rat×Rat)) (n base i j:Nat) (w:World) (hown:w.ownsRow base 45 8 v n (pts l)) (hn:n≤1000000) (hi:i<n) (hj:j=i+1) :
 Calls Tryz.prog 124 #[v,.int .i64 i,.int .i64 j] w fun e w'=>∃ v',e=.returned v'∧w'.ownsRow base 45 8 v' (n-1) (pts (l.eraseIdx i))∧Below base w w':=by
 have hnl:n=l.length:=by have:=hown.1;rw [pts_length] at this;omega
 have HD1:=del_take (l:=l) (i:=i) (by omega);have HD2:=setFrom_del (l:=l) (i:=i) (by omega);rw [← hj] at HD1 HD2;obtain ⟨g,cap,hv,hnc,hcm,hgw,hbg⟩:=owns_form hown (by omega);subst hv;obtain ⟨news,hnews⟩:∃ z,z=pts (l.drop j):=⟨_,rfl⟩
 have hlen:news.length=(n-j)*8:=by rw [hnews,pts_length,List.length_drop,hnl]
 obtain ⟨AD,hA,hsrc⟩:∃ AD:Addr,(if cap=j then (some ⟨g,0,none⟩:Option Addr) else some ⟨g,j*8,none⟩)=some AD∧Hid (∀ t u,news[t]?=some u→w.drew.cell? (AD.add t)=some u):=by
  by_cases h:cap=j
  ·refine ⟨⟨g,0,none⟩,by simp [h],Lib.hid fun t u hu => ?_⟩
   have h0:news.length=0:=by rw [hlen];omega
   rw [List.length_eq_zero_iff.1 h0] at hu;simp at hu
  ·refine ⟨⟨g,j*8,none⟩,by simp [h],Lib.hid fun t u hu => ?_⟩
   have ht:t<(n-j)*8:=by
    have:=(List.getElem?_eq_some_iff.1 hu).1
    rwa [hlen] at this
   have hc:=hown.cells (g:=g) rfl (j*8+t) u (by
    rw [hnews,← pts_drop,List.getElem?_drop] at hu
    exact hu)
   rw [Addr.add_lit];rw [Addr.add_lit,Nat.zero_add] at hc;exact hc
 have s1:Hid (news.length=(n-j)*8):=Lib.hid hlen;have s2:Hid (∀ u∈news,u.oneCell'=true):=Lib.hid (by rw [hnews];exact pts_one _);have hth:w.there g (i*8) ((n-i)*8):=own_there hown (by omega)
 have s3:Hid (∀ t,t<news.length→(w.drew.cell? ⟨g,0+i*8+t,none⟩).isSome=true∧w.drew.frozen? ⟨g,0+i*8+t,none⟩=false):=Lib.hid fun t ht=>by
  rw [hlen] at ht;have:=hth t (by omega);rw [Nat.zero_add];exact this
 obtain ⟨W1,hW1⟩:∃ W1,W1=w.drew.setCells g (0+i*8) news:=⟨_,rfl⟩
 have hown2:w.drew.ownsRow base 45 8 (.slice (some ⟨g,0,none⟩) n cap) n (pts l):=owns_up hown ((Below.refl _ _).drew);have hO1:W1.ownsRow base 45 8 (.slice (some ⟨g,0,none⟩) n cap) n (pts (l.take i++l.drop j++l.drop (l.length-1))):=by have:=own_setCells news (i*8) w.drew _ hown2;rw [hnews,HD2,← hnews] at this;rw [hW1,Nat.zero_add];exact this
 have hB1:Below base w W1:=by rw [hW1];exact below_setCells hbg _ _ _ ((Below.refl _ _).drew)
 obtain ⟨cs,hcl⟩:=run_clear_pts W1 g ((n-1)*8) 1 (cap-(n-1)) (by omega) (own_there hO1 (by omega))
 have HO2:Hid ((W1.setCells g ((n-1)*8) cs).ownsRow base 45 8 (.slice (some ⟨g,0,none⟩) (n-1) cap) (n-1) (pts (l.eraseIdx i))):=Lib.hid (by
  have:=own_clear hO1 (k:=n-1) (by omega) cs
  rwa [hnl,HD1,← hnl] at this)
 have HB2:Hid (Below base w (W1.setCells g ((n-1)*8) cs)):=Lib.hid (below_setCells hbg _ _ _ hB1);have hW:Hid (W1=w.drew.setCells g (0+i*8) news):=Lib.hid hW1;have q1:i+(n-j)=n-1:=by omega
 have q2:n-(n-1)=1:=by omega
 have q3:(i:Int)≤n:=by omega
 have q4:(j:Int)≤n:=by omega
 have q5:(n:Int)≤cap:=by omega
 have q6:¬ (i:Int)=j:=by omega
 have q7:(((i:Int))==(j:Int))=false:=by simpa using q6
 have q8:¬ cap=n-1:=by omega
 have q9:i≤cap:=by omega
 have q10:j≤cap:=by omega
 have q11:(i:Int)≤cap:=by omega
 have q12:(j:Int)≤cap:=by omega
 obtain ⟨i0,hi0,hz1⟩:∃ i0,Tryz.prog.info? 45 = some i0∧i0.size=8:=by
  have:=ti_pt.info;rcases h:Tryz.prog.info? 45 with _|i0
  ·rw [h] at this;cases this
  ·rw [h] at this;simp at this;exact ⟨i0,rfl,this.2.1⟩
 have mixed:Tryz.prog.follows .mixedOrders=true:=by kernel_rfl
 clear hW1 hO1 hB1 hown hown2 hth hnews hlen hnl HD1 HD2;have q13:(i:Int)≤j:=by omega
 have q14:i≤j:=by omega
 have hj2:i<j:=by omega
 clear hj;go_enter Tryz.func124,Tryz.ntmps124;go_wp2_with fail;go_region_law_o (refine step_append_room rfl (.tmp 22) (.tmp 25) 23 rfl 45 i0 8 Tryz.underlying23 hi0 hz1 g 0 i cap (by simp [Act.eval,Act.put]) AD (n-j) (cap-j) news (by simp [Act.eval,Act.put]) s1.out hsrc.out s2.out (by omega) s3.out ?_;rw [← hW.out]);go_wp2;go_ret;exact ⟨_,rfl,HO2.out,HB2.out⟩
theorem delete_any (v:Value) (l:List (Rat×Rat)) (n base i:Nat) (w:World) (hown:w.ownsRow base 45 8 v n (pts l)) (hn:n≤1000000) (hi:i<n) :
 Calls Tryz.prog 124 #[v,.int .i64 i,.int .i64 (i+1)] w fun e w'=>∃ v',e=.returned v'∧w'.ownsRow base 45 8 v' (n-1) (pts (l.eraseIdx i))∧Below base w w' :=
 delete_ij v l n base i (i+1) w hown hn hi rfl
end Go.Proofs.YtiochgoocbkckaaGreatDoor

namespace Go.Proofs.YtiochgoocbkckaaGreatDoor
namespace Pg
open Pl
end Pg
end Go.Proofs.YtiochgoocbkckaaGreatDoor

namespace Go.Proofs.YtiochgoocbkckaaGreatDoor
namespace Pg
open Pl
end Pg
end Go.Proofs.YtiochgoocbkckaaGreatDoor

namespace Go.Proofs.YtiochgoocbkckaaGreatDoor
namespace Pg
open Pl
end Pg
end Go.Proofs.YtiochgoocbkckaaGreatDoor
