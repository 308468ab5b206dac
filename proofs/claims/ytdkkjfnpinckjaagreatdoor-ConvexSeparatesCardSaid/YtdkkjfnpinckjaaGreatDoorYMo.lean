/-
 Contracts for convex sets: edges, places.
 Contracts of the reference for convex sets: places.
 Contracts of the reference for convex sets: equality of lists, places, the farthest point.
 Contracts for convex sets: places in lists of any length.
-/
import Derived.Test.YtdkkjfnpinckjaaGreatDoorYMn
import Derived.Test.YtdkkjfnpinckjaaGreatDoorYG1
import Derived.Test.YtdkkjfnpinckjaaGreatDoorYMa
set_option maxRecDepth 100000
set_option linter.unusedSimpArgs false
set_option linter.unusedVariables false
namespace Go.Proofs.YtdkkjfnpinckjaaGreatDoor
open Go Go.RowKit

theorem edges_many {S:Nat} (v:Value) (l:List (Rat×Rat)) (w:World) (h:PV w v l) (hs:∀ q∈l,Pl.SzP S q) (hn:l.length≤1000000) (hS:S≤100000) (h3:3≤l.length) :
 Calls Tryz.prog 54 #[v] w fun e w'=>∃ v',e=.returned v'∧SV w' v' (Pl.edges l)∧Below w.heap.size w w':=by
 obtain ⟨A,c,rfl,hc,hm,hx⟩:=h.open_;have HV:=Lib.hid h;have HX:=Lib.hid hx;have HS:=Lib.hid hs;have HR:Hid (Pl.edges l=(List.range l.length).map (Pl.edge l)):=Lib.hid (by unfold Pl.edges;rw [if_neg (by omega),if_neg (by omega)]);have HF:Hid (l.take l.length=l):=Lib.hid List.take_length;generalize hN:l.length=N at *;have HN:=Lib.hid hN;clear h hx hs hN;have j0:¬ (N:Int)=0:=by omega
 have j1:((N:Int)==0)=false:=by simpa using j0
 have j2:((N:Int)==1)=false:=by simp;omega
 have j3:((N:Int)==2)=false:=by simp;omega
 have j4:¬ (N:Int)<3:=by omega
 go_enter Tryz.func54,Tryz.ntmps54;go_wp2_with fail;go_loopw [3,23] (fun s3 s23 wr=>∃ (k:Nat) (L:List ((Rat×Rat)×(Rat×Rat))),s23=.int .i64 k∧wr.ownsRow w.heap.size 59 16 s3 k (segs L)∧Below w.heap.size w wr∧k≤N∧Hid (L=(List.range k).map (Pl.edge l))) (fun _ s23 _=>N-(intOf s23).toNat)
 case atStart=>exact ⟨0,([]),rfl,World.ownsRow_nil _ _ _ _,Below.refl _ _,(by omega),Lib.hid rfl⟩
 case round =>
  obtain ⟨k,L,rfl,o1,hB2,hk,HE⟩:=hrel;obtain ⟨wr3,hwr3⟩:∃ W_,W_=wr:=⟨_,rfl⟩
  subst hwr3;have O4:=Lib.hid o1;clear o1
  by_cases hltk:k<N
  ·skip
   have i1k:(k:Int)<N:=by omega
   obtain ⟨x5,hx6⟩:∃ x,l[k]?=some x:=⟨_,List.getElem?_eq_getElem (by rw [HN.out];omega)⟩
   have Hhx6:=Lib.hid hx6;have Zhx6:=Lib.hid (HS.out _ (List.mem_of_getElem? hx6));clear hx6;obtain ⟨m,hm1⟩:∃ m,m=(k+1)%N:=⟨_,rfl⟩
   have hm2:m<N:=hm1▸Nat.mod_lt _ (by omega);have i2:(m:Int)<N:=by omega
   obtain ⟨r1,r2,r3,r4,r5,r6⟩:=remS k N m hm1 (by omega) (by omega);have HM:=Lib.hid hm1;clear hm1;obtain ⟨x7,hx8⟩:∃ x,l[m]?=some x:=⟨_,List.getElem?_eq_getElem (by rw [HN.out];omega)⟩
   have Hhx8:=Lib.hid hx8;have Zhx8:=Lib.hid (HS.out _ (List.mem_of_getElem? hx8));clear hx8;have HT:Hid ((List.range (k+1)).map (Pl.edge l)=(List.range k).map (Pl.edge l)++[(x5,x7)]):=Lib.hid (by rw [List.range_succ,List.map_append,List.map_cons,List.map_nil,Pl.edge,Pl.getD_of Hhx6.out,HN.out,← HM.out,Pl.getD_of Hhx8.out]);obtain ⟨g10,o11,ha12,-⟩:=(HX.out).up kpP hB2 _ _ Hhx6.out;subst ha12;have ce9:=LX.at_ ((HX.out).up kpP hB2) Hhx6.out;have ce9_:g10<wr3.heap.size:=World.block_lt_of_cell? _ _ ce9.1;have uce9:=ce9;simp only [CE,Nat.reduceMul] at uce9;have f13:=owns_new0 O4.out;have ne14_:g10<wr3.heap.size:=by omega
   have ne14:=Nat.ne_of_lt ne14_;have ne14':=ne14.symm;go_wp2_with fail;refine wp_named ?_;intro W1 hW1;have hL1:Below wr3.heap.size wr3 W1:=by rw [hW1];exact bB
   have c15:Own W1 wr3.heap.size 0 [.bool (ng x5.1.num),.string (mg x5.1.num.natAbs),.bool false,.string (mg (dn x5.1)),.bool (ng x5.2.num),.string (mg x5.2.num.natAbs),.bool false,.string (mg (dn x5.2))]:=by
    rw [hW1]
    first
    | (repeat (first|(with_reducible refine own_new (l:=[.bool (ng x5.1.num),.string (mg x5.1.num.natAbs),.bool false,.string (mg (dn x5.1)),.bool (ng x5.2.num),.string (mg x5.2.num.natAbs),.bool false,.string (mg (dn x5.2))]) ?_;(simp;done))|with_reducible refine Own.alloc ?_ _|refine Own.far _ _ (by first|(simp;done)|(simp [*];done)|(simp;omega)) ?_));done
    | simp [Own,go_sem,uce9,ne14,ne14',ne14_]
   have O16:=Lib.hid (owns_up O4.out hL1);have hB17:Below w.heap.size w W1:=by rw [hW1];exact bB
   clear hW1 hL1 uce9;have dc15:=fun p:Bel W1=>c15.bel p
   simp only [At,Own,Nat.reduceAdd,and_true] at dc15;have ce18:=LX.at_ ((HX.out).up kpP hB17) Hhx8.out;have ce18_:g10<W1.heap.size:=World.block_lt_of_cell? _ _ ce18.1;have dce18:=fun b:Bel W1=>ce18.bel b
   simp only [CE,Nat.reduceMul] at dce18;refine wp_region_tail1 10 (.tmp 3) (by kernel_rfl) (by kernel_rfl) rfl rfl (fun _ _ _ h=>h) ?_;simp only [List.take_succ_cons,List.take_zero,List.drop_succ_cons,List.drop_zero];go_simp;repeat (go_big_quiet_step (fail))
   refine wpQuiet_nil ?_;intro w1 hb1;have c19:=c15.up hb1;have O20:=Lib.hid (owns_up O16.out hb1);have hB21:Below w.heap.size w w1:=bel_up hB17 hb1;clear dc15 dce18 c15 O16;have uc19:=c19;simp only [At,Own,Nat.reduceAdd,and_true] at uc19;go_wp2_with (at_builtin;refine wpList_appF rfl _ _ _ rfl ti_sg O20.out (hB21).size rfl rfl rfl rfl (scells_one (x5,x7)) (by omega) (by decide) ?_)
   intro v22 w_v22 hown_v22 hst_v22;have O24:Hid (w_v22.ownsRow w.heap.size 59 16 v22 ((k+1)) (segs (L++[(x5,x7)]))):=Lib.hid (by rw [segs_snoc];exact hown_v22);have c25:=Own.step hst_v22 f13 c19;have f26:=hst_v22.far _ c19.lt f13;have hB27:Below w.heap.size w w_v22:=hst_v22.below hB21 (hB21).size (fun r hr=>(O20.out.lt r hr).1);clear uc19 hown_v22 c19;have uc25:=c25;simp only [At,Own,Nat.reduceAdd,and_true] at uc25;go_wp2;go_roundw
   case rel=>exact ⟨(k+1),(L++[(x5,x7)]),(by first|rfl|exact congrArg (Value.int .i64) (by omega)|simp [*]),(by repeat (first|with_reducible exact O24.out|refine owns_far ?_ _ (by first|exact f26) _|with_reducible refine World.ownsRow.alloc ?_ _)),(by exact bB),(by omega),Lib.hid (by rw [HT.out,HE.out])⟩
   case measure=>simp [intOf]<;>omega
  ·skip
   have hkN:N=k:=by omega
   subst hkN;go_wp2;go_ret;exact ⟨_,rfl,(by rw [HR.out,← HE.out];exact sv_own O4.out),(by exact bB)⟩

theorem cloc_one {S:Nat} (v:Value) (a:Rat×Rat) (p:Rat×Rat) (w:World) (h:PV w v [a]) (ha:Pl.SzP S a) (hp:Pl.SzP S p) (hS:S≤100000) :
 Calls Tryz.prog 18 #[v,pv p] w fun e w'=>e=.returned (.int .i64 (Pl.locC [a] p))∧Below w.heap.size w w':=by
 obtain ⟨A,c,rfl,hc,hm,hx⟩:=h.open1;have HX:=Lib.hid hx;clear h hx;go_enter Tryz.func18,Tryz.ntmps18;have kK1:=fun W=>on2_any p a a W ⟨ha,ha⟩ hp (by omega) (by omega)
 generalize hT3:Pl.onSeg p a a=b2 at kK1;have K1:=Lib.hid kK1;clear kK1;have HhT3:=Lib.hid hT3;clear hT3;go_wp2_with fail;refine wp_named ?_;intro W1 hW1;have hL1:Below w.heap.size w W1:=by rw [hW1];exact bB
 have c4:Own W1 w.heap.size 0 [.bool (ng p.1.num),.string (mg p.1.num.natAbs),.bool false,.string (mg (dn p.1)),.bool (ng p.2.num),.string (mg p.2.num.natAbs),.bool false,.string (mg (dn p.2))]:=by
  rw [hW1]
  first
  | (repeat (first|(with_reducible refine own_new (l:=[.bool (ng p.1.num),.string (mg p.1.num.natAbs),.bool false,.string (mg (dn p.1)),.bool (ng p.2.num),.string (mg p.2.num.natAbs),.bool false,.string (mg (dn p.2))]) ?_;(simp;done))|with_reducible refine Own.alloc ?_ _|refine Own.far _ _ (by first|(simp;done)|(simp [*];done)|(simp;omega)) ?_));done
  | simp [Own,go_sem]
 have hB5:Below w.heap.size w W1:=by rw [hW1];exact bB
 clear hW1 hL1;have dc4:=fun p:Bel W1=>c4.bel p
 simp only [At,Own,Nat.reduceAdd,and_true] at dc4;obtain ⟨g7,o8,ha9,-⟩:=(HX.out).up kpP hB5 _ _ (show ([a]:List (Rat×Rat))[0]?=some a from rfl);subst ha9;have ce6:=LX.at_ ((HX.out).up kpP hB5) (show ([a]:List (Rat×Rat))[0]?=some a from rfl);have ce6_:g7<W1.heap.size:=World.block_lt_of_cell? _ _ ce6.1;have dce6:=fun b:Bel W1=>ce6.bel b
 simp only [CE,Nat.reduceMul,Nat.zero_mul,Nat.add_zero,Nat.add_assoc,Nat.reduceAdd] at dce6;refine wp_region_all (by kernel_rfl) (by kernel_rfl) ?_;repeat (go_big_quiet_step (first|(go_at_call 53;with_reducible exact Calls.bel (K1.out _))))
 refine wpQuiet_nil ?_;intro w1 hb1;have c10:=c4.up hb1;have hB11:Below w.heap.size w w1:=bel_up hB5 hb1;clear dc4 dce6 c4;have uc10:=c10;simp only [At,Own,Nat.reduceAdd,and_true] at uc10;cases b2
 ·skip
  go_wp2;go_ret;refine ⟨(by show _=Ending.returned (.int .i64 (if Pl.onSeg p a a then 0 else -1));rw [HhT3.out];rfl),?_⟩;exact bB
 ·skip
  go_wp2;go_ret;refine ⟨(by show _=Ending.returned (.int .i64 (if Pl.onSeg p a a then 0 else -1));rw [HhT3.out];rfl),?_⟩;exact bB

theorem cloc_two {S:Nat} (v:Value) (a b:Rat×Rat) (p:Rat×Rat) (w:World) (h:PV w v [a,b]) (ha:Pl.SzP S a) (hb:Pl.SzP S b) (hp:Pl.SzP S p) (hS:S≤100000) :
 Calls Tryz.prog 18 #[v,pv p] w fun e w'=>e=.returned (.int .i64 (Pl.locC [a,b] p))∧Below w.heap.size w w':=by
 obtain ⟨A,c,rfl,hc,hm,hx⟩:=h.open2;have HX:=Lib.hid hx;clear h hx;go_enter Tryz.func18,Tryz.ntmps18;have kK1:=fun W=>on2_any p a b W ⟨ha,hb⟩ hp (by omega) (by omega)
 generalize hT3:Pl.onSeg p a b=b2 at kK1;have K1:=Lib.hid kK1;clear kK1;have HhT3:=Lib.hid hT3;clear hT3;go_wp2_with fail;refine wp_named ?_;intro W1 hW1;have hL1:Below w.heap.size w W1:=by rw [hW1];exact bB
 have c4:Own W1 w.heap.size 0 [.bool (ng p.1.num),.string (mg p.1.num.natAbs),.bool false,.string (mg (dn p.1)),.bool (ng p.2.num),.string (mg p.2.num.natAbs),.bool false,.string (mg (dn p.2))]:=by
  rw [hW1]
  first
  | (repeat (first|(with_reducible refine own_new (l:=[.bool (ng p.1.num),.string (mg p.1.num.natAbs),.bool false,.string (mg (dn p.1)),.bool (ng p.2.num),.string (mg p.2.num.natAbs),.bool false,.string (mg (dn p.2))]) ?_;(simp;done))|with_reducible refine Own.alloc ?_ _|refine Own.far _ _ (by first|(simp;done)|(simp [*];done)|(simp;omega)) ?_));done
  | simp [Own,go_sem]
 have hB5:Below w.heap.size w W1:=by rw [hW1];exact bB
 clear hW1 hL1;have dc4:=fun p:Bel W1=>c4.bel p
 simp only [At,Own,Nat.reduceAdd,and_true] at dc4;obtain ⟨g7,o8,ha9,-⟩:=(HX.out).up kpP hB5 _ _ (show ([a,b]:List (Rat×Rat))[0]?=some a from rfl);subst ha9;have ce6:=LX.at_ ((HX.out).up kpP hB5) (show ([a,b]:List (Rat×Rat))[0]?=some a from rfl);have ce6_:g7<W1.heap.size:=World.block_lt_of_cell? _ _ ce6.1;have dce6:=fun b:Bel W1=>ce6.bel b
 simp only [CE,Nat.reduceMul,Nat.zero_mul,Nat.add_zero,Nat.add_assoc,Nat.reduceAdd] at dce6;have ce10:=LX.at_ ((HX.out).up kpP hB5) (show ([a,b]:List (Rat×Rat))[1]?=some b from rfl);have ce10_:g7<W1.heap.size:=World.block_lt_of_cell? _ _ ce10.1;have dce10:=fun b:Bel W1=>ce10.bel b
 simp only [CE,Nat.reduceMul,Nat.zero_mul,Nat.add_zero,Nat.add_assoc,Nat.reduceAdd] at dce10;refine wp_region_all (by kernel_rfl) (by kernel_rfl) ?_;repeat (go_big_quiet_step (first|(go_at_call 53;with_reducible exact Calls.bel (K1.out _))))
 refine wpQuiet_nil ?_;intro w1 hb1;have c11:=c4.up hb1;have hB12:Below w.heap.size w w1:=bel_up hB5 hb1;clear dc4 dce6 dce10 c4;have uc11:=c11;simp only [At,Own,Nat.reduceAdd,and_true] at uc11;cases b2
 ·skip
  go_wp2;go_ret;refine ⟨(by show _=Ending.returned (.int .i64 (if Pl.onSeg p a b then 0 else -1));rw [HhT3.out];rfl),?_⟩;exact bB
 ·skip
  go_wp2;go_ret;refine ⟨(by show _=Ending.returned (.int .i64 (if Pl.onSeg p a b then 0 else -1));rw [HhT3.out];rfl),?_⟩;exact bB

theorem cloc_nil (v:Value) (p:Rat×Rat) (w:World) (h:PV w v []) :
 Calls Tryz.prog 18 #[v,pv p] w fun e w'=>e=.returned (.int .i64 (-1))∧Below w.heap.size w w':=by
 obtain ⟨A,c,rfl⟩:=h.len;go_enter Tryz.func18,Tryz.ntmps18;go_wp2;go_ret;refine ⟨rfl,?_⟩;repeat (first|with_reducible exact Below.refl _ _|with_reducible refine bel_alloc ?_ _)

theorem cloc_many {S:Nat} (v:Value) (l:List (Rat×Rat)) (p:Rat×Rat) (w:World) (h:PV w v l) (hs:∀ q∈l,Pl.SzP S q) (hn:l.length≤1000000) (hS:S≤100000) (hp:Pl.SzP S p) (h3:3≤l.length) :
 Calls Tryz.prog 18 #[v,pv p] w fun e w'=>e=.returned (.int .i64 (Pl.locC l p))∧Below w.heap.size w w':=by
 obtain ⟨A,c,rfl,hc,hm,hx⟩:=h.open_;have HV:=Lib.hid h;have HX:=Lib.hid hx;have HS:=Lib.hid hs;have HR:Hid (Pl.locC l p=Pl.locE p (Pl.edges l) 1):=Lib.hid (by unfold Pl.locC;rw [if_neg (by omega),if_neg (by omega)]);have HEL:Hid ((Pl.edges l).length=l.length):=Lib.hid (by unfold Pl.edges;rw [if_neg (by omega),if_neg (by omega)];simp);have HF:Hid (l.take l.length=l):=Lib.hid List.take_length;generalize hN:l.length=N at *;have HN:=Lib.hid hN;clear h hx hs hN;have j0:¬ (N:Int)=0:=by omega
 have j1:((N:Int)==0)=false:=by simpa using j0
 have j2:((N:Int)==1)=false:=by simp;omega
 have j3:((N:Int)==2)=false:=by simp;omega
 have j4:¬ (N:Int)<3:=by omega
 go_enter Tryz.func18,Tryz.ntmps18;have K1:=Lib.hid (fun v W hW=>edges_many v l W hW HS.out (by rw [HN.out];exact hn) hS (by rw [HN.out];exact h3));go_wp2_with fail;refine calls_named ?_;intro W1 hW1;have hL1:Below w.heap.size w W1:=by rw [hW1];exact bB
 have c2:Own W1 w.heap.size 0 [.bool (ng p.1.num),.string (mg p.1.num.natAbs),.bool false,.string (mg (dn p.1)),.bool (ng p.2.num),.string (mg p.2.num.natAbs),.bool false,.string (mg (dn p.2))]:=by
  rw [hW1]
  first
  | (repeat (first|(with_reducible refine own_new (l:=[.bool (ng p.1.num),.string (mg p.1.num.natAbs),.bool false,.string (mg (dn p.1)),.bool (ng p.2.num),.string (mg p.2.num.natAbs),.bool false,.string (mg (dn p.2))]) ?_;(simp;done))|with_reducible refine Own.alloc ?_ _|refine Own.far _ _ (by first|(simp;done)|(simp [*];done)|(simp;omega)) ?_));done
  | simp [Own,go_sem]
 have hB3:Below w.heap.size w W1:=by rw [hW1];exact bB
 clear hW1 hL1;with_reducible refine (K1.out _ _ (HV.out.up hB3)).mono ?_
 rintro e w1 ⟨v1,rfl,hv1,hb1⟩;have c4:=c2.up hb1;have hB5:Below w.heap.size w w1:=bel_up hB3 hb1;clear c2;obtain ⟨l1,hl1⟩:∃ y_,y_=Pl.edges l:=⟨_,rfl⟩
 rw [← hl1] at hv1;obtain ⟨A1,c1,rfl,hcc1,hmm1,hx1⟩:=hv1.open_;have XX1:=Lib.hid hx1;have HL1:=Lib.hid hl1;clear hx1 hv1;have hlen1:l1.length=N:=by rw [HL1.out];rw [HEL.out]
 have hle1:l1.length≤1000000:=by rw [hlen1];omega
 have HLEN1:=Lib.hid hlen1;clear hl1 hlen1;generalize hn1:l1.length=N1 at *;have HN1:=Lib.hid hn1;clear hn1;have HZ:=Lib.hid (fun q hq=>Pl.edges_sz HS.out q (by rw [← HL1.out];exact hq):∀ q∈l1,Pl.SzS S q);go_wp2_with fail;go_loopw [5,30] (fun s5 s30 wr=>∃ (k:Nat) (out:Int),s5=.int .i64 out∧s30=.int .i64 k∧Own wr w.heap.size 0 [.bool (ng p.1.num),.string (mg p.1.num.natAbs),.bool false,.string (mg (dn p.1)),.bool (ng p.2.num),.string (mg p.2.num.natAbs),.bool false,.string (mg (dn p.2))]∧LX CS 16 wr A1 l1∧Below w.heap.size w wr∧k≤N1∧Hid (Pl.locE p l1 1=Pl.locE p (l1.drop k) out)) (fun _ s30 _=>N1-(intOf s30).toNat)
 case atStart=>exact ⟨0,1,rfl,rfl,c4,XX1.out,hB5,(by omega),Lib.hid rfl⟩
 case round =>
  clear c4 hB5;obtain ⟨k,out,rfl,rfl,b6,X7,hB8,hk,HE⟩:=hrel;obtain ⟨wr9,hwr9⟩:∃ W_,W_=wr:=⟨_,rfl⟩
  subst hwr9;have XX10:=Lib.hid X7;clear X7
  by_cases hltk:k<N1
  ·skip
   have i1k:(k:Int)<N1:=by omega
   obtain ⟨x11,hx12⟩:∃ x,l1[k]?=some x:=⟨_,List.getElem?_eq_getElem (by rw [HN1.out];omega)⟩
   have Hhx12:=Lib.hid hx12;have Zhx12:=Lib.hid (HZ.out _ (List.mem_of_getElem? hx12));clear hx12;have HD:=Lib.hid (Pl.drop_of Hhx12.out);obtain ⟨g14,o15,ha16,-⟩:=XX10.out _ _ Hhx12.out;subst ha16;have ce13:=LX.at_ (XX10.out) Hhx12.out;have ce13_:g14<wr9.heap.size:=World.block_lt_of_cell? _ _ ce13.1.1;have uce13:=ce13;simp only [CS,Nat.reduceMul] at uce13;have ne17_:w.heap.size<wr9.heap.size:=by have:=b6.lt;omega
   have ne17:=Nat.ne_of_lt ne17_;have ne17':=ne17.symm;have ne18_:g14<wr9.heap.size:=by omega
   have ne18:=Nat.ne_of_lt ne18_;have ne18':=ne18.symm;have ub6:=b6;simp only [At,Own,Nat.reduceAdd,and_true] at ub6;have kK19:=fun W=>orient_any x11.1 x11.2 p W Zhx12.out.1 Zhx12.out.2 hp (by omega) (by omega) (by omega)
   generalize hT21:Pl.turn x11.1 x11.2 p=t20 at kK19;have K19:=Lib.hid kK19;clear kK19;have T22:=Lib.hid (sgn3 hT21);have HhT21:=Lib.hid hT21;clear hT21;go_wp2_with fail;refine calls_named ?_;intro W2 hW2;have hL2:Below wr9.heap.size wr9 W2:=by rw [hW2];exact bB
   have c23:=b6.up hL2
   have c24:Own W2 wr9.heap.size 0 [.bool (ng x11.1.1.num),.string (mg x11.1.1.num.natAbs),.bool false,.string (mg (dn x11.1.1)),.bool (ng x11.1.2.num),.string (mg x11.1.2.num.natAbs),.bool false,.string (mg (dn x11.1.2)),.bool (ng x11.2.1.num),.string (mg x11.2.1.num.natAbs),.bool false,.string (mg (dn x11.2.1)),.bool (ng x11.2.2.num),.string (mg x11.2.2.num.natAbs),.bool false,.string (mg (dn x11.2.2))]:=by
    rw [hW2]
    first
    | (repeat (first|(with_reducible refine own_new (l:=[.bool (ng x11.1.1.num),.string (mg x11.1.1.num.natAbs),.bool false,.string (mg (dn x11.1.1)),.bool (ng x11.1.2.num),.string (mg x11.1.2.num.natAbs),.bool false,.string (mg (dn x11.1.2)),.bool (ng x11.2.1.num),.string (mg x11.2.1.num.natAbs),.bool false,.string (mg (dn x11.2.1)),.bool (ng x11.2.2.num),.string (mg x11.2.2.num.natAbs),.bool false,.string (mg (dn x11.2.2))]) ?_;(simp;done))|with_reducible refine Own.alloc ?_ _|refine Own.far _ _ (by first|(simp;done)|(simp [*];done)|(simp;omega)) ?_));done
    | simp [Own,go_sem,uce13,ub6,ne17,ne17',ne17_,ne18,ne18',ne18_]
   have X25:=Lib.hid (LX.up XX10.out kpS hL2);have hB26:Below w.heap.size w W2:=by rw [hW2];exact bB
   clear hW2 hL2 uce13 ub6 b6;with_reducible refine (K19.out _).mono ?_
   rintro e w2 ⟨rfl,hb2⟩;have c27:=c23.up hb2;have c28:=c24.up hb2;have X29:=Lib.hid (LX.up X25.out kpS hb2);have hB30:Below w.heap.size w w2:=bel_up hB26 hb2;clear c23 c24 X25;rcases T22.out with rfl|rfl|rfl
   ·skip
    have uc27:=c27;have uc28:=c28;simp only [At,Own,Nat.reduceAdd,and_true] at uc27 uc28;go_wp2;go_ret;refine ⟨(by rw [HR.out,← HL1.out,HE.out,HD.out,Pl.locE,HhT21.out];rfl),?_⟩;exact bB
   ·skip
    have uc27:=c27;have uc28:=c28;simp only [At,Own,Nat.reduceAdd,and_true] at uc27 uc28;go_wp2;go_roundw
    case rel=>exact ⟨(k+1),0,(by first|rfl|exact congrArg (Value.int .i64) (by omega)|simp [*]),(by first|rfl|exact congrArg (Value.int .i64) (by omega)|simp [*]),(by repeat (first|with_reducible exact c27|refine Own.far _ _ (by simp<;>omega) ?_|with_reducible refine Own.alloc ?_ _)),X29.out,(by exact bB),(by omega),Lib.hid (by rw [HE.out,HD.out,Pl.locE,HhT21.out];rfl)⟩
    case measure=>simp [intOf]<;>omega
   ·skip
    have uc27:=c27;have uc28:=c28;simp only [At,Own,Nat.reduceAdd,and_true] at uc27 uc28;go_wp2;go_roundw
    case rel=>exact ⟨(k+1),out,(by first|rfl|exact congrArg (Value.int .i64) (by omega)|simp [*]),(by first|rfl|exact congrArg (Value.int .i64) (by omega)|simp [*]),(by repeat (first|with_reducible exact c27|refine Own.far _ _ (by simp<;>omega) ?_|with_reducible refine Own.alloc ?_ _)),X29.out,(by exact bB),(by omega),Lib.hid (by rw [HE.out,HD.out,Pl.locE,HhT21.out];rfl)⟩
    case measure=>simp [intOf]<;>omega
  ·skip
   have hkN:N1=k:=by omega
   subst hkN;have HD:Hid (l1.drop N1=[]):=Lib.hid (List.drop_eq_nil_of_le (by rw [HN1.out];exact Nat.le_refl _));have ub6:=b6;simp only [At,Own,Nat.reduceAdd,and_true] at ub6;go_wp2;go_ret;refine ⟨(by rw [HR.out,← HL1.out,HE.out,HD.out,Pl.locE]<;>rfl),?_⟩;exact bB
end Go.Proofs.YtdkkjfnpinckjaaGreatDoor

namespace Go.Proofs.YtdkkjfnpinckjaaGreatDoor
open Go Go.RowKit

theorem hloc_many {S:Nat} (v:Value) (l:List (Rat×Rat)) (p:Rat×Rat) (w:World) (h:PV w v l) (hs:∀ q∈l,Pl.SzP S q) (hn:l.length≤1000000) (hS:S≤100000) (hp:Pl.SzP S p) (h3:3≤l.length) :
 Calls Tryz.prog 20 #[v,pv p] w fun e w'=>e=.returned (.int .i64 (Pl.locR l p))∧Below w.heap.size w w':=by
 obtain ⟨A,c,rfl,hc,hm,hx⟩:=h.open_;have HV:=Lib.hid h;have HX:=Lib.hid hx;have HS:=Lib.hid hs;have HR:Hid (Pl.locR l p=Pl.locF l p l.length):=Lib.hid (by unfold Pl.locR;rw [if_neg (by omega),if_neg (by omega),if_neg (by omega)]);have HF:Hid (l.take l.length=l):=Lib.hid List.take_length;generalize hN:l.length=N at *;have HN:=Lib.hid hN;clear h hx hs hN;have j0:¬ (N:Int)=0:=by omega
 have j1:((N:Int)==0)=false:=by simpa using j0
 have j2:((N:Int)==1)=false:=by simp;omega
 have j3:((N:Int)==2)=false:=by simp;omega
 have j4:¬ (N:Int)<3:=by omega
 go_enter Tryz.func20,Tryz.ntmps20;go_wp2_with fail;refine wp_named ?_;intro W1 hW1;have hL1:Below w.heap.size w W1:=by rw [hW1];exact bB
 have c1:Own W1 w.heap.size 0 [.bool (ng p.1.num),.string (mg p.1.num.natAbs),.bool false,.string (mg (dn p.1)),.bool (ng p.2.num),.string (mg p.2.num.natAbs),.bool false,.string (mg (dn p.2))]:=by
  rw [hW1]
  first
  | (repeat (first|(with_reducible refine own_new (l:=[.bool (ng p.1.num),.string (mg p.1.num.natAbs),.bool false,.string (mg (dn p.1)),.bool (ng p.2.num),.string (mg p.2.num.natAbs),.bool false,.string (mg (dn p.2))]) ?_;(simp;done))|with_reducible refine Own.alloc ?_ _|refine Own.far _ _ (by first|(simp;done)|(simp [*];done)|(simp;omega)) ?_));done
  | simp [Own,go_sem]
 have hB2:Below w.heap.size w W1:=by rw [hW1];exact bB
 clear hW1 hL1;have dc1:=fun p:Bel W1=>c1.bel p
 simp only [At,Own,Nat.reduceAdd,and_true] at dc1;refine wp_region_all (by kernel_rfl) (by kernel_rfl) ?_;repeat (go_big_quiet_step (fail))
 refine wpQuiet_nil ?_;intro w1 hb1;have c3:=c1.up hb1;have hB4:Below w.heap.size w w1:=bel_up hB2 hb1;clear dc1 c1;have uc3:=c3;simp only [At,Own,Nat.reduceAdd,and_true] at uc3;go_wp2_with fail;go_loopw [5,6] (fun s5 s6 wr=>∃ (k:Nat),s5=.int .i64 (Pl.locF l p k)∧s6=.int .i64 k∧Own wr w.heap.size 0 [.bool (ng p.1.num),.string (mg p.1.num.natAbs),.bool false,.string (mg (dn p.1)),.bool (ng p.2.num),.string (mg p.2.num.natAbs),.bool false,.string (mg (dn p.2))]∧Below w.heap.size w wr∧k≤N) (fun _ s6 _=>N-(intOf s6).toNat)
 case atStart=>exact ⟨0,rfl,rfl,c3,hB4,(by omega)⟩
 case round =>
  clear c3 hB4 uc3;obtain ⟨k,rfl,rfl,b5,hB6,hk⟩:=hrel;obtain ⟨wr7,hwr7⟩:∃ W_,W_=wr:=⟨_,rfl⟩
  subst hwr7
  by_cases hltk:k<N
  ·skip
   have i1k:(k:Int)<N:=by omega
   obtain ⟨x8,hx9⟩:∃ x,l[k]?=some x:=⟨_,List.getElem?_eq_getElem (by rw [HN.out];omega)⟩
   have Hhx9:=Lib.hid hx9;have Zhx9:=Lib.hid (HS.out _ (List.mem_of_getElem? hx9));clear hx9;obtain ⟨m,hm1⟩:∃ m,m=(k+1)%N:=⟨_,rfl⟩
   have hm2:m<N:=hm1▸Nat.mod_lt _ (by omega);have i2:(m:Int)<N:=by omega
   obtain ⟨r1,r2,r3,r4,r5,r6⟩:=remS k N m hm1 (by omega) (by omega);have HM:=Lib.hid hm1;clear hm1;obtain ⟨x10,hx11⟩:∃ x,l[m]?=some x:=⟨_,List.getElem?_eq_getElem (by rw [HN.out];omega)⟩
   have Hhx11:=Lib.hid hx11;have Zhx11:=Lib.hid (HS.out _ (List.mem_of_getElem? hx11));clear hx11;have HT:Hid (Pl.locF l p (k+1)=min (Pl.locF l p k) (Pl.turn x8 x10 p)):=Lib.hid (by rw [Pl.locF,Pl.edge,Pl.getD_of Hhx9.out,HN.out,← HM.out,Pl.getD_of Hhx11.out]);generalize Pl.locF l p k=out at *;have kK12:=fun W=>hturn_any x8 x10 p W Zhx9.out Zhx11.out hp (by omega) (by omega) (by omega)
   generalize hT14:Pl.turn x8 x10 p=t13 at kK12;have K12:=Lib.hid kK12;clear kK12;have T15:=Lib.hid (sgn3 hT14);have HhT14:=Lib.hid hT14;clear hT14;go_wp2_with fail;refine wp_named ?_;intro W2 hW2;have hL2:Below wr7.heap.size wr7 W2:=by rw [hW2];exact bB
   have c16:=b5.up hL2;have hB17:Below w.heap.size w W2:=by rw [hW2];exact bB
   clear hW2 hL2 b5;have dc16:=fun p:Bel W2=>c16.bel p
   simp only [At,Own,Nat.reduceAdd,and_true] at dc16;obtain ⟨g19,o20,ha21,-⟩:=(HX.out).up kpP hB17 _ _ Hhx9.out;subst ha21;have ce18:=LX.at_ ((HX.out).up kpP hB17) Hhx9.out;have ce18_:g19<W2.heap.size:=World.block_lt_of_cell? _ _ ce18.1;have dce18:=fun b:Bel W2=>ce18.bel b
   simp only [CE,Nat.reduceMul] at dce18;have ce22:=LX.at_ ((HX.out).up kpP hB17) Hhx11.out;have ce22_:g19<W2.heap.size:=World.block_lt_of_cell? _ _ ce22.1;have dce22:=fun b:Bel W2=>ce22.bel b
   simp only [CE,Nat.reduceMul] at dce22;refine wp_region_tail 16 (by kernel_rfl) (by kernel_rfl) ?_;simp only [List.take_succ_cons,List.take_zero,List.drop_succ_cons,List.drop_zero];repeat (go_big_quiet_step (first|(go_at_call 57;with_reducible exact Calls.bel (K12.out _))))
   refine wpQuiet_nil ?_;intro w2 hb2;have c23:=c16.up hb2;have hB24:Below w.heap.size w w2:=bel_up hB17 hb2;clear dc16 dce18 dce22 c16;have uc23:=c23;simp only [At,Own,Nat.reduceAdd,and_true] at uc23;go_wp2;go_roundw
   case rel=>exact ⟨(k+1),(by rw [HT.out,HhT14.out]),(by first|rfl|exact congrArg (Value.int .i64) (by omega)|simp [*]),(by repeat (first|with_reducible exact c23|refine Own.far _ _ (by simp<;>omega) ?_|with_reducible refine Own.alloc ?_ _)),(by exact bB),(by omega)⟩
   case measure=>simp [intOf]<;>omega
  ·skip
   have hkN:N=k:=by omega
   subst hkN;have ub5:=b5;simp only [At,Own,Nat.reduceAdd,and_true] at ub5;go_wp2;go_ret;refine ⟨(by rw [HR.out]<;>rfl),?_⟩;exact bB
end Go.Proofs.YtdkkjfnpinckjaaGreatDoor

namespace Go.Proofs.YtdkkjfnpinckjaaGreatDoor
open Go Go.RowKit

theorem hsame_len (va vb:Value) (a b:List (Rat×Rat)) (w:World) (ha:PV w va a) (hb:PV w vb b) (hab:b.length=a.length) (hn:a.length≤1000000) (hsa:∀ q∈a,True) (hsb:∀ q∈b,True) :
 Calls Tryz.prog 25 #[va,vb] w fun e w'=>e=.returned (.bool (Pl.sameB a b))∧Below w.heap.size w w':=by
 obtain ⟨Aa,ca,rfl,hca,hma,hxa⟩:=ha.open_;obtain ⟨Ab,cb,rfl,hcb,hmb,hxb⟩:=hb.open_;have HXA:=Lib.hid hxa;have HXB:=Lib.hid hxb;have HSA:=Lib.hid hsa;have HSB:=Lib.hid hsb;rw [hab] at hb hcb ⊢;have HNB:=Lib.hid hab;generalize hN:a.length=N at *;have HNA:=Lib.hid hN;clear ha hb hxa hxb hsa hsb hab hN;go_enter Tryz.func25,Tryz.ntmps25;go_wp2_with fail;go_loopw [5] (fun s5 wr=>∃ (k:Nat),s5=.int .i64 k∧Below w.heap.size w wr∧k≤N∧Hid (Pl.sameB a b=Pl.sameB (a.drop k) (b.drop k))) (fun s5 _=>N-(intOf s5).toNat)
 case atStart=>exact ⟨0,rfl,Below.refl _ _,(by omega),Lib.hid (by simp)⟩
 case round =>
  obtain ⟨k,rfl,hB1,hk,HE⟩:=hrel;obtain ⟨wr2,hwr2⟩:∃ W_,W_=wr:=⟨_,rfl⟩
  subst hwr2
  by_cases hltk:k<N
  ·skip
   have i1k:(k:Int)<N:=by omega
   obtain ⟨x3,hx4⟩:∃ x,a[k]?=some x:=⟨_,List.getElem?_eq_getElem (by rw [HNA.out];omega)⟩
   have Hhx4:=Lib.hid hx4;have Zhx4:=Lib.hid (HSA.out _ (List.mem_of_getElem? hx4));clear hx4;obtain ⟨x5,hx6⟩:∃ x,b[k]?=some x:=⟨_,List.getElem?_eq_getElem (by rw [HNB.out];omega)⟩
   have Hhx6:=Lib.hid hx6;have Zhx6:=Lib.hid (HSB.out _ (List.mem_of_getElem? hx6));clear hx6;have HDA:=Lib.hid (Pl.drop_of Hhx4.out);have HDB:=Lib.hid (Pl.drop_of Hhx6.out)
   by_cases hq7:x3=x5
   ·skip
    have EQhq7:=fun W=>eqP_in x3 x5 W
    rw [decide_eq_true hq7] at EQhq7;have Hhq7:=Lib.hid hq7;clear hq7;go_wp2_with fail;refine wp_named ?_;intro W1 hW1;have hL1:Below wr2.heap.size wr2 W1:=by rw [hW1];exact bB
    have hB8:Below w.heap.size w W1:=by rw [hW1];exact bB
    clear hW1 hL1;obtain ⟨g10,o11,ha12,-⟩:=(HXA.out).up kpP hB8 _ _ Hhx4.out;subst ha12;have ce9:=LX.at_ ((HXA.out).up kpP hB8) Hhx4.out;have ce9_:g10<W1.heap.size:=World.block_lt_of_cell? _ _ ce9.1;have dce9:=fun b:Bel W1=>ce9.bel b
    simp only [CE,Nat.reduceMul] at dce9;obtain ⟨g14,o15,ha16,-⟩:=(HXB.out).up kpP hB8 _ _ Hhx6.out;subst ha16;have ce13:=LX.at_ ((HXB.out).up kpP hB8) Hhx6.out;have ce13_:g14<W1.heap.size:=World.block_lt_of_cell? _ _ ce13.1;have dce13:=fun b:Bel W1=>ce13.bel b
    simp only [CE,Nat.reduceMul] at dce13;refine wp_region_all (by kernel_rfl) (by kernel_rfl) ?_;repeat (go_big_quiet_step (fail))
    refine wpQuiet_nil ?_;intro w1 hb1;have hB17:Below w.heap.size w w1:=bel_up hB8 hb1;clear dce9 dce13;go_wp2;go_roundw
    case rel=>exact ⟨(k+1),(by first|rfl|exact congrArg (Value.int .i64) (by omega)|simp [*]),(by exact bB),(by omega),Lib.hid (by rw [HE.out,HDA.out,HDB.out,Pl.sameB,decide_eq_true Hhq7.out,Bool.true_and])⟩
    case measure=>simp [intOf]<;>omega
   ·skip
    have EQhq7:=fun W=>eqP_in x3 x5 W
    rw [decide_eq_false hq7] at EQhq7;have Hhq7:=Lib.hid hq7;clear hq7;go_wp2_with fail;refine wp_named ?_;intro W2 hW2;have hL2:Below wr2.heap.size wr2 W2:=by rw [hW2];exact bB
    have hB18:Below w.heap.size w W2:=by rw [hW2];exact bB
    clear hW2 hL2;obtain ⟨g20,o21,ha22,-⟩:=(HXA.out).up kpP hB18 _ _ Hhx4.out;subst ha22;have ce19:=LX.at_ ((HXA.out).up kpP hB18) Hhx4.out;have ce19_:g20<W2.heap.size:=World.block_lt_of_cell? _ _ ce19.1;have dce19:=fun b:Bel W2=>ce19.bel b
    simp only [CE,Nat.reduceMul] at dce19;obtain ⟨g24,o25,ha26,-⟩:=(HXB.out).up kpP hB18 _ _ Hhx6.out;subst ha26;have ce23:=LX.at_ ((HXB.out).up kpP hB18) Hhx6.out;have ce23_:g24<W2.heap.size:=World.block_lt_of_cell? _ _ ce23.1;have dce23:=fun b:Bel W2=>ce23.bel b
    simp only [CE,Nat.reduceMul] at dce23;refine wp_region_all (by kernel_rfl) (by kernel_rfl) ?_;repeat (go_big_quiet_step (fail))
    refine wpQuiet_nil ?_;intro w2 hb2;have hB27:Below w.heap.size w w2:=bel_up hB18 hb2;clear dce19 dce23;go_wp2;go_ret;refine ⟨(by rw [HE.out,HDA.out,HDB.out,Pl.sameB,decide_eq_false Hhq7.out]<;>rfl),?_⟩;exact bB
  ·skip
   have hkN:N=k:=by omega
   subst hkN;have HDA:Hid (a.drop N=[]):=Lib.hid (List.drop_eq_nil_of_le (by rw [HNA.out];exact Nat.le_refl _));have HDB:Hid (b.drop N=[]):=Lib.hid (List.drop_eq_nil_of_le (by rw [HNB.out];exact Nat.le_refl _));go_wp2;go_ret;refine ⟨(by rw [HE.out,HDA.out,HDB.out,Pl.sameB]<;>rfl),?_⟩;exact bB

theorem sameB_len:∀ {a b:List (Rat×Rat)},b.length≠a.length→Pl.sameB a b=false:=by
 intro a b h;rw [Pl.sameB_iff,decide_eq_false];intro e;exact h (by rw [e])
theorem hsame_any (va vb:Value) (a b:List (Rat×Rat)) (w:World) (ha:PV w va a) (hb:PV w vb b) (hn:a.length≤1000000) :
 Calls Tryz.prog 25 #[va,vb] w fun e w'=>e=.returned (.bool (Pl.sameB a b))∧Below w.heap.size w w':=by
 by_cases h:b.length=a.length
 ·exact hsame_len va vb a b w ha hb h hn (fun _ _=>trivial) (fun _ _=>trivial)
 ·rw [sameB_len h]
  obtain ⟨Aa,ca,rfl⟩:=ha.len;obtain ⟨Ab,cb,rfl⟩:=hb.len;generalize a.length=Na at *;generalize b.length=Nb at *;have j1:((Na:Int)==Nb)=false:=by simp;omega
  have j2:¬ (Na:Int)=Nb:=by omega
  have j3:((Na:Int) != Nb)=true:=by simp [bne];omega
  clear ha hb;go_enter Tryz.func25,Tryz.ntmps25;go_wp2;go_ret;exact ⟨rfl,Below.refl _ _⟩
end Go.Proofs.YtdkkjfnpinckjaaGreatDoor

namespace Go.Proofs.YtdkkjfnpinckjaaGreatDoor
open Go Go.RowKit

theorem hloc_nil (v:Value) (p:Rat×Rat) (w:World) (h:PV w v []) :
 Calls Tryz.prog 20 #[v,pv p] w fun e w'=>e=.returned (.int .i64 (-1))∧Below w.heap.size w w':=by
 obtain ⟨A,c,rfl⟩:=h.len;go_enter Tryz.func20,Tryz.ntmps20;go_wp2_with fail;refine wp_named ?_;intro W1 hW1;have hL1:Below w.heap.size w W1:=by rw [hW1];exact bB
 have c1:Own W1 w.heap.size 0 [.bool (ng p.1.num),.string (mg p.1.num.natAbs),.bool false,.string (mg (dn p.1)),.bool (ng p.2.num),.string (mg p.2.num.natAbs),.bool false,.string (mg (dn p.2))]:=by
  rw [hW1]
  first
  | (repeat (first|(with_reducible refine own_new (l:=[.bool (ng p.1.num),.string (mg p.1.num.natAbs),.bool false,.string (mg (dn p.1)),.bool (ng p.2.num),.string (mg p.2.num.natAbs),.bool false,.string (mg (dn p.2))]) ?_;(simp;done))|with_reducible refine Own.alloc ?_ _|refine Own.far _ _ (by first|(simp;done)|(simp [*];done)|(simp;omega)) ?_));done
  | simp [Own,go_sem]
 have hB2:Below w.heap.size w W1:=by rw [hW1];exact bB
 clear hW1 hL1;have dc1:=fun p:Bel W1=>c1.bel p
 simp only [At,Own,Nat.reduceAdd,and_true] at dc1;refine wp_region_all (by kernel_rfl) (by kernel_rfl) ?_;repeat (go_big_quiet_step (fail))
 refine wpQuiet_nil ?_;intro w1 hb1;have c3:=c1.up hb1;have hB4:Below w.heap.size w w1:=bel_up hB2 hb1;clear dc1 c1;have uc3:=c3;simp only [At,Own,Nat.reduceAdd,and_true] at uc3;go_wp2;go_ret;refine ⟨rfl,?_⟩;exact bB

theorem hloc_one {S:Nat} (v:Value) (a:Rat×Rat) (p:Rat×Rat) (w:World) (h:PV w v [a]) (ha:Pl.SzP S a) (hp:Pl.SzP S p) (hS:S≤100000) :
 Calls Tryz.prog 20 #[v,pv p] w fun e w'=>e=.returned (.int .i64 (Pl.locR [a] p))∧Below w.heap.size w w':=by
 obtain ⟨A,c,rfl,hc,hm,hx⟩:=h.open1;have HX:=Lib.hid hx;clear h hx;go_enter Tryz.func20,Tryz.ntmps20
 by_cases hq1:a=p
 ·skip
  have EQhq1:=fun W=>eqP_in a p W
  rw [decide_eq_true hq1] at EQhq1;have Hhq1:=Lib.hid hq1;clear hq1;go_wp2_with fail;refine wp_named ?_;intro W1 hW1;have hL1:Below w.heap.size w W1:=by rw [hW1];exact bB
  have c2:Own W1 w.heap.size 0 [.bool (ng p.1.num),.string (mg p.1.num.natAbs),.bool false,.string (mg (dn p.1)),.bool (ng p.2.num),.string (mg p.2.num.natAbs),.bool false,.string (mg (dn p.2))]:=by
   rw [hW1]
   first
   | (repeat (first|(with_reducible refine own_new (l:=[.bool (ng p.1.num),.string (mg p.1.num.natAbs),.bool false,.string (mg (dn p.1)),.bool (ng p.2.num),.string (mg p.2.num.natAbs),.bool false,.string (mg (dn p.2))]) ?_;(simp;done))|with_reducible refine Own.alloc ?_ _|refine Own.far _ _ (by first|(simp;done)|(simp [*];done)|(simp;omega)) ?_));done
   | simp [Own,go_sem]
  have hB3:Below w.heap.size w W1:=by rw [hW1];exact bB
  clear hW1 hL1;have dc2:=fun p:Bel W1=>c2.bel p
  simp only [At,Own,Nat.reduceAdd,and_true] at dc2;obtain ⟨g5,o6,ha7,-⟩:=(HX.out).up kpP hB3 _ _ (show ([a]:List (Rat×Rat))[0]?=some a from rfl);subst ha7;have ce4:=LX.at_ ((HX.out).up kpP hB3) (show ([a]:List (Rat×Rat))[0]?=some a from rfl);have ce4_:g5<W1.heap.size:=World.block_lt_of_cell? _ _ ce4.1;have dce4:=fun b:Bel W1=>ce4.bel b
  simp only [CE,Nat.reduceMul,Nat.zero_mul,Nat.add_zero,Nat.add_assoc,Nat.reduceAdd] at dce4;refine wp_region_all (by kernel_rfl) (by kernel_rfl) ?_;repeat (go_big_quiet_step (fail))
  refine wpQuiet_nil ?_;intro w1 hb1;have c8:=c2.up hb1;have hB9:Below w.heap.size w w1:=bel_up hB3 hb1;clear dc2 dce4 c2;have uc8:=c8;simp only [At,Own,Nat.reduceAdd,and_true] at uc8;go_wp2;go_ret;refine ⟨(by show _=Ending.returned (.int .i64 (if a=p then 0 else -1));first|(rw [if_pos Hhq1.out]<;>rfl)|(rw [if_neg Hhq1.out]<;>rfl)),?_⟩;exact bB
 ·skip
  have EQhq1:=fun W=>eqP_in a p W
  rw [decide_eq_false hq1] at EQhq1;have Hhq1:=Lib.hid hq1;clear hq1;go_wp2_with fail;refine wp_named ?_;intro W2 hW2;have hL2:Below w.heap.size w W2:=by rw [hW2];exact bB
  have c10:Own W2 w.heap.size 0 [.bool (ng p.1.num),.string (mg p.1.num.natAbs),.bool false,.string (mg (dn p.1)),.bool (ng p.2.num),.string (mg p.2.num.natAbs),.bool false,.string (mg (dn p.2))]:=by
   rw [hW2]
   first
   | (repeat (first|(with_reducible refine own_new (l:=[.bool (ng p.1.num),.string (mg p.1.num.natAbs),.bool false,.string (mg (dn p.1)),.bool (ng p.2.num),.string (mg p.2.num.natAbs),.bool false,.string (mg (dn p.2))]) ?_;(simp;done))|with_reducible refine Own.alloc ?_ _|refine Own.far _ _ (by first|(simp;done)|(simp [*];done)|(simp;omega)) ?_));done
   | simp [Own,go_sem]
  have hB11:Below w.heap.size w W2:=by rw [hW2];exact bB
  clear hW2 hL2;have dc10:=fun p:Bel W2=>c10.bel p
  simp only [At,Own,Nat.reduceAdd,and_true] at dc10;obtain ⟨g13,o14,ha15,-⟩:=(HX.out).up kpP hB11 _ _ (show ([a]:List (Rat×Rat))[0]?=some a from rfl);subst ha15;have ce12:=LX.at_ ((HX.out).up kpP hB11) (show ([a]:List (Rat×Rat))[0]?=some a from rfl);have ce12_:g13<W2.heap.size:=World.block_lt_of_cell? _ _ ce12.1;have dce12:=fun b:Bel W2=>ce12.bel b
  simp only [CE,Nat.reduceMul,Nat.zero_mul,Nat.add_zero,Nat.add_assoc,Nat.reduceAdd] at dce12;refine wp_region_all (by kernel_rfl) (by kernel_rfl) ?_;repeat (go_big_quiet_step (fail))
  refine wpQuiet_nil ?_;intro w2 hb2;have c16:=c10.up hb2;have hB17:Below w.heap.size w w2:=bel_up hB11 hb2;clear dc10 dce12 c10;have uc16:=c16;simp only [At,Own,Nat.reduceAdd,and_true] at uc16;go_wp2;go_ret;refine ⟨(by show _=Ending.returned (.int .i64 (if a=p then 0 else -1));first|(rw [if_pos Hhq1.out]<;>rfl)|(rw [if_neg Hhq1.out]<;>rfl)),?_⟩;exact bB

theorem hloc_two {S:Nat} (v:Value) (a b:Rat×Rat) (p:Rat×Rat) (w:World) (h:PV w v [a,b]) (ha:Pl.SzP S a) (hb:Pl.SzP S b) (hp:Pl.SzP S p) (hS:S≤100000) :
 Calls Tryz.prog 20 #[v,pv p] w fun e w'=>e=.returned (.int .i64 (Pl.locR [a,b] p))∧Below w.heap.size w w':=by
 obtain ⟨A,c,rfl,hc,hm,hx⟩:=h.open2;have HX:=Lib.hid hx;clear h hx;go_enter Tryz.func20,Tryz.ntmps20;have kK1:=fun W=>hbtw_any p a b W hp ha hb (by omega) (by omega) (by omega)
 generalize hT3:Pl.btwB p a b=b2 at kK1;have K1:=Lib.hid kK1;clear kK1;have HhT3:=Lib.hid hT3;clear hT3;go_wp2_with fail;refine wp_named ?_;intro W1 hW1;have hL1:Below w.heap.size w W1:=by rw [hW1];exact bB
 have c4:Own W1 w.heap.size 0 [.bool (ng p.1.num),.string (mg p.1.num.natAbs),.bool false,.string (mg (dn p.1)),.bool (ng p.2.num),.string (mg p.2.num.natAbs),.bool false,.string (mg (dn p.2))]:=by
  rw [hW1]
  first
  | (repeat (first|(with_reducible refine own_new (l:=[.bool (ng p.1.num),.string (mg p.1.num.natAbs),.bool false,.string (mg (dn p.1)),.bool (ng p.2.num),.string (mg p.2.num.natAbs),.bool false,.string (mg (dn p.2))]) ?_;(simp;done))|with_reducible refine Own.alloc ?_ _|refine Own.far _ _ (by first|(simp;done)|(simp [*];done)|(simp;omega)) ?_));done
  | simp [Own,go_sem]
 have hB5:Below w.heap.size w W1:=by rw [hW1];exact bB
 clear hW1 hL1;have dc4:=fun p:Bel W1=>c4.bel p
 simp only [At,Own,Nat.reduceAdd,and_true] at dc4;obtain ⟨g7,o8,ha9,-⟩:=(HX.out).up kpP hB5 _ _ (show ([a,b]:List (Rat×Rat))[0]?=some a from rfl);subst ha9;have ce6:=LX.at_ ((HX.out).up kpP hB5) (show ([a,b]:List (Rat×Rat))[0]?=some a from rfl);have ce6_:g7<W1.heap.size:=World.block_lt_of_cell? _ _ ce6.1;have dce6:=fun b:Bel W1=>ce6.bel b
 simp only [CE,Nat.reduceMul,Nat.zero_mul,Nat.add_zero,Nat.add_assoc,Nat.reduceAdd] at dce6;have ce10:=LX.at_ ((HX.out).up kpP hB5) (show ([a,b]:List (Rat×Rat))[1]?=some b from rfl);have ce10_:g7<W1.heap.size:=World.block_lt_of_cell? _ _ ce10.1;have dce10:=fun b:Bel W1=>ce10.bel b
 simp only [CE,Nat.reduceMul,Nat.zero_mul,Nat.add_zero,Nat.add_assoc,Nat.reduceAdd] at dce10;refine wp_region_all (by kernel_rfl) (by kernel_rfl) ?_;repeat (go_big_quiet_step (first|(go_at_call 56;with_reducible exact Calls.bel (K1.out _))))
 refine wpQuiet_nil ?_;intro w1 hb1;have c11:=c4.up hb1;have hB12:Below w.heap.size w w1:=bel_up hB5 hb1;clear dc4 dce6 dce10 c4;have uc11:=c11;simp only [At,Own,Nat.reduceAdd,and_true] at uc11;cases b2
 ·skip
  go_wp2;go_ret;refine ⟨(by show _=Ending.returned (.int .i64 (if Pl.btwB p a b then 0 else -1));rw [HhT3.out];rfl),?_⟩;exact bB
 ·skip
  go_wp2;go_ret;refine ⟨(by show _=Ending.returned (.int .i64 (if Pl.btwB p a b then 0 else -1));rw [HhT3.out];rfl),?_⟩;exact bB

theorem cloc_any {S:Nat} (v:Value) (l:List (Rat×Rat)) (p:Rat×Rat) (w:World) (h:PV w v l) (hs:∀ q∈l,Pl.SzP S q) (hn:l.length≤1000000) (hS:S≤100000) (hp:Pl.SzP S p) :
 Calls Tryz.prog 18 #[v,pv p] w fun e w'=>e=.returned (.int .i64 (Pl.locR l p))∧Below w.heap.size w w':=by
 rw [← Pl.locC_locR]
 match l,h,hs,hn with
 | [],h,_,_=>exact cloc_nil v p w h
 | [a],h,hs,_=>exact cloc_one v a p w h (hs a (by simp)) hp hS
 | [a,b],h,hs,_=>exact cloc_two v a b p w h (hs a (by simp)) (hs b (by simp)) hp hS
 | _ :: _ :: _ :: _,h,hs,hn=>exact cloc_many v _ p w h hs hn hS hp (by simp)
theorem hloc_any {S:Nat} (v:Value) (l:List (Rat×Rat)) (p:Rat×Rat) (w:World) (h:PV w v l) (hs:∀ q∈l,Pl.SzP S q) (hn:l.length≤1000000) (hS:S≤100000) (hp:Pl.SzP S p) :
 Calls Tryz.prog 20 #[v,pv p] w fun e w'=>e=.returned (.int .i64 (Pl.locR l p))∧Below w.heap.size w w':=by
 match l,h,hs,hn with
 | [],h,_,_=>exact hloc_nil v p w h
 | [a],h,hs,_=>exact hloc_one v a p w h (hs a (by simp)) hp hS
 | [a,b],h,hs,_=>exact hloc_two v a b p w h (hs a (by simp)) (hs b (by simp)) hp hS
 | _ :: _ :: _ :: _,h,hs,hn=>exact hloc_many v _ p w h hs hn hS hp (by simp)
end Go.Proofs.YtdkkjfnpinckjaaGreatDoor
