/-
 Contracts for convex sets: the nearest points of two of them.
-/
import Derived.Test.YtdkkjfnpinckjaaGreatDoorYNpt
import Derived.Test.YtdkkjfnpinckjaaGreatDoorYLok
import Derived.Test.YtdkkjfnpinckjaaGreatDoorYCed
import Derived.Test.YtdkkjfnpinckjaaGreatDoorYCutQ
import Derived.Test.YtdkkjfnpinckjaaGreatDoorYKnw
set_option maxRecDepth 100000
set_option linter.unusedSimpArgs false
set_option linter.unusedVariables false
namespace Go.Proofs.YtdkkjfnpinckjaaGreatDoor
open Go Go.RowKit

def FS (L:List ((Rat×Rat)×(Rat×Rat))):Bool×Rat×(Rat×Rat)×(Rat×Rat):=L.foldl lkS (true,0,(0,0),(0,0))
theorem FS_snoc (L:List ((Rat×Rat)×(Rat×Rat))) (c:(Rat×Rat)×(Rat×Rat)):FS (L++[c])=lkS (FS L) c:=by unfold FS;rw [List.foldl_append];rfl
theorem FS_fold:∀ (l:List ((Rat×Rat)×(Rat×Rat))) (o:(Rat×Rat)×(Rat×Rat)),l.foldl lkS (false,Pl.dist2 o.1 o.2,o.1,o.2)=(false,Pl.dist2 (l.foldl Pl.lookS o).1 (l.foldl Pl.lookS o).2,(l.foldl Pl.lookS o).1,(l.foldl Pl.lookS o).2)
 | [],_=>rfl
 | c :: l,o=>by
  rw [List.foldl_cons,List.foldl_cons,← FS_fold l];congr 1;unfold lkS Pl.lookS;simp only [Bool.false_eq_true,false_or]
  split<;>rfl
theorem FS_near (a b:List (Rat×Rat)):(FS (Pl.cands a b)).2.2=Pl.nearest2 a b:=by
 unfold Pl.nearest2
 split
 ·rename_i e;rw [e];rfl
 ·rename_i c l e
  rw [e,FS,List.foldl_cons,lk_first rfl,FS_fold]
theorem edges_ne {b:List (Rat×Rat)} (hb:Pl.wrap b=b):∀ s∈Pl.edges b,s.1≠s.2:=fun s hs=>by
 rcases Nat.lt_or_ge b.length 2 with h|h
 ·rw [Pl.edges,if_pos h] at hs;cases hs
 ·refine Pl.sides_ne hb h s ?_
  rcases Nat.lt_or_ge 2 b.length with h2|h2
  ·rw [Pl.sides,if_pos h2];exact hs
  ·rw [Pl.sides,if_neg (by omega)]
   rw [Pl.edges,if_neg (by omega),if_pos (by omega)] at hs;rw [List.mem_singleton] at hs;subst hs;simp
theorem map_snocT {α β:Type} {l:List α} {k:Nat} {x:α} {f:α→β} (h:l[k]?=some x):(l.take (k+1)).map f=(l.take k).map f++[f x]:=by
 rw [List.take_add_one,h];simp
theorem flat_snocT {α β:Type} {l:List α} {k:Nat} {x:α} {f:α→List β} (h:l[k]?=some x):(l.take (k+1)).flatMap f=(l.take k).flatMap f++f x:=by
 rw [List.take_add_one,h];simp
def cx (b:List (Rat×Rat)) (ES:List ((Rat×Rat)×(Rat×Rat))) (x:Rat×Rat):List ((Rat×Rat)×(Rat×Rat)):=b.map (fun y=>(x,y))++ES.map fun s=>(x,Pl.nearP x s)
def cy (EA:List ((Rat×Rat)×(Rat×Rat))) (y:Rat×Rat):List ((Rat×Rat)×(Rat×Rat)):=EA.map fun s=>(Pl.nearP y s,y)
theorem cands_def (a b:List (Rat×Rat)):Pl.cands a b=a.flatMap (cx b (Pl.edges b))++b.flatMap (cy (Pl.edges a)):=rfl

theorem zero_sz:Pl.Sz 400 (0:Rat)∧Pl.SzP 33 ((0:Rat),(0:Rat))∧Pl.SzP 33 ((0:Rat),(0:Rat)) :=
 ⟨Pl.sz_zero.mono (by decide),⟨Pl.sz_zero.mono (by decide),Pl.sz_zero.mono (by decide)⟩,⟨Pl.sz_zero.mono (by decide),Pl.sz_zero.mono (by decide)⟩⟩

set_option maxHeartbeats 4000000 in
theorem cnear_any (va vb:Value) (a b:List (Rat×Rat)) (w:World) (ha:PV w va a) (hb:PV w vb b) (hsa:∀ q∈a,Pl.SzP 1 q) (hsb:∀ q∈b,Pl.SzP 1 q) (hna:a.length≤1000000) (hnb:b.length≤1000000) (hwa:Pl.wrap a=a) (hwb:Pl.wrap b=b) :
 Calls Tryz.prog 98 #[va,vb] w fun e w'=>e=.returned (.tuple #[pv (Pl.nearest2 a b).1,pv (Pl.nearest2 a b).2])∧Below w.heap.size w w':=by
 obtain ⟨EA,hEA⟩:∃ E,Pl.edges a=E:=⟨_,rfl⟩
 obtain ⟨EB,hEB⟩:∃ E,Pl.edges b=E:=⟨_,rfl⟩
 obtain ⟨NEA,hLA⟩:∃ n,EA.length=n:=⟨_,rfl⟩
 obtain ⟨NEB,hLB⟩:∃ n,EB.length=n:=⟨_,rfl⟩
 have hleA:NEA≤a.length:=by rw [← hLA,← hEA];exact Pl.edges_length a
 have hleB:NEB≤b.length:=by rw [← hLB,← hEB];exact Pl.edges_length b
 have HESA:=Lib.hid hEA;have HESB:=Lib.hid hEB;have HLEA:=Lib.hid hLA;have HLEB:=Lib.hid hLB;have HZA:Hid (∀ s∈EA,Pl.SzS 1 s):=Lib.hid (by rw [← hEA];exact Pl.edges_sz hsa);have HZB:Hid (∀ s∈EB,Pl.SzS 1 s):=Lib.hid (by rw [← hEB];exact Pl.edges_sz hsb);have HNEA:Hid (∀ s∈EA,s.1≠s.2):=Lib.hid (by rw [← hEA];exact edges_ne hwa);have HNEB:Hid (∀ s∈EB,s.1≠s.2):=Lib.hid (by rw [← hEB];exact edges_ne hwb);have HFEA:Hid (EA.take NEA=EA):=Lib.hid (by rw [← hLA];exact List.take_length);have HFEB:Hid (EB.take NEB=EB):=Lib.hid (by rw [← hLB];exact List.take_length);clear hEA hEB hLA hLB hwa hwb;obtain ⟨Aa,ca,rfl,hca,hma,hxa⟩:=ha.open_;have HVA:=Lib.hid ha;have HXA:=Lib.hid hxa;have HSA:=Lib.hid hsa;obtain ⟨Ab,cb,rfl,hcb,hmb,hxb⟩:=hb.open_;have HVB:=Lib.hid hb;have HXB:=Lib.hid hxb;have HSB:=Lib.hid hsb;have HFA:Hid (a.take a.length=a):=Lib.hid List.take_length;generalize hNa:a.length=Na at *;have HNA:=Lib.hid hNa;clear ha hxa hsa hNa;have HFB:Hid (b.take b.length=b):=Lib.hid List.take_length;generalize hNb:b.length=Nb at *;have HNB:=Lib.hid hNb;clear hb hxb hsb hNb;go_enter Tryz.func98,Tryz.ntmps98;go_wp2_with fail;refine wp_named ?_;intro W1 hW1;have hL1:Below w.heap.size w W1:=by rw [hW1];exact bB
 have c1:Own W1 w.heap.size 0 [.bool false,.string ⟨#[]⟩,.bool false,.string ⟨#[]⟩,.bool false,.string ⟨#[]⟩,.bool false,.string ⟨#[]⟩]:=by
  rw [hW1]
  first
  | (repeat (first|(with_reducible refine own_new (l:=[.bool false,.string ⟨#[]⟩,.bool false,.string ⟨#[]⟩,.bool false,.string ⟨#[]⟩,.bool false,.string ⟨#[]⟩]) ?_;(simp;done))|with_reducible refine Own.alloc ?_ _|refine Own.far _ _ (by first|(simp;done)|(simp [*];done)|(simp;omega)) ?_));done
  | simp [Own,go_sem]
 have c2:Own W1 (w.heap.size+1) 0 [.bool false,.string ⟨#[]⟩,.bool false,.string ⟨#[]⟩,.bool false,.string ⟨#[]⟩,.bool false,.string ⟨#[]⟩]:=by
  rw [hW1]
  first
  | (repeat (first|(with_reducible refine own_new (l:=[.bool false,.string ⟨#[]⟩,.bool false,.string ⟨#[]⟩,.bool false,.string ⟨#[]⟩,.bool false,.string ⟨#[]⟩]) ?_;(simp;done))|with_reducible refine Own.alloc ?_ _|refine Own.far _ _ (by first|(simp;done)|(simp [*];done)|(simp;omega)) ?_));done
  | simp [Own,go_sem]
 have c3:Own W1 (w.heap.size+2) 0 [.bool true]:=by
  rw [hW1]
  first
  | (repeat (first|(with_reducible refine own_new (l:=[.bool true]) ?_;(simp;done))|with_reducible refine Own.alloc ?_ _|refine Own.far _ _ (by first|(simp;done)|(simp [*];done)|(simp;omega)) ?_));done
  | simp [Own,go_sem]
 have c4:Own W1 (w.heap.size+3) 0 [.bool false,.string ⟨#[]⟩,.bool false,.string ⟨#[]⟩]:=by
  rw [hW1]
  first
  | (repeat (first|(with_reducible refine own_new (l:=[.bool false,.string ⟨#[]⟩,.bool false,.string ⟨#[]⟩]) ?_;(simp;done))|with_reducible refine Own.alloc ?_ _|refine Own.far _ _ (by first|(simp;done)|(simp [*];done)|(simp;omega)) ?_));done
  | simp [Own,go_sem]
 have hB5:Below w.heap.size w W1:=by rw [hW1];exact bB
 clear hW1 hL1;go_loopw [26] (fun s26 wr=>∃ (i:Nat) (f:Bool) (D:Rat) (P:Rat×Rat) (Q:Rat×Rat),s26=.int .i64 i∧Own wr w.heap.size 0 [.bool (ng P.1.num),.string (mg P.1.num.natAbs),.bool false,.string (mg (dn P.1)),.bool (ng P.2.num),.string (mg P.2.num.natAbs),.bool false,.string (mg (dn P.2))]∧Own wr (w.heap.size+1) 0 [.bool (ng Q.1.num),.string (mg Q.1.num.natAbs),.bool false,.string (mg (dn Q.1)),.bool (ng Q.2.num),.string (mg Q.2.num.natAbs),.bool false,.string (mg (dn Q.2))]∧Own wr (w.heap.size+2) 0 [.bool f]∧Own wr (w.heap.size+3) 0 [.bool (ng D.num),.string (mg D.num.natAbs),.bool false,.string (mg (dn D))]∧Below w.heap.size w wr∧i≤Na∧Hid (Pl.Sz 400 D∧Pl.SzP 33 P∧Pl.SzP 33 Q)∧Hid ((f,D,P,Q)=FS ((a.take i).flatMap (cx b EB)))) (fun s26 _=>Na-(intOf s26).toNat)
 case atStart=>exact ⟨0,true,0,((0:Rat),(0:Rat)),((0:Rat),(0:Rat)),rfl,c1,c2,c3,c4,hB5,(by omega),Lib.hid zero_sz,Lib.hid rfl⟩
 case round =>
  clear c1 c2 c3 c4 hB5;obtain ⟨i,f,D,P,Q,rfl,b6,b7,b8,b9,hB10,hi,HZ,HE⟩:=hrel;obtain ⟨wr11,hwr11⟩:∃ W_,W_=wr:=⟨_,rfl⟩
  subst hwr11
  by_cases hlti:i<Na
  ·skip
   have i1i:(i:Int)<Na:=by omega
   obtain ⟨x,hx12⟩:∃ x,a[i]?=some x:=⟨_,List.getElem?_eq_getElem (by rw [HNA.out];omega)⟩
   have Hhx12:=Lib.hid hx12;have Zhx12:=Lib.hid (HSA.out _ (List.mem_of_getElem? hx12));clear hx12;obtain ⟨g14,o15,ha16,-⟩:=(HXA.out).up kpP hB10 _ _ Hhx12.out;subst ha16;have ce13:=LX.at_ ((HXA.out).up kpP hB10) Hhx12.out;have ce13_:g14<wr11.heap.size:=World.block_lt_of_cell? _ _ ce13.1;have uce13:=ce13;simp only [CE,Nat.reduceMul] at uce13;have ne17_:w.heap.size<wr11.heap.size:=by have:=b6.lt;omega
   have ne17:=Nat.ne_of_lt ne17_;have ne17':=ne17.symm;have ne18_:w.heap.size+1<wr11.heap.size:=by have:=b7.lt;omega
   have ne18:=Nat.ne_of_lt ne18_;have ne18':=ne18.symm;have ne19_:w.heap.size+2<wr11.heap.size:=by have:=b8.lt;omega
   have ne19:=Nat.ne_of_lt ne19_;have ne19':=ne19.symm;have ne20_:w.heap.size+3<wr11.heap.size:=by have:=b9.lt;omega
   have ne20:=Nat.ne_of_lt ne20_;have ne20':=ne20.symm;have ne21_:g14<wr11.heap.size:=by omega
   have ne21:=Nat.ne_of_lt ne21_;have ne21':=ne21.symm;have ub6:=b6;have ub7:=b7;have ub8:=b8;have ub9:=b9;simp only [At,Own,Nat.reduceAdd,and_true] at ub6 ub7 ub8 ub9;go_wp2_with fail;refine wp_named ?_;intro W2 hW2;have hL2:Below wr11.heap.size wr11 W2:=by rw [hW2];exact bB
   have c22:=b6.up hL2;have c23:=b7.up hL2;have c24:=b8.up hL2;have c25:=b9.up hL2
   have c26:Own W2 wr11.heap.size 0 [.bool (ng x.1.num),.string (mg x.1.num.natAbs),.bool false,.string (mg (dn x.1)),.bool (ng x.2.num),.string (mg x.2.num.natAbs),.bool false,.string (mg (dn x.2))]:=by
    rw [hW2]
    first
    | (repeat (first|(with_reducible refine own_new (l:=[.bool (ng x.1.num),.string (mg x.1.num.natAbs),.bool false,.string (mg (dn x.1)),.bool (ng x.2.num),.string (mg x.2.num.natAbs),.bool false,.string (mg (dn x.2))]) ?_;(simp;done))|with_reducible refine Own.alloc ?_ _|refine Own.far _ _ (by first|(simp;done)|(simp [*];done)|(simp;omega)) ?_));done
    | simp [Own,go_sem,uce13,ub6,ub7,ub8,ub9,ne17,ne17',ne17_,ne18,ne18',ne18_,ne19,ne19',ne19_,ne20,ne20',ne20_,ne21,ne21',ne21_]
   have hB27:Below w.heap.size w W2:=by rw [hW2];exact bB
   clear hW2 hL2 uce13 ub6 ub7 ub8 ub9 b6 b7 b8 b9;go_loopw [32] (fun s32 wr=>∃ (k:Nat) (f1:Bool) (D1:Rat) (P1:Rat×Rat) (Q1:Rat×Rat),s32=.int .i64 k∧Own wr w.heap.size 0 [.bool (ng P1.1.num),.string (mg P1.1.num.natAbs),.bool false,.string (mg (dn P1.1)),.bool (ng P1.2.num),.string (mg P1.2.num.natAbs),.bool false,.string (mg (dn P1.2))]∧Own wr (w.heap.size+1) 0 [.bool (ng Q1.1.num),.string (mg Q1.1.num.natAbs),.bool false,.string (mg (dn Q1.1)),.bool (ng Q1.2.num),.string (mg Q1.2.num.natAbs),.bool false,.string (mg (dn Q1.2))]∧Own wr (w.heap.size+2) 0 [.bool f1]∧Own wr (w.heap.size+3) 0 [.bool (ng D1.num),.string (mg D1.num.natAbs),.bool false,.string (mg (dn D1))]∧Own wr wr11.heap.size 0 [.bool (ng x.1.num),.string (mg x.1.num.natAbs),.bool false,.string (mg (dn x.1)),.bool (ng x.2.num),.string (mg x.2.num.natAbs),.bool false,.string (mg (dn x.2))]∧Below w.heap.size w wr∧k≤Nb∧Hid (Pl.Sz 400 D1∧Pl.SzP 33 P1∧Pl.SzP 33 Q1)∧Hid ((f1,D1,P1,Q1)=FS ((a.take i).flatMap (cx b EB)++(b.take k).map (fun y=>(x,y))))) (fun s32 _=>Nb-(intOf s32).toNat)
   case atStart=>exact ⟨0,f,D,P,Q,rfl,c22,c23,c24,c25,c26,hB27,(by omega),HZ,Lib.hid (by rw [HE.out];simp)⟩
   case round =>
    clear c22 c23 c24 c25 c26 hB27;obtain ⟨k,f1,D1,P1,Q1,rfl,b28,b29,b30,b31,b32,hB33,hi1,HZ1,HE1⟩:=hrel;obtain ⟨wr34,hwr34⟩:∃ W_,W_=wr:=⟨_,rfl⟩
    subst hwr34
    by_cases hltk:k<Nb
    ·skip
     have i1k:(k:Int)<Nb:=by omega
     obtain ⟨y,hx35⟩:∃ x,b[k]?=some x:=⟨_,List.getElem?_eq_getElem (by rw [HNB.out];omega)⟩
     have Hhx35:=Lib.hid hx35;have Zhx35:=Lib.hid (HSB.out _ (List.mem_of_getElem? hx35));clear hx35;obtain ⟨g37,o38,ha39,-⟩:=(HXB.out).up kpP hB33 _ _ Hhx35.out;subst ha39;have ce36:=LX.at_ ((HXB.out).up kpP hB33) Hhx35.out;have ce36_:g37<wr34.heap.size:=World.block_lt_of_cell? _ _ ce36.1;have uce36:=ce36;simp only [CE,Nat.reduceMul] at uce36;have ne40_:w.heap.size<wr34.heap.size:=by have:=b28.lt;omega
     have ne40:=Nat.ne_of_lt ne40_;have ne40':=ne40.symm;have ne41_:w.heap.size+1<wr34.heap.size:=by have:=b29.lt;omega
     have ne41:=Nat.ne_of_lt ne41_;have ne41':=ne41.symm;have ne42_:w.heap.size+2<wr34.heap.size:=by have:=b30.lt;omega
     have ne42:=Nat.ne_of_lt ne42_;have ne42':=ne42.symm;have ne43_:w.heap.size+3<wr34.heap.size:=by have:=b31.lt;omega
     have ne43:=Nat.ne_of_lt ne43_;have ne43':=ne43.symm;have ne44_:wr11.heap.size<wr34.heap.size:=by have:=b32.lt;omega
     have ne44:=Nat.ne_of_lt ne44_;have ne44':=ne44.symm;have ne45_:g14<wr34.heap.size:=by omega
     have ne45:=Nat.ne_of_lt ne45_;have ne45':=ne45.symm;have ne46_:g37<wr34.heap.size:=by omega
     have ne46:=Nat.ne_of_lt ne46_;have ne46':=ne46.symm;have ub28:=b28;have ub29:=b29;have ub30:=b30;have ub31:=b31;have ub32:=b32;simp only [At,Own,Nat.reduceAdd,and_true] at ub28 ub29 ub30 ub31 ub32;go_wp2_with fail;refine calls_named ?_;intro W3 hW3;have hL3:Below wr34.heap.size wr34 W3:=by rw [hW3];exact bB
     have c47:=b28.up hL3;have c48:=b29.up hL3;have c49:=b30.up hL3;have c50:=b31.up hL3;have c51:=b32.up hL3
     have c52:Own W3 wr34.heap.size 0 [.bool (ng y.1.num),.string (mg y.1.num.natAbs),.bool false,.string (mg (dn y.1)),.bool (ng y.2.num),.string (mg y.2.num.natAbs),.bool false,.string (mg (dn y.2))]:=by
      rw [hW3]
      first
      | (repeat (first|(with_reducible refine own_new (l:=[.bool (ng y.1.num),.string (mg y.1.num.natAbs),.bool false,.string (mg (dn y.1)),.bool (ng y.2.num),.string (mg y.2.num.natAbs),.bool false,.string (mg (dn y.2))]) ?_;(simp;done))|with_reducible refine Own.alloc ?_ _|refine Own.far _ _ (by first|(simp;done)|(simp [*];done)|(simp;omega)) ?_));done
      | simp [Own,go_sem,uce36,ub28,ub29,ub30,ub31,ub32,ne40,ne40',ne40_,ne41,ne41',ne41_,ne42,ne42',ne42_,ne43,ne43',ne43_,ne44,ne44',ne44_,ne45,ne45',ne45_,ne46,ne46',ne46_]
     have hB53:Below w.heap.size w W3:=by rw [hW3];exact bB
     clear hW3 hL3 uce36 ub28 ub29 ub30 ub31 ub32 b28 b29 b30 b31 b32;with_reducible refine (look_any x y f1 D1 P1 Q1 w.heap.size _ (Zhx12.out.mono (by decide)) (Zhx35.out.mono (by decide)) HZ1.out.1 HZ1.out.2.1 HZ1.out.2.2 c47 c48 c49 c50).mono ?_
     rintro e w3 ⟨rfl,f_3,D_3,P_3,Q_3,hS3,hZ3,c0_3,c1_3,c2_3,c3_3,hE3⟩;have hz3:=c50.lt;have c54:=Exc.own hE3 c51.lt (.inr (by omega)) c51;have c55:=Exc.own hE3 c52.lt (.inr (by omega)) c52;have hB56:Below w.heap.size w w3:=hB53.trans (hE3.below (hB53).size);clear c47 c48 c49 c50 c51 c52;clear c55;have uc54:=c54;have uc0_3:=c0_3;have uc1_3:=c1_3;have uc2_3:=c2_3;have uc3_3:=c3_3;simp only [At,Own,Nat.reduceAdd,and_true] at uc54 uc0_3 uc1_3 uc2_3 uc3_3;go_wp2;go_roundw
     case rel=>exact ⟨(k+1),f_3,D_3,P_3,Q_3,(by first|rfl|exact congrArg (Value.int .i64) (by omega)|simp [*]),(by repeat (first|with_reducible exact c0_3|refine Own.far _ _ (by simp<;>omega) ?_|with_reducible refine Own.alloc ?_ _)),(by repeat (first|with_reducible exact c1_3|refine Own.far _ _ (by simp<;>omega) ?_|with_reducible refine Own.alloc ?_ _)),(by repeat (first|with_reducible exact c2_3|refine Own.far _ _ (by simp<;>omega) ?_|with_reducible refine Own.alloc ?_ _)),(by repeat (first|with_reducible exact c3_3|refine Own.far _ _ (by simp<;>omega) ?_|with_reducible refine Own.alloc ?_ _)),(by repeat (first|with_reducible exact c54|refine Own.far _ _ (by simp<;>omega) ?_|with_reducible refine Own.alloc ?_ _)),(by exact bB),(by omega),hZ3,Lib.hid (by rw [hS3.out,HE1.out,map_snocT Hhx35.out,← List.append_assoc,FS_snoc])⟩
     case measure=>simp [intOf]<;>omega
    ·skip
     have hkN:Nb=k:=by omega
     subst hkN;have HLB:Hid ((f1,D1,P1,Q1)=FS ((a.take i).flatMap (cx b EB)++b.map (fun y=>(x,y)))):=Lib.hid (by rw [HE1.out,HFB.out]);have K57:=Lib.hid (fun v W hW=>HESB.out▸edges_own v b W hW HSB.out (by rw [HNB.out];omega) (by omega));have ub28:=b28;have ub29:=b29;have ub30:=b30;have ub31:=b31;have ub32:=b32;simp only [At,Own,Nat.reduceAdd,and_true] at ub28 ub29 ub30 ub31 ub32;go_wp2_with (fail)
     refine calls_named ?_;intro W4 hW4;have hL4:Below wr34.heap.size wr34 W4:=by rw [hW4];exact bB
     have c58:=b28.up hL4;have c59:=b29.up hL4;have c60:=b30.up hL4;have c61:=b31.up hL4;have c62:=b32.up hL4;have hB63:Below w.heap.size w W4:=by rw [hW4];exact bB
     clear hW4 hL4 ub28 ub29 ub30 ub31 ub32 b28 b29 b30 b31 b32;with_reducible refine (K57.out _ _ (HVB.out.up hB63)).mono ?_
     rintro e w4 ⟨v4,n4,rfl,ho4,hb4⟩;have f64:Value.ownBlock v4≠some w.heap.size:=fun e_=>by have:=(ho4.lt _ e_).1;have:=c58.lt;omega
     have f65:Value.ownBlock v4≠some (w.heap.size+1):=fun e_=>by have:=(ho4.lt _ e_).1;have:=c59.lt;omega
     have f66:Value.ownBlock v4≠some (w.heap.size+2):=fun e_=>by have:=(ho4.lt _ e_).1;have:=c60.lt;omega
     have f67:Value.ownBlock v4≠some (w.heap.size+3):=fun e_=>by have:=(ho4.lt _ e_).1;have:=c61.lt;omega
     have f68:Value.ownBlock v4≠some wr11.heap.size:=fun e_=>by have:=(ho4.lt _ e_).1;have:=c62.lt;omega
     have OC4:=Lib.hid (ho4.mono (hB63).size);clear ho4;have c69:=c58.up hb4;have c70:=c59.up hb4;have c71:=c60.up hb4;have c72:=c61.up hb4;have c73:=c62.up hb4;have hB74:Below w.heap.size w w4:=bel_up hB63 hb4;clear c58 c59 c60 c61 c62;obtain ⟨hn42,A42,c42,hv42,_⟩:=owns_openS OC4.out;have hq42:NEB=n4:=(hn42.trans HLEB.out).symm;subst hq42;subst hv42;clear hn42;go_wp2_with fail;go_loopw [44] (fun s44 wr=>∃ (j:Nat) (f2:Bool) (D2:Rat) (P2:Rat×Rat) (Q2:Rat×Rat),s44=.int .i64 j∧Own wr w.heap.size 0 [.bool (ng P2.1.num),.string (mg P2.1.num.natAbs),.bool false,.string (mg (dn P2.1)),.bool (ng P2.2.num),.string (mg P2.2.num.natAbs),.bool false,.string (mg (dn P2.2))]∧Own wr (w.heap.size+1) 0 [.bool (ng Q2.1.num),.string (mg Q2.1.num.natAbs),.bool false,.string (mg (dn Q2.1)),.bool (ng Q2.2.num),.string (mg Q2.2.num.natAbs),.bool false,.string (mg (dn Q2.2))]∧Own wr (w.heap.size+2) 0 [.bool f2]∧Own wr (w.heap.size+3) 0 [.bool (ng D2.num),.string (mg D2.num.natAbs),.bool false,.string (mg (dn D2))]∧Own wr wr11.heap.size 0 [.bool (ng x.1.num),.string (mg x.1.num.natAbs),.bool false,.string (mg (dn x.1)),.bool (ng x.2.num),.string (mg x.2.num.natAbs),.bool false,.string (mg (dn x.2))]∧wr.ownsRow w.heap.size 59 16 (.slice A42 NEB c42) NEB (segs EB)∧Below w.heap.size w wr∧j≤NEB∧Hid (Pl.Sz 400 D2∧Pl.SzP 33 P2∧Pl.SzP 33 Q2)∧Hid ((f2,D2,P2,Q2)=FS ((a.take i).flatMap (cx b EB)++b.map (fun y=>(x,y))++(EB.take j).map (fun s=>(x,Pl.nearP x s))))) (fun s44 _=>NEB-(intOf s44).toNat)
     case atStart=>exact ⟨0,f1,D1,P1,Q1,rfl,c69,c70,c71,c72,c73,OC4.out,hB74,(by omega),HZ1,Lib.hid (by rw [HLB.out];simp)⟩
     case round =>
      clear c69 c70 c71 c72 c73 hB74 OC4;obtain ⟨j,f2,D2,P2,Q2,rfl,b75,b76,b77,b78,b79,o80,hB81,hi2,HZ2,HE2⟩:=hrel;obtain ⟨wr82,hwr82⟩:∃ W_,W_=wr:=⟨_,rfl⟩
      subst hwr82;have O83:=Lib.hid o80;clear o80
      by_cases hltj:j<NEB
      ·skip
       have i1j:(j:Int)<NEB:=by omega
       obtain ⟨g42,cap42,hv42,_,_,_,_⟩:=owns_form O83.out (by omega);injection hv42 with hv42 _ hw42
       subst hv42;subst hw42;obtain ⟨e,hx84⟩:∃ x,EB[j]?=some x:=⟨_,List.getElem?_eq_getElem (by rw [HLEB.out];omega)⟩
       have Hhx84:=Lib.hid hx84;have Zhx84:=Lib.hid (HZB.out _ (List.mem_of_getElem? hx84));clear hx84;have ce85:=LX.at_ (owns_viewS O83.out) Hhx84.out;have uce85:=ce85;simp only [CS,Nat.reduceMul,Nat.zero_add] at uce85;have f86:=owns_new0 O83.out;have ne87_:w.heap.size<wr82.heap.size:=by have:=b75.lt;omega
       have ne87:=Nat.ne_of_lt ne87_;have ne87':=ne87.symm;have ne88_:w.heap.size+1<wr82.heap.size:=by have:=b76.lt;omega
       have ne88:=Nat.ne_of_lt ne88_;have ne88':=ne88.symm;have ne89_:w.heap.size+2<wr82.heap.size:=by have:=b77.lt;omega
       have ne89:=Nat.ne_of_lt ne89_;have ne89':=ne89.symm;have ne90_:w.heap.size+3<wr82.heap.size:=by have:=b78.lt;omega
       have ne90:=Nat.ne_of_lt ne90_;have ne90':=ne90.symm;have ne91_:wr11.heap.size<wr82.heap.size:=by have:=b79.lt;omega
       have ne91:=Nat.ne_of_lt ne91_;have ne91':=ne91.symm;have ne92_:g14<wr82.heap.size:=by omega
       have ne92:=Nat.ne_of_lt ne92_;have ne92':=ne92.symm;have ub75:=b75;have ub76:=b76;have ub77:=b77;have ub78:=b78;have ub79:=b79;simp only [At,Own,Nat.reduceAdd,and_true] at ub75 ub76 ub77 ub78 ub79;go_upto_region 15 with (refine wpList_store_new rfl _ _ _ rfl _ _ rfl rfl (by kernel_rfl) (by rfl) (by simp [Value.oneCell']) ?_)
       refine wp_named ?_;intro W5 hW5;have hL5:Below wr82.heap.size wr82 W5:=by rw [hW5];exact bB
       have c93:=b75.up hL5;have c94:=b76.up hL5;have c95:=b77.up hL5;have c96:=b78.up hL5;have c97:=b79.up hL5
       have c98:Own W5 wr82.heap.size 0 [.bool (ng e.1.1.num),.string (mg e.1.1.num.natAbs),.bool false,.string (mg (dn e.1.1)),.bool (ng e.1.2.num),.string (mg e.1.2.num.natAbs),.bool false,.string (mg (dn e.1.2)),.bool (ng e.2.1.num),.string (mg e.2.1.num.natAbs),.bool false,.string (mg (dn e.2.1)),.bool (ng e.2.2.num),.string (mg e.2.2.num.natAbs),.bool false,.string (mg (dn e.2.2))]:=by
        rw [hW5]
        first
        | (repeat (first|(with_reducible refine own_new (l:=[.bool (ng e.1.1.num),.string (mg e.1.1.num.natAbs),.bool false,.string (mg (dn e.1.1)),.bool (ng e.1.2.num),.string (mg e.1.2.num.natAbs),.bool false,.string (mg (dn e.1.2)),.bool (ng e.2.1.num),.string (mg e.2.1.num.natAbs),.bool false,.string (mg (dn e.2.1)),.bool (ng e.2.2.num),.string (mg e.2.2.num.natAbs),.bool false,.string (mg (dn e.2.2))]) ?_;(simp;done))|with_reducible refine Own.alloc ?_ _|refine Own.far _ _ (by first|(simp;done)|(simp [*];done)|(simp;omega)) ?_));done
        | simp [Own,go_sem,uce85,ub75,ub76,ub77,ub78,ub79,ne87,ne87',ne87_,ne88,ne88',ne88_,ne89,ne89',ne89_,ne90,ne90',ne90_,ne91,ne91',ne91_,ne92,ne92',ne92_]
       have O99:=Lib.hid (owns_up O83.out hL5);have hB100:Below w.heap.size w W5:=by rw [hW5];exact bB
       clear hW5 hL5 uce85 ub75 ub76 ub77 ub78 ub79 b75 b76 b77 b78 b79;have uc93:=c93;have uc94:=c94;have uc95:=c95;have uc96:=c96;have uc97:=c97;have uc98:=c98;simp only [At,Own,Nat.reduceAdd,and_true] at uc93 uc94 uc95 uc96 uc97 uc98;have K101:=Lib.hid (fun W=>pnear_any x e W Zhx12.out Zhx84.out (HNEB.out _ (List.mem_of_getElem? Hhx84.out)));go_wp2_with (refine wpList_load_own (by rfl) _ _ rfl _ rfl _ _ c98 Tryz.underlying59 (by rfl) (by kernel_rfl) ?_)
       refine calls_named ?_;intro W6 hW6;have hL6:Below W5.heap.size W5 W6:=by rw [hW6];exact bB
       have c102:=c93.up hL6;have c103:=c94.up hL6;have c104:=c95.up hL6;have c105:=c96.up hL6;have c106:=c97.up hL6;have c107:=c98.up hL6;have O108:=Lib.hid (owns_up O99.out hL6);have hB109:Below w.heap.size w W6:=by rw [hW6];exact bB
       clear hW6 hL6 uc93 uc94 uc95 uc96 uc97 uc98 c93 c94 c95 c96 c97 c98;with_reducible refine (K101.out _).mono ?_
       rintro e w6 ⟨rfl,hb6⟩;have c110:=c102.up hb6;have c111:=c103.up hb6;have c112:=c104.up hb6;have c113:=c105.up hb6;have c114:=c106.up hb6;have c115:=c107.up hb6;have O116:=Lib.hid (owns_up O108.out hb6);have hB117:Below w.heap.size w w6:=bel_up hB109 hb6;clear c102 c103 c104 c105 c106 c107 O108;have f118:=owns_new0 O116.out;have ne119_:w.heap.size<w6.heap.size:=by have:=c110.lt;omega
       have ne119:=Nat.ne_of_lt ne119_;have ne119':=ne119.symm;have ne120_:w.heap.size+1<w6.heap.size:=by have:=c111.lt;omega
       have ne120:=Nat.ne_of_lt ne120_;have ne120':=ne120.symm;have ne121_:w.heap.size+2<w6.heap.size:=by have:=c112.lt;omega
       have ne121:=Nat.ne_of_lt ne121_;have ne121':=ne121.symm;have ne122_:w.heap.size+3<w6.heap.size:=by have:=c113.lt;omega
       have ne122:=Nat.ne_of_lt ne122_;have ne122':=ne122.symm;have ne123_:wr11.heap.size<w6.heap.size:=by have:=c114.lt;omega
       have ne123:=Nat.ne_of_lt ne123_;have ne123':=ne123.symm;have ne124_:wr82.heap.size<w6.heap.size:=by have:=c115.lt;omega
       have ne124:=Nat.ne_of_lt ne124_;have ne124':=ne124.symm;have ne125_:g14<w6.heap.size:=by omega
       have ne125:=Nat.ne_of_lt ne125_;have ne125':=ne125.symm;have f126:=owns_new O116.out 1;have ne127_:w.heap.size<w6.heap.size+1:=by have:=c110.lt;omega
       have ne127:=Nat.ne_of_lt ne127_;have ne127':=ne127.symm;have ne128_:w.heap.size+1<w6.heap.size+1:=by have:=c111.lt;omega
       have ne128:=Nat.ne_of_lt ne128_;have ne128':=ne128.symm;have ne129_:w.heap.size+2<w6.heap.size+1:=by have:=c112.lt;omega
       have ne129:=Nat.ne_of_lt ne129_;have ne129':=ne129.symm;have ne130_:w.heap.size+3<w6.heap.size+1:=by have:=c113.lt;omega
       have ne130:=Nat.ne_of_lt ne130_;have ne130':=ne130.symm;have ne131_:wr11.heap.size<w6.heap.size+1:=by have:=c114.lt;omega
       have ne131:=Nat.ne_of_lt ne131_;have ne131':=ne131.symm;have ne132_:wr82.heap.size<w6.heap.size+1:=by have:=c115.lt;omega
       have ne132:=Nat.ne_of_lt ne132_;have ne132':=ne132.symm;have ne133_:g14<w6.heap.size+1:=by omega
       have ne133:=Nat.ne_of_lt ne133_;have ne133':=ne133.symm;have uc110:=c110;have uc111:=c111;have uc112:=c112;have uc113:=c113;have uc114:=c114;have uc115:=c115;simp only [At,Own,Nat.reduceAdd,and_true] at uc110 uc111 uc112 uc113 uc114 uc115
       skip
       go_wp2_with fail;refine calls_named ?_;intro W7 hW7;have hL7:Below w6.heap.size w6 W7:=by rw [hW7];exact bB
       have c134:=c110.up hL7;have c135:=c111.up hL7;have c136:=c112.up hL7;have c137:=c113.up hL7;have c138:=c114.up hL7
       have c139:Own W7 w6.heap.size 0 [.bool (ng (((Pl.nearP x e).1).num)),.string (mg (((Pl.nearP x e).1).num).natAbs),.bool false,.string (mg (dn ((Pl.nearP x e).1))),.bool (ng (((Pl.nearP x e).2).num)),.string (mg (((Pl.nearP x e).2).num).natAbs),.bool false,.string (mg (dn ((Pl.nearP x e).2)))]:=by
        rw [hW7]
        first
        | (repeat (first|(with_reducible refine own_new (l:=[.bool (ng (((Pl.nearP x e).1).num)),.string (mg (((Pl.nearP x e).1).num).natAbs),.bool false,.string (mg (dn ((Pl.nearP x e).1))),.bool (ng (((Pl.nearP x e).2).num)),.string (mg (((Pl.nearP x e).2).num).natAbs),.bool false,.string (mg (dn ((Pl.nearP x e).2)))]) ?_;(simp;done))|with_reducible refine Own.alloc ?_ _|refine Own.far _ _ (by first|(simp;done)|(simp [*];done)|(simp;omega)) ?_));done
        | simp [Own,go_sem,uc110,uc111,uc112,uc113,uc114,uc115,ne119,ne119',ne119_,ne120,ne120',ne120_,ne121,ne121',ne121_,ne122,ne122',ne122_,ne123,ne123',ne123_,ne124,ne124',ne124_,ne125,ne125',ne125_,ne127,ne127',ne127_,ne128,ne128',ne128_,ne129,ne129',ne129_,ne130,ne130',ne130_,ne131,ne131',ne131_,ne132,ne132',ne132_,ne133,ne133',ne133_]
       have c140:Own W7 (w6.heap.size+1) 0 [.bool (ng ((Pl.nearT x e).num)),.string (mg ((Pl.nearT x e).num).natAbs),.bool false,.string (mg (dn (Pl.nearT x e)))]:=by
        rw [hW7]
        first
        | (repeat (first|(with_reducible refine own_new (l:=[.bool (ng ((Pl.nearT x e).num)),.string (mg ((Pl.nearT x e).num).natAbs),.bool false,.string (mg (dn (Pl.nearT x e)))]) ?_;(simp;done))|with_reducible refine Own.alloc ?_ _|refine Own.far _ _ (by first|(simp;done)|(simp [*];done)|(simp;omega)) ?_));done
        | simp [Own,go_sem,uc110,uc111,uc112,uc113,uc114,uc115,ne119,ne119',ne119_,ne120,ne120',ne120_,ne121,ne121',ne121_,ne122,ne122',ne122_,ne123,ne123',ne123_,ne124,ne124',ne124_,ne125,ne125',ne125_,ne127,ne127',ne127_,ne128,ne128',ne128_,ne129,ne129',ne129_,ne130,ne130',ne130_,ne131,ne131',ne131_,ne132,ne132',ne132_,ne133,ne133',ne133_]
       have O141:=Lib.hid (owns_up O116.out hL7);have hB142:Below w.heap.size w W7:=by rw [hW7];exact bB
       clear hW7 hL7 uc110 uc111 uc112 uc113 uc114 uc115 c110 c111 c112 c113 c114;with_reducible refine (look_any x (Pl.nearP x e) f2 D2 P2 Q2 w.heap.size _ (Zhx12.out.mono (by decide)) ((nearP_sz Zhx12.out Zhx84.out).mono (by decide)) HZ2.out.1 HZ2.out.2.1 HZ2.out.2.2 c134 c135 c136 c137).mono ?_
       rintro e w7 ⟨rfl,f_7,D_7,P_7,Q_7,hS7,hZ7,c0_7,c1_7,c2_7,c3_7,hE7⟩;have hz7:=c137.lt;have c143:=Exc.own hE7 c138.lt (.inr (by omega)) c138;have c144:=Exc.own hE7 c139.lt (.inr (by omega)) c139;have c145:=Exc.own hE7 c140.lt (.inr (by omega)) c140
       have O146:=Lib.hid (Exc.owns hE7 O141.out (fun k_ hk_=>by
        have h0_:=(O141.out.lt k_ hk_).1;have h1_:k_≠w.heap.size:=fun e_=>f64 (hk_.trans (congrArg some e_))
        have h2_:k_≠w.heap.size+1:=fun e_=>f65 (hk_.trans (congrArg some e_))
        have h3_:k_≠w.heap.size+2:=fun e_=>f66 (hk_.trans (congrArg some e_))
        have h4_:k_≠w.heap.size+3:=fun e_=>f67 (hk_.trans (congrArg some e_))
        omega))
       have hB147:Below w.heap.size w w7:=hB142.trans (hE7.below (hB142).size);clear c134 c135 c136 c137 c138 c139 c140 O141;clear c144 c145;have uc143:=c143;have uc0_7:=c0_7;have uc1_7:=c1_7;have uc2_7:=c2_7;have uc3_7:=c3_7;simp only [At,Own,Nat.reduceAdd,and_true] at uc143 uc0_7 uc1_7 uc2_7 uc3_7;go_wp2;go_roundw
       case rel=>exact ⟨(j+1),f_7,D_7,P_7,Q_7,(by first|rfl|exact congrArg (Value.int .i64) (by omega)|simp [*]),(by repeat (first|with_reducible exact c0_7|refine Own.far _ _ (by simp<;>omega) ?_|with_reducible refine Own.alloc ?_ _)),(by repeat (first|with_reducible exact c1_7|refine Own.far _ _ (by simp<;>omega) ?_|with_reducible refine Own.alloc ?_ _)),(by repeat (first|with_reducible exact c2_7|refine Own.far _ _ (by simp<;>omega) ?_|with_reducible refine Own.alloc ?_ _)),(by repeat (first|with_reducible exact c3_7|refine Own.far _ _ (by simp<;>omega) ?_|with_reducible refine Own.alloc ?_ _)),(by repeat (first|with_reducible exact c143|refine Own.far _ _ (by simp<;>omega) ?_|with_reducible refine Own.alloc ?_ _)),(by repeat (first|with_reducible exact O146.out|refine owns_far ?_ _ (by first|exact f64|exact f65|exact f66|exact f67|exact f68|exact f86|exact f118|exact f126) _|with_reducible refine World.ownsRow.alloc ?_ _)),(by exact bB),(by omega),hZ7,Lib.hid (by rw [hS7.out,HE2.out,map_snocT Hhx84.out,← List.append_assoc,FS_snoc])⟩
       case measure=>simp [intOf]<;>omega
      ·skip
       have hkN:NEB=j:=by omega
       subst hkN;have HFIN:Hid ((f2,D2,P2,Q2)=FS ((a.take i).flatMap (cx b EB)++cx b EB x)):=Lib.hid (by rw [HE2.out,HFEB.out,cx,List.append_assoc]);have ub75:=b75;have ub76:=b76;have ub77:=b77;have ub78:=b78;have ub79:=b79;simp only [At,Own,Nat.reduceAdd,and_true] at ub75 ub76 ub77 ub78 ub79;go_wp2;go_roundw
       case rel=>exact ⟨(i+1),f2,D2,P2,Q2,(by first|rfl|exact congrArg (Value.int .i64) (by omega)|simp [*]),(by repeat (first|with_reducible exact b75|refine Own.far _ _ (by simp<;>omega) ?_|with_reducible refine Own.alloc ?_ _)),(by repeat (first|with_reducible exact b76|refine Own.far _ _ (by simp<;>omega) ?_|with_reducible refine Own.alloc ?_ _)),(by repeat (first|with_reducible exact b77|refine Own.far _ _ (by simp<;>omega) ?_|with_reducible refine Own.alloc ?_ _)),(by repeat (first|with_reducible exact b78|refine Own.far _ _ (by simp<;>omega) ?_|with_reducible refine Own.alloc ?_ _)),(by exact bB),(by omega),HZ2,Lib.hid (by rw [flat_snocT Hhx12.out];exact HFIN.out)⟩
       case measure=>simp [intOf]<;>omega
  ·skip
   have hkN:Na=i:=by omega
   subst hkN;have HLA:Hid ((f,D,P,Q)=FS (a.flatMap (cx b EB))):=Lib.hid (by rw [HE.out,HFA.out]);go_wp2_with fail;go_loopw [62] (fun s62 wr=>∃ (i2:Nat) (f3:Bool) (D3:Rat) (P3:Rat×Rat) (Q3:Rat×Rat),s62=.int .i64 i2∧Own wr w.heap.size 0 [.bool (ng P3.1.num),.string (mg P3.1.num.natAbs),.bool false,.string (mg (dn P3.1)),.bool (ng P3.2.num),.string (mg P3.2.num.natAbs),.bool false,.string (mg (dn P3.2))]∧Own wr (w.heap.size+1) 0 [.bool (ng Q3.1.num),.string (mg Q3.1.num.natAbs),.bool false,.string (mg (dn Q3.1)),.bool (ng Q3.2.num),.string (mg Q3.2.num.natAbs),.bool false,.string (mg (dn Q3.2))]∧Own wr (w.heap.size+2) 0 [.bool f3]∧Own wr (w.heap.size+3) 0 [.bool (ng D3.num),.string (mg D3.num.natAbs),.bool false,.string (mg (dn D3))]∧Below w.heap.size w wr∧i2≤Nb∧Hid (Pl.Sz 400 D3∧Pl.SzP 33 P3∧Pl.SzP 33 Q3)∧Hid ((f3,D3,P3,Q3)=FS (a.flatMap (cx b EB)++(b.take i2).flatMap (cy EA)))) (fun s62 _=>Nb-(intOf s62).toNat)
   case atStart=>exact ⟨0,f,D,P,Q,rfl,b6,b7,b8,b9,hB10,(by omega),HZ,Lib.hid (by rw [HLA.out];simp)⟩
   case round =>
    clear b6 b7 b8 b9 hB10;obtain ⟨i2,f3,D3,P3,Q3,rfl,b148,b149,b150,b151,hB152,hi3,HZ3,HE3⟩:=hrel;obtain ⟨wr153,hwr153⟩:∃ W_,W_=wr:=⟨_,rfl⟩
    subst hwr153
    by_cases hlti2:i2<Nb
    ·skip
     have i1i2:(i2:Int)<Nb:=by omega
     obtain ⟨y,hx154⟩:∃ x,b[i2]?=some x:=⟨_,List.getElem?_eq_getElem (by rw [HNB.out];omega)⟩
     have Hhx154:=Lib.hid hx154;have Zhx154:=Lib.hid (HSB.out _ (List.mem_of_getElem? hx154));clear hx154;obtain ⟨g156,o157,ha158,-⟩:=(HXB.out).up kpP hB152 _ _ Hhx154.out;subst ha158;have ce155:=LX.at_ ((HXB.out).up kpP hB152) Hhx154.out;have ce155_:g156<wr153.heap.size:=World.block_lt_of_cell? _ _ ce155.1;have uce155:=ce155;simp only [CE,Nat.reduceMul] at uce155;have ne159_:w.heap.size<wr153.heap.size:=by have:=b148.lt;omega
     have ne159:=Nat.ne_of_lt ne159_;have ne159':=ne159.symm;have ne160_:w.heap.size+1<wr153.heap.size:=by have:=b149.lt;omega
     have ne160:=Nat.ne_of_lt ne160_;have ne160':=ne160.symm;have ne161_:w.heap.size+2<wr153.heap.size:=by have:=b150.lt;omega
     have ne161:=Nat.ne_of_lt ne161_;have ne161':=ne161.symm;have ne162_:w.heap.size+3<wr153.heap.size:=by have:=b151.lt;omega
     have ne162:=Nat.ne_of_lt ne162_;have ne162':=ne162.symm;have ne163_:g156<wr153.heap.size:=by omega
     have ne163:=Nat.ne_of_lt ne163_;have ne163':=ne163.symm;have ub148:=b148;have ub149:=b149;have ub150:=b150;have ub151:=b151;simp only [At,Own,Nat.reduceAdd,and_true] at ub148 ub149 ub150 ub151;have K164:=Lib.hid (fun v W hW=>HESA.out▸edges_own v a W hW HSA.out (by rw [HNA.out];omega) (by omega));go_wp2_with (fail)
     refine calls_named ?_;intro W8 hW8;have hL8:Below wr153.heap.size wr153 W8:=by rw [hW8];exact bB
     have c165:=b148.up hL8;have c166:=b149.up hL8;have c167:=b150.up hL8;have c168:=b151.up hL8
     have c169:Own W8 wr153.heap.size 0 [.bool (ng y.1.num),.string (mg y.1.num.natAbs),.bool false,.string (mg (dn y.1)),.bool (ng y.2.num),.string (mg y.2.num.natAbs),.bool false,.string (mg (dn y.2))]:=by
      rw [hW8]
      first
      | (repeat (first|(with_reducible refine own_new (l:=[.bool (ng y.1.num),.string (mg y.1.num.natAbs),.bool false,.string (mg (dn y.1)),.bool (ng y.2.num),.string (mg y.2.num.natAbs),.bool false,.string (mg (dn y.2))]) ?_;(simp;done))|with_reducible refine Own.alloc ?_ _|refine Own.far _ _ (by first|(simp;done)|(simp [*];done)|(simp;omega)) ?_));done
      | simp [Own,go_sem,uce155,ub148,ub149,ub150,ub151,ne159,ne159',ne159_,ne160,ne160',ne160_,ne161,ne161',ne161_,ne162,ne162',ne162_,ne163,ne163',ne163_]
     have hB170:Below w.heap.size w W8:=by rw [hW8];exact bB
     clear hW8 hL8 uce155 ub148 ub149 ub150 ub151 b148 b149 b150 b151;with_reducible refine (K164.out _ _ (HVA.out.up hB170)).mono ?_
     rintro e w8 ⟨v8,n8,rfl,ho8,hb8⟩;have f171:Value.ownBlock v8≠some w.heap.size:=fun e_=>by have:=(ho8.lt _ e_).1;have:=c165.lt;omega
     have f172:Value.ownBlock v8≠some (w.heap.size+1):=fun e_=>by have:=(ho8.lt _ e_).1;have:=c166.lt;omega
     have f173:Value.ownBlock v8≠some (w.heap.size+2):=fun e_=>by have:=(ho8.lt _ e_).1;have:=c167.lt;omega
     have f174:Value.ownBlock v8≠some (w.heap.size+3):=fun e_=>by have:=(ho8.lt _ e_).1;have:=c168.lt;omega
     have f175:Value.ownBlock v8≠some wr153.heap.size:=fun e_=>by have:=(ho8.lt _ e_).1;have:=c169.lt;omega
     have OC8:=Lib.hid (ho8.mono (hB170).size);clear ho8;have c176:=c165.up hb8;have c177:=c166.up hb8;have c178:=c167.up hb8;have c179:=c168.up hb8;have c180:=c169.up hb8;have hB181:Below w.heap.size w w8:=bel_up hB170 hb8;clear c165 c166 c167 c168 c169;obtain ⟨hn67,A67,c67,hv67,_⟩:=owns_openS OC8.out;have hq67:NEA=n8:=(hn67.trans HLEA.out).symm;subst hq67;subst hv67;clear hn67;go_wp2_with fail;go_loopw [69] (fun s69 wr=>∃ (j2:Nat) (f4:Bool) (D4:Rat) (P4:Rat×Rat) (Q4:Rat×Rat),s69=.int .i64 j2∧Own wr w.heap.size 0 [.bool (ng P4.1.num),.string (mg P4.1.num.natAbs),.bool false,.string (mg (dn P4.1)),.bool (ng P4.2.num),.string (mg P4.2.num.natAbs),.bool false,.string (mg (dn P4.2))]∧Own wr (w.heap.size+1) 0 [.bool (ng Q4.1.num),.string (mg Q4.1.num.natAbs),.bool false,.string (mg (dn Q4.1)),.bool (ng Q4.2.num),.string (mg Q4.2.num.natAbs),.bool false,.string (mg (dn Q4.2))]∧Own wr (w.heap.size+2) 0 [.bool f4]∧Own wr (w.heap.size+3) 0 [.bool (ng D4.num),.string (mg D4.num.natAbs),.bool false,.string (mg (dn D4))]∧Own wr wr153.heap.size 0 [.bool (ng y.1.num),.string (mg y.1.num.natAbs),.bool false,.string (mg (dn y.1)),.bool (ng y.2.num),.string (mg y.2.num.natAbs),.bool false,.string (mg (dn y.2))]∧wr.ownsRow w.heap.size 59 16 (.slice A67 NEA c67) NEA (segs EA)∧Below w.heap.size w wr∧j2≤NEA∧Hid (Pl.Sz 400 D4∧Pl.SzP 33 P4∧Pl.SzP 33 Q4)∧Hid ((f4,D4,P4,Q4)=FS (a.flatMap (cx b EB)++(b.take i2).flatMap (cy EA)++(EA.take j2).map (fun s=>(Pl.nearP y s,y))))) (fun s69 _=>NEA-(intOf s69).toNat)
     case atStart=>exact ⟨0,f3,D3,P3,Q3,rfl,c176,c177,c178,c179,c180,OC8.out,hB181,(by omega),HZ3,Lib.hid (by rw [HE3.out];simp)⟩
     case round =>
      clear c176 c177 c178 c179 c180 hB181 OC8;obtain ⟨j2,f4,D4,P4,Q4,rfl,b182,b183,b184,b185,b186,o187,hB188,hi4,HZ4,HE4⟩:=hrel;obtain ⟨wr189,hwr189⟩:∃ W_,W_=wr:=⟨_,rfl⟩
      subst hwr189;have O190:=Lib.hid o187;clear o187
      by_cases hltj2:j2<NEA
      ·skip
       have i1j2:(j2:Int)<NEA:=by omega
       obtain ⟨g67,cap67,hv67,_,_,_,_⟩:=owns_form O190.out (by omega);injection hv67 with hv67 _ hw67
       subst hv67;subst hw67;obtain ⟨e,hx191⟩:∃ x,EA[j2]?=some x:=⟨_,List.getElem?_eq_getElem (by rw [HLEA.out];omega)⟩
       have Hhx191:=Lib.hid hx191;have Zhx191:=Lib.hid (HZA.out _ (List.mem_of_getElem? hx191));clear hx191;have ce192:=LX.at_ (owns_viewS O190.out) Hhx191.out;have uce192:=ce192;simp only [CS,Nat.reduceMul,Nat.zero_add] at uce192;have f193:=owns_new0 O190.out;have ne194_:w.heap.size<wr189.heap.size:=by have:=b182.lt;omega
       have ne194:=Nat.ne_of_lt ne194_;have ne194':=ne194.symm;have ne195_:w.heap.size+1<wr189.heap.size:=by have:=b183.lt;omega
       have ne195:=Nat.ne_of_lt ne195_;have ne195':=ne195.symm;have ne196_:w.heap.size+2<wr189.heap.size:=by have:=b184.lt;omega
       have ne196:=Nat.ne_of_lt ne196_;have ne196':=ne196.symm;have ne197_:w.heap.size+3<wr189.heap.size:=by have:=b185.lt;omega
       have ne197:=Nat.ne_of_lt ne197_;have ne197':=ne197.symm;have ne198_:wr153.heap.size<wr189.heap.size:=by have:=b186.lt;omega
       have ne198:=Nat.ne_of_lt ne198_;have ne198':=ne198.symm;have ne199_:g156<wr189.heap.size:=by omega
       have ne199:=Nat.ne_of_lt ne199_;have ne199':=ne199.symm;have ub182:=b182;have ub183:=b183;have ub184:=b184;have ub185:=b185;have ub186:=b186;simp only [At,Own,Nat.reduceAdd,and_true] at ub182 ub183 ub184 ub185 ub186;go_upto_region 25 with (refine wpList_store_new rfl _ _ _ rfl _ _ rfl rfl (by kernel_rfl) (by rfl) (by simp [Value.oneCell']) ?_)
       refine wp_named ?_;intro W9 hW9;have hL9:Below wr189.heap.size wr189 W9:=by rw [hW9];exact bB
       have c200:=b182.up hL9;have c201:=b183.up hL9;have c202:=b184.up hL9;have c203:=b185.up hL9;have c204:=b186.up hL9
       have c205:Own W9 wr189.heap.size 0 [.bool (ng e.1.1.num),.string (mg e.1.1.num.natAbs),.bool false,.string (mg (dn e.1.1)),.bool (ng e.1.2.num),.string (mg e.1.2.num.natAbs),.bool false,.string (mg (dn e.1.2)),.bool (ng e.2.1.num),.string (mg e.2.1.num.natAbs),.bool false,.string (mg (dn e.2.1)),.bool (ng e.2.2.num),.string (mg e.2.2.num.natAbs),.bool false,.string (mg (dn e.2.2))]:=by
        rw [hW9]
        first
        | (repeat (first|(with_reducible refine own_new (l:=[.bool (ng e.1.1.num),.string (mg e.1.1.num.natAbs),.bool false,.string (mg (dn e.1.1)),.bool (ng e.1.2.num),.string (mg e.1.2.num.natAbs),.bool false,.string (mg (dn e.1.2)),.bool (ng e.2.1.num),.string (mg e.2.1.num.natAbs),.bool false,.string (mg (dn e.2.1)),.bool (ng e.2.2.num),.string (mg e.2.2.num.natAbs),.bool false,.string (mg (dn e.2.2))]) ?_;(simp;done))|with_reducible refine Own.alloc ?_ _|refine Own.far _ _ (by first|(simp;done)|(simp [*];done)|(simp;omega)) ?_));done
        | simp [Own,go_sem,uce192,ub182,ub183,ub184,ub185,ub186,ne194,ne194',ne194_,ne195,ne195',ne195_,ne196,ne196',ne196_,ne197,ne197',ne197_,ne198,ne198',ne198_,ne199,ne199',ne199_]
       have O206:=Lib.hid (owns_up O190.out hL9);have hB207:Below w.heap.size w W9:=by rw [hW9];exact bB
       clear hW9 hL9 uce192 ub182 ub183 ub184 ub185 ub186 b182 b183 b184 b185 b186;have uc200:=c200;have uc201:=c201;have uc202:=c202;have uc203:=c203;have uc204:=c204;have uc205:=c205;simp only [At,Own,Nat.reduceAdd,and_true] at uc200 uc201 uc202 uc203 uc204 uc205;have K208:=Lib.hid (fun W=>pnear_any y e W Zhx154.out Zhx191.out (HNEA.out _ (List.mem_of_getElem? Hhx191.out)));go_wp2_with (refine wpList_load_own (by rfl) _ _ rfl _ rfl _ _ c205 Tryz.underlying59 (by rfl) (by kernel_rfl) ?_)
       refine calls_named ?_;intro W10 hW10;have hL10:Below W9.heap.size W9 W10:=by rw [hW10];exact bB
       have c209:=c200.up hL10;have c210:=c201.up hL10;have c211:=c202.up hL10;have c212:=c203.up hL10;have c213:=c204.up hL10;have c214:=c205.up hL10;have O215:=Lib.hid (owns_up O206.out hL10);have hB216:Below w.heap.size w W10:=by rw [hW10];exact bB
       clear hW10 hL10 uc200 uc201 uc202 uc203 uc204 uc205 c200 c201 c202 c203 c204 c205;with_reducible refine (K208.out _).mono ?_
       rintro e w10 ⟨rfl,hb10⟩;have c217:=c209.up hb10;have c218:=c210.up hb10;have c219:=c211.up hb10;have c220:=c212.up hb10;have c221:=c213.up hb10;have c222:=c214.up hb10;have O223:=Lib.hid (owns_up O215.out hb10);have hB224:Below w.heap.size w w10:=bel_up hB216 hb10;clear c209 c210 c211 c212 c213 c214 O215;have f225:=owns_new0 O223.out;have ne226_:w.heap.size<w10.heap.size:=by have:=c217.lt;omega
       have ne226:=Nat.ne_of_lt ne226_;have ne226':=ne226.symm;have ne227_:w.heap.size+1<w10.heap.size:=by have:=c218.lt;omega
       have ne227:=Nat.ne_of_lt ne227_;have ne227':=ne227.symm;have ne228_:w.heap.size+2<w10.heap.size:=by have:=c219.lt;omega
       have ne228:=Nat.ne_of_lt ne228_;have ne228':=ne228.symm;have ne229_:w.heap.size+3<w10.heap.size:=by have:=c220.lt;omega
       have ne229:=Nat.ne_of_lt ne229_;have ne229':=ne229.symm;have ne230_:wr153.heap.size<w10.heap.size:=by have:=c221.lt;omega
       have ne230:=Nat.ne_of_lt ne230_;have ne230':=ne230.symm;have ne231_:wr189.heap.size<w10.heap.size:=by have:=c222.lt;omega
       have ne231:=Nat.ne_of_lt ne231_;have ne231':=ne231.symm;have ne232_:g156<w10.heap.size:=by omega
       have ne232:=Nat.ne_of_lt ne232_;have ne232':=ne232.symm;have f233:=owns_new O223.out 1;have ne234_:w.heap.size<w10.heap.size+1:=by have:=c217.lt;omega
       have ne234:=Nat.ne_of_lt ne234_;have ne234':=ne234.symm;have ne235_:w.heap.size+1<w10.heap.size+1:=by have:=c218.lt;omega
       have ne235:=Nat.ne_of_lt ne235_;have ne235':=ne235.symm;have ne236_:w.heap.size+2<w10.heap.size+1:=by have:=c219.lt;omega
       have ne236:=Nat.ne_of_lt ne236_;have ne236':=ne236.symm;have ne237_:w.heap.size+3<w10.heap.size+1:=by have:=c220.lt;omega
       have ne237:=Nat.ne_of_lt ne237_;have ne237':=ne237.symm;have ne238_:wr153.heap.size<w10.heap.size+1:=by have:=c221.lt;omega
       have ne238:=Nat.ne_of_lt ne238_;have ne238':=ne238.symm;have ne239_:wr189.heap.size<w10.heap.size+1:=by have:=c222.lt;omega
       have ne239:=Nat.ne_of_lt ne239_;have ne239':=ne239.symm;have ne240_:g156<w10.heap.size+1:=by omega
       have ne240:=Nat.ne_of_lt ne240_;have ne240':=ne240.symm;have uc217:=c217;have uc218:=c218;have uc219:=c219;have uc220:=c220;have uc221:=c221;have uc222:=c222;simp only [At,Own,Nat.reduceAdd,and_true] at uc217 uc218 uc219 uc220 uc221 uc222
       skip
       go_wp2_with fail;refine calls_named ?_;intro W11 hW11;have hL11:Below w10.heap.size w10 W11:=by rw [hW11];exact bB
       have c241:=c217.up hL11;have c242:=c218.up hL11;have c243:=c219.up hL11;have c244:=c220.up hL11;have c245:=c221.up hL11
       have c246:Own W11 w10.heap.size 0 [.bool (ng (((Pl.nearP y e).1).num)),.string (mg (((Pl.nearP y e).1).num).natAbs),.bool false,.string (mg (dn ((Pl.nearP y e).1))),.bool (ng (((Pl.nearP y e).2).num)),.string (mg (((Pl.nearP y e).2).num).natAbs),.bool false,.string (mg (dn ((Pl.nearP y e).2)))]:=by
        rw [hW11]
        first
        | (repeat (first|(with_reducible refine own_new (l:=[.bool (ng (((Pl.nearP y e).1).num)),.string (mg (((Pl.nearP y e).1).num).natAbs),.bool false,.string (mg (dn ((Pl.nearP y e).1))),.bool (ng (((Pl.nearP y e).2).num)),.string (mg (((Pl.nearP y e).2).num).natAbs),.bool false,.string (mg (dn ((Pl.nearP y e).2)))]) ?_;(simp;done))|with_reducible refine Own.alloc ?_ _|refine Own.far _ _ (by first|(simp;done)|(simp [*];done)|(simp;omega)) ?_));done
        | simp [Own,go_sem,uc217,uc218,uc219,uc220,uc221,uc222,ne226,ne226',ne226_,ne227,ne227',ne227_,ne228,ne228',ne228_,ne229,ne229',ne229_,ne230,ne230',ne230_,ne231,ne231',ne231_,ne232,ne232',ne232_,ne234,ne234',ne234_,ne235,ne235',ne235_,ne236,ne236',ne236_,ne237,ne237',ne237_,ne238,ne238',ne238_,ne239,ne239',ne239_,ne240,ne240',ne240_]
       have c247:Own W11 (w10.heap.size+1) 0 [.bool (ng ((Pl.nearT y e).num)),.string (mg ((Pl.nearT y e).num).natAbs),.bool false,.string (mg (dn (Pl.nearT y e)))]:=by
        rw [hW11]
        first
        | (repeat (first|(with_reducible refine own_new (l:=[.bool (ng ((Pl.nearT y e).num)),.string (mg ((Pl.nearT y e).num).natAbs),.bool false,.string (mg (dn (Pl.nearT y e)))]) ?_;(simp;done))|with_reducible refine Own.alloc ?_ _|refine Own.far _ _ (by first|(simp;done)|(simp [*];done)|(simp;omega)) ?_));done
        | simp [Own,go_sem,uc217,uc218,uc219,uc220,uc221,uc222,ne226,ne226',ne226_,ne227,ne227',ne227_,ne228,ne228',ne228_,ne229,ne229',ne229_,ne230,ne230',ne230_,ne231,ne231',ne231_,ne232,ne232',ne232_,ne234,ne234',ne234_,ne235,ne235',ne235_,ne236,ne236',ne236_,ne237,ne237',ne237_,ne238,ne238',ne238_,ne239,ne239',ne239_,ne240,ne240',ne240_]
       have O248:=Lib.hid (owns_up O223.out hL11);have hB249:Below w.heap.size w W11:=by rw [hW11];exact bB
       clear hW11 hL11 uc217 uc218 uc219 uc220 uc221 uc222 c217 c218 c219 c220 c221;with_reducible refine (look_any (Pl.nearP y e) y f4 D4 P4 Q4 w.heap.size _ ((nearP_sz Zhx154.out Zhx191.out).mono (by decide)) (Zhx154.out.mono (by decide)) HZ4.out.1 HZ4.out.2.1 HZ4.out.2.2 c241 c242 c243 c244).mono ?_
       rintro e w11 ⟨rfl,f_11,D_11,P_11,Q_11,hS11,hZ11,c0_11,c1_11,c2_11,c3_11,hE11⟩;have hz11:=c244.lt;have c250:=Exc.own hE11 c245.lt (.inr (by omega)) c245;have c251:=Exc.own hE11 c246.lt (.inr (by omega)) c246;have c252:=Exc.own hE11 c247.lt (.inr (by omega)) c247
       have O253:=Lib.hid (Exc.owns hE11 O248.out (fun k_ hk_=>by
        have h0_:=(O248.out.lt k_ hk_).1;have h1_:k_≠w.heap.size:=fun e_=>f171 (hk_.trans (congrArg some e_))
        have h2_:k_≠w.heap.size+1:=fun e_=>f172 (hk_.trans (congrArg some e_))
        have h3_:k_≠w.heap.size+2:=fun e_=>f173 (hk_.trans (congrArg some e_))
        have h4_:k_≠w.heap.size+3:=fun e_=>f174 (hk_.trans (congrArg some e_))
        omega))
       have hB254:Below w.heap.size w w11:=hB249.trans (hE11.below (hB249).size);clear c241 c242 c243 c244 c245 c246 c247 O248;clear c251 c252;have uc250:=c250;have uc0_11:=c0_11;have uc1_11:=c1_11;have uc2_11:=c2_11;have uc3_11:=c3_11;simp only [At,Own,Nat.reduceAdd,and_true] at uc250 uc0_11 uc1_11 uc2_11 uc3_11;go_wp2;go_roundw
       case rel=>exact ⟨(j2+1),f_11,D_11,P_11,Q_11,(by first|rfl|exact congrArg (Value.int .i64) (by omega)|simp [*]),(by repeat (first|with_reducible exact c0_11|refine Own.far _ _ (by simp<;>omega) ?_|with_reducible refine Own.alloc ?_ _)),(by repeat (first|with_reducible exact c1_11|refine Own.far _ _ (by simp<;>omega) ?_|with_reducible refine Own.alloc ?_ _)),(by repeat (first|with_reducible exact c2_11|refine Own.far _ _ (by simp<;>omega) ?_|with_reducible refine Own.alloc ?_ _)),(by repeat (first|with_reducible exact c3_11|refine Own.far _ _ (by simp<;>omega) ?_|with_reducible refine Own.alloc ?_ _)),(by repeat (first|with_reducible exact c250|refine Own.far _ _ (by simp<;>omega) ?_|with_reducible refine Own.alloc ?_ _)),(by repeat (first|with_reducible exact O253.out|refine owns_far ?_ _ (by first|exact f171|exact f172|exact f173|exact f174|exact f175|exact f193|exact f225|exact f233) _|with_reducible refine World.ownsRow.alloc ?_ _)),(by exact bB),(by omega),hZ11,Lib.hid (by rw [hS11.out,HE4.out,map_snocT Hhx191.out,← List.append_assoc,FS_snoc])⟩
       case measure=>simp [intOf]<;>omega
      ·skip
       have hkN:NEA=j2:=by omega
       subst hkN;have HFIN:Hid ((f4,D4,P4,Q4)=FS (a.flatMap (cx b EB)++(b.take i2).flatMap (cy EA)++cy EA y)):=Lib.hid (by rw [HE4.out,HFEA.out];rfl);have ub182:=b182;have ub183:=b183;have ub184:=b184;have ub185:=b185;have ub186:=b186;simp only [At,Own,Nat.reduceAdd,and_true] at ub182 ub183 ub184 ub185 ub186;go_wp2;go_roundw
       case rel=>exact ⟨(i2+1),f4,D4,P4,Q4,(by first|rfl|exact congrArg (Value.int .i64) (by omega)|simp [*]),(by repeat (first|with_reducible exact b182|refine Own.far _ _ (by simp<;>omega) ?_|with_reducible refine Own.alloc ?_ _)),(by repeat (first|with_reducible exact b183|refine Own.far _ _ (by simp<;>omega) ?_|with_reducible refine Own.alloc ?_ _)),(by repeat (first|with_reducible exact b184|refine Own.far _ _ (by simp<;>omega) ?_|with_reducible refine Own.alloc ?_ _)),(by repeat (first|with_reducible exact b185|refine Own.far _ _ (by simp<;>omega) ?_|with_reducible refine Own.alloc ?_ _)),(by exact bB),(by omega),HZ4,Lib.hid (by rw [flat_snocT Hhx154.out,← List.append_assoc];exact HFIN.out)⟩
       case measure=>simp [intOf]<;>omega
    ·skip
     have hkN:Nb=i2:=by omega
     subst hkN;have HALL:Hid ((f3,D3,P3,Q3)=FS (Pl.cands a b)):=Lib.hid (by rw [HE3.out,HFB.out,cands_def,HESA.out,HESB.out]);have HPQ:Hid ((P3,Q3)=Pl.nearest2 a b):=Lib.hid (by rw [← FS_near,← HALL.out]);go_upto_region 29 with fail
     refine wp_region_head0 0 (by kernel_rfl) (by kernel_rfl) ?_;intro V_255 hV_255;have vb148:=b148.up hV_255;have db148:=fun p:Bel V_255=>vb148.bel p
     have vb149:=b149.up hV_255;have db149:=fun p:Bel V_255=>vb149.bel p
     simp only [At,Own,Nat.reduceAdd,and_true] at db148 db149;simp only [List.map_cons,List.map_nil,maskOp,List.take_succ_cons,List.take_zero];repeat (go_big_quiet_step (fail))
     refine wpQuiet_nil ?_;intro wn_255 hbn_255;clear db149 vb149 db148 vb148 hV_255 V_255;have c256:=b148.up hbn_255;have c257:=b149.up hbn_255;have hB258:Below w.heap.size w wn_255:=bel_up hB152 hbn_255;clear b148 b149;have uc256:=c256;have uc257:=c257;simp only [At,Own,Nat.reduceAdd,and_true] at uc256 uc257;have ne259:w.heap.size+1≠w.heap.size:=by first|assumption|(simp;done)|(simp;omega)|omega|(have:=c257.lt;omega)
     have ne260:w.heap.size+1≠w.heap.size:=by first|assumption|(simp;done)|(simp;omega)|omega|(have:=c257.lt;omega)
     refine tail_swap4 (cs1:=[.bool (ng P3.1.num),.string (mg P3.1.num.natAbs),.bool false,.string (mg (dn P3.1)),.bool (ng P3.2.num),.string (mg P3.2.num.natAbs),.bool false,.string (mg (dn P3.2))]) (cs2:=[.bool (ng Q3.1.num),.string (mg Q3.1.num.natAbs),.bool false,.string (mg (dn Q3.1)),.bool (ng Q3.2.num),.string (mg Q3.2.num.natAbs),.bool false,.string (mg (dn Q3.2))]) (by kernel_rfl) rfl rfl rfl rfl rfl rfl rfl rfl rfl rfl rfl rfl rfl rfl c256 Tryz.underlying35 rfl (by kernel_rfl) rfl c257 Tryz.underlying35 rfl (by kernel_rfl) rfl rfl c256 rfl (by kernel_rfl) (by simp [Value.oneCell']) ⟨(by intro h_;cases h_),(by intro h_;cases h_),(by intro h_;cases h_),(by intro h_;cases h_),(by intro h_;cases h_)⟩ (by decide) rfl rfl c257 rfl (by kernel_rfl) (by simp [Value.oneCell']) ne259 ne260 ?_;have c261:=(c256.set (vs:=[.bool (ng P3.1.num),.string (mg P3.1.num.natAbs),.bool false,.string (mg (dn P3.1)),.bool (ng P3.2.num),.string (mg P3.2.num.natAbs),.bool false,.string (mg (dn P3.2))]) rfl).off (c:=w.heap.size+1) (i:=0) (vs:=[.bool (ng Q3.1.num),.string (mg Q3.1.num.natAbs),.bool false,.string (mg (dn Q3.1)),.bool (ng Q3.2.num),.string (mg Q3.2.num.natAbs),.bool false,.string (mg (dn Q3.2))]) (Ne.symm ne260);have c262:=(c257.off (c:=w.heap.size) (i:=0) (vs:=[.bool (ng P3.1.num),.string (mg P3.1.num.natAbs),.bool false,.string (mg (dn P3.1)),.bool (ng P3.2.num),.string (mg P3.2.num.natAbs),.bool false,.string (mg (dn P3.2))]) ne260).set (vs:=[.bool (ng Q3.1.num),.string (mg Q3.1.num.natAbs),.bool false,.string (mg (dn Q3.1)),.bool (ng Q3.2.num),.string (mg Q3.2.num.natAbs),.bool false,.string (mg (dn Q3.2))]) rfl;have hB263:=Below.sets (B:=w.heap.size) (c:=w.heap.size+1) (by first|exact Nat.le_refl _|(simp;done)|(simp;omega)|omega) [.bool (ng Q3.1.num),.string (mg Q3.1.num.natAbs),.bool false,.string (mg (dn Q3.1)),.bool (ng Q3.2.num),.string (mg Q3.2.num.natAbs),.bool false,.string (mg (dn Q3.2))] 0 _ (Below.sets (B:=w.heap.size) (c:=w.heap.size) (by first|exact Nat.le_refl _|(simp;done)|(simp;omega)|omega) [.bool (ng P3.1.num),.string (mg P3.1.num.natAbs),.bool false,.string (mg (dn P3.1)),.bool (ng P3.2.num),.string (mg P3.2.num.natAbs),.bool false,.string (mg (dn P3.2))] 0 _ hB258);have hz265:wn_255.heap.size≤((wn_255.setCells w.heap.size 0 [.bool (ng P3.1.num),.string (mg P3.1.num.natAbs),.bool false,.string (mg (dn P3.1)),.bool (ng P3.2.num),.string (mg P3.2.num.natAbs),.bool false,.string (mg (dn P3.2))]).setCells (w.heap.size+1) 0 [.bool (ng Q3.1.num),.string (mg Q3.1.num.natAbs),.bool false,.string (mg (dn Q3.1)),.bool (ng Q3.2.num),.string (mg Q3.2.num.natAbs),.bool false,.string (mg (dn Q3.2))]).heap.size:=by rw [sets_size,sets_size];exact Nat.le_refl _
     clear uc256 uc257 c256 c257;generalize (wn_255.setCells w.heap.size 0 [.bool (ng P3.1.num),.string (mg P3.1.num.natAbs),.bool false,.string (mg (dn P3.1)),.bool (ng P3.2.num),.string (mg P3.2.num.natAbs),.bool false,.string (mg (dn P3.2))]).setCells (w.heap.size+1) 0 [.bool (ng Q3.1.num),.string (mg Q3.1.num.natAbs),.bool false,.string (mg (dn Q3.1)),.bool (ng Q3.2.num),.string (mg Q3.2.num.natAbs),.bool false,.string (mg (dn Q3.2))]=ws264 at *;simp only [Act.put,List.setIfInBounds_toArray,List.set_cons_zero,List.set_cons_succ];have uc261:=c261;have uc262:=c262;simp only [At,Own,Nat.reduceAdd,and_true] at uc261 uc262;go_wp2;refine bodyPost_ret (v:=.tuple #[.agg #[.bool (ng P3.1.num),.string (mg P3.1.num.natAbs),.bool false,.string (mg (dn P3.1)),.bool (ng P3.2.num),.string (mg P3.2.num.natAbs),.bool false,.string (mg (dn P3.2))],.agg #[.bool (ng Q3.1.num),.string (mg Q3.1.num.natAbs),.bool false,.string (mg (dn Q3.1)),.bool (ng Q3.2.num),.string (mg Q3.2.num.natAbs),.bool false,.string (mg (dn Q3.2))]]) (by simp [results,Tryz.results98,go_sem,uc261,uc262]) rfl ⟨(by rw [← HPQ.out]),?_⟩;exact bB
end Go.Proofs.YtdkkjfnpinckjaaGreatDoor
