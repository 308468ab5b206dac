/-
 Contracts for the points of the statements of chapter 9: a spot's point, the points, the set.
 The statements' arguments, opened: lists of spots, spots.
-/
import Derived.Test.YtdkkjfnpinckjaaGreatDoorYMq
import Derived.Test.YtdkkjfnpinckjaaGreatDoorYMl
import Derived.Test.YtdkkjfnpinckjaaGreatDoorRows
import Derived.ProofKit
import Derived.LaidMore
import Derived.OpenShut
import Derived.Stop.Joined
import Derived.Deep.Strs
import Derived.Deep.Slices
import Derived.Deep.MidRow
set_option maxRecDepth 100000
set_option linter.unusedSimpArgs false
set_option linter.unusedVariables false
namespace Go.Proofs.YtdkkjfnpinckjaaGreatDoor
open Go Go.RowKit

def tcells (s:Int×Int×Bool):List Value:=[.int .i8 s.1,.int .i8 s.2.1,.bool s.2.2]
def CT (w:World) (g i:Nat) (s:Int×Int×Bool):Prop:=w.cell? ⟨g,i,none⟩=some (.int .i8 s.1)∧w.cell? ⟨g,i+1,none⟩=some (.int .i8 s.2.1)∧w.cell? ⟨g,i+2,none⟩=some (.bool s.2.2)
theorem CT.up {w w1:World} {g i:Nat} {s:Int×Int×Bool} (h:CT w g i s) (hb:Below w.heap.size w w1):CT w1 g i s :=
 ⟨(hb.cell (World.block_lt_of_cell? w _ h.1)).trans h.1,(hb.cell (World.block_lt_of_cell? w _ h.2.1)).trans h.2.1,(hb.cell (World.block_lt_of_cell? w _ h.2.2)).trans h.2.2⟩
theorem CT.bel {W:World} {g i:Nat} {s:Int×Int×Bool} (h:CT W g i s) (b:Bel W):CT b.w1 g i s:=h.up b.h
theorem kpT:Kp CT:=⟨fun h hb=>h.up hb⟩
def TV (w:World) (v:Value) (l:List (Int×Int×Bool)):Prop:=∃ A c,v=.slice A l.length c∧l.length≤c∧c≤maxLen∧LX CT 3 w A l
theorem TV.up {w w1:World} {v:Value} {l:List (Int×Int×Bool)} (h:TV w v l) (hb:Below w.heap.size w w1):TV w1 v l:=by
 obtain ⟨A,c,h1,h2,h3,h4⟩:=h;exact ⟨A,c,h1,h2,h3,h4.up kpT hb⟩
theorem TV.open_ {w:World} {v:Value} {l:List (Int×Int×Bool)} (h:TV w v l):∃ A c,v=.slice A l.length c∧l.length≤c∧c≤maxLen∧LX CT 3 w A l:=h
def ptOf (s:Int×Int×Bool):Rat×Rat:=if s.2.2 then (Rat.divInt s.1 3,Rat.divInt s.2.1 3) else (Rat.divInt s.1 1,Rat.divInt s.2.1 1)
def In8 (s:Int×Int×Bool):Prop := -128≤s.1∧s.1≤127∧-128≤s.2.1∧s.2.1≤127
def ptsOf (l:List (Int×Int×Bool)):List (Rat×Rat):=(l.take 10).map ptOf
theorem sz81 (x:Int) (hx:x.natAbs≤128):Pl.Sz 1 (Rat.divInt x 1):=show Pl.Sz 1 (mkRat x 1) from Pl.sz_mkRat (by decide) ((Pl.L_le_iff _ _).2 (by omega)) (by decide)
theorem sz83 (x:Int) (hx:x.natAbs≤128):Pl.Sz 1 (Rat.divInt x 3):=show Pl.Sz 1 (mkRat x 3) from Pl.sz_mkRat (by decide) ((Pl.L_le_iff _ _).2 (by omega)) (by decide)
theorem ptOf_sz {s:Int×Int×Bool} (h:In8 s):Pl.SzP 1 (ptOf s):=by
 obtain ⟨h1,h2,h3,h4⟩:=h;unfold ptOf
 split
 ·exact ⟨sz83 _ (by omega),sz83 _ (by omega)⟩
 ·exact ⟨sz81 _ (by omega),sz81 _ (by omega)⟩
theorem ptsOf_sz {l:List (Int×Int×Bool)} (h:∀ s∈l,In8 s):∀ q∈ptsOf l,Pl.SzP 1 q:=by
 intro q hq;obtain ⟨s,hs,rfl⟩:=List.mem_map.1 hq;exact ptOf_sz (h s (List.mem_of_mem_take hs))
theorem ptsOf_len (l:List (Int×Int×Bool)):(ptsOf l).length≤10:=by simp [ptsOf];omega
theorem ptsTake_snoc {l:List (Int×Int×Bool)} {k:Nat} {x:Int×Int×Bool} (h:l[k]?=some x):(l.take (k+1)).map ptOf=(l.take k).map ptOf++[ptOf x]:=by
 rw [List.take_add_one,h];simp
theorem small64 (x:Int) (h1 : -128≤x) (h2:x≤127):IntKind.i64.wrap x=x∧wrap64 x=x:=by
 constructor
 ·simp [IntKind.wrap,IntKind.bits,IntKind.signed];omega
 ·unfold wrap64;omega
theorem point_third (x y:Int) (w:World) (h1 : -128≤x) (h2:x≤127) (h3 : -128≤y) (h4:y≤127) :
 Calls Tryz.prog 19 #[.agg #[.int .i8 x,.int .i8 y,.bool true]] w fun e w'=>e=.returned (pv (Rat.divInt x 3,Rat.divInt y 3))∧Below w.heap.size w w':=by
 obtain ⟨r1,r2⟩:=small64 x h1 h2;obtain ⟨r3,r4⟩:=small64 y h3 h4;go_enter Tryz.func19,Tryz.ntmps19;have K1:=Lib.hid (fun W=>rOf_any x 3 W (by decide) (by omega) (by omega) (by decide) (by decide));have K2:=Lib.hid (fun W=>rOf_any y 3 W (by decide) (by omega) (by omega) (by decide) (by decide));go_wp2_with fail;refine wp_named ?_;intro W1 hW1;have hL1:Below w.heap.size w W1:=by rw [hW1];exact bB
 have c3:Own W1 w.heap.size 0 [.int .i8 x,.int .i8 y,.bool true]:=by
  rw [hW1]
  first
  | (repeat (first|(with_reducible refine own_new (l:=[.int .i8 x,.int .i8 y,.bool true]) ?_;(simp;done))|with_reducible refine Own.alloc ?_ _|refine Own.far _ _ (by first|(simp;done)|(simp [*];done)|(simp;omega)) ?_));done
  | simp [Own,go_sem]
 have c4:Own W1 (w.heap.size+1) 0 [.bool false,.string ⟨#[]⟩,.bool false,.string ⟨#[]⟩,.bool false,.string ⟨#[]⟩,.bool false,.string ⟨#[]⟩]:=by
  rw [hW1]
  first
  | (repeat (first|(with_reducible refine own_new (l:=[.bool false,.string ⟨#[]⟩,.bool false,.string ⟨#[]⟩,.bool false,.string ⟨#[]⟩,.bool false,.string ⟨#[]⟩]) ?_;(simp;done))|with_reducible refine Own.alloc ?_ _|refine Own.far _ _ (by first|(simp;done)|(simp [*];done)|(simp;omega)) ?_));done
  | simp [Own,go_sem]
 have hB5:Below w.heap.size w W1:=by rw [hW1];exact bB
 clear hW1 hL1;have dc3:=fun p:Bel W1=>c3.bel p;have dc4:=fun p:Bel W1=>c4.bel p
 simp only [At,Own,Nat.reduceAdd,and_true] at dc3 dc4;refine wp_region_tail 9 (by kernel_rfl) (by kernel_rfl) ?_;simp only [List.take_succ_cons,List.take_zero,List.drop_succ_cons,List.drop_zero];repeat (go_big_quiet_step (first|(go_at_call 21;with_reducible exact Calls.bel (K1.out _))|(go_at_call 21;with_reducible exact Calls.bel (K2.out _))))
 refine wpQuiet_nil ?_;intro w1 hb1;have c6:=c3.up hb1;have c7:=c4.up hb1;have hB8:Below w.heap.size w w1:=bel_up hB5 hb1;clear dc3 dc4 c3 c4;have uc6:=c6;have uc7:=c7;simp only [At,Own,Nat.reduceAdd,and_true] at uc6 uc7;go_wp2;refine bodyPost_ret (v:=.agg #[.bool (ng ((Rat.divInt x 3).num)),.string (mg ((Rat.divInt x 3).num).natAbs),.bool false,.string (mg (dn (Rat.divInt x 3))),.bool (ng ((Rat.divInt y 3).num)),.string (mg ((Rat.divInt y 3).num).natAbs),.bool false,.string (mg (dn (Rat.divInt y 3)))]) (by simp [results,Tryz.results19,go_sem,uc6,uc7]) rfl ⟨rfl,?_⟩;exact bB

theorem point_whole (x y:Int) (w:World) (h1 : -128≤x) (h2:x≤127) (h3 : -128≤y) (h4:y≤127) :
 Calls Tryz.prog 19 #[.agg #[.int .i8 x,.int .i8 y,.bool false]] w fun e w'=>e=.returned (pv (Rat.divInt x 1,Rat.divInt y 1))∧Below w.heap.size w w':=by
 obtain ⟨r1,r2⟩:=small64 x h1 h2;obtain ⟨r3,r4⟩:=small64 y h3 h4;go_enter Tryz.func19,Tryz.ntmps19;have K1:=Lib.hid (fun W=>hof_raw x y W (by omega) (by omega) (by omega) (by omega));go_wp2_with (fail)
 refine calls_named ?_;intro W1 hW1;have hL1:Below w.heap.size w W1:=by rw [hW1];exact bB
 have c2:Own W1 w.heap.size 0 [.int .i8 x,.int .i8 y,.bool false]:=by
  rw [hW1]
  first
  | (repeat (first|(with_reducible refine own_new (l:=[.int .i8 x,.int .i8 y,.bool false]) ?_;(simp;done))|with_reducible refine Own.alloc ?_ _|refine Own.far _ _ (by first|(simp;done)|(simp [*];done)|(simp;omega)) ?_));done
  | simp [Own,go_sem]
 have c3:Own W1 (w.heap.size+1) 0 [.bool false,.string ⟨#[]⟩,.bool false,.string ⟨#[]⟩,.bool false,.string ⟨#[]⟩,.bool false,.string ⟨#[]⟩]:=by
  rw [hW1]
  first
  | (repeat (first|(with_reducible refine own_new (l:=[.bool false,.string ⟨#[]⟩,.bool false,.string ⟨#[]⟩,.bool false,.string ⟨#[]⟩,.bool false,.string ⟨#[]⟩]) ?_;(simp;done))|with_reducible refine Own.alloc ?_ _|refine Own.far _ _ (by first|(simp;done)|(simp [*];done)|(simp;omega)) ?_));done
  | simp [Own,go_sem]
 have hB4:Below w.heap.size w W1:=by rw [hW1];exact bB
 clear hW1 hL1;with_reducible refine (K1.out _).mono ?_
 rintro e w1 ⟨rfl,hb1⟩;have c5:=c2.up hb1;have c6:=c3.up hb1;have hB7:Below w.heap.size w w1:=bel_up hB4 hb1;clear c2 c3;have uc5:=c5;have uc6:=c6;simp only [At,Own,Nat.reduceAdd,and_true] at uc5 uc6;go_wp2;refine bodyPost_ret (v:=.agg #[.bool (ng (((Rat.divInt x 1,Rat.divInt y 1).1).num)),.string (mg (((Rat.divInt x 1,Rat.divInt y 1).1).num).natAbs),.bool false,.string (mg (dn ((Rat.divInt x 1,Rat.divInt y 1).1))),.bool (ng (((Rat.divInt x 1,Rat.divInt y 1).2).num)),.string (mg (((Rat.divInt x 1,Rat.divInt y 1).2).num).natAbs),.bool false,.string (mg (dn ((Rat.divInt x 1,Rat.divInt y 1).2)))]) (by simp [results,Tryz.results19,go_sem,uc5,uc6]) rfl ⟨rfl,?_⟩;exact bB

theorem point_any (s:Int×Int×Bool) (w:World) (h:In8 s) :
 Calls Tryz.prog 19 #[.agg #[.int .i8 s.1,.int .i8 s.2.1,.bool s.2.2]] w fun e w'=>e=.returned (pv (ptOf s))∧Below w.heap.size w w':=by
 obtain ⟨x,y,b⟩:=s;obtain ⟨h1,h2,h3,h4⟩:=h;cases b
 ·exact point_whole x y w h1 h2 h3 h4
 ·exact point_third x y w h1 h2 h3 h4

theorem points_any (v:Value) (l:List (Int×Int×Bool)) (w:World) (h:TV w v l) (hs:∀ s∈l,In8 s) (hn:l.length≤9223372036854775807) :
 Calls Tryz.prog 15 #[v] w fun e w'=>∃ v',e=.returned v'∧PV w' v' (ptsOf l)∧Below w.heap.size w w':=by
 obtain ⟨A,c,rfl,hc,hm,hx⟩:=h.open_;have HV:=Lib.hid h;have HX:=Lib.hid hx;have HS:=Lib.hid hs;have HF:Hid (l.take l.length=l):=Lib.hid List.take_length;generalize hN:l.length=N at *;have HN:=Lib.hid hN;clear h hx hs hN;go_enter Tryz.func15,Tryz.ntmps15;go_wp2_with fail;go_loopw [3,4] (fun s3 s4 wr=>∃ (k:Nat) (L:List (Rat×Rat)),s4=.int .i64 k∧wr.ownsRow w.heap.size 35 8 s3 k (pts L)∧Below w.heap.size w wr∧k≤N∧k≤10∧Hid (L=(l.take k).map ptOf)) (fun _ s4 _=>N-(intOf s4).toNat)
 case atStart=>exact ⟨0,([]),rfl,World.ownsRow_nil _ _ _ _,Below.refl _ _,(by omega),(by omega),Lib.hid rfl⟩
 case round =>
  obtain ⟨k,L,rfl,o1,hB2,hk,hk10,HE⟩:=hrel;obtain ⟨wr3,hwr3⟩:∃ W_,W_=wr:=⟨_,rfl⟩
  subst hwr3;have O4:=Lib.hid o1;clear o1;rcases (by omega:(k<N∧k<10)∨(k<N∧k=10)∨k=N) with ⟨hlt,hl10⟩|⟨hlt,hl10⟩|hlt
  ·skip
   have i1:(k:Int)<N:=by omega
   have i2:(k:Int)<10:=by omega
   obtain ⟨x5,hx6⟩:∃ x,l[k]?=some x:=⟨_,List.getElem?_eq_getElem (by rw [HN.out];omega)⟩
   have Hhx6:=Lib.hid hx6;have Zhx6:=Lib.hid (HS.out _ (List.mem_of_getElem? hx6));clear hx6;have HT:Hid ((l.take (k+1)).map ptOf=(l.take k).map ptOf++[ptOf x5]):=Lib.hid (ptsTake_snoc Hhx6.out);obtain ⟨g8,o9,ha10,-⟩:=(HX.out).up kpT hB2 _ _ Hhx6.out;subst ha10;have ce7:=LX.at_ ((HX.out).up kpT hB2) Hhx6.out;have ce7_:g8<wr3.heap.size:=World.block_lt_of_cell? _ _ ce7.1;have uce7:=ce7;simp only [CT,Nat.reduceMul] at uce7;have K11:=Lib.hid (fun W=>point_any x5 W Zhx6.out);go_wp2_with (fail)
   refine calls_named ?_;intro W1 hW1;have hL1:Below wr3.heap.size wr3 W1:=by rw [hW1];exact bB
   have O12:=Lib.hid (owns_up O4.out hL1);have hB13:Below w.heap.size w W1:=by rw [hW1];exact bB
   clear hW1 hL1 uce7;with_reducible refine (K11.out _).mono ?_
   rintro e w1 ⟨rfl,hb1⟩;have O14:=Lib.hid (owns_up O12.out hb1);have hB15:Below w.heap.size w w1:=bel_up hB13 hb1;clear O12;go_wp2_with (at_builtin;refine wpList_appF rfl _ _ _ rfl ti_pt O14.out (hB15).size rfl rfl rfl rfl (pcells_one (ptOf x5)) (by omega) (by decide) ?_)
   intro v16 w_v16 hown_v16 hst_v16;have O18:Hid (w_v16.ownsRow w.heap.size 35 8 v16 ((k+1)) (pts (L++[(ptOf x5)]))):=Lib.hid (by rw [pts_snoc];exact hown_v16);have hB19:Below w.heap.size w w_v16:=hst_v16.below hB15 (hB15).size (fun r hr=>(O14.out.lt r hr).1);clear hown_v16;go_wp2;go_roundw
   case rel=>exact ⟨(k+1),(L++[(ptOf x5)]),(by first|rfl|exact congrArg (Value.int .i64) (by omega)|simp [*]),(by repeat (first|with_reducible exact O18.out|refine owns_far ?_ _ (by omega) _|with_reducible refine World.ownsRow.alloc ?_ _)),(by exact bB),(by omega),(by omega),Lib.hid (by rw [HT.out,HE.out])⟩
   case measure=>simp [intOf]<;>omega
  ·skip
   have i1:(k:Int)<N:=by omega
   have i2:¬ (k:Int)<10:=by omega
   have HZ:Hid ((l.take k).map ptOf=ptsOf l):=Lib.hid (by rw [hl10];rfl);go_wp2;go_ret;exact ⟨_,rfl,(by rw [← HZ.out,← HE.out];exact pv_own O4.out),(by exact bB)⟩
  ·skip
   have i1:¬ (k:Int)<N:=by omega
   have HZ:Hid ((l.take k).map ptOf=ptsOf l):=Lib.hid (by unfold ptsOf;rw [List.take_of_length_le (by rw [HN.out];omega),List.take_of_length_le (by rw [HN.out];omega)]);go_wp2;go_ret;exact ⟨_,rfl,(by rw [← HZ.out,← HE.out];exact pv_own O4.out),(by exact bB)⟩

theorem set_any (v:Value) (l:List (Int×Int×Bool)) (w:World) (h:TV w v l) (hs:∀ s∈l,In8 s) (hn:l.length≤9223372036854775807) :
 Calls Tryz.prog 16 #[v] w fun e w'=>∃ v',e=.returned v'∧PV w' v' (Pl.wrap (ptsOf l))∧Below w.heap.size w w':=by
 go_enter Tryz.func16,Tryz.ntmps16;have K1:=Lib.hid (fun W hb=>points_any v l W (h.up hb) hs hn);go_wp2_with (fail)
 refine calls_named ?_;intro W1 hW1;have hL1:Below w.heap.size w W1:=by rw [hW1];exact bB
 have hB2:Below w.heap.size w W1:=by rw [hW1];exact bB
 clear hW1 hL1;with_reducible refine (K1.out _ hB2).mono ?_
 rintro e w1 ⟨v1,rfl,hv1,hb1⟩;have hB3:Below w.heap.size w w1:=bel_up hB2 hb1;have PW1:=Lib.hid hv1;clear hv1;have K4:=Lib.hid (fun v0 W h0=>hHull_any v0 (ptsOf l) W h0 (ptsOf_sz hs) (Nat.le_trans (ptsOf_len l) (by decide)) (show 1≤100000 by decide));go_wp2_with (fail)
 refine calls_named ?_;intro W2 hW2;have hL2:Below w1.heap.size w1 W2:=by rw [hW2];exact bB
 have PV5:=Lib.hid (PW1.out.up hL2);have hB6:Below w.heap.size w W2:=by rw [hW2];exact bB
 clear hW2 hL2 PW1;with_reducible refine (K4.out _ _ PV5.out).mono ?_
 rintro e w2 ⟨v2,rfl,hv2,hb2⟩;have PV7:=Lib.hid (PV5.out.up hb2);have hB8:Below w.heap.size w w2:=bel_up hB6 hb2;clear PV5;have PW2:=Lib.hid hv2;clear hv2;go_wp2;go_ret;exact ⟨_,rfl,(by skip;exact PW2.out),(by exact bB)⟩
end Go.Proofs.YtdkkjfnpinckjaaGreatDoor

namespace Go.Proofs.YtdkkjfnpinckjaaGreatDoor
open Go Go.ChangeShapes Go.WideShapes Go.ChangeAt Go.WideMaps Go.WideElems Go.RowKit
set_option maxRecDepth 100000

theorem trod_spot {H:Type} {enc:TypeId×Value→H} {W:World} {base n:Nat} {sp:Nat→Bool} {hd:Bool} {cs:List Value} {x:DataW H×List MemPlace}
 (h:DataW.trod enc Tryz.prog W base sp hd n 25 cs=some x):∃ s,In8 s∧cs=tcells s:=by
 obtain ⟨y0,y1,y2,n',_,hl,h0,h1,h2⟩:=Deep.trod_struct3 Tryz.underlying25 h;have c25:Tryz.prog.cellsOf 25 = 3:=by kernel_rfl
 have c23:Tryz.prog.cellsOf 23 = 1:=by kernel_rfl
 have c4:Tryz.prog.cellsOf 4 = 1:=by kernel_rfl
 rw [c25] at hl
 match cs,hl with
 | [a,b,c],_ =>
  simp only [c23,c4,List.drop_zero,List.drop_succ_cons,List.take_succ_cons,List.take_zero] at h0 h1 h2;obtain ⟨k,e1,_,w1⟩:=DataW.trod_int Tryz.underlying23 h0;obtain ⟨j,e2,_,w2⟩:=DataW.trod_int Tryz.underlying23 h1;obtain ⟨t,e3,_⟩:=DataW.trod_bool Tryz.underlying4 h2;cases e1;cases e2;cases e3;refine ⟨(k,j,t),?_,rfl⟩;simp [Lit.wf] at w1 w2;unfold In8;exact ⟨w1.1,w1.2,w2.1,w2.2⟩
theorem open_spots {H:Type} {enc:TypeId×Value→H} {W:World} {base:Nat} {sp:Nat→Bool} {hd:Bool} {v:Value} {d:DataW H} {ps:List MemPlace} {b0:Nat}
 (hv:Value.okWide Tryz.prog W .any b0 22 v) (h:DataW.Trod enc Tryz.prog W base sp hd 22 v d ps):∃ l,TV W v l∧(∀ s∈l,In8 s)∧l.length≤maxLen:=by
 obtain ⟨a0,len,cap,rfl⟩:=okWide_slice Tryz.underlying22 hv;obtain ⟨fuel,hf⟩:=h;have c25:Tryz.prog.cellsOf 25 = 3:=by kernel_rfl
 rcases Deep.open_slice Tryz.underlying22 hf with ⟨hcs,hx⟩|⟨a,len',cap',m,n,D,Pl,hcs,_,hl,hm,hmm,hx,hel⟩
 ·simp [Value.cells] at hcs
  obtain ⟨rfl,rfl,rfl⟩:=hcs;exact ⟨[],⟨none,0,rfl,by simp,by simp [maxLen],fun k x hk=>by simp at hk⟩,by simp,by simp⟩
 ·simp [Value.cells] at hcs
  obtain ⟨rfl,rfl,rfl⟩:=hcs;have hlm:len≤m:=by rw [hmm];split<;>omega
  by_cases hl0:len=0
  ·subst hl0
   exact ⟨[],⟨some a,cap,rfl,by simp,hm,fun k x hk=>by simp at hk⟩,by simp,by simp⟩
  obtain ⟨b,off,spot⟩:=a
  have hsp:spot=none:=by
   obtain ⟨cs',h1,h2⟩:=hel 0 (by omega);obtain ⟨s,hs,rfl⟩:=trod_spot h2;rw [c25] at h1;have:=(World.cells?_some h1).2.2 0 (by omega)
   simpa [Addr.add] using World.cell?_spot (v:=.int .i8 s.1) this
  subst hsp
  have E:∀ i,i<len→∃ s:Int×Int×Bool,In8 s∧∀ j,j<3→W.cell? ⟨b,off+i*3+j,none⟩=(tcells s)[j]?:=fun i hi=>by
   obtain ⟨cs',h1,h2⟩:=hel i (by omega);obtain ⟨s,hs,rfl⟩:=trod_spot h2;refine ⟨s,hs,fun j hj => ?_⟩;rw [c25] at h1;have:=(World.cells?_some h1).2.2 j (by simpa using hj)
   rwa [Addr.add_mid,Addr.add_mid] at this
  obtain ⟨V,hV⟩:=Deep.choose_lt (α:=Int×Int×Bool) (p:=fun i s=>In8 s∧∀ j,j<3→W.cell? ⟨b,off+i*3+j,none⟩=(tcells s)[j]?) E;refine ⟨(List.range len).map V,⟨some ⟨b,off,none⟩,cap,by simp,by simpa using hl,hm,fun k x hk => ?_⟩,?_,by simp;omega⟩
  ·have hkl:k<len:=by simpa using (List.getElem?_eq_some_iff.1 hk).1
   have hx':V k=x:=by simpa [hkl] using hk
   subst hx';exact ⟨b,off,rfl,(hV k hkl).2 0 (by omega),(hV k hkl).2 1 (by omega),(hV k hkl).2 2 (by omega)⟩
  ·intro s hs
   obtain ⟨i,hi,rfl⟩:=List.mem_map.1 hs;exact (hV i (by simpa using hi)).1
end Go.Proofs.YtdkkjfnpinckjaaGreatDoor
