/-
 Contracts of the reference for fractions: negatives, signs, differences, comparisons, fractions of machine integers.
 Contracts for the points of the statements: a spot's point, the points.
 The statements' arguments, opened: lists of spots, spots.
 Rings of polygons: whether they are simple, as the package and as the reference sees it. No program in sight.
 Where a point lies, for a ring: as the package and as the reference sees it. No program in sight.
-/
import Derived.Test.YtiochgoocbkckaaGreatDoorAgau
import Derived.Deep.RegionHeld3
import Derived.Test.YtiochgoocbkckaaGreatDoorAgao
import Derived.Test.YtiochgoocbkckaaGreatDoorRows
import Derived.ProofKit
import Derived.LaidMore
import Derived.OpenShut
import Derived.Stop.Joined
import Derived.Deep.Strs
import Derived.Deep.Slices
import Derived.Deep.MidRow
import Derived.Test.YtiochgoocbkckaaGreatDoorAgak
set_option maxRecDepth 100000
set_option linter.unusedSimpArgs false
set_option linter.unusedVariables false
namespace Go.Proofs.YtiochgoocbkckaaGreatDoor
open Go Go.RowKit

theorem mg_some {n:Nat} (h:n≠0):(mg n).toList.isEmpty=false:=(mg_empty n).trans (decide_eq_false h)
theorem rneg_raw (s:Bool) (n m:Nat) (w:World) :
 Calls Tryz.prog 36 #[.agg #[.bool s,.string (mg n),.bool false,.string (mg m)]] w fun e w'=>e=.returned (.agg #[.bool (!s&&decide (n≠0)),.string (mg n),.bool false,.string (mg m)])∧Below w.heap.size w w':=by
 by_cases h0:n=0
 ·subst h0
  rw [mg_zero];cases s
  all_goals
   go_enter Tryz.func36,Tryz.ntmps36;go_wp2;refine bodyPost_ret (v:=.agg #[.bool _,.string ⟨#[]⟩,.bool false,.string (mg m)]) (by simp [results,Tryz.results36,go_sem];rfl) rfl ⟨by simp,?_⟩;exact bB
 ·have hm:=mg_some h0
  cases s
  all_goals
   go_enter Tryz.func36,Tryz.ntmps36;go_wp2;refine bodyPost_ret (v:=.agg #[.bool _,.string (mg n),.bool false,.string (mg m)]) (by simp [results,Tryz.results36,go_sem];rfl) rfl ⟨by simp [h0],?_⟩;exact bB
theorem rneg_any (a:Rat) (w:World) :
 Calls Tryz.prog 36 #[qv a] w fun e w'=>e=.returned (qv (-a))∧Below w.heap.size w w':=by
 have h:=rneg_raw (ng a.num) a.num.natAbs (dn a) w
 have e:ng (-a).num=(!ng a.num&&decide (a.num.natAbs≠0)):=by
  rw [Rat.neg_num];unfold ng
  by_cases h1:a.num<0<;>by_cases h2:a.num=0<;>simp [h1,h2]<;>omega
 have e2:dn (-a)=dn a:=rfl;rw [← e] at h;have e3:(-a).num.natAbs=a.num.natAbs:=by rw [Rat.neg_num,Int.natAbs_neg]
 have e4:qv (-a)=.agg #[.bool (ng (-a).num),.string (mg a.num.natAbs),.bool false,.string (mg (dn a))]:=by rw [qv,e2,e3]
 rw [e4];exact h
theorem rsign_any (a:Rat) (w:World) :
 Calls Tryz.prog 24 #[qv a] w fun e w'=>e=.returned (.int .i64 (Pl.sgn a))∧Below w.heap.size w w':=by
 have hS:Pl.sgn a=if a.num.natAbs=0 then 0 else if ng a.num then -1 else 1:=by
  unfold Pl.sgn ng;rcases Int.lt_trichotomy a.num 0 with h|h|h
  ·rw [Int.sign_eq_neg_one_of_neg h,if_neg (by omega),decide_eq_true h];rfl
  ·rw [h];rfl
  ·rw [Int.sign_eq_one_of_pos h,if_neg (by omega),decide_eq_false (by omega)];rfl
 rw [hS];show Calls Tryz.prog 24 #[.agg #[.bool (ng a.num),.string (mg a.num.natAbs),.bool false,.string (mg (dn a))]] w _;clear hS;generalize ng a.num=s;generalize dn a=m
 by_cases h0:a.num.natAbs=0
 ·rw [if_pos h0,h0,mg_zero]
  clear h0;go_enter Tryz.func24,Tryz.ntmps24;go_wp2;go_ret;refine ⟨rfl,?_⟩;repeat (first|with_reducible exact Below.refl _ _|with_reducible refine bel_alloc ?_ _)
 ·have hm:=mg_some h0
  rw [if_neg h0];generalize a.num.natAbs=n at hm;clear h0;cases s
  all_goals
   go_enter Tryz.func24,Tryz.ntmps24;go_wp2;go_ret;refine ⟨rfl,?_⟩;repeat (first|with_reducible exact Below.refl _ _|with_reducible refine bel_alloc ?_ _)

theorem rsub_any (a:Rat) (b:Rat) (w:World) (ha:Pl.Sz 16777216 a) (hb:Pl.Sz 16777216 b) :
 Calls Tryz.prog 66 #[qv a,qv b] w fun e w'=>e=.returned (qv (a-b))∧Below w.heap.size w w':=by
 have ka:=fun W=>radd_any a (-b) W ha hb.neg
 simp only [← Rat.sub_eq_add_neg] at ka;have KA:=Lib.hid ka;clear ka;have K1:=Lib.hid (fun W=>rneg_any b W);have K2:=Lib.hid (fun W=>KA.out W);clear ha hb;go_enter Tryz.func66,Tryz.ntmps66;go_wp2_with fail;refine wp_named ?_;intro W1 hW1;have c1_0:At W1 w.heap.size 0 [.bool (ng a.num),.string (mg a.num.natAbs),.bool false,.string (mg (dn a))]:=by rw [hW1];simp [At,go_sem]
 have c1_1:At W1 (w.heap.size+1) 0 [.bool (ng b.num),.string (mg b.num.natAbs),.bool false,.string (mg (dn b))]:=by rw [hW1];simp [At,go_sem]
 have c1_2:Own W1 (w.heap.size+2) 0 [.bool false,.string ⟨#[]⟩,.bool false,.string ⟨#[]⟩]:=by rw [hW1];simp [Own,go_sem]
 have hB1:Below w.heap.size w W1:=by rw [hW1];exact bB
 clear hW1;have dc1_0:=fun p:Bel W1=>c1_0.bel p;have dc1_1:=fun p:Bel W1=>c1_1.bel p;have dc1_2:=fun p:Bel W1=>c1_2.bel p
 simp only [At,Own,Nat.reduceAdd,and_true] at dc1_0 dc1_1 dc1_2;refine wp_region_tail 4 (by kernel_rfl) (by kernel_rfl) ?_;simp only [List.take_succ_cons,List.take_zero,List.drop_succ_cons,List.drop_zero];repeat (go_big_quiet_step (first|(go_at_call 36;with_reducible exact Calls.bel (K1.out _))|(go_at_call 38;with_reducible exact Calls.bel (K2.out _))))
 refine wpQuiet_nil ?_;intro w1 hb1;have c1_0x:=c1_0.up hb1;have c1_1x:=c1_1.up hb1;have c1_2x:=c1_2.up hb1;clear dc1_0 dc1_1 dc1_2 c1_0 c1_1 c1_2;have hD1:Below w.heap.size w w1:=bel_up hB1 hb1;have uc1_0x:=c1_0x;have uc1_1x:=c1_1x;have uc1_2x:=c1_2x;simp only [At,Own,Nat.reduceAdd,and_true] at uc1_0x uc1_1x uc1_2x
 -- NE
 go_wp2;refine bodyPost_ret (v:=.agg #[.bool (ng ((a-b).num)),.string (mg ((a-b).num).natAbs),.bool false,.string (mg (dn (a-b)))]) (by simp [results,Tryz.results66,go_sem,uc1_2x]) rfl ⟨rfl,?_⟩;exact bB

theorem rcompare_any (a:Rat) (b:Rat) (w:World) (ha:Pl.Sz 16777216 a) (hb:Pl.Sz 16777216 b) :
 Calls Tryz.prog 46 #[qv a,qv b] w fun e w'=>e=.returned (.int .i64 (Pl.cmpQ a b))∧Below w.heap.size w w':=by
 have ks:=fun W=>rsign_any (a-b) W
 rw [show Pl.sgn (a-b)=Pl.cmpQ a b from rfl] at ks;generalize Pl.cmpQ a b=z at ks ⊢;have KS:=Lib.hid ks;clear ks;have K1:=Lib.hid (fun W=>rsub_any a b W ha hb);have K2:=Lib.hid (fun W=>KS.out W);clear ha hb;go_enter Tryz.func46,Tryz.ntmps46;go_wp2_with fail;refine calls_named ?_;intro W1 hW1;have c1_0:At W1 w.heap.size 0 [.bool (ng a.num),.string (mg a.num.natAbs),.bool false,.string (mg (dn a))]:=by rw [hW1];simp [At,go_sem]
 have c1_1:At W1 (w.heap.size+1) 0 [.bool (ng b.num),.string (mg b.num.natAbs),.bool false,.string (mg (dn b))]:=by rw [hW1];simp [At,go_sem]
 have hB1:Below w.heap.size w W1:=by rw [hW1];exact bB
 clear hW1;have uc1_0:=c1_0;have uc1_1:=c1_1;simp only [At,Own,Nat.reduceAdd,and_true] at uc1_0 uc1_1;with_reducible refine (K1.out _).mono ?_
 rintro e w1 ⟨rfl,hb1⟩;have c1_0x:=c1_0.up hb1;have c1_1x:=c1_1.up hb1;have hDw1:Below w.heap.size w w1:=bel_up hB1 hb1;clear uc1_0 uc1_1 c1_0 c1_1;have uc1_0x:=c1_0x;have uc1_1x:=c1_1x;simp only [At,Own,Nat.reduceAdd,and_true] at uc1_0x uc1_1x
 -- NE
 go_wp2_with fail;refine calls_named ?_;intro W2 hW2;have hL2:Below w1.heap.size w1 W2:=by rw [hW2];exact bB
 have c2_0:=c1_0x.up hL2;have c2_1:=c1_1x.up hL2;have hB2:Below w.heap.size w W2:=by rw [hW2];exact bB
 clear hW2 hL2 uc1_0x uc1_1x c1_0x c1_1x;have uc2_0:=c2_0;have uc2_1:=c2_1;simp only [At,Own,Nat.reduceAdd,and_true] at uc2_0 uc2_1;with_reducible refine (K2.out _).mono ?_
 rintro e w2 ⟨rfl,hb2⟩;have c2_0x:=c2_0.up hb2;have c2_1x:=c2_1.up hb2;have hDw2:Below w.heap.size w w2:=bel_up hB2 hb2;clear uc2_0 uc2_1 c2_0 c2_1;have uc2_0x:=c2_0x;have uc2_1x:=c2_1x;simp only [At,Own,Nat.reduceAdd,and_true] at uc2_0x uc2_1x
 -- NE
 go_wp2;go_ret;refine ⟨rfl,?_⟩;exact bB

theorem wordL8 {n:Int} (h1 : -9223372036854775808≤n) (h2:n≤9223372036854775807):Pl.L n.natAbs≤67108000:=by
 have:=L_word n.natAbs (by omega);omega

theorem rOf_any (n:Int) (d:Int) (w:World) (hd:d≠0) (h1 : -9223372036854775808≤n) (h2:n≤9223372036854775807) (h3 : -9223372036854775808≤d) (h4:d≤9223372036854775807) :
 Calls Tryz.prog 42 #[.int .i64 n,.int .i64 d] w fun e w'=>e=.returned (qv (Rat.divInt n d))∧Below w.heap.size w w':=by
 have K1:=Lib.hid (fun W=>rint_any n W h1 h2);have K2:=Lib.hid (fun W=>rint_any d W h3 h4);have K3:=Lib.hid (fun W=>rmakeZ_any n d W hd (wordL8 h1 h2) (wordL8 h3 h4));clear hd h1 h2 h3 h4;go_enter Tryz.func42,Tryz.ntmps42;go_wp2_with fail;refine calls_named ?_;intro W1 hW1;have c1_0:Own W1 w.heap.size 0 [.bool false,.string ⟨#[]⟩,.bool false,.string ⟨#[]⟩]:=by rw [hW1];simp [Own,go_sem]
 have hB1:Below w.heap.size w W1:=by rw [hW1];exact bB
 clear hW1;have uc1_0:=c1_0;simp only [At,Own,Nat.reduceAdd,and_true] at uc1_0;with_reducible refine (K1.out _).mono ?_
 rintro e w1 ⟨rfl,hb1⟩;have c1_0x:=c1_0.up hb1;have hDw1:Below w.heap.size w w1:=bel_up hB1 hb1;clear uc1_0 c1_0;have uc1_0x:=c1_0x;simp only [At,Own,Nat.reduceAdd,and_true] at uc1_0x
 -- NE
 go_wp2_with fail;refine calls_named ?_;intro W2 hW2;have hL2:Below w1.heap.size w1 W2:=by rw [hW2];exact bB
 have c2_0:=c1_0x.up hL2;have hB2:Below w.heap.size w W2:=by rw [hW2];exact bB
 clear hW2 hL2 uc1_0x c1_0x;have uc2_0:=c2_0;simp only [At,Own,Nat.reduceAdd,and_true] at uc2_0;with_reducible refine (K2.out _).mono ?_
 rintro e w2 ⟨rfl,hb2⟩;have c2_0x:=c2_0.up hb2;have hDw2:Below w.heap.size w w2:=bel_up hB2 hb2;clear uc2_0 c2_0;have uc2_0x:=c2_0x;simp only [At,Own,Nat.reduceAdd,and_true] at uc2_0x
 -- NE
 go_wp2_with fail;refine calls_named ?_;intro W3 hW3;have hL3:Below w2.heap.size w2 W3:=by rw [hW3];exact bB
 have c3_0:=c2_0x.up hL3;have hB3:Below w.heap.size w W3:=by rw [hW3];exact bB
 clear hW3 hL3 uc2_0x c2_0x;have uc3_0:=c3_0;simp only [At,Own,Nat.reduceAdd,and_true] at uc3_0;with_reducible refine (K3.out _).mono ?_
 rintro e w3 ⟨rfl,hb3⟩;have c3_0x:=c3_0.up hb3;have hDw3:Below w.heap.size w w3:=bel_up hB3 hb3;clear uc3_0 c3_0;have uc3_0x:=c3_0x;simp only [At,Own,Nat.reduceAdd,and_true] at uc3_0x
 -- NE
 go_wp2;refine bodyPost_ret (v:=.agg #[.bool (ng ((Rat.divInt n d).num)),.string (mg ((Rat.divInt n d).num).natAbs),.bool false,.string (mg (dn (Rat.divInt n d)))]) (by simp [results,Tryz.results42,go_sem,uc3_0x]) rfl ⟨rfl,?_⟩;exact bB

end Go.Proofs.YtiochgoocbkckaaGreatDoor

namespace Go.Proofs.YtiochgoocbkckaaGreatDoor
open Go Go.RowKit

def tcells (s:Int×Int×Bool):List Value:=[.int .i8 s.1,.int .i8 s.2.1,.bool s.2.2]
def CT (w:World) (g i:Nat) (s:Int×Int×Bool):Prop:=w.cell? ⟨g,i,none⟩=some (.int .i8 s.1)∧w.cell? ⟨g,i+1,none⟩=some (.int .i8 s.2.1)∧w.cell? ⟨g,i+2,none⟩=some (.bool s.2.2)
theorem CT.up {w w1:World} {g i:Nat} {s:Int×Int×Bool} (h:CT w g i s) (hb:Below w.heap.size w w1):CT w1 g i s :=
 ⟨(hb.cell (World.block_lt_of_cell? w _ h.1)).trans h.1,(hb.cell (World.block_lt_of_cell? w _ h.2.1)).trans h.2.1,(hb.cell (World.block_lt_of_cell? w _ h.2.2)).trans h.2.2⟩
theorem CT.bel {W:World} {g i:Nat} {s:Int×Int×Bool} (h:CT W g i s) (b:Bel W):CT b.w1 g i s:=h.up b.h
theorem kpT:Kp CT:=⟨fun h hb=>h.up hb⟩
def TV (w:World) (v:Value) (l:List (Int×Int×Bool)):Prop:=∃ A c,v=.slice A l.length c∧l.length≤c∧c≤maxLen∧LX CT 3 w A l
theorem TV.up {w w1:World} {v:Value} {l:List (Int×Int×Bool)} (h:TV w v l) (hb:Below w.heap.size w w1):TV w1 v l:=by
 obtain ⟨A,c,h1,h2,h3,h4⟩:=h;exact ⟨A,c,h1,h2,h3,h4.up kpT hb⟩
theorem TV.open_ {w:World} {v:Value} {l:List (Int×Int×Bool)} (h:TV w v l):∃ A c,v=.slice A l.length c∧l.length≤c∧c≤maxLen∧LX CT 3 w A l:=h
def ptOf (s:Int×Int×Bool):Rat×Rat:=if s.2.2 then (Rat.divInt s.1 2,Rat.divInt s.2.1 2) else (Rat.divInt s.1 1,Rat.divInt s.2.1 1)
def In8 (s:Int×Int×Bool):Prop := -128≤s.1∧s.1≤127∧-128≤s.2.1∧s.2.1≤127
def ptsOf (l:List (Int×Int×Bool)):List (Rat×Rat):=(l.take 13).map ptOf
theorem sz81 (x:Int) (hx:x.natAbs≤128):Pl.Sz 1 (Rat.divInt x 1):=show Pl.Sz 1 (mkRat x 1) from Pl.sz_mkRat (by decide) ((Pl.L_le_iff _ _).2 (by omega)) (by decide)
theorem sz82 (x:Int) (hx:x.natAbs≤128):Pl.Sz 1 (Rat.divInt x 2):=show Pl.Sz 1 (mkRat x 2) from Pl.sz_mkRat (by decide) ((Pl.L_le_iff _ _).2 (by omega)) (by decide)
theorem ptOf_sz {s:Int×Int×Bool} (h:In8 s):Pl.SzP 1 (ptOf s):=by
 obtain ⟨h1,h2,h3,h4⟩:=h;unfold ptOf
 split
 ·exact ⟨sz82 _ (by omega),sz82 _ (by omega)⟩
 ·exact ⟨sz81 _ (by omega),sz81 _ (by omega)⟩
theorem ptsOf_sz {l:List (Int×Int×Bool)} (h:∀ s∈l,In8 s):∀ q∈ptsOf l,Pl.SzP 1 q:=by
 intro q hq;obtain ⟨s,hs,rfl⟩:=List.mem_map.1 hq;exact ptOf_sz (h s (List.mem_of_mem_take hs))
theorem ptsOf_len (l:List (Int×Int×Bool)):(ptsOf l).length≤13:=by simp [ptsOf];omega
theorem ptsTake_snoc {l:List (Int×Int×Bool)} {k:Nat} {x:Int×Int×Bool} (h:l[k]?=some x):(l.take (k+1)).map ptOf=(l.take k).map ptOf++[ptOf x]:=by
 rw [List.take_add_one,h];simp
theorem small64 (x:Int) (h1 : -128≤x) (h2:x≤127):IntKind.i64.wrap x=x∧wrap64 x=x:=by
 constructor
 ·simp [IntKind.wrap,IntKind.bits,IntKind.signed];omega
 ·unfold wrap64;omega
theorem i64w (x:Int) (h1 : -9223372036854775808≤x) (h2:x≤9223372036854775807):IntKind.i64.wrap x=x:=by
 simp [IntKind.wrap,IntKind.bits,IntKind.signed];omega


theorem point_half (x y:Int) (w:World) (h1 : -128≤x) (h2:x≤127) (h3 : -128≤y) (h4:y≤127) :
 Calls Tryz.prog 28 #[.agg #[.int .i8 x,.int .i8 y,.bool true]] w fun e w'=>e=.returned (pv (Rat.divInt x 2,Rat.divInt y 2))∧Below w.heap.size w w':=by
 obtain ⟨r1,r2⟩:=small64 x h1 h2;obtain ⟨r3,r4⟩:=small64 y h3 h4;go_enter Tryz.func28,Tryz.ntmps28;have K1:=Lib.hid (fun W=>rOf_any x 2 W (by decide) (by omega) (by omega) (by decide) (by decide));have K2:=Lib.hid (fun W=>rOf_any y 2 W (by decide) (by omega) (by omega) (by decide) (by decide));go_wp2_with fail;refine wp_named ?_;intro W1 hW1;have hL1:Below w.heap.size w W1:=by rw [hW1];exact bB
 have c3:Own W1 w.heap.size 0 [.int .i8 x,.int .i8 y,.bool true]:=by
  rw [hW1]
  first
  | (repeat (first|(with_reducible refine own_new (l:=[.int .i8 x,.int .i8 y,.bool true]) ?_;(simp;done))|with_reducible refine Own.alloc ?_ _|refine Own.far _ _ (by first|(simp;done)|(simp [*];done)|(simp;omega)) ?_));done
  | simp [Own,go_sem]
 have c4:Own W1 (w.heap.size+1) 0 [.bool false,.string ⟨#[]⟩,.bool false,.string ⟨#[]⟩,.bool false,.string ⟨#[]⟩,.bool false,.string ⟨#[]⟩]:=by
  rw [hW1]
  first
  | (repeat (first|(with_reducible refine own_new (l:=[.bool false,.string ⟨#[]⟩,.bool false,.string ⟨#[]⟩,.bool false,.string ⟨#[]⟩,.bool false,.string ⟨#[]⟩]) ?_;(simp;done))|with_reducible refine Own.alloc ?_ _|refine Own.far _ _ (by first|(simp;done)|(simp [*];done)|(simp;omega)) ?_));done
  | simp [Own,go_sem]
 have hB5:Below w.heap.size w W1:=by rw [hW1];exact bB
 clear hW1 hL1;have dc3:=fun p:Bel W1=>c3.bel p;have dc4:=fun p:Bel W1=>c4.bel p
 simp only [At,Own,Nat.reduceAdd,and_true] at dc3 dc4;refine wp_region_tail 11 (by kernel_rfl) (by kernel_rfl) ?_;simp only [List.take_succ_cons,List.take_zero,List.drop_succ_cons,List.drop_zero];repeat (go_big_quiet_step (first|(go_at_call 42;with_reducible exact Calls.bel (K1.out _))|(go_at_call 42;with_reducible exact Calls.bel (K2.out _))))
 refine wpQuiet_nil ?_;intro w1 hb1;have c6:=c3.up hb1;have c7:=c4.up hb1;have hB8:Below w.heap.size w w1:=bel_up hB5 hb1;clear dc3 dc4 c3 c4;have uc6:=c6;have uc7:=c7;simp only [At,Own,Nat.reduceAdd,and_true] at uc6 uc7;go_wp2;refine bodyPost_ret (v:=.agg #[.bool (ng ((Rat.divInt x 2).num)),.string (mg ((Rat.divInt x 2).num).natAbs),.bool false,.string (mg (dn (Rat.divInt x 2))),.bool (ng ((Rat.divInt y 2).num)),.string (mg ((Rat.divInt y 2).num).natAbs),.bool false,.string (mg (dn (Rat.divInt y 2)))]) (by simp [results,Tryz.results28,go_sem,uc6,uc7]) rfl ⟨rfl,?_⟩;exact bB

theorem point_whole (x y:Int) (w:World) (h1 : -128≤x) (h2:x≤127) (h3 : -128≤y) (h4:y≤127) :
 Calls Tryz.prog 28 #[.agg #[.int .i8 x,.int .i8 y,.bool false]] w fun e w'=>e=.returned (pv (Rat.divInt x 1,Rat.divInt y 1))∧Below w.heap.size w w':=by
 obtain ⟨r1,r2⟩:=small64 x h1 h2;obtain ⟨r3,r4⟩:=small64 y h3 h4;go_enter Tryz.func28,Tryz.ntmps28;have K1:=Lib.hid (fun W=>rOf_any x 1 W (by decide) (by omega) (by omega) (by decide) (by decide));have K2:=Lib.hid (fun W=>rOf_any y 1 W (by decide) (by omega) (by omega) (by decide) (by decide));go_wp2_with fail;refine wp_named ?_;intro W1 hW1;have hL1:Below w.heap.size w W1:=by rw [hW1];exact bB
 have c3:Own W1 w.heap.size 0 [.int .i8 x,.int .i8 y,.bool false]:=by
  rw [hW1]
  first
  | (repeat (first|(with_reducible refine own_new (l:=[.int .i8 x,.int .i8 y,.bool false]) ?_;(simp;done))|with_reducible refine Own.alloc ?_ _|refine Own.far _ _ (by first|(simp;done)|(simp [*];done)|(simp;omega)) ?_));done
  | simp [Own,go_sem]
 have c4:Own W1 (w.heap.size+1) 0 [.bool false,.string ⟨#[]⟩,.bool false,.string ⟨#[]⟩,.bool false,.string ⟨#[]⟩,.bool false,.string ⟨#[]⟩]:=by
  rw [hW1]
  first
  | (repeat (first|(with_reducible refine own_new (l:=[.bool false,.string ⟨#[]⟩,.bool false,.string ⟨#[]⟩,.bool false,.string ⟨#[]⟩,.bool false,.string ⟨#[]⟩]) ?_;(simp;done))|with_reducible refine Own.alloc ?_ _|refine Own.far _ _ (by first|(simp;done)|(simp [*];done)|(simp;omega)) ?_));done
  | simp [Own,go_sem]
 have hB5:Below w.heap.size w W1:=by rw [hW1];exact bB
 clear hW1 hL1;have dc3:=fun p:Bel W1=>c3.bel p;have dc4:=fun p:Bel W1=>c4.bel p
 simp only [At,Own,Nat.reduceAdd,and_true] at dc3 dc4;refine wp_region_tail 11 (by kernel_rfl) (by kernel_rfl) ?_;simp only [List.take_succ_cons,List.take_zero,List.drop_succ_cons,List.drop_zero];repeat (go_big_quiet_step (first|(go_at_call 42;with_reducible exact Calls.bel (K1.out _))|(go_at_call 42;with_reducible exact Calls.bel (K2.out _))))
 refine wpQuiet_nil ?_;intro w1 hb1;have c6:=c3.up hb1;have c7:=c4.up hb1;have hB8:Below w.heap.size w w1:=bel_up hB5 hb1;clear dc3 dc4 c3 c4;have uc6:=c6;have uc7:=c7;simp only [At,Own,Nat.reduceAdd,and_true] at uc6 uc7;go_wp2;refine bodyPost_ret (v:=.agg #[.bool (ng ((Rat.divInt x 1).num)),.string (mg ((Rat.divInt x 1).num).natAbs),.bool false,.string (mg (dn (Rat.divInt x 1))),.bool (ng ((Rat.divInt y 1).num)),.string (mg ((Rat.divInt y 1).num).natAbs),.bool false,.string (mg (dn (Rat.divInt y 1)))]) (by simp [results,Tryz.results28,go_sem,uc6,uc7]) rfl ⟨rfl,?_⟩;exact bB

theorem point_any (s:Int×Int×Bool) (w:World) (h:In8 s) :
 Calls Tryz.prog 28 #[.agg #[.int .i8 s.1,.int .i8 s.2.1,.bool s.2.2]] w fun e w'=>e=.returned (pv (ptOf s))∧Below w.heap.size w w':=by
 obtain ⟨x,y,b⟩:=s;obtain ⟨h1,h2,h3,h4⟩:=h;cases b
 ·exact point_whole x y w h1 h2 h3 h4
 ·exact point_half x y w h1 h2 h3 h4

theorem points_any (v:Value) (l:List (Int×Int×Bool)) (w:World) (h:TV w v l) (hs:∀ s∈l,In8 s) (hn:l.length≤9223372036854775807) :
 Calls Tryz.prog 15 #[v] w fun e w'=>∃ v',e=.returned v'∧PV w' v' (ptsOf l)∧Below w.heap.size w w':=by
 obtain ⟨A,c,rfl,hc,hm,hx⟩:=h.open_;have HV:=Lib.hid h;have HX:=Lib.hid hx;have HS:=Lib.hid hs;have HF:Hid (l.take l.length=l):=Lib.hid List.take_length;generalize hN:l.length=N at *;have HN:=Lib.hid hN;clear h hx hs hN;go_enter Tryz.func15,Tryz.ntmps15;go_wp2_with fail;go_loopw [3,4] (fun s3 s4 wr=>∃ (k:Nat) (L:List (Rat×Rat)),s4=.int .i64 k∧wr.ownsRow w.heap.size 45 8 s3 k (pts L)∧Below w.heap.size w wr∧k≤N∧k≤13∧Hid (L=(l.take k).map ptOf)) (fun _ s4 _=>N-(intOf s4).toNat)
 case atStart=>exact ⟨0,([]),rfl,World.ownsRow_nil _ _ _ _,Below.refl _ _,(by omega),(by omega),Lib.hid rfl⟩
 case round =>
  obtain ⟨k,L,rfl,o1,hB2,hk,hk10,HE⟩:=hrel;obtain ⟨wr3,hwr3⟩:∃ W_,W_=wr:=⟨_,rfl⟩
  subst hwr3;have O4:=Lib.hid o1;clear o1;rcases (by omega:(k<N∧k<13)∨(k<N∧k=13)∨k=N) with ⟨hlt,hl10⟩|⟨hlt,hl10⟩|hlt
  ·skip
   have i1:(k:Int)<N:=by omega
   have i2:(k:Int)<13:=by omega
   obtain ⟨x5,hx6⟩:∃ x,l[k]?=some x:=⟨_,List.getElem?_eq_getElem (by rw [HN.out];omega)⟩
   have Hhx6:=Lib.hid hx6;have Zhx6:=Lib.hid (HS.out _ (List.mem_of_getElem? hx6));clear hx6;have HT:Hid ((l.take (k+1)).map ptOf=(l.take k).map ptOf++[ptOf x5]):=Lib.hid (ptsTake_snoc Hhx6.out);obtain ⟨g8,o9,ha10,-⟩:=(HX.out).up kpT hB2 _ _ Hhx6.out;subst ha10;have ce7:=LX.at_ ((HX.out).up kpT hB2) Hhx6.out;have ce7_:g8<wr3.heap.size:=World.block_lt_of_cell? _ _ ce7.1;have uce7:=ce7;simp only [CT,Nat.reduceMul] at uce7;have K11:=Lib.hid (fun W=>point_any x5 W Zhx6.out);go_wp2_with (fail)
   refine calls_named ?_;intro W1 hW1;have hL1:Below wr3.heap.size wr3 W1:=by rw [hW1];exact bB
   have O12:=Lib.hid (owns_up O4.out hL1);have hB13:Below w.heap.size w W1:=by rw [hW1];exact bB
   clear hW1 hL1 uce7;with_reducible refine (K11.out _).mono ?_
   rintro e w1 ⟨rfl,hb1⟩;have O14:=Lib.hid (owns_up O12.out hb1);have hB15:Below w.heap.size w w1:=bel_up hB13 hb1;clear O12;go_wp2_with (at_builtin;refine wpList_appF rfl _ _ _ rfl ti_pt O14.out (hB15).size rfl rfl rfl rfl (pcells_one (ptOf x5)) (by omega) (by decide) ?_)
   intro v16 w_v16 hown_v16 hst_v16;have O18:Hid (w_v16.ownsRow w.heap.size 45 8 v16 ((k+1)) (pts (L++[(ptOf x5)]))):=Lib.hid (by rw [pts_snoc];exact hown_v16);have hB19:Below w.heap.size w w_v16:=hst_v16.below hB15 (hB15).size (fun r hr=>(O14.out.lt r hr).1);clear hown_v16;go_wp2;go_roundw
   case rel=>exact ⟨(k+1),(L++[(ptOf x5)]),(by first|rfl|exact congrArg (Value.int .i64) (by omega)|simp [*]),(by repeat (first|with_reducible exact O18.out|refine owns_far ?_ _ (by omega) _|with_reducible refine World.ownsRow.alloc ?_ _)),(by exact bB),(by omega),(by omega),Lib.hid (by rw [HT.out,HE.out])⟩
   case measure=>simp [intOf]<;>omega
  ·skip
   have i1:(k:Int)<N:=by omega
   have i2:¬ (k:Int)<13:=by omega
   have HZ:Hid ((l.take k).map ptOf=ptsOf l):=Lib.hid (by rw [hl10];rfl);go_wp2;go_ret;exact ⟨_,rfl,(by rw [← HZ.out,← HE.out];exact pv_own O4.out),(by exact bB)⟩
  ·skip
   have i1:¬ (k:Int)<N:=by omega
   have HZ:Hid ((l.take k).map ptOf=ptsOf l):=Lib.hid (by unfold ptsOf;rw [List.take_of_length_le (by rw [HN.out];omega),List.take_of_length_le (by rw [HN.out];omega)]);go_wp2;go_ret;exact ⟨_,rfl,(by rw [← HZ.out,← HE.out];exact pv_own O4.out),(by exact bB)⟩
end Go.Proofs.YtiochgoocbkckaaGreatDoor

namespace Go.Proofs.YtiochgoocbkckaaGreatDoor
open Go Go.ChangeShapes Go.WideShapes Go.ChangeAt Go.WideMaps Go.WideElems Go.RowKit
set_option maxRecDepth 100000

theorem trod_spot {H:Type} {enc:TypeId×Value→H} {W:World} {base n:Nat} {sp:Nat→Bool} {hd:Bool} {cs:List Value} {x:DataW H×List MemPlace}
 (h:DataW.trod enc Tryz.prog W base sp hd n 53 cs=some x):∃ s,In8 s∧cs=tcells s:=by
 obtain ⟨y0,y1,y2,n',_,hl,h0,h1,h2⟩:=Deep.trod_struct3 Tryz.underlying53 h;have c25:Tryz.prog.cellsOf 53 = 3:=by kernel_rfl
 have c23:Tryz.prog.cellsOf 31 = 1:=by kernel_rfl
 have c4:Tryz.prog.cellsOf 4 = 1:=by kernel_rfl
 rw [c25] at hl
 match cs,hl with
 | [a,b,c],_ =>
  simp only [c23,c4,List.drop_zero,List.drop_succ_cons,List.take_succ_cons,List.take_zero] at h0 h1 h2;obtain ⟨k,e1,_,w1⟩:=DataW.trod_int Tryz.underlying31 h0;obtain ⟨j,e2,_,w2⟩:=DataW.trod_int Tryz.underlying31 h1;obtain ⟨t,e3,_⟩:=DataW.trod_bool Tryz.underlying4 h2;cases e1;cases e2;cases e3;refine ⟨(k,j,t),?_,rfl⟩;simp [Lit.wf] at w1 w2;unfold In8;exact ⟨w1.1,w1.2,w2.1,w2.2⟩
theorem open_spots {H:Type} {enc:TypeId×Value→H} {W:World} {base:Nat} {sp:Nat→Bool} {hd:Bool} {v:Value} {d:DataW H} {ps:List MemPlace} {b0:Nat}
 (hv:Value.okWide Tryz.prog W .any b0 22 v) (h:DataW.Trod enc Tryz.prog W base sp hd 22 v d ps):∃ l,TV W v l∧(∀ s∈l,In8 s)∧l.length≤maxLen:=by
 obtain ⟨a0,len,cap,rfl⟩:=okWide_slice Tryz.underlying22 hv;obtain ⟨fuel,hf⟩:=h;have c25:Tryz.prog.cellsOf 53 = 3:=by kernel_rfl
 rcases Deep.open_slice Tryz.underlying22 hf with ⟨hcs,hx⟩|⟨a,len',cap',m,n,D,Pl,hcs,_,hl,hm,hmm,hx,hel⟩
 ·simp [Value.cells] at hcs
  obtain ⟨rfl,rfl,rfl⟩:=hcs;exact ⟨[],⟨none,0,rfl,by simp,by simp [maxLen],fun k x hk=>by simp at hk⟩,by simp,by simp⟩
 ·simp [Value.cells] at hcs
  obtain ⟨rfl,rfl,rfl⟩:=hcs;have hlm:len≤m:=by rw [hmm];split<;>omega
  by_cases hl0:len=0
  ·subst hl0
   exact ⟨[],⟨some a,cap,rfl,by simp,hm,fun k x hk=>by simp at hk⟩,by simp,by simp⟩
  obtain ⟨b,off,spot⟩:=a
  have hsp:spot=none:=by
   obtain ⟨cs',h1,h2⟩:=hel 0 (by omega);obtain ⟨s,hs,rfl⟩:=trod_spot h2;rw [c25] at h1;have:=(World.cells?_some h1).2.2 0 (by omega)
   simpa [Addr.add] using World.cell?_spot (v:=.int .i8 s.1) this
  subst hsp
  have E:∀ i,i<len→∃ s:Int×Int×Bool,In8 s∧∀ j,j<3→W.cell? ⟨b,off+i*3+j,none⟩=(tcells s)[j]?:=fun i hi=>by
   obtain ⟨cs',h1,h2⟩:=hel i (by omega);obtain ⟨s,hs,rfl⟩:=trod_spot h2;refine ⟨s,hs,fun j hj => ?_⟩;rw [c25] at h1;have:=(World.cells?_some h1).2.2 j (by simpa using hj)
   rwa [Addr.add_mid,Addr.add_mid] at this
  obtain ⟨V,hV⟩:=Deep.choose_lt (α:=Int×Int×Bool) (p:=fun i s=>In8 s∧∀ j,j<3→W.cell? ⟨b,off+i*3+j,none⟩=(tcells s)[j]?) E;refine ⟨(List.range len).map V,⟨some ⟨b,off,none⟩,cap,by simp,by simpa using hl,hm,fun k x hk => ?_⟩,?_,by simp;omega⟩
  ·have hkl:k<len:=by simpa using (List.getElem?_eq_some_iff.1 hk).1
   have hx':V k=x:=by simpa [hkl] using hk
   subst hx';exact ⟨b,off,rfl,(hV k hkl).2 0 (by omega),(hV k hkl).2 1 (by omega),(hV k hkl).2 2 (by omega)⟩
  ·intro s hs
   obtain ⟨i,hi,rfl⟩:=List.mem_map.1 hs;exact (hV i (by simpa using hi)).1
end Go.Proofs.YtiochgoocbkckaaGreatDoor

namespace Go.Proofs.YtiochgoocbkckaaGreatDoor
namespace Pg
open Pl
theorem cmpP_swap (p q:Pt):cmpP q p=- cmpP p q:=by
 have h:∀ a b:Rat,cmpQ b a=- cmpQ a b:=fun a b=>by
  unfold cmpQ;rw [← sgn_neg];exact congrArg sgn (by grind)
 unfold cmpP;rw [h p.1 q.1,h p.2 q.2]
 by_cases h0:cmpQ p.1 q.1=0
 ·simp [h0]
 ·rw [if_neg h0,if_neg (by omega)]
theorem cmpQ_bd (a b:Rat):cmpQ a b=-1∨cmpQ a b=0∨cmpQ a b=1:=by
 unfold cmpQ;rcases sgn_cases (a-b) with h|h|h<;>simp [h.2]
theorem cmpP_three (p q:Pt):cmpP p q=-1∨cmpP p q=0∨cmpP p q=1:=by
 unfold cmpP
 split<;>exact cmpQ_bd _ _
def onR (p a b:Pt):Bool:=decide (turn a b p=0)&&((decide (cmpP a p≤0)&&decide (cmpP p b≤0))||(decide (cmpP b p≤0)&&decide (cmpP p a≤0)))
theorem onR_eq (p a b:Pt):onR p a b=onSeg p a b:=by
 unfold onR onSeg;congr 1;have hz:=cmpP_zero a p;have hab:a=b→cmpP p b=- cmpP a p:=fun e=>by rw [← e];exact cmpP_swap a p
 rw [cmpP_swap p b,cmpP_swap a p];rw [Bool.eq_iff_iff];simp only [Bool.or_eq_true,Bool.and_eq_true,decide_eq_true_eq];generalize hx:cmpP a p=x at *;generalize hy:cmpP p b=y at *;have hx3:x=-1∨x=0∨x=1:=hx▸cmpP_three a p;have hy3:y=-1∨y=0∨y=1:=hy▸cmpP_three p b;constructor
 ·intro h
  refine ⟨?_,?_⟩
  ·rcases hx3 with rfl|rfl|rfl<;>rcases hy3 with rfl|rfl|rfl<;>omega
  ·by_cases e:a=b
   ·right
    have:=hab e;exact (hz.1 (by omega)).symm
   ·exact .inl e
 ·intro h
  rcases hx3 with rfl|rfl|rfl<;>rcases hy3 with rfl|rfl|rfl<;>first|omega|(exfalso;have:=h.1;omega)
def addE (l:List Pt) (p:Pt) (s:Pt×Pt):List Pt:=if onSeg p s.1 s.2 then (if p∈l then l else l++[p]) else l
def endsM (s t:Pt×Pt):List Pt:=addE (addE (addE (addE [] s.1 t) s.2 t) t.1 s) t.2 s
def crossB (s t:Pt×Pt):Bool:=decide (turn s.1 s.2 t.1*turn s.1 s.2 t.2<0)&&decide (turn t.1 t.2 s.1*turn t.1 t.2 s.2<0)
def kindM (s t:Pt×Pt):Int:=match (endsM s t).length with
 | 0=>if crossB s t then 2 else 0
 | 1=>1
 | _=>3
def meetR (a b c d:Pt):Bool:=onR a c d||onR b c d||onR c a b||onR d a b||(decide (turn a b c*turn a b d<0)&&decide (turn c d a*turn c d b<0))
theorem addE_nil (l:List Pt) (p:Pt) (s:Pt×Pt):addE l p s=[]↔l=[]∧onSeg p s.1 s.2=false:=by
 unfold addE
 by_cases h:onSeg p s.1 s.2=true
 ·rw [if_pos h]
  constructor
  ·intro e
   split at e
   ·rename_i hm;rw [e] at hm;simp at hm
   ·simp at e
  ·rintro ⟨-,e⟩;rw [h] at e;cases e
 ·rw [if_neg h]
  simp [h]
theorem endsM_nil (s t:Pt×Pt):endsM s t=[]↔onSeg s.1 t.1 t.2=false∧onSeg s.2 t.1 t.2=false∧onSeg t.1 s.1 s.2=false∧onSeg t.2 s.1 s.2=false:=by
 unfold endsM;simp only [addE_nil,true_and,and_assoc]
theorem kind_apart (s t:Pt×Pt):decide (kindM s t≠0)=meetR s.1 s.2 t.1 t.2:=by
 unfold meetR kindM;simp only [onR_eq]
 by_cases h:endsM s t=[]
 ·obtain ⟨h1,h2,h3,h4⟩:=(endsM_nil s t).1 h
  rw [h,h1,h2,h3,h4];simp only [List.length_nil,Bool.false_or,crossB];have key:∀ c:Bool,decide ((if c=true then (2:Int) else 0)≠0)=c:=by intro c;cases c<;>rfl
  rw [Bool.eq_iff_iff,decide_eq_true_eq]
  by_cases hc:(decide (turn s.1 s.2 t.1*turn s.1 s.2 t.2<0)&&decide (turn t.1 t.2 s.1*turn t.1 t.2 s.2<0))=true
  ·simp [hc]
  ·simp [hc]
 ·have h':=mt (endsM_nil s t).2 h
  have hl:0<(endsM s t).length:=List.length_pos_iff.2 h
  have hk:(match (endsM s t).length with|0=>if crossB s t then (2:Int) else 0|1=>1|_=>3)≠0:=by
   split
   ·omega
   ·decide
   ·decide
  rw [decide_eq_true hk];symm;simp only [Bool.or_eq_true]
  by_cases h1:onSeg s.1 t.1 t.2=true
  ·simp [h1]
  ·by_cases h2:onSeg s.2 t.1 t.2=true
   ·simp [h2]
   ·by_cases h3:onSeg t.1 s.1 s.2=true
    ·simp [h3]
    ·by_cases h4:onSeg t.2 s.1 s.2=true
     ·simp [h4]
     ·exact absurd ⟨by simpa using h1,by simpa using h2,by simpa using h3,by simpa using h4⟩ h'
theorem turn_left (a b:Pt):turn a b a=0:=by
 unfold turn;rw [sgn_zero_iff];unfold det crossP subP;grind
theorem turn_right (a b:Pt):turn a b b=0:=by
 unfold turn;rw [sgn_zero_iff];unfold det crossP subP;grind
theorem cmpP_self (a:Pt):cmpP a a=0:=(cmpP_zero a a).2 rfl
theorem onSeg_left (a b:Pt):onSeg a a b=true:=by
 unfold onSeg;rw [turn_left,cmpP_self];simp
theorem onSeg_right (a b:Pt):onSeg b a b=true:=by
 unfold onSeg;rw [turn_right,cmpP_self]
 by_cases h:a=b<;>simp [h]
theorem kind_next {a b d:Pt} (hab:a≠b) (hbd:b≠d):decide (kindM (a,b) (b,d)=3)=(onR d a b||onR a b d):=by
 simp only [onR_eq];unfold kindM endsM addE;simp only [onSeg_left,onSeg_right,if_true]
 by_cases h1:onSeg a b d=true<;>by_cases h2:onSeg d a b=true<;>by_cases h3:d=a<;>simp [h1,h2,h3,hab,hab.symm,hbd,hbd.symm]
 all_goals (try split)<;>simp_all
theorem kind_last {a b c:Pt} (hab:a≠b) (hca:c≠a):decide (kindM (a,b) (c,a)=3)=(onR c a b||onR b c a):=by
 simp only [onR_eq];unfold kindM endsM addE;simp only [onSeg_left,onSeg_right,if_true]
 by_cases h1:onSeg b c a=true<;>by_cases h2:onSeg c a b=true<;>by_cases h3:c=b<;>simp [h1,h2,h3,hab,hab.symm,hca,hca.symm]
 all_goals (try split)<;>simp_all
def vx (l:List Pt) (i:Nat):Pt:=l.getD (i%l.length) (0,0)
def badP (l:List Pt) (i k:Nat):Bool :=
 if k=i+1∨i=0∧k+1=l.length then decide (kindM (vx l i,vx l (i+1)) (vx l k,vx l (k+1))=3) else decide (kindM (vx l i,vx l (i+1)) (vx l k,vx l (k+1))≠0)
def badR (l:List Pt) (i k:Nat):Bool :=
 if k=i+1∧(onR (vx l (k+1)) (vx l i) (vx l (i+1))||onR (vx l i) (vx l k) (vx l (k+1)))=true then true
 else if i=0∧k+1=l.length∧(onR (vx l k) (vx l i) (vx l (i+1))||onR (vx l (i+1)) (vx l k) (vx l (k+1)))=true then true
 else if k=i+1∨i=0∧k+1=l.length then false
 else meetR (vx l i) (vx l (i+1)) (vx l k) (vx l (k+1))
theorem bad_eq {l:List Pt} (h3:3≤l.length) (hn:∀ i,i<l.length→vx l i≠vx l (i+1)) {i k:Nat} (hik:i<k) (hk:k<l.length):badP l i k=badR l i k:=by
 unfold badP badR
 by_cases h1:k=i+1
 ·subst h1
  have hno:¬ (i=0∧i+1+1=l.length):=by omega
  rw [if_pos (.inl rfl),kind_next (hn i (by omega)) (hn (i+1) hk)]
  cases hb:(onR (vx l (i+1+1)) (vx l i) (vx l (i+1))||onR (vx l i) (vx l (i+1)) (vx l (i+1+1))) with
  | true=>rw [if_pos ⟨rfl,rfl⟩]
  | false=>rw [if_neg (by simp),if_neg (fun c=>hno ⟨c.1,c.2.1⟩),if_pos (.inl rfl)]
 ·by_cases h2:i=0∧k+1=l.length
  ·obtain ⟨rfl,hk1⟩:=h2
   have e:vx l (k+1)=vx l 0:=by unfold vx;rw [hk1,Nat.mod_self,Nat.zero_mod]
   rw [if_pos (.inr ⟨rfl,hk1⟩),if_neg (fun c=>h1 c.1),e,kind_last (hn 0 (by omega)) (by have:=hn k hk;rwa [e] at this)]
   cases hb:(onR (vx l k) (vx l 0) (vx l (0+1))||onR (vx l (0+1)) (vx l k) (vx l 0)) with
   | true=>rw [if_pos ⟨rfl,hk1,rfl⟩]
   | false=>rw [if_neg (by simp),if_pos (.inr ⟨rfl,hk1⟩)]
  ·have hno:¬ (k=i+1∨i=0∧k+1=l.length):=fun c=>c.elim h1 h2
   rw [if_neg hno,if_neg (fun c=>h1 c.1),if_neg (fun c=>h2 ⟨c.1,c.2.1⟩),if_neg hno,kind_apart]
def Sim (bad:List Pt→Nat→Nat→Bool) (l:List Pt):Prop:=3≤l.length∧(∀ i,i<l.length→vx l i≠vx l (i+1))∧∀ i k,i<k→k<l.length→bad l i k=false
theorem sim_iff (l:List Pt):Sim badP l↔Sim badR l:=by
 constructor<;>rintro ⟨h3,hn,hb⟩<;>refine ⟨h3,hn,fun i k hik hk => ?_⟩
 ·rw [← bad_eq h3 hn hik hk];exact hb i k hik hk
 ·rw [bad_eq h3 hn hik hk];exact hb i k hik hk
end Pg
end Go.Proofs.YtiochgoocbkckaaGreatDoor

namespace Go.Proofs.YtiochgoocbkckaaGreatDoor
namespace Pg
open Pl
def ringE (l:List Pt):List (Pt×Pt):=(List.range l.length).map fun i=>(vx l i,vx l (i+1))
theorem ringE_len (l:List Pt):(ringE l).length=l.length:=by simp [ringE]
theorem ringE_get (l:List Pt) {i:Nat} (h:i<l.length):(ringE l)[i]?=some (vx l i,vx l (i+1)):=by simp [ringE,h]
def wnd (p:Pt) (e:Pt×Pt):Int :=
 if decide (cmpQ e.1.2 p.2≤0)=decide (cmpQ e.2.2 p.2≤0) then 0
 else if cmpQ e.1.2 p.2≤0∧0<turn e.1 e.2 p then 1
 else if ¬ cmpQ e.1.2 p.2≤0∧turn e.1 e.2 p<0 then -1 else 0
def hitR (p:Pt) (e:Pt×Pt):Bool :=
 (decide (cmpQ e.1.2 p.2≤0)&&decide (cmpQ p.2 e.2.2<0))&&decide (0<turn e.1 e.2 p)||(decide (cmpQ e.2.2 p.2≤0)&&decide (cmpQ p.2 e.1.2<0))&&decide (turn e.1 e.2 p<0)
theorem cmpQ_swap (a b:Rat):cmpQ b a=- cmpQ a b:=by
 unfold cmpQ;rw [← sgn_neg];exact congrArg sgn (by grind)
theorem hit_iff (p:Pt) (e:Pt×Pt):hitR p e=decide (wnd p e≠0):=by
 unfold hitR wnd;rw [cmpQ_swap e.2.2 p.2,cmpQ_swap e.1.2 p.2];generalize cmpQ e.1.2 p.2=x;generalize cmpQ e.2.2 p.2=y;generalize turn e.1 e.2 p=o;rw [Bool.eq_iff_iff];simp only [Bool.or_eq_true,Bool.and_eq_true,decide_eq_true_eq]
 by_cases h1:x≤0<;>by_cases h2:y≤0<;>by_cases h3:0<o<;>by_cases h4:o<0<;>simp [h1,h2,h3,h4]<;>omega
theorem wnd_bd (p:Pt) (e:Pt×Pt):wnd p e=-1∨wnd p e=0∨wnd p e=1:=by
 unfold wnd;repeat' split
 all_goals simp
def locW (p:Pt):List (Pt×Pt)→Int→Int
 | [],t=>if t=0 then -1 else 1
 | e :: es,t=>if onSeg p e.1 e.2=true then 0 else locW p es (t+wnd p e)
def locO (p:Pt):List (Pt×Pt)→Int→Int
 | [],o=>o
 | e :: es,o=>if onR p e.1 e.2=true then 0 else locO p es (if hitR p e=true then 0-o else o)
def wsum (p:Pt):List (Pt×Pt)→Int
 | []=>0
 | e :: es=>wnd p e+wsum p es
theorem loc_same {p:Pt} : ∀ {es:List (Pt×Pt)} {t o:Int},(∀ e∈es,onSeg p e.1 e.2=false)→(t+wsum p es=0∨t+wsum p es=1∨t+wsum p es=-1)→(o=1∨o=-1)→(o=-1↔t%2=0)→locW p es t=locO p es o
 | [],t,o,_,h,ho,hp=>by
  simp only [locW,locO,wsum,Int.add_zero] at *
  split<;>omega
 | e :: es,t,o,hb,h,ho,hp=>by
  have h0:=hb e (by simp);simp only [locW,locO,onR_eq,h0,Bool.false_eq_true,if_false];simp only [wsum] at h;refine loc_same (fun e' he'=>hb e' (by simp [he'])) (by rw [Int.add_assoc];exact h) ?_ ?_
  ·split<;>omega
  ·rw [hit_iff]
   rcases wnd_bd p e with hw|hw|hw<;>simp [hw]<;>omega
theorem loc_border {p:Pt} : ∀ {es:List (Pt×Pt)} {t o:Int},(∃ e∈es,onSeg p e.1 e.2=true)→locW p es t=0∧locO p es o=0
 | [],_,_,h=>by obtain ⟨_,h,_⟩:=h;cases h
 | e :: es,t,o,h=>by
  simp only [locW,locO,onR_eq]
  by_cases he:onSeg p e.1 e.2=true
  ·simp [he]
  ·simp only [he,Bool.false_eq_true,if_false]
   refine loc_border ?_;obtain ⟨e',hm,h'⟩:=h;rcases List.mem_cons.1 hm with rfl|hm
   ·exact absurd h' he
   ·exact ⟨e',hm,h'⟩
theorem loc_eq {p:Pt} {l:List Pt} (h:(∀ e∈ringE l,onSeg p e.1 e.2=false)→wsum p (ringE l)=0∨wsum p (ringE l)=1∨wsum p (ringE l)=-1):locW p (ringE l) 0=locO p (ringE l) (-1):=by
 by_cases hb:∃ e∈ringE l,onSeg p e.1 e.2=true
 ·rw [(loc_border (t:=0) (o := -1) hb).1,(loc_border (t:=0) (o := -1) hb).2]
 ·have hb':∀ e∈ringE l,onSeg p e.1 e.2=false:=fun e he=>by
   cases hq:onSeg p e.1 e.2 with
   | false=>rfl
   | true=>exact absurd ⟨e,he,hq⟩ hb
  exact loc_same hb' (by simpa using h hb') (.inr rfl) (by simp)
theorem sub_add (a b d:Pt):subP (addP a d) (addP b d)=subP a b:=by unfold subP addP;refine Prod.ext ?_ ?_<;>(simp only;grind)
theorem turn_add (a b c d:Pt):turn (addP a d) (addP b d) (addP c d)=turn a b c:=by unfold turn det;rw [sub_add,sub_add]
theorem cmpQ_add (a b d:Rat):cmpQ (a+d) (b+d)=cmpQ a b:=by unfold cmpQ;exact congrArg sgn (by grind)
theorem cmpP_add (a b d:Pt):cmpP (addP a d) (addP b d)=cmpP a b:=by unfold cmpP addP;simp only [cmpQ_add]
theorem onR_add (p a b d:Pt):onR (addP p d) (addP a d) (addP b d)=onR p a b:=by unfold onR;rw [turn_add,cmpP_add,cmpP_add,cmpP_add,cmpP_add]
theorem hitR_add (p d:Pt) (e:Pt×Pt):hitR (addP p d) (addP e.1 d,addP e.2 d)=hitR p e:=by
 unfold hitR;simp only [turn_add];simp only [addP,cmpQ_add]
theorem locO_add (p d:Pt):∀ (es:List (Pt×Pt)) (o:Int),locO (addP p d) (es.map fun e=>(addP e.1 d,addP e.2 d)) o=locO p es o
 | [],_=>rfl
 | e :: es,o=>by simp only [List.map_cons,locO,onR_add,hitR_add,locO_add p d es]
theorem vx_map (l:List Pt) (d:Pt) {i:Nat} (h:0<l.length):vx (l.map fun q=>addP q d) i=addP (vx l i) d:=by
 unfold vx;rw [List.length_map];have hi:=Nat.mod_lt i h;rw [List.getD_eq_getElem?_getD,List.getD_eq_getElem?_getD,List.getElem?_map];rw [List.getElem?_eq_getElem hi];rfl
theorem ringE_map (l:List Pt) (d:Pt):ringE (l.map fun q=>addP q d)=(ringE l).map fun e=>(addP e.1 d,addP e.2 d):=by
 unfold ringE;rw [List.length_map,List.map_map];refine List.map_congr_left fun i hi => ?_
 have h:0<l.length:=Nat.lt_of_le_of_lt (Nat.zero_le i) (List.mem_range.1 hi);simp only [Function.comp,vx_map l d h]
end Pg
end Go.Proofs.YtiochgoocbkckaaGreatDoor
