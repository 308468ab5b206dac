/-
 Contracts of package integer and rational: division without remainder.
-/
import Derived.Test.YtiochgoocbkckaaGreatDoorAgag
set_option maxRecDepth 100000
set_option linter.unusedSimpArgs false
set_option linter.unusedVariables false
namespace Go.Proofs.YtiochgoocbkckaaGreatDoor
open Go Go.RowKit

theorem nat_dvd {a:Int} {g:Nat} (h:(g:Int) ∣ a):a.natAbs%g=0:=by
 have:=Int.natAbs_dvd_natAbs.2 h;rw [Int.natAbs_natCast] at this;exact Nat.mod_eq_zero_of_dvd this
theorem exact_quot {a:Int} {g:Nat} (hg:0<g) (h:(g:Int) ∣ a):(ng a&&decide (a.natAbs/g≠0))=ng (a/g)∧(a/g).natAbs=a.natAbs/g:=by
 obtain ⟨c,rfl⟩:=h;have hg':(g:Int)≠0:=by omega
 rw [Int.mul_ediv_cancel_left _ hg',Int.natAbs_mul,Int.natAbs_natCast,Nat.mul_div_cancel_left _ hg];refine ⟨?_,rfl⟩;unfold ng;rw [Bool.eq_iff_iff];simp only [Bool.and_eq_true,decide_eq_true_eq];constructor
 ·rintro ⟨h1,_⟩
  rcases Int.lt_or_le c 0 with h2|h2
  ·exact h2
  ·have:=Int.mul_nonneg (Int.natCast_nonneg g) h2;omega
 ·intro h1
  exact ⟨Int.mul_neg_of_pos_of_neg (by omega) h1,by omega⟩

theorem idiv_pos (a:Int) (g:Nat) (w:World) (hs:ng a=false) (hg:0<g) (hd:(g:Int) ∣ a) (ha:Pl.L a.natAbs≤67108864) (hb:Pl.L g≤67108864) :
 Calls Tryz.prog 197 #[iv a,nv g] w fun e w'=>e=.returned (.tuple #[iv (a/g),nv 0,.int .i64 0])∧Below w.heap.size w w':=by
 have hz0:=nat_dvd hd;have hdv:=fun W=>div_any a.natAbs g W ha hb (by omega)
 simp only [hz0] at hdv;have K0:=Lib.hid hdv;have hE:=exact_quot hg hd;rw [hs] at hE;have E:=Lib.hid hE;have he:=mg_empty g;rw [decide_eq_false (by omega)] at he;have he0:(mg 0).toList.isEmpty=true:=by rw [mg_empty];rfl
 have hs1:=hs;clear hz0 hdv hE;have K1:=Lib.hid (fun W=>K0.out W);have K2:=Lib.hid (fun W=>made_any false (a.natAbs/g) W);have K3:=Lib.hid (fun W=>made_any false 0 W);clear hs hg hd ha hb;go_enter Tryz.func197,Tryz.ntmps197;go_wp2_with fail;refine calls_named ?_;intro W1 hW1;have c1_0:At W1 w.heap.size 0 [.bool false,.string (mg a.natAbs)]:=by rw [hW1];simp [At,go_sem]
 have c1_1:At W1 (w.heap.size+1) 0 [.bool false,.string (mg g)]:=by rw [hW1];simp [At,go_sem]
 have c1_2:Own W1 (w.heap.size+2) 0 [.bool false,.string ⟨#[]⟩]:=by rw [hW1];simp [Own,go_sem]
 have c1_3:Own W1 (w.heap.size+3) 0 [.bool false,.string ⟨#[]⟩]:=by rw [hW1];simp [Own,go_sem]
 have hB1:Below w.heap.size w W1:=by rw [hW1];exact bB
 clear hW1;have uc1_0:=c1_0;have uc1_1:=c1_1;have uc1_2:=c1_2;have uc1_3:=c1_3;simp only [At,Own,Nat.reduceAdd,and_true] at uc1_0 uc1_1 uc1_2 uc1_3;with_reducible refine (K1.out _).mono ?_
 rintro e w1 ⟨rfl,hb1⟩;have c1_0x:=c1_0.up hb1;have c1_1x:=c1_1.up hb1;have c1_2x:=c1_2.up hb1;have c1_3x:=c1_3.up hb1;have hDw1:Below w.heap.size w w1:=bel_up hB1 hb1;clear uc1_0 uc1_1 uc1_2 uc1_3 c1_0 c1_1 c1_2 c1_3;have uc1_0x:=c1_0x;have uc1_1x:=c1_1x;have uc1_2x:=c1_2x;have uc1_3x:=c1_3x;simp only [At,Own,Nat.reduceAdd,and_true] at uc1_0x uc1_1x uc1_2x uc1_3x
 -- NE
 go_wp2_with fail;refine calls_named ?_;intro W2 hW2;have hL2:Below w1.heap.size w1 W2:=by rw [hW2];exact bB
 have c2_0:=c1_0x.up hL2;have c2_1:=c1_1x.up hL2;have c2_2:=c1_2x.up hL2;have c2_3:=c1_3x.up hL2;have hB2:Below w.heap.size w W2:=by rw [hW2];exact bB
 clear hW2 hL2 uc1_0x uc1_1x uc1_2x uc1_3x c1_0x c1_1x c1_2x c1_3x;have uc2_0:=c2_0;have uc2_1:=c2_1;have uc2_2:=c2_2;have uc2_3:=c2_3;simp only [At,Own,Nat.reduceAdd,and_true] at uc2_0 uc2_1 uc2_2 uc2_3;with_reducible refine (K2.out _).mono ?_
 rintro e w2 ⟨rfl,hb2⟩;have c2_0x:=c2_0.up hb2;have c2_1x:=c2_1.up hb2;have c2_2x:=c2_2.up hb2;have c2_3x:=c2_3.up hb2;have hDw2:Below w.heap.size w w2:=bel_up hB2 hb2;clear uc2_0 uc2_1 uc2_2 uc2_3 c2_0 c2_1 c2_2 c2_3;have uc2_0x:=c2_0x;have uc2_1x:=c2_1x;have uc2_2x:=c2_2x;have uc2_3x:=c2_3x;simp only [At,Own,Nat.reduceAdd,and_true] at uc2_0x uc2_1x uc2_2x uc2_3x
 -- NE
 go_wp2_with fail;refine calls_named ?_;intro W3 hW3;have hL3:Below w2.heap.size w2 W3:=by rw [hW3];exact bB
 have c3_0:=c2_0x.up hL3;have c3_1:=c2_1x.up hL3;have c3_2:=c2_2x.up hL3;have c3_3:=c2_3x.up hL3;have hB3:Below w.heap.size w W3:=by rw [hW3];exact bB
 clear hW3 hL3 uc2_0x uc2_1x uc2_2x uc2_3x c2_0x c2_1x c2_2x c2_3x;have uc3_0:=c3_0;have uc3_1:=c3_1;have uc3_2:=c3_2;have uc3_3:=c3_3;simp only [At,Own,Nat.reduceAdd,and_true] at uc3_0 uc3_1 uc3_2 uc3_3;with_reducible refine (K3.out _).mono ?_
 rintro e w3 ⟨rfl,hb3⟩;have c3_0x:=c3_0.up hb3;have c3_1x:=c3_1.up hb3;have c3_2x:=c3_2.up hb3;have c3_3x:=c3_3.up hb3;have hDw3:Below w.heap.size w w3:=bel_up hB3 hb3;clear uc3_0 uc3_1 uc3_2 uc3_3 c3_0 c3_1 c3_2 c3_3;have uc3_0x:=c3_0x;have uc3_1x:=c3_1x;have uc3_2x:=c3_2x;have uc3_3x:=c3_3x;simp only [At,Own,Nat.reduceAdd,and_true] at uc3_0x uc3_1x uc3_2x uc3_3x
 -- NE
 go_wp2;refine bodyPost_ret (v:=.tuple #[.agg #[.bool (false&&decide (a.natAbs/g≠0)),.string (mg (a.natAbs/g))],.agg #[.bool (false&&decide (0≠0)),.string (mg 0)],.int .i64 0]) (by simp [results,Tryz.results197,go_sem,uc3_2x,uc3_3x]) rfl ⟨by rw [iv,← E.out.1,E.out.2];rfl,?_⟩;exact bB

theorem idiv_neg (a:Int) (g:Nat) (w:World) (hs:ng a=true) (hg:0<g) (hd:(g:Int) ∣ a) (ha:Pl.L a.natAbs≤67108864) (hb:Pl.L g≤67108864) :
 Calls Tryz.prog 197 #[iv a,nv g] w fun e w'=>e=.returned (.tuple #[iv (a/g),nv 0,.int .i64 0])∧Below w.heap.size w w':=by
 have hz0:=nat_dvd hd;have hdv:=fun W=>div_any a.natAbs g W ha hb (by omega)
 simp only [hz0] at hdv;have K0:=Lib.hid hdv;have hE:=exact_quot hg hd;rw [hs] at hE;have E:=Lib.hid hE;have he:=mg_empty g;rw [decide_eq_false (by omega)] at he;have he0:(mg 0).toList.isEmpty=true:=by rw [mg_empty];rfl
 have hs1:=hs;clear hz0 hdv hE;have K1:=Lib.hid (fun W=>K0.out W);have K2:=Lib.hid (fun W=>made_any true (a.natAbs/g) W);have K3:=Lib.hid (fun W=>made_any false 0 W);clear hs hg hd ha hb;go_enter Tryz.func197,Tryz.ntmps197;go_wp2_with fail;refine calls_named ?_;intro W1 hW1;have c1_0:At W1 w.heap.size 0 [.bool true,.string (mg a.natAbs)]:=by rw [hW1];simp [At,go_sem]
 have c1_1:At W1 (w.heap.size+1) 0 [.bool false,.string (mg g)]:=by rw [hW1];simp [At,go_sem]
 have c1_2:Own W1 (w.heap.size+2) 0 [.bool false,.string ⟨#[]⟩]:=by rw [hW1];simp [Own,go_sem]
 have c1_3:Own W1 (w.heap.size+3) 0 [.bool false,.string ⟨#[]⟩]:=by rw [hW1];simp [Own,go_sem]
 have hB1:Below w.heap.size w W1:=by rw [hW1];exact bB
 clear hW1;have uc1_0:=c1_0;have uc1_1:=c1_1;have uc1_2:=c1_2;have uc1_3:=c1_3;simp only [At,Own,Nat.reduceAdd,and_true] at uc1_0 uc1_1 uc1_2 uc1_3;with_reducible refine (K1.out _).mono ?_
 rintro e w1 ⟨rfl,hb1⟩;have c1_0x:=c1_0.up hb1;have c1_1x:=c1_1.up hb1;have c1_2x:=c1_2.up hb1;have c1_3x:=c1_3.up hb1;have hDw1:Below w.heap.size w w1:=bel_up hB1 hb1;clear uc1_0 uc1_1 uc1_2 uc1_3 c1_0 c1_1 c1_2 c1_3;have uc1_0x:=c1_0x;have uc1_1x:=c1_1x;have uc1_2x:=c1_2x;have uc1_3x:=c1_3x;simp only [At,Own,Nat.reduceAdd,and_true] at uc1_0x uc1_1x uc1_2x uc1_3x
 -- NE
 go_wp2_with fail;refine calls_named ?_;intro W2 hW2;have hL2:Below w1.heap.size w1 W2:=by rw [hW2];exact bB
 have c2_0:=c1_0x.up hL2;have c2_1:=c1_1x.up hL2;have c2_2:=c1_2x.up hL2;have c2_3:=c1_3x.up hL2;have hB2:Below w.heap.size w W2:=by rw [hW2];exact bB
 clear hW2 hL2 uc1_0x uc1_1x uc1_2x uc1_3x c1_0x c1_1x c1_2x c1_3x;have uc2_0:=c2_0;have uc2_1:=c2_1;have uc2_2:=c2_2;have uc2_3:=c2_3;simp only [At,Own,Nat.reduceAdd,and_true] at uc2_0 uc2_1 uc2_2 uc2_3;with_reducible refine (K2.out _).mono ?_
 rintro e w2 ⟨rfl,hb2⟩;have c2_0x:=c2_0.up hb2;have c2_1x:=c2_1.up hb2;have c2_2x:=c2_2.up hb2;have c2_3x:=c2_3.up hb2;have hDw2:Below w.heap.size w w2:=bel_up hB2 hb2;clear uc2_0 uc2_1 uc2_2 uc2_3 c2_0 c2_1 c2_2 c2_3;have uc2_0x:=c2_0x;have uc2_1x:=c2_1x;have uc2_2x:=c2_2x;have uc2_3x:=c2_3x;simp only [At,Own,Nat.reduceAdd,and_true] at uc2_0x uc2_1x uc2_2x uc2_3x
 -- NE
 go_wp2_with fail;refine calls_named ?_;intro W3 hW3;have hL3:Below w2.heap.size w2 W3:=by rw [hW3];exact bB
 have c3_0:=c2_0x.up hL3;have c3_1:=c2_1x.up hL3;have c3_2:=c2_2x.up hL3;have c3_3:=c2_3x.up hL3;have hB3:Below w.heap.size w W3:=by rw [hW3];exact bB
 clear hW3 hL3 uc2_0x uc2_1x uc2_2x uc2_3x c2_0x c2_1x c2_2x c2_3x;have uc3_0:=c3_0;have uc3_1:=c3_1;have uc3_2:=c3_2;have uc3_3:=c3_3;simp only [At,Own,Nat.reduceAdd,and_true] at uc3_0 uc3_1 uc3_2 uc3_3;with_reducible refine (K3.out _).mono ?_
 rintro e w3 ⟨rfl,hb3⟩;have c3_0x:=c3_0.up hb3;have c3_1x:=c3_1.up hb3;have c3_2x:=c3_2.up hb3;have c3_3x:=c3_3.up hb3;have hDw3:Below w.heap.size w w3:=bel_up hB3 hb3;clear uc3_0 uc3_1 uc3_2 uc3_3 c3_0 c3_1 c3_2 c3_3;have uc3_0x:=c3_0x;have uc3_1x:=c3_1x;have uc3_2x:=c3_2x;have uc3_3x:=c3_3x;simp only [At,Own,Nat.reduceAdd,and_true] at uc3_0x uc3_1x uc3_2x uc3_3x
 -- NE
 go_wp2;refine bodyPost_ret (v:=.tuple #[.agg #[.bool (true&&decide (a.natAbs/g≠0)),.string (mg (a.natAbs/g))],.agg #[.bool (false&&decide (0≠0)),.string (mg 0)],.int .i64 0]) (by simp [results,Tryz.results197,go_sem,uc3_2x,uc3_3x]) rfl ⟨by rw [iv,← E.out.1,E.out.2];rfl,?_⟩;exact bB

theorem idiv_any (a:Int) (g:Nat) (w:World) (hg:0<g) (hd:(g:Int) ∣ a) (ha:Pl.L a.natAbs≤67108864) (hb:Pl.L g≤67108864) :
 Calls Tryz.prog 197 #[iv a,nv g] w fun e w'=>e=.returned (.tuple #[iv (a/g),nv 0,.int .i64 0])∧Below w.heap.size w w':=by
 rcases hs:ng a
 ·exact idiv_pos a g w hs hg hd ha hb
 ·exact idiv_neg a g w hs hg hd ha hb

theorem quot_any (a:Int) (g:Nat) (w:World) (hg:0<g) (hd:(g:Int) ∣ a) (ha:Pl.L a.natAbs≤67108864) (hb:Pl.L g≤67108864) :
 Calls Tryz.prog 171 #[iv a,nv g] w fun e w'=>e=.returned (iv (a/g))∧Below w.heap.size w w':=by
 have K1:=Lib.hid (fun W=>idiv_any a g W hg hd ha hb);clear hg hd ha hb;go_enter Tryz.func171,Tryz.ntmps171;go_wp2_with fail;refine calls_named ?_;intro W1 hW1;have c1_0:At W1 w.heap.size 0 [.bool (ng a),.string (mg a.natAbs)]:=by rw [hW1];simp [At,go_sem]
 have c1_1:At W1 (w.heap.size+1) 0 [.bool false,.string (mg g)]:=by rw [hW1];simp [At,go_sem]
 have c1_2:Own W1 (w.heap.size+2) 0 [.bool false,.string ⟨#[]⟩]:=by rw [hW1];simp [Own,go_sem]
 have hB1:Below w.heap.size w W1:=by rw [hW1];exact bB
 clear hW1;have uc1_0:=c1_0;have uc1_1:=c1_1;have uc1_2:=c1_2;simp only [At,Own,Nat.reduceAdd,and_true] at uc1_0 uc1_1 uc1_2;with_reducible refine (K1.out _).mono ?_
 rintro e w1 ⟨rfl,hb1⟩;have c1_0x:=c1_0.up hb1;have c1_1x:=c1_1.up hb1;have c1_2x:=c1_2.up hb1;have hDw1:Below w.heap.size w w1:=bel_up hB1 hb1;clear uc1_0 uc1_1 uc1_2 c1_0 c1_1 c1_2;have uc1_0x:=c1_0x;have uc1_1x:=c1_1x;have uc1_2x:=c1_2x;simp only [At,Own,Nat.reduceAdd,and_true] at uc1_0x uc1_1x uc1_2x
 -- NE
 have nc1_0x_0_:w.heap.size<w1.heap.size:=by have:=c1_0x.lt;omega
 have nc1_0x_0:=Nat.ne_of_lt nc1_0x_0_;have nc1_0x_0':=nc1_0x_0.symm;have nc1_1x_0_:w.heap.size+1<w1.heap.size:=by have:=c1_1x.lt;omega
 have nc1_1x_0:=Nat.ne_of_lt nc1_1x_0_;have nc1_1x_0':=nc1_1x_0.symm;have nc1_2x_0_:w.heap.size+2<w1.heap.size:=by have:=c1_2x.lt;omega
 have nc1_2x_0:=Nat.ne_of_lt nc1_2x_0_;have nc1_2x_0':=nc1_2x_0.symm;have nc1_0x_1_:w.heap.size<w1.heap.size+1:=by have:=c1_0x.lt;omega
 have nc1_0x_1:=Nat.ne_of_lt nc1_0x_1_;have nc1_0x_1':=nc1_0x_1.symm;have nc1_1x_1_:w.heap.size+1<w1.heap.size+1:=by have:=c1_1x.lt;omega
 have nc1_1x_1:=Nat.ne_of_lt nc1_1x_1_;have nc1_1x_1':=nc1_1x_1.symm;have nc1_2x_1_:w.heap.size+2<w1.heap.size+1:=by have:=c1_2x.lt;omega
 have nc1_2x_1:=Nat.ne_of_lt nc1_2x_1_;have nc1_2x_1':=nc1_2x_1.symm;go_wp2;refine bodyPost_ret (v:=.agg #[.bool (ng (a/g)),.string (mg (a/g).natAbs)]) (by simp [results,Tryz.results171,go_sem,uc1_2x,nc1_0x_0,nc1_0x_0',nc1_0x_0_,nc1_1x_0,nc1_1x_0',nc1_1x_0_,nc1_2x_0,nc1_2x_0',nc1_2x_0_,nc1_0x_1,nc1_0x_1',nc1_0x_1_,nc1_1x_1,nc1_1x_1',nc1_1x_1_,nc1_2x_1,nc1_2x_1',nc1_2x_1_]) rfl ⟨rfl,?_⟩;exact bB

theorem quot_nat (a g:Nat) (w:World) (hg:0<g) (hd:g ∣ a) (ha:Pl.L a≤67108864) (hb:Pl.L g≤67108864) :
 Calls Tryz.prog 171 #[nv a,nv g] w fun e w'=>e=.returned (nv (a/g))∧Below w.heap.size w w':=by
 have h:=quot_any (a:Int) g w hg (Int.natCast_dvd_natCast.2 hd) (by rw [Int.natAbs_natCast];exact ha) hb;rw [iv_nat,← Int.natCast_ediv,iv_nat] at h;exact h

theorem one_any  (w:World) :
 Calls Tryz.prog 153 #[] w fun e w'=>e=.returned (nv 1)∧Below w.heap.size w w':=by
 have K1:=Lib.hid (fun W=>fromInt_any 1 W (by omega) (by omega));go_enter Tryz.func153,Tryz.ntmps153;go_wp2_with fail;refine calls_named ?_;intro W1 hW1;have c1_0:Own W1 w.heap.size 0 [.bool false,.string ⟨#[]⟩]:=by rw [hW1];simp [Own,go_sem]
 have hB1:Below w.heap.size w W1:=by rw [hW1];exact bB
 clear hW1;have uc1_0:=c1_0;simp only [At,Own,Nat.reduceAdd,and_true] at uc1_0;with_reducible refine (K1.out _).mono ?_
 rintro e w1 ⟨rfl,hb1⟩;have c1_0x:=c1_0.up hb1;have hDw1:Below w.heap.size w w1:=bel_up hB1 hb1;clear uc1_0 c1_0;have uc1_0x:=c1_0x;simp only [At,Own,Nat.reduceAdd,and_true] at uc1_0x
 -- NE
 go_wp2;refine bodyPost_ret (v:=.agg #[.bool (ng (1:Int)),.string (mg (1:Int).natAbs)]) (by simp [results,Tryz.results153,go_sem,uc1_0x]) rfl ⟨congrArg Ending.returned (iv_nat 1),?_⟩;exact bB
end Go.Proofs.YtiochgoocbkckaaGreatDoor
