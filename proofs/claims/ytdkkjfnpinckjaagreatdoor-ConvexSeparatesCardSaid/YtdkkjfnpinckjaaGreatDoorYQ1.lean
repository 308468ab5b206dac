/-
  Contracts of package integer: quotient and remainder of two magnitudes, all sizes. Contracts of package integer: the greatest common divisor. Contracts of package integer and rational: division without remainder.
  Contracts of package rational: the canonical form.
-/
import Derived.Test.YtdkkjfnpinckjaaGreatDoorYDivK
import Derived.Test.YtdkkjfnpinckjaaGreatDoorYMf
set_option linter.unusedSimpArgs false
set_option linter.unusedVariables false
set_option maxRecDepth 100000
namespace Go.Proofs.YtdkkjfnpinckjaaGreatDoor
open Go Go.RowKit Go.Shelf

theorem div_any (a b:Nat) (w:World) (ha:Pl.L a≤67108864) (hb:Pl.L b≤67108864) (h0:b≠0) :
 Calls Tryz.prog 160 #[.string (mg a),.string (mg b)] w fun e w'=>e=.returned (.tuple #[.string (mg (a/b)),.string (mg (a%b))])∧Below w.heap.size w w':=by
 by_cases h:Pl.L a≤8∧Pl.L b≤8
 ·exact div_small a b w h.1 h.2 h0
 have h':8<Pl.L a∨8<Pl.L b:=by omega
 rcases Nat.lt_or_ge a b with hab|hab
 ·exact div_less a b w h' hab
 have hw:1≤Pl.W b:=by have:=Pl.L_pos h0;unfold Pl.W;omega
 by_cases h1:Pl.W b=1
 ·exact div_digit a b w ha hb h' hab h1
 ·exact div_long a b w ha hb h' hab (by omega)
end Go.Proofs.YtdkkjfnpinckjaaGreatDoor

namespace Go.Proofs.YtdkkjfnpinckjaaGreatDoor
open Go Go.RowKit

abbrev nv (n:Nat):Value:=.agg #[.bool false,.string (mg n)]
theorem iv_nat (n:Nat):iv (n:Int)=nv n:=by
 have:ng (n:Int)=false:=by unfold ng;simp
 rw [iv,this];rfl
theorem bel_drewN {B:Nat} {a w:World} (h:Below B a w) (n:Nat):Below B a (w.drewN n):=⟨h.os,h.tape,h.output,h.size,h.block,Nat.le_trans h.drawn (Nat.le_add_right _ _)⟩
def strN (v:Value):Nat:=match v with|.string s=>Pl.valL s.data.toList|_=>0
theorem strN_mg (n:Nat):strN (.string (mg n))=n:=by rw [strN,mg_data,Pl.valL_magL]
def intN (v:Value):Nat:=match v with|.int _ n=>n.toNat|_=>0

structure Res2 (w wr:World) (k:Nat) (x y:Value):Prop where
 c0:wr.cell? ⟨w.heap.size+k,0,none⟩=some x
 c1:wr.cell? ⟨w.heap.size+k,1,none⟩=some y
 f0:wr.frozen? ⟨w.heap.size+k,0,none⟩=false
 f1:wr.frozen? ⟨w.heap.size+k,1,none⟩=false
 b:Below w.heap.size w wr
theorem Res2.up {w wr w1:World} {k:Nat} {x y:Value} (h:Res2 w wr k x y) (hb:Below wr.heap.size wr w1):Res2 w w1 k x y :=
 ⟨Bel.cell h.c0 ⟨w1,hb⟩,Bel.cell h.c1 ⟨w1,hb⟩,Bel.frozen h.c0 h.f0 ⟨w1,hb⟩,Bel.frozen h.c1 h.f1 ⟨w1,hb⟩,bel_up h.b hb⟩

set_option maxHeartbeats 1000000 in
theorem gcd_any (s t:Bool) (a b:Nat) (w:World) (ha:Pl.L a≤67108864) (hb:Pl.L b≤67108864) :
 Calls Tryz.prog 137 #[.agg #[.bool s,.string (mg a)],.agg #[.bool t,.string (mg b)]] w fun e w'=>e=.returned (nv (Nat.gcd a b))∧Below w.heap.size w w':=by
 go_enter Tryz.func137,Tryz.ntmps137;go_wp2_with fail;go_quiet (fail);go_wp2_with fail;go_loopw [5,6] (fun x y wr=>∃ m n:Nat,x=.string (mg m)∧y=.string (mg n)∧Nat.gcd m n=Nat.gcd a b∧Pl.L m≤67108864∧Pl.L n≤67108864∧Res2 w wr 2 (.bool false) (.string ⟨#[]⟩)) (fun _ y _=>strN y)
 case atStart=>exact ⟨a,b,rfl,rfl,rfl,ha,hb,by simp [go_sem],by simp [go_sem],by simp [go_sem],by simp [go_sem],bel_drewN (by repeat (first|with_reducible exact Below.refl _ _|refine Below.drew ?_|refine Below.alloc ?_ (by first|(simp;done)|(simp;omega)|omega) _|refine Below.setCell ?_ (by first|(simp;done)|(simp;omega)|omega) _)) _⟩
 case round =>
  obtain ⟨m,n,rfl,rfl,hg,hm,hn,hr⟩:=hrel;have he:=mg_empty n;have HG:=Lib.hid hg;clear hg
  by_cases h0:n=0
  ·subst h0
   rw [decide_eq_true rfl] at he;have hM:=Lib.hid (fun W=>made_any false m W);have HR:=Lib.hid hr;clear hr;go_wp2_with fail;with_reducible refine (hM.out _).mono ?_
   rintro e w1 ⟨rfl,hb1⟩;obtain ⟨c0,c1,f0,f1,hbl⟩:=HR.out.up hb1;go_wp2;refine bodyPost_ret (v:=.agg #[.bool (false&&decide (m≠0)),.string (mg m)]) (by simp [results,Tryz.results137,go_sem,c0,c1]) rfl ⟨by rw [← HG.out,Nat.gcd_zero_right];rfl,?_⟩;repeat (first|exact hbl|refine Below.setCell ?_ (by first|(simp;done)|(simp;omega)|omega) _)
  ·rw [decide_eq_false h0] at he
   have HR:=Lib.hid hr;clear hr
   by_cases hs:Pl.L m≤8∧Pl.L n≤8
   ·have hW:=Lib.hid (fun W=>words_mg m n W hs.1 hs.2)
    have hm8:=word_of_L hs.1;have hn8:=word_of_L hs.2;clear hs hm hn;go_wp2_with fail;with_reducible refine (hW.out _).mono ?_
    rintro e w1 ⟨rfl,rfl⟩;go_wp2_with fail;go_loopw [7,8] (fun u v wr'=>∃ p q:Nat,u=.int .u64 (p:Int)∧v=.int .u64 (q:Int)∧Nat.gcd p q=Nat.gcd a b∧p<18446744073709551616∧q<18446744073709551616∧Res2 w wr' 2 (.bool false) (.string ⟨#[]⟩)) (fun _ v _=>intN v)
    case atStart=>exact ⟨m,n,rfl,rfl,HG.out,hm8,hn8,HR.out⟩
    case round =>
     obtain ⟨p,q,rfl,rfl,hg,hp,hq,hr⟩:=hrel;have HG2:=Lib.hid hg;have HR2:=Lib.hid hr;clear hg hr
     by_cases hq0:q=0
     ·subst hq0
      have hM:=Lib.hid (fun W=>magnitude_any p W hp);have hD:=Lib.hid (fun W=>made_any false p W);go_wp2_with fail;with_reducible refine (hM.out _).mono ?_
      rintro e w1 ⟨rfl,hb1⟩;have HR3:=Lib.hid (HR2.out.up hb1);go_wp2_with fail;with_reducible refine (hD.out _).mono ?_
      rintro e w2 ⟨rfl,hb2⟩;obtain ⟨c0,c1,f0,f1,hbl⟩:=HR3.out.up hb2;go_wp2;try rw [Exit.noGoto_ret]
      refine bodyPost_ret (v:=.agg #[.bool (false&&decide (p≠0)),.string (mg p)]) (by simp [results,Tryz.results137,go_sem,c0,c1]) rfl ⟨by rw [← HG2.out,Nat.gcd_zero_right];rfl,?_⟩;repeat (first|exact hbl|refine Below.setCell ?_ (by first|(simp;done)|(simp;omega)|omega) _)
     ·have j2:(1:Int)≤q:=by omega
      have j3:((q:Int)==0)=false:=by simp;omega
      have hlt:p%q<q:=Nat.mod_lt _ (Nat.pos_of_ne_zero hq0);have HV:Hid ((p:Int)%q=((p%q:Nat):Int)):=Lib.hid (Int.natCast_emod _ _).symm;go_wp2_with fail;go_quiet (fail);go_wp2;go_roundw
      case rel=>exact ⟨q,p%q,rfl,by rw [HV.out],by rw [← HG2.out,Nat.gcd_comm p q,Nat.gcd_rec q p,Nat.gcd_comm],hq,by omega,HR2.out.c0,HR2.out.c1,HR2.out.f0,HR2.out.f1,bel_drewN HR2.out.b _⟩
      case measure=>simp [intN];omega
   ·have hW:=Lib.hid (fun W=>words_long m n W (by omega))
    have hD:=Lib.hid (fun W=>div_any m n W hm hn h0);clear hs;go_wp2_with fail;with_reducible refine (hW.out _).mono ?_
    rintro e w1 ⟨⟨x,y,rfl⟩,rfl⟩;go_wp2_with fail;with_reducible refine (hD.out _).mono ?_
    rintro e w1 ⟨rfl,hb1⟩;have hlt:m%n<n:=Nat.mod_lt _ (Nat.pos_of_ne_zero h0);have hrm:Pl.L (m%n)≤67108864:=Nat.le_trans (Pl.L_mono (Nat.le_of_lt hlt)) hn;have HR1:=Lib.hid (HR.out.up hb1);clear HR;go_wp2;go_roundw
    case rel=>exact ⟨n,m%n,rfl,rfl,by rw [← HG.out,Nat.gcd_comm m n,Nat.gcd_rec n m,Nat.gcd_comm],hn,hrm,HR1.out⟩
    case measure=>rw [strN_mg,strN_mg];exact hlt
end Go.Proofs.YtdkkjfnpinckjaaGreatDoor

namespace Go.Proofs.YtdkkjfnpinckjaaGreatDoor
open Go Go.RowKit

theorem nat_dvd {a:Int} {g:Nat} (h:(g:Int) ∣ a):a.natAbs%g=0:=by
 have:=Int.natAbs_dvd_natAbs.2 h;rw [Int.natAbs_natCast] at this;exact Nat.mod_eq_zero_of_dvd this
theorem exact_quot {a:Int} {g:Nat} (hg:0<g) (h:(g:Int) ∣ a):(ng a&&decide (a.natAbs/g≠0))=ng (a/g)∧(a/g).natAbs=a.natAbs/g:=by
 obtain ⟨c,rfl⟩:=h;have hg':(g:Int)≠0:=by omega
 rw [Int.mul_ediv_cancel_left _ hg',Int.natAbs_mul,Int.natAbs_natCast,Nat.mul_div_cancel_left _ hg];refine ⟨?_,rfl⟩;unfold ng;rw [Bool.eq_iff_iff];simp only [Bool.and_eq_true,decide_eq_true_eq];constructor
 ·rintro ⟨h1,_⟩
  rcases Int.lt_or_le c 0 with h2|h2
  ·exact h2
  ·have:=Int.mul_nonneg (Int.natCast_nonneg g) h2;omega
 ·intro h1
  exact ⟨Int.mul_neg_of_pos_of_neg (by omega) h1,by omega⟩

theorem idiv_pos (a:Int) (g:Nat) (w:World) (hs:ng a=false) (hg:0<g) (hd:(g:Int) ∣ a) (ha:Pl.L a.natAbs≤67108864) (hb:Pl.L g≤67108864) :
 Calls Tryz.prog 161 #[iv a,nv g] w fun e w'=>e=.returned (.tuple #[iv (a/g),nv 0,.int .i64 0])∧Below w.heap.size w w':=by
 have hz0:=nat_dvd hd;have hdv:=fun W=>div_any a.natAbs g W ha hb (by omega)
 simp only [hz0] at hdv;have K0:=Lib.hid hdv;have hE:=exact_quot hg hd;rw [hs] at hE;have E:=Lib.hid hE;have he:=mg_empty g;rw [decide_eq_false (by omega)] at he;have he0:(mg 0).toList.isEmpty=true:=by rw [mg_empty];rfl
 have hs1:=hs;clear hz0 hdv hE;have K1:=Lib.hid (fun W=>K0.out W);have K2:=Lib.hid (fun W=>made_any false (a.natAbs/g) W);have K3:=Lib.hid (fun W=>made_any false 0 W);clear hs hg hd ha hb;go_enter Tryz.func161,Tryz.ntmps161;go_wp2_with fail;refine calls_named ?_;intro W1 hW1;have c1_0:At W1 w.heap.size 0 [.bool false,.string (mg a.natAbs)]:=by rw [hW1];simp [At,go_sem]
 have c1_1:At W1 (w.heap.size+1) 0 [.bool false,.string (mg g)]:=by rw [hW1];simp [At,go_sem]
 have c1_2:Own W1 (w.heap.size+2) 0 [.bool false,.string ⟨#[]⟩]:=by rw [hW1];simp [Own,go_sem]
 have c1_3:Own W1 (w.heap.size+3) 0 [.bool false,.string ⟨#[]⟩]:=by rw [hW1];simp [Own,go_sem]
 have hB1:Below w.heap.size w W1:=by rw [hW1];exact bB
 clear hW1;have uc1_0:=c1_0;have uc1_1:=c1_1;have uc1_2:=c1_2;have uc1_3:=c1_3;simp only [At,Own,Nat.reduceAdd,and_true] at uc1_0 uc1_1 uc1_2 uc1_3;with_reducible refine (K1.out _).mono ?_
 rintro e w1 ⟨rfl,hb1⟩;have c1_0x:=c1_0.up hb1;have c1_1x:=c1_1.up hb1;have c1_2x:=c1_2.up hb1;have c1_3x:=c1_3.up hb1;have hDw1:Below w.heap.size w w1:=bel_up hB1 hb1;clear uc1_0 uc1_1 uc1_2 uc1_3 c1_0 c1_1 c1_2 c1_3;have uc1_0x:=c1_0x;have uc1_1x:=c1_1x;have uc1_2x:=c1_2x;have uc1_3x:=c1_3x;simp only [At,Own,Nat.reduceAdd,and_true] at uc1_0x uc1_1x uc1_2x uc1_3x
 -- NE
 go_wp2_with fail;refine calls_named ?_;intro W2 hW2;have hL2:Below w1.heap.size w1 W2:=by rw [hW2];exact bB
 have c2_0:=c1_0x.up hL2;have c2_1:=c1_1x.up hL2;have c2_2:=c1_2x.up hL2;have c2_3:=c1_3x.up hL2;have hB2:Below w.heap.size w W2:=by rw [hW2];exact bB
 clear hW2 hL2 uc1_0x uc1_1x uc1_2x uc1_3x c1_0x c1_1x c1_2x c1_3x;have uc2_0:=c2_0;have uc2_1:=c2_1;have uc2_2:=c2_2;have uc2_3:=c2_3;simp only [At,Own,Nat.reduceAdd,and_true] at uc2_0 uc2_1 uc2_2 uc2_3;with_reducible refine (K2.out _).mono ?_
 rintro e w2 ⟨rfl,hb2⟩;have c2_0x:=c2_0.up hb2;have c2_1x:=c2_1.up hb2;have c2_2x:=c2_2.up hb2;have c2_3x:=c2_3.up hb2;have hDw2:Below w.heap.size w w2:=bel_up hB2 hb2;clear uc2_0 uc2_1 uc2_2 uc2_3 c2_0 c2_1 c2_2 c2_3;have uc2_0x:=c2_0x;have uc2_1x:=c2_1x;have uc2_2x:=c2_2x;have uc2_3x:=c2_3x;simp only [At,Own,Nat.reduceAdd,and_true] at uc2_0x uc2_1x uc2_2x uc2_3x
 -- NE
 go_wp2_with fail;refine calls_named ?_;intro W3 hW3;have hL3:Below w2.heap.size w2 W3:=by rw [hW3];exact bB
 have c3_0:=c2_0x.up hL3;have c3_1:=c2_1x.up hL3;have c3_2:=c2_2x.up hL3;have c3_3:=c2_3x.up hL3;have hB3:Below w.heap.size w W3:=by rw [hW3];exact bB
 clear hW3 hL3 uc2_0x uc2_1x uc2_2x uc2_3x c2_0x c2_1x c2_2x c2_3x;have uc3_0:=c3_0;have uc3_1:=c3_1;have uc3_2:=c3_2;have uc3_3:=c3_3;simp only [At,Own,Nat.reduceAdd,and_true] at uc3_0 uc3_1 uc3_2 uc3_3;with_reducible refine (K3.out _).mono ?_
 rintro e w3 ⟨rfl,hb3⟩;have c3_0x:=c3_0.up hb3;have c3_1x:=c3_1.up hb3;have c3_2x:=c3_2.up hb3;have c3_3x:=c3_3.up hb3;have hDw3:Below w.heap.size w w3:=bel_up hB3 hb3;clear uc3_0 uc3_1 uc3_2 uc3_3 c3_0 c3_1 c3_2 c3_3;have uc3_0x:=c3_0x;have uc3_1x:=c3_1x;have uc3_2x:=c3_2x;have uc3_3x:=c3_3x;simp only [At,Own,Nat.reduceAdd,and_true] at uc3_0x uc3_1x uc3_2x uc3_3x
 -- NE
 go_wp2;refine bodyPost_ret (v:=.tuple #[.agg #[.bool (false&&decide (a.natAbs/g≠0)),.string (mg (a.natAbs/g))],.agg #[.bool (false&&decide (0≠0)),.string (mg 0)],.int .i64 0]) (by simp [results,Tryz.results161,go_sem,uc3_2x,uc3_3x]) rfl ⟨by rw [iv,← E.out.1,E.out.2];rfl,?_⟩;exact bB

theorem idiv_neg (a:Int) (g:Nat) (w:World) (hs:ng a=true) (hg:0<g) (hd:(g:Int) ∣ a) (ha:Pl.L a.natAbs≤67108864) (hb:Pl.L g≤67108864) :
 Calls Tryz.prog 161 #[iv a,nv g] w fun e w'=>e=.returned (.tuple #[iv (a/g),nv 0,.int .i64 0])∧Below w.heap.size w w':=by
 have hz0:=nat_dvd hd;have hdv:=fun W=>div_any a.natAbs g W ha hb (by omega)
 simp only [hz0] at hdv;have K0:=Lib.hid hdv;have hE:=exact_quot hg hd;rw [hs] at hE;have E:=Lib.hid hE;have he:=mg_empty g;rw [decide_eq_false (by omega)] at he;have he0:(mg 0).toList.isEmpty=true:=by rw [mg_empty];rfl
 have hs1:=hs;clear hz0 hdv hE;have K1:=Lib.hid (fun W=>K0.out W);have K2:=Lib.hid (fun W=>made_any true (a.natAbs/g) W);have K3:=Lib.hid (fun W=>made_any false 0 W);clear hs hg hd ha hb;go_enter Tryz.func161,Tryz.ntmps161;go_wp2_with fail;refine calls_named ?_;intro W1 hW1;have c1_0:At W1 w.heap.size 0 [.bool true,.string (mg a.natAbs)]:=by rw [hW1];simp [At,go_sem]
 have c1_1:At W1 (w.heap.size+1) 0 [.bool false,.string (mg g)]:=by rw [hW1];simp [At,go_sem]
 have c1_2:Own W1 (w.heap.size+2) 0 [.bool false,.string ⟨#[]⟩]:=by rw [hW1];simp [Own,go_sem]
 have c1_3:Own W1 (w.heap.size+3) 0 [.bool false,.string ⟨#[]⟩]:=by rw [hW1];simp [Own,go_sem]
 have hB1:Below w.heap.size w W1:=by rw [hW1];exact bB
 clear hW1;have uc1_0:=c1_0;have uc1_1:=c1_1;have uc1_2:=c1_2;have uc1_3:=c1_3;simp only [At,Own,Nat.reduceAdd,and_true] at uc1_0 uc1_1 uc1_2 uc1_3;with_reducible refine (K1.out _).mono ?_
 rintro e w1 ⟨rfl,hb1⟩;have c1_0x:=c1_0.up hb1;have c1_1x:=c1_1.up hb1;have c1_2x:=c1_2.up hb1;have c1_3x:=c1_3.up hb1;have hDw1:Below w.heap.size w w1:=bel_up hB1 hb1;clear uc1_0 uc1_1 uc1_2 uc1_3 c1_0 c1_1 c1_2 c1_3;have uc1_0x:=c1_0x;have uc1_1x:=c1_1x;have uc1_2x:=c1_2x;have uc1_3x:=c1_3x;simp only [At,Own,Nat.reduceAdd,and_true] at uc1_0x uc1_1x uc1_2x uc1_3x
 -- NE
 go_wp2_with fail;refine calls_named ?_;intro W2 hW2;have hL2:Below w1.heap.size w1 W2:=by rw [hW2];exact bB
 have c2_0:=c1_0x.up hL2;have c2_1:=c1_1x.up hL2;have c2_2:=c1_2x.up hL2;have c2_3:=c1_3x.up hL2;have hB2:Below w.heap.size w W2:=by rw [hW2];exact bB
 clear hW2 hL2 uc1_0x uc1_1x uc1_2x uc1_3x c1_0x c1_1x c1_2x c1_3x;have uc2_0:=c2_0;have uc2_1:=c2_1;have uc2_2:=c2_2;have uc2_3:=c2_3;simp only [At,Own,Nat.reduceAdd,and_true] at uc2_0 uc2_1 uc2_2 uc2_3;with_reducible refine (K2.out _).mono ?_
 rintro e w2 ⟨rfl,hb2⟩;have c2_0x:=c2_0.up hb2;have c2_1x:=c2_1.up hb2;have c2_2x:=c2_2.up hb2;have c2_3x:=c2_3.up hb2;have hDw2:Below w.heap.size w w2:=bel_up hB2 hb2;clear uc2_0 uc2_1 uc2_2 uc2_3 c2_0 c2_1 c2_2 c2_3;have uc2_0x:=c2_0x;have uc2_1x:=c2_1x;have uc2_2x:=c2_2x;have uc2_3x:=c2_3x;simp only [At,Own,Nat.reduceAdd,and_true] at uc2_0x uc2_1x uc2_2x uc2_3x
 -- NE
 go_wp2_with fail;refine calls_named ?_;intro W3 hW3;have hL3:Below w2.heap.size w2 W3:=by rw [hW3];exact bB
 have c3_0:=c2_0x.up hL3;have c3_1:=c2_1x.up hL3;have c3_2:=c2_2x.up hL3;have c3_3:=c2_3x.up hL3;have hB3:Below w.heap.size w W3:=by rw [hW3];exact bB
 clear hW3 hL3 uc2_0x uc2_1x uc2_2x uc2_3x c2_0x c2_1x c2_2x c2_3x;have uc3_0:=c3_0;have uc3_1:=c3_1;have uc3_2:=c3_2;have uc3_3:=c3_3;simp only [At,Own,Nat.reduceAdd,and_true] at uc3_0 uc3_1 uc3_2 uc3_3;with_reducible refine (K3.out _).mono ?_
 rintro e w3 ⟨rfl,hb3⟩;have c3_0x:=c3_0.up hb3;have c3_1x:=c3_1.up hb3;have c3_2x:=c3_2.up hb3;have c3_3x:=c3_3.up hb3;have hDw3:Below w.heap.size w w3:=bel_up hB3 hb3;clear uc3_0 uc3_1 uc3_2 uc3_3 c3_0 c3_1 c3_2 c3_3;have uc3_0x:=c3_0x;have uc3_1x:=c3_1x;have uc3_2x:=c3_2x;have uc3_3x:=c3_3x;simp only [At,Own,Nat.reduceAdd,and_true] at uc3_0x uc3_1x uc3_2x uc3_3x
 -- NE
 go_wp2;refine bodyPost_ret (v:=.tuple #[.agg #[.bool (true&&decide (a.natAbs/g≠0)),.string (mg (a.natAbs/g))],.agg #[.bool (false&&decide (0≠0)),.string (mg 0)],.int .i64 0]) (by simp [results,Tryz.results161,go_sem,uc3_2x,uc3_3x]) rfl ⟨by rw [iv,← E.out.1,E.out.2];rfl,?_⟩;exact bB

theorem idiv_any (a:Int) (g:Nat) (w:World) (hg:0<g) (hd:(g:Int) ∣ a) (ha:Pl.L a.natAbs≤67108864) (hb:Pl.L g≤67108864) :
 Calls Tryz.prog 161 #[iv a,nv g] w fun e w'=>e=.returned (.tuple #[iv (a/g),nv 0,.int .i64 0])∧Below w.heap.size w w':=by
 rcases hs:ng a
 ·exact idiv_pos a g w hs hg hd ha hb
 ·exact idiv_neg a g w hs hg hd ha hb

theorem quot_any (a:Int) (g:Nat) (w:World) (hg:0<g) (hd:(g:Int) ∣ a) (ha:Pl.L a.natAbs≤67108864) (hb:Pl.L g≤67108864) :
 Calls Tryz.prog 138 #[iv a,nv g] w fun e w'=>e=.returned (iv (a/g))∧Below w.heap.size w w':=by
 have K1:=Lib.hid (fun W=>idiv_any a g W hg hd ha hb);clear hg hd ha hb;go_enter Tryz.func138,Tryz.ntmps138;go_wp2_with fail;refine calls_named ?_;intro W1 hW1;have c1_0:At W1 w.heap.size 0 [.bool (ng a),.string (mg a.natAbs)]:=by rw [hW1];simp [At,go_sem]
 have c1_1:At W1 (w.heap.size+1) 0 [.bool false,.string (mg g)]:=by rw [hW1];simp [At,go_sem]
 have c1_2:Own W1 (w.heap.size+2) 0 [.bool false,.string ⟨#[]⟩]:=by rw [hW1];simp [Own,go_sem]
 have hB1:Below w.heap.size w W1:=by rw [hW1];exact bB
 clear hW1;have uc1_0:=c1_0;have uc1_1:=c1_1;have uc1_2:=c1_2;simp only [At,Own,Nat.reduceAdd,and_true] at uc1_0 uc1_1 uc1_2;with_reducible refine (K1.out _).mono ?_
 rintro e w1 ⟨rfl,hb1⟩;have c1_0x:=c1_0.up hb1;have c1_1x:=c1_1.up hb1;have c1_2x:=c1_2.up hb1;have hDw1:Below w.heap.size w w1:=bel_up hB1 hb1;clear uc1_0 uc1_1 uc1_2 c1_0 c1_1 c1_2;have uc1_0x:=c1_0x;have uc1_1x:=c1_1x;have uc1_2x:=c1_2x;simp only [At,Own,Nat.reduceAdd,and_true] at uc1_0x uc1_1x uc1_2x
 -- NE
 have nc1_0x_0_:w.heap.size<w1.heap.size:=by have:=c1_0x.lt;omega
 have nc1_0x_0:=Nat.ne_of_lt nc1_0x_0_;have nc1_0x_0':=nc1_0x_0.symm;have nc1_1x_0_:w.heap.size+1<w1.heap.size:=by have:=c1_1x.lt;omega
 have nc1_1x_0:=Nat.ne_of_lt nc1_1x_0_;have nc1_1x_0':=nc1_1x_0.symm;have nc1_2x_0_:w.heap.size+2<w1.heap.size:=by have:=c1_2x.lt;omega
 have nc1_2x_0:=Nat.ne_of_lt nc1_2x_0_;have nc1_2x_0':=nc1_2x_0.symm;have nc1_0x_1_:w.heap.size<w1.heap.size+1:=by have:=c1_0x.lt;omega
 have nc1_0x_1:=Nat.ne_of_lt nc1_0x_1_;have nc1_0x_1':=nc1_0x_1.symm;have nc1_1x_1_:w.heap.size+1<w1.heap.size+1:=by have:=c1_1x.lt;omega
 have nc1_1x_1:=Nat.ne_of_lt nc1_1x_1_;have nc1_1x_1':=nc1_1x_1.symm;have nc1_2x_1_:w.heap.size+2<w1.heap.size+1:=by have:=c1_2x.lt;omega
 have nc1_2x_1:=Nat.ne_of_lt nc1_2x_1_;have nc1_2x_1':=nc1_2x_1.symm;go_wp2;refine bodyPost_ret (v:=.agg #[.bool (ng (a/g)),.string (mg (a/g).natAbs)]) (by simp [results,Tryz.results138,go_sem,uc1_2x,nc1_0x_0,nc1_0x_0',nc1_0x_0_,nc1_1x_0,nc1_1x_0',nc1_1x_0_,nc1_2x_0,nc1_2x_0',nc1_2x_0_,nc1_0x_1,nc1_0x_1',nc1_0x_1_,nc1_1x_1,nc1_1x_1',nc1_1x_1_,nc1_2x_1,nc1_2x_1',nc1_2x_1_]) rfl ⟨rfl,?_⟩;exact bB

theorem quot_nat (a g:Nat) (w:World) (hg:0<g) (hd:g ∣ a) (ha:Pl.L a≤67108864) (hb:Pl.L g≤67108864) :
 Calls Tryz.prog 138 #[nv a,nv g] w fun e w'=>e=.returned (nv (a/g))∧Below w.heap.size w w':=by
 have h:=quot_any (a:Int) g w hg (Int.natCast_dvd_natCast.2 hd) (by rw [Int.natAbs_natCast];exact ha) hb;rw [iv_nat,← Int.natCast_ediv,iv_nat] at h;exact h

theorem one_any  (w:World) :
 Calls Tryz.prog 139 #[] w fun e w'=>e=.returned (nv 1)∧Below w.heap.size w w':=by
 have K1:=Lib.hid (fun W=>fromInt_any 1 W (by omega) (by omega));go_enter Tryz.func139,Tryz.ntmps139;go_wp2_with fail;refine calls_named ?_;intro W1 hW1;have c1_0:Own W1 w.heap.size 0 [.bool false,.string ⟨#[]⟩]:=by rw [hW1];simp [Own,go_sem]
 have hB1:Below w.heap.size w W1:=by rw [hW1];exact bB
 clear hW1;have uc1_0:=c1_0;simp only [At,Own,Nat.reduceAdd,and_true] at uc1_0;with_reducible refine (K1.out _).mono ?_
 rintro e w1 ⟨rfl,hb1⟩;have c1_0x:=c1_0.up hb1;have hDw1:Below w.heap.size w w1:=bel_up hB1 hb1;clear uc1_0 c1_0;have uc1_0x:=c1_0x;simp only [At,Own,Nat.reduceAdd,and_true] at uc1_0x
 -- NE
 go_wp2;refine bodyPost_ret (v:=.agg #[.bool (ng (1:Int)),.string (mg (1:Int).natAbs)]) (by simp [results,Tryz.results139,go_sem,uc1_0x]) rfl ⟨congrArg Ending.returned (iv_nat 1),?_⟩;exact bB
end Go.Proofs.YtdkkjfnpinckjaaGreatDoor
set_option maxRecDepth 100000
namespace Go.Proofs.YtdkkjfnpinckjaaGreatDoor
open Go Go.RowKit

abbrev qv (q:Rat):Value:=.agg #[.bool (ng q.num),.string (mg q.num.natAbs),.bool false,.string (mg (dn q))]
theorem sign_nat (n:Nat) (w:World):Calls Tryz.prog 116 #[nv n] w fun e w'=>e=.returned (.int .i64 (n:Int).sign)∧Below w.heap.size w w':=by
 have h:=sign_any (n:Int) w;rw [iv_nat] at h;exact h
theorem gcd_in (n:Int) (d:Nat) (w:World) (ha:Pl.L n.natAbs≤67108864) (hb:Pl.L d≤67108864) :
 Calls Tryz.prog 137 #[iv n,nv d] w fun e w'=>e=.returned (nv (Nat.gcd n.natAbs d))∧Below w.heap.size w w':=gcd_any _ _ _ _ w ha hb
theorem canon_parts (n:Int) (d:Nat) (hd:d≠0):(mkRat n d).num=n/(Nat.gcd n.natAbs d:Nat)∧(mkRat n d).den=d/Nat.gcd n.natAbs d:=by
 rw [Rat.num_mkRat,Rat.den_mkRat,if_neg hd,if_neg hd,Nat.gcd_comm d];exact ⟨rfl,rfl⟩
theorem mg_toList (n:Nat):(mg n).toList=Pl.magL n:=by rw [← mg_data];exact ByteArray.toList_eq _
theorem mg_beq (m n:Nat):((mg m).toList==(mg n).toList)=decide (m=n):=by
 rw [mg_toList,mg_toList,Bool.eq_iff_iff];simp only [beq_iff_eq,decide_eq_true_eq];exact ⟨fun h=>Pl.magL_inj h,fun h=>by rw [h]⟩
theorem eqI_in (s t:Bool) (m n:Nat) (w:World):(Op.equalIn 10000 31 (.agg #[.bool s,.string (mg m)]) (.agg #[.bool t,.string (mg n)])).run Tryz.prog w=.ok (s==t&&decide (m=n)) w:=by
 have ub:=Tryz.underlying4;have us:=Tryz.underlying9;have ab:=Tryz.isAgg4;have zb:=Tryz.sizeOf4;have ag:=Tryz.isAgg9;have zs:=Tryz.sizeOf9;have hS:Tryz.prog.underlying 31 = some (.struct (Tryz.prog.fieldsOf 31)):=by kernel_rfl
 have hp:Tryz.prog.stoodInHeld 31 = false:=by kernel_rfl
 rw [show (10000:Nat)=9999+1 from rfl,run_equalIn_agg w 9999 31 _ _ hS hp];simp only [Program.fieldsOf,Tryz.underlying31];go_simp;have hm:=mg_beq m n
 by_cases h1:s=t<;>by_cases h2:m=n<;>simp_all

abbrev mv (n:Nat):Value:=.agg #[.bool true,.string (mg n)]
theorem iv_minus (n:Nat) (h:n≠0):iv (-(n:Int))=mv n:=by
 have:ng (-(n:Int))=true:=by unfold ng;simp;omega
 rw [iv,this,Int.natAbs_neg];rfl
theorem sign_minus (n:Nat) (h:n≠0) (w:World):Calls Tryz.prog 116 #[mv n] w fun e w'=>e=.returned (.int .i64 (-1))∧Below w.heap.size w w':=by
 have h1:=sign_any (-(n:Int)) w;rw [iv_minus n h,Int.sign_eq_neg_one_of_neg (by omega)] at h1;exact h1
theorem negate_minus (n:Nat) (h:n≠0) (w:World):Calls Tryz.prog 122 #[mv n] w fun e w'=>e=.returned (nv n)∧Below w.heap.size w w':=by
 have h1:=negate_any (-(n:Int)) w;rw [iv_minus n h,Int.neg_neg,iv_nat] at h1;exact h1

set_option maxHeartbeats 1000000 in
theorem canon_one (n:Int) (d:Nat) (w:World) (N:Int) (M:Nat) (hd:d≠0) (ha:Pl.L n.natAbs≤67108864) (hb:Pl.L d≤67108864) (hN:n/(Nat.gcd n.natAbs d:Nat)=N) (hM:d/Nat.gcd n.natAbs d=M) (hm :  d/Nat.gcd n.natAbs d=1) :
 Calls Tryz.prog 119 #[iv n,nv d] w fun e w'=>e=.returned (.agg #[.bool (ng N),.string (mg N.natAbs),.bool false,.string ⟨#[]⟩])∧Below w.heap.size w w':=by
 have hg:0<Nat.gcd n.natAbs d:=Nat.gcd_pos_of_pos_right _ (Nat.pos_of_ne_zero hd);have hgl:Pl.L (Nat.gcd n.natAbs d)≤67108864:=Nat.le_trans (Pl.L_mono (Nat.le_of_dvd (Nat.pos_of_ne_zero hd) (Nat.gcd_dvd_right _ _))) hb;have hsd:¬ (d:Int).sign<0:=by rw [Int.sign_eq_one_of_pos (by omega)];decide
 have k1:=fun W=>gcd_in n d W ha hb
 have k2:=fun W=>quot_any n (Nat.gcd n.natAbs d) W hg (Int.ofNat_dvd_left.2 (Nat.gcd_dvd_left _ _)) ha hgl
 have k3:=fun W=>quot_nat d (Nat.gcd n.natAbs d) W hg (Nat.gcd_dvd_right _ _) hb hgl
 have k4:=one_any;have EQ:=fun W=>eqI_in false false (d/Nat.gcd n.natAbs d) 1 W
 rw [decide_eq_true hm] at EQ;rw [hN] at k2;rw [hM] at k3 EQ;simp only [beq_self_eq_true,Bool.true_and] at EQ;generalize Nat.gcd n.natAbs d=G at k1 k2 k3;generalize (1:Nat)=U at k4 EQ;have KG:=Lib.hid k1;have KN:=Lib.hid k2;have KM:=Lib.hid k3;have KO:=Lib.hid k4;clear hm hN hM k1 k2 k3 k4 hg hgl ha hb hd;have K1:=Lib.hid (fun W=>sign_nat d W);have K2:=Lib.hid (fun W=>KG.out W);have K3:=Lib.hid (fun W=>KN.out W);have K4:=Lib.hid (fun W=>KM.out W);have K5:=Lib.hid (fun W=>KO.out W);go_enter Tryz.func119,Tryz.ntmps119;go_wp2_with fail;refine calls_named ?_;intro W1 hW1;have c1_0:Own W1 w.heap.size 0 [.bool (ng n),.string (mg n.natAbs)]:=by rw [hW1];simp [Own,go_sem]
 have c1_1:Own W1 (w.heap.size+1) 0 [.bool false,.string (mg d)]:=by rw [hW1];simp [Own,go_sem]
 have c1_2:Own W1 (w.heap.size+2) 0 [.bool false,.string ⟨#[]⟩,.bool false,.string ⟨#[]⟩]:=by rw [hW1];simp [Own,go_sem]
 have hB1:Below w.heap.size w W1:=by rw [hW1];exact bB
 clear hW1;have uc1_0:=c1_0;have uc1_1:=c1_1;have uc1_2:=c1_2;simp only [At,Own,Nat.reduceAdd,and_true] at uc1_0 uc1_1 uc1_2;with_reducible refine (K1.out _).mono ?_
 rintro e w1 ⟨rfl,hb1⟩;have c1_0x:=c1_0.up hb1;have c1_1x:=c1_1.up hb1;have c1_2x:=c1_2.up hb1;have hDw1:Below w.heap.size w w1:=bel_up hB1 hb1;clear uc1_0 uc1_1 uc1_2 c1_0 c1_1 c1_2;have uc1_0x:=c1_0x;have uc1_1x:=c1_1x;have uc1_2x:=c1_2x;simp only [At,Own,Nat.reduceAdd,and_true] at uc1_0x uc1_1x uc1_2x
 -- NE
 go_wp2_with fail;refine calls_named ?_;intro W2 hW2;have hL2:Below w1.heap.size w1 W2:=by rw [hW2];exact bB
 have c2_0:=c1_0x.up hL2;have c2_1:=c1_1x.up hL2;have c2_2:=c1_2x.up hL2;have hB2:Below w.heap.size w W2:=by rw [hW2];exact bB
 clear hW2 hL2 uc1_0x uc1_1x uc1_2x c1_0x c1_1x c1_2x;have uc2_0:=c2_0;have uc2_1:=c2_1;have uc2_2:=c2_2;simp only [At,Own,Nat.reduceAdd,and_true] at uc2_0 uc2_1 uc2_2;with_reducible refine (K2.out _).mono ?_
 rintro e w2 ⟨rfl,hb2⟩;have c2_0x:=c2_0.up hb2;have c2_1x:=c2_1.up hb2;have c2_2x:=c2_2.up hb2;have hDw2:Below w.heap.size w w2:=bel_up hB2 hb2;clear uc2_0 uc2_1 uc2_2 c2_0 c2_1 c2_2;have uc2_0x:=c2_0x;have uc2_1x:=c2_1x;have uc2_2x:=c2_2x;simp only [At,Own,Nat.reduceAdd,and_true] at uc2_0x uc2_1x uc2_2x
 -- NE
 have nc2_0x_0_:w.heap.size<w2.heap.size:=by have:=c2_0x.lt;omega
 have nc2_0x_0:=Nat.ne_of_lt nc2_0x_0_;have nc2_0x_0':=nc2_0x_0.symm;have nc2_1x_0_:w.heap.size+1<w2.heap.size:=by have:=c2_1x.lt;omega
 have nc2_1x_0:=Nat.ne_of_lt nc2_1x_0_;have nc2_1x_0':=nc2_1x_0.symm;have nc2_2x_0_:w.heap.size+2<w2.heap.size:=by have:=c2_2x.lt;omega
 have nc2_2x_0:=Nat.ne_of_lt nc2_2x_0_;have nc2_2x_0':=nc2_2x_0.symm;go_wp2_with fail;refine wp_named ?_;intro W3 hW3;have hL3:Below w2.heap.size w2 W3:=by rw [hW3];exact bB
 have c3_0:=c2_0x.up hL3;have c3_1:=c2_1x.up hL3;have c3_2:=c2_2x.up hL3;have c3_3:Own W3 w2.heap.size 0 [.bool false,.string (mg G)]:=by rw [hW3];simp [Own,go_sem,uc2_0x,uc2_1x,uc2_2x,nc2_0x_0,nc2_0x_0',nc2_0x_0_,nc2_1x_0,nc2_1x_0',nc2_1x_0_,nc2_2x_0,nc2_2x_0',nc2_2x_0_]
 have hB3:Below w.heap.size w W3:=by rw [hW3];exact bB
 clear hW3 hL3 uc2_0x uc2_1x uc2_2x c2_0x c2_1x c2_2x;have dc3_0:=fun p:Bel W3=>c3_0.bel p;have dc3_1:=fun p:Bel W3=>c3_1.bel p;have dc3_2:=fun p:Bel W3=>c3_2.bel p;have dc3_3:=fun p:Bel W3=>c3_3.bel p
 simp only [At,Own,Nat.reduceAdd,and_true] at dc3_0 dc3_1 dc3_2 dc3_3;refine wp_region_tail 6 (by kernel_rfl) (by kernel_rfl) ?_;simp only [List.take_succ_cons,List.take_zero,List.drop_succ_cons,List.drop_zero];repeat (go_big_quiet_step (first|(go_at_call 138;with_reducible exact Calls.bel (K3.out _))|(go_at_call 138;with_reducible exact Calls.bel (K4.out _))))
 refine wpQuiet_nil ?_;intro w3 hb3;have c3_0x:=c3_0.up hb3;have c3_1x:=c3_1.up hb3;have c3_2x:=c3_2.up hb3;have c3_3x:=c3_3.up hb3;clear dc3_0 dc3_1 dc3_2 dc3_3 c3_0 c3_1 c3_2 c3_3;have hD3:Below w.heap.size w w3:=bel_up hB3 hb3;have uc3_0x:=c3_0x;have uc3_1x:=c3_1x;have uc3_2x:=c3_2x;have uc3_3x:=c3_3x;simp only [At,Own,Nat.reduceAdd,and_true] at uc3_0x uc3_1x uc3_2x uc3_3x
 -- NE
 go_wp2_with fail;refine wp_named ?_;intro W4 hW4;have c4_0:Own W4 w.heap.size 0 [.bool (ng N),.string (mg N.natAbs)]:=by rw [hW4];simp [Own,go_sem,uc3_0x,uc3_1x,uc3_2x,uc3_3x]
 have c4_1:Own W4 (w.heap.size+1) 0 [.bool false,.string (mg M)]:=by rw [hW4];simp [Own,go_sem,uc3_0x,uc3_1x,uc3_2x,uc3_3x]
 have c4_2:Own W4 (w.heap.size+2) 0 [.bool false,.string ⟨#[]⟩,.bool false,.string ⟨#[]⟩]:=by rw [hW4];simp [Own,go_sem,uc3_0x,uc3_1x,uc3_2x,uc3_3x]
 have c4_3:Own W4 w2.heap.size 0 [.bool false,.string (mg G)]:=by rw [hW4];simp [Own,go_sem,uc3_0x,uc3_1x,uc3_2x,uc3_3x]
 have hB4:Below w.heap.size w W4:=by rw [hW4];exact bB
 clear hW4 uc3_0x uc3_1x uc3_2x uc3_3x c3_0x c3_1x c3_2x c3_3x;have dc4_0:=fun p:Bel W4=>c4_0.bel p;have dc4_1:=fun p:Bel W4=>c4_1.bel p;have dc4_2:=fun p:Bel W4=>c4_2.bel p;have dc4_3:=fun p:Bel W4=>c4_3.bel p
 simp only [At,Own,Nat.reduceAdd,and_true] at dc4_0 dc4_1 dc4_2 dc4_3;refine wp_region_all (by kernel_rfl) (by kernel_rfl) ?_;repeat (go_big_quiet_step (first|(go_at_call 139;with_reducible exact Calls.bel (K5.out _))))
 refine wpQuiet_nil ?_;intro w4 hb4;have c4_0x:=c4_0.up hb4;have c4_1x:=c4_1.up hb4;have c4_2x:=c4_2.up hb4;have c4_3x:=c4_3.up hb4;clear dc4_0 dc4_1 dc4_2 dc4_3 c4_0 c4_1 c4_2 c4_3;have hD4:Below w.heap.size w w4:=bel_up hB4 hb4;have uc4_0x:=c4_0x;have uc4_1x:=c4_1x;have uc4_2x:=c4_2x;have uc4_3x:=c4_3x;simp only [At,Own,Nat.reduceAdd,and_true] at uc4_0x uc4_1x uc4_2x uc4_3x
 -- NE
 go_wp2;refine bodyPost_ret (v:=.agg #[.bool (ng N),.string (mg N.natAbs),.bool false,.string ⟨#[]⟩]) (by simp [results,Tryz.results119,go_sem,uc4_2x]) rfl ⟨rfl,?_⟩;exact bB

set_option maxHeartbeats 1000000 in
theorem canon_more (n:Int) (d:Nat) (w:World) (N:Int) (M:Nat) (hd:d≠0) (ha:Pl.L n.natAbs≤67108864) (hb:Pl.L d≤67108864) (hN:n/(Nat.gcd n.natAbs d:Nat)=N) (hM:d/Nat.gcd n.natAbs d=M) (hm:¬ d/Nat.gcd n.natAbs d=1) :
 Calls Tryz.prog 119 #[iv n,nv d] w fun e w'=>e=.returned (.agg #[.bool (ng N),.string (mg N.natAbs),.bool false,.string (mg M)])∧Below w.heap.size w w':=by
 have hg:0<Nat.gcd n.natAbs d:=Nat.gcd_pos_of_pos_right _ (Nat.pos_of_ne_zero hd);have hgl:Pl.L (Nat.gcd n.natAbs d)≤67108864:=Nat.le_trans (Pl.L_mono (Nat.le_of_dvd (Nat.pos_of_ne_zero hd) (Nat.gcd_dvd_right _ _))) hb;have hsd:¬ (d:Int).sign<0:=by rw [Int.sign_eq_one_of_pos (by omega)];decide
 have k1:=fun W=>gcd_in n d W ha hb
 have k2:=fun W=>quot_any n (Nat.gcd n.natAbs d) W hg (Int.ofNat_dvd_left.2 (Nat.gcd_dvd_left _ _)) ha hgl
 have k3:=fun W=>quot_nat d (Nat.gcd n.natAbs d) W hg (Nat.gcd_dvd_right _ _) hb hgl
 have k4:=one_any;have EQ:=fun W=>eqI_in false false (d/Nat.gcd n.natAbs d) 1 W
 rw [decide_eq_false hm] at EQ;rw [hN] at k2;rw [hM] at k3 EQ;simp only [beq_self_eq_true,Bool.true_and] at EQ;generalize Nat.gcd n.natAbs d=G at k1 k2 k3;generalize (1:Nat)=U at k4 EQ;have KG:=Lib.hid k1;have KN:=Lib.hid k2;have KM:=Lib.hid k3;have KO:=Lib.hid k4;clear hm hN hM k1 k2 k3 k4 hg hgl ha hb hd;have K1:=Lib.hid (fun W=>sign_nat d W);have K2:=Lib.hid (fun W=>KG.out W);have K3:=Lib.hid (fun W=>KN.out W);have K4:=Lib.hid (fun W=>KM.out W);have K5:=Lib.hid (fun W=>KO.out W);go_enter Tryz.func119,Tryz.ntmps119;go_wp2_with fail;refine calls_named ?_;intro W1 hW1;have c1_0:Own W1 w.heap.size 0 [.bool (ng n),.string (mg n.natAbs)]:=by rw [hW1];simp [Own,go_sem]
 have c1_1:Own W1 (w.heap.size+1) 0 [.bool false,.string (mg d)]:=by rw [hW1];simp [Own,go_sem]
 have c1_2:Own W1 (w.heap.size+2) 0 [.bool false,.string ⟨#[]⟩,.bool false,.string ⟨#[]⟩]:=by rw [hW1];simp [Own,go_sem]
 have hB1:Below w.heap.size w W1:=by rw [hW1];exact bB
 clear hW1;have uc1_0:=c1_0;have uc1_1:=c1_1;have uc1_2:=c1_2;simp only [At,Own,Nat.reduceAdd,and_true] at uc1_0 uc1_1 uc1_2;with_reducible refine (K1.out _).mono ?_
 rintro e w1 ⟨rfl,hb1⟩;have c1_0x:=c1_0.up hb1;have c1_1x:=c1_1.up hb1;have c1_2x:=c1_2.up hb1;have hDw1:Below w.heap.size w w1:=bel_up hB1 hb1;clear uc1_0 uc1_1 uc1_2 c1_0 c1_1 c1_2;have uc1_0x:=c1_0x;have uc1_1x:=c1_1x;have uc1_2x:=c1_2x;simp only [At,Own,Nat.reduceAdd,and_true] at uc1_0x uc1_1x uc1_2x
 -- NE
 go_wp2_with fail;refine calls_named ?_;intro W2 hW2;have hL2:Below w1.heap.size w1 W2:=by rw [hW2];exact bB
 have c2_0:=c1_0x.up hL2;have c2_1:=c1_1x.up hL2;have c2_2:=c1_2x.up hL2;have hB2:Below w.heap.size w W2:=by rw [hW2];exact bB
 clear hW2 hL2 uc1_0x uc1_1x uc1_2x c1_0x c1_1x c1_2x;have uc2_0:=c2_0;have uc2_1:=c2_1;have uc2_2:=c2_2;simp only [At,Own,Nat.reduceAdd,and_true] at uc2_0 uc2_1 uc2_2;with_reducible refine (K2.out _).mono ?_
 rintro e w2 ⟨rfl,hb2⟩;have c2_0x:=c2_0.up hb2;have c2_1x:=c2_1.up hb2;have c2_2x:=c2_2.up hb2;have hDw2:Below w.heap.size w w2:=bel_up hB2 hb2;clear uc2_0 uc2_1 uc2_2 c2_0 c2_1 c2_2;have uc2_0x:=c2_0x;have uc2_1x:=c2_1x;have uc2_2x:=c2_2x;simp only [At,Own,Nat.reduceAdd,and_true] at uc2_0x uc2_1x uc2_2x
 -- NE
 have nc2_0x_0_:w.heap.size<w2.heap.size:=by have:=c2_0x.lt;omega
 have nc2_0x_0:=Nat.ne_of_lt nc2_0x_0_;have nc2_0x_0':=nc2_0x_0.symm;have nc2_1x_0_:w.heap.size+1<w2.heap.size:=by have:=c2_1x.lt;omega
 have nc2_1x_0:=Nat.ne_of_lt nc2_1x_0_;have nc2_1x_0':=nc2_1x_0.symm;have nc2_2x_0_:w.heap.size+2<w2.heap.size:=by have:=c2_2x.lt;omega
 have nc2_2x_0:=Nat.ne_of_lt nc2_2x_0_;have nc2_2x_0':=nc2_2x_0.symm;go_wp2_with fail;refine wp_named ?_;intro W3 hW3;have hL3:Below w2.heap.size w2 W3:=by rw [hW3];exact bB
 have c3_0:=c2_0x.up hL3;have c3_1:=c2_1x.up hL3;have c3_2:=c2_2x.up hL3;have c3_3:Own W3 w2.heap.size 0 [.bool false,.string (mg G)]:=by rw [hW3];simp [Own,go_sem,uc2_0x,uc2_1x,uc2_2x,nc2_0x_0,nc2_0x_0',nc2_0x_0_,nc2_1x_0,nc2_1x_0',nc2_1x_0_,nc2_2x_0,nc2_2x_0',nc2_2x_0_]
 have hB3:Below w.heap.size w W3:=by rw [hW3];exact bB
 clear hW3 hL3 uc2_0x uc2_1x uc2_2x c2_0x c2_1x c2_2x;have dc3_0:=fun p:Bel W3=>c3_0.bel p;have dc3_1:=fun p:Bel W3=>c3_1.bel p;have dc3_2:=fun p:Bel W3=>c3_2.bel p;have dc3_3:=fun p:Bel W3=>c3_3.bel p
 simp only [At,Own,Nat.reduceAdd,and_true] at dc3_0 dc3_1 dc3_2 dc3_3;refine wp_region_tail 6 (by kernel_rfl) (by kernel_rfl) ?_;simp only [List.take_succ_cons,List.take_zero,List.drop_succ_cons,List.drop_zero];repeat (go_big_quiet_step (first|(go_at_call 138;with_reducible exact Calls.bel (K3.out _))|(go_at_call 138;with_reducible exact Calls.bel (K4.out _))))
 refine wpQuiet_nil ?_;intro w3 hb3;have c3_0x:=c3_0.up hb3;have c3_1x:=c3_1.up hb3;have c3_2x:=c3_2.up hb3;have c3_3x:=c3_3.up hb3;clear dc3_0 dc3_1 dc3_2 dc3_3 c3_0 c3_1 c3_2 c3_3;have hD3:Below w.heap.size w w3:=bel_up hB3 hb3;have uc3_0x:=c3_0x;have uc3_1x:=c3_1x;have uc3_2x:=c3_2x;have uc3_3x:=c3_3x;simp only [At,Own,Nat.reduceAdd,and_true] at uc3_0x uc3_1x uc3_2x uc3_3x
 -- NE
 go_wp2_with fail;refine wp_named ?_;intro W4 hW4;have c4_0:Own W4 w.heap.size 0 [.bool (ng N),.string (mg N.natAbs)]:=by rw [hW4];simp [Own,go_sem,uc3_0x,uc3_1x,uc3_2x,uc3_3x]
 have c4_1:Own W4 (w.heap.size+1) 0 [.bool false,.string (mg M)]:=by rw [hW4];simp [Own,go_sem,uc3_0x,uc3_1x,uc3_2x,uc3_3x]
 have c4_2:Own W4 (w.heap.size+2) 0 [.bool false,.string ⟨#[]⟩,.bool false,.string ⟨#[]⟩]:=by rw [hW4];simp [Own,go_sem,uc3_0x,uc3_1x,uc3_2x,uc3_3x]
 have c4_3:Own W4 w2.heap.size 0 [.bool false,.string (mg G)]:=by rw [hW4];simp [Own,go_sem,uc3_0x,uc3_1x,uc3_2x,uc3_3x]
 have hB4:Below w.heap.size w W4:=by rw [hW4];exact bB
 clear hW4 uc3_0x uc3_1x uc3_2x uc3_3x c3_0x c3_1x c3_2x c3_3x;have dc4_0:=fun p:Bel W4=>c4_0.bel p;have dc4_1:=fun p:Bel W4=>c4_1.bel p;have dc4_2:=fun p:Bel W4=>c4_2.bel p;have dc4_3:=fun p:Bel W4=>c4_3.bel p
 simp only [At,Own,Nat.reduceAdd,and_true] at dc4_0 dc4_1 dc4_2 dc4_3;refine wp_region_all (by kernel_rfl) (by kernel_rfl) ?_;repeat (go_big_quiet_step (first|(go_at_call 139;with_reducible exact Calls.bel (K5.out _))))
 refine wpQuiet_nil ?_;intro w4 hb4;have c4_0x:=c4_0.up hb4;have c4_1x:=c4_1.up hb4;have c4_2x:=c4_2.up hb4;have c4_3x:=c4_3.up hb4;clear dc4_0 dc4_1 dc4_2 dc4_3 c4_0 c4_1 c4_2 c4_3;have hD4:Below w.heap.size w w4:=bel_up hB4 hb4;have uc4_0x:=c4_0x;have uc4_1x:=c4_1x;have uc4_2x:=c4_2x;have uc4_3x:=c4_3x;simp only [At,Own,Nat.reduceAdd,and_true] at uc4_0x uc4_1x uc4_2x uc4_3x
 -- NE
 go_wp2;refine bodyPost_ret (v:=.agg #[.bool (ng N),.string (mg N.natAbs),.bool false,.string (mg M)]) (by simp [results,Tryz.results119,go_sem,uc4_2x]) rfl ⟨rfl,?_⟩;exact bB

set_option maxHeartbeats 1000000 in
theorem canon_mone (n:Int) (d:Nat) (w:World) (N:Int) (M:Nat) (hd:d≠0) (ha:Pl.L n.natAbs≤67108864) (hb:Pl.L d≤67108864) (hN:n/(Nat.gcd n.natAbs d:Nat)=N) (hM:d/Nat.gcd n.natAbs d=M) (hm :  d/Nat.gcd n.natAbs d=1) :
 Calls Tryz.prog 119 #[iv (-n),mv d] w fun e w'=>e=.returned (.agg #[.bool (ng N),.string (mg N.natAbs),.bool false,.string ⟨#[]⟩])∧Below w.heap.size w w':=by
 have ks1:=sign_minus d hd;have km1:=fun W=>negate_any (-n) W
 rw [Int.neg_neg] at km1;have km2:=negate_minus d hd;have KS:=Lib.hid ks1;have KM1:=Lib.hid km1;have KM2:=Lib.hid km2;obtain ⟨m,hmm⟩:∃ m:Int,m=-n:=⟨_,rfl⟩
 rw [← hmm] at KM1 ⊢;clear ks1 km1 km2 hmm;have hg:0<Nat.gcd n.natAbs d:=Nat.gcd_pos_of_pos_right _ (Nat.pos_of_ne_zero hd);have hgl:Pl.L (Nat.gcd n.natAbs d)≤67108864:=Nat.le_trans (Pl.L_mono (Nat.le_of_dvd (Nat.pos_of_ne_zero hd) (Nat.gcd_dvd_right _ _))) hb;have k1:=fun W=>gcd_in n d W ha hb
 have k2:=fun W=>quot_any n (Nat.gcd n.natAbs d) W hg (Int.ofNat_dvd_left.2 (Nat.gcd_dvd_left _ _)) ha hgl
 have k3:=fun W=>quot_nat d (Nat.gcd n.natAbs d) W hg (Nat.gcd_dvd_right _ _) hb hgl
 have k4:=one_any;have EQ:=fun W=>eqI_in false false (d/Nat.gcd n.natAbs d) 1 W
 rw [decide_eq_true hm] at EQ;rw [hN] at k2;rw [hM] at k3 EQ;simp only [beq_self_eq_true,Bool.true_and] at EQ;generalize Nat.gcd n.natAbs d=G at k1 k2 k3;generalize (1:Nat)=U at k4 EQ;have KG:=Lib.hid k1;have KN:=Lib.hid k2;have KM:=Lib.hid k3;have KO:=Lib.hid k4;clear hm hN hM k1 k2 k3 k4 hg hgl ha hb hd;have K1:=Lib.hid (fun W=>KS.out W);have K2:=Lib.hid (fun W=>KM1.out W);have K3:=Lib.hid (fun W=>KM2.out W);have K4:=Lib.hid (fun W=>KG.out W);have K5:=Lib.hid (fun W=>KN.out W);have K6:=Lib.hid (fun W=>KM.out W);have K7:=Lib.hid (fun W=>KO.out W);go_enter Tryz.func119,Tryz.ntmps119;go_wp2_with fail;refine calls_named ?_;intro W1 hW1;have c1_0:Own W1 w.heap.size 0 [.bool (ng m),.string (mg m.natAbs)]:=by rw [hW1];simp [Own,go_sem]
 have c1_1:Own W1 (w.heap.size+1) 0 [.bool true,.string (mg d)]:=by rw [hW1];simp [Own,go_sem]
 have c1_2:Own W1 (w.heap.size+2) 0 [.bool false,.string ⟨#[]⟩,.bool false,.string ⟨#[]⟩]:=by rw [hW1];simp [Own,go_sem]
 have hB1:Below w.heap.size w W1:=by rw [hW1];exact bB
 clear hW1;have uc1_0:=c1_0;have uc1_1:=c1_1;have uc1_2:=c1_2;simp only [At,Own,Nat.reduceAdd,and_true] at uc1_0 uc1_1 uc1_2;with_reducible refine (K1.out _).mono ?_
 rintro e w1 ⟨rfl,hb1⟩;have c1_0x:=c1_0.up hb1;have c1_1x:=c1_1.up hb1;have c1_2x:=c1_2.up hb1;have hDw1:Below w.heap.size w w1:=bel_up hB1 hb1;clear uc1_0 uc1_1 uc1_2 c1_0 c1_1 c1_2;have uc1_0x:=c1_0x;have uc1_1x:=c1_1x;have uc1_2x:=c1_2x;simp only [At,Own,Nat.reduceAdd,and_true] at uc1_0x uc1_1x uc1_2x
 -- NE
 go_wp2_with fail;refine wp_named ?_;intro W2 hW2;have hL2:Below w1.heap.size w1 W2:=by rw [hW2];exact bB
 have c2_0:=c1_0x.up hL2;have c2_1:=c1_1x.up hL2;have c2_2:=c1_2x.up hL2;have hB2:Below w.heap.size w W2:=by rw [hW2];exact bB
 clear hW2 hL2 uc1_0x uc1_1x uc1_2x c1_0x c1_1x c1_2x;have dc2_0:=fun p:Bel W2=>c2_0.bel p;have dc2_1:=fun p:Bel W2=>c2_1.bel p;have dc2_2:=fun p:Bel W2=>c2_2.bel p
 simp only [At,Own,Nat.reduceAdd,and_true] at dc2_0 dc2_1 dc2_2;refine wp_region_tail 4 (by kernel_rfl) (by kernel_rfl) ?_;simp only [List.take_succ_cons,List.take_zero,List.drop_succ_cons,List.drop_zero];repeat (go_big_quiet_step (first|(go_at_call 122;with_reducible exact Calls.bel (K2.out _))|(go_at_call 122;with_reducible exact Calls.bel (K3.out _))))
 refine wpQuiet_nil ?_;intro w2 hb2;have c2_0x:=c2_0.up hb2;have c2_1x:=c2_1.up hb2;have c2_2x:=c2_2.up hb2;clear dc2_0 dc2_1 dc2_2 c2_0 c2_1 c2_2;have hD2:Below w.heap.size w w2:=bel_up hB2 hb2;have uc2_0x:=c2_0x;have uc2_1x:=c2_1x;have uc2_2x:=c2_2x;simp only [At,Own,Nat.reduceAdd,and_true] at uc2_0x uc2_1x uc2_2x
 -- NE
 go_wp2_with fail;refine calls_named ?_;intro W3 hW3;have c3_0:Own W3 w.heap.size 0 [.bool (ng n),.string (mg n.natAbs)]:=by rw [hW3];simp [Own,go_sem,uc2_0x,uc2_1x,uc2_2x]
 have c3_1:Own W3 (w.heap.size+1) 0 [.bool false,.string (mg d)]:=by rw [hW3];simp [Own,go_sem,uc2_0x,uc2_1x,uc2_2x]
 have c3_2:Own W3 (w.heap.size+2) 0 [.bool false,.string ⟨#[]⟩,.bool false,.string ⟨#[]⟩]:=by rw [hW3];simp [Own,go_sem,uc2_0x,uc2_1x,uc2_2x]
 have hB3:Below w.heap.size w W3:=by rw [hW3];exact bB
 clear hW3 uc2_0x uc2_1x uc2_2x c2_0x c2_1x c2_2x;have uc3_0:=c3_0;have uc3_1:=c3_1;have uc3_2:=c3_2;simp only [At,Own,Nat.reduceAdd,and_true] at uc3_0 uc3_1 uc3_2;with_reducible refine (K4.out _).mono ?_
 rintro e w3 ⟨rfl,hb3⟩;have c3_0x:=c3_0.up hb3;have c3_1x:=c3_1.up hb3;have c3_2x:=c3_2.up hb3;have hDw3:Below w.heap.size w w3:=bel_up hB3 hb3;clear uc3_0 uc3_1 uc3_2 c3_0 c3_1 c3_2;have uc3_0x:=c3_0x;have uc3_1x:=c3_1x;have uc3_2x:=c3_2x;simp only [At,Own,Nat.reduceAdd,and_true] at uc3_0x uc3_1x uc3_2x
 -- NE
 have nc3_0x_0_:w.heap.size<w3.heap.size:=by have:=c3_0x.lt;omega
 have nc3_0x_0:=Nat.ne_of_lt nc3_0x_0_;have nc3_0x_0':=nc3_0x_0.symm;have nc3_1x_0_:w.heap.size+1<w3.heap.size:=by have:=c3_1x.lt;omega
 have nc3_1x_0:=Nat.ne_of_lt nc3_1x_0_;have nc3_1x_0':=nc3_1x_0.symm;have nc3_2x_0_:w.heap.size+2<w3.heap.size:=by have:=c3_2x.lt;omega
 have nc3_2x_0:=Nat.ne_of_lt nc3_2x_0_;have nc3_2x_0':=nc3_2x_0.symm;go_wp2_with fail;refine wp_named ?_;intro W4 hW4;have hL4:Below w3.heap.size w3 W4:=by rw [hW4];exact bB
 have c4_0:=c3_0x.up hL4;have c4_1:=c3_1x.up hL4;have c4_2:=c3_2x.up hL4;have c4_3:Own W4 w3.heap.size 0 [.bool false,.string (mg G)]:=by rw [hW4];simp [Own,go_sem,uc3_0x,uc3_1x,uc3_2x,nc3_0x_0,nc3_0x_0',nc3_0x_0_,nc3_1x_0,nc3_1x_0',nc3_1x_0_,nc3_2x_0,nc3_2x_0',nc3_2x_0_]
 have hB4:Below w.heap.size w W4:=by rw [hW4];exact bB
 clear hW4 hL4 uc3_0x uc3_1x uc3_2x c3_0x c3_1x c3_2x;have dc4_0:=fun p:Bel W4=>c4_0.bel p;have dc4_1:=fun p:Bel W4=>c4_1.bel p;have dc4_2:=fun p:Bel W4=>c4_2.bel p;have dc4_3:=fun p:Bel W4=>c4_3.bel p
 simp only [At,Own,Nat.reduceAdd,and_true] at dc4_0 dc4_1 dc4_2 dc4_3;refine wp_region_tail 6 (by kernel_rfl) (by kernel_rfl) ?_;simp only [List.take_succ_cons,List.take_zero,List.drop_succ_cons,List.drop_zero];repeat (go_big_quiet_step (first|(go_at_call 138;with_reducible exact Calls.bel (K5.out _))|(go_at_call 138;with_reducible exact Calls.bel (K6.out _))))
 refine wpQuiet_nil ?_;intro w4 hb4;have c4_0x:=c4_0.up hb4;have c4_1x:=c4_1.up hb4;have c4_2x:=c4_2.up hb4;have c4_3x:=c4_3.up hb4;clear dc4_0 dc4_1 dc4_2 dc4_3 c4_0 c4_1 c4_2 c4_3;have hD4:Below w.heap.size w w4:=bel_up hB4 hb4;have uc4_0x:=c4_0x;have uc4_1x:=c4_1x;have uc4_2x:=c4_2x;have uc4_3x:=c4_3x;simp only [At,Own,Nat.reduceAdd,and_true] at uc4_0x uc4_1x uc4_2x uc4_3x
 -- NE
 go_wp2_with fail;refine wp_named ?_;intro W5 hW5;have c5_0:Own W5 w.heap.size 0 [.bool (ng N),.string (mg N.natAbs)]:=by rw [hW5];simp [Own,go_sem,uc4_0x,uc4_1x,uc4_2x,uc4_3x]
 have c5_1:Own W5 (w.heap.size+1) 0 [.bool false,.string (mg M)]:=by rw [hW5];simp [Own,go_sem,uc4_0x,uc4_1x,uc4_2x,uc4_3x]
 have c5_2:Own W5 (w.heap.size+2) 0 [.bool false,.string ⟨#[]⟩,.bool false,.string ⟨#[]⟩]:=by rw [hW5];simp [Own,go_sem,uc4_0x,uc4_1x,uc4_2x,uc4_3x]
 have c5_3:Own W5 w3.heap.size 0 [.bool false,.string (mg G)]:=by rw [hW5];simp [Own,go_sem,uc4_0x,uc4_1x,uc4_2x,uc4_3x]
 have hB5:Below w.heap.size w W5:=by rw [hW5];exact bB
 clear hW5 uc4_0x uc4_1x uc4_2x uc4_3x c4_0x c4_1x c4_2x c4_3x;have dc5_0:=fun p:Bel W5=>c5_0.bel p;have dc5_1:=fun p:Bel W5=>c5_1.bel p;have dc5_2:=fun p:Bel W5=>c5_2.bel p;have dc5_3:=fun p:Bel W5=>c5_3.bel p
 simp only [At,Own,Nat.reduceAdd,and_true] at dc5_0 dc5_1 dc5_2 dc5_3;refine wp_region_all (by kernel_rfl) (by kernel_rfl) ?_;repeat (go_big_quiet_step (first|(go_at_call 139;with_reducible exact Calls.bel (K7.out _))))
 refine wpQuiet_nil ?_;intro w5 hb5;have c5_0x:=c5_0.up hb5;have c5_1x:=c5_1.up hb5;have c5_2x:=c5_2.up hb5;have c5_3x:=c5_3.up hb5;clear dc5_0 dc5_1 dc5_2 dc5_3 c5_0 c5_1 c5_2 c5_3;have hD5:Below w.heap.size w w5:=bel_up hB5 hb5;have uc5_0x:=c5_0x;have uc5_1x:=c5_1x;have uc5_2x:=c5_2x;have uc5_3x:=c5_3x;simp only [At,Own,Nat.reduceAdd,and_true] at uc5_0x uc5_1x uc5_2x uc5_3x
 -- NE
 go_wp2;refine bodyPost_ret (v:=.agg #[.bool (ng N),.string (mg N.natAbs),.bool false,.string ⟨#[]⟩]) (by simp [results,Tryz.results119,go_sem,uc5_2x]) rfl ⟨rfl,?_⟩;exact bB

set_option maxHeartbeats 1000000 in
theorem canon_mmore (n:Int) (d:Nat) (w:World) (N:Int) (M:Nat) (hd:d≠0) (ha:Pl.L n.natAbs≤67108864) (hb:Pl.L d≤67108864) (hN:n/(Nat.gcd n.natAbs d:Nat)=N) (hM:d/Nat.gcd n.natAbs d=M) (hm:¬ d/Nat.gcd n.natAbs d=1) :
 Calls Tryz.prog 119 #[iv (-n),mv d] w fun e w'=>e=.returned (.agg #[.bool (ng N),.string (mg N.natAbs),.bool false,.string (mg M)])∧Below w.heap.size w w':=by
 have ks1:=sign_minus d hd;have km1:=fun W=>negate_any (-n) W
 rw [Int.neg_neg] at km1;have km2:=negate_minus d hd;have KS:=Lib.hid ks1;have KM1:=Lib.hid km1;have KM2:=Lib.hid km2;obtain ⟨m,hmm⟩:∃ m:Int,m=-n:=⟨_,rfl⟩
 rw [← hmm] at KM1 ⊢;clear ks1 km1 km2 hmm;have hg:0<Nat.gcd n.natAbs d:=Nat.gcd_pos_of_pos_right _ (Nat.pos_of_ne_zero hd);have hgl:Pl.L (Nat.gcd n.natAbs d)≤67108864:=Nat.le_trans (Pl.L_mono (Nat.le_of_dvd (Nat.pos_of_ne_zero hd) (Nat.gcd_dvd_right _ _))) hb;have k1:=fun W=>gcd_in n d W ha hb
 have k2:=fun W=>quot_any n (Nat.gcd n.natAbs d) W hg (Int.ofNat_dvd_left.2 (Nat.gcd_dvd_left _ _)) ha hgl
 have k3:=fun W=>quot_nat d (Nat.gcd n.natAbs d) W hg (Nat.gcd_dvd_right _ _) hb hgl
 have k4:=one_any;have EQ:=fun W=>eqI_in false false (d/Nat.gcd n.natAbs d) 1 W
 rw [decide_eq_false hm] at EQ;rw [hN] at k2;rw [hM] at k3 EQ;simp only [beq_self_eq_true,Bool.true_and] at EQ;generalize Nat.gcd n.natAbs d=G at k1 k2 k3;generalize (1:Nat)=U at k4 EQ;have KG:=Lib.hid k1;have KN:=Lib.hid k2;have KM:=Lib.hid k3;have KO:=Lib.hid k4;clear hm hN hM k1 k2 k3 k4 hg hgl ha hb hd;have K1:=Lib.hid (fun W=>KS.out W);have K2:=Lib.hid (fun W=>KM1.out W);have K3:=Lib.hid (fun W=>KM2.out W);have K4:=Lib.hid (fun W=>KG.out W);have K5:=Lib.hid (fun W=>KN.out W);have K6:=Lib.hid (fun W=>KM.out W);have K7:=Lib.hid (fun W=>KO.out W);go_enter Tryz.func119,Tryz.ntmps119;go_wp2_with fail;refine calls_named ?_;intro W1 hW1;have c1_0:Own W1 w.heap.size 0 [.bool (ng m),.string (mg m.natAbs)]:=by rw [hW1];simp [Own,go_sem]
 have c1_1:Own W1 (w.heap.size+1) 0 [.bool true,.string (mg d)]:=by rw [hW1];simp [Own,go_sem]
 have c1_2:Own W1 (w.heap.size+2) 0 [.bool false,.string ⟨#[]⟩,.bool false,.string ⟨#[]⟩]:=by rw [hW1];simp [Own,go_sem]
 have hB1:Below w.heap.size w W1:=by rw [hW1];exact bB
 clear hW1;have uc1_0:=c1_0;have uc1_1:=c1_1;have uc1_2:=c1_2;simp only [At,Own,Nat.reduceAdd,and_true] at uc1_0 uc1_1 uc1_2;with_reducible refine (K1.out _).mono ?_
 rintro e w1 ⟨rfl,hb1⟩;have c1_0x:=c1_0.up hb1;have c1_1x:=c1_1.up hb1;have c1_2x:=c1_2.up hb1;have hDw1:Below w.heap.size w w1:=bel_up hB1 hb1;clear uc1_0 uc1_1 uc1_2 c1_0 c1_1 c1_2;have uc1_0x:=c1_0x;have uc1_1x:=c1_1x;have uc1_2x:=c1_2x;simp only [At,Own,Nat.reduceAdd,and_true] at uc1_0x uc1_1x uc1_2x
 -- NE
 go_wp2_with fail;refine wp_named ?_;intro W2 hW2;have hL2:Below w1.heap.size w1 W2:=by rw [hW2];exact bB
 have c2_0:=c1_0x.up hL2;have c2_1:=c1_1x.up hL2;have c2_2:=c1_2x.up hL2;have hB2:Below w.heap.size w W2:=by rw [hW2];exact bB
 clear hW2 hL2 uc1_0x uc1_1x uc1_2x c1_0x c1_1x c1_2x;have dc2_0:=fun p:Bel W2=>c2_0.bel p;have dc2_1:=fun p:Bel W2=>c2_1.bel p;have dc2_2:=fun p:Bel W2=>c2_2.bel p
 simp only [At,Own,Nat.reduceAdd,and_true] at dc2_0 dc2_1 dc2_2;refine wp_region_tail 4 (by kernel_rfl) (by kernel_rfl) ?_;simp only [List.take_succ_cons,List.take_zero,List.drop_succ_cons,List.drop_zero];repeat (go_big_quiet_step (first|(go_at_call 122;with_reducible exact Calls.bel (K2.out _))|(go_at_call 122;with_reducible exact Calls.bel (K3.out _))))
 refine wpQuiet_nil ?_;intro w2 hb2;have c2_0x:=c2_0.up hb2;have c2_1x:=c2_1.up hb2;have c2_2x:=c2_2.up hb2;clear dc2_0 dc2_1 dc2_2 c2_0 c2_1 c2_2;have hD2:Below w.heap.size w w2:=bel_up hB2 hb2;have uc2_0x:=c2_0x;have uc2_1x:=c2_1x;have uc2_2x:=c2_2x;simp only [At,Own,Nat.reduceAdd,and_true] at uc2_0x uc2_1x uc2_2x
 -- NE
 go_wp2_with fail;refine calls_named ?_;intro W3 hW3;have c3_0:Own W3 w.heap.size 0 [.bool (ng n),.string (mg n.natAbs)]:=by rw [hW3];simp [Own,go_sem,uc2_0x,uc2_1x,uc2_2x]
 have c3_1:Own W3 (w.heap.size+1) 0 [.bool false,.string (mg d)]:=by rw [hW3];simp [Own,go_sem,uc2_0x,uc2_1x,uc2_2x]
 have c3_2:Own W3 (w.heap.size+2) 0 [.bool false,.string ⟨#[]⟩,.bool false,.string ⟨#[]⟩]:=by rw [hW3];simp [Own,go_sem,uc2_0x,uc2_1x,uc2_2x]
 have hB3:Below w.heap.size w W3:=by rw [hW3];exact bB
 clear hW3 uc2_0x uc2_1x uc2_2x c2_0x c2_1x c2_2x;have uc3_0:=c3_0;have uc3_1:=c3_1;have uc3_2:=c3_2;simp only [At,Own,Nat.reduceAdd,and_true] at uc3_0 uc3_1 uc3_2;with_reducible refine (K4.out _).mono ?_
 rintro e w3 ⟨rfl,hb3⟩;have c3_0x:=c3_0.up hb3;have c3_1x:=c3_1.up hb3;have c3_2x:=c3_2.up hb3;have hDw3:Below w.heap.size w w3:=bel_up hB3 hb3;clear uc3_0 uc3_1 uc3_2 c3_0 c3_1 c3_2;have uc3_0x:=c3_0x;have uc3_1x:=c3_1x;have uc3_2x:=c3_2x;simp only [At,Own,Nat.reduceAdd,and_true] at uc3_0x uc3_1x uc3_2x
 -- NE
 have nc3_0x_0_:w.heap.size<w3.heap.size:=by have:=c3_0x.lt;omega
 have nc3_0x_0:=Nat.ne_of_lt nc3_0x_0_;have nc3_0x_0':=nc3_0x_0.symm;have nc3_1x_0_:w.heap.size+1<w3.heap.size:=by have:=c3_1x.lt;omega
 have nc3_1x_0:=Nat.ne_of_lt nc3_1x_0_;have nc3_1x_0':=nc3_1x_0.symm;have nc3_2x_0_:w.heap.size+2<w3.heap.size:=by have:=c3_2x.lt;omega
 have nc3_2x_0:=Nat.ne_of_lt nc3_2x_0_;have nc3_2x_0':=nc3_2x_0.symm;go_wp2_with fail;refine wp_named ?_;intro W4 hW4;have hL4:Below w3.heap.size w3 W4:=by rw [hW4];exact bB
 have c4_0:=c3_0x.up hL4;have c4_1:=c3_1x.up hL4;have c4_2:=c3_2x.up hL4;have c4_3:Own W4 w3.heap.size 0 [.bool false,.string (mg G)]:=by rw [hW4];simp [Own,go_sem,uc3_0x,uc3_1x,uc3_2x,nc3_0x_0,nc3_0x_0',nc3_0x_0_,nc3_1x_0,nc3_1x_0',nc3_1x_0_,nc3_2x_0,nc3_2x_0',nc3_2x_0_]
 have hB4:Below w.heap.size w W4:=by rw [hW4];exact bB
 clear hW4 hL4 uc3_0x uc3_1x uc3_2x c3_0x c3_1x c3_2x;have dc4_0:=fun p:Bel W4=>c4_0.bel p;have dc4_1:=fun p:Bel W4=>c4_1.bel p;have dc4_2:=fun p:Bel W4=>c4_2.bel p;have dc4_3:=fun p:Bel W4=>c4_3.bel p
 simp only [At,Own,Nat.reduceAdd,and_true] at dc4_0 dc4_1 dc4_2 dc4_3;refine wp_region_tail 6 (by kernel_rfl) (by kernel_rfl) ?_;simp only [List.take_succ_cons,List.take_zero,List.drop_succ_cons,List.drop_zero];repeat (go_big_quiet_step (first|(go_at_call 138;with_reducible exact Calls.bel (K5.out _))|(go_at_call 138;with_reducible exact Calls.bel (K6.out _))))
 refine wpQuiet_nil ?_;intro w4 hb4;have c4_0x:=c4_0.up hb4;have c4_1x:=c4_1.up hb4;have c4_2x:=c4_2.up hb4;have c4_3x:=c4_3.up hb4;clear dc4_0 dc4_1 dc4_2 dc4_3 c4_0 c4_1 c4_2 c4_3;have hD4:Below w.heap.size w w4:=bel_up hB4 hb4;have uc4_0x:=c4_0x;have uc4_1x:=c4_1x;have uc4_2x:=c4_2x;have uc4_3x:=c4_3x;simp only [At,Own,Nat.reduceAdd,and_true] at uc4_0x uc4_1x uc4_2x uc4_3x
 -- NE
 go_wp2_with fail;refine wp_named ?_;intro W5 hW5;have c5_0:Own W5 w.heap.size 0 [.bool (ng N),.string (mg N.natAbs)]:=by rw [hW5];simp [Own,go_sem,uc4_0x,uc4_1x,uc4_2x,uc4_3x]
 have c5_1:Own W5 (w.heap.size+1) 0 [.bool false,.string (mg M)]:=by rw [hW5];simp [Own,go_sem,uc4_0x,uc4_1x,uc4_2x,uc4_3x]
 have c5_2:Own W5 (w.heap.size+2) 0 [.bool false,.string ⟨#[]⟩,.bool false,.string ⟨#[]⟩]:=by rw [hW5];simp [Own,go_sem,uc4_0x,uc4_1x,uc4_2x,uc4_3x]
 have c5_3:Own W5 w3.heap.size 0 [.bool false,.string (mg G)]:=by rw [hW5];simp [Own,go_sem,uc4_0x,uc4_1x,uc4_2x,uc4_3x]
 have hB5:Below w.heap.size w W5:=by rw [hW5];exact bB
 clear hW5 uc4_0x uc4_1x uc4_2x uc4_3x c4_0x c4_1x c4_2x c4_3x;have dc5_0:=fun p:Bel W5=>c5_0.bel p;have dc5_1:=fun p:Bel W5=>c5_1.bel p;have dc5_2:=fun p:Bel W5=>c5_2.bel p;have dc5_3:=fun p:Bel W5=>c5_3.bel p
 simp only [At,Own,Nat.reduceAdd,and_true] at dc5_0 dc5_1 dc5_2 dc5_3;refine wp_region_all (by kernel_rfl) (by kernel_rfl) ?_;repeat (go_big_quiet_step (first|(go_at_call 139;with_reducible exact Calls.bel (K7.out _))))
 refine wpQuiet_nil ?_;intro w5 hb5;have c5_0x:=c5_0.up hb5;have c5_1x:=c5_1.up hb5;have c5_2x:=c5_2.up hb5;have c5_3x:=c5_3.up hb5;clear dc5_0 dc5_1 dc5_2 dc5_3 c5_0 c5_1 c5_2 c5_3;have hD5:Below w.heap.size w w5:=bel_up hB5 hb5;have uc5_0x:=c5_0x;have uc5_1x:=c5_1x;have uc5_2x:=c5_2x;have uc5_3x:=c5_3x;simp only [At,Own,Nat.reduceAdd,and_true] at uc5_0x uc5_1x uc5_2x uc5_3x
 -- NE
 go_wp2;refine bodyPost_ret (v:=.agg #[.bool (ng N),.string (mg N.natAbs),.bool false,.string (mg M)]) (by simp [results,Tryz.results119,go_sem,uc5_2x]) rfl ⟨rfl,?_⟩;exact bB

theorem canon_minus (n:Int) (d:Nat) (w:World) (hd:d≠0) (ha:Pl.L n.natAbs≤67108864) (hb:Pl.L d≤67108864) :
 Calls Tryz.prog 119 #[iv (-n),mv d] w fun e w'=>e=.returned (qv (mkRat n d))∧Below w.heap.size w w':=by
 obtain ⟨h1,h2⟩:=canon_parts n d hd
 by_cases hm:d/Nat.gcd n.natAbs d=1
 ·refine (canon_mone n d w _ _ hd ha hb rfl rfl hm).mono fun e w' ⟨he,hw⟩=>⟨?_,hw⟩
  rw [he,qv,dn,h1,h2,if_pos hm];rfl
 ·refine (canon_mmore n d w _ _ hd ha hb rfl rfl hm).mono fun e w' ⟨he,hw⟩=>⟨?_,hw⟩
  rw [he,qv,dn,h1,h2,if_neg hm]

theorem canon_any (n:Int) (d:Nat) (w:World) (hd:d≠0) (ha:Pl.L n.natAbs≤67108864) (hb:Pl.L d≤67108864) :
 Calls Tryz.prog 119 #[iv n,nv d] w fun e w'=>e=.returned (qv (mkRat n d))∧Below w.heap.size w w':=by
 obtain ⟨h1,h2⟩:=canon_parts n d hd
 by_cases hm:d/Nat.gcd n.natAbs d=1
 ·refine (canon_one n d w _ _ hd ha hb rfl rfl hm).mono fun e w' ⟨he,hw⟩=>⟨?_,hw⟩
  rw [he,qv,dn,h1,h2,if_pos hm];rfl
 ·refine (canon_more n d w _ _ hd ha hb rfl rfl hm).mono fun e w' ⟨he,hw⟩=>⟨?_,hw⟩
  rw [he,qv,dn,h1,h2,if_neg hm]
end Go.Proofs.YtdkkjfnpinckjaaGreatDoor
