/-
 Contracts of package rational: the operations.
-/
import Derived.Test.YtiochgoocbkckaaGreatDoorAQ1
import Derived.Deep.RegionHeld3
set_option maxRecDepth 100000
set_option linter.unusedSimpArgs false
set_option linter.unusedVariables false
namespace Go.Proofs.YtiochgoocbkckaaGreatDoor
open Go Go.RowKit

theorem canon_div (n d:Int) (w:World) (hd:d≠0) (ha:Pl.L n.natAbs≤67108864) (hb:Pl.L d.natAbs≤67108864) :
 Calls Tryz.prog 132 #[iv n,iv d] w fun e w'=>e=.returned (qv (Rat.divInt n d))∧Below w.heap.size w w':=by
 rcases Int.lt_or_le d 0 with h|h
 ·obtain ⟨e,rfl⟩:∃ e:Nat,d=-(e:Int):=⟨d.natAbs,by omega⟩
  have:=canon_minus (-n) e w (by omega) (by rw [Int.natAbs_neg];exact ha) (by rw [Int.natAbs_neg,Int.natAbs_natCast] at hb;exact hb);rw [Int.neg_neg] at this;rw [iv_minus e (by omega),Rat.divInt_neg',Rat.divInt_ofNat];exact this
 ·obtain ⟨e,rfl⟩:=Int.eq_ofNat_of_zero_le h
  have:=canon_any n e w (by omega) ha (by rw [Int.natAbs_natCast] at hb;exact hb);rw [iv_nat,Rat.divInt_ofNat];exact this
theorem imul_nat (a:Int) (n:Nat) (w:World) (ha:Pl.L a.natAbs≤67108864) (hb:Pl.L n≤67108864) :
 Calls Tryz.prog 144 #[iv a,nv n] w fun e w'=>e=.returned (iv (a*n))∧Below w.heap.size w w':=by
 have h:=imul_any a n w ha (by rw [Int.natAbs_natCast];exact hb);rw [iv_nat n] at h;exact h
theorem imul_nz (n:Nat) (a:Int) (w:World) (hb:Pl.L n≤67108864) (ha:Pl.L a.natAbs≤67108864) :
 Calls Tryz.prog 144 #[nv n,iv a] w fun e w'=>e=.returned (iv (n*a))∧Below w.heap.size w w':=by
 have h:=imul_any n a w (by rw [Int.natAbs_natCast];exact hb) ha;rw [iv_nat n] at h;exact h
theorem imul_nn (m n:Nat) (w:World) (ha:Pl.L m≤67108864) (hb:Pl.L n≤67108864) :
 Calls Tryz.prog 144 #[nv m,nv n] w fun e w'=>e=.returned (nv (m*n))∧Below w.heap.size w w':=by
 have h:=imul_any m n w (by rw [Int.natAbs_natCast];exact ha) (by rw [Int.natAbs_natCast];exact hb);rw [iv_nat m,iv_nat n,← Int.natCast_mul,iv_nat] at h;exact h
theorem dn_one {a:Rat} (h:a.den=1):dn a=0:=if_pos h
theorem dn_more {a:Rat} (h:a.den≠1):dn a=a.den:=if_neg h
theorem dn_eq (a b:Rat):(dn a=dn b)=(a.den=b.den):=by
 have h1:=a.den_nz;have h2:=b.den_nz;unfold dn;rw [eq_iff_iff]
 split<;>split<;>omega

theorem den_one (a:Rat) (w:World) (h:a.den=1) :
 Calls Tryz.prog 145 #[qv a] w fun e w'=>e=.returned (nv 1)∧Below w.heap.size w w':=by
 have EQ:=fun W=>eqI_in false false (dn a) 0 W
 rw [mg_zero,decide_eq_true (dn_one h)] at EQ;simp only [beq_self_eq_true,Bool.true_and] at EQ;have K1:=Lib.hid (fun W=>one_any W);clear h;go_enter Tryz.func145,Tryz.ntmps145;go_wp2_with fail;refine calls_named ?_;intro W1 hW1;have c1_0:At W1 w.heap.size 0 [.bool (ng a.num),.string (mg a.num.natAbs),.bool false,.string (mg (dn a))]:=by rw [hW1];simp [At,go_sem]
 have c1_1:Own W1 (w.heap.size+1) 0 [.bool false,.string ⟨#[]⟩]:=by rw [hW1];simp [Own,go_sem]
 have hB1:Below w.heap.size w W1:=by rw [hW1];exact bB
 clear hW1;have uc1_0:=c1_0;have uc1_1:=c1_1;simp only [At,Own,Nat.reduceAdd,and_true] at uc1_0 uc1_1;with_reducible refine (K1.out _).mono ?_
 rintro e w1 ⟨rfl,hb1⟩;have c1_0x:=c1_0.up hb1;have c1_1x:=c1_1.up hb1;have hDw1:Below w.heap.size w w1:=bel_up hB1 hb1;clear uc1_0 uc1_1 c1_0 c1_1;have uc1_0x:=c1_0x;have uc1_1x:=c1_1x;simp only [At,Own,Nat.reduceAdd,and_true] at uc1_0x uc1_1x
 -- NE
 go_wp2;refine bodyPost_ret (v:=.agg #[.bool false,.string (mg (1))]) (by simp [results,Tryz.results145,go_sem,uc1_1x]) rfl ⟨rfl,?_⟩;exact bB

theorem den_more (a:Rat) (w:World) (h:a.den≠1) :
 Calls Tryz.prog 145 #[qv a] w fun e w'=>e=.returned (nv (dn a))∧Below w.heap.size w w':=by
 have EQ:=fun W=>eqI_in false false (dn a) 0 W
 rw [mg_zero,decide_eq_false (by rw [dn_more h];exact a.den_nz)] at EQ;simp only [beq_self_eq_true,Bool.true_and] at EQ;clear h;go_enter Tryz.func145,Tryz.ntmps145;go_wp2;refine bodyPost_ret (v:=.agg #[.bool false,.string (mg (dn a))]) (by simp [results,Tryz.results145,go_sem]) rfl ⟨rfl,?_⟩;exact bB

theorem den_any (a:Rat) (w:World):Calls Tryz.prog 145 #[qv a] w fun e w'=>e=.returned (nv a.den)∧Below w.heap.size w w':=by
 by_cases h:a.den=1
 ·rw [h];exact den_one a w h
 ·rw [← dn_more h];exact den_more a w h
def crX (a b:Rat):Int:=if a.den=b.den then a.num else a.num*b.den
def crY (a b:Rat):Int:=if a.den=b.den then b.num else b.num*a.den
def crD (a b:Rat):Nat:=if a.den=b.den then a.den else a.den*b.den
theorem cr_sum (a b:Rat):mkRat (crX a b+crY a b) (crD a b)=a+b:=by
 unfold crX crY crD;split
 ·rename_i h;exact Pl.add_same a b h
 ·exact Pl.add_nums a b
theorem cr_cmp (a b:Rat):cmpZ (crX a b) (crY a b)=Pl.cmpQ a b:=by
 unfold crX crY;split
 ·rename_i h;exact Pl.cmp_same a b h
 ·exact Pl.cmp_nums a b
theorem crD_ne (a b:Rat):crD a b≠0:=by
 unfold crD;split
 ·exact a.den_nz
 ·exact Nat.mul_ne_zero a.den_nz b.den_nz
theorem cr_sizes {a b:Rat} (ha:Pl.Sz 16777216 a) (hb:Pl.Sz 16777216 b):Pl.L (crX a b).natAbs≤33554432∧Pl.L (crY a b).natAbs≤33554432∧Pl.L (crD a b)≤33554432:=by
 have h1:=ha.1;have h2:=ha.2;have h3:=hb.1;have h4:=hb.2;have e1:=Pl.L_natAbs_mul a.num b.den;have e2:=Pl.L_natAbs_mul b.num a.den;have e3:=Pl.L_mul a.den b.den;rw [Int.natAbs_natCast] at e1 e2;unfold crX crY crD;split<;>omega

theorem cross_same (a:Rat) (b:Rat) (w:World) (h:a.den=b.den) :
 Calls Tryz.prog 131 #[qv a,qv b] w fun e w'=>e=.returned (.tuple #[iv a.num,iv b.num,nv a.den])∧Below w.heap.size w w':=by
 have EQ:=fun W=>eqI_in false false (dn a) (dn b) W
 simp only [dn_eq,decide_eq_true h] at EQ;simp only [beq_self_eq_true,Bool.true_and] at EQ;have K1:=Lib.hid (fun W=>den_any a W);clear h;go_enter Tryz.func131,Tryz.ntmps131;go_wp2_with fail;refine wp_named ?_;intro W1 hW1;have c1_0:At W1 w.heap.size 0 [.bool (ng a.num),.string (mg a.num.natAbs),.bool false,.string (mg (dn a))]:=by rw [hW1];simp [At,go_sem]
 have c1_1:At W1 (w.heap.size+1) 0 [.bool (ng b.num),.string (mg b.num.natAbs),.bool false,.string (mg (dn b))]:=by rw [hW1];simp [At,go_sem]
 have c1_2:Own W1 (w.heap.size+2) 0 [.bool false,.string ⟨#[]⟩]:=by rw [hW1];simp [Own,go_sem]
 have c1_3:Own W1 (w.heap.size+3) 0 [.bool false,.string ⟨#[]⟩]:=by rw [hW1];simp [Own,go_sem]
 have c1_4:Own W1 (w.heap.size+4) 0 [.bool false,.string ⟨#[]⟩]:=by rw [hW1];simp [Own,go_sem]
 have hB1:Below w.heap.size w W1:=by rw [hW1];exact bB
 clear hW1;have uc1_0:=c1_0;have uc1_1:=c1_1;have uc1_2:=c1_2;have uc1_3:=c1_3;have uc1_4:=c1_4;simp only [At,Own,Nat.reduceAdd,and_true] at uc1_0 uc1_1 uc1_2 uc1_3 uc1_4;have lc1_0:w.heap.size<W1.heap.size:=c1_0.lt;have lc1_1:w.heap.size+1<W1.heap.size:=c1_1.lt;have lc1_2:w.heap.size+2<W1.heap.size:=c1_2.lt;have lc1_3:w.heap.size+3<W1.heap.size:=c1_3.lt;have lc1_4:w.heap.size+4<W1.heap.size:=c1_4.lt;have nn1:¬ (w.heap.size=w.heap.size+1+1):=by omega
 have nn2:¬ (w.heap.size=w.heap.size+1+1+1):=by omega
 have nn3:¬ (w.heap.size=w.heap.size+1+1+1+1):=by omega
 have nn4:¬ (w.heap.size+1=w.heap.size+1+1):=by omega
 have nn5:¬ (w.heap.size+1=w.heap.size+1+1+1):=by omega
 have nn6:¬ (w.heap.size+1=w.heap.size+1+1+1+1):=by omega
 go_region_held3 (fun w'=>w'.cell? ⟨w.heap.size,0,none⟩=some (.bool (ng a.num))∧w'.cell? ⟨w.heap.size,1,none⟩=some (.string (mg a.num.natAbs))∧w'.cell? ⟨w.heap.size,2,none⟩=some (.bool false)∧w'.cell? ⟨w.heap.size,3,none⟩=some (.string (mg (dn a)))∧w'.cell? ⟨w.heap.size+1,0,none⟩=some (.bool (ng b.num))∧w'.cell? ⟨w.heap.size+1,1,none⟩=some (.string (mg b.num.natAbs))∧w'.cell? ⟨w.heap.size+1,2,none⟩=some (.bool false)∧w'.cell? ⟨w.heap.size+1,3,none⟩=some (.string (mg (dn b)))) ((repeat' apply And.intro)<;>(first|go_keep|(simp [go_sem, *];done)|(rw [hvc1 _ _ (by first|assumption|(simp;done)|(simp;omega))];first|assumption|(simp [*];done)))) (first|(go_at_call 145;with_reducible refine (K1.out _).mono ?_;rintro e v1 ⟨rfl,hv1⟩;obtain ⟨hvc1,hvf1⟩:=bcell hv1;(first|(have q2_0:v1.cell? ⟨w.heap.size+2,0,none⟩=some (.bool (ng a.num)):=by rw [hvc1 _ _ (by first|assumption|(simp;done)|(simp;omega))];simp [*];done)|(have q2_0:v1.cell? ⟨w.heap.size+2,0,none⟩=some (.bool false):=by rw [hvc1 _ _ (by first|assumption|(simp;done)|(simp;omega))];simp [*];done));(have gq2_0:v1.frozen? ⟨w.heap.size+2,0,none⟩=false:=by rw [hvf1 _ _ (by first|assumption|(simp;done)|(simp;omega))];simp [*]);(first|(have q2_1:v1.cell? ⟨w.heap.size+2,1,none⟩=some (.string (mg a.num.natAbs)):=by rw [hvc1 _ _ (by first|assumption|(simp;done)|(simp;omega))];simp [*];done)|(have q2_1:v1.cell? ⟨w.heap.size+2,1,none⟩=some (.string ⟨#[]⟩):=by rw [hvc1 _ _ (by first|assumption|(simp;done)|(simp;omega))];simp [*];done));(have gq2_1:v1.frozen? ⟨w.heap.size+2,1,none⟩=false:=by rw [hvf1 _ _ (by first|assumption|(simp;done)|(simp;omega))];simp [*]);(first|(have q3_0:v1.cell? ⟨w.heap.size+3,0,none⟩=some (.bool (ng b.num)):=by rw [hvc1 _ _ (by first|assumption|(simp;done)|(simp;omega))];simp [*];done)|(have q3_0:v1.cell? ⟨w.heap.size+3,0,none⟩=some (.bool false):=by rw [hvc1 _ _ (by first|assumption|(simp;done)|(simp;omega))];simp [*];done));(have gq3_0:v1.frozen? ⟨w.heap.size+3,0,none⟩=false:=by rw [hvf1 _ _ (by first|assumption|(simp;done)|(simp;omega))];simp [*]);(first|(have q3_1:v1.cell? ⟨w.heap.size+3,1,none⟩=some (.string (mg b.num.natAbs)):=by rw [hvc1 _ _ (by first|assumption|(simp;done)|(simp;omega))];simp [*];done)|(have q3_1:v1.cell? ⟨w.heap.size+3,1,none⟩=some (.string ⟨#[]⟩):=by rw [hvc1 _ _ (by first|assumption|(simp;done)|(simp;omega))];simp [*];done));(have gq3_1:v1.frozen? ⟨w.heap.size+3,1,none⟩=false:=by rw [hvf1 _ _ (by first|assumption|(simp;done)|(simp;omega))];simp [*]);(first|(have q4_0:v1.cell? ⟨w.heap.size+4,0,none⟩=some (.bool false):=by rw [hvc1 _ _ (by first|assumption|(simp;done)|(simp;omega))];simp [*];done));(have gq4_0:v1.frozen? ⟨w.heap.size+4,0,none⟩=false:=by rw [hvf1 _ _ (by first|assumption|(simp;done)|(simp;omega))];simp [*]);(first|(have q4_1:v1.cell? ⟨w.heap.size+4,1,none⟩=some (.string (mg a.den)):=by rw [hvc1 _ _ (by first|assumption|(simp;done)|(simp;omega))];simp [*];done)|(have q4_1:v1.cell? ⟨w.heap.size+4,1,none⟩=some (.string ⟨#[]⟩):=by rw [hvc1 _ _ (by first|assumption|(simp;done)|(simp;omega))];simp [*];done));(have gq4_1:v1.frozen? ⟨w.heap.size+4,1,none⟩=false:=by rw [hvf1 _ _ (by first|assumption|(simp;done)|(simp;omega))];simp [*])))
 all_goals
  go_wp2;refine bodyPost_ret (v:=.tuple #[.agg #[.bool (ng a.num),.string (mg a.num.natAbs)],.agg #[.bool (ng b.num),.string (mg b.num.natAbs)],.agg #[.bool false,.string (mg a.den)]]) (by simp [results,Tryz.results131,go_sem, *]) rfl ⟨rfl,?_⟩;repeat (first|with_reducible exact hB1|with_reducible refine bel_up ?_ (by with_reducible assumption)|with_reducible refine Below.drew ?_|with_reducible refine bel_alloc ?_ _|refine Below.setCell ?_ (by first|(simp;done)|(simp;omega)|omega) _)

set_option maxHeartbeats 1000000 in
theorem cross_far (a:Rat) (b:Rat) (w:World) (h:¬ a.den=b.den) (ha:Pl.Sz 16777216 a) (hb:Pl.Sz 16777216 b) :
 Calls Tryz.prog 131 #[qv a,qv b] w fun e w'=>e=.returned (.tuple #[iv (a.num*b.den),iv (b.num*a.den),nv (a.den*b.den)])∧Below w.heap.size w w':=by
 have EQ:=fun W=>eqI_in false false (dn a) (dn b) W
 simp only [dn_eq,decide_eq_false h] at EQ;simp only [beq_self_eq_true,Bool.true_and] at EQ;have K1:=Lib.hid (fun W=>den_any b W);have K2:=Lib.hid (fun W=>imul_nat a.num b.den W (by have:=ha.1;have:=hb.1;omega) (by have:=ha.2;have:=hb.2;omega));have K3:=Lib.hid (fun W=>den_any a W);have K4:=Lib.hid (fun W=>imul_nat b.num a.den W (by have:=ha.1;have:=hb.1;omega) (by have:=ha.2;have:=hb.2;omega));have K5:=Lib.hid (fun W=>imul_nn a.den b.den W (by have:=ha.2;omega) (by have:=hb.2;omega));clear h ha hb;go_enter Tryz.func131,Tryz.ntmps131;go_wp2_with fail;refine wp_named ?_;intro W1 hW1;have c1_0:At W1 w.heap.size 0 [.bool (ng a.num),.string (mg a.num.natAbs),.bool false,.string (mg (dn a))]:=by rw [hW1];simp [At,go_sem]
 have c1_1:At W1 (w.heap.size+1) 0 [.bool (ng b.num),.string (mg b.num.natAbs),.bool false,.string (mg (dn b))]:=by rw [hW1];simp [At,go_sem]
 have c1_2:Own W1 (w.heap.size+2) 0 [.bool false,.string ⟨#[]⟩]:=by rw [hW1];simp [Own,go_sem]
 have c1_3:Own W1 (w.heap.size+3) 0 [.bool false,.string ⟨#[]⟩]:=by rw [hW1];simp [Own,go_sem]
 have c1_4:Own W1 (w.heap.size+4) 0 [.bool false,.string ⟨#[]⟩]:=by rw [hW1];simp [Own,go_sem]
 have hB1:Below w.heap.size w W1:=by rw [hW1];exact bB
 clear hW1;have dc1_0:=fun p:Bel W1=>c1_0.bel p;have dc1_1:=fun p:Bel W1=>c1_1.bel p;have dc1_2:=fun p:Bel W1=>c1_2.bel p;have dc1_3:=fun p:Bel W1=>c1_3.bel p;have dc1_4:=fun p:Bel W1=>c1_4.bel p
 simp only [At,Own,Nat.reduceAdd,and_true] at dc1_0 dc1_1 dc1_2 dc1_3 dc1_4;refine wp_region_tail 15 (by kernel_rfl) (by kernel_rfl) ?_;simp only [List.take_succ_cons,List.take_zero,List.drop_succ_cons,List.drop_zero];repeat (go_big_quiet_step (first|(go_at_call 145;with_reducible exact Calls.bel (K1.out _))|(go_at_call 144;with_reducible exact Calls.bel (K2.out _))|(go_at_call 145;with_reducible exact Calls.bel (K3.out _))|(go_at_call 144;with_reducible exact Calls.bel (K4.out _))|(go_at_call 144;with_reducible exact Calls.bel (K5.out _))))
 refine wpQuiet_nil ?_;intro w1 hb1;have c1_0x:=c1_0.up hb1;have c1_1x:=c1_1.up hb1;have c1_2x:=c1_2.up hb1;have c1_3x:=c1_3.up hb1;have c1_4x:=c1_4.up hb1;clear dc1_0 dc1_1 dc1_2 dc1_3 dc1_4 c1_0 c1_1 c1_2 c1_3 c1_4;have hD1:Below w.heap.size w w1:=bel_up hB1 hb1;have uc1_0x:=c1_0x;have uc1_1x:=c1_1x;have uc1_2x:=c1_2x;have uc1_3x:=c1_3x;have uc1_4x:=c1_4x;simp only [At,Own,Nat.reduceAdd,and_true] at uc1_0x uc1_1x uc1_2x uc1_3x uc1_4x
 -- NE
 go_wp2;refine bodyPost_ret (v:=.tuple #[.agg #[.bool (ng (a.num*b.den)),.string (mg (a.num*b.den).natAbs)],.agg #[.bool (ng (b.num*a.den)),.string (mg (b.num*a.den).natAbs)],.agg #[.bool false,.string (mg (a.den*b.den))]]) (by simp [results,Tryz.results131,go_sem,uc1_2x,uc1_3x,uc1_4x]) rfl ⟨rfl,?_⟩;exact bB

theorem cross_any (a b:Rat) (w:World) (ha:Pl.Sz 16777216 a) (hb:Pl.Sz 16777216 b) :
 Calls Tryz.prog 131 #[qv a,qv b] w fun e w'=>e=.returned (.tuple #[iv (crX a b),iv (crY a b),nv (crD a b)])∧Below w.heap.size w w':=by
 unfold crX crY crD
 by_cases h:a.den=b.den
 ·rw [if_pos h,if_pos h,if_pos h];exact cross_same a b w h
 ·rw [if_neg h,if_neg h,if_neg h];exact cross_far a b w h ha hb

set_option maxHeartbeats 1000000 in
theorem qadd_any (a:Rat) (b:Rat) (w:World) (ha:Pl.Sz 16777216 a) (hb:Pl.Sz 16777216 b) :
 Calls Tryz.prog 72 #[qv a,qv b] w fun e w'=>e=.returned (qv (a+b))∧Below w.heap.size w w':=by
 skip
 obtain ⟨hx,hy,hdl⟩:=cr_sizes ha hb;have kx:=fun W=>cross_any a b W ha hb
 have kc:=fun W=>canon_any (crX a b+crY a b) (crD a b) W (crD_ne a b) (by have:=Pl.L_natAbs_add (crX a b) (crY a b);omega) (by omega)
 simp only [cr_sum] at kc;have ki:=fun W=>iadd_any (crX a b) (crY a b) W (by omega) (by omega)
 generalize crX a b=X at kx kc ki;generalize crY a b=Y at kx kc ki;generalize crD a b=D at kx kc ki;generalize a+b=S at kc ⊢;have KX:=Lib.hid kx;have KC:=Lib.hid kc;have KI:=Lib.hid ki;clear kx kc ki hx hy hdl;have K1:=Lib.hid (fun W=>KX.out W);have K2:=Lib.hid (fun W=>KI.out W);have K3:=Lib.hid (fun W=>KC.out W);clear ha hb;go_enter Tryz.func72,Tryz.ntmps72;go_wp2_with fail;refine calls_named ?_;intro W1 hW1;have c1_0:At W1 w.heap.size 0 [.bool (ng a.num),.string (mg a.num.natAbs),.bool false,.string (mg (dn a))]:=by rw [hW1];simp [At,go_sem]
 have c1_1:At W1 (w.heap.size+1) 0 [.bool (ng b.num),.string (mg b.num.natAbs),.bool false,.string (mg (dn b))]:=by rw [hW1];simp [At,go_sem]
 have c1_2:Own W1 (w.heap.size+2) 0 [.bool false,.string ⟨#[]⟩,.bool false,.string ⟨#[]⟩]:=by rw [hW1];simp [Own,go_sem]
 have hB1:Below w.heap.size w W1:=by rw [hW1];exact bB
 clear hW1;have uc1_0:=c1_0;have uc1_1:=c1_1;have uc1_2:=c1_2;simp only [At,Own,Nat.reduceAdd,and_true] at uc1_0 uc1_1 uc1_2;with_reducible refine (K1.out _).mono ?_
 rintro e w1 ⟨rfl,hb1⟩;have c1_0x:=c1_0.up hb1;have c1_1x:=c1_1.up hb1;have c1_2x:=c1_2.up hb1;have hDw1:Below w.heap.size w w1:=bel_up hB1 hb1;clear uc1_0 uc1_1 uc1_2 c1_0 c1_1 c1_2;have uc1_0x:=c1_0x;have uc1_1x:=c1_1x;have uc1_2x:=c1_2x;simp only [At,Own,Nat.reduceAdd,and_true] at uc1_0x uc1_1x uc1_2x
 -- NE
 have nc1_0x_0_:w.heap.size<w1.heap.size:=by have:=c1_0x.lt;omega
 have nc1_0x_0:=Nat.ne_of_lt nc1_0x_0_;have nc1_0x_0':=nc1_0x_0.symm;have nc1_1x_0_:w.heap.size+1<w1.heap.size:=by have:=c1_1x.lt;omega
 have nc1_1x_0:=Nat.ne_of_lt nc1_1x_0_;have nc1_1x_0':=nc1_1x_0.symm;have nc1_2x_0_:w.heap.size+2<w1.heap.size:=by have:=c1_2x.lt;omega
 have nc1_2x_0:=Nat.ne_of_lt nc1_2x_0_;have nc1_2x_0':=nc1_2x_0.symm;have nc1_0x_1_:w.heap.size<w1.heap.size+1:=by have:=c1_0x.lt;omega
 have nc1_0x_1:=Nat.ne_of_lt nc1_0x_1_;have nc1_0x_1':=nc1_0x_1.symm;have nc1_1x_1_:w.heap.size+1<w1.heap.size+1:=by have:=c1_1x.lt;omega
 have nc1_1x_1:=Nat.ne_of_lt nc1_1x_1_;have nc1_1x_1':=nc1_1x_1.symm;have nc1_2x_1_:w.heap.size+2<w1.heap.size+1:=by have:=c1_2x.lt;omega
 have nc1_2x_1:=Nat.ne_of_lt nc1_2x_1_;have nc1_2x_1':=nc1_2x_1.symm;have nc1_0x_2_:w.heap.size<w1.heap.size+2:=by have:=c1_0x.lt;omega
 have nc1_0x_2:=Nat.ne_of_lt nc1_0x_2_;have nc1_0x_2':=nc1_0x_2.symm;have nc1_1x_2_:w.heap.size+1<w1.heap.size+2:=by have:=c1_1x.lt;omega
 have nc1_1x_2:=Nat.ne_of_lt nc1_1x_2_;have nc1_1x_2':=nc1_1x_2.symm;have nc1_2x_2_:w.heap.size+2<w1.heap.size+2:=by have:=c1_2x.lt;omega
 have nc1_2x_2:=Nat.ne_of_lt nc1_2x_2_;have nc1_2x_2':=nc1_2x_2.symm;go_wp2_with fail;refine wp_named ?_;intro W2 hW2;have hL2:Below w1.heap.size w1 W2:=by rw [hW2];exact bB
 have c2_0:=c1_0x.up hL2;have c2_1:=c1_1x.up hL2;have c2_2:=c1_2x.up hL2;have c2_3:Own W2 w1.heap.size 0 [.bool (ng X),.string (mg X.natAbs)]:=by rw [hW2];simp [Own,go_sem,uc1_0x,uc1_1x,uc1_2x,nc1_0x_0,nc1_0x_0',nc1_0x_0_,nc1_1x_0,nc1_1x_0',nc1_1x_0_,nc1_2x_0,nc1_2x_0',nc1_2x_0_,nc1_0x_1,nc1_0x_1',nc1_0x_1_,nc1_1x_1,nc1_1x_1',nc1_1x_1_,nc1_2x_1,nc1_2x_1',nc1_2x_1_,nc1_0x_2,nc1_0x_2',nc1_0x_2_,nc1_1x_2,nc1_1x_2',nc1_1x_2_,nc1_2x_2,nc1_2x_2',nc1_2x_2_]
 have c2_4:Own W2 (w1.heap.size+1) 0 [.bool (ng Y),.string (mg Y.natAbs)]:=by rw [hW2];simp [Own,go_sem,uc1_0x,uc1_1x,uc1_2x,nc1_0x_0,nc1_0x_0',nc1_0x_0_,nc1_1x_0,nc1_1x_0',nc1_1x_0_,nc1_2x_0,nc1_2x_0',nc1_2x_0_,nc1_0x_1,nc1_0x_1',nc1_0x_1_,nc1_1x_1,nc1_1x_1',nc1_1x_1_,nc1_2x_1,nc1_2x_1',nc1_2x_1_,nc1_0x_2,nc1_0x_2',nc1_0x_2_,nc1_1x_2,nc1_1x_2',nc1_1x_2_,nc1_2x_2,nc1_2x_2',nc1_2x_2_]
 have c2_5:Own W2 (w1.heap.size+2) 0 [.bool false,.string (mg D)]:=by rw [hW2];simp [Own,go_sem,uc1_0x,uc1_1x,uc1_2x,nc1_0x_0,nc1_0x_0',nc1_0x_0_,nc1_1x_0,nc1_1x_0',nc1_1x_0_,nc1_2x_0,nc1_2x_0',nc1_2x_0_,nc1_0x_1,nc1_0x_1',nc1_0x_1_,nc1_1x_1,nc1_1x_1',nc1_1x_1_,nc1_2x_1,nc1_2x_1',nc1_2x_1_,nc1_0x_2,nc1_0x_2',nc1_0x_2_,nc1_1x_2,nc1_1x_2',nc1_1x_2_,nc1_2x_2,nc1_2x_2',nc1_2x_2_]
 have hB2:Below w.heap.size w W2:=by rw [hW2];exact bB
 clear hW2 hL2 uc1_0x uc1_1x uc1_2x c1_0x c1_1x c1_2x;have dc2_0:=fun p:Bel W2=>c2_0.bel p;have dc2_1:=fun p:Bel W2=>c2_1.bel p;have dc2_2:=fun p:Bel W2=>c2_2.bel p;have dc2_3:=fun p:Bel W2=>c2_3.bel p;have dc2_4:=fun p:Bel W2=>c2_4.bel p;have dc2_5:=fun p:Bel W2=>c2_5.bel p
 simp only [At,Own,Nat.reduceAdd,and_true] at dc2_0 dc2_1 dc2_2 dc2_3 dc2_4 dc2_5;refine wp_region_tail 5 (by kernel_rfl) (by kernel_rfl) ?_;simp only [List.take_succ_cons,List.take_zero,List.drop_succ_cons,List.drop_zero];repeat (go_big_quiet_step (first|(go_at_call 133;with_reducible exact Calls.bel (K2.out _))|(go_at_call 132;with_reducible exact Calls.bel (K3.out _))))
 refine wpQuiet_nil ?_;intro w2 hb2;have c2_0x:=c2_0.up hb2;have c2_1x:=c2_1.up hb2;have c2_2x:=c2_2.up hb2;have c2_3x:=c2_3.up hb2;have c2_4x:=c2_4.up hb2;have c2_5x:=c2_5.up hb2;clear dc2_0 dc2_1 dc2_2 dc2_3 dc2_4 dc2_5 c2_0 c2_1 c2_2 c2_3 c2_4 c2_5;have hD2:Below w.heap.size w w2:=bel_up hB2 hb2;have uc2_0x:=c2_0x;have uc2_1x:=c2_1x;have uc2_2x:=c2_2x;have uc2_3x:=c2_3x;have uc2_4x:=c2_4x;have uc2_5x:=c2_5x;simp only [At,Own,Nat.reduceAdd,and_true] at uc2_0x uc2_1x uc2_2x uc2_3x uc2_4x uc2_5x
 -- NE
 go_wp2;refine bodyPost_ret (v:=.agg #[.bool (ng S.num),.string (mg S.num.natAbs),.bool false,.string (mg (dn S))]) (by simp [results,Tryz.results72,go_sem,uc2_2x]) rfl ⟨rfl,?_⟩;exact bB

theorem qneg_any (a:Rat) (w:World) :
 Calls Tryz.prog 122 #[qv a] w fun e w'=>e=.returned (qv (-a))∧Below w.heap.size w w':=by
 have K1:=Lib.hid (fun W=>negate_any a.num W);go_enter Tryz.func122,Tryz.ntmps122;go_wp2_with fail;refine wp_named ?_;intro W1 hW1;have c1_0:At W1 w.heap.size 0 [.bool (ng a.num),.string (mg a.num.natAbs),.bool false,.string (mg (dn a))]:=by rw [hW1];simp [At,go_sem]
 have c1_1:Own W1 (w.heap.size+1) 0 [.bool false,.string ⟨#[]⟩,.bool false,.string ⟨#[]⟩]:=by rw [hW1];simp [Own,go_sem]
 have hB1:Below w.heap.size w W1:=by rw [hW1];exact bB
 clear hW1;have dc1_0:=fun p:Bel W1=>c1_0.bel p;have dc1_1:=fun p:Bel W1=>c1_1.bel p
 simp only [At,Own,Nat.reduceAdd,and_true] at dc1_0 dc1_1;refine wp_region_tail 6 (by kernel_rfl) (by kernel_rfl) ?_;simp only [List.take_succ_cons,List.take_zero,List.drop_succ_cons,List.drop_zero];repeat (go_big_quiet_step (first|(go_at_call 159;with_reducible exact Calls.bel (K1.out _))))
 refine wpQuiet_nil ?_;intro w1 hb1;have c1_0x:=c1_0.up hb1;have c1_1x:=c1_1.up hb1;clear dc1_0 dc1_1 c1_0 c1_1;have hD1:Below w.heap.size w w1:=bel_up hB1 hb1;have uc1_0x:=c1_0x;have uc1_1x:=c1_1x;simp only [At,Own,Nat.reduceAdd,and_true] at uc1_0x uc1_1x
 -- NE
 go_wp2;refine bodyPost_ret (v:=.agg #[.bool (ng (-a.num)),.string (mg (-a.num).natAbs),.bool false,.string (mg (dn a))]) (by simp [results,Tryz.results122,go_sem,uc1_1x]) rfl ⟨rfl,?_⟩;exact bB

theorem qsub_any (a:Rat) (b:Rat) (w:World) (ha:Pl.Sz 16777216 a) (hb:Pl.Sz 16777216 b) :
 Calls Tryz.prog 64 #[qv a,qv b] w fun e w'=>e=.returned (qv (a-b))∧Below w.heap.size w w':=by
 have ka:=fun W=>qadd_any a (-b) W ha hb.neg
 simp only [← Rat.sub_eq_add_neg] at ka;have KA:=Lib.hid ka;clear ka;have K1:=Lib.hid (fun W=>qneg_any b W);have K2:=Lib.hid (fun W=>KA.out W);clear ha hb;go_enter Tryz.func64,Tryz.ntmps64;go_wp2_with fail;refine wp_named ?_;intro W1 hW1;have c1_0:At W1 w.heap.size 0 [.bool (ng a.num),.string (mg a.num.natAbs),.bool false,.string (mg (dn a))]:=by rw [hW1];simp [At,go_sem]
 have c1_1:At W1 (w.heap.size+1) 0 [.bool (ng b.num),.string (mg b.num.natAbs),.bool false,.string (mg (dn b))]:=by rw [hW1];simp [At,go_sem]
 have c1_2:Own W1 (w.heap.size+2) 0 [.bool false,.string ⟨#[]⟩,.bool false,.string ⟨#[]⟩]:=by rw [hW1];simp [Own,go_sem]
 have hB1:Below w.heap.size w W1:=by rw [hW1];exact bB
 clear hW1;have dc1_0:=fun p:Bel W1=>c1_0.bel p;have dc1_1:=fun p:Bel W1=>c1_1.bel p;have dc1_2:=fun p:Bel W1=>c1_2.bel p
 simp only [At,Own,Nat.reduceAdd,and_true] at dc1_0 dc1_1 dc1_2;refine wp_region_tail 4 (by kernel_rfl) (by kernel_rfl) ?_;simp only [List.take_succ_cons,List.take_zero,List.drop_succ_cons,List.drop_zero];repeat (go_big_quiet_step (first|(go_at_call 122;with_reducible exact Calls.bel (K1.out _))|(go_at_call 72;with_reducible exact Calls.bel (K2.out _))))
 refine wpQuiet_nil ?_;intro w1 hb1;have c1_0x:=c1_0.up hb1;have c1_1x:=c1_1.up hb1;have c1_2x:=c1_2.up hb1;clear dc1_0 dc1_1 dc1_2 c1_0 c1_1 c1_2;have hD1:Below w.heap.size w w1:=bel_up hB1 hb1;have uc1_0x:=c1_0x;have uc1_1x:=c1_1x;have uc1_2x:=c1_2x;simp only [At,Own,Nat.reduceAdd,and_true] at uc1_0x uc1_1x uc1_2x
 -- NE
 go_wp2;refine bodyPost_ret (v:=.agg #[.bool (ng ((a-b).num)),.string (mg ((a-b).num).natAbs),.bool false,.string (mg (dn (a-b)))]) (by simp [results,Tryz.results64,go_sem,uc1_2x]) rfl ⟨rfl,?_⟩;exact bB

set_option maxHeartbeats 1000000 in
theorem qmul_any (a:Rat) (b:Rat) (w:World) (ha:Pl.Sz 16777216 a) (hb:Pl.Sz 16777216 b) :
 Calls Tryz.prog 134 #[qv a,qv b] w fun e w'=>e=.returned (qv (a*b))∧Below w.heap.size w w':=by
 have kc:=fun W=>canon_any (a.num*b.num) (a.den*b.den) W (Nat.mul_ne_zero a.den_nz b.den_nz) (by have:=Pl.L_natAbs_mul a.num b.num;have:=ha.1;have:=hb.1;omega) (by have:=Pl.L_mul a.den b.den;have:=ha.2;have:=hb.2;omega)
 simp only [Pl.mul_nums] at kc;have KC:=Lib.hid kc;clear kc;have K1:=Lib.hid (fun W=>imul_any a.num b.num W (by have:=ha.1;omega) (by have:=hb.1;omega));have K2:=Lib.hid (fun W=>den_any a W);have K3:=Lib.hid (fun W=>den_any b W);have K4:=Lib.hid (fun W=>imul_nn a.den b.den W (by have:=ha.2;omega) (by have:=hb.2;omega));have K5:=Lib.hid (fun W=>KC.out W);clear ha hb;go_enter Tryz.func134,Tryz.ntmps134;go_wp2_with fail;refine wp_named ?_;intro W1 hW1;have c1_0:At W1 w.heap.size 0 [.bool (ng a.num),.string (mg a.num.natAbs),.bool false,.string (mg (dn a))]:=by rw [hW1];simp [At,go_sem]
 have c1_1:At W1 (w.heap.size+1) 0 [.bool (ng b.num),.string (mg b.num.natAbs),.bool false,.string (mg (dn b))]:=by rw [hW1];simp [At,go_sem]
 have c1_2:Own W1 (w.heap.size+2) 0 [.bool false,.string ⟨#[]⟩,.bool false,.string ⟨#[]⟩]:=by rw [hW1];simp [Own,go_sem]
 have hB1:Below w.heap.size w W1:=by rw [hW1];exact bB
 clear hW1;have dc1_0:=fun p:Bel W1=>c1_0.bel p;have dc1_1:=fun p:Bel W1=>c1_1.bel p;have dc1_2:=fun p:Bel W1=>c1_2.bel p
 simp only [At,Own,Nat.reduceAdd,and_true] at dc1_0 dc1_1 dc1_2;refine wp_region_tail 11 (by kernel_rfl) (by kernel_rfl) ?_;simp only [List.take_succ_cons,List.take_zero,List.drop_succ_cons,List.drop_zero];repeat (go_big_quiet_step (first|(go_at_call 144;with_reducible exact Calls.bel (K1.out _))|(go_at_call 145;with_reducible exact Calls.bel (K2.out _))|(go_at_call 145;with_reducible exact Calls.bel (K3.out _))|(go_at_call 144;with_reducible exact Calls.bel (K4.out _))|(go_at_call 132;with_reducible exact Calls.bel (K5.out _))))
 refine wpQuiet_nil ?_;intro w1 hb1;have c1_0x:=c1_0.up hb1;have c1_1x:=c1_1.up hb1;have c1_2x:=c1_2.up hb1;clear dc1_0 dc1_1 dc1_2 c1_0 c1_1 c1_2;have hD1:Below w.heap.size w w1:=bel_up hB1 hb1;have uc1_0x:=c1_0x;have uc1_1x:=c1_1x;have uc1_2x:=c1_2x;simp only [At,Own,Nat.reduceAdd,and_true] at uc1_0x uc1_1x uc1_2x
 -- NE
 go_wp2;refine bodyPost_ret (v:=.agg #[.bool (ng ((a*b).num)),.string (mg ((a*b).num).natAbs),.bool false,.string (mg (dn (a*b)))]) (by simp [results,Tryz.results134,go_sem,uc1_2x]) rfl ⟨rfl,?_⟩;exact bB

theorem sign_ne {z:Int} (h:z≠0):(z.sign==0)=false:=by
 rcases Int.lt_trichotomy z 0 with h1|h1|h1
 ·rw [Int.sign_eq_neg_one_of_neg h1];rfl
 ·exact absurd h1 h
 ·rw [Int.sign_eq_one_of_pos h1];rfl

theorem make_any (n:Int) (d:Int) (w:World) (hd:d≠0) (ha:Pl.L n.natAbs≤67108864) (hb:Pl.L d.natAbs≤67108864) :
 Calls Tryz.prog 143 #[iv n,iv d] w fun e w'=>e=.returned (.tuple #[qv (Rat.divInt n d),.int .i64 0])∧Below w.heap.size w w':=by
 have ks:=fun W=>sign_any d W
 have hz:=sign_ne hd;generalize d.sign=z at ks hz;have KS:=Lib.hid ks;clear ks;have K1:=Lib.hid (fun W=>KS.out W);have K2:=Lib.hid (fun W=>canon_div n d W hd ha hb);clear hd ha hb;go_enter Tryz.func143,Tryz.ntmps143;go_wp2_with fail;refine calls_named ?_;intro W1 hW1;have c1_0:At W1 w.heap.size 0 [.bool (ng n),.string (mg n.natAbs)]:=by rw [hW1];simp [At,go_sem]
 have c1_1:At W1 (w.heap.size+1) 0 [.bool (ng d),.string (mg d.natAbs)]:=by rw [hW1];simp [At,go_sem]
 have c1_2:Own W1 (w.heap.size+2) 0 [.bool false,.string ⟨#[]⟩,.bool false,.string ⟨#[]⟩]:=by rw [hW1];simp [Own,go_sem]
 have hB1:Below w.heap.size w W1:=by rw [hW1];exact bB
 clear hW1;have uc1_0:=c1_0;have uc1_1:=c1_1;have uc1_2:=c1_2;simp only [At,Own,Nat.reduceAdd,and_true] at uc1_0 uc1_1 uc1_2;with_reducible refine (K1.out _).mono ?_
 rintro e w1 ⟨rfl,hb1⟩;have c1_0x:=c1_0.up hb1;have c1_1x:=c1_1.up hb1;have c1_2x:=c1_2.up hb1;have hDw1:Below w.heap.size w w1:=bel_up hB1 hb1;clear uc1_0 uc1_1 uc1_2 c1_0 c1_1 c1_2;have uc1_0x:=c1_0x;have uc1_1x:=c1_1x;have uc1_2x:=c1_2x;simp only [At,Own,Nat.reduceAdd,and_true] at uc1_0x uc1_1x uc1_2x
 -- NE
 go_wp2_with fail;refine calls_named ?_;intro W2 hW2;have hL2:Below w1.heap.size w1 W2:=by rw [hW2];exact bB
 have c2_0:=c1_0x.up hL2;have c2_1:=c1_1x.up hL2;have c2_2:=c1_2x.up hL2;have hB2:Below w.heap.size w W2:=by rw [hW2];exact bB
 clear hW2 hL2 uc1_0x uc1_1x uc1_2x c1_0x c1_1x c1_2x;have uc2_0:=c2_0;have uc2_1:=c2_1;have uc2_2:=c2_2;simp only [At,Own,Nat.reduceAdd,and_true] at uc2_0 uc2_1 uc2_2;with_reducible refine (K2.out _).mono ?_
 rintro e w2 ⟨rfl,hb2⟩;have c2_0x:=c2_0.up hb2;have c2_1x:=c2_1.up hb2;have c2_2x:=c2_2.up hb2;have hDw2:Below w.heap.size w w2:=bel_up hB2 hb2;clear uc2_0 uc2_1 uc2_2 c2_0 c2_1 c2_2;have uc2_0x:=c2_0x;have uc2_1x:=c2_1x;have uc2_2x:=c2_2x;simp only [At,Own,Nat.reduceAdd,and_true] at uc2_0x uc2_1x uc2_2x
 -- NE
 go_wp2;refine bodyPost_ret (v:=.tuple #[.agg #[.bool (ng ((Rat.divInt n d).num)),.string (mg ((Rat.divInt n d).num).natAbs),.bool false,.string (mg (dn (Rat.divInt n d)))],.int .i64 0]) (by simp [results,Tryz.results143,go_sem,uc2_2x]) rfl ⟨rfl,?_⟩;exact bB

set_option maxHeartbeats 1000000 in
theorem qdiv_any (a:Rat) (b:Rat) (w:World) (h:b≠0) (ha:Pl.Sz 16777216 a) (hb:Pl.Sz 16777216 b) :
 Calls Tryz.prog 104 #[qv a,qv b] w fun e w'=>e=.returned (.tuple #[qv (a/b),.int .i64 0])∧Below w.heap.size w w':=by
 have km:=fun W=>make_any (a.num*b.den) (a.den*b.num) W (Int.mul_ne_zero (by have:=a.den_nz;omega) (fun e=>h (Rat.num_eq_zero.1 e))) (by have:=Pl.L_natAbs_mul a.num b.den;rw [Int.natAbs_natCast] at this;have:=ha.1;have:=hb.2;omega) (by have:=Pl.L_natAbs_mul a.den b.num;rw [Int.natAbs_natCast] at this;have:=ha.2;have:=hb.1;omega)
 simp only [Pl.div_nums] at km;have KM:=Lib.hid km;clear km;have K1:=Lib.hid (fun W=>den_any b W);have K2:=Lib.hid (fun W=>imul_nat a.num b.den W (by have:=ha.1;have:=hb.1;omega) (by have:=ha.2;have:=hb.2;omega));have K3:=Lib.hid (fun W=>den_any a W);have K4:=Lib.hid (fun W=>imul_nz a.den b.num W (by have:=ha.2;have:=hb.2;omega) (by have:=ha.1;have:=hb.1;omega));have K5:=Lib.hid (fun W=>KM.out W);clear h ha hb;go_enter Tryz.func104,Tryz.ntmps104;go_wp2_with fail;refine wp_named ?_;intro W1 hW1;have c1_0:At W1 w.heap.size 0 [.bool (ng a.num),.string (mg a.num.natAbs),.bool false,.string (mg (dn a))]:=by rw [hW1];simp [At,go_sem]
 have c1_1:At W1 (w.heap.size+1) 0 [.bool (ng b.num),.string (mg b.num.natAbs),.bool false,.string (mg (dn b))]:=by rw [hW1];simp [At,go_sem]
 have c1_2:Own W1 (w.heap.size+2) 0 [.bool false,.string ⟨#[]⟩,.bool false,.string ⟨#[]⟩]:=by rw [hW1];simp [Own,go_sem]
 have hB1:Below w.heap.size w W1:=by rw [hW1];exact bB
 clear hW1;have dc1_0:=fun p:Bel W1=>c1_0.bel p;have dc1_1:=fun p:Bel W1=>c1_1.bel p;have dc1_2:=fun p:Bel W1=>c1_2.bel p
 simp only [At,Own,Nat.reduceAdd,and_true] at dc1_0 dc1_1 dc1_2;refine wp_region_tail 13 (by kernel_rfl) (by kernel_rfl) ?_;simp only [List.take_succ_cons,List.take_zero,List.drop_succ_cons,List.drop_zero];repeat (go_big_quiet_step (first|(go_at_call 145;with_reducible exact Calls.bel (K1.out _))|(go_at_call 144;with_reducible exact Calls.bel (K2.out _))|(go_at_call 145;with_reducible exact Calls.bel (K3.out _))|(go_at_call 144;with_reducible exact Calls.bel (K4.out _))|(go_at_call 143;with_reducible exact Calls.bel (K5.out _))))
 refine wpQuiet_nil ?_;intro w1 hb1;have c1_0x:=c1_0.up hb1;have c1_1x:=c1_1.up hb1;have c1_2x:=c1_2.up hb1;clear dc1_0 dc1_1 dc1_2 c1_0 c1_1 c1_2;have hD1:Below w.heap.size w w1:=bel_up hB1 hb1;have uc1_0x:=c1_0x;have uc1_1x:=c1_1x;have uc1_2x:=c1_2x;simp only [At,Own,Nat.reduceAdd,and_true] at uc1_0x uc1_1x uc1_2x
 -- NE
 go_wp2;refine bodyPost_ret (v:=.tuple #[.agg #[.bool (ng ((a/b).num)),.string (mg ((a/b).num).natAbs),.bool false,.string (mg (dn (a/b)))],.int .i64 0]) (by simp [results,Tryz.results104,go_sem,uc1_2x]) rfl ⟨rfl,?_⟩;exact bB

theorem qsign_any (a:Rat) (w:World) :
 Calls Tryz.prog 125 #[qv a] w fun e w'=>e=.returned (.int .i64 (Pl.sgn a))∧Below w.heap.size w w':=by
 have ks:=fun W=>sign_any a.num W
 rw [show a.num.sign=Pl.sgn a from rfl] at ks;generalize Pl.sgn a=z at ks ⊢;have KS:=Lib.hid ks;clear ks;have K1:=Lib.hid (fun W=>KS.out W);go_enter Tryz.func125,Tryz.ntmps125;go_wp2_with fail;refine calls_named ?_;intro W1 hW1;have c1_0:At W1 w.heap.size 0 [.bool (ng a.num),.string (mg a.num.natAbs),.bool false,.string (mg (dn a))]:=by rw [hW1];simp [At,go_sem]
 have hB1:Below w.heap.size w W1:=by rw [hW1];exact bB
 clear hW1;have uc1_0:=c1_0;simp only [At,Own,Nat.reduceAdd,and_true] at uc1_0;with_reducible refine (K1.out _).mono ?_
 rintro e w1 ⟨rfl,hb1⟩;have c1_0x:=c1_0.up hb1;have hDw1:Below w.heap.size w w1:=bel_up hB1 hb1;clear uc1_0 c1_0;have uc1_0x:=c1_0x;simp only [At,Own,Nat.reduceAdd,and_true] at uc1_0x
 -- NE
 go_wp2;go_ret;refine ⟨rfl,?_⟩;exact bB
end Go.Proofs.YtiochgoocbkckaaGreatDoor
