/-
 Contracts of package rational: comparisons; equal structs.
-/
import Derived.Test.YtdkkjfnpinckjaaGreatDoorYQ2
import Derived.Test.YtdkkjfnpinckjaaGreatDoorYMa
set_option maxRecDepth 100000
set_option linter.unusedSimpArgs false
set_option linter.unusedVariables false
namespace Go.Proofs.YtdkkjfnpinckjaaGreatDoor
open Go Go.RowKit

theorem eqI_at (d:Nat) (s t:Bool) (m n:Nat) (w:World):(Op.equalIn (d+2) 31 (.agg #[.bool s,.string (mg m)]) (.agg #[.bool t,.string (mg n)])).run Tryz.prog w=.ok (s==t&&decide (m=n)) w:=by
 have ub:=Tryz.underlying4;have us:=Tryz.underlying9;have ab:=Tryz.isAgg4;have zb:=Tryz.sizeOf4;have ag:=Tryz.isAgg9;have zs:=Tryz.sizeOf9;have hS:Tryz.prog.underlying 31 = some (.struct (Tryz.prog.fieldsOf 31)):=by kernel_rfl
 have hp:Tryz.prog.stoodInHeld 31 = false:=by kernel_rfl
 rw [show d+2=(d+1)+1 from rfl,run_equalIn_agg w (d+1) 31 _ _ hS hp];simp only [Program.fieldsOf,Tryz.underlying31];go_simp;have hm:=mg_beq m n
 by_cases h1:s=t<;>by_cases h2:m=n<;>simp_all
theorem ng_inj {a b:Int} (h:ng a=ng b) (h2:a.natAbs=b.natAbs):a=b:=by
 unfold ng at h;rw [decide_eq_decide] at h;omega
theorem q_eq {a b:Rat} : ((ng a.num==ng b.num)&&decide (a.num.natAbs=b.num.natAbs)&&decide (dn a=dn b))=decide (a=b):=by
 rw [Bool.eq_iff_iff];simp only [Bool.and_eq_true,beq_iff_eq,decide_eq_true_eq,dn_eq];constructor
 ·rintro ⟨⟨h1,h2⟩,h3⟩;exact Rat.ext (ng_inj h1 h2) h3
 ·rintro rfl;exact ⟨⟨rfl,rfl⟩,rfl⟩
theorem eqQ_at (d:Nat) (a b:Rat) (w:World):(Op.equalIn (d+3) 33 (qv a) (qv b)).run Tryz.prog w=.ok (decide (a=b)) w:=by
 have ab:=Tryz.isAgg31;have zb:=Tryz.sizeOf31;have hS:Tryz.prog.underlying 33 = some (.struct (Tryz.prog.fieldsOf 33)):=by kernel_rfl
 have hp:Tryz.prog.stoodInHeld 33 = false:=by kernel_rfl
 have E:=eqI_at d;rw [show d+3=(d+2)+1 from rfl,run_equalIn_agg w (d+2) 33 _ _ hS hp];simp only [Program.fieldsOf,Tryz.underlying33];rw [← q_eq];go_simp
 by_cases h1:ng a.num=ng b.num<;>by_cases h2:a.num.natAbs=b.num.natAbs<;>by_cases h3:dn a=dn b<;>simp_all
theorem eqQ_in (a b:Rat) (w:World):(Op.equalIn 10000 33 (.agg #[.bool (ng a.num),.string (mg a.num.natAbs),.bool false,.string (mg (dn a))]) (.agg #[.bool (ng b.num),.string (mg b.num.natAbs),.bool false,.string (mg (dn b))])).run Tryz.prog w=.ok (decide (a=b)) w:=eqQ_at 9997 a b w
abbrev pv (p:Rat×Rat):Value:=.agg #[.bool (ng p.1.num),.string (mg p.1.num.natAbs),.bool false,.string (mg (dn p.1)),.bool (ng p.2.num),.string (mg p.2.num.natAbs),.bool false,.string (mg (dn p.2))]
abbrev sv (s:(Rat×Rat)×(Rat×Rat)):Value:=.agg #[.bool (ng s.1.1.num),.string (mg s.1.1.num.natAbs),.bool false,.string (mg (dn s.1.1)),.bool (ng s.1.2.num),.string (mg s.1.2.num.natAbs),.bool false,.string (mg (dn s.1.2)),
 .bool (ng s.2.1.num),.string (mg s.2.1.num.natAbs),.bool false,.string (mg (dn s.2.1)),.bool (ng s.2.2.num),.string (mg s.2.2.num.natAbs),.bool false,.string (mg (dn s.2.2))]
theorem eqP_in (p q:Rat×Rat) (w:World):(Op.equalIn 10000 35 (pv p) (pv q)).run Tryz.prog w=.ok (decide (p=q)) w:=by
 have ab:=Tryz.isAgg33;have zb:=Tryz.sizeOf33;have hS:Tryz.prog.underlying 35 = some (.struct (Tryz.prog.fieldsOf 35)):=by kernel_rfl
 have hp:Tryz.prog.stoodInHeld 35 = false:=by kernel_rfl
 have E:∀ (a b:Rat) (w:World),(Op.equalIn 9999 33 (qv a) (qv b)).run Tryz.prog w=.ok (decide (a=b)) w:=eqQ_at 9996
 have e:decide (p=q)=(decide (p.1=q.1)&&decide (p.2=q.2)):=by rw [Bool.eq_iff_iff];simp [Prod.ext_iff]
 rw [show (10000:Nat)=9999+1 from rfl,run_equalIn_agg w 9999 35 _ _ hS hp];simp only [Program.fieldsOf,Tryz.underlying35];rw [e];go_simp
 by_cases h1:p.1=q.1<;>by_cases h2:p.2=q.2<;>simp_all

theorem qcmp_eq (a:Rat) (b:Rat) (w:World) (h:a=b) :
 Calls Tryz.prog 62 #[qv a,qv b] w fun e w'=>e=.returned (.int .i64 0)∧Below w.heap.size w w':=by
 have EQ:=fun W=>eqQ_in a b W
 rw [decide_eq_true h] at EQ;clear h;go_enter Tryz.func62,Tryz.ntmps62;go_wp2;go_ret;refine ⟨rfl,?_⟩;exact bB

theorem qcmp_ne (a:Rat) (b:Rat) (w:World) (h:¬ a=b) (ha:Pl.Sz 16777216 a) (hb:Pl.Sz 16777216 b) :
 Calls Tryz.prog 62 #[qv a,qv b] w fun e w'=>e=.returned (.int .i64 (Pl.cmpQ a b))∧Below w.heap.size w w':=by
 have EQ:=fun W=>eqQ_in a b W
 rw [decide_eq_false h] at EQ;have kx:=fun W=>cross_any a b W ha hb
 have kc:=fun W=>icmp_any (crX a b) (crY a b) W
 simp only [cr_cmp] at kc;generalize crX a b=X at kx kc;generalize crY a b=Y at kx kc;generalize crD a b=D at kx kc;have KX:=Lib.hid kx;have KC:=Lib.hid kc;clear kx kc;have K1:=Lib.hid (fun W=>KX.out W);have K2:=Lib.hid (fun W=>KC.out W);clear h ha hb;go_enter Tryz.func62,Tryz.ntmps62;go_wp2_with fail;refine calls_named ?_;intro W1 hW1;have c1_0:At W1 w.heap.size 0 [.bool (ng a.num),.string (mg a.num.natAbs),.bool false,.string (mg (dn a))]:=by rw [hW1];simp [At,go_sem]
 have c1_1:At W1 (w.heap.size+1) 0 [.bool (ng b.num),.string (mg b.num.natAbs),.bool false,.string (mg (dn b))]:=by rw [hW1];simp [At,go_sem]
 have hB1:Below w.heap.size w W1:=by rw [hW1];exact bB
 clear hW1;have uc1_0:=c1_0;have uc1_1:=c1_1;simp only [At,Own,Nat.reduceAdd,and_true] at uc1_0 uc1_1;with_reducible refine (K1.out _).mono ?_
 rintro e w1 ⟨rfl,hb1⟩;have c1_0x:=c1_0.up hb1;have c1_1x:=c1_1.up hb1;have hDw1:Below w.heap.size w w1:=bel_up hB1 hb1;clear uc1_0 uc1_1 c1_0 c1_1;have uc1_0x:=c1_0x;have uc1_1x:=c1_1x;simp only [At,Own,Nat.reduceAdd,and_true] at uc1_0x uc1_1x
 -- NE
 have nc1_0x_0_:w.heap.size<w1.heap.size:=by have:=c1_0x.lt;omega
 have nc1_0x_0:=Nat.ne_of_lt nc1_0x_0_;have nc1_0x_0':=nc1_0x_0.symm;have nc1_1x_0_:w.heap.size+1<w1.heap.size:=by have:=c1_1x.lt;omega
 have nc1_1x_0:=Nat.ne_of_lt nc1_1x_0_;have nc1_1x_0':=nc1_1x_0.symm;have nc1_0x_1_:w.heap.size<w1.heap.size+1:=by have:=c1_0x.lt;omega
 have nc1_0x_1:=Nat.ne_of_lt nc1_0x_1_;have nc1_0x_1':=nc1_0x_1.symm;have nc1_1x_1_:w.heap.size+1<w1.heap.size+1:=by have:=c1_1x.lt;omega
 have nc1_1x_1:=Nat.ne_of_lt nc1_1x_1_;have nc1_1x_1':=nc1_1x_1.symm;have nc1_0x_2_:w.heap.size<w1.heap.size+2:=by have:=c1_0x.lt;omega
 have nc1_0x_2:=Nat.ne_of_lt nc1_0x_2_;have nc1_0x_2':=nc1_0x_2.symm;have nc1_1x_2_:w.heap.size+1<w1.heap.size+2:=by have:=c1_1x.lt;omega
 have nc1_1x_2:=Nat.ne_of_lt nc1_1x_2_;have nc1_1x_2':=nc1_1x_2.symm;go_wp2_with fail;refine calls_named ?_;intro W2 hW2;have hL2:Below w1.heap.size w1 W2:=by rw [hW2];exact bB
 have c2_0:=c1_0x.up hL2;have c2_1:=c1_1x.up hL2;have c2_2:Own W2 w1.heap.size 0 [.bool (ng X),.string (mg X.natAbs)]:=by rw [hW2];simp [Own,go_sem,uc1_0x,uc1_1x,nc1_0x_0,nc1_0x_0',nc1_0x_0_,nc1_1x_0,nc1_1x_0',nc1_1x_0_,nc1_0x_1,nc1_0x_1',nc1_0x_1_,nc1_1x_1,nc1_1x_1',nc1_1x_1_,nc1_0x_2,nc1_0x_2',nc1_0x_2_,nc1_1x_2,nc1_1x_2',nc1_1x_2_]
 have c2_3:Own W2 (w1.heap.size+1) 0 [.bool (ng Y),.string (mg Y.natAbs)]:=by rw [hW2];simp [Own,go_sem,uc1_0x,uc1_1x,nc1_0x_0,nc1_0x_0',nc1_0x_0_,nc1_1x_0,nc1_1x_0',nc1_1x_0_,nc1_0x_1,nc1_0x_1',nc1_0x_1_,nc1_1x_1,nc1_1x_1',nc1_1x_1_,nc1_0x_2,nc1_0x_2',nc1_0x_2_,nc1_1x_2,nc1_1x_2',nc1_1x_2_]
 have c2_4:Own W2 (w1.heap.size+2) 0 [.bool false,.string (mg D)]:=by rw [hW2];simp [Own,go_sem,uc1_0x,uc1_1x,nc1_0x_0,nc1_0x_0',nc1_0x_0_,nc1_1x_0,nc1_1x_0',nc1_1x_0_,nc1_0x_1,nc1_0x_1',nc1_0x_1_,nc1_1x_1,nc1_1x_1',nc1_1x_1_,nc1_0x_2,nc1_0x_2',nc1_0x_2_,nc1_1x_2,nc1_1x_2',nc1_1x_2_]
 have hB2:Below w.heap.size w W2:=by rw [hW2];exact bB
 clear hW2 hL2 uc1_0x uc1_1x c1_0x c1_1x;have uc2_0:=c2_0;have uc2_1:=c2_1;have uc2_2:=c2_2;have uc2_3:=c2_3;have uc2_4:=c2_4;simp only [At,Own,Nat.reduceAdd,and_true] at uc2_0 uc2_1 uc2_2 uc2_3 uc2_4;with_reducible refine (K2.out _).mono ?_
 rintro e w2 ⟨rfl,hb2⟩;have c2_0x:=c2_0.up hb2;have c2_1x:=c2_1.up hb2;have c2_2x:=c2_2.up hb2;have c2_3x:=c2_3.up hb2;have c2_4x:=c2_4.up hb2;have hDw2:Below w.heap.size w w2:=bel_up hB2 hb2;clear uc2_0 uc2_1 uc2_2 uc2_3 uc2_4 c2_0 c2_1 c2_2 c2_3 c2_4;have uc2_0x:=c2_0x;have uc2_1x:=c2_1x;have uc2_2x:=c2_2x;have uc2_3x:=c2_3x;have uc2_4x:=c2_4x;simp only [At,Own,Nat.reduceAdd,and_true] at uc2_0x uc2_1x uc2_2x uc2_3x uc2_4x
 -- NE
 go_wp2;go_ret;refine ⟨rfl,?_⟩;exact bB

theorem qcmp_any (a b:Rat) (w:World) (ha:Pl.Sz 16777216 a) (hb:Pl.Sz 16777216 b) :
 Calls Tryz.prog 62 #[qv a,qv b] w fun e w'=>e=.returned (.int .i64 (Pl.cmpQ a b))∧Below w.heap.size w w':=by
 by_cases h:a=b
 ·rw [(Pl.cmp_zero_iff a b).2 h];exact qcmp_eq a b w h
 ·exact qcmp_ne a b w h ha hb

theorem qmax_yes (a:Rat) (b:Rat) (w:World) (h:0≤Pl.cmpQ a b) (ha:Pl.Sz 16777216 a) (hb:Pl.Sz 16777216 b) :
 Calls Tryz.prog 77 #[qv a,qv b] w fun e w'=>e=.returned (qv a)∧Below w.heap.size w w':=by
 have kc:=fun W=>qcmp_any a b W ha hb
 have hz:=h;generalize Pl.cmpQ a b=z at kc hz;have KC:=Lib.hid kc;clear kc;have K1:=Lib.hid (fun W=>KC.out W);clear h ha hb;go_enter Tryz.func77,Tryz.ntmps77;go_wp2_with fail;refine calls_named ?_;intro W1 hW1;have c1_0:At W1 w.heap.size 0 [.bool (ng a.num),.string (mg a.num.natAbs),.bool false,.string (mg (dn a))]:=by rw [hW1];simp [At,go_sem]
 have c1_1:At W1 (w.heap.size+1) 0 [.bool (ng b.num),.string (mg b.num.natAbs),.bool false,.string (mg (dn b))]:=by rw [hW1];simp [At,go_sem]
 have c1_2:Own W1 (w.heap.size+2) 0 [.bool false,.string ⟨#[]⟩,.bool false,.string ⟨#[]⟩]:=by rw [hW1];simp [Own,go_sem]
 have hB1:Below w.heap.size w W1:=by rw [hW1];exact bB
 clear hW1;have uc1_0:=c1_0;have uc1_1:=c1_1;have uc1_2:=c1_2;simp only [At,Own,Nat.reduceAdd,and_true] at uc1_0 uc1_1 uc1_2;with_reducible refine (K1.out _).mono ?_
 rintro e w1 ⟨rfl,hb1⟩;have c1_0x:=c1_0.up hb1;have c1_1x:=c1_1.up hb1;have c1_2x:=c1_2.up hb1;have hDw1:Below w.heap.size w w1:=bel_up hB1 hb1;clear uc1_0 uc1_1 uc1_2 c1_0 c1_1 c1_2;have uc1_0x:=c1_0x;have uc1_1x:=c1_1x;have uc1_2x:=c1_2x;simp only [At,Own,Nat.reduceAdd,and_true] at uc1_0x uc1_1x uc1_2x
 -- NE
 go_wp2;refine bodyPost_ret (v:=.agg #[.bool (ng a.num),.string (mg a.num.natAbs),.bool false,.string (mg (dn a))]) (by simp [results,Tryz.results77,go_sem,uc1_2x]) rfl ⟨rfl,?_⟩;exact bB

theorem qmax_no (a:Rat) (b:Rat) (w:World) (h:¬ 0≤Pl.cmpQ a b) (ha:Pl.Sz 16777216 a) (hb:Pl.Sz 16777216 b) :
 Calls Tryz.prog 77 #[qv a,qv b] w fun e w'=>e=.returned (qv b)∧Below w.heap.size w w':=by
 have kc:=fun W=>qcmp_any a b W ha hb
 have hz:=h;generalize Pl.cmpQ a b=z at kc hz;have KC:=Lib.hid kc;clear kc;have K1:=Lib.hid (fun W=>KC.out W);clear h ha hb;go_enter Tryz.func77,Tryz.ntmps77;go_wp2_with fail;refine calls_named ?_;intro W1 hW1;have c1_0:At W1 w.heap.size 0 [.bool (ng a.num),.string (mg a.num.natAbs),.bool false,.string (mg (dn a))]:=by rw [hW1];simp [At,go_sem]
 have c1_1:At W1 (w.heap.size+1) 0 [.bool (ng b.num),.string (mg b.num.natAbs),.bool false,.string (mg (dn b))]:=by rw [hW1];simp [At,go_sem]
 have c1_2:Own W1 (w.heap.size+2) 0 [.bool false,.string ⟨#[]⟩,.bool false,.string ⟨#[]⟩]:=by rw [hW1];simp [Own,go_sem]
 have hB1:Below w.heap.size w W1:=by rw [hW1];exact bB
 clear hW1;have uc1_0:=c1_0;have uc1_1:=c1_1;have uc1_2:=c1_2;simp only [At,Own,Nat.reduceAdd,and_true] at uc1_0 uc1_1 uc1_2;with_reducible refine (K1.out _).mono ?_
 rintro e w1 ⟨rfl,hb1⟩;have c1_0x:=c1_0.up hb1;have c1_1x:=c1_1.up hb1;have c1_2x:=c1_2.up hb1;have hDw1:Below w.heap.size w w1:=bel_up hB1 hb1;clear uc1_0 uc1_1 uc1_2 c1_0 c1_1 c1_2;have uc1_0x:=c1_0x;have uc1_1x:=c1_1x;have uc1_2x:=c1_2x;simp only [At,Own,Nat.reduceAdd,and_true] at uc1_0x uc1_1x uc1_2x
 -- NE
 go_wp2;refine bodyPost_ret (v:=.agg #[.bool (ng b.num),.string (mg b.num.natAbs),.bool false,.string (mg (dn b))]) (by simp [results,Tryz.results77,go_sem,uc1_2x]) rfl ⟨rfl,?_⟩;exact bB

theorem qmax_any (a b:Rat) (w:World) (ha:Pl.Sz 16777216 a) (hb:Pl.Sz 16777216 b) :
 Calls Tryz.prog 77 #[qv a,qv b] w fun e w'=>e=.returned (qv (Pl.maxQ a b))∧Below w.heap.size w w':=by
 unfold Pl.maxQ
 by_cases h:0≤Pl.cmpQ a b
 ·rw [if_pos h];exact qmax_yes a b w h ha hb
 ·rw [if_neg h];exact qmax_no a b w h ha hb

theorem qmin_yes (a:Rat) (b:Rat) (w:World) (h:Pl.cmpQ a b≤0) (ha:Pl.Sz 16777216 a) (hb:Pl.Sz 16777216 b) :
 Calls Tryz.prog 144 #[qv a,qv b] w fun e w'=>e=.returned (qv a)∧Below w.heap.size w w':=by
 have kc:=fun W=>qcmp_any a b W ha hb
 have hz:=h;generalize Pl.cmpQ a b=z at kc hz;have KC:=Lib.hid kc;clear kc;have K1:=Lib.hid (fun W=>KC.out W);clear h ha hb;go_enter Tryz.func144,Tryz.ntmps144;go_wp2_with fail;refine calls_named ?_;intro W1 hW1;have c1_0:At W1 w.heap.size 0 [.bool (ng a.num),.string (mg a.num.natAbs),.bool false,.string (mg (dn a))]:=by rw [hW1];simp [At,go_sem]
 have c1_1:At W1 (w.heap.size+1) 0 [.bool (ng b.num),.string (mg b.num.natAbs),.bool false,.string (mg (dn b))]:=by rw [hW1];simp [At,go_sem]
 have c1_2:Own W1 (w.heap.size+2) 0 [.bool false,.string ⟨#[]⟩,.bool false,.string ⟨#[]⟩]:=by rw [hW1];simp [Own,go_sem]
 have hB1:Below w.heap.size w W1:=by rw [hW1];exact bB
 clear hW1;have uc1_0:=c1_0;have uc1_1:=c1_1;have uc1_2:=c1_2;simp only [At,Own,Nat.reduceAdd,and_true] at uc1_0 uc1_1 uc1_2;with_reducible refine (K1.out _).mono ?_
 rintro e w1 ⟨rfl,hb1⟩;have c1_0x:=c1_0.up hb1;have c1_1x:=c1_1.up hb1;have c1_2x:=c1_2.up hb1;have hDw1:Below w.heap.size w w1:=bel_up hB1 hb1;clear uc1_0 uc1_1 uc1_2 c1_0 c1_1 c1_2;have uc1_0x:=c1_0x;have uc1_1x:=c1_1x;have uc1_2x:=c1_2x;simp only [At,Own,Nat.reduceAdd,and_true] at uc1_0x uc1_1x uc1_2x
 -- NE
 go_wp2;refine bodyPost_ret (v:=.agg #[.bool (ng a.num),.string (mg a.num.natAbs),.bool false,.string (mg (dn a))]) (by simp [results,Tryz.results144,go_sem,uc1_2x]) rfl ⟨rfl,?_⟩;exact bB

theorem qmin_no (a:Rat) (b:Rat) (w:World) (h:¬ Pl.cmpQ a b≤0) (ha:Pl.Sz 16777216 a) (hb:Pl.Sz 16777216 b) :
 Calls Tryz.prog 144 #[qv a,qv b] w fun e w'=>e=.returned (qv b)∧Below w.heap.size w w':=by
 have kc:=fun W=>qcmp_any a b W ha hb
 have hz:=h;generalize Pl.cmpQ a b=z at kc hz;have KC:=Lib.hid kc;clear kc;have K1:=Lib.hid (fun W=>KC.out W);clear h ha hb;go_enter Tryz.func144,Tryz.ntmps144;go_wp2_with fail;refine calls_named ?_;intro W1 hW1;have c1_0:At W1 w.heap.size 0 [.bool (ng a.num),.string (mg a.num.natAbs),.bool false,.string (mg (dn a))]:=by rw [hW1];simp [At,go_sem]
 have c1_1:At W1 (w.heap.size+1) 0 [.bool (ng b.num),.string (mg b.num.natAbs),.bool false,.string (mg (dn b))]:=by rw [hW1];simp [At,go_sem]
 have c1_2:Own W1 (w.heap.size+2) 0 [.bool false,.string ⟨#[]⟩,.bool false,.string ⟨#[]⟩]:=by rw [hW1];simp [Own,go_sem]
 have hB1:Below w.heap.size w W1:=by rw [hW1];exact bB
 clear hW1;have uc1_0:=c1_0;have uc1_1:=c1_1;have uc1_2:=c1_2;simp only [At,Own,Nat.reduceAdd,and_true] at uc1_0 uc1_1 uc1_2;with_reducible refine (K1.out _).mono ?_
 rintro e w1 ⟨rfl,hb1⟩;have c1_0x:=c1_0.up hb1;have c1_1x:=c1_1.up hb1;have c1_2x:=c1_2.up hb1;have hDw1:Below w.heap.size w w1:=bel_up hB1 hb1;clear uc1_0 uc1_1 uc1_2 c1_0 c1_1 c1_2;have uc1_0x:=c1_0x;have uc1_1x:=c1_1x;have uc1_2x:=c1_2x;simp only [At,Own,Nat.reduceAdd,and_true] at uc1_0x uc1_1x uc1_2x
 -- NE
 go_wp2;refine bodyPost_ret (v:=.agg #[.bool (ng b.num),.string (mg b.num.natAbs),.bool false,.string (mg (dn b))]) (by simp [results,Tryz.results144,go_sem,uc1_2x]) rfl ⟨rfl,?_⟩;exact bB

theorem qmin_any (a b:Rat) (w:World) (ha:Pl.Sz 16777216 a) (hb:Pl.Sz 16777216 b) :
 Calls Tryz.prog 144 #[qv a,qv b] w fun e w'=>e=.returned (qv (Pl.minQ a b))∧Below w.heap.size w w':=by
 unfold Pl.minQ
 by_cases h:Pl.cmpQ a b≤0
 ·rw [if_pos h];exact qmin_yes a b w h ha hb
 ·rw [if_neg h];exact qmin_no a b w h ha hb
end Go.Proofs.YtdkkjfnpinckjaaGreatDoor
