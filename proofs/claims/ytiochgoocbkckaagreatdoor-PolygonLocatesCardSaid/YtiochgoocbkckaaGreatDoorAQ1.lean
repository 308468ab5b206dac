/-
 Contracts of package rational: the canonical form.
-/
import Derived.Test.YtiochgoocbkckaaGreatDoorAInt6
set_option maxRecDepth 100000
set_option linter.unusedSimpArgs false
set_option linter.unusedVariables false
namespace Go.Proofs.YtiochgoocbkckaaGreatDoor
open Go Go.RowKit

abbrev qv (q:Rat):Value:=.agg #[.bool (ng q.num),.string (mg q.num.natAbs),.bool false,.string (mg (dn q))]
theorem sign_nat (n:Nat) (w:World):Calls Tryz.prog 160 #[nv n] w fun e w'=>e=.returned (.int .i64 (n:Int).sign)∧Below w.heap.size w w':=by
 have h:=sign_any (n:Int) w;rw [iv_nat] at h;exact h
theorem gcd_in (n:Int) (d:Nat) (w:World) (ha:Pl.L n.natAbs≤67108864) (hb:Pl.L d≤67108864) :
 Calls Tryz.prog 154 #[iv n,nv d] w fun e w'=>e=.returned (nv (Nat.gcd n.natAbs d))∧Below w.heap.size w w':=gcd_any _ _ _ _ w ha hb
theorem canon_parts (n:Int) (d:Nat) (hd:d≠0):(mkRat n d).num=n/(Nat.gcd n.natAbs d:Nat)∧(mkRat n d).den=d/Nat.gcd n.natAbs d:=by
 rw [Rat.num_mkRat,Rat.den_mkRat,if_neg hd,if_neg hd,Nat.gcd_comm d];exact ⟨rfl,rfl⟩
theorem mg_toList (n:Nat):(mg n).toList=Pl.magL n:=by rw [← mg_data];exact ByteArray.toList_eq _
theorem mg_beq (m n:Nat):((mg m).toList==(mg n).toList)=decide (m=n):=by
 rw [mg_toList,mg_toList,Bool.eq_iff_iff];simp only [beq_iff_eq,decide_eq_true_eq];exact ⟨fun h=>Pl.magL_inj h,fun h=>by rw [h]⟩
theorem eqI_in (s t:Bool) (m n:Nat) (w:World):(Op.equalIn 10000 41 (.agg #[.bool s,.string (mg m)]) (.agg #[.bool t,.string (mg n)])).run Tryz.prog w=.ok (s==t&&decide (m=n)) w:=by
 have ub:=Tryz.underlying4;have us:=Tryz.underlying9;have ab:=Tryz.isAgg4;have zb:=Tryz.sizeOf4;have ag:=Tryz.isAgg9;have zs:=Tryz.sizeOf9;have hS:Tryz.prog.underlying 41 = some (.struct (Tryz.prog.fieldsOf 41)):=by kernel_rfl
 have hp:Tryz.prog.stoodInHeld 41 = false:=by kernel_rfl
 rw [show (10000:Nat)=9999+1 from rfl,run_equalIn_agg w 9999 41 _ _ hS hp];simp only [Program.fieldsOf,Tryz.underlying41];go_simp;have hm:=mg_beq m n
 by_cases h1:s=t<;>by_cases h2:m=n<;>simp_all

abbrev mv (n:Nat):Value:=.agg #[.bool true,.string (mg n)]
theorem iv_minus (n:Nat) (h:n≠0):iv (-(n:Int))=mv n:=by
 have:ng (-(n:Int))=true:=by unfold ng;simp;omega
 rw [iv,this,Int.natAbs_neg];rfl
theorem sign_minus (n:Nat) (h:n≠0) (w:World):Calls Tryz.prog 160 #[mv n] w fun e w'=>e=.returned (.int .i64 (-1))∧Below w.heap.size w w':=by
 have h1:=sign_any (-(n:Int)) w;rw [iv_minus n h,Int.sign_eq_neg_one_of_neg (by omega)] at h1;exact h1
theorem negate_minus (n:Nat) (h:n≠0) (w:World):Calls Tryz.prog 159 #[mv n] w fun e w'=>e=.returned (nv n)∧Below w.heap.size w w':=by
 have h1:=negate_any (-(n:Int)) w;rw [iv_minus n h,Int.neg_neg,iv_nat] at h1;exact h1

set_option maxHeartbeats 1000000 in
theorem canon_one (n:Int) (d:Nat) (w:World) (N:Int) (M:Nat) (hd:d≠0) (ha:Pl.L n.natAbs≤67108864) (hb:Pl.L d≤67108864) (hN:n/(Nat.gcd n.natAbs d:Nat)=N) (hM:d/Nat.gcd n.natAbs d=M) (hm :  d/Nat.gcd n.natAbs d=1) :
 Calls Tryz.prog 132 #[iv n,nv d] w fun e w'=>e=.returned (.agg #[.bool (ng N),.string (mg N.natAbs),.bool false,.string ⟨#[]⟩])∧Below w.heap.size w w':=by
 have hg:0<Nat.gcd n.natAbs d:=Nat.gcd_pos_of_pos_right _ (Nat.pos_of_ne_zero hd);have hgl:Pl.L (Nat.gcd n.natAbs d)≤67108864:=Nat.le_trans (Pl.L_mono (Nat.le_of_dvd (Nat.pos_of_ne_zero hd) (Nat.gcd_dvd_right _ _))) hb;have hsd:¬ (d:Int).sign<0:=by rw [Int.sign_eq_one_of_pos (by omega)];decide
 have k1:=fun W=>gcd_in n d W ha hb
 have k2:=fun W=>quot_any n (Nat.gcd n.natAbs d) W hg (Int.ofNat_dvd_left.2 (Nat.gcd_dvd_left _ _)) ha hgl
 have k3:=fun W=>quot_nat d (Nat.gcd n.natAbs d) W hg (Nat.gcd_dvd_right _ _) hb hgl
 have k4:=one_any;have EQ:=fun W=>eqI_in false false (d/Nat.gcd n.natAbs d) 1 W
 rw [decide_eq_true hm] at EQ;rw [hN] at k2;rw [hM] at k3 EQ;simp only [beq_self_eq_true,Bool.true_and] at EQ;generalize Nat.gcd n.natAbs d=G at k1 k2 k3;generalize (1:Nat)=U at k4 EQ;have KG:=Lib.hid k1;have KN:=Lib.hid k2;have KM:=Lib.hid k3;have KO:=Lib.hid k4;clear hm hN hM k1 k2 k3 k4 hg hgl ha hb hd;have K1:=Lib.hid (fun W=>sign_nat d W);have K2:=Lib.hid (fun W=>KG.out W);have K3:=Lib.hid (fun W=>KN.out W);have K4:=Lib.hid (fun W=>KM.out W);have K5:=Lib.hid (fun W=>KO.out W);go_enter Tryz.func132,Tryz.ntmps132;go_wp2_with fail;refine calls_named ?_;intro W1 hW1;have c1_0:Own W1 w.heap.size 0 [.bool (ng n),.string (mg n.natAbs)]:=by rw [hW1];simp [Own,go_sem]
 have c1_1:Own W1 (w.heap.size+1) 0 [.bool false,.string (mg d)]:=by rw [hW1];simp [Own,go_sem]
 have c1_2:Own W1 (w.heap.size+2) 0 [.bool false,.string ⟨#[]⟩,.bool false,.string ⟨#[]⟩]:=by rw [hW1];simp [Own,go_sem]
 have hB1:Below w.heap.size w W1:=by rw [hW1];exact bB
 clear hW1;have uc1_0:=c1_0;have uc1_1:=c1_1;have uc1_2:=c1_2;simp only [At,Own,Nat.reduceAdd,and_true] at uc1_0 uc1_1 uc1_2;with_reducible refine (K1.out _).mono ?_
 rintro e w1 ⟨rfl,hb1⟩;have c1_0x:=c1_0.up hb1;have c1_1x:=c1_1.up hb1;have c1_2x:=c1_2.up hb1;have hDw1:Below w.heap.size w w1:=bel_up hB1 hb1;clear uc1_0 uc1_1 uc1_2 c1_0 c1_1 c1_2;have uc1_0x:=c1_0x;have uc1_1x:=c1_1x;have uc1_2x:=c1_2x;simp only [At,Own,Nat.reduceAdd,and_true] at uc1_0x uc1_1x uc1_2x
 -- NE
 go_wp2_with fail;refine calls_named ?_;intro W2 hW2;have hL2:Below w1.heap.size w1 W2:=by rw [hW2];exact bB
 have c2_0:=c1_0x.up hL2;have c2_1:=c1_1x.up hL2;have c2_2:=c1_2x.up hL2;have hB2:Below w.heap.size w W2:=by rw [hW2];exact bB
 clear hW2 hL2 uc1_0x uc1_1x uc1_2x c1_0x c1_1x c1_2x;have uc2_0:=c2_0;have uc2_1:=c2_1;have uc2_2:=c2_2;simp only [At,Own,Nat.reduceAdd,and_true] at uc2_0 uc2_1 uc2_2;with_reducible refine (K2.out _).mono ?_
 rintro e w2 ⟨rfl,hb2⟩;have c2_0x:=c2_0.up hb2;have c2_1x:=c2_1.up hb2;have c2_2x:=c2_2.up hb2;have hDw2:Below w.heap.size w w2:=bel_up hB2 hb2;clear uc2_0 uc2_1 uc2_2 c2_0 c2_1 c2_2;have uc2_0x:=c2_0x;have uc2_1x:=c2_1x;have uc2_2x:=c2_2x;simp only [At,Own,Nat.reduceAdd,and_true] at uc2_0x uc2_1x uc2_2x
 -- NE
 have nc2_0x_0_:w.heap.size<w2.heap.size:=by have:=c2_0x.lt;omega
 have nc2_0x_0:=Nat.ne_of_lt nc2_0x_0_;have nc2_0x_0':=nc2_0x_0.symm;have nc2_1x_0_:w.heap.size+1<w2.heap.size:=by have:=c2_1x.lt;omega
 have nc2_1x_0:=Nat.ne_of_lt nc2_1x_0_;have nc2_1x_0':=nc2_1x_0.symm;have nc2_2x_0_:w.heap.size+2<w2.heap.size:=by have:=c2_2x.lt;omega
 have nc2_2x_0:=Nat.ne_of_lt nc2_2x_0_;have nc2_2x_0':=nc2_2x_0.symm;go_wp2_with fail;refine wp_named ?_;intro W3 hW3;have hL3:Below w2.heap.size w2 W3:=by rw [hW3];exact bB
 have c3_0:=c2_0x.up hL3;have c3_1:=c2_1x.up hL3;have c3_2:=c2_2x.up hL3;have c3_3:Own W3 w2.heap.size 0 [.bool false,.string (mg G)]:=by rw [hW3];simp [Own,go_sem,uc2_0x,uc2_1x,uc2_2x,nc2_0x_0,nc2_0x_0',nc2_0x_0_,nc2_1x_0,nc2_1x_0',nc2_1x_0_,nc2_2x_0,nc2_2x_0',nc2_2x_0_]
 have hB3:Below w.heap.size w W3:=by rw [hW3];exact bB
 clear hW3 hL3 uc2_0x uc2_1x uc2_2x c2_0x c2_1x c2_2x;have dc3_0:=fun p:Bel W3=>c3_0.bel p;have dc3_1:=fun p:Bel W3=>c3_1.bel p;have dc3_2:=fun p:Bel W3=>c3_2.bel p;have dc3_3:=fun p:Bel W3=>c3_3.bel p
 simp only [At,Own,Nat.reduceAdd,and_true] at dc3_0 dc3_1 dc3_2 dc3_3;refine wp_region_tail 6 (by kernel_rfl) (by kernel_rfl) ?_;simp only [List.take_succ_cons,List.take_zero,List.drop_succ_cons,List.drop_zero];repeat (go_big_quiet_step (first|(go_at_call 171;with_reducible exact Calls.bel (K3.out _))|(go_at_call 171;with_reducible exact Calls.bel (K4.out _))))
 refine wpQuiet_nil ?_;intro w3 hb3;have c3_0x:=c3_0.up hb3;have c3_1x:=c3_1.up hb3;have c3_2x:=c3_2.up hb3;have c3_3x:=c3_3.up hb3;clear dc3_0 dc3_1 dc3_2 dc3_3 c3_0 c3_1 c3_2 c3_3;have hD3:Below w.heap.size w w3:=bel_up hB3 hb3;have uc3_0x:=c3_0x;have uc3_1x:=c3_1x;have uc3_2x:=c3_2x;have uc3_3x:=c3_3x;simp only [At,Own,Nat.reduceAdd,and_true] at uc3_0x uc3_1x uc3_2x uc3_3x
 -- NE
 go_wp2_with fail;refine wp_named ?_;intro W4 hW4;have c4_0:Own W4 w.heap.size 0 [.bool (ng N),.string (mg N.natAbs)]:=by rw [hW4];simp [Own,go_sem,uc3_0x,uc3_1x,uc3_2x,uc3_3x]
 have c4_1:Own W4 (w.heap.size+1) 0 [.bool false,.string (mg M)]:=by rw [hW4];simp [Own,go_sem,uc3_0x,uc3_1x,uc3_2x,uc3_3x]
 have c4_2:Own W4 (w.heap.size+2) 0 [.bool false,.string ⟨#[]⟩,.bool false,.string ⟨#[]⟩]:=by rw [hW4];simp [Own,go_sem,uc3_0x,uc3_1x,uc3_2x,uc3_3x]
 have c4_3:Own W4 w2.heap.size 0 [.bool false,.string (mg G)]:=by rw [hW4];simp [Own,go_sem,uc3_0x,uc3_1x,uc3_2x,uc3_3x]
 have hB4:Below w.heap.size w W4:=by rw [hW4];exact bB
 clear hW4 uc3_0x uc3_1x uc3_2x uc3_3x c3_0x c3_1x c3_2x c3_3x;have dc4_0:=fun p:Bel W4=>c4_0.bel p;have dc4_1:=fun p:Bel W4=>c4_1.bel p;have dc4_2:=fun p:Bel W4=>c4_2.bel p;have dc4_3:=fun p:Bel W4=>c4_3.bel p
 simp only [At,Own,Nat.reduceAdd,and_true] at dc4_0 dc4_1 dc4_2 dc4_3;refine wp_region_all (by kernel_rfl) (by kernel_rfl) ?_;repeat (go_big_quiet_step (first|(go_at_call 153;with_reducible exact Calls.bel (K5.out _))))
 refine wpQuiet_nil ?_;intro w4 hb4;have c4_0x:=c4_0.up hb4;have c4_1x:=c4_1.up hb4;have c4_2x:=c4_2.up hb4;have c4_3x:=c4_3.up hb4;clear dc4_0 dc4_1 dc4_2 dc4_3 c4_0 c4_1 c4_2 c4_3;have hD4:Below w.heap.size w w4:=bel_up hB4 hb4;have uc4_0x:=c4_0x;have uc4_1x:=c4_1x;have uc4_2x:=c4_2x;have uc4_3x:=c4_3x;simp only [At,Own,Nat.reduceAdd,and_true] at uc4_0x uc4_1x uc4_2x uc4_3x
 -- NE
 go_wp2;refine bodyPost_ret (v:=.agg #[.bool (ng N),.string (mg N.natAbs),.bool false,.string ⟨#[]⟩]) (by simp [results,Tryz.results132,go_sem,uc4_2x]) rfl ⟨rfl,?_⟩;exact bB

set_option maxHeartbeats 1000000 in
theorem canon_more (n:Int) (d:Nat) (w:World) (N:Int) (M:Nat) (hd:d≠0) (ha:Pl.L n.natAbs≤67108864) (hb:Pl.L d≤67108864) (hN:n/(Nat.gcd n.natAbs d:Nat)=N) (hM:d/Nat.gcd n.natAbs d=M) (hm:¬ d/Nat.gcd n.natAbs d=1) :
 Calls Tryz.prog 132 #[iv n,nv d] w fun e w'=>e=.returned (.agg #[.bool (ng N),.string (mg N.natAbs),.bool false,.string (mg M)])∧Below w.heap.size w w':=by
 have hg:0<Nat.gcd n.natAbs d:=Nat.gcd_pos_of_pos_right _ (Nat.pos_of_ne_zero hd);have hgl:Pl.L (Nat.gcd n.natAbs d)≤67108864:=Nat.le_trans (Pl.L_mono (Nat.le_of_dvd (Nat.pos_of_ne_zero hd) (Nat.gcd_dvd_right _ _))) hb;have hsd:¬ (d:Int).sign<0:=by rw [Int.sign_eq_one_of_pos (by omega)];decide
 have k1:=fun W=>gcd_in n d W ha hb
 have k2:=fun W=>quot_any n (Nat.gcd n.natAbs d) W hg (Int.ofNat_dvd_left.2 (Nat.gcd_dvd_left _ _)) ha hgl
 have k3:=fun W=>quot_nat d (Nat.gcd n.natAbs d) W hg (Nat.gcd_dvd_right _ _) hb hgl
 have k4:=one_any;have EQ:=fun W=>eqI_in false false (d/Nat.gcd n.natAbs d) 1 W
 rw [decide_eq_false hm] at EQ;rw [hN] at k2;rw [hM] at k3 EQ;simp only [beq_self_eq_true,Bool.true_and] at EQ;generalize Nat.gcd n.natAbs d=G at k1 k2 k3;generalize (1:Nat)=U at k4 EQ;have KG:=Lib.hid k1;have KN:=Lib.hid k2;have KM:=Lib.hid k3;have KO:=Lib.hid k4;clear hm hN hM k1 k2 k3 k4 hg hgl ha hb hd;have K1:=Lib.hid (fun W=>sign_nat d W);have K2:=Lib.hid (fun W=>KG.out W);have K3:=Lib.hid (fun W=>KN.out W);have K4:=Lib.hid (fun W=>KM.out W);have K5:=Lib.hid (fun W=>KO.out W);go_enter Tryz.func132,Tryz.ntmps132;go_wp2_with fail;refine calls_named ?_;intro W1 hW1;have c1_0:Own W1 w.heap.size 0 [.bool (ng n),.string (mg n.natAbs)]:=by rw [hW1];simp [Own,go_sem]
 have c1_1:Own W1 (w.heap.size+1) 0 [.bool false,.string (mg d)]:=by rw [hW1];simp [Own,go_sem]
 have c1_2:Own W1 (w.heap.size+2) 0 [.bool false,.string ⟨#[]⟩,.bool false,.string ⟨#[]⟩]:=by rw [hW1];simp [Own,go_sem]
 have hB1:Below w.heap.size w W1:=by rw [hW1];exact bB
 clear hW1;have uc1_0:=c1_0;have uc1_1:=c1_1;have uc1_2:=c1_2;simp only [At,Own,Nat.reduceAdd,and_true] at uc1_0 uc1_1 uc1_2;with_reducible refine (K1.out _).mono ?_
 rintro e w1 ⟨rfl,hb1⟩;have c1_0x:=c1_0.up hb1;have c1_1x:=c1_1.up hb1;have c1_2x:=c1_2.up hb1;have hDw1:Below w.heap.size w w1:=bel_up hB1 hb1;clear uc1_0 uc1_1 uc1_2 c1_0 c1_1 c1_2;have uc1_0x:=c1_0x;have uc1_1x:=c1_1x;have uc1_2x:=c1_2x;simp only [At,Own,Nat.reduceAdd,and_true] at uc1_0x uc1_1x uc1_2x
 -- NE
 go_wp2_with fail;refine calls_named ?_;intro W2 hW2;have hL2:Below w1.heap.size w1 W2:=by rw [hW2];exact bB
 have c2_0:=c1_0x.up hL2;have c2_1:=c1_1x.up hL2;have c2_2:=c1_2x.up hL2;have hB2:Below w.heap.size w W2:=by rw [hW2];exact bB
 clear hW2 hL2 uc1_0x uc1_1x uc1_2x c1_0x c1_1x c1_2x;have uc2_0:=c2_0;have uc2_1:=c2_1;have uc2_2:=c2_2;simp only [At,Own,Nat.reduceAdd,and_true] at uc2_0 uc2_1 uc2_2;with_reducible refine (K2.out _).mono ?_
 rintro e w2 ⟨rfl,hb2⟩;have c2_0x:=c2_0.up hb2;have c2_1x:=c2_1.up hb2;have c2_2x:=c2_2.up hb2;have hDw2:Below w.heap.size w w2:=bel_up hB2 hb2;clear uc2_0 uc2_1 uc2_2 c2_0 c2_1 c2_2;have uc2_0x:=c2_0x;have uc2_1x:=c2_1x;have uc2_2x:=c2_2x;simp only [At,Own,Nat.reduceAdd,and_true] at uc2_0x uc2_1x uc2_2x
 -- NE
 have nc2_0x_0_:w.heap.size<w2.heap.size:=by have:=c2_0x.lt;omega
 have nc2_0x_0:=Nat.ne_of_lt nc2_0x_0_;have nc2_0x_0':=nc2_0x_0.symm;have nc2_1x_0_:w.heap.size+1<w2.heap.size:=by have:=c2_1x.lt;omega
 have nc2_1x_0:=Nat.ne_of_lt nc2_1x_0_;have nc2_1x_0':=nc2_1x_0.symm;have nc2_2x_0_:w.heap.size+2<w2.heap.size:=by have:=c2_2x.lt;omega
 have nc2_2x_0:=Nat.ne_of_lt nc2_2x_0_;have nc2_2x_0':=nc2_2x_0.symm;go_wp2_with fail;refine wp_named ?_;intro W3 hW3;have hL3:Below w2.heap.size w2 W3:=by rw [hW3];exact bB
 have c3_0:=c2_0x.up hL3;have c3_1:=c2_1x.up hL3;have c3_2:=c2_2x.up hL3;have c3_3:Own W3 w2.heap.size 0 [.bool false,.string (mg G)]:=by rw [hW3];simp [Own,go_sem,uc2_0x,uc2_1x,uc2_2x,nc2_0x_0,nc2_0x_0',nc2_0x_0_,nc2_1x_0,nc2_1x_0',nc2_1x_0_,nc2_2x_0,nc2_2x_0',nc2_2x_0_]
 have hB3:Below w.heap.size w W3:=by rw [hW3];exact bB
 clear hW3 hL3 uc2_0x uc2_1x uc2_2x c2_0x c2_1x c2_2x;have dc3_0:=fun p:Bel W3=>c3_0.bel p;have dc3_1:=fun p:Bel W3=>c3_1.bel p;have dc3_2:=fun p:Bel W3=>c3_2.bel p;have dc3_3:=fun p:Bel W3=>c3_3.bel p
 simp only [At,Own,Nat.reduceAdd,and_true] at dc3_0 dc3_1 dc3_2 dc3_3;refine wp_region_tail 6 (by kernel_rfl) (by kernel_rfl) ?_;simp only [List.take_succ_cons,List.take_zero,List.drop_succ_cons,List.drop_zero];repeat (go_big_quiet_step (first|(go_at_call 171;with_reducible exact Calls.bel (K3.out _))|(go_at_call 171;with_reducible exact Calls.bel (K4.out _))))
 refine wpQuiet_nil ?_;intro w3 hb3;have c3_0x:=c3_0.up hb3;have c3_1x:=c3_1.up hb3;have c3_2x:=c3_2.up hb3;have c3_3x:=c3_3.up hb3;clear dc3_0 dc3_1 dc3_2 dc3_3 c3_0 c3_1 c3_2 c3_3;have hD3:Below w.heap.size w w3:=bel_up hB3 hb3;have uc3_0x:=c3_0x;have uc3_1x:=c3_1x;have uc3_2x:=c3_2x;have uc3_3x:=c3_3x;simp only [At,Own,Nat.reduceAdd,and_true] at uc3_0x uc3_1x uc3_2x uc3_3x
 -- NE
 go_wp2_with fail;refine wp_named ?_;intro W4 hW4;have c4_0:Own W4 w.heap.size 0 [.bool (ng N),.string (mg N.natAbs)]:=by rw [hW4];simp [Own,go_sem,uc3_0x,uc3_1x,uc3_2x,uc3_3x]
 have c4_1:Own W4 (w.heap.size+1) 0 [.bool false,.string (mg M)]:=by rw [hW4];simp [Own,go_sem,uc3_0x,uc3_1x,uc3_2x,uc3_3x]
 have c4_2:Own W4 (w.heap.size+2) 0 [.bool false,.string ⟨#[]⟩,.bool false,.string ⟨#[]⟩]:=by rw [hW4];simp [Own,go_sem,uc3_0x,uc3_1x,uc3_2x,uc3_3x]
 have c4_3:Own W4 w2.heap.size 0 [.bool false,.string (mg G)]:=by rw [hW4];simp [Own,go_sem,uc3_0x,uc3_1x,uc3_2x,uc3_3x]
 have hB4:Below w.heap.size w W4:=by rw [hW4];exact bB
 clear hW4 uc3_0x uc3_1x uc3_2x uc3_3x c3_0x c3_1x c3_2x c3_3x;have dc4_0:=fun p:Bel W4=>c4_0.bel p;have dc4_1:=fun p:Bel W4=>c4_1.bel p;have dc4_2:=fun p:Bel W4=>c4_2.bel p;have dc4_3:=fun p:Bel W4=>c4_3.bel p
 simp only [At,Own,Nat.reduceAdd,and_true] at dc4_0 dc4_1 dc4_2 dc4_3;refine wp_region_all (by kernel_rfl) (by kernel_rfl) ?_;repeat (go_big_quiet_step (first|(go_at_call 153;with_reducible exact Calls.bel (K5.out _))))
 refine wpQuiet_nil ?_;intro w4 hb4;have c4_0x:=c4_0.up hb4;have c4_1x:=c4_1.up hb4;have c4_2x:=c4_2.up hb4;have c4_3x:=c4_3.up hb4;clear dc4_0 dc4_1 dc4_2 dc4_3 c4_0 c4_1 c4_2 c4_3;have hD4:Below w.heap.size w w4:=bel_up hB4 hb4;have uc4_0x:=c4_0x;have uc4_1x:=c4_1x;have uc4_2x:=c4_2x;have uc4_3x:=c4_3x;simp only [At,Own,Nat.reduceAdd,and_true] at uc4_0x uc4_1x uc4_2x uc4_3x
 -- NE
 go_wp2;refine bodyPost_ret (v:=.agg #[.bool (ng N),.string (mg N.natAbs),.bool false,.string (mg M)]) (by simp [results,Tryz.results132,go_sem,uc4_2x]) rfl ⟨rfl,?_⟩;exact bB

set_option maxHeartbeats 1000000 in
theorem canon_mone (n:Int) (d:Nat) (w:World) (N:Int) (M:Nat) (hd:d≠0) (ha:Pl.L n.natAbs≤67108864) (hb:Pl.L d≤67108864) (hN:n/(Nat.gcd n.natAbs d:Nat)=N) (hM:d/Nat.gcd n.natAbs d=M) (hm :  d/Nat.gcd n.natAbs d=1) :
 Calls Tryz.prog 132 #[iv (-n),mv d] w fun e w'=>e=.returned (.agg #[.bool (ng N),.string (mg N.natAbs),.bool false,.string ⟨#[]⟩])∧Below w.heap.size w w':=by
 have ks1:=sign_minus d hd;have km1:=fun W=>negate_any (-n) W
 rw [Int.neg_neg] at km1;have km2:=negate_minus d hd;have KS:=Lib.hid ks1;have KM1:=Lib.hid km1;have KM2:=Lib.hid km2;obtain ⟨m,hmm⟩:∃ m:Int,m=-n:=⟨_,rfl⟩
 rw [← hmm] at KM1 ⊢;clear ks1 km1 km2 hmm;have hg:0<Nat.gcd n.natAbs d:=Nat.gcd_pos_of_pos_right _ (Nat.pos_of_ne_zero hd);have hgl:Pl.L (Nat.gcd n.natAbs d)≤67108864:=Nat.le_trans (Pl.L_mono (Nat.le_of_dvd (Nat.pos_of_ne_zero hd) (Nat.gcd_dvd_right _ _))) hb;have k1:=fun W=>gcd_in n d W ha hb
 have k2:=fun W=>quot_any n (Nat.gcd n.natAbs d) W hg (Int.ofNat_dvd_left.2 (Nat.gcd_dvd_left _ _)) ha hgl
 have k3:=fun W=>quot_nat d (Nat.gcd n.natAbs d) W hg (Nat.gcd_dvd_right _ _) hb hgl
 have k4:=one_any;have EQ:=fun W=>eqI_in false false (d/Nat.gcd n.natAbs d) 1 W
 rw [decide_eq_true hm] at EQ;rw [hN] at k2;rw [hM] at k3 EQ;simp only [beq_self_eq_true,Bool.true_and] at EQ;generalize Nat.gcd n.natAbs d=G at k1 k2 k3;generalize (1:Nat)=U at k4 EQ;have KG:=Lib.hid k1;have KN:=Lib.hid k2;have KM:=Lib.hid k3;have KO:=Lib.hid k4;clear hm hN hM k1 k2 k3 k4 hg hgl ha hb hd;have K1:=Lib.hid (fun W=>KS.out W);have K2:=Lib.hid (fun W=>KM1.out W);have K3:=Lib.hid (fun W=>KM2.out W);have K4:=Lib.hid (fun W=>KG.out W);have K5:=Lib.hid (fun W=>KN.out W);have K6:=Lib.hid (fun W=>KM.out W);have K7:=Lib.hid (fun W=>KO.out W);go_enter Tryz.func132,Tryz.ntmps132;go_wp2_with fail;refine calls_named ?_;intro W1 hW1;have c1_0:Own W1 w.heap.size 0 [.bool (ng m),.string (mg m.natAbs)]:=by rw [hW1];simp [Own,go_sem]
 have c1_1:Own W1 (w.heap.size+1) 0 [.bool true,.string (mg d)]:=by rw [hW1];simp [Own,go_sem]
 have c1_2:Own W1 (w.heap.size+2) 0 [.bool false,.string ⟨#[]⟩,.bool false,.string ⟨#[]⟩]:=by rw [hW1];simp [Own,go_sem]
 have hB1:Below w.heap.size w W1:=by rw [hW1];exact bB
 clear hW1;have uc1_0:=c1_0;have uc1_1:=c1_1;have uc1_2:=c1_2;simp only [At,Own,Nat.reduceAdd,and_true] at uc1_0 uc1_1 uc1_2;with_reducible refine (K1.out _).mono ?_
 rintro e w1 ⟨rfl,hb1⟩;have c1_0x:=c1_0.up hb1;have c1_1x:=c1_1.up hb1;have c1_2x:=c1_2.up hb1;have hDw1:Below w.heap.size w w1:=bel_up hB1 hb1;clear uc1_0 uc1_1 uc1_2 c1_0 c1_1 c1_2;have uc1_0x:=c1_0x;have uc1_1x:=c1_1x;have uc1_2x:=c1_2x;simp only [At,Own,Nat.reduceAdd,and_true] at uc1_0x uc1_1x uc1_2x
 -- NE
 go_wp2_with fail;refine wp_named ?_;intro W2 hW2;have hL2:Below w1.heap.size w1 W2:=by rw [hW2];exact bB
 have c2_0:=c1_0x.up hL2;have c2_1:=c1_1x.up hL2;have c2_2:=c1_2x.up hL2;have hB2:Below w.heap.size w W2:=by rw [hW2];exact bB
 clear hW2 hL2 uc1_0x uc1_1x uc1_2x c1_0x c1_1x c1_2x;have dc2_0:=fun p:Bel W2=>c2_0.bel p;have dc2_1:=fun p:Bel W2=>c2_1.bel p;have dc2_2:=fun p:Bel W2=>c2_2.bel p
 simp only [At,Own,Nat.reduceAdd,and_true] at dc2_0 dc2_1 dc2_2;refine wp_region_tail 4 (by kernel_rfl) (by kernel_rfl) ?_;simp only [List.take_succ_cons,List.take_zero,List.drop_succ_cons,List.drop_zero];repeat (go_big_quiet_step (first|(go_at_call 159;with_reducible exact Calls.bel (K2.out _))|(go_at_call 159;with_reducible exact Calls.bel (K3.out _))))
 refine wpQuiet_nil ?_;intro w2 hb2;have c2_0x:=c2_0.up hb2;have c2_1x:=c2_1.up hb2;have c2_2x:=c2_2.up hb2;clear dc2_0 dc2_1 dc2_2 c2_0 c2_1 c2_2;have hD2:Below w.heap.size w w2:=bel_up hB2 hb2;have uc2_0x:=c2_0x;have uc2_1x:=c2_1x;have uc2_2x:=c2_2x;simp only [At,Own,Nat.reduceAdd,and_true] at uc2_0x uc2_1x uc2_2x
 -- NE
 go_wp2_with fail;refine calls_named ?_;intro W3 hW3;have c3_0:Own W3 w.heap.size 0 [.bool (ng n),.string (mg n.natAbs)]:=by rw [hW3];simp [Own,go_sem,uc2_0x,uc2_1x,uc2_2x]
 have c3_1:Own W3 (w.heap.size+1) 0 [.bool false,.string (mg d)]:=by rw [hW3];simp [Own,go_sem,uc2_0x,uc2_1x,uc2_2x]
 have c3_2:Own W3 (w.heap.size+2) 0 [.bool false,.string ⟨#[]⟩,.bool false,.string ⟨#[]⟩]:=by rw [hW3];simp [Own,go_sem,uc2_0x,uc2_1x,uc2_2x]
 have hB3:Below w.heap.size w W3:=by rw [hW3];exact bB
 clear hW3 uc2_0x uc2_1x uc2_2x c2_0x c2_1x c2_2x;have uc3_0:=c3_0;have uc3_1:=c3_1;have uc3_2:=c3_2;simp only [At,Own,Nat.reduceAdd,and_true] at uc3_0 uc3_1 uc3_2;with_reducible refine (K4.out _).mono ?_
 rintro e w3 ⟨rfl,hb3⟩;have c3_0x:=c3_0.up hb3;have c3_1x:=c3_1.up hb3;have c3_2x:=c3_2.up hb3;have hDw3:Below w.heap.size w w3:=bel_up hB3 hb3;clear uc3_0 uc3_1 uc3_2 c3_0 c3_1 c3_2;have uc3_0x:=c3_0x;have uc3_1x:=c3_1x;have uc3_2x:=c3_2x;simp only [At,Own,Nat.reduceAdd,and_true] at uc3_0x uc3_1x uc3_2x
 -- NE
 have nc3_0x_0_:w.heap.size<w3.heap.size:=by have:=c3_0x.lt;omega
 have nc3_0x_0:=Nat.ne_of_lt nc3_0x_0_;have nc3_0x_0':=nc3_0x_0.symm;have nc3_1x_0_:w.heap.size+1<w3.heap.size:=by have:=c3_1x.lt;omega
 have nc3_1x_0:=Nat.ne_of_lt nc3_1x_0_;have nc3_1x_0':=nc3_1x_0.symm;have nc3_2x_0_:w.heap.size+2<w3.heap.size:=by have:=c3_2x.lt;omega
 have nc3_2x_0:=Nat.ne_of_lt nc3_2x_0_;have nc3_2x_0':=nc3_2x_0.symm;go_wp2_with fail;refine wp_named ?_;intro W4 hW4;have hL4:Below w3.heap.size w3 W4:=by rw [hW4];exact bB
 have c4_0:=c3_0x.up hL4;have c4_1:=c3_1x.up hL4;have c4_2:=c3_2x.up hL4;have c4_3:Own W4 w3.heap.size 0 [.bool false,.string (mg G)]:=by rw [hW4];simp [Own,go_sem,uc3_0x,uc3_1x,uc3_2x,nc3_0x_0,nc3_0x_0',nc3_0x_0_,nc3_1x_0,nc3_1x_0',nc3_1x_0_,nc3_2x_0,nc3_2x_0',nc3_2x_0_]
 have hB4:Below w.heap.size w W4:=by rw [hW4];exact bB
 clear hW4 hL4 uc3_0x uc3_1x uc3_2x c3_0x c3_1x c3_2x;have dc4_0:=fun p:Bel W4=>c4_0.bel p;have dc4_1:=fun p:Bel W4=>c4_1.bel p;have dc4_2:=fun p:Bel W4=>c4_2.bel p;have dc4_3:=fun p:Bel W4=>c4_3.bel p
 simp only [At,Own,Nat.reduceAdd,and_true] at dc4_0 dc4_1 dc4_2 dc4_3;refine wp_region_tail 6 (by kernel_rfl) (by kernel_rfl) ?_;simp only [List.take_succ_cons,List.take_zero,List.drop_succ_cons,List.drop_zero];repeat (go_big_quiet_step (first|(go_at_call 171;with_reducible exact Calls.bel (K5.out _))|(go_at_call 171;with_reducible exact Calls.bel (K6.out _))))
 refine wpQuiet_nil ?_;intro w4 hb4;have c4_0x:=c4_0.up hb4;have c4_1x:=c4_1.up hb4;have c4_2x:=c4_2.up hb4;have c4_3x:=c4_3.up hb4;clear dc4_0 dc4_1 dc4_2 dc4_3 c4_0 c4_1 c4_2 c4_3;have hD4:Below w.heap.size w w4:=bel_up hB4 hb4;have uc4_0x:=c4_0x;have uc4_1x:=c4_1x;have uc4_2x:=c4_2x;have uc4_3x:=c4_3x;simp only [At,Own,Nat.reduceAdd,and_true] at uc4_0x uc4_1x uc4_2x uc4_3x
 -- NE
 go_wp2_with fail;refine wp_named ?_;intro W5 hW5;have c5_0:Own W5 w.heap.size 0 [.bool (ng N),.string (mg N.natAbs)]:=by rw [hW5];simp [Own,go_sem,uc4_0x,uc4_1x,uc4_2x,uc4_3x]
 have c5_1:Own W5 (w.heap.size+1) 0 [.bool false,.string (mg M)]:=by rw [hW5];simp [Own,go_sem,uc4_0x,uc4_1x,uc4_2x,uc4_3x]
 have c5_2:Own W5 (w.heap.size+2) 0 [.bool false,.string ⟨#[]⟩,.bool false,.string ⟨#[]⟩]:=by rw [hW5];simp [Own,go_sem,uc4_0x,uc4_1x,uc4_2x,uc4_3x]
 have c5_3:Own W5 w3.heap.size 0 [.bool false,.string (mg G)]:=by rw [hW5];simp [Own,go_sem,uc4_0x,uc4_1x,uc4_2x,uc4_3x]
 have hB5:Below w.heap.size w W5:=by rw [hW5];exact bB
 clear hW5 uc4_0x uc4_1x uc4_2x uc4_3x c4_0x c4_1x c4_2x c4_3x;have dc5_0:=fun p:Bel W5=>c5_0.bel p;have dc5_1:=fun p:Bel W5=>c5_1.bel p;have dc5_2:=fun p:Bel W5=>c5_2.bel p;have dc5_3:=fun p:Bel W5=>c5_3.bel p
 simp only [At,Own,Nat.reduceAdd,and_true] at dc5_0 dc5_1 dc5_2 dc5_3;refine wp_region_all (by kernel_rfl) (by kernel_rfl) ?_;repeat (go_big_quiet_step (first|(go_at_call 153;with_reducible exact Calls.bel (K7.out _))))
 refine wpQuiet_nil ?_;intro w5 hb5;have c5_0x:=c5_0.up hb5;have c5_1x:=c5_1.up hb5;have c5_2x:=c5_2.up hb5;have c5_3x:=c5_3.up hb5;clear dc5_0 dc5_1 dc5_2 dc5_3 c5_0 c5_1 c5_2 c5_3;have hD5:Below w.heap.size w w5:=bel_up hB5 hb5;have uc5_0x:=c5_0x;have uc5_1x:=c5_1x;have uc5_2x:=c5_2x;have uc5_3x:=c5_3x;simp only [At,Own,Nat.reduceAdd,and_true] at uc5_0x uc5_1x uc5_2x uc5_3x
 -- NE
 go_wp2;refine bodyPost_ret (v:=.agg #[.bool (ng N),.string (mg N.natAbs),.bool false,.string ⟨#[]⟩]) (by simp [results,Tryz.results132,go_sem,uc5_2x]) rfl ⟨rfl,?_⟩;exact bB

set_option maxHeartbeats 1000000 in
theorem canon_mmore (n:Int) (d:Nat) (w:World) (N:Int) (M:Nat) (hd:d≠0) (ha:Pl.L n.natAbs≤67108864) (hb:Pl.L d≤67108864) (hN:n/(Nat.gcd n.natAbs d:Nat)=N) (hM:d/Nat.gcd n.natAbs d=M) (hm:¬ d/Nat.gcd n.natAbs d=1) :
 Calls Tryz.prog 132 #[iv (-n),mv d] w fun e w'=>e=.returned (.agg #[.bool (ng N),.string (mg N.natAbs),.bool false,.string (mg M)])∧Below w.heap.size w w':=by
 have ks1:=sign_minus d hd;have km1:=fun W=>negate_any (-n) W
 rw [Int.neg_neg] at km1;have km2:=negate_minus d hd;have KS:=Lib.hid ks1;have KM1:=Lib.hid km1;have KM2:=Lib.hid km2;obtain ⟨m,hmm⟩:∃ m:Int,m=-n:=⟨_,rfl⟩
 rw [← hmm] at KM1 ⊢;clear ks1 km1 km2 hmm;have hg:0<Nat.gcd n.natAbs d:=Nat.gcd_pos_of_pos_right _ (Nat.pos_of_ne_zero hd);have hgl:Pl.L (Nat.gcd n.natAbs d)≤67108864:=Nat.le_trans (Pl.L_mono (Nat.le_of_dvd (Nat.pos_of_ne_zero hd) (Nat.gcd_dvd_right _ _))) hb;have k1:=fun W=>gcd_in n d W ha hb
 have k2:=fun W=>quot_any n (Nat.gcd n.natAbs d) W hg (Int.ofNat_dvd_left.2 (Nat.gcd_dvd_left _ _)) ha hgl
 have k3:=fun W=>quot_nat d (Nat.gcd n.natAbs d) W hg (Nat.gcd_dvd_right _ _) hb hgl
 have k4:=one_any;have EQ:=fun W=>eqI_in false false (d/Nat.gcd n.natAbs d) 1 W
 rw [decide_eq_false hm] at EQ;rw [hN] at k2;rw [hM] at k3 EQ;simp only [beq_self_eq_true,Bool.true_and] at EQ;generalize Nat.gcd n.natAbs d=G at k1 k2 k3;generalize (1:Nat)=U at k4 EQ;have KG:=Lib.hid k1;have KN:=Lib.hid k2;have KM:=Lib.hid k3;have KO:=Lib.hid k4;clear hm hN hM k1 k2 k3 k4 hg hgl ha hb hd;have K1:=Lib.hid (fun W=>KS.out W);have K2:=Lib.hid (fun W=>KM1.out W);have K3:=Lib.hid (fun W=>KM2.out W);have K4:=Lib.hid (fun W=>KG.out W);have K5:=Lib.hid (fun W=>KN.out W);have K6:=Lib.hid (fun W=>KM.out W);have K7:=Lib.hid (fun W=>KO.out W);go_enter Tryz.func132,Tryz.ntmps132;go_wp2_with fail;refine calls_named ?_;intro W1 hW1;have c1_0:Own W1 w.heap.size 0 [.bool (ng m),.string (mg m.natAbs)]:=by rw [hW1];simp [Own,go_sem]
 have c1_1:Own W1 (w.heap.size+1) 0 [.bool true,.string (mg d)]:=by rw [hW1];simp [Own,go_sem]
 have c1_2:Own W1 (w.heap.size+2) 0 [.bool false,.string ⟨#[]⟩,.bool false,.string ⟨#[]⟩]:=by rw [hW1];simp [Own,go_sem]
 have hB1:Below w.heap.size w W1:=by rw [hW1];exact bB
 clear hW1;have uc1_0:=c1_0;have uc1_1:=c1_1;have uc1_2:=c1_2;simp only [At,Own,Nat.reduceAdd,and_true] at uc1_0 uc1_1 uc1_2;with_reducible refine (K1.out _).mono ?_
 rintro e w1 ⟨rfl,hb1⟩;have c1_0x:=c1_0.up hb1;have c1_1x:=c1_1.up hb1;have c1_2x:=c1_2.up hb1;have hDw1:Below w.heap.size w w1:=bel_up hB1 hb1;clear uc1_0 uc1_1 uc1_2 c1_0 c1_1 c1_2;have uc1_0x:=c1_0x;have uc1_1x:=c1_1x;have uc1_2x:=c1_2x;simp only [At,Own,Nat.reduceAdd,and_true] at uc1_0x uc1_1x uc1_2x
 -- NE
 go_wp2_with fail;refine wp_named ?_;intro W2 hW2;have hL2:Below w1.heap.size w1 W2:=by rw [hW2];exact bB
 have c2_0:=c1_0x.up hL2;have c2_1:=c1_1x.up hL2;have c2_2:=c1_2x.up hL2;have hB2:Below w.heap.size w W2:=by rw [hW2];exact bB
 clear hW2 hL2 uc1_0x uc1_1x uc1_2x c1_0x c1_1x c1_2x;have dc2_0:=fun p:Bel W2=>c2_0.bel p;have dc2_1:=fun p:Bel W2=>c2_1.bel p;have dc2_2:=fun p:Bel W2=>c2_2.bel p
 simp only [At,Own,Nat.reduceAdd,and_true] at dc2_0 dc2_1 dc2_2;refine wp_region_tail 4 (by kernel_rfl) (by kernel_rfl) ?_;simp only [List.take_succ_cons,List.take_zero,List.drop_succ_cons,List.drop_zero];repeat (go_big_quiet_step (first|(go_at_call 159;with_reducible exact Calls.bel (K2.out _))|(go_at_call 159;with_reducible exact Calls.bel (K3.out _))))
 refine wpQuiet_nil ?_;intro w2 hb2;have c2_0x:=c2_0.up hb2;have c2_1x:=c2_1.up hb2;have c2_2x:=c2_2.up hb2;clear dc2_0 dc2_1 dc2_2 c2_0 c2_1 c2_2;have hD2:Below w.heap.size w w2:=bel_up hB2 hb2;have uc2_0x:=c2_0x;have uc2_1x:=c2_1x;have uc2_2x:=c2_2x;simp only [At,Own,Nat.reduceAdd,and_true] at uc2_0x uc2_1x uc2_2x
 -- NE
 go_wp2_with fail;refine calls_named ?_;intro W3 hW3;have c3_0:Own W3 w.heap.size 0 [.bool (ng n),.string (mg n.natAbs)]:=by rw [hW3];simp [Own,go_sem,uc2_0x,uc2_1x,uc2_2x]
 have c3_1:Own W3 (w.heap.size+1) 0 [.bool false,.string (mg d)]:=by rw [hW3];simp [Own,go_sem,uc2_0x,uc2_1x,uc2_2x]
 have c3_2:Own W3 (w.heap.size+2) 0 [.bool false,.string ⟨#[]⟩,.bool false,.string ⟨#[]⟩]:=by rw [hW3];simp [Own,go_sem,uc2_0x,uc2_1x,uc2_2x]
 have hB3:Below w.heap.size w W3:=by rw [hW3];exact bB
 clear hW3 uc2_0x uc2_1x uc2_2x c2_0x c2_1x c2_2x;have uc3_0:=c3_0;have uc3_1:=c3_1;have uc3_2:=c3_2;simp only [At,Own,Nat.reduceAdd,and_true] at uc3_0 uc3_1 uc3_2;with_reducible refine (K4.out _).mono ?_
 rintro e w3 ⟨rfl,hb3⟩;have c3_0x:=c3_0.up hb3;have c3_1x:=c3_1.up hb3;have c3_2x:=c3_2.up hb3;have hDw3:Below w.heap.size w w3:=bel_up hB3 hb3;clear uc3_0 uc3_1 uc3_2 c3_0 c3_1 c3_2;have uc3_0x:=c3_0x;have uc3_1x:=c3_1x;have uc3_2x:=c3_2x;simp only [At,Own,Nat.reduceAdd,and_true] at uc3_0x uc3_1x uc3_2x
 -- NE
 have nc3_0x_0_:w.heap.size<w3.heap.size:=by have:=c3_0x.lt;omega
 have nc3_0x_0:=Nat.ne_of_lt nc3_0x_0_;have nc3_0x_0':=nc3_0x_0.symm;have nc3_1x_0_:w.heap.size+1<w3.heap.size:=by have:=c3_1x.lt;omega
 have nc3_1x_0:=Nat.ne_of_lt nc3_1x_0_;have nc3_1x_0':=nc3_1x_0.symm;have nc3_2x_0_:w.heap.size+2<w3.heap.size:=by have:=c3_2x.lt;omega
 have nc3_2x_0:=Nat.ne_of_lt nc3_2x_0_;have nc3_2x_0':=nc3_2x_0.symm;go_wp2_with fail;refine wp_named ?_;intro W4 hW4;have hL4:Below w3.heap.size w3 W4:=by rw [hW4];exact bB
 have c4_0:=c3_0x.up hL4;have c4_1:=c3_1x.up hL4;have c4_2:=c3_2x.up hL4;have c4_3:Own W4 w3.heap.size 0 [.bool false,.string (mg G)]:=by rw [hW4];simp [Own,go_sem,uc3_0x,uc3_1x,uc3_2x,nc3_0x_0,nc3_0x_0',nc3_0x_0_,nc3_1x_0,nc3_1x_0',nc3_1x_0_,nc3_2x_0,nc3_2x_0',nc3_2x_0_]
 have hB4:Below w.heap.size w W4:=by rw [hW4];exact bB
 clear hW4 hL4 uc3_0x uc3_1x uc3_2x c3_0x c3_1x c3_2x;have dc4_0:=fun p:Bel W4=>c4_0.bel p;have dc4_1:=fun p:Bel W4=>c4_1.bel p;have dc4_2:=fun p:Bel W4=>c4_2.bel p;have dc4_3:=fun p:Bel W4=>c4_3.bel p
 simp only [At,Own,Nat.reduceAdd,and_true] at dc4_0 dc4_1 dc4_2 dc4_3;refine wp_region_tail 6 (by kernel_rfl) (by kernel_rfl) ?_;simp only [List.take_succ_cons,List.take_zero,List.drop_succ_cons,List.drop_zero];repeat (go_big_quiet_step (first|(go_at_call 171;with_reducible exact Calls.bel (K5.out _))|(go_at_call 171;with_reducible exact Calls.bel (K6.out _))))
 refine wpQuiet_nil ?_;intro w4 hb4;have c4_0x:=c4_0.up hb4;have c4_1x:=c4_1.up hb4;have c4_2x:=c4_2.up hb4;have c4_3x:=c4_3.up hb4;clear dc4_0 dc4_1 dc4_2 dc4_3 c4_0 c4_1 c4_2 c4_3;have hD4:Below w.heap.size w w4:=bel_up hB4 hb4;have uc4_0x:=c4_0x;have uc4_1x:=c4_1x;have uc4_2x:=c4_2x;have uc4_3x:=c4_3x;simp only [At,Own,Nat.reduceAdd,and_true] at uc4_0x uc4_1x uc4_2x uc4_3x
 -- NE
 go_wp2_with fail;refine wp_named ?_;intro W5 hW5;have c5_0:Own W5 w.heap.size 0 [.bool (ng N),.string (mg N.natAbs)]:=by rw [hW5];simp [Own,go_sem,uc4_0x,uc4_1x,uc4_2x,uc4_3x]
 have c5_1:Own W5 (w.heap.size+1) 0 [.bool false,.string (mg M)]:=by rw [hW5];simp [Own,go_sem,uc4_0x,uc4_1x,uc4_2x,uc4_3x]
 have c5_2:Own W5 (w.heap.size+2) 0 [.bool false,.string ⟨#[]⟩,.bool false,.string ⟨#[]⟩]:=by rw [hW5];simp [Own,go_sem,uc4_0x,uc4_1x,uc4_2x,uc4_3x]
 have c5_3:Own W5 w3.heap.size 0 [.bool false,.string (mg G)]:=by rw [hW5];simp [Own,go_sem,uc4_0x,uc4_1x,uc4_2x,uc4_3x]
 have hB5:Below w.heap.size w W5:=by rw [hW5];exact bB
 clear hW5 uc4_0x uc4_1x uc4_2x uc4_3x c4_0x c4_1x c4_2x c4_3x;have dc5_0:=fun p:Bel W5=>c5_0.bel p;have dc5_1:=fun p:Bel W5=>c5_1.bel p;have dc5_2:=fun p:Bel W5=>c5_2.bel p;have dc5_3:=fun p:Bel W5=>c5_3.bel p
 simp only [At,Own,Nat.reduceAdd,and_true] at dc5_0 dc5_1 dc5_2 dc5_3;refine wp_region_all (by kernel_rfl) (by kernel_rfl) ?_;repeat (go_big_quiet_step (first|(go_at_call 153;with_reducible exact Calls.bel (K7.out _))))
 refine wpQuiet_nil ?_;intro w5 hb5;have c5_0x:=c5_0.up hb5;have c5_1x:=c5_1.up hb5;have c5_2x:=c5_2.up hb5;have c5_3x:=c5_3.up hb5;clear dc5_0 dc5_1 dc5_2 dc5_3 c5_0 c5_1 c5_2 c5_3;have hD5:Below w.heap.size w w5:=bel_up hB5 hb5;have uc5_0x:=c5_0x;have uc5_1x:=c5_1x;have uc5_2x:=c5_2x;have uc5_3x:=c5_3x;simp only [At,Own,Nat.reduceAdd,and_true] at uc5_0x uc5_1x uc5_2x uc5_3x
 -- NE
 go_wp2;refine bodyPost_ret (v:=.agg #[.bool (ng N),.string (mg N.natAbs),.bool false,.string (mg M)]) (by simp [results,Tryz.results132,go_sem,uc5_2x]) rfl ⟨rfl,?_⟩;exact bB

theorem canon_minus (n:Int) (d:Nat) (w:World) (hd:d≠0) (ha:Pl.L n.natAbs≤67108864) (hb:Pl.L d≤67108864) :
 Calls Tryz.prog 132 #[iv (-n),mv d] w fun e w'=>e=.returned (qv (mkRat n d))∧Below w.heap.size w w':=by
 obtain ⟨h1,h2⟩:=canon_parts n d hd
 by_cases hm:d/Nat.gcd n.natAbs d=1
 ·refine (canon_mone n d w _ _ hd ha hb rfl rfl hm).mono fun e w' ⟨he,hw⟩=>⟨?_,hw⟩
  rw [he,qv,dn,h1,h2,if_pos hm];rfl
 ·refine (canon_mmore n d w _ _ hd ha hb rfl rfl hm).mono fun e w' ⟨he,hw⟩=>⟨?_,hw⟩
  rw [he,qv,dn,h1,h2,if_neg hm]

theorem canon_any (n:Int) (d:Nat) (w:World) (hd:d≠0) (ha:Pl.L n.natAbs≤67108864) (hb:Pl.L d≤67108864) :
 Calls Tryz.prog 132 #[iv n,nv d] w fun e w'=>e=.returned (qv (mkRat n d))∧Below w.heap.size w w':=by
 obtain ⟨h1,h2⟩:=canon_parts n d hd
 by_cases hm:d/Nat.gcd n.natAbs d=1
 ·refine (canon_one n d w _ _ hd ha hb rfl rfl hm).mono fun e w' ⟨he,hw⟩=>⟨?_,hw⟩
  rw [he,qv,dn,h1,h2,if_pos hm];rfl
 ·refine (canon_more n d w _ _ hd ha hb rfl rfl hm).mono fun e w' ⟨he,hw⟩=>⟨?_,hw⟩
  rw [he,qv,dn,h1,h2,if_neg hm]
end Go.Proofs.YtiochgoocbkckaaGreatDoor
