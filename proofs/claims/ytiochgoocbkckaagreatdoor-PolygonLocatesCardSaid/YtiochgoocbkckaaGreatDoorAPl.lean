/-
 Contracts of package plane.
-/
import Derived.Test.YtiochgoocbkckaaGreatDoorAgak
set_option maxRecDepth 100000
set_option linter.unusedSimpArgs false
set_option linter.unusedVariables false
namespace Go.Proofs.YtiochgoocbkckaaGreatDoor
open Go Go.RowKit

theorem padd_any {j k:Nat} (p:Rat×Rat) (q:Rat×Rat) (w:World) (hp:Pl.SzP j p) (hq:Pl.SzP k q) (hj:j≤1000000) (hk:k≤1000000) :
 Calls Tryz.prog 82 #[pv p,pv q] w fun e w'=>e=.returned (pv (Pl.addP p q))∧Below w.heap.size w w':=by
 have K1:=Lib.hid (fun W=>qadd_any p.1 q.1 W (hp.1.mono (by omega)) (hq.1.mono (by omega)));have K2:=Lib.hid (fun W=>qadd_any p.2 q.2 W (hp.2.mono (by omega)) (hq.2.mono (by omega)));clear hp hq hj hk;go_enter Tryz.func82,Tryz.ntmps82;go_wp2_with fail;refine wp_named ?_;intro W1 hW1;have c1_0:At W1 w.heap.size 0 [.bool (ng p.1.num),.string (mg p.1.num.natAbs),.bool false,.string (mg (dn p.1)),.bool (ng p.2.num),.string (mg p.2.num.natAbs),.bool false,.string (mg (dn p.2))]:=by rw [hW1];simp [At,go_sem]
 have c1_1:At W1 (w.heap.size+1) 0 [.bool (ng q.1.num),.string (mg q.1.num.natAbs),.bool false,.string (mg (dn q.1)),.bool (ng q.2.num),.string (mg q.2.num.natAbs),.bool false,.string (mg (dn q.2))]:=by rw [hW1];simp [At,go_sem]
 have c1_2:Own W1 (w.heap.size+2) 0 [.bool false,.string ⟨#[]⟩,.bool false,.string ⟨#[]⟩,.bool false,.string ⟨#[]⟩,.bool false,.string ⟨#[]⟩]:=by rw [hW1];simp [Own,go_sem]
 have hB1:Below w.heap.size w W1:=by rw [hW1];exact bB
 clear hW1;have dc1_0:=fun p:Bel W1=>c1_0.bel p;have dc1_1:=fun p:Bel W1=>c1_1.bel p;have dc1_2:=fun p:Bel W1=>c1_2.bel p
 simp only [At,Own,Nat.reduceAdd,and_true] at dc1_0 dc1_1 dc1_2;refine wp_region_tail 11 (by kernel_rfl) (by kernel_rfl) ?_;simp only [List.take_succ_cons,List.take_zero,List.drop_succ_cons,List.drop_zero];repeat (go_big_quiet_step (first|(go_at_call 72;with_reducible exact Calls.bel (K1.out _))|(go_at_call 72;with_reducible exact Calls.bel (K2.out _))))
 refine wpQuiet_nil ?_;intro w1 hb1;have c1_0x:=c1_0.up hb1;have c1_1x:=c1_1.up hb1;have c1_2x:=c1_2.up hb1;clear dc1_0 dc1_1 dc1_2 c1_0 c1_1 c1_2;have hD1:Below w.heap.size w w1:=bel_up hB1 hb1;have uc1_0x:=c1_0x;have uc1_1x:=c1_1x;have uc1_2x:=c1_2x;simp only [At,Own,Nat.reduceAdd,and_true] at uc1_0x uc1_1x uc1_2x
 -- NE
 go_wp2;refine bodyPost_ret (v:=.agg #[.bool (ng ((p.1+q.1).num)),.string (mg ((p.1+q.1).num).natAbs),.bool false,.string (mg (dn (p.1+q.1))),.bool (ng ((p.2+q.2).num)),.string (mg ((p.2+q.2).num).natAbs),.bool false,.string (mg (dn (p.2+q.2)))]) (by simp [results,Tryz.results82,go_sem,uc1_2x]) rfl ⟨rfl,?_⟩;exact bB

theorem psub_any {j k:Nat} (p:Rat×Rat) (q:Rat×Rat) (w:World) (hp:Pl.SzP j p) (hq:Pl.SzP k q) (hj:j≤1000000) (hk:k≤1000000) :
 Calls Tryz.prog 136 #[pv p,pv q] w fun e w'=>e=.returned (pv (Pl.subP p q))∧Below w.heap.size w w':=by
 have K1:=Lib.hid (fun W=>qsub_any p.1 q.1 W (hp.1.mono (by omega)) (hq.1.mono (by omega)));have K2:=Lib.hid (fun W=>qsub_any p.2 q.2 W (hp.2.mono (by omega)) (hq.2.mono (by omega)));clear hp hq hj hk;go_enter Tryz.func136,Tryz.ntmps136;go_wp2_with fail;refine wp_named ?_;intro W1 hW1;have c1_0:At W1 w.heap.size 0 [.bool (ng p.1.num),.string (mg p.1.num.natAbs),.bool false,.string (mg (dn p.1)),.bool (ng p.2.num),.string (mg p.2.num.natAbs),.bool false,.string (mg (dn p.2))]:=by rw [hW1];simp [At,go_sem]
 have c1_1:At W1 (w.heap.size+1) 0 [.bool (ng q.1.num),.string (mg q.1.num.natAbs),.bool false,.string (mg (dn q.1)),.bool (ng q.2.num),.string (mg q.2.num.natAbs),.bool false,.string (mg (dn q.2))]:=by rw [hW1];simp [At,go_sem]
 have c1_2:Own W1 (w.heap.size+2) 0 [.bool false,.string ⟨#[]⟩,.bool false,.string ⟨#[]⟩,.bool false,.string ⟨#[]⟩,.bool false,.string ⟨#[]⟩]:=by rw [hW1];simp [Own,go_sem]
 have hB1:Below w.heap.size w W1:=by rw [hW1];exact bB
 clear hW1;have dc1_0:=fun p:Bel W1=>c1_0.bel p;have dc1_1:=fun p:Bel W1=>c1_1.bel p;have dc1_2:=fun p:Bel W1=>c1_2.bel p
 simp only [At,Own,Nat.reduceAdd,and_true] at dc1_0 dc1_1 dc1_2;refine wp_region_tail 11 (by kernel_rfl) (by kernel_rfl) ?_;simp only [List.take_succ_cons,List.take_zero,List.drop_succ_cons,List.drop_zero];repeat (go_big_quiet_step (first|(go_at_call 64;with_reducible exact Calls.bel (K1.out _))|(go_at_call 64;with_reducible exact Calls.bel (K2.out _))))
 refine wpQuiet_nil ?_;intro w1 hb1;have c1_0x:=c1_0.up hb1;have c1_1x:=c1_1.up hb1;have c1_2x:=c1_2.up hb1;clear dc1_0 dc1_1 dc1_2 c1_0 c1_1 c1_2;have hD1:Below w.heap.size w w1:=bel_up hB1 hb1;have uc1_0x:=c1_0x;have uc1_1x:=c1_1x;have uc1_2x:=c1_2x;simp only [At,Own,Nat.reduceAdd,and_true] at uc1_0x uc1_1x uc1_2x
 -- NE
 go_wp2;refine bodyPost_ret (v:=.agg #[.bool (ng ((p.1-q.1).num)),.string (mg ((p.1-q.1).num).natAbs),.bool false,.string (mg (dn (p.1-q.1))),.bool (ng ((p.2-q.2).num)),.string (mg ((p.2-q.2).num).natAbs),.bool false,.string (mg (dn (p.2-q.2)))]) (by simp [results,Tryz.results136,go_sem,uc1_2x]) rfl ⟨rfl,?_⟩;exact bB

theorem pscale_any {j k:Nat} (p:Rat×Rat) (r:Rat) (w:World) (hp:Pl.SzP j p) (hr:Pl.Sz k r) (hj:j≤1000000) (hk:k≤1000000) :
 Calls Tryz.prog 146 #[pv p,qv r] w fun e w'=>e=.returned (pv (Pl.scaleP p r))∧Below w.heap.size w w':=by
 have K1:=Lib.hid (fun W=>qmul_any p.1 r W (hp.1.mono (by omega)) (hr.mono (by omega)));have K2:=Lib.hid (fun W=>qmul_any p.2 r W (hp.2.mono (by omega)) (hr.mono (by omega)));clear hp hr hj hk;go_enter Tryz.func146,Tryz.ntmps146;go_wp2_with fail;refine wp_named ?_;intro W1 hW1;have c1_0:At W1 w.heap.size 0 [.bool (ng p.1.num),.string (mg p.1.num.natAbs),.bool false,.string (mg (dn p.1)),.bool (ng p.2.num),.string (mg p.2.num.natAbs),.bool false,.string (mg (dn p.2))]:=by rw [hW1];simp [At,go_sem]
 have c1_1:At W1 (w.heap.size+1) 0 [.bool (ng r.num),.string (mg r.num.natAbs),.bool false,.string (mg (dn r))]:=by rw [hW1];simp [At,go_sem]
 have c1_2:Own W1 (w.heap.size+2) 0 [.bool false,.string ⟨#[]⟩,.bool false,.string ⟨#[]⟩,.bool false,.string ⟨#[]⟩,.bool false,.string ⟨#[]⟩]:=by rw [hW1];simp [Own,go_sem]
 have hB1:Below w.heap.size w W1:=by rw [hW1];exact bB
 clear hW1;have dc1_0:=fun p:Bel W1=>c1_0.bel p;have dc1_1:=fun p:Bel W1=>c1_1.bel p;have dc1_2:=fun p:Bel W1=>c1_2.bel p
 simp only [At,Own,Nat.reduceAdd,and_true] at dc1_0 dc1_1 dc1_2;refine wp_region_tail 9 (by kernel_rfl) (by kernel_rfl) ?_;simp only [List.take_succ_cons,List.take_zero,List.drop_succ_cons,List.drop_zero];repeat (go_big_quiet_step (first|(go_at_call 134;with_reducible exact Calls.bel (K1.out _))|(go_at_call 134;with_reducible exact Calls.bel (K2.out _))))
 refine wpQuiet_nil ?_;intro w1 hb1;have c1_0x:=c1_0.up hb1;have c1_1x:=c1_1.up hb1;have c1_2x:=c1_2.up hb1;clear dc1_0 dc1_1 dc1_2 c1_0 c1_1 c1_2;have hD1:Below w.heap.size w w1:=bel_up hB1 hb1;have uc1_0x:=c1_0x;have uc1_1x:=c1_1x;have uc1_2x:=c1_2x;simp only [At,Own,Nat.reduceAdd,and_true] at uc1_0x uc1_1x uc1_2x
 -- NE
 go_wp2;refine bodyPost_ret (v:=.agg #[.bool (ng ((p.1*r).num)),.string (mg ((p.1*r).num).natAbs),.bool false,.string (mg (dn (p.1*r))),.bool (ng ((p.2*r).num)),.string (mg ((p.2*r).num).natAbs),.bool false,.string (mg (dn (p.2*r)))]) (by simp [results,Tryz.results146,go_sem,uc1_2x]) rfl ⟨rfl,?_⟩;exact bB

theorem pcross_any {j k:Nat} (p:Rat×Rat) (q:Rat×Rat) (w:World) (hp:Pl.SzP j p) (hq:Pl.SzP k q) (hj:j≤1000000) (hk:k≤1000000) :
 Calls Tryz.prog 73 #[pv p,pv q] w fun e w'=>e=.returned (qv (Pl.crossP p q))∧Below w.heap.size w w':=by
 have K1:=Lib.hid (fun W=>qmul_any p.1 q.2 W (hp.1.mono (by omega)) (hq.2.mono (by omega)));have K2:=Lib.hid (fun W=>qmul_any p.2 q.1 W (hp.2.mono (by omega)) (hq.1.mono (by omega)));have K3:=Lib.hid (fun W=>qsub_any (p.1*q.2) (p.2*q.1) W ((hp.1.mul hq.2).mono (by omega)) ((hp.2.mul hq.1).mono (by omega)));clear hp hq hj hk;go_enter Tryz.func73,Tryz.ntmps73;go_wp2_with fail;refine wp_named ?_;intro W1 hW1;have c1_0:At W1 w.heap.size 0 [.bool (ng p.1.num),.string (mg p.1.num.natAbs),.bool false,.string (mg (dn p.1)),.bool (ng p.2.num),.string (mg p.2.num.natAbs),.bool false,.string (mg (dn p.2))]:=by rw [hW1];simp [At,go_sem]
 have c1_1:At W1 (w.heap.size+1) 0 [.bool (ng q.1.num),.string (mg q.1.num.natAbs),.bool false,.string (mg (dn q.1)),.bool (ng q.2.num),.string (mg q.2.num.natAbs),.bool false,.string (mg (dn q.2))]:=by rw [hW1];simp [At,go_sem]
 have c1_2:Own W1 (w.heap.size+2) 0 [.bool false,.string ⟨#[]⟩,.bool false,.string ⟨#[]⟩]:=by rw [hW1];simp [Own,go_sem]
 have hB1:Below w.heap.size w W1:=by rw [hW1];exact bB
 clear hW1;have dc1_0:=fun p:Bel W1=>c1_0.bel p;have dc1_1:=fun p:Bel W1=>c1_1.bel p;have dc1_2:=fun p:Bel W1=>c1_2.bel p
 simp only [At,Own,Nat.reduceAdd,and_true] at dc1_0 dc1_1 dc1_2;refine wp_region_tail 11 (by kernel_rfl) (by kernel_rfl) ?_;simp only [List.take_succ_cons,List.take_zero,List.drop_succ_cons,List.drop_zero];repeat (go_big_quiet_step (first|(go_at_call 134;with_reducible exact Calls.bel (K1.out _))|(go_at_call 134;with_reducible exact Calls.bel (K2.out _))|(go_at_call 64;with_reducible exact Calls.bel (K3.out _))))
 refine wpQuiet_nil ?_;intro w1 hb1;have c1_0x:=c1_0.up hb1;have c1_1x:=c1_1.up hb1;have c1_2x:=c1_2.up hb1;clear dc1_0 dc1_1 dc1_2 c1_0 c1_1 c1_2;have hD1:Below w.heap.size w w1:=bel_up hB1 hb1;have uc1_0x:=c1_0x;have uc1_1x:=c1_1x;have uc1_2x:=c1_2x;simp only [At,Own,Nat.reduceAdd,and_true] at uc1_0x uc1_1x uc1_2x
 -- NE
 go_wp2;refine bodyPost_ret (v:=.agg #[.bool (ng (((p.1*q.2)-(p.2*q.1)).num)),.string (mg (((p.1*q.2)-(p.2*q.1)).num).natAbs),.bool false,.string (mg (dn ((p.1*q.2)-(p.2*q.1))))]) (by simp [results,Tryz.results73,go_sem,uc1_2x]) rfl ⟨rfl,?_⟩;exact bB

theorem pcmp_far {j k:Nat} (p:Rat×Rat) (q:Rat×Rat) (w:World) (h:Pl.cmpQ p.1 q.1≠0) (hp:Pl.SzP j p) (hq:Pl.SzP k q) (hj:j≤1000000) (hk:k≤1000000) :
 Calls Tryz.prog 70 #[pv p,pv q] w fun e w'=>e=.returned (.int .i64 (Pl.cmpQ p.1 q.1))∧Below w.heap.size w w':=by
 have kx:=fun W=>qcmp_any p.1 q.1 W (hp.1.mono (by omega)) (hq.1.mono (by omega))
 have ky:=fun W=>qcmp_any p.2 q.2 W (hp.2.mono (by omega)) (hq.2.mono (by omega))
 have hz:=h;generalize Pl.cmpQ p.1 q.1=x at kx hz ⊢;generalize Pl.cmpQ p.2 q.2=y at ky;have hz1:(x != 0)=true:=by simpa using hz
 have KX:=Lib.hid kx;have KY:=Lib.hid ky;clear kx ky hz;have K1:=Lib.hid (fun W=>KX.out W);clear h hp hq hj hk;go_enter Tryz.func70,Tryz.ntmps70;go_wp2_with fail;refine calls_named ?_;intro W1 hW1;have c1_0:At W1 w.heap.size 0 [.bool (ng p.1.num),.string (mg p.1.num.natAbs),.bool false,.string (mg (dn p.1)),.bool (ng p.2.num),.string (mg p.2.num.natAbs),.bool false,.string (mg (dn p.2))]:=by rw [hW1];simp [At,go_sem]
 have c1_1:At W1 (w.heap.size+1) 0 [.bool (ng q.1.num),.string (mg q.1.num.natAbs),.bool false,.string (mg (dn q.1)),.bool (ng q.2.num),.string (mg q.2.num.natAbs),.bool false,.string (mg (dn q.2))]:=by rw [hW1];simp [At,go_sem]
 have hB1:Below w.heap.size w W1:=by rw [hW1];exact bB
 clear hW1;have uc1_0:=c1_0;have uc1_1:=c1_1;simp only [At,Own,Nat.reduceAdd,and_true] at uc1_0 uc1_1;with_reducible refine (K1.out _).mono ?_
 rintro e w1 ⟨rfl,hb1⟩;have c1_0x:=c1_0.up hb1;have c1_1x:=c1_1.up hb1;have hDw1:Below w.heap.size w w1:=bel_up hB1 hb1;clear uc1_0 uc1_1 c1_0 c1_1;have uc1_0x:=c1_0x;have uc1_1x:=c1_1x;simp only [At,Own,Nat.reduceAdd,and_true] at uc1_0x uc1_1x
 -- NE
 go_wp2;go_ret;refine ⟨rfl,?_⟩;exact bB

theorem pcmp_near {j k:Nat} (p:Rat×Rat) (q:Rat×Rat) (w:World) (h:Pl.cmpQ p.1 q.1=0) (hp:Pl.SzP j p) (hq:Pl.SzP k q) (hj:j≤1000000) (hk:k≤1000000) :
 Calls Tryz.prog 70 #[pv p,pv q] w fun e w'=>e=.returned (.int .i64 (Pl.cmpQ p.2 q.2))∧Below w.heap.size w w':=by
 have kx:=fun W=>qcmp_any p.1 q.1 W (hp.1.mono (by omega)) (hq.1.mono (by omega))
 have ky:=fun W=>qcmp_any p.2 q.2 W (hp.2.mono (by omega)) (hq.2.mono (by omega))
 have hz:=h;generalize Pl.cmpQ p.1 q.1=x at kx hz;generalize Pl.cmpQ p.2 q.2=y at ky ⊢;have hz1:(x != 0)=false:=by simpa using hz
 have KX:=Lib.hid kx;have KY:=Lib.hid ky;clear kx ky hz;have K1:=Lib.hid (fun W=>KX.out W);have K2:=Lib.hid (fun W=>KY.out W);clear h hp hq hj hk;go_enter Tryz.func70,Tryz.ntmps70;go_wp2_with fail;refine calls_named ?_;intro W1 hW1;have c1_0:At W1 w.heap.size 0 [.bool (ng p.1.num),.string (mg p.1.num.natAbs),.bool false,.string (mg (dn p.1)),.bool (ng p.2.num),.string (mg p.2.num.natAbs),.bool false,.string (mg (dn p.2))]:=by rw [hW1];simp [At,go_sem]
 have c1_1:At W1 (w.heap.size+1) 0 [.bool (ng q.1.num),.string (mg q.1.num.natAbs),.bool false,.string (mg (dn q.1)),.bool (ng q.2.num),.string (mg q.2.num.natAbs),.bool false,.string (mg (dn q.2))]:=by rw [hW1];simp [At,go_sem]
 have hB1:Below w.heap.size w W1:=by rw [hW1];exact bB
 clear hW1;have uc1_0:=c1_0;have uc1_1:=c1_1;simp only [At,Own,Nat.reduceAdd,and_true] at uc1_0 uc1_1;with_reducible refine (K1.out _).mono ?_
 rintro e w1 ⟨rfl,hb1⟩;have c1_0x:=c1_0.up hb1;have c1_1x:=c1_1.up hb1;have hDw1:Below w.heap.size w w1:=bel_up hB1 hb1;clear uc1_0 uc1_1 c1_0 c1_1;have uc1_0x:=c1_0x;have uc1_1x:=c1_1x;simp only [At,Own,Nat.reduceAdd,and_true] at uc1_0x uc1_1x
 -- NE
 go_wp2_with fail;refine calls_named ?_;intro W2 hW2;have hL2:Below w1.heap.size w1 W2:=by rw [hW2];exact bB
 have c2_0:=c1_0x.up hL2;have c2_1:=c1_1x.up hL2;have hB2:Below w.heap.size w W2:=by rw [hW2];exact bB
 clear hW2 hL2 uc1_0x uc1_1x c1_0x c1_1x;have uc2_0:=c2_0;have uc2_1:=c2_1;simp only [At,Own,Nat.reduceAdd,and_true] at uc2_0 uc2_1;with_reducible refine (K2.out _).mono ?_
 rintro e w2 ⟨rfl,hb2⟩;have c2_0x:=c2_0.up hb2;have c2_1x:=c2_1.up hb2;have hDw2:Below w.heap.size w w2:=bel_up hB2 hb2;clear uc2_0 uc2_1 c2_0 c2_1;have uc2_0x:=c2_0x;have uc2_1x:=c2_1x;simp only [At,Own,Nat.reduceAdd,and_true] at uc2_0x uc2_1x
 -- NE
 go_wp2;go_ret;refine ⟨rfl,?_⟩;exact bB

theorem pcmp_any {j k:Nat} (p q:Rat×Rat) (w:World) (hp:Pl.SzP j p) (hq:Pl.SzP k q) (hj:j≤1000000) (hk:k≤1000000) :
 Calls Tryz.prog 70 #[pv p,pv q] w fun e w'=>e=.returned (.int .i64 (Pl.cmpP p q))∧Below w.heap.size w w':=by
 unfold Pl.cmpP
 by_cases h:Pl.cmpQ p.1 q.1=0
 ·rw [if_pos h];exact pcmp_near p q w h hp hq hj hk
 ·rw [if_neg h];exact pcmp_far p q w h hp hq hj hk

theorem orient_any {i j k:Nat} (a:Rat×Rat) (b:Rat×Rat) (c:Rat×Rat) (w:World) (ha:Pl.SzP i a) (hb:Pl.SzP j b) (hc:Pl.SzP k c) (hi:i≤100000) (hj:j≤100000) (hk:k≤100000) :
 Calls Tryz.prog 77 #[pv a,pv b,pv c] w fun e w'=>e=.returned (.int .i64 (Pl.turn a b c))∧Below w.heap.size w w':=by
 have K1:=Lib.hid (fun W=>psub_any b a W hb ha (by omega) (by omega));have K2:=Lib.hid (fun W=>psub_any c a W hc ha (by omega) (by omega));have K3:=Lib.hid (fun W=>pcross_any (Pl.subP b a) (Pl.subP c a) W (hb.sub ha) (hc.sub ha) (by omega) (by omega));have K4:=Lib.hid (fun W=>qsign_any (Pl.crossP (Pl.subP b a) (Pl.subP c a)) W);clear ha hb hc hi hj hk;go_enter Tryz.func77,Tryz.ntmps77;go_wp2_with fail;refine wp_named ?_;intro W1 hW1;have c1_0:At W1 w.heap.size 0 [.bool (ng a.1.num),.string (mg a.1.num.natAbs),.bool false,.string (mg (dn a.1)),.bool (ng a.2.num),.string (mg a.2.num.natAbs),.bool false,.string (mg (dn a.2))]:=by rw [hW1];simp [At,go_sem]
 have c1_1:At W1 (w.heap.size+1) 0 [.bool (ng b.1.num),.string (mg b.1.num.natAbs),.bool false,.string (mg (dn b.1)),.bool (ng b.2.num),.string (mg b.2.num.natAbs),.bool false,.string (mg (dn b.2))]:=by rw [hW1];simp [At,go_sem]
 have c1_2:At W1 (w.heap.size+2) 0 [.bool (ng c.1.num),.string (mg c.1.num.natAbs),.bool false,.string (mg (dn c.1)),.bool (ng c.2.num),.string (mg c.2.num.natAbs),.bool false,.string (mg (dn c.2))]:=by rw [hW1];simp [At,go_sem]
 have hB1:Below w.heap.size w W1:=by rw [hW1];exact bB
 clear hW1;have dc1_0:=fun p:Bel W1=>c1_0.bel p;have dc1_1:=fun p:Bel W1=>c1_1.bel p;have dc1_2:=fun p:Bel W1=>c1_2.bel p
 simp only [At,Own,Nat.reduceAdd,and_true] at dc1_0 dc1_1 dc1_2;refine wp_region_tail 8 (by kernel_rfl) (by kernel_rfl) ?_;simp only [List.take_succ_cons,List.take_zero,List.drop_succ_cons,List.drop_zero];repeat (go_big_quiet_step (first|(go_at_call 136;with_reducible exact Calls.bel (K1.out _))|(go_at_call 136;with_reducible exact Calls.bel (K2.out _))|(go_at_call 73;with_reducible exact Calls.bel (K3.out _))|(go_at_call 125;with_reducible exact Calls.bel (K4.out _))))
 refine wpQuiet_nil ?_;intro w1 hb1;have c1_0x:=c1_0.up hb1;have c1_1x:=c1_1.up hb1;have c1_2x:=c1_2.up hb1;clear dc1_0 dc1_1 dc1_2 c1_0 c1_1 c1_2;have hD1:Below w.heap.size w w1:=bel_up hB1 hb1;have uc1_0x:=c1_0x;have uc1_1x:=c1_1x;have uc1_2x:=c1_2x;simp only [At,Own,Nat.reduceAdd,and_true] at uc1_0x uc1_1x uc1_2x
 -- NE
 go_wp2;go_ret;refine ⟨rfl,?_⟩;exact bB

theorem pdiv_any {j k:Nat} (s:(Rat×Rat)×(Rat×Rat)) (r:Rat) (w:World) (hs:Pl.SzS j s) (hr:Pl.Sz k r) (hj:j≤100000) (hk:k≤100000) :
 Calls Tryz.prog 105 #[sv s,qv r] w fun e w'=>e=.returned (pv (Pl.divide s r))∧Below w.heap.size w w':=by
 have K1:=Lib.hid (fun W=>psub_any s.2 s.1 W hs.2 hs.1 (by omega) (by omega));have K2:=Lib.hid (fun W=>pscale_any (Pl.subP s.2 s.1) r W (hs.2.sub hs.1) hr (by omega) (by omega));have K3:=Lib.hid (fun W=>padd_any s.1 (Pl.scaleP (Pl.subP s.2 s.1) r) W hs.1 ((hs.2.sub hs.1).scale hr) (by omega) (by omega));clear hs hr hj hk;go_enter Tryz.func105,Tryz.ntmps105;go_wp2_with fail;refine wp_named ?_;intro W1 hW1;have c1_0:At W1 w.heap.size 0 [.bool (ng s.1.1.num),.string (mg s.1.1.num.natAbs),.bool false,.string (mg (dn s.1.1)),.bool (ng s.1.2.num),.string (mg s.1.2.num.natAbs),.bool false,.string (mg (dn s.1.2)),.bool (ng s.2.1.num),.string (mg s.2.1.num.natAbs),.bool false,.string (mg (dn s.2.1)),.bool (ng s.2.2.num),.string (mg s.2.2.num.natAbs),.bool false,.string (mg (dn s.2.2))]:=by rw [hW1];simp [At,go_sem]
 have c1_1:At W1 (w.heap.size+1) 0 [.bool (ng r.num),.string (mg r.num.natAbs),.bool false,.string (mg (dn r))]:=by rw [hW1];simp [At,go_sem]
 have c1_2:Own W1 (w.heap.size+2) 0 [.bool false,.string ⟨#[]⟩,.bool false,.string ⟨#[]⟩,.bool false,.string ⟨#[]⟩,.bool false,.string ⟨#[]⟩]:=by rw [hW1];simp [Own,go_sem]
 have hB1:Below w.heap.size w W1:=by rw [hW1];exact bB
 clear hW1;have dc1_0:=fun p:Bel W1=>c1_0.bel p;have dc1_1:=fun p:Bel W1=>c1_1.bel p;have dc1_2:=fun p:Bel W1=>c1_2.bel p
 simp only [At,Own,Nat.reduceAdd,and_true] at dc1_0 dc1_1 dc1_2;refine wp_region_tail 10 (by kernel_rfl) (by kernel_rfl) ?_;simp only [List.take_succ_cons,List.take_zero,List.drop_succ_cons,List.drop_zero];repeat (go_big_quiet_step (first|(go_at_call 136;with_reducible exact Calls.bel (K1.out _))|(go_at_call 146;with_reducible exact Calls.bel (K2.out _))|(go_at_call 82;with_reducible exact Calls.bel (K3.out _))))
 refine wpQuiet_nil ?_;intro w1 hb1;have c1_0x:=c1_0.up hb1;have c1_1x:=c1_1.up hb1;have c1_2x:=c1_2.up hb1;clear dc1_0 dc1_1 dc1_2 c1_0 c1_1 c1_2;have hD1:Below w.heap.size w w1:=bel_up hB1 hb1;have uc1_0x:=c1_0x;have uc1_1x:=c1_1x;have uc1_2x:=c1_2x;simp only [At,Own,Nat.reduceAdd,and_true] at uc1_0x uc1_1x uc1_2x
 -- NE
 go_wp2;refine bodyPost_ret (v:=.agg #[.bool (ng (((Pl.addP s.1 (Pl.scaleP (Pl.subP s.2 s.1) r)).1).num)),.string (mg (((Pl.addP s.1 (Pl.scaleP (Pl.subP s.2 s.1) r)).1).num).natAbs),.bool false,.string (mg (dn ((Pl.addP s.1 (Pl.scaleP (Pl.subP s.2 s.1) r)).1))),.bool (ng (((Pl.addP s.1 (Pl.scaleP (Pl.subP s.2 s.1) r)).2).num)),.string (mg (((Pl.addP s.1 (Pl.scaleP (Pl.subP s.2 s.1) r)).2).num).natAbs),.bool false,.string (mg (dn ((Pl.addP s.1 (Pl.scaleP (Pl.subP s.2 s.1) r)).2)))]) (by simp [results,Tryz.results105,go_sem,uc1_2x]) rfl ⟨rfl,?_⟩;exact bB

theorem on_no {j k:Nat} (p:Rat×Rat) (s:(Rat×Rat)×(Rat×Rat)) (w:World) (ht:Pl.turn s.1 s.2 p≠0) (hs:Pl.SzS j s) (hp:Pl.SzP k p) (hj:j≤100000) (hk:k≤100000) :
 Calls Tryz.prog 75 #[pv p,sv s] w fun e w'=>e=.returned (.bool false)∧Below w.heap.size w w':=by
 have ko:=fun W=>orient_any s.1 s.2 p W hs.1 hs.2 hp (by omega) (by omega) (by omega)
 generalize Pl.turn s.1 s.2 p=o at ko ht;have HT:(o != 0)=true:=by simpa using ht
 have KO:=Lib.hid ko;clear ko;have K1:=Lib.hid (fun W=>KO.out W);clear ht hs hp hj hk;go_enter Tryz.func75,Tryz.ntmps75;go_wp2_with fail;refine calls_named ?_;intro W1 hW1;have c1_0:At W1 w.heap.size 0 [.bool (ng p.1.num),.string (mg p.1.num.natAbs),.bool false,.string (mg (dn p.1)),.bool (ng p.2.num),.string (mg p.2.num.natAbs),.bool false,.string (mg (dn p.2))]:=by rw [hW1];simp [At,go_sem]
 have c1_1:At W1 (w.heap.size+1) 0 [.bool (ng s.1.1.num),.string (mg s.1.1.num.natAbs),.bool false,.string (mg (dn s.1.1)),.bool (ng s.1.2.num),.string (mg s.1.2.num.natAbs),.bool false,.string (mg (dn s.1.2)),.bool (ng s.2.1.num),.string (mg s.2.1.num.natAbs),.bool false,.string (mg (dn s.2.1)),.bool (ng s.2.2.num),.string (mg s.2.2.num.natAbs),.bool false,.string (mg (dn s.2.2))]:=by rw [hW1];simp [At,go_sem]
 have hB1:Below w.heap.size w W1:=by rw [hW1];exact bB
 clear hW1;have uc1_0:=c1_0;have uc1_1:=c1_1;simp only [At,Own,Nat.reduceAdd,and_true] at uc1_0 uc1_1;with_reducible refine (K1.out _).mono ?_
 rintro e w1 ⟨rfl,hb1⟩;have c1_0x:=c1_0.up hb1;have c1_1x:=c1_1.up hb1;have hDw1:Below w.heap.size w w1:=bel_up hB1 hb1;clear uc1_0 uc1_1 c1_0 c1_1;have uc1_0x:=c1_0x;have uc1_1x:=c1_1x;simp only [At,Own,Nat.reduceAdd,and_true] at uc1_0x uc1_1x
 -- NE
 go_wp2;go_ret;refine ⟨rfl,?_⟩;exact bB

theorem cmpP_bd (p q:Rat×Rat):Pl.cmpP p q=-1∨Pl.cmpP p q=0∨Pl.cmpP p q=1:=by
 have h1:=Pl.cmp_bd p.1 q.1;have h2:=Pl.cmp_bd p.2 q.2;unfold Pl.cmpP;split<;>omega
theorem wrap_cmp (a b c d:Rat×Rat):wrap64 (Pl.cmpP a b*Pl.cmpP c d)=Pl.cmpP a b*Pl.cmpP c d:=by
 rcases cmpP_bd a b with h|h|h<;>rcases cmpP_bd c d with k|k|k<;>rw [h,k]<;>unfold wrap64<;>omega

theorem on_neg {j k:Nat} (p:Rat×Rat) (s:(Rat×Rat)×(Rat×Rat)) (w:World) (ht:Pl.turn s.1 s.2 p=0) (hxy:¬ 0≤Pl.cmpP s.1 p*Pl.cmpP p s.2) (hs:Pl.SzS j s) (hp:Pl.SzP k p) (hj:j≤100000) (hk:k≤100000) :
 Calls Tryz.prog 75 #[pv p,sv s] w fun e w'=>e=.returned (.bool false)∧Below w.heap.size w w':=by
 have ko:=fun W=>orient_any s.1 s.2 p W hs.1 hs.2 hp (by omega) (by omega) (by omega)
 have kx:=fun W=>pcmp_any s.1 p W hs.1 hp (by omega) (by omega)
 have ky:=fun W=>pcmp_any p s.2 W hp hs.2 (by omega) (by omega)
 rw [ht] at ko;rw [← wrap_cmp s.1 p p s.2] at hxy;generalize Pl.cmpP s.1 p=x at kx hxy;generalize Pl.cmpP p s.2=y at ky hxy;have HZ:¬ 0≤wrap64 (x*y):=hxy;have KO:=Lib.hid ko;have KX:=Lib.hid kx;have KY:=Lib.hid ky;clear ko kx ky;have K1:=Lib.hid (fun W=>KO.out W);have K2:=Lib.hid (fun W=>KX.out W);have K3:=Lib.hid (fun W=>KY.out W);clear ht hxy hs hp hj hk;go_enter Tryz.func75,Tryz.ntmps75;go_wp2_with fail;refine calls_named ?_;intro W1 hW1;have c1_0:At W1 w.heap.size 0 [.bool (ng p.1.num),.string (mg p.1.num.natAbs),.bool false,.string (mg (dn p.1)),.bool (ng p.2.num),.string (mg p.2.num.natAbs),.bool false,.string (mg (dn p.2))]:=by rw [hW1];simp [At,go_sem]
 have c1_1:At W1 (w.heap.size+1) 0 [.bool (ng s.1.1.num),.string (mg s.1.1.num.natAbs),.bool false,.string (mg (dn s.1.1)),.bool (ng s.1.2.num),.string (mg s.1.2.num.natAbs),.bool false,.string (mg (dn s.1.2)),.bool (ng s.2.1.num),.string (mg s.2.1.num.natAbs),.bool false,.string (mg (dn s.2.1)),.bool (ng s.2.2.num),.string (mg s.2.2.num.natAbs),.bool false,.string (mg (dn s.2.2))]:=by rw [hW1];simp [At,go_sem]
 have hB1:Below w.heap.size w W1:=by rw [hW1];exact bB
 clear hW1;have uc1_0:=c1_0;have uc1_1:=c1_1;simp only [At,Own,Nat.reduceAdd,and_true] at uc1_0 uc1_1;with_reducible refine (K1.out _).mono ?_
 rintro e w1 ⟨rfl,hb1⟩;have c1_0x:=c1_0.up hb1;have c1_1x:=c1_1.up hb1;have hDw1:Below w.heap.size w w1:=bel_up hB1 hb1;clear uc1_0 uc1_1 c1_0 c1_1;have uc1_0x:=c1_0x;have uc1_1x:=c1_1x;simp only [At,Own,Nat.reduceAdd,and_true] at uc1_0x uc1_1x
 -- NE
 go_wp2_with fail;refine wp_named ?_;intro W2 hW2;have hL2:Below w1.heap.size w1 W2:=by rw [hW2];exact bB
 have c2_0:=c1_0x.up hL2;have c2_1:=c1_1x.up hL2;have hB2:Below w.heap.size w W2:=by rw [hW2];exact bB
 clear hW2 hL2 uc1_0x uc1_1x c1_0x c1_1x;have dc2_0:=fun p:Bel W2=>c2_0.bel p;have dc2_1:=fun p:Bel W2=>c2_1.bel p
 simp only [At,Own,Nat.reduceAdd,and_true] at dc2_0 dc2_1;refine wp_region_tail 8 (by kernel_rfl) (by kernel_rfl) ?_;simp only [List.take_succ_cons,List.take_zero,List.drop_succ_cons,List.drop_zero];repeat (go_big_quiet_step (first|(go_at_call 70;with_reducible exact Calls.bel (K2.out _))|(go_at_call 70;with_reducible exact Calls.bel (K3.out _))))
 refine wpQuiet_nil ?_;intro w2 hb2;have c2_0x:=c2_0.up hb2;have c2_1x:=c2_1.up hb2;clear dc2_0 dc2_1 c2_0 c2_1;have hD2:Below w.heap.size w w2:=bel_up hB2 hb2;have uc2_0x:=c2_0x;have uc2_1x:=c2_1x;simp only [At,Own,Nat.reduceAdd,and_true] at uc2_0x uc2_1x
 -- NE
 go_wp2;go_ret;refine ⟨rfl,?_⟩;exact bB

theorem on_far {j k:Nat} (p:Rat×Rat) (s:(Rat×Rat)×(Rat×Rat)) (w:World) (ht:Pl.turn s.1 s.2 p=0) (hxy:0≤Pl.cmpP s.1 p*Pl.cmpP p s.2) (hne:s.1≠s.2) (hs:Pl.SzS j s) (hp:Pl.SzP k p) (hj:j≤100000) (hk:k≤100000) :
 Calls Tryz.prog 75 #[pv p,sv s] w fun e w'=>e=.returned (.bool true)∧Below w.heap.size w w':=by
 have ko:=fun W=>orient_any s.1 s.2 p W hs.1 hs.2 hp (by omega) (by omega) (by omega)
 have kx:=fun W=>pcmp_any s.1 p W hs.1 hp (by omega) (by omega)
 have ky:=fun W=>pcmp_any p s.2 W hp hs.2 (by omega) (by omega)
 rw [ht] at ko;rw [← wrap_cmp s.1 p p s.2] at hxy;generalize Pl.cmpP s.1 p=x at kx hxy;generalize Pl.cmpP p s.2=y at ky hxy;have HZ:0≤wrap64 (x*y):=hxy;have EQ:=fun W=>eqP_in s.1 s.2 W
 rw [decide_eq_false hne] at EQ;have KO:=Lib.hid ko;have KX:=Lib.hid kx;have KY:=Lib.hid ky;clear ko kx ky;have K1:=Lib.hid (fun W=>KO.out W);have K2:=Lib.hid (fun W=>KX.out W);have K3:=Lib.hid (fun W=>KY.out W);clear ht hxy hne hs hp hj hk;go_enter Tryz.func75,Tryz.ntmps75;go_wp2_with fail;refine calls_named ?_;intro W1 hW1;have c1_0:At W1 w.heap.size 0 [.bool (ng p.1.num),.string (mg p.1.num.natAbs),.bool false,.string (mg (dn p.1)),.bool (ng p.2.num),.string (mg p.2.num.natAbs),.bool false,.string (mg (dn p.2))]:=by rw [hW1];simp [At,go_sem]
 have c1_1:At W1 (w.heap.size+1) 0 [.bool (ng s.1.1.num),.string (mg s.1.1.num.natAbs),.bool false,.string (mg (dn s.1.1)),.bool (ng s.1.2.num),.string (mg s.1.2.num.natAbs),.bool false,.string (mg (dn s.1.2)),.bool (ng s.2.1.num),.string (mg s.2.1.num.natAbs),.bool false,.string (mg (dn s.2.1)),.bool (ng s.2.2.num),.string (mg s.2.2.num.natAbs),.bool false,.string (mg (dn s.2.2))]:=by rw [hW1];simp [At,go_sem]
 have hB1:Below w.heap.size w W1:=by rw [hW1];exact bB
 clear hW1;have uc1_0:=c1_0;have uc1_1:=c1_1;simp only [At,Own,Nat.reduceAdd,and_true] at uc1_0 uc1_1;with_reducible refine (K1.out _).mono ?_
 rintro e w1 ⟨rfl,hb1⟩;have c1_0x:=c1_0.up hb1;have c1_1x:=c1_1.up hb1;have hDw1:Below w.heap.size w w1:=bel_up hB1 hb1;clear uc1_0 uc1_1 c1_0 c1_1;have uc1_0x:=c1_0x;have uc1_1x:=c1_1x;simp only [At,Own,Nat.reduceAdd,and_true] at uc1_0x uc1_1x
 -- NE
 go_wp2_with fail;refine wp_named ?_;intro W2 hW2;have hL2:Below w1.heap.size w1 W2:=by rw [hW2];exact bB
 have c2_0:=c1_0x.up hL2;have c2_1:=c1_1x.up hL2;have hB2:Below w.heap.size w W2:=by rw [hW2];exact bB
 clear hW2 hL2 uc1_0x uc1_1x c1_0x c1_1x;have dc2_0:=fun p:Bel W2=>c2_0.bel p;have dc2_1:=fun p:Bel W2=>c2_1.bel p
 simp only [At,Own,Nat.reduceAdd,and_true] at dc2_0 dc2_1;refine wp_region_tail 8 (by kernel_rfl) (by kernel_rfl) ?_;simp only [List.take_succ_cons,List.take_zero,List.drop_succ_cons,List.drop_zero];repeat (go_big_quiet_step (first|(go_at_call 70;with_reducible exact Calls.bel (K2.out _))|(go_at_call 70;with_reducible exact Calls.bel (K3.out _))))
 refine wpQuiet_nil ?_;intro w2 hb2;have c2_0x:=c2_0.up hb2;have c2_1x:=c2_1.up hb2;clear dc2_0 dc2_1 c2_0 c2_1;have hD2:Below w.heap.size w w2:=bel_up hB2 hb2;have uc2_0x:=c2_0x;have uc2_1x:=c2_1x;simp only [At,Own,Nat.reduceAdd,and_true] at uc2_0x uc2_1x
 -- NE
 go_wp2;go_ret;refine ⟨rfl,?_⟩;exact bB

theorem on_pt {j k:Nat} (p:Rat×Rat) (s:(Rat×Rat)×(Rat×Rat)) (w:World) (ht:Pl.turn s.1 s.2 p=0) (hxy:0≤Pl.cmpP s.1 p*Pl.cmpP p s.2) (heq:s.1=s.2) (hpe:p=s.1) (hs:Pl.SzS j s) (hp:Pl.SzP k p) (hj:j≤100000) (hk:k≤100000) :
 Calls Tryz.prog 75 #[pv p,sv s] w fun e w'=>e=.returned (.bool true)∧Below w.heap.size w w':=by
 have ko:=fun W=>orient_any s.1 s.2 p W hs.1 hs.2 hp (by omega) (by omega) (by omega)
 have kx:=fun W=>pcmp_any s.1 p W hs.1 hp (by omega) (by omega)
 have ky:=fun W=>pcmp_any p s.2 W hp hs.2 (by omega) (by omega)
 rw [ht] at ko;rw [← wrap_cmp s.1 p p s.2] at hxy;generalize Pl.cmpP s.1 p=x at kx hxy;generalize Pl.cmpP p s.2=y at ky hxy;have HZ:0≤wrap64 (x*y):=hxy;have EQ:=fun W=>eqP_in s.1 s.2 W
 rw [decide_eq_true heq] at EQ;have EQ2:=fun W=>eqP_in p s.1 W
 rw [decide_eq_true hpe] at EQ2;have KO:=Lib.hid ko;have KX:=Lib.hid kx;have KY:=Lib.hid ky;clear ko kx ky;have K1:=Lib.hid (fun W=>KO.out W);have K2:=Lib.hid (fun W=>KX.out W);have K3:=Lib.hid (fun W=>KY.out W);clear ht hxy heq hpe hs hp hj hk;go_enter Tryz.func75,Tryz.ntmps75;go_wp2_with fail;refine calls_named ?_;intro W1 hW1;have c1_0:At W1 w.heap.size 0 [.bool (ng p.1.num),.string (mg p.1.num.natAbs),.bool false,.string (mg (dn p.1)),.bool (ng p.2.num),.string (mg p.2.num.natAbs),.bool false,.string (mg (dn p.2))]:=by rw [hW1];simp [At,go_sem]
 have c1_1:At W1 (w.heap.size+1) 0 [.bool (ng s.1.1.num),.string (mg s.1.1.num.natAbs),.bool false,.string (mg (dn s.1.1)),.bool (ng s.1.2.num),.string (mg s.1.2.num.natAbs),.bool false,.string (mg (dn s.1.2)),.bool (ng s.2.1.num),.string (mg s.2.1.num.natAbs),.bool false,.string (mg (dn s.2.1)),.bool (ng s.2.2.num),.string (mg s.2.2.num.natAbs),.bool false,.string (mg (dn s.2.2))]:=by rw [hW1];simp [At,go_sem]
 have hB1:Below w.heap.size w W1:=by rw [hW1];exact bB
 clear hW1;have uc1_0:=c1_0;have uc1_1:=c1_1;simp only [At,Own,Nat.reduceAdd,and_true] at uc1_0 uc1_1;with_reducible refine (K1.out _).mono ?_
 rintro e w1 ⟨rfl,hb1⟩;have c1_0x:=c1_0.up hb1;have c1_1x:=c1_1.up hb1;have hDw1:Below w.heap.size w w1:=bel_up hB1 hb1;clear uc1_0 uc1_1 c1_0 c1_1;have uc1_0x:=c1_0x;have uc1_1x:=c1_1x;simp only [At,Own,Nat.reduceAdd,and_true] at uc1_0x uc1_1x
 -- NE
 go_wp2_with fail;refine wp_named ?_;intro W2 hW2;have hL2:Below w1.heap.size w1 W2:=by rw [hW2];exact bB
 have c2_0:=c1_0x.up hL2;have c2_1:=c1_1x.up hL2;have hB2:Below w.heap.size w W2:=by rw [hW2];exact bB
 clear hW2 hL2 uc1_0x uc1_1x c1_0x c1_1x;have dc2_0:=fun p:Bel W2=>c2_0.bel p;have dc2_1:=fun p:Bel W2=>c2_1.bel p
 simp only [At,Own,Nat.reduceAdd,and_true] at dc2_0 dc2_1;refine wp_region_tail 8 (by kernel_rfl) (by kernel_rfl) ?_;simp only [List.take_succ_cons,List.take_zero,List.drop_succ_cons,List.drop_zero];repeat (go_big_quiet_step (first|(go_at_call 70;with_reducible exact Calls.bel (K2.out _))|(go_at_call 70;with_reducible exact Calls.bel (K3.out _))))
 refine wpQuiet_nil ?_;intro w2 hb2;have c2_0x:=c2_0.up hb2;have c2_1x:=c2_1.up hb2;clear dc2_0 dc2_1 c2_0 c2_1;have hD2:Below w.heap.size w w2:=bel_up hB2 hb2;have uc2_0x:=c2_0x;have uc2_1x:=c2_1x;simp only [At,Own,Nat.reduceAdd,and_true] at uc2_0x uc2_1x
 -- NE
 go_wp2;go_ret;refine ⟨rfl,?_⟩;exact bB

theorem on_off {j k:Nat} (p:Rat×Rat) (s:(Rat×Rat)×(Rat×Rat)) (w:World) (ht:Pl.turn s.1 s.2 p=0) (hxy:0≤Pl.cmpP s.1 p*Pl.cmpP p s.2) (heq:s.1=s.2) (hpe:¬ p=s.1) (hs:Pl.SzS j s) (hp:Pl.SzP k p) (hj:j≤100000) (hk:k≤100000) :
 Calls Tryz.prog 75 #[pv p,sv s] w fun e w'=>e=.returned (.bool false)∧Below w.heap.size w w':=by
 have ko:=fun W=>orient_any s.1 s.2 p W hs.1 hs.2 hp (by omega) (by omega) (by omega)
 have kx:=fun W=>pcmp_any s.1 p W hs.1 hp (by omega) (by omega)
 have ky:=fun W=>pcmp_any p s.2 W hp hs.2 (by omega) (by omega)
 rw [ht] at ko;rw [← wrap_cmp s.1 p p s.2] at hxy;generalize Pl.cmpP s.1 p=x at kx hxy;generalize Pl.cmpP p s.2=y at ky hxy;have HZ:0≤wrap64 (x*y):=hxy;have EQ:=fun W=>eqP_in s.1 s.2 W
 rw [decide_eq_true heq] at EQ;have EQ2:=fun W=>eqP_in p s.1 W
 rw [decide_eq_false hpe] at EQ2;have KO:=Lib.hid ko;have KX:=Lib.hid kx;have KY:=Lib.hid ky;clear ko kx ky;have K1:=Lib.hid (fun W=>KO.out W);have K2:=Lib.hid (fun W=>KX.out W);have K3:=Lib.hid (fun W=>KY.out W);clear ht hxy heq hpe hs hp hj hk;go_enter Tryz.func75,Tryz.ntmps75;go_wp2_with fail;refine calls_named ?_;intro W1 hW1;have c1_0:At W1 w.heap.size 0 [.bool (ng p.1.num),.string (mg p.1.num.natAbs),.bool false,.string (mg (dn p.1)),.bool (ng p.2.num),.string (mg p.2.num.natAbs),.bool false,.string (mg (dn p.2))]:=by rw [hW1];simp [At,go_sem]
 have c1_1:At W1 (w.heap.size+1) 0 [.bool (ng s.1.1.num),.string (mg s.1.1.num.natAbs),.bool false,.string (mg (dn s.1.1)),.bool (ng s.1.2.num),.string (mg s.1.2.num.natAbs),.bool false,.string (mg (dn s.1.2)),.bool (ng s.2.1.num),.string (mg s.2.1.num.natAbs),.bool false,.string (mg (dn s.2.1)),.bool (ng s.2.2.num),.string (mg s.2.2.num.natAbs),.bool false,.string (mg (dn s.2.2))]:=by rw [hW1];simp [At,go_sem]
 have hB1:Below w.heap.size w W1:=by rw [hW1];exact bB
 clear hW1;have uc1_0:=c1_0;have uc1_1:=c1_1;simp only [At,Own,Nat.reduceAdd,and_true] at uc1_0 uc1_1;with_reducible refine (K1.out _).mono ?_
 rintro e w1 ⟨rfl,hb1⟩;have c1_0x:=c1_0.up hb1;have c1_1x:=c1_1.up hb1;have hDw1:Below w.heap.size w w1:=bel_up hB1 hb1;clear uc1_0 uc1_1 c1_0 c1_1;have uc1_0x:=c1_0x;have uc1_1x:=c1_1x;simp only [At,Own,Nat.reduceAdd,and_true] at uc1_0x uc1_1x
 -- NE
 go_wp2_with fail;refine wp_named ?_;intro W2 hW2;have hL2:Below w1.heap.size w1 W2:=by rw [hW2];exact bB
 have c2_0:=c1_0x.up hL2;have c2_1:=c1_1x.up hL2;have hB2:Below w.heap.size w W2:=by rw [hW2];exact bB
 clear hW2 hL2 uc1_0x uc1_1x c1_0x c1_1x;have dc2_0:=fun p:Bel W2=>c2_0.bel p;have dc2_1:=fun p:Bel W2=>c2_1.bel p
 simp only [At,Own,Nat.reduceAdd,and_true] at dc2_0 dc2_1;refine wp_region_tail 8 (by kernel_rfl) (by kernel_rfl) ?_;simp only [List.take_succ_cons,List.take_zero,List.drop_succ_cons,List.drop_zero];repeat (go_big_quiet_step (first|(go_at_call 70;with_reducible exact Calls.bel (K2.out _))|(go_at_call 70;with_reducible exact Calls.bel (K3.out _))))
 refine wpQuiet_nil ?_;intro w2 hb2;have c2_0x:=c2_0.up hb2;have c2_1x:=c2_1.up hb2;clear dc2_0 dc2_1 c2_0 c2_1;have hD2:Below w.heap.size w w2:=bel_up hB2 hb2;have uc2_0x:=c2_0x;have uc2_1x:=c2_1x;simp only [At,Own,Nat.reduceAdd,and_true] at uc2_0x uc2_1x
 -- NE
 go_wp2;go_ret;refine ⟨rfl,?_⟩;exact bB

theorem on_any {j k:Nat} (p:Rat×Rat) (s:(Rat×Rat)×(Rat×Rat)) (w:World) (hs:Pl.SzS j s) (hp:Pl.SzP k p) (hj:j≤100000) (hk:k≤100000) :
 Calls Tryz.prog 75 #[pv p,sv s] w fun e w'=>e=.returned (.bool (Pl.onSeg p s.1 s.2))∧Below w.heap.size w w':=by
 unfold Pl.onSeg
 by_cases ht:Pl.turn s.1 s.2 p=0
 ·rw [decide_eq_true ht]
  by_cases hxy:0≤Pl.cmpP s.1 p*Pl.cmpP p s.2
  ·rw [decide_eq_true hxy]
   by_cases he:s.1=s.2
   ·rw [decide_eq_false (fun h=>h he)]
    by_cases hpe:p=s.1
    ·rw [decide_eq_true hpe];exact on_pt p s w ht hxy he hpe hs hp hj hk
    ·rw [decide_eq_false hpe];exact on_off p s w ht hxy he hpe hs hp hj hk
   ·rw [decide_eq_true he];exact on_far p s w ht hxy he hs hp hj hk
  ·rw [decide_eq_false hxy];exact on_neg p s w ht hxy hs hp hj hk
 ·rw [decide_eq_false ht];exact on_no p s w ht hs hp hj hk
end Go.Proofs.YtiochgoocbkckaaGreatDoor
