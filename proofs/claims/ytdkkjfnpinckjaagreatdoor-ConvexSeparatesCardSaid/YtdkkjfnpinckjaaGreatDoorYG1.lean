/-
 Contracts of the reference for convex sets: points.
-/
import Derived.Test.YtdkkjfnpinckjaaGreatDoorYMk
import Derived.Test.YtdkkjfnpinckjaaGreatDoorYPl
set_option maxRecDepth 100000
set_option linter.unusedSimpArgs false
set_option linter.unusedVariables false
namespace Go.Proofs.YtdkkjfnpinckjaaGreatDoor
open Go Go.RowKit

theorem hadd_any {j k:Nat} (p:Rat×Rat) (q:Rat×Rat) (w:World) (hp:Pl.SzP j p) (hq:Pl.SzP k q) (hj:j≤1000000) (hk:k≤1000000) :
 Calls Tryz.prog 67 #[pv p,pv q] w fun e w'=>e=.returned (pv (Pl.addP p q))∧Below w.heap.size w w':=by
 have K1:=Lib.hid (fun W=>radd_any p.1 q.1 W (hp.1.mono (by omega)) (hq.1.mono (by omega)));have K2:=Lib.hid (fun W=>radd_any p.2 q.2 W (hp.2.mono (by omega)) (hq.2.mono (by omega)));clear hp hq hj hk;go_enter Tryz.func67,Tryz.ntmps67;go_wp2_with fail;refine wp_named ?_;intro W1 hW1;have c1_0:At W1 w.heap.size 0 [.bool (ng p.1.num),.string (mg p.1.num.natAbs),.bool false,.string (mg (dn p.1)),.bool (ng p.2.num),.string (mg p.2.num.natAbs),.bool false,.string (mg (dn p.2))]:=by rw [hW1];simp [At,go_sem]
 have c1_1:At W1 (w.heap.size+1) 0 [.bool (ng q.1.num),.string (mg q.1.num.natAbs),.bool false,.string (mg (dn q.1)),.bool (ng q.2.num),.string (mg q.2.num.natAbs),.bool false,.string (mg (dn q.2))]:=by rw [hW1];simp [At,go_sem]
 have c1_2:Own W1 (w.heap.size+2) 0 [.bool false,.string ⟨#[]⟩,.bool false,.string ⟨#[]⟩,.bool false,.string ⟨#[]⟩,.bool false,.string ⟨#[]⟩]:=by rw [hW1];simp [Own,go_sem]
 have hB1:Below w.heap.size w W1:=by rw [hW1];exact bB
 clear hW1;have dc1_0:=fun p:Bel W1=>c1_0.bel p;have dc1_1:=fun p:Bel W1=>c1_1.bel p;have dc1_2:=fun p:Bel W1=>c1_2.bel p
 simp only [At,Own,Nat.reduceAdd,and_true] at dc1_0 dc1_1 dc1_2;refine wp_region_tail 11 (by kernel_rfl) (by kernel_rfl) ?_;simp only [List.take_succ_cons,List.take_zero,List.drop_succ_cons,List.drop_zero];repeat (go_big_quiet_step (first|(go_at_call 29;with_reducible exact Calls.bel (K1.out _))|(go_at_call 29;with_reducible exact Calls.bel (K2.out _))))
 refine wpQuiet_nil ?_;intro w1 hb1;have c1_0x:=c1_0.up hb1;have c1_1x:=c1_1.up hb1;have c1_2x:=c1_2.up hb1;clear dc1_0 dc1_1 dc1_2 c1_0 c1_1 c1_2;have hD1:Below w.heap.size w w1:=bel_up hB1 hb1;have uc1_0x:=c1_0x;have uc1_1x:=c1_1x;have uc1_2x:=c1_2x;simp only [At,Own,Nat.reduceAdd,and_true] at uc1_0x uc1_1x uc1_2x
 -- NE
 go_wp2;refine bodyPost_ret (v:=.agg #[.bool (ng ((p.1+q.1).num)),.string (mg ((p.1+q.1).num).natAbs),.bool false,.string (mg (dn (p.1+q.1))),.bool (ng ((p.2+q.2).num)),.string (mg ((p.2+q.2).num).natAbs),.bool false,.string (mg (dn (p.2+q.2)))]) (by simp [results,Tryz.results67,go_sem,uc1_2x]) rfl ⟨rfl,?_⟩;exact bB

theorem hsub_any {j k:Nat} (p:Rat×Rat) (q:Rat×Rat) (w:World) (hp:Pl.SzP j p) (hq:Pl.SzP k q) (hj:j≤1000000) (hk:k≤1000000) :
 Calls Tryz.prog 30 #[pv p,pv q] w fun e w'=>e=.returned (pv (Pl.subP p q))∧Below w.heap.size w w':=by
 have K1:=Lib.hid (fun W=>rsub_any p.1 q.1 W (hp.1.mono (by omega)) (hq.1.mono (by omega)));have K2:=Lib.hid (fun W=>rsub_any p.2 q.2 W (hp.2.mono (by omega)) (hq.2.mono (by omega)));clear hp hq hj hk;go_enter Tryz.func30,Tryz.ntmps30;go_wp2_with fail;refine wp_named ?_;intro W1 hW1;have c1_0:At W1 w.heap.size 0 [.bool (ng p.1.num),.string (mg p.1.num.natAbs),.bool false,.string (mg (dn p.1)),.bool (ng p.2.num),.string (mg p.2.num.natAbs),.bool false,.string (mg (dn p.2))]:=by rw [hW1];simp [At,go_sem]
 have c1_1:At W1 (w.heap.size+1) 0 [.bool (ng q.1.num),.string (mg q.1.num.natAbs),.bool false,.string (mg (dn q.1)),.bool (ng q.2.num),.string (mg q.2.num.natAbs),.bool false,.string (mg (dn q.2))]:=by rw [hW1];simp [At,go_sem]
 have c1_2:Own W1 (w.heap.size+2) 0 [.bool false,.string ⟨#[]⟩,.bool false,.string ⟨#[]⟩,.bool false,.string ⟨#[]⟩,.bool false,.string ⟨#[]⟩]:=by rw [hW1];simp [Own,go_sem]
 have hB1:Below w.heap.size w W1:=by rw [hW1];exact bB
 clear hW1;have dc1_0:=fun p:Bel W1=>c1_0.bel p;have dc1_1:=fun p:Bel W1=>c1_1.bel p;have dc1_2:=fun p:Bel W1=>c1_2.bel p
 simp only [At,Own,Nat.reduceAdd,and_true] at dc1_0 dc1_1 dc1_2;refine wp_region_tail 11 (by kernel_rfl) (by kernel_rfl) ?_;simp only [List.take_succ_cons,List.take_zero,List.drop_succ_cons,List.drop_zero];repeat (go_big_quiet_step (first|(go_at_call 75;with_reducible exact Calls.bel (K1.out _))|(go_at_call 75;with_reducible exact Calls.bel (K2.out _))))
 refine wpQuiet_nil ?_;intro w1 hb1;have c1_0x:=c1_0.up hb1;have c1_1x:=c1_1.up hb1;have c1_2x:=c1_2.up hb1;clear dc1_0 dc1_1 dc1_2 c1_0 c1_1 c1_2;have hD1:Below w.heap.size w w1:=bel_up hB1 hb1;have uc1_0x:=c1_0x;have uc1_1x:=c1_1x;have uc1_2x:=c1_2x;simp only [At,Own,Nat.reduceAdd,and_true] at uc1_0x uc1_1x uc1_2x
 -- NE
 go_wp2;refine bodyPost_ret (v:=.agg #[.bool (ng ((p.1-q.1).num)),.string (mg ((p.1-q.1).num).natAbs),.bool false,.string (mg (dn (p.1-q.1))),.bool (ng ((p.2-q.2).num)),.string (mg ((p.2-q.2).num).natAbs),.bool false,.string (mg (dn (p.2-q.2)))]) (by simp [results,Tryz.results30,go_sem,uc1_2x]) rfl ⟨rfl,?_⟩;exact bB

theorem hscale_any {j k:Nat} (p:Rat×Rat) (r:Rat) (w:World) (hp:Pl.SzP j p) (hr:Pl.Sz k r) (hj:j≤1000000) (hk:k≤1000000) :
 Calls Tryz.prog 82 #[pv p,qv r] w fun e w'=>e=.returned (pv (Pl.scaleP p r))∧Below w.heap.size w w':=by
 have K1:=Lib.hid (fun W=>rmul_any p.1 r W (hp.1.mono (by omega)) (hr.mono (by omega)));have K2:=Lib.hid (fun W=>rmul_any p.2 r W (hp.2.mono (by omega)) (hr.mono (by omega)));clear hp hr hj hk;go_enter Tryz.func82,Tryz.ntmps82;go_wp2_with fail;refine wp_named ?_;intro W1 hW1;have c1_0:At W1 w.heap.size 0 [.bool (ng p.1.num),.string (mg p.1.num.natAbs),.bool false,.string (mg (dn p.1)),.bool (ng p.2.num),.string (mg p.2.num.natAbs),.bool false,.string (mg (dn p.2))]:=by rw [hW1];simp [At,go_sem]
 have c1_1:At W1 (w.heap.size+1) 0 [.bool (ng r.num),.string (mg r.num.natAbs),.bool false,.string (mg (dn r))]:=by rw [hW1];simp [At,go_sem]
 have c1_2:Own W1 (w.heap.size+2) 0 [.bool false,.string ⟨#[]⟩,.bool false,.string ⟨#[]⟩,.bool false,.string ⟨#[]⟩,.bool false,.string ⟨#[]⟩]:=by rw [hW1];simp [Own,go_sem]
 have hB1:Below w.heap.size w W1:=by rw [hW1];exact bB
 clear hW1;have dc1_0:=fun p:Bel W1=>c1_0.bel p;have dc1_1:=fun p:Bel W1=>c1_1.bel p;have dc1_2:=fun p:Bel W1=>c1_2.bel p
 simp only [At,Own,Nat.reduceAdd,and_true] at dc1_0 dc1_1 dc1_2;refine wp_region_tail 9 (by kernel_rfl) (by kernel_rfl) ?_;simp only [List.take_succ_cons,List.take_zero,List.drop_succ_cons,List.drop_zero];repeat (go_big_quiet_step (first|(go_at_call 41;with_reducible exact Calls.bel (K1.out _))|(go_at_call 41;with_reducible exact Calls.bel (K2.out _))))
 refine wpQuiet_nil ?_;intro w1 hb1;have c1_0x:=c1_0.up hb1;have c1_1x:=c1_1.up hb1;have c1_2x:=c1_2.up hb1;clear dc1_0 dc1_1 dc1_2 c1_0 c1_1 c1_2;have hD1:Below w.heap.size w w1:=bel_up hB1 hb1;have uc1_0x:=c1_0x;have uc1_1x:=c1_1x;have uc1_2x:=c1_2x;simp only [At,Own,Nat.reduceAdd,and_true] at uc1_0x uc1_1x uc1_2x
 -- NE
 go_wp2;refine bodyPost_ret (v:=.agg #[.bool (ng ((p.1*r).num)),.string (mg ((p.1*r).num).natAbs),.bool false,.string (mg (dn (p.1*r))),.bool (ng ((p.2*r).num)),.string (mg ((p.2*r).num).natAbs),.bool false,.string (mg (dn (p.2*r)))]) (by simp [results,Tryz.results82,go_sem,uc1_2x]) rfl ⟨rfl,?_⟩;exact bB

theorem hdot_any {j k:Nat} (p:Rat×Rat) (q:Rat×Rat) (w:World) (hp:Pl.SzP j p) (hq:Pl.SzP k q) (hj:j≤1000000) (hk:k≤1000000) :
 Calls Tryz.prog 28 #[pv p,pv q] w fun e w'=>e=.returned (qv (Pl.dotP p q))∧Below w.heap.size w w':=by
 have K1:=Lib.hid (fun W=>rmul_any p.1 q.1 W (hp.1.mono (by omega)) (hq.1.mono (by omega)));have K2:=Lib.hid (fun W=>rmul_any p.2 q.2 W (hp.2.mono (by omega)) (hq.2.mono (by omega)));have K3:=Lib.hid (fun W=>radd_any (p.1*q.1) (p.2*q.2) W ((hp.1.mul hq.1).mono (by omega)) ((hp.2.mul hq.2).mono (by omega)));clear hp hq hj hk;go_enter Tryz.func28,Tryz.ntmps28;go_wp2_with fail;refine wp_named ?_;intro W1 hW1;have c1_0:At W1 w.heap.size 0 [.bool (ng p.1.num),.string (mg p.1.num.natAbs),.bool false,.string (mg (dn p.1)),.bool (ng p.2.num),.string (mg p.2.num.natAbs),.bool false,.string (mg (dn p.2))]:=by rw [hW1];simp [At,go_sem]
 have c1_1:At W1 (w.heap.size+1) 0 [.bool (ng q.1.num),.string (mg q.1.num.natAbs),.bool false,.string (mg (dn q.1)),.bool (ng q.2.num),.string (mg q.2.num.natAbs),.bool false,.string (mg (dn q.2))]:=by rw [hW1];simp [At,go_sem]
 have c1_2:Own W1 (w.heap.size+2) 0 [.bool false,.string ⟨#[]⟩,.bool false,.string ⟨#[]⟩]:=by rw [hW1];simp [Own,go_sem]
 have hB1:Below w.heap.size w W1:=by rw [hW1];exact bB
 clear hW1;have dc1_0:=fun p:Bel W1=>c1_0.bel p;have dc1_1:=fun p:Bel W1=>c1_1.bel p;have dc1_2:=fun p:Bel W1=>c1_2.bel p
 simp only [At,Own,Nat.reduceAdd,and_true] at dc1_0 dc1_1 dc1_2;refine wp_region_tail 11 (by kernel_rfl) (by kernel_rfl) ?_;simp only [List.take_succ_cons,List.take_zero,List.drop_succ_cons,List.drop_zero];repeat (go_big_quiet_step (first|(go_at_call 41;with_reducible exact Calls.bel (K1.out _))|(go_at_call 41;with_reducible exact Calls.bel (K2.out _))|(go_at_call 29;with_reducible exact Calls.bel (K3.out _))))
 refine wpQuiet_nil ?_;intro w1 hb1;have c1_0x:=c1_0.up hb1;have c1_1x:=c1_1.up hb1;have c1_2x:=c1_2.up hb1;clear dc1_0 dc1_1 dc1_2 c1_0 c1_1 c1_2;have hD1:Below w.heap.size w w1:=bel_up hB1 hb1;have uc1_0x:=c1_0x;have uc1_1x:=c1_1x;have uc1_2x:=c1_2x;simp only [At,Own,Nat.reduceAdd,and_true] at uc1_0x uc1_1x uc1_2x
 -- NE
 go_wp2;refine bodyPost_ret (v:=.agg #[.bool (ng (((p.1*q.1)+(p.2*q.2)).num)),.string (mg (((p.1*q.1)+(p.2*q.2)).num).natAbs),.bool false,.string (mg (dn ((p.1*q.1)+(p.2*q.2))))]) (by simp [results,Tryz.results28,go_sem,uc1_2x]) rfl ⟨rfl,?_⟩;exact bB

theorem hcross_any {j k:Nat} (p:Rat×Rat) (q:Rat×Rat) (w:World) (hp:Pl.SzP j p) (hq:Pl.SzP k q) (hj:j≤1000000) (hk:k≤1000000) :
 Calls Tryz.prog 81 #[pv p,pv q] w fun e w'=>e=.returned (qv (Pl.crossP p q))∧Below w.heap.size w w':=by
 have K1:=Lib.hid (fun W=>rmul_any p.1 q.2 W (hp.1.mono (by omega)) (hq.2.mono (by omega)));have K2:=Lib.hid (fun W=>rmul_any p.2 q.1 W (hp.2.mono (by omega)) (hq.1.mono (by omega)));have K3:=Lib.hid (fun W=>rsub_any (p.1*q.2) (p.2*q.1) W ((hp.1.mul hq.2).mono (by omega)) ((hp.2.mul hq.1).mono (by omega)));clear hp hq hj hk;go_enter Tryz.func81,Tryz.ntmps81;go_wp2_with fail;refine wp_named ?_;intro W1 hW1;have c1_0:At W1 w.heap.size 0 [.bool (ng p.1.num),.string (mg p.1.num.natAbs),.bool false,.string (mg (dn p.1)),.bool (ng p.2.num),.string (mg p.2.num.natAbs),.bool false,.string (mg (dn p.2))]:=by rw [hW1];simp [At,go_sem]
 have c1_1:At W1 (w.heap.size+1) 0 [.bool (ng q.1.num),.string (mg q.1.num.natAbs),.bool false,.string (mg (dn q.1)),.bool (ng q.2.num),.string (mg q.2.num.natAbs),.bool false,.string (mg (dn q.2))]:=by rw [hW1];simp [At,go_sem]
 have c1_2:Own W1 (w.heap.size+2) 0 [.bool false,.string ⟨#[]⟩,.bool false,.string ⟨#[]⟩]:=by rw [hW1];simp [Own,go_sem]
 have hB1:Below w.heap.size w W1:=by rw [hW1];exact bB
 clear hW1;have dc1_0:=fun p:Bel W1=>c1_0.bel p;have dc1_1:=fun p:Bel W1=>c1_1.bel p;have dc1_2:=fun p:Bel W1=>c1_2.bel p
 simp only [At,Own,Nat.reduceAdd,and_true] at dc1_0 dc1_1 dc1_2;refine wp_region_tail 11 (by kernel_rfl) (by kernel_rfl) ?_;simp only [List.take_succ_cons,List.take_zero,List.drop_succ_cons,List.drop_zero];repeat (go_big_quiet_step (first|(go_at_call 41;with_reducible exact Calls.bel (K1.out _))|(go_at_call 41;with_reducible exact Calls.bel (K2.out _))|(go_at_call 75;with_reducible exact Calls.bel (K3.out _))))
 refine wpQuiet_nil ?_;intro w1 hb1;have c1_0x:=c1_0.up hb1;have c1_1x:=c1_1.up hb1;have c1_2x:=c1_2.up hb1;clear dc1_0 dc1_1 dc1_2 c1_0 c1_1 c1_2;have hD1:Below w.heap.size w w1:=bel_up hB1 hb1;have uc1_0x:=c1_0x;have uc1_1x:=c1_1x;have uc1_2x:=c1_2x;simp only [At,Own,Nat.reduceAdd,and_true] at uc1_0x uc1_1x uc1_2x
 -- NE
 go_wp2;refine bodyPost_ret (v:=.agg #[.bool (ng (((p.1*q.2)-(p.2*q.1)).num)),.string (mg (((p.1*q.2)-(p.2*q.1)).num).natAbs),.bool false,.string (mg (dn ((p.1*q.2)-(p.2*q.1))))]) (by simp [results,Tryz.results81,go_sem,uc1_2x]) rfl ⟨rfl,?_⟩;exact bB

theorem hturn_any {i j k:Nat} (a:Rat×Rat) (b:Rat×Rat) (c:Rat×Rat) (w:World) (ha:Pl.SzP i a) (hb:Pl.SzP j b) (hc:Pl.SzP k c) (hi:i≤100000) (hj:j≤100000) (hk:k≤100000) :
 Calls Tryz.prog 57 #[pv a,pv b,pv c] w fun e w'=>e=.returned (.int .i64 (Pl.turn a b c))∧Below w.heap.size w w':=by
 have K1:=Lib.hid (fun W=>hsub_any b a W hb ha (by omega) (by omega));have K2:=Lib.hid (fun W=>hsub_any c a W hc ha (by omega) (by omega));have K3:=Lib.hid (fun W=>hcross_any (Pl.subP b a) (Pl.subP c a) W (hb.sub ha) (hc.sub ha) (by omega) (by omega));have K4:=Lib.hid (fun W=>rsign_any (Pl.crossP (Pl.subP b a) (Pl.subP c a)) W);clear ha hb hc hi hj hk;go_enter Tryz.func57,Tryz.ntmps57;go_wp2_with fail;refine wp_named ?_;intro W1 hW1;have c1_0:At W1 w.heap.size 0 [.bool (ng a.1.num),.string (mg a.1.num.natAbs),.bool false,.string (mg (dn a.1)),.bool (ng a.2.num),.string (mg a.2.num.natAbs),.bool false,.string (mg (dn a.2))]:=by rw [hW1];simp [At,go_sem]
 have c1_1:At W1 (w.heap.size+1) 0 [.bool (ng b.1.num),.string (mg b.1.num.natAbs),.bool false,.string (mg (dn b.1)),.bool (ng b.2.num),.string (mg b.2.num.natAbs),.bool false,.string (mg (dn b.2))]:=by rw [hW1];simp [At,go_sem]
 have c1_2:At W1 (w.heap.size+2) 0 [.bool (ng c.1.num),.string (mg c.1.num.natAbs),.bool false,.string (mg (dn c.1)),.bool (ng c.2.num),.string (mg c.2.num.natAbs),.bool false,.string (mg (dn c.2))]:=by rw [hW1];simp [At,go_sem]
 have hB1:Below w.heap.size w W1:=by rw [hW1];exact bB
 clear hW1;have dc1_0:=fun p:Bel W1=>c1_0.bel p;have dc1_1:=fun p:Bel W1=>c1_1.bel p;have dc1_2:=fun p:Bel W1=>c1_2.bel p
 simp only [At,Own,Nat.reduceAdd,and_true] at dc1_0 dc1_1 dc1_2;refine wp_region_tail 8 (by kernel_rfl) (by kernel_rfl) ?_;simp only [List.take_succ_cons,List.take_zero,List.drop_succ_cons,List.drop_zero];repeat (go_big_quiet_step (first|(go_at_call 30;with_reducible exact Calls.bel (K1.out _))|(go_at_call 30;with_reducible exact Calls.bel (K2.out _))|(go_at_call 81;with_reducible exact Calls.bel (K3.out _))|(go_at_call 76;with_reducible exact Calls.bel (K4.out _))))
 refine wpQuiet_nil ?_;intro w1 hb1;have c1_0x:=c1_0.up hb1;have c1_1x:=c1_1.up hb1;have c1_2x:=c1_2.up hb1;clear dc1_0 dc1_1 dc1_2 c1_0 c1_1 c1_2;have hD1:Below w.heap.size w w1:=bel_up hB1 hb1;have uc1_0x:=c1_0x;have uc1_1x:=c1_1x;have uc1_2x:=c1_2x;simp only [At,Own,Nat.reduceAdd,and_true] at uc1_0x uc1_1x uc1_2x
 -- NE
 go_wp2;go_ret;refine ⟨rfl,?_⟩;exact bB

theorem hof_raw (x:Int) (y:Int) (w:World) (h1 : -9223372036854775808≤x) (h2:x≤9223372036854775807) (h3 : -9223372036854775808≤y) (h4:y≤9223372036854775807) :
 Calls Tryz.prog 52 #[.int .i64 x,.int .i64 y] w fun e w'=>e=.returned (pv (Rat.divInt x 1,Rat.divInt y 1))∧Below w.heap.size w w':=by
 have K1:=Lib.hid (fun W=>rOf_any x 1 W (by omega) h1 h2 (by omega) (by omega));have K2:=Lib.hid (fun W=>rOf_any y 1 W (by omega) h3 h4 (by omega) (by omega));clear h1 h2 h3 h4;go_enter Tryz.func52,Tryz.ntmps52;go_wp2_with fail;refine calls_named ?_;intro W1 hW1;have c1_0:Own W1 w.heap.size 0 [.bool false,.string ⟨#[]⟩,.bool false,.string ⟨#[]⟩,.bool false,.string ⟨#[]⟩,.bool false,.string ⟨#[]⟩]:=by rw [hW1];simp [Own,go_sem]
 have hB1:Below w.heap.size w W1:=by rw [hW1];exact bB
 clear hW1;have uc1_0:=c1_0;simp only [At,Own,Nat.reduceAdd,and_true] at uc1_0;with_reducible refine (K1.out _).mono ?_
 rintro e w1 ⟨rfl,hb1⟩;have c1_0x:=c1_0.up hb1;have hDw1:Below w.heap.size w w1:=bel_up hB1 hb1;clear uc1_0 c1_0;have uc1_0x:=c1_0x;simp only [At,Own,Nat.reduceAdd,and_true] at uc1_0x
 -- NE
 go_wp2_with fail;refine calls_named ?_;intro W2 hW2;have hL2:Below w1.heap.size w1 W2:=by rw [hW2];exact bB
 have c2_0:=c1_0x.up hL2;have hB2:Below w.heap.size w W2:=by rw [hW2];exact bB
 clear hW2 hL2 uc1_0x c1_0x;have uc2_0:=c2_0;simp only [At,Own,Nat.reduceAdd,and_true] at uc2_0;with_reducible refine (K2.out _).mono ?_
 rintro e w2 ⟨rfl,hb2⟩;have c2_0x:=c2_0.up hb2;have hDw2:Below w.heap.size w w2:=bel_up hB2 hb2;clear uc2_0 c2_0;have uc2_0x:=c2_0x;simp only [At,Own,Nat.reduceAdd,and_true] at uc2_0x
 -- NE
 go_wp2;refine bodyPost_ret (v:=.agg #[.bool (ng ((Rat.divInt x 1).num)),.string (mg ((Rat.divInt x 1).num).natAbs),.bool false,.string (mg (dn (Rat.divInt x 1))),.bool (ng ((Rat.divInt y 1).num)),.string (mg ((Rat.divInt y 1).num).natAbs),.bool false,.string (mg (dn (Rat.divInt y 1)))]) (by simp [results,Tryz.results52,go_sem,uc2_0x]) rfl ⟨rfl,?_⟩;exact bB

theorem hless_lt {j k:Nat} (p:Rat×Rat) (q:Rat×Rat) (w:World) (h:Pl.cmpQ p.1 q.1<0) (hp:Pl.SzP j p) (hq:Pl.SzP k q) (hj:j≤1000000) (hk:k≤1000000) :
 Calls Tryz.prog 79 #[pv p,pv q] w fun e w'=>e=.returned (.bool true)∧Below w.heap.size w w':=by
 have kx:=fun W=>rcompare_any p.1 q.1 W (hp.1.mono (by omega)) (hq.1.mono (by omega))
 have ky:=fun W=>rcompare_any p.2 q.2 W (hp.2.mono (by omega)) (hq.2.mono (by omega))
 generalize Pl.cmpQ p.1 q.1=x at kx h;generalize Pl.cmpQ p.2 q.2=y at ky;have hz:=h;have KX:=Lib.hid kx;have KY:=Lib.hid ky;clear kx ky;have K1:=Lib.hid (fun W=>KX.out W);clear h hp hq hj hk;go_enter Tryz.func79,Tryz.ntmps79;go_wp2_with fail;refine calls_named ?_;intro W1 hW1;have c1_0:At W1 w.heap.size 0 [.bool (ng p.1.num),.string (mg p.1.num.natAbs),.bool false,.string (mg (dn p.1)),.bool (ng p.2.num),.string (mg p.2.num.natAbs),.bool false,.string (mg (dn p.2))]:=by rw [hW1];simp [At,go_sem]
 have c1_1:At W1 (w.heap.size+1) 0 [.bool (ng q.1.num),.string (mg q.1.num.natAbs),.bool false,.string (mg (dn q.1)),.bool (ng q.2.num),.string (mg q.2.num.natAbs),.bool false,.string (mg (dn q.2))]:=by rw [hW1];simp [At,go_sem]
 have hB1:Below w.heap.size w W1:=by rw [hW1];exact bB
 clear hW1;have uc1_0:=c1_0;have uc1_1:=c1_1;simp only [At,Own,Nat.reduceAdd,and_true] at uc1_0 uc1_1;with_reducible refine (K1.out _).mono ?_
 rintro e w1 ⟨rfl,hb1⟩;have c1_0x:=c1_0.up hb1;have c1_1x:=c1_1.up hb1;have hDw1:Below w.heap.size w w1:=bel_up hB1 hb1;clear uc1_0 uc1_1 c1_0 c1_1;have uc1_0x:=c1_0x;have uc1_1x:=c1_1x;simp only [At,Own,Nat.reduceAdd,and_true] at uc1_0x uc1_1x
 -- NE
 go_wp2;go_ret;refine ⟨rfl,?_⟩;exact bB

theorem hless_gt {j k:Nat} (p:Rat×Rat) (q:Rat×Rat) (w:World) (h:0<Pl.cmpQ p.1 q.1) (hp:Pl.SzP j p) (hq:Pl.SzP k q) (hj:j≤1000000) (hk:k≤1000000) :
 Calls Tryz.prog 79 #[pv p,pv q] w fun e w'=>e=.returned (.bool false)∧Below w.heap.size w w':=by
 have kx:=fun W=>rcompare_any p.1 q.1 W (hp.1.mono (by omega)) (hq.1.mono (by omega))
 have ky:=fun W=>rcompare_any p.2 q.2 W (hp.2.mono (by omega)) (hq.2.mono (by omega))
 generalize Pl.cmpQ p.1 q.1=x at kx h;generalize Pl.cmpQ p.2 q.2=y at ky;have hz:¬ x<0:=by omega
 have hz2:¬ x=0:=by omega
 have hz3:(x==0)=false:=by simpa using hz2
 have KX:=Lib.hid kx;have KY:=Lib.hid ky;clear kx ky;have K1:=Lib.hid (fun W=>KX.out W);clear h hp hq hj hk;go_enter Tryz.func79,Tryz.ntmps79;go_wp2_with fail;refine calls_named ?_;intro W1 hW1;have c1_0:At W1 w.heap.size 0 [.bool (ng p.1.num),.string (mg p.1.num.natAbs),.bool false,.string (mg (dn p.1)),.bool (ng p.2.num),.string (mg p.2.num.natAbs),.bool false,.string (mg (dn p.2))]:=by rw [hW1];simp [At,go_sem]
 have c1_1:At W1 (w.heap.size+1) 0 [.bool (ng q.1.num),.string (mg q.1.num.natAbs),.bool false,.string (mg (dn q.1)),.bool (ng q.2.num),.string (mg q.2.num.natAbs),.bool false,.string (mg (dn q.2))]:=by rw [hW1];simp [At,go_sem]
 have hB1:Below w.heap.size w W1:=by rw [hW1];exact bB
 clear hW1;have uc1_0:=c1_0;have uc1_1:=c1_1;simp only [At,Own,Nat.reduceAdd,and_true] at uc1_0 uc1_1;with_reducible refine (K1.out _).mono ?_
 rintro e w1 ⟨rfl,hb1⟩;have c1_0x:=c1_0.up hb1;have c1_1x:=c1_1.up hb1;have hDw1:Below w.heap.size w w1:=bel_up hB1 hb1;clear uc1_0 uc1_1 c1_0 c1_1;have uc1_0x:=c1_0x;have uc1_1x:=c1_1x;simp only [At,Own,Nat.reduceAdd,and_true] at uc1_0x uc1_1x
 -- NE
 go_wp2;go_ret;refine ⟨(by simp;omega),?_⟩;exact bB

theorem hless_eq {j k:Nat} (p:Rat×Rat) (q:Rat×Rat) (w:World) (h:Pl.cmpQ p.1 q.1=0) (hp:Pl.SzP j p) (hq:Pl.SzP k q) (hj:j≤1000000) (hk:k≤1000000) :
 Calls Tryz.prog 79 #[pv p,pv q] w fun e w'=>e=.returned (.bool (decide (Pl.cmpQ p.2 q.2<0)))∧Below w.heap.size w w':=by
 have kx:=fun W=>rcompare_any p.1 q.1 W (hp.1.mono (by omega)) (hq.1.mono (by omega))
 have ky:=fun W=>rcompare_any p.2 q.2 W (hp.2.mono (by omega)) (hq.2.mono (by omega))
 rw [h] at kx;generalize Pl.cmpQ p.2 q.2=y at ky ⊢
 skip
 have KX:=Lib.hid kx;have KY:=Lib.hid ky;clear kx ky;have K1:=Lib.hid (fun W=>KX.out W);have K2:=Lib.hid (fun W=>KY.out W);clear h hp hq hj hk;go_enter Tryz.func79,Tryz.ntmps79;go_wp2_with fail;refine calls_named ?_;intro W1 hW1;have c1_0:At W1 w.heap.size 0 [.bool (ng p.1.num),.string (mg p.1.num.natAbs),.bool false,.string (mg (dn p.1)),.bool (ng p.2.num),.string (mg p.2.num.natAbs),.bool false,.string (mg (dn p.2))]:=by rw [hW1];simp [At,go_sem]
 have c1_1:At W1 (w.heap.size+1) 0 [.bool (ng q.1.num),.string (mg q.1.num.natAbs),.bool false,.string (mg (dn q.1)),.bool (ng q.2.num),.string (mg q.2.num.natAbs),.bool false,.string (mg (dn q.2))]:=by rw [hW1];simp [At,go_sem]
 have hB1:Below w.heap.size w W1:=by rw [hW1];exact bB
 clear hW1;have uc1_0:=c1_0;have uc1_1:=c1_1;simp only [At,Own,Nat.reduceAdd,and_true] at uc1_0 uc1_1;with_reducible refine (K1.out _).mono ?_
 rintro e w1 ⟨rfl,hb1⟩;have c1_0x:=c1_0.up hb1;have c1_1x:=c1_1.up hb1;have hDw1:Below w.heap.size w w1:=bel_up hB1 hb1;clear uc1_0 uc1_1 c1_0 c1_1;have uc1_0x:=c1_0x;have uc1_1x:=c1_1x;simp only [At,Own,Nat.reduceAdd,and_true] at uc1_0x uc1_1x
 -- NE
 go_wp2_with fail;refine calls_named ?_;intro W2 hW2;have hL2:Below w1.heap.size w1 W2:=by rw [hW2];exact bB
 have c2_0:=c1_0x.up hL2;have c2_1:=c1_1x.up hL2;have hB2:Below w.heap.size w W2:=by rw [hW2];exact bB
 clear hW2 hL2 uc1_0x uc1_1x c1_0x c1_1x;have uc2_0:=c2_0;have uc2_1:=c2_1;simp only [At,Own,Nat.reduceAdd,and_true] at uc2_0 uc2_1;with_reducible refine (K2.out _).mono ?_
 rintro e w2 ⟨rfl,hb2⟩;have c2_0x:=c2_0.up hb2;have c2_1x:=c2_1.up hb2;have hDw2:Below w.heap.size w w2:=bel_up hB2 hb2;clear uc2_0 uc2_1 c2_0 c2_1;have uc2_0x:=c2_0x;have uc2_1x:=c2_1x;simp only [At,Own,Nat.reduceAdd,and_true] at uc2_0x uc2_1x
 -- NE
 go_wp2;go_ret;refine ⟨rfl,?_⟩;exact bB

theorem hless_any {j k:Nat} (p q:Rat×Rat) (w:World) (hp:Pl.SzP j p) (hq:Pl.SzP k q) (hj:j≤1000000) (hk:k≤1000000) :
 Calls Tryz.prog 79 #[pv p,pv q] w fun e w'=>e=.returned (.bool (Pl.lessP p q))∧Below w.heap.size w w':=by
 unfold Pl.lessP Pl.cmpP
 by_cases h:Pl.cmpQ p.1 q.1=0
 ·rw [if_pos h];exact hless_eq p q w h hp hq hj hk
 ·rw [if_neg h]
  rcases Int.lt_or_le (Pl.cmpQ p.1 q.1) 0 with h1|h1
  ·rw [decide_eq_true h1];exact hless_lt p q w h1 hp hq hj hk
  ·rw [decide_eq_false (by omega)];exact hless_gt p q w (by omega) hp hq hj hk

theorem hbtw_no {i j k:Nat} (p:Rat×Rat) (a:Rat×Rat) (b:Rat×Rat) (w:World) (h:Pl.turn a b p≠0) (hp:Pl.SzP i p) (ha:Pl.SzP j a) (hb:Pl.SzP k b) (hi:i≤100000) (hj:j≤100000) (hk:k≤100000) :
 Calls Tryz.prog 56 #[pv p,pv a,pv b] w fun e w'=>e=.returned (.bool false)∧Below w.heap.size w w':=by
 have kt:=fun W=>hturn_any a b p W ha hb hp hj hk hi
 generalize Pl.turn a b p=t at kt h;have hz:(t==0)=false:=by simpa using h
 have KT:=Lib.hid kt;clear kt;have K1:=Lib.hid (fun W=>KT.out W);clear h hp ha hb hi hj hk;go_enter Tryz.func56,Tryz.ntmps56;go_wp2_with fail;refine wp_named ?_;intro W1 hW1;have c1_0:At W1 w.heap.size 0 [.bool (ng p.1.num),.string (mg p.1.num.natAbs),.bool false,.string (mg (dn p.1)),.bool (ng p.2.num),.string (mg p.2.num.natAbs),.bool false,.string (mg (dn p.2))]:=by rw [hW1];simp [At,go_sem]
 have c1_1:At W1 (w.heap.size+1) 0 [.bool (ng a.1.num),.string (mg a.1.num.natAbs),.bool false,.string (mg (dn a.1)),.bool (ng a.2.num),.string (mg a.2.num.natAbs),.bool false,.string (mg (dn a.2))]:=by rw [hW1];simp [At,go_sem]
 have c1_2:At W1 (w.heap.size+2) 0 [.bool (ng b.1.num),.string (mg b.1.num.natAbs),.bool false,.string (mg (dn b.1)),.bool (ng b.2.num),.string (mg b.2.num.natAbs),.bool false,.string (mg (dn b.2))]:=by rw [hW1];simp [At,go_sem]
 have hB1:Below w.heap.size w W1:=by rw [hW1];exact bB
 clear hW1;have dc1_0:=fun p:Bel W1=>c1_0.bel p;have dc1_1:=fun p:Bel W1=>c1_1.bel p;have dc1_2:=fun p:Bel W1=>c1_2.bel p
 simp only [At,Own,Nat.reduceAdd,and_true] at dc1_0 dc1_1 dc1_2;refine wp_region_tail 16 (by kernel_rfl) (by kernel_rfl) ?_;simp only [List.take_succ_cons,List.take_zero,List.drop_succ_cons,List.drop_zero];repeat (go_big_quiet_step (first|(go_at_call 57;with_reducible exact Calls.bel (K1.out _))))
 refine wpQuiet_nil ?_;intro w1 hb1;have c1_0x:=c1_0.up hb1;have c1_1x:=c1_1.up hb1;have c1_2x:=c1_2.up hb1;clear dc1_0 dc1_1 dc1_2 c1_0 c1_1 c1_2;have hD1:Below w.heap.size w w1:=bel_up hB1 hb1;have uc1_0x:=c1_0x;have uc1_1x:=c1_1x;have uc1_2x:=c1_2x;simp only [At,Own,Nat.reduceAdd,and_true] at uc1_0x uc1_1x uc1_2x
 -- NE
 go_wp2;go_ret;refine ⟨rfl,?_⟩;exact bB

theorem hbtw_on {i j k:Nat} (p:Rat×Rat) (a:Rat×Rat) (b:Rat×Rat) (w:World) (h:Pl.turn a b p=0) (hp:Pl.SzP i p) (ha:Pl.SzP j a) (hb:Pl.SzP k b) (hi:i≤100000) (hj:j≤100000) (hk:k≤100000) :
 Calls Tryz.prog 56 #[pv p,pv a,pv b] w fun e w'=>e=.returned (.bool (decide (Pl.sgn (Pl.dotP (Pl.subP a p) (Pl.subP b p))≤0)))∧Below w.heap.size w w':=by
 have kt:=fun W=>hturn_any a b p W ha hb hp hj hk hi
 rw [h] at kt
 skip
 have KT:=Lib.hid kt;clear kt;have ks:=fun W=>rsign_any (Pl.dotP (Pl.subP a p) (Pl.subP b p)) W
 generalize Pl.sgn (Pl.dotP (Pl.subP a p) (Pl.subP b p))=z at ks ⊢;have KS:=Lib.hid ks;clear ks;have K1:=Lib.hid (fun W=>KT.out W);have K2:=Lib.hid (fun W=>hsub_any a p W ha hp (by omega) (by omega));have K3:=Lib.hid (fun W=>hsub_any b p W hb hp (by omega) (by omega));have K4:=Lib.hid (fun W=>hdot_any (Pl.subP a p) (Pl.subP b p) W (ha.sub hp) (hb.sub hp) (by omega) (by omega));have K5:=Lib.hid (fun W=>KS.out W);clear h hp ha hb hi hj hk;go_enter Tryz.func56,Tryz.ntmps56;go_wp2_with fail;refine wp_named ?_;intro W1 hW1;have c1_0:At W1 w.heap.size 0 [.bool (ng p.1.num),.string (mg p.1.num.natAbs),.bool false,.string (mg (dn p.1)),.bool (ng p.2.num),.string (mg p.2.num.natAbs),.bool false,.string (mg (dn p.2))]:=by rw [hW1];simp [At,go_sem]
 have c1_1:At W1 (w.heap.size+1) 0 [.bool (ng a.1.num),.string (mg a.1.num.natAbs),.bool false,.string (mg (dn a.1)),.bool (ng a.2.num),.string (mg a.2.num.natAbs),.bool false,.string (mg (dn a.2))]:=by rw [hW1];simp [At,go_sem]
 have c1_2:At W1 (w.heap.size+2) 0 [.bool (ng b.1.num),.string (mg b.1.num.natAbs),.bool false,.string (mg (dn b.1)),.bool (ng b.2.num),.string (mg b.2.num.natAbs),.bool false,.string (mg (dn b.2))]:=by rw [hW1];simp [At,go_sem]
 have hB1:Below w.heap.size w W1:=by rw [hW1];exact bB
 clear hW1;have dc1_0:=fun p:Bel W1=>c1_0.bel p;have dc1_1:=fun p:Bel W1=>c1_1.bel p;have dc1_2:=fun p:Bel W1=>c1_2.bel p
 simp only [At,Own,Nat.reduceAdd,and_true] at dc1_0 dc1_1 dc1_2;refine wp_region_tail 16 (by kernel_rfl) (by kernel_rfl) ?_;simp only [List.take_succ_cons,List.take_zero,List.drop_succ_cons,List.drop_zero];repeat (go_big_quiet_step (first|(go_at_call 57;with_reducible exact Calls.bel (K1.out _))|(go_at_call 30;with_reducible exact Calls.bel (K2.out _))|(go_at_call 30;with_reducible exact Calls.bel (K3.out _))|(go_at_call 28;with_reducible exact Calls.bel (K4.out _))|(go_at_call 76;with_reducible exact Calls.bel (K5.out _))))
 refine wpQuiet_nil ?_;intro w1 hb1;have c1_0x:=c1_0.up hb1;have c1_1x:=c1_1.up hb1;have c1_2x:=c1_2.up hb1;clear dc1_0 dc1_1 dc1_2 c1_0 c1_1 c1_2;have hD1:Below w.heap.size w w1:=bel_up hB1 hb1;have uc1_0x:=c1_0x;have uc1_1x:=c1_1x;have uc1_2x:=c1_2x;simp only [At,Own,Nat.reduceAdd,and_true] at uc1_0x uc1_1x uc1_2x
 -- NE
 go_wp2;go_ret;refine ⟨rfl,?_⟩;exact bB

theorem hbtw_any {i j k:Nat} (p a b:Rat×Rat) (w:World) (hp:Pl.SzP i p) (ha:Pl.SzP j a) (hb:Pl.SzP k b) (hi:i≤100000) (hj:j≤100000) (hk:k≤100000) :
 Calls Tryz.prog 56 #[pv p,pv a,pv b] w fun e w'=>e=.returned (.bool (Pl.btwB p a b))∧Below w.heap.size w w':=by
 unfold Pl.btwB
 by_cases h:Pl.turn a b p=0
 ·rw [decide_eq_true h,Bool.true_and];exact hbtw_on p a b w h hp ha hb hi hj hk
 ·rw [decide_eq_false h,Bool.false_and];exact hbtw_no p a b w h hp ha hb hi hj hk

end Go.Proofs.YtdkkjfnpinckjaaGreatDoor
