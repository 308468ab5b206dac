/-
 Contracts for convex sets: the lines that bound a set.
-/
import Derived.Test.YtdkkjfnpinckjaaGreatDoorYMo
import Derived.Test.YtdkkjfnpinckjaaGreatDoorYReg3
import Derived.Test.YtdkkjfnpinckjaaGreatDoorYCutQ
import Derived.Test.YtdkkjfnpinckjaaGreatDoorYCed
import Derived.Deep.DeepCutAuto
set_option maxRecDepth 100000
set_option linter.unusedSimpArgs false
set_option linter.unusedVariables false
namespace Go.Proofs.YtdkkjfnpinckjaaGreatDoor
open Go Go.RowKit

theorem sv_litn (w:World) (l:List ((Rat×Rat)×(Rat×Rat))) (n:Nat) {cs:List Value} (hc:cs=segs l) (hn:l.length=n∧n≤1000):SV (w.alloc (.cells cs.toArray 59)) (.slice (some ⟨w.heap.size,0,none⟩) n n) l:=by
 obtain ⟨rfl,hm⟩:=hn;subst hc;refine ⟨by rw [segs,flat_length scells 16 scells_len],.inr ⟨_,0,_,rfl,Nat.le_refl _,by simp [maxLen];omega,fun j u hj => ?_⟩⟩;rw [World.cell?_alloc_at _ _ _ _ rfl];simpa using hj

set_option maxHeartbeats 1000000 in
theorem ahead_any {I J:Nat} (p d:Rat×Rat) (w:World) (hp:Pl.SzP I p) (hd:Pl.SzP J d) (hI:I≤100000) (hJ:J≤100000) :
 Calls Tryz.prog 125 #[pv p,pv d] w fun e w'=>e=.returned (.agg #[.bool (ng p.1.num),.string (mg p.1.num.natAbs),.bool false,.string (mg (dn p.1)),.bool (ng p.2.num),.string (mg p.2.num.natAbs),.bool false,.string (mg (dn p.2)),.bool (ng (((Pl.addP p (d.2,-d.1)).1).num)),.string (mg (((Pl.addP p (d.2,-d.1)).1).num).natAbs),.bool false,.string (mg (dn ((Pl.addP p (d.2,-d.1)).1))),.bool (ng (((Pl.addP p (d.2,-d.1)).2).num)),.string (mg (((Pl.addP p (d.2,-d.1)).2).num).natAbs),.bool false,.string (mg (dn ((Pl.addP p (d.2,-d.1)).2)))])∧Below w.heap.size w w':=by
 go_enter Tryz.func125,Tryz.ntmps125;go_upto_region 1 with fail
 refine wp_named ?_;intro W1 hW1;have hL1:Below w.heap.size w W1:=by rw [hW1];exact bB
 have c1:Own W1 w.heap.size 0 [.bool (ng p.1.num),.string (mg p.1.num.natAbs),.bool false,.string (mg (dn p.1)),.bool (ng p.2.num),.string (mg p.2.num.natAbs),.bool false,.string (mg (dn p.2))]:=by
  rw [hW1]
  first
  | (repeat (first|(with_reducible refine own_new (l:=[.bool (ng p.1.num),.string (mg p.1.num.natAbs),.bool false,.string (mg (dn p.1)),.bool (ng p.2.num),.string (mg p.2.num.natAbs),.bool false,.string (mg (dn p.2))]) ?_;(simp;done))|with_reducible refine Own.alloc ?_ _|refine Own.far _ _ (by first|(simp;done)|(simp [*];done)|(simp;omega)) ?_));done
  | simp [Own,go_sem]
 have c2:Own W1 (w.heap.size+1) 0 [.bool (ng d.1.num),.string (mg d.1.num.natAbs),.bool false,.string (mg (dn d.1)),.bool (ng d.2.num),.string (mg d.2.num.natAbs),.bool false,.string (mg (dn d.2))]:=by
  rw [hW1]
  first
  | (repeat (first|(with_reducible refine own_new (l:=[.bool (ng d.1.num),.string (mg d.1.num.natAbs),.bool false,.string (mg (dn d.1)),.bool (ng d.2.num),.string (mg d.2.num.natAbs),.bool false,.string (mg (dn d.2))]) ?_;(simp;done))|with_reducible refine Own.alloc ?_ _|refine Own.far _ _ (by first|(simp;done)|(simp [*];done)|(simp;omega)) ?_));done
  | simp [Own,go_sem]
 have c3:Own W1 (w.heap.size+2) 0 [.bool false,.string ⟨#[]⟩,.bool false,.string ⟨#[]⟩,.bool false,.string ⟨#[]⟩,.bool false,.string ⟨#[]⟩,.bool false,.string ⟨#[]⟩,.bool false,.string ⟨#[]⟩,.bool false,.string ⟨#[]⟩,.bool false,.string ⟨#[]⟩]:=by
  rw [hW1]
  first
  | (repeat (first|(with_reducible refine own_new (l:=[.bool false,.string ⟨#[]⟩,.bool false,.string ⟨#[]⟩,.bool false,.string ⟨#[]⟩,.bool false,.string ⟨#[]⟩,.bool false,.string ⟨#[]⟩,.bool false,.string ⟨#[]⟩,.bool false,.string ⟨#[]⟩,.bool false,.string ⟨#[]⟩]) ?_;(simp;done))|with_reducible refine Own.alloc ?_ _|refine Own.far _ _ (by first|(simp;done)|(simp [*];done)|(simp;omega)) ?_));done
  | simp [Own,go_sem]
 have hB4:Below w.heap.size w W1:=by rw [hW1];exact bB
 clear hW1 hL1;have kK6:=fun W=>qneg_any d.1 W
 generalize hT8 : -d.1=nd7 at kK6;have K6:=Lib.hid kK6;clear kK6;have HhT8:=Lib.hid hT8;clear hT8;refine wp_region_new1 7 6 5 [.bool false,.string ⟨#[]⟩,.bool false,.string ⟨#[]⟩,.bool false,.string ⟨#[]⟩,.bool false,.string ⟨#[]⟩] 35 (by kernel_rfl) (by kernel_rfl) rfl rfl rfl rfl (by intro h_;cases h_) (by simp) (run_alloc_zero Tryz.zeroValue35 rfl) (by kernel_rfl) ?_;intro V_5 hV_5;have vc1:=c1.up hV_5;have dc1:=fun p:Bel V_5=>vc1.bel p
 have vc2:=c2.up hV_5;have dc2:=fun p:Bel V_5=>vc2.bel p
 have vc3:=c3.up hV_5;have dc3:=fun p:Bel V_5=>vc3.bel p
 simp only [At,Own,Nat.reduceAdd,and_true] at dc1 dc2 dc3;have hBV_5:=bel_up hB4 hV_5;simp only [List.map_cons,List.map_nil,maskOp,List.take_succ_cons,List.take_zero];repeat (go_big_quiet_step (first|(go_at_call 86;with_reducible exact Calls.bel (K6.out _))))
 refine wpQuiet_nil ?_;refine ⟨[.bool (ng d.2.num),.string (mg d.2.num.natAbs),.bool false,.string (mg (dn d.2)),.bool (ng nd7.num),.string (mg nd7.num.natAbs),.bool false,.string (mg (dn nd7))],rfl,rfl,by simp [Value.oneCell'],?_⟩;intro bq9 wn_5 hbn_5 lbq9 mbq9 c10;simp only [Act.put,List.setIfInBounds_toArray,List.set_cons_zero,List.set_cons_succ];have ne11:w.heap.size≠bq9:=by have:=c1.lt;omega
 have ne11':=ne11.symm;have ne12:w.heap.size+1≠bq9:=by have:=c2.lt;omega
 have ne12':=ne12.symm;have ne13:w.heap.size+2≠bq9:=by have:=c3.lt;omega
 have ne13':=ne13.symm;have wbq9:=Nat.le_trans hB4.size lbq9;clear hBV_5 dc3 vc3 dc2 vc2 dc1 vc1 hV_5 V_5;have c14:=c1.up hbn_5;have c15:=c2.up hbn_5;have c16:=c3.up hbn_5;have hB17:Below w.heap.size w wn_5:=bel_up hB4 hbn_5;clear c1 c2 c3;have K18:=Lib.hid (fun W=>padd_any p (d.2,nd7) W hp ⟨hd.2,(show Pl.Sz J nd7 from HhT8.out▸hd.1.neg)⟩ (by omega) (by omega));go_wp2_with fail;refine wp_named ?_;intro W2 hW2;have hL2:Below wn_5.heap.size wn_5 W2:=by rw [hW2];exact bB
 have c19:=c14.up hL2;have c20:=c15.up hL2;have c21:=c16.up hL2;have c22:=c10.up hL2;have hB23:Below w.heap.size w W2:=by rw [hW2];exact bB
 clear hW2 hL2 c14 c15 c16 c10;have dc19:=fun p:Bel W2=>c19.bel p;have dc20:=fun p:Bel W2=>c20.bel p;have dc21:=fun p:Bel W2=>c21.bel p;have dc22:=fun p:Bel W2=>c22.bel p
 simp only [At,Own,Nat.reduceAdd,and_true] at dc19 dc20 dc21 dc22;refine wp_region_tail 5 (by kernel_rfl) (by kernel_rfl) ?_;simp only [List.take_succ_cons,List.take_zero,List.drop_succ_cons,List.drop_zero];repeat (go_big_quiet_step (first|(go_at_call 65;with_reducible exact Calls.bel (K18.out _))))
 refine wpQuiet_nil ?_;intro w2 hb2;have c24:=c19.up hb2;have c25:=c20.up hb2;have c26:=c21.up hb2;have c27:=c22.up hb2;have hB28:Below w.heap.size w w2:=bel_up hB23 hb2;clear dc19 dc20 dc21 dc22 c19 c20 c21 c22;have uc24:=c24;have uc25:=c25;have uc26:=c26;have uc27:=c27;simp only [At,Own,Nat.reduceAdd,and_true] at uc24 uc25 uc26 uc27;go_wp2;refine bodyPost_ret (v:=.agg #[.bool (ng p.1.num),.string (mg p.1.num.natAbs),.bool false,.string (mg (dn p.1)),.bool (ng p.2.num),.string (mg p.2.num.natAbs),.bool false,.string (mg (dn p.2)),.bool (ng (((Pl.addP p (d.2,nd7)).1).num)),.string (mg (((Pl.addP p (d.2,nd7)).1).num).natAbs),.bool false,.string (mg (dn ((Pl.addP p (d.2,nd7)).1))),.bool (ng (((Pl.addP p (d.2,nd7)).2).num)),.string (mg (((Pl.addP p (d.2,nd7)).2).num).natAbs),.bool false,.string (mg (dn ((Pl.addP p (d.2,nd7)).2)))]) (by simp [results,Tryz.results125,go_sem,uc24,uc25,uc26,uc27]) rfl ⟨(by rw [HhT8.out]),?_⟩;exact bB

set_option maxHeartbeats 4000000 in
theorem sides_two {S:Nat} (v:Value) (a b:Rat×Rat) (w:World) (h:PV w v [a,b]) (ha:Pl.SzP S a) (hb:Pl.SzP S b) (hS:S≤10000) :
 Calls Tryz.prog 96 #[v] w fun e w'=>∃ v',e=.returned v'∧SV w' v' ([(a,b),(b,a),(a,Pl.addP a ((Pl.subP b a).2,-(Pl.subP b a).1)),(b,Pl.addP b ((Pl.subP a b).2,-(Pl.subP a b).1))])∧Below w.heap.size w w':=by
 obtain ⟨A,c,rfl,hc,hm,hx⟩:=h.open2;have HX:=Lib.hid hx;clear h hx;go_enter Tryz.func96,Tryz.ntmps96;go_upto_region 3 with fail
 refine wp_named ?_;intro W1 hW1;have hL1:Below w.heap.size w W1:=by rw [hW1];exact bB
 have hB1:Below w.heap.size w W1:=by rw [hW1];exact bB
 clear hW1 hL1;obtain ⟨g5,o6,ha7,-⟩:=(HX.out).up kpP hB1 _ _ (show ([a,b]:List (Rat×Rat))[0]?=some a from rfl);subst ha7;have ce4:=LX.at_ ((HX.out).up kpP hB1) (show ([a,b]:List (Rat×Rat))[0]?=some a from rfl);have ce4_:g5<W1.heap.size:=World.block_lt_of_cell? _ _ ce4.1;have ce8:=LX.at_ ((HX.out).up kpP hB1) (show ([a,b]:List (Rat×Rat))[1]?=some b from rfl);have ce8_:g5<W1.heap.size:=World.block_lt_of_cell? _ _ ce8.1
 have HSS9:∀ w':World,Below W1.heap.size W1 w'→(w'.cell? ⟨g5,o6,none⟩=some (.bool (ng a.1.num))∧w'.cell? ⟨g5,o6+1,none⟩=some (.string (mg a.1.num.natAbs))∧w'.cell? ⟨g5,o6+2,none⟩=some (.bool false)∧w'.cell? ⟨g5,o6+3,none⟩=some (.string (mg (dn a.1)))∧w'.cell? ⟨g5,o6+4,none⟩=some (.bool (ng a.2.num))∧w'.cell? ⟨g5,o6+5,none⟩=some (.string (mg a.2.num.natAbs))∧w'.cell? ⟨g5,o6+6,none⟩=some (.bool false)∧w'.cell? ⟨g5,o6+7,none⟩=some (.string (mg (dn a.2)))∧w'.cell? ⟨g5,o6+8,none⟩=some (.bool (ng b.1.num))∧w'.cell? ⟨g5,o6+8+1,none⟩=some (.string (mg b.1.num.natAbs))∧w'.cell? ⟨g5,o6+8+2,none⟩=some (.bool false)∧w'.cell? ⟨g5,o6+8+3,none⟩=some (.string (mg (dn b.1)))∧w'.cell? ⟨g5,o6+8+4,none⟩=some (.bool (ng b.2.num))∧w'.cell? ⟨g5,o6+8+5,none⟩=some (.string (mg b.2.num.natAbs))∧w'.cell? ⟨g5,o6+8+6,none⟩=some (.bool false)∧w'.cell? ⟨g5,o6+8+7,none⟩=some (.string (mg (dn b.2)))):=fun w' hb=>by
  have qce4:=ce4.up hb;have qce8:=ce8.up hb;simp only [At,Own,CE,CS,Nat.reduceAdd,Nat.reduceMul,Nat.zero_mul,Nat.add_zero,Nat.add_assoc,and_true] at qce4 qce8;try simp only [Nat.add_assoc,Nat.reduceAdd]
  simp [*]
 go_cut [3,4] (fun x3 x4 wx=>∃ bq2 bq3,x3=.pointer (some ⟨bq2,0,none⟩)∧x4=.pointer (some ⟨bq3,0,none⟩)∧W1.heap.size≤bq2∧W1.heap.size≤bq3∧bq2≠bq3∧Own wx bq2 0 [.bool (ng a.1.num),.string (mg a.1.num.natAbs),.bool false,.string (mg (dn a.1)),.bool (ng a.2.num),.string (mg a.2.num.natAbs),.bool false,.string (mg (dn a.2))]∧Own wx bq3 0 [.bool (ng b.1.num),.string (mg b.1.num.natAbs),.bool false,.string (mg (dn b.1)),.bool (ng b.2.num),.string (mg b.2.num.natAbs),.bool false,.string (mg (dn b.2))]∧Below W1.heap.size W1 wx)
 case first =>
  have hu:=HSS9 W1 (Below.refl _ _)
  go_region_held3 (fun w'=>w'.cell? ⟨g5,o6,none⟩=some (.bool (ng a.1.num))∧w'.cell? ⟨g5,o6+1,none⟩=some (.string (mg a.1.num.natAbs))∧w'.cell? ⟨g5,o6+2,none⟩=some (.bool false)∧w'.cell? ⟨g5,o6+3,none⟩=some (.string (mg (dn a.1)))∧w'.cell? ⟨g5,o6+4,none⟩=some (.bool (ng a.2.num))∧w'.cell? ⟨g5,o6+5,none⟩=some (.string (mg a.2.num.natAbs))∧w'.cell? ⟨g5,o6+6,none⟩=some (.bool false)∧w'.cell? ⟨g5,o6+7,none⟩=some (.string (mg (dn a.2)))∧w'.cell? ⟨g5,o6+8,none⟩=some (.bool (ng b.1.num))∧w'.cell? ⟨g5,o6+8+1,none⟩=some (.string (mg b.1.num.natAbs))∧w'.cell? ⟨g5,o6+8+2,none⟩=some (.bool false)∧w'.cell? ⟨g5,o6+8+3,none⟩=some (.string (mg (dn b.1)))∧w'.cell? ⟨g5,o6+8+4,none⟩=some (.bool (ng b.2.num))∧w'.cell? ⟨g5,o6+8+5,none⟩=some (.string (mg b.2.num.natAbs))∧w'.cell? ⟨g5,o6+8+6,none⟩=some (.bool false)∧w'.cell? ⟨g5,o6+8+7,none⟩=some (.string (mg (dn b.2)))) (refine HSS9 _ ?_<;>(exact bD)) (first
   | fail)
  all_goals
   go_wp2_with fail;go_meet;refine ⟨_,_,rfl,rfl,(by first|(simp;done)|(simp;omega)|omega),(by first|(simp;done)|(simp;omega)|omega),(by first|(simp;done)|(simp;omega)|omega),?_,?_,?_⟩
   ·first
    | (repeat (first|(with_reducible refine own_new (l:=[.bool (ng a.1.num),.string (mg a.1.num.natAbs),.bool false,.string (mg (dn a.1)),.bool (ng a.2.num),.string (mg a.2.num.natAbs),.bool false,.string (mg (dn a.2))]) ?_;(simp;done))|with_reducible refine Own.alloc ?_ _|with_reducible refine Own.drew ?_));done
    | (refine own_setL (olds:=[.bool false,.string ⟨#[]⟩,.bool false,.string ⟨#[]⟩,.bool false,.string ⟨#[]⟩,.bool false,.string ⟨#[]⟩]) ?_ rfl;with_reducible assumption)
    | simp [Own,go_sem, *]
   ·first
    | (repeat (first|(with_reducible refine own_new (l:=[.bool (ng b.1.num),.string (mg b.1.num.natAbs),.bool false,.string (mg (dn b.1)),.bool (ng b.2.num),.string (mg b.2.num.natAbs),.bool false,.string (mg (dn b.2))]) ?_;(simp;done))|with_reducible refine Own.alloc ?_ _|with_reducible refine Own.drew ?_));done
    | (refine own_setL (olds:=[.bool false,.string ⟨#[]⟩,.bool false,.string ⟨#[]⟩,.bool false,.string ⟨#[]⟩,.bool false,.string ⟨#[]⟩]) ?_ rfl;with_reducible assumption)
    | simp [Own,go_sem, *]
   ·(exact bD)
 case rest =>
  obtain ⟨bq2,bq3,rfl,rfl,hq10,hq11,nq12,c13,c14,hbz1⟩:=hcut;obtain ⟨wz1,hwz1⟩:∃ W_,W_=wc:=⟨_,rfl⟩
  subst hwz1;have whq10:=Nat.le_trans hB1.size hq10;have whq11:=Nat.le_trans hB1.size hq11;have nq12':=nq12.symm;clear HSS9;have hB15:Below w.heap.size w wz1:=bel_up hB1 hbz1;have K16:=Lib.hid (fun W=>psub_any b a W hb ha (by omega) (by omega));have K17:=Lib.hid (fun W=>ahead_any a (Pl.subP b a) W ha (hb.sub ha) (by omega) (by omega));have K18:=Lib.hid (fun W=>psub_any a b W ha hb (by omega) (by omega));have K19:=Lib.hid (fun W=>ahead_any b (Pl.subP a b) W hb (ha.sub hb) (by omega) (by omega));go_wp2_with fail;refine wp_named ?_;intro W2 hW2;have hL2:Below wz1.heap.size wz1 W2:=by rw [hW2];exact bB
  have c20:=c13.up hL2;have c21:=c14.up hL2;have hB22:Below w.heap.size w W2:=by rw [hW2];exact bB
  clear hW2 hL2 c13 c14;have dc20:=fun p:Bel W2=>c20.bel p;have dc21:=fun p:Bel W2=>c21.bel p
  simp only [At,Own,Nat.reduceAdd,and_true] at dc20 dc21;refine wp_region_tail 16 (by kernel_rfl) (by kernel_rfl) ?_;simp only [List.take_succ_cons,List.take_zero,List.drop_succ_cons,List.drop_zero];repeat (go_big_quiet_step (first|(go_at_call 99;with_reducible exact Calls.bel (K16.out _))|(go_at_call 125;with_reducible exact Calls.bel (K17.out _))|(go_at_call 99;with_reducible exact Calls.bel (K18.out _))|(go_at_call 125;with_reducible exact Calls.bel (K19.out _))))
  refine wpQuiet_nil ?_;intro w2 hb2;have c23:=c20.up hb2;have c24:=c21.up hb2;have hB25:Below w.heap.size w w2:=bel_up hB22 hb2;clear dc20 dc21 c20 c21;have uc23:=c23;have uc24:=c24;simp only [At,Own,Nat.reduceAdd,and_true] at uc23 uc24;have ne26_:bq2<w2.heap.size:=by have:=c23.lt;omega
  have ne26:=Nat.ne_of_lt ne26_;have ne26':=ne26.symm;have ne27_:bq3<w2.heap.size:=by have:=c24.lt;omega
  have ne27:=Nat.ne_of_lt ne27_;have ne27':=ne27.symm;have ne28_:g5<w2.heap.size:=by omega
  have ne28:=Nat.ne_of_lt ne28_;have ne28':=ne28.symm;go_wp2;go_ret;exact ⟨_,rfl,(by skip;exact sv_litn _ [(a,b),(b,a),(a,Pl.addP a ((Pl.subP b a).2,-(Pl.subP b a).1)),(b,Pl.addP b ((Pl.subP a b).2,-(Pl.subP a b).1))] 4 rfl ⟨rfl,by decide⟩),(by exact bB)⟩

theorem sides_many {S:Nat} (v:Value) (l:List (Rat×Rat)) (w:World) (h:PV w v l) (hs:∀ q∈l,Pl.SzP S q) (hn:l.length≤1000000) (hS:S≤100000) (h3:3≤l.length) :
 Calls Tryz.prog 96 #[v] w fun e w'=>∃ v',e=.returned v'∧SV w' v' (Pl.edges l)∧Below w.heap.size w w':=by
 obtain ⟨A,c,rfl,hc,hm,hx⟩:=h.open_;have HV:=Lib.hid h;have HX:=Lib.hid hx;have HS:=Lib.hid hs;have HF:Hid (l.take l.length=l):=Lib.hid List.take_length;generalize hN:l.length=N at *;have HN:=Lib.hid hN;clear h hx hs hN;have i3:¬ (N:Int)≤2:=by omega
 have i4:(2:Int)<N:=by omega
 go_enter Tryz.func96,Tryz.ntmps96;have K1:=Lib.hid (fun v W hW=>edges_many v l W hW HS.out (by rw [HN.out];exact hn) hS (by rw [HN.out];exact h3));go_wp2_with (fail)
 refine calls_named ?_;intro W1 hW1;have hL1:Below w.heap.size w W1:=by rw [hW1];exact bB
 have hB2:Below w.heap.size w W1:=by rw [hW1];exact bB
 clear hW1 hL1;with_reducible refine (K1.out _ _ (HV.out.up hB2)).mono ?_
 rintro e w1 ⟨v1,rfl,hv1,hb1⟩;have hB3:Below w.heap.size w w1:=bel_up hB2 hb1;have PW1:=Lib.hid hv1;clear hv1;go_wp2;go_ret;exact ⟨_,rfl,(by skip;exact PW1.out),(by exact bB)⟩

theorem sides_any {S:Nat} (v:Value) (l:List (Rat×Rat)) (w:World) (h:PV w v l) (hs:∀ q∈l,Pl.SzP S q) (hn:l.length≤1000000) (hS:S≤10000) (h2:2≤l.length) :
 Calls Tryz.prog 96 #[v] w fun e w'=>∃ v',e=.returned v'∧SV w' v' (Pl.sides l)∧Below w.heap.size w w':=by
 match l,h,hs,hn,h2 with
 | [a,b],h,hs,_,_=>exact sides_two v a b w h (hs a (by simp)) (hs b (by simp)) hS
 | x :: y :: z :: l,h,hs,hn,_ =>
  rw [show Pl.sides (x :: y :: z :: l)=Pl.edges (x :: y :: z :: l) by unfold Pl.sides;rw [if_pos (by simp)]];exact sides_many v _ w h hs hn (by omega) (by simp)
end Go.Proofs.YtdkkjfnpinckjaaGreatDoor
