/-
 Contracts for the plane: the crossing of two segments.
-/
import Derived.Test.YtiochgoocbkckaaGreatDoorAgbb
import Derived.Test.YtiochgoocbkckaaGreatDoorAReg7
import Derived.Deep.RegionHeld3
import Derived.Deep.DeepCutAuto
set_option maxRecDepth 100000
set_option linter.unusedSimpArgs false
set_option linter.unusedVariables false
namespace Go.Proofs.YtiochgoocbkckaaGreatDoor
open Go Go.RowKit

theorem div_sz {S:Nat} {s t:(Rat×Rat)×(Rat×Rat)} (hs:Pl.SzS S s) (ht:Pl.SzS S t) :
 Pl.Sz (32*S+14) (Pl.crossP (Pl.subP t.1 s.1) (Pl.subP t.2 t.1)/Pl.crossP (Pl.subP s.2 s.1) (Pl.subP t.2 t.1)) :=
 ((((ht.1.sub hs.1).cross (ht.2.sub ht.1)).div ((hs.2.sub hs.1).cross (ht.2.sub ht.1))).mono (by omega))
theorem wrap_sgn {a b:Int} (ha:a=-1∨a=0∨a=1) (hb:b=-1∨b=0∨b=1):wrap64 (a*b)=a*b∧IntKind.i64.wrap (a*b)=a*b:=by
 obtain ⟨z,hz⟩:∃ z,a*b=z:=⟨_,rfl⟩
 have h : -1≤z∧z≤1:=by rw [← hz];rcases ha with rfl|rfl|rfl<;>rcases hb with rfl|rfl|rfl<;>decide
 rw [hz];refine ⟨?_,?_⟩
 ·unfold wrap64;omega
 ·simp [IntKind.wrap,IntKind.bits,IntKind.signed];omega
theorem crsB_def {s t:(Rat×Rat)×(Rat×Rat)} {a b c d:Int} (h1:Pl.turn s.1 s.2 t.1=a) (h2:Pl.turn s.1 s.2 t.2=b) (h3:Pl.turn t.1 t.2 s.1=c) (h4:Pl.turn t.1 t.2 s.2=d):Pg.crossB s t=(decide (a*b<0)&&decide (c*d<0)):=by
 unfold Pg.crossB;rw [h1,h2,h3,h4]
theorem crs_nz {s t:(Rat×Rat)×(Rat×Rat)} {a b:Int} (h1:Pl.turn s.1 s.2 t.1=a) (h2:Pl.turn s.1 s.2 t.2=b) (h:a*b<0):Pl.crossP (Pl.subP s.2 s.1) (Pl.subP t.2 t.1)≠0:=fun e=>by
 have hd:Pl.det s.1 s.2 t.1=Pl.det s.1 s.2 t.2:=by unfold Pl.det Pl.crossP Pl.subP at *;simp only at *;grind
 have:a=b:=by rw [← h1,← h2];unfold Pl.turn;rw [hd]
 subst this;rcases (sgn3 h1) with rfl|rfl|rfl<;>exact absurd h (by decide)

theorem act_out {P:Program} {ops:Array Oper} {Q:Exit→Act→World→Prop} {a:Act} {w:World} (c:Nat) (v:Value) (h1:a.tmps.getD c undef=v) (h2:a.defers=[]) (h:∀ b:Act,b.tmps.getD c undef=v→b.defers=[]→wpList P ops Q [] b w):wpList P ops Q [] a w:=h a h1 h2
theorem st_head {P:Program} {ops:Array Oper} {Q:Exit→Act→World→Prop} {a:Act} {w:World} {rest:List Oper} {d:Option Tmp} {ty0:TypeId} {pos:String} {af:Array Edge} {g:Option (Nat×Bool)} {ty:TypeId} {x y:Operand} (h:wpList P ops Q (⟨d,.store ty x y,ty0,pos,af,g⟩ :: rest) a w):wpList P ops Q (⟨d,.store ty x y,ty0,pos,af,g⟩ :: rest) a w:=h
theorem wpList_build2 {P:Program} {ops:Array Oper} {Q:Exit→Act→World→Prop} {a:Act} {w:World} {op:Oper} {rest:List Oper} (hg:op.guard=none) (T:TypeId) (i j:Nat) (x y:Operand) (ho:op.op=.build T #[(i,x),(j,y)]) (u v:Value) (cs:Array Value)
 (hx:a.eval x=u) (hy:a.eval y=v) (hb:P.built T [(i,u),(j,v)]=some cs) (h:wpList P ops Q rest (a.put op.dst (.agg cs)) w):wpList P ops Q (op :: rest) a w :=
 wpList_plain hg fun _ hK=>by
  unfold Oper.wp execOp;simp only [ho,List.map_toArray,List.map_cons,List.map_nil,hx,hy,run_build w T #[(i,u),(j,v)] cs hb,Sem.run_bind,Result.andThen_ok,Sem.run_pure];show _;simp only [Oper.upon];exact hK _ _ h

theorem wpList_load_mid {P:Program} {ops:Array Oper} {Q:Exit→Act→World→Prop} {a:Act} {w:World} {op:Oper} {rest:List Oper} (hg:op.guard=none) (ty:TypeId) (x:Operand) (ho:op.op=.load ty x)
 (b o:Nat) (hx:a.eval x=.pointer (some ⟨b,o,none⟩)) (cs:List Value) (d:TypeDesc) (hS:w.rangeAt b o cs) (hu:P.underlying ty=some d) (hd:d.isRow=true) (hi:(P.info? ty).map (·.size)=some cs.length)
 (h:wpList P ops Q rest (a.put op.dst (.agg cs.toArray)) w):wpList P ops Q (op :: rest) a w :=
 wpList_plain hg fun _ hK=>by
  unfold Oper.wp execOp;simp only [ho,hx,Instr.loadAt,Instr.sureAddr,Sem.run_bind,Sem.run_pure,Result.andThen_ok,run_loadVar_mid w b o ty cs d hS hu hd hi];show _;simp only [Oper.upon];exact hK _ _ h
theorem cross_last {ops:Array Oper} {Q:Exit→Act→World→Prop} {b:Act} {W:World} {o1 o2 o3 o4 o5:Oper} {B9 B4:Nat} (z:Rat×Rat) {olds:List Value} (g1:o1.guard=none) (g2:o2.guard=none) (g3:o3.guard=none) (g4:o4.guard=none) (g5:o5.guard=none)
 (d1:o1.dst=some 72) (d2:o2.dst=some 73) (d3:o3.dst=some 74) (d4:o4.dst=some 75) (d5:o5.dst=none)
 (p1:o1.op=.load 45 (.tmp 9)) (p2:o2.op=.load 45 (.tmp 9)) (p3:o3.op=.build 73 #[(0,.tmp 72),(1,.tmp 73)]) (p4:o4.op=.build 124 #[(0,.const (.int .i64 2)),(1,.tmp 74)]) (p5:o5.op=.store 124 (.tmp 4) (.tmp 75))
 (h4:b.eval (.tmp 4)=.pointer (some ⟨B4,0,none⟩)) (h9:b.eval (.tmp 9)=.pointer (some ⟨B9,0,none⟩)) (hsz:76≤b.tmps.size) (c9:Own W B9 0 [.bool (ng z.1.num),.string (mg z.1.num.natAbs),.bool false,.string (mg (dn z.1)),.bool (ng z.2.num),.string (mg z.2.num.natAbs),.bool false,.string (mg (dn z.2))]) (c4:Own W B4 0 olds) (ho:olds.length=17)
 (h:∀ b':Act,b'.eval (.tmp 4)=.pointer (some ⟨B4,0,none⟩)→b'.defers=b.defers→wpList Tryz.prog ops Q [] b' (W.setCells B4 0 [.int .i64 2,.bool (ng z.1.num),.string (mg z.1.num.natAbs),.bool false,.string (mg (dn z.1)),.bool (ng z.2.num),.string (mg z.2.num.natAbs),.bool false,.string (mg (dn z.2)),.bool (ng z.1.num),.string (mg z.1.num.natAbs),.bool false,.string (mg (dn z.1)),.bool (ng z.2.num),.string (mg z.2.num.natAbs),.bool false,.string (mg (dn z.2))])):wpList Tryz.prog ops Q [o1,o2,o3,o4,o5] b W:=by
 have ne:∀ (a:Act) (d t:Nat) (v:Value),d≠t→(a.put (some d) v).eval (.tmp t)=a.eval (.tmp t):=fun a d t v hd=>eval_put_ne a (fun e=>hd (by cases e;rfl))
 have se:∀ (a:Act) (d:Nat) (v:Value),d<a.tmps.size→(a.put (some d) v).eval (.tmp d)=v:=fun a d v hd=>eval_put_self a hd
 refine wpList_load_mid g1 45 _ p1 B9 0 h9 [.bool (ng z.1.num),.string (mg z.1.num.natAbs),.bool false,.string (mg (dn z.1)),.bool (ng z.2.num),.string (mg z.2.num.natAbs),.bool false,.string (mg (dn z.2))] _ (own_range c9) Tryz.underlying45 rfl (by kernel_rfl) ?_;rw [d1];refine wpList_load_mid g2 45 _ p2 B9 0 (by rw [ne _ _ _ _ (by decide)];exact h9) [.bool (ng z.1.num),.string (mg z.1.num.natAbs),.bool false,.string (mg (dn z.1)),.bool (ng z.2.num),.string (mg z.2.num.natAbs),.bool false,.string (mg (dn z.2))] _ (own_range c9) Tryz.underlying45 rfl (by kernel_rfl) ?_;rw [d2];refine wpList_build2 g3 73 0 1 _ _ p3 (.agg #[.bool (ng z.1.num),.string (mg z.1.num.natAbs),.bool false,.string (mg (dn z.1)),.bool (ng z.2.num),.string (mg z.2.num.natAbs),.bool false,.string (mg (dn z.2))]) (.agg #[.bool (ng z.1.num),.string (mg z.1.num.natAbs),.bool false,.string (mg (dn z.1)),.bool (ng z.2.num),.string (mg z.2.num.natAbs),.bool false,.string (mg (dn z.2))]) #[.bool (ng z.1.num),.string (mg z.1.num.natAbs),.bool false,.string (mg (dn z.1)),.bool (ng z.2.num),.string (mg z.2.num.natAbs),.bool false,.string (mg (dn z.2)),.bool (ng z.1.num),.string (mg z.1.num.natAbs),.bool false,.string (mg (dn z.1)),.bool (ng z.2.num),.string (mg z.2.num.natAbs),.bool false,.string (mg (dn z.2))] (by rw [ne _ _ _ _ (by decide),se _ 72 _ (by omega)]) (by rw [se _ 73 _ (by rw [put_size];omega)]) (by kernel_rfl) ?_;rw [d3];refine wpList_build2 g4 124 0 1 _ _ p4 (.int .i64 2) (.agg #[.bool (ng z.1.num),.string (mg z.1.num.natAbs),.bool false,.string (mg (dn z.1)),.bool (ng z.2.num),.string (mg z.2.num.natAbs),.bool false,.string (mg (dn z.2)),.bool (ng z.1.num),.string (mg z.1.num.natAbs),.bool false,.string (mg (dn z.1)),.bool (ng z.2.num),.string (mg z.2.num.natAbs),.bool false,.string (mg (dn z.2))]) #[.int .i64 2,.bool (ng z.1.num),.string (mg z.1.num.natAbs),.bool false,.string (mg (dn z.1)),.bool (ng z.2.num),.string (mg z.2.num.natAbs),.bool false,.string (mg (dn z.2)),.bool (ng z.1.num),.string (mg z.1.num.natAbs),.bool false,.string (mg (dn z.1)),.bool (ng z.2.num),.string (mg z.2.num.natAbs),.bool false,.string (mg (dn z.2))] rfl (by rw [se _ 74 _ (by rw [put_size,put_size];omega)]) (by kernel_rfl) ?_;rw [d4];refine wpList_store_cells (cs:=[.int .i64 2,.bool (ng z.1.num),.string (mg z.1.num.natAbs),.bool false,.string (mg (dn z.1)),.bool (ng z.2.num),.string (mg z.2.num.natAbs),.bool false,.string (mg (dn z.2)),.bool (ng z.1.num),.string (mg z.1.num.natAbs),.bool false,.string (mg (dn z.1)),.bool (ng z.2.num),.string (mg z.2.num.natAbs),.bool false,.string (mg (dn z.2))]) g5 d5 _ _ _ p5 (b:=B4) (o:=0) (by rw [ne _ _ _ _ (by decide),ne _ _ _ _ (by decide),ne _ _ _ _ (by decide),ne _ _ _ _ (by decide)];exact h4) (by rw [se _ 75 _ (by rw [put_size,put_size,put_size];omega)];rfl) c4 ho (by kernel_rfl) (by simp [Value.oneCell']) ?_;exact h _ (by rw [ne _ _ _ _ (by decide),ne _ _ _ _ (by decide),ne _ _ _ _ (by decide),ne _ _ _ _ (by decide)];exact h4) (by rw [put_defers,put_defers,put_defers,put_defers])

set_option maxHeartbeats 20000000 in
theorem cross2_any {S:Nat} (s t:(Rat×Rat)×(Rat×Rat)) (w:World) (hs:Pl.SzS S s) (ht:Pl.SzS S t) (hS:S≤2000) :
 Calls Tryz.prog 156 #[sv s,sv t] w fun e w'=>e=.returned (mtv (crsM s t))∧Below w.heap.size w w':=by
 go_enter Tryz.func156,Tryz.ntmps156;have kK1:=fun W=>orient_any s.1 s.2 t.1 W hs.1 hs.2 ht.1 (by omega) (by omega) (by omega)
 generalize hT3:Pl.turn s.1 s.2 t.1=o2 at kK1;have K1:=Lib.hid kK1;clear kK1;have HhT3:=Lib.hid hT3;clear hT3;have kK4:=fun W=>orient_any s.1 s.2 t.2 W hs.1 hs.2 ht.2 (by omega) (by omega) (by omega)
 generalize hT6:Pl.turn s.1 s.2 t.2=o5 at kK4;have K4:=Lib.hid kK4;clear kK4;have HhT6:=Lib.hid hT6;clear hT6;have kK7:=fun W=>orient_any t.1 t.2 s.1 W ht.1 ht.2 hs.1 (by omega) (by omega) (by omega)
 generalize hT9:Pl.turn t.1 t.2 s.1=o8 at kK7;have K7:=Lib.hid kK7;clear kK7;have HhT9:=Lib.hid hT9;clear hT9;have kK10:=fun W=>orient_any t.1 t.2 s.2 W ht.1 ht.2 hs.2 (by omega) (by omega) (by omega)
 generalize hT12:Pl.turn t.1 t.2 s.2=o11 at kK10;have K10:=Lib.hid kK10;clear kK10;have HhT12:=Lib.hid hT12;clear hT12;obtain ⟨wa1,wa2⟩:=wrap_sgn (sgn3 HhT3.out) (sgn3 HhT6.out);obtain ⟨wb1,wb2⟩:=wrap_sgn (sgn3 HhT9.out) (sgn3 HhT12.out);have HCB:=Lib.hid (crsB_def HhT3.out HhT6.out HhT9.out HhT12.out)
 by_cases hc13:((o2*o5):Int)<0
 ·skip
  as_aux_lemma =>
   have hc13_d:decide (((o2*o5):Int)<0)=true:=decide_eq_true hc13;have hc13_:¬ ((0:Int)≤(o2*o5)):=by omega
   have hc13_e:decide ((0:Int)≤(o2*o5))=false:=decide_eq_false hc13_;go_wp2_with fail;refine wp_named ?_;intro W1 hW1;have hL1:Below w.heap.size w W1:=by rw [hW1];exact bB
   have c14:Own W1 w.heap.size 0 [.bool (ng s.1.1.num),.string (mg s.1.1.num.natAbs),.bool false,.string (mg (dn s.1.1)),.bool (ng s.1.2.num),.string (mg s.1.2.num.natAbs),.bool false,.string (mg (dn s.1.2)),.bool (ng s.2.1.num),.string (mg s.2.1.num.natAbs),.bool false,.string (mg (dn s.2.1)),.bool (ng s.2.2.num),.string (mg s.2.2.num.natAbs),.bool false,.string (mg (dn s.2.2))]:=by
    rw [hW1]
    first
    | (repeat (first|(with_reducible refine own_new (l:=[.bool (ng s.1.1.num),.string (mg s.1.1.num.natAbs),.bool false,.string (mg (dn s.1.1)),.bool (ng s.1.2.num),.string (mg s.1.2.num.natAbs),.bool false,.string (mg (dn s.1.2)),.bool (ng s.2.1.num),.string (mg s.2.1.num.natAbs),.bool false,.string (mg (dn s.2.1)),.bool (ng s.2.2.num),.string (mg s.2.2.num.natAbs),.bool false,.string (mg (dn s.2.2))]) ?_;(simp;done))|with_reducible refine Own.alloc ?_ _|refine Own.far _ _ (by first|(simp;done)|(simp [*];done)|(simp;omega)) ?_));done
    | simp [Own,go_sem]
   have c15:Own W1 (w.heap.size+1) 0 [.bool (ng t.1.1.num),.string (mg t.1.1.num.natAbs),.bool false,.string (mg (dn t.1.1)),.bool (ng t.1.2.num),.string (mg t.1.2.num.natAbs),.bool false,.string (mg (dn t.1.2)),.bool (ng t.2.1.num),.string (mg t.2.1.num.natAbs),.bool false,.string (mg (dn t.2.1)),.bool (ng t.2.2.num),.string (mg t.2.2.num.natAbs),.bool false,.string (mg (dn t.2.2))]:=by
    rw [hW1]
    first
    | (repeat (first|(with_reducible refine own_new (l:=[.bool (ng t.1.1.num),.string (mg t.1.1.num.natAbs),.bool false,.string (mg (dn t.1.1)),.bool (ng t.1.2.num),.string (mg t.1.2.num.natAbs),.bool false,.string (mg (dn t.1.2)),.bool (ng t.2.1.num),.string (mg t.2.1.num.natAbs),.bool false,.string (mg (dn t.2.1)),.bool (ng t.2.2.num),.string (mg t.2.2.num.natAbs),.bool false,.string (mg (dn t.2.2))]) ?_;(simp;done))|with_reducible refine Own.alloc ?_ _|refine Own.far _ _ (by first|(simp;done)|(simp [*];done)|(simp;omega)) ?_));done
    | simp [Own,go_sem]
   have c16:Own W1 (w.heap.size+2) 0 [.int .i64 0,.bool false,.string ⟨#[]⟩,.bool false,.string ⟨#[]⟩,.bool false,.string ⟨#[]⟩,.bool false,.string ⟨#[]⟩,.bool false,.string ⟨#[]⟩,.bool false,.string ⟨#[]⟩,.bool false,.string ⟨#[]⟩,.bool false,.string ⟨#[]⟩]:=by
    rw [hW1]
    first
    | (repeat (first|(with_reducible refine own_new (l:=[.int .i64 0,.bool false,.string ⟨#[]⟩,.bool false,.string ⟨#[]⟩,.bool false,.string ⟨#[]⟩,.bool false,.string ⟨#[]⟩,.bool false,.string ⟨#[]⟩,.bool false,.string ⟨#[]⟩,.bool false,.string ⟨#[]⟩,.bool false,.string ⟨#[]⟩]) ?_;(simp;done))|with_reducible refine Own.alloc ?_ _|refine Own.far _ _ (by first|(simp;done)|(simp [*];done)|(simp;omega)) ?_));done
    | simp [Own,go_sem]
   have hB17:Below w.heap.size w W1:=by rw [hW1];exact bB
   clear hW1 hL1;have dc14:=fun p:Bel W1=>c14.bel p;have dc15:=fun p:Bel W1=>c15.bel p;have dc16:=fun p:Bel W1=>c16.bel p
   simp only [At,Own,Nat.reduceAdd,and_true] at dc14 dc15 dc16;refine wp_region_all (by kernel_rfl) (by kernel_rfl) ?_;repeat (go_big_quiet_step (first|(go_at_call 77;with_reducible exact Calls.bel (K1.out _))|(go_at_call 77;with_reducible exact Calls.bel (K4.out _))|(go_at_call 77;with_reducible exact Calls.bel (K7.out _))|(go_at_call 77;with_reducible exact Calls.bel (K10.out _))))
   refine wpQuiet_nil ?_;intro w1 hb1;have c18:=c14.up hb1;have c19:=c15.up hb1;have c20:=c16.up hb1;have hB21:Below w.heap.size w w1:=bel_up hB17 hb1;clear dc14 dc15 dc16 c14 c15 c16;have uc18:=c18;have uc19:=c19;have uc20:=c20;simp only [At,Own,Nat.reduceAdd,and_true] at uc18 uc19 uc20
   by_cases hc22:((o8*o11):Int)<0
   ·skip
    as_aux_lemma =>
     have hc22_d:decide (((o8*o11):Int)<0)=true:=decide_eq_true hc22;have hc22_:¬ ((0:Int)≤(o8*o11)):=by omega
     have hc22_e:decide ((0:Int)≤(o8*o11))=false:=decide_eq_false hc22_;go_upto_region 3 with fail
     have HNZ:=Lib.hid (crs_nz HhT3.out HhT6.out hc13);clear wa1 wa2 wb1 wb2;have Hhc13:=Lib.hid hc13_d;clear hc13_ hc13_d hc13_e hc13;have Hhc22:=Lib.hid hc22_d;clear hc22_ hc22_d hc22_e hc22;obtain ⟨u,hu⟩:∃ u,Pl.subP s.2 s.1=u:=⟨_,rfl⟩
     obtain ⟨v,hv⟩:∃ v,Pl.subP t.2 t.1=v:=⟨_,rfl⟩
     obtain ⟨r,hr⟩:∃ r,Pl.crossP (Pl.subP t.1 s.1) (Pl.subP t.2 t.1)/Pl.crossP (Pl.subP s.2 s.1) (Pl.subP t.2 t.1)=r:=⟨_,rfl⟩
     have HR:Hid (Pl.Sz (32*S+14) r):=Lib.hid (hr▸div_sz hs ht);obtain ⟨z,hz⟩:∃ z,crossM s t=z:=⟨_,rfl⟩
     have hz2:Pl.divide s r=z:=by rw [← hz,← hr];rfl
     have HZ:=Lib.hid hz2;have HZM:=Lib.hid hz;have hu2:Pl.SzP (2*S+1) u:=hu▸(hs.2.sub hs.1).mono (by omega);have hv2:Pl.SzP (2*S+1) v:=hv▸(ht.2.sub ht.1).mono (by omega);have HU2:=Lib.hid hu2;have HV2:=Lib.hid hv2;have hnz:=HNZ.out;rw [hu,hv] at hr hnz;have HNZ2:=Lib.hid hnz;have HR2:=Lib.hid hr;have HU:=Lib.hid hu;have HVV:=Lib.hid hv;clear hu hv hr hz hz2 hu2 hv2 hnz HNZ;refine wp_named ?_;intro W2 hW2;have hL2:Below w1.heap.size w1 W2:=by rw [hW2];exact bB
     have c23:=c18.up hL2;have c24:=c19.up hL2;have c25:=c20.up hL2;have hB26:Below w.heap.size w W2:=by rw [hW2];exact bB
     clear hW2 hL2 uc18 uc19 uc20 c18 c19 c20;have K28:=Lib.hid (fun W=>HU.out▸psub_any s.2 s.1 W hs.2 hs.1 (by omega) (by omega));have K29:=Lib.hid (fun W=>HVV.out▸psub_any t.2 t.1 W ht.2 ht.1 (by omega) (by omega));refine wp_region_new2 12 10 5 11 6 [.bool false,.string ⟨#[]⟩,.bool false,.string ⟨#[]⟩,.bool false,.string ⟨#[]⟩,.bool false,.string ⟨#[]⟩] [.bool false,.string ⟨#[]⟩,.bool false,.string ⟨#[]⟩,.bool false,.string ⟨#[]⟩,.bool false,.string ⟨#[]⟩] 45 45 (by kernel_rfl) (by kernel_rfl) rfl rfl rfl rfl rfl rfl rfl ⟨(by intro h_;cases h_),(by intro h_;cases h_),(by intro h_;cases h_),(by intro h_;cases h_)⟩ (by simp) (by simp) (run_alloc_zero Tryz.zeroValue45 rfl) (by kernel_rfl) (run_alloc_zero Tryz.zeroValue45 rfl) (by kernel_rfl) ?_;intro V_27 hV_27;have vc23:=c23.up hV_27;have dc23:=fun p:Bel V_27=>vc23.bel p
     have vc24:=c24.up hV_27;have dc24:=fun p:Bel V_27=>vc24.bel p
     have vc25:=c25.up hV_27;have dc25:=fun p:Bel V_27=>vc25.bel p
     simp only [At,Own,Nat.reduceAdd,and_true] at dc23 dc24 dc25;have hBV_27:=bel_up hB26 hV_27;simp only [List.map_cons,List.map_nil,maskOp,List.take_succ_cons,List.take_zero];repeat (go_big_quiet_step (first|(go_at_call 136;with_reducible exact Calls.bel (K28.out _))|(go_at_call 136;with_reducible exact Calls.bel (K29.out _))))
     refine wpQuiet_nil ?_;refine ⟨[.bool (ng u.1.num),.string (mg u.1.num.natAbs),.bool false,.string (mg (dn u.1)),.bool (ng u.2.num),.string (mg u.2.num.natAbs),.bool false,.string (mg (dn u.2))],[.bool (ng v.1.num),.string (mg v.1.num.natAbs),.bool false,.string (mg (dn v.1)),.bool (ng v.2.num),.string (mg v.2.num.natAbs),.bool false,.string (mg (dn v.2))],rfl,rfl,by simp [Value.oneCell'],rfl,rfl,by simp [Value.oneCell'],?_⟩;intro bq30 bq31 wn_27 hbn_27 lbq30 mbq30 lbq31 mbq31 nbq30 c32 c33;have nbq30':=nbq30.symm;simp only [Act.put,List.setIfInBounds_toArray,List.set_cons_zero,List.set_cons_succ];have ne34:w.heap.size≠bq30:=by have:=c23.lt;omega
     have ne34':=ne34.symm;have ne35:w.heap.size+1≠bq30:=by have:=c24.lt;omega
     have ne35':=ne35.symm;have ne36:w.heap.size+2≠bq30:=by have:=c25.lt;omega
     have ne36':=ne36.symm;have wbq30:=Nat.le_trans hB26.size lbq30;have ne37:w.heap.size≠bq31:=by have:=c23.lt;omega
     have ne37':=ne37.symm;have ne38:w.heap.size+1≠bq31:=by have:=c24.lt;omega
     have ne38':=ne38.symm;have ne39:w.heap.size+2≠bq31:=by have:=c25.lt;omega
     have ne39':=ne39.symm;have wbq31:=Nat.le_trans hB26.size lbq31;clear hBV_27 dc25 vc25 dc24 vc24 dc23 vc23 hV_27 V_27;have c40:=c23.up hbn_27;have c41:=c24.up hbn_27;have c42:=c25.up hbn_27;have hB43:Below w.heap.size w wn_27:=bel_up hB26 hbn_27;clear c23 c24 c25;go_upto_region 4 with fail
     refine wp_named ?_;intro W3 hW3;have hL3:Below wn_27.heap.size wn_27 W3:=by rw [hW3];exact bB
     have c44:=c40.up hL3;have c45:=c41.up hL3;have c46:=c42.up hL3;have c47:=c32.up hL3;have c48:=c33.up hL3;have hB49:Below w.heap.size w W3:=by rw [hW3];exact bB
     clear hW3 hL3 c40 c41 c42 c32 c33;have K51:=Lib.hid (fun W=>psub_any t.1 s.1 W ht.1 hs.1 (by omega) (by omega));have K52:=Lib.hid (fun W=>pcross_any (Pl.subP t.1 s.1) v W (ht.1.sub hs.1) HV2.out (by omega) (by omega));have K53:=Lib.hid (fun W=>pcross_any u v W HU2.out HV2.out (by omega) (by omega));have K54:=Lib.hid (fun W=>HR2.out▸qdiv_any (Pl.crossP (Pl.subP t.1 s.1) v) (Pl.crossP u v) W HNZ2.out (((ht.1.sub hs.1).cross HV2.out).mono (by omega)) ((HU2.out.cross HV2.out).mono (by omega)));refine wp_region_new1l 15 13 14 7 8 [.bool false,.string ⟨#[]⟩,.bool false,.string ⟨#[]⟩] 43 (by kernel_rfl) rfl rfl rfl rfl (by kernel_rfl) (by kernel_rfl) rfl rfl rfl rfl rfl rfl rfl ⟨(by intro h_;cases h_),(by intro h_;cases h_),(by intro h_;cases h_)⟩ (by kernel_rfl) (by simp) (run_alloc_zero Tryz.zeroValue43 rfl) (by kernel_rfl) ?_;intro V_50 hV_50;have vc44:=c44.up hV_50;have dc44:=fun p:Bel V_50=>vc44.bel p
     have vc45:=c45.up hV_50;have dc45:=fun p:Bel V_50=>vc45.bel p
     have vc46:=c46.up hV_50;have dc46:=fun p:Bel V_50=>vc46.bel p
     have vc47:=c47.up hV_50;have dc47:=fun p:Bel V_50=>vc47.bel p
     have vc48:=c48.up hV_50;have dc48:=fun p:Bel V_50=>vc48.bel p
     simp only [At,Own,Nat.reduceAdd,and_true] at dc44 dc45 dc46 dc47 dc48;have hBV_50:=bel_up hB49 hV_50;simp only [waitL,List.getElem?_cons_succ,List.getElem?_cons_zero,List.set_cons_succ,List.set_cons_zero,List.map_cons,List.map_nil,maskOp,List.take_succ_cons,List.take_zero];repeat (go_big_quiet_step (first|(go_at_call 136;with_reducible exact Calls.bel (K51.out _))|(go_at_call 73;with_reducible exact Calls.bel (K52.out _))|(go_at_call 73;with_reducible exact Calls.bel (K53.out _))|(go_at_call 104;with_reducible exact Calls.bel (K54.out _))))
     refine wpQuiet_nil ?_;refine ⟨[.bool (ng r.num),.string (mg r.num.natAbs),.bool false,.string (mg (dn r))],rfl,rfl,by simp [Value.oneCell'],?_⟩;intro bq55 wn_50 hbn_50 lbq55 mbq55 c56;simp only [Act.put,List.setIfInBounds_toArray,List.set_cons_zero,List.set_cons_succ];have ne57:w.heap.size≠bq55:=by have:=c44.lt;omega
     have ne57':=ne57.symm;have ne58:w.heap.size+1≠bq55:=by have:=c45.lt;omega
     have ne58':=ne58.symm;have ne59:w.heap.size+2≠bq55:=by have:=c46.lt;omega
     have ne59':=ne59.symm;have ne60:bq30≠bq55:=by have:=c47.lt;omega
     have ne60':=ne60.symm;have ne61:bq31≠bq55:=by have:=c48.lt;omega
     have ne61':=ne61.symm;have wbq55:=Nat.le_trans hB49.size lbq55;clear hBV_50 dc48 vc48 dc47 vc47 dc46 vc46 dc45 vc45 dc44 vc44 hV_50 V_50;have c62:=c44.up hbn_50;have c63:=c45.up hbn_50;have c64:=c46.up hbn_50;have c65:=c47.up hbn_50;have c66:=c48.up hbn_50;have hB67:Below w.heap.size w wn_50:=bel_up hB49 hbn_50;clear c44 c45 c46 c47 c48;have uc62:=c62;have uc63:=c63;have uc64:=c64;have uc65:=c65;have uc66:=c66;have uc56:=c56;simp only [At,Own,Nat.reduceAdd,and_true] at uc62 uc63 uc64 uc65 uc66 uc56;have K68:=Lib.hid (fun W=>HZ.out▸pdiv_any s r W hs HR.out (by omega) (by omega));go_wp2_with (fail)
     refine calls_named ?_;intro W4 hW4;have hL4:Below wn_50.heap.size wn_50 W4:=by rw [hW4];exact bB
     have c69:=c62.up hL4;have c70:=c63.up hL4;have c71:=c64.up hL4;have c72:=c65.up hL4;have c73:=c66.up hL4;have c74:=c56.up hL4;have hB75:Below w.heap.size w W4:=by rw [hW4];exact bB
     clear hW4 hL4 uc62 uc63 uc64 uc65 uc66 uc56 c62 c63 c64 c65 c66 c56;with_reducible refine (K68.out _).mono ?_
     rintro e w4 ⟨rfl,hb4⟩;have c76:=c69.up hb4;have c77:=c70.up hb4;have c78:=c71.up hb4;have c79:=c72.up hb4;have c80:=c73.up hb4;have c81:=c74.up hb4;have hB82:Below w.heap.size w w4:=bel_up hB75 hb4;clear c69 c70 c71 c72 c73 c74;have ne83_:w.heap.size<w4.heap.size:=by have:=c76.lt;omega
     have ne83:=Nat.ne_of_lt ne83_;have ne83':=ne83.symm;have ne84_:w.heap.size+1<w4.heap.size:=by have:=c77.lt;omega
     have ne84:=Nat.ne_of_lt ne84_;have ne84':=ne84.symm;have ne85_:w.heap.size+2<w4.heap.size:=by have:=c78.lt;omega
     have ne85:=Nat.ne_of_lt ne85_;have ne85':=ne85.symm;have ne86_:bq30<w4.heap.size:=by have:=c79.lt;omega
     have ne86:=Nat.ne_of_lt ne86_;have ne86':=ne86.symm;have ne87_:bq31<w4.heap.size:=by have:=c80.lt;omega
     have ne87:=Nat.ne_of_lt ne87_;have ne87':=ne87.symm;have ne88_:bq55<w4.heap.size:=by have:=c81.lt;omega
     have ne88:=Nat.ne_of_lt ne88_;have ne88':=ne88.symm;have uc76:=c76;have uc77:=c77;have uc78:=c78;have uc79:=c79;have uc80:=c80;have uc81:=c81;simp only [At,Own,Nat.reduceAdd,and_true] at uc76 uc77 uc78 uc79 uc80 uc81
     as_aux_lemma =>
      go_upto_region 6 with fail
      refine wp_named ?_;intro W5 hW5;have hL5:Below w4.heap.size w4 W5:=by rw [hW5];exact bB
      have c89:=c76.up hL5;have c90:=c77.up hL5;have c91:=c78.up hL5;have c92:=c79.up hL5;have c93:=c80.up hL5;have c94:=c81.up hL5
      have c95:Own W5 w4.heap.size 0 [.bool (ng z.1.num),.string (mg z.1.num.natAbs),.bool false,.string (mg (dn z.1)),.bool (ng z.2.num),.string (mg z.2.num.natAbs),.bool false,.string (mg (dn z.2))]:=by
       rw [hW5]
       first
       | (repeat (first|(with_reducible refine own_new (l:=[.bool (ng z.1.num),.string (mg z.1.num.natAbs),.bool false,.string (mg (dn z.1)),.bool (ng z.2.num),.string (mg z.2.num.natAbs),.bool false,.string (mg (dn z.2))]) ?_;(simp;done))|with_reducible refine Own.alloc ?_ _|refine Own.far _ _ (by first|(simp;done)|(simp [*];done)|(simp;omega)) ?_));done
       | simp [Own,go_sem,uc76,uc77,uc78,uc79,uc80,uc81,ne83,ne83',ne83_,ne84,ne84',ne84_,ne85,ne85',ne85_,ne86,ne86',ne86_,ne87,ne87',ne87_,ne88,ne88',ne88_,nbq30,nbq30',ne34,ne34',ne35,ne35',ne36,ne36',ne37,ne37',ne38,ne38',ne39,ne39',ne57,ne57',ne58,ne58',ne59,ne59',ne60,ne60',ne61,ne61']
      have hB96:Below w.heap.size w W5:=by rw [hW5];exact bB
      clear hW5 hL5 uc76 uc77 uc78 uc79 uc80 uc81 c76 c77 c78 c79 c80 c81;clear c89;clear c90;clear c92;clear c93;clear c94;go_step;refine cross_last (B4:=w.heap.size+2) (B9:=w4.heap.size) z ?g1 ?g2 ?g3 ?g4 ?g5 ?e1 ?e2 ?e3 ?e4 ?e5 ?p1 ?p2 ?p3 ?p4 ?p5 ?h4 ?h9 ?hz c95 c91 rfl ?hh
      case g1=>rfl
      case g2=>rfl
      case g3=>rfl
      case g4=>rfl
      case g5=>rfl
      case e1=>rfl
      case e2=>rfl
      case e3=>rfl
      case e4=>rfl
      case e5=>rfl
      case p1=>rfl
      case p2=>rfl
      case p3=>rfl
      case p4=>rfl
      case p5=>rfl
      case h4=>rfl
      case h9=>rfl
      case hz=>exact Nat.le_of_ble_eq_true rfl
      case hh =>
       intro af_ hp_ hd_;obtain ⟨WG,hWG⟩:∃ W_,W_=World.setCells W5 (w.heap.size+2) 0 [.int .i64 2,.bool (ng z.1.num),.string (mg z.1.num.natAbs),.bool false,.string (mg (dn z.1)),.bool (ng z.2.num),.string (mg z.2.num.natAbs),.bool false,.string (mg (dn z.2)),.bool (ng z.1.num),.string (mg z.1.num.natAbs),.bool false,.string (mg (dn z.1)),.bool (ng z.2.num),.string (mg z.2.num.natAbs),.bool false,.string (mg (dn z.2))]:=⟨_,rfl⟩
       rw [← hWG];have uo_:Own WG (w.heap.size+2) 0 [.int .i64 2,.bool (ng z.1.num),.string (mg z.1.num.natAbs),.bool false,.string (mg (dn z.1)),.bool (ng z.2.num),.string (mg z.2.num.natAbs),.bool false,.string (mg (dn z.2)),.bool (ng z.1.num),.string (mg z.1.num.natAbs),.bool false,.string (mg (dn z.1)),.bool (ng z.2.num),.string (mg z.2.num.natAbs),.bool false,.string (mg (dn z.2))]:=by rw [hWG];exact c91.set rfl
       have hBG:Below w.heap.size w WG:=by rw [hWG];exact Below.sets (by first|exact Nat.le_refl _|omega) _ _ _ hB96
       clear hWG;go_wp2_with fail;refine bodyPost_ret (results_cell1 Tryz.results156 _ _ (by simpa [Act.eval] using hp_) uo_ Tryz.underlying124 rfl (by kernel_rfl)) (hd_.trans rfl) ⟨(by unfold crsM;rw [HCB.out,if_pos (by rw [Hhc13.out,Hhc22.out]<;>rfl),HZM.out]<;>rfl),hBG⟩
   ·skip
    as_aux_lemma =>
     have hc22_d:decide (((o8*o11):Int)<0)=false:=decide_eq_false hc22;have hc22_:((0:Int)≤(o8*o11)):=by omega
     have hc22_e:decide ((0:Int)≤(o8*o11))=true:=decide_eq_true hc22_;go_upto_region 2 with fail
     clear wa1 wa2 wb1 wb2;have Hhc13:=Lib.hid hc13_d;clear hc13_ hc13_d hc13_e hc13;have Hhc22:=Lib.hid hc22_d;clear hc22_ hc22_d hc22_e hc22;go_wp2_with (first|(with_reducible refine st_head ?_;refine Hid.out ?_))
     refine Lib.hid ?_;refine wpList_store_cells (cs:=[.int .i64 0,.bool false,.string ⟨#[]⟩,.bool false,.string ⟨#[]⟩,.bool false,.string ⟨#[]⟩,.bool false,.string ⟨#[]⟩,.bool false,.string ⟨#[]⟩,.bool false,.string ⟨#[]⟩,.bool false,.string ⟨#[]⟩,.bool false,.string ⟨#[]⟩]) ?hg ?hd 124 (.tmp 4) (.tmp 44) ?ho ?hx ?hy c20 ?hl ?hi ?h1 ?h
     case hg=>rfl
     case hd=>rfl
     case ho=>rfl
     case hx=>rfl
     case hy=>rfl
     case hl=>rfl
     case hi=>kernel_rfl
     case h1=>simp [Value.oneCell']
     obtain ⟨WG,hWG⟩:∃ W_,W_=World.setCells w1 (w.heap.size+2) 0 [.int .i64 0,.bool false,.string ⟨#[]⟩,.bool false,.string ⟨#[]⟩,.bool false,.string ⟨#[]⟩,.bool false,.string ⟨#[]⟩,.bool false,.string ⟨#[]⟩,.bool false,.string ⟨#[]⟩,.bool false,.string ⟨#[]⟩,.bool false,.string ⟨#[]⟩]:=⟨_,rfl⟩
     rw [← hWG];have uo_:Own WG (w.heap.size+2) 0 [.int .i64 0,.bool false,.string ⟨#[]⟩,.bool false,.string ⟨#[]⟩,.bool false,.string ⟨#[]⟩,.bool false,.string ⟨#[]⟩,.bool false,.string ⟨#[]⟩,.bool false,.string ⟨#[]⟩,.bool false,.string ⟨#[]⟩,.bool false,.string ⟨#[]⟩]:=by rw [hWG];exact c20.set rfl
     have hBG:Below w.heap.size w WG:=by rw [hWG];exact Below.sets (by first|exact Nat.le_refl _|omega) _ _ _ hB21
     clear hWG;refine act_out 4 (.pointer (some ⟨w.heap.size+2,0,none⟩)) ?ga ?gd ?gh
     case ga=>rfl
     case gd=>rfl
     case gh =>
      intro af_ hp_ hd_;go_wp2_with fail;refine bodyPost_ret (results_cell1 Tryz.results156 _ _ hp_ uo_ Tryz.underlying124 rfl (by kernel_rfl)) hd_ ⟨(by unfold crsM;rw [HCB.out,if_neg (by rw [Hhc22.out];simp)]<;>rfl),hBG⟩
 ·skip
  as_aux_lemma =>
   have hc13_d:decide (((o2*o5):Int)<0)=false:=decide_eq_false hc13;have hc13_:((0:Int)≤(o2*o5)):=by omega
   have hc13_e:decide ((0:Int)≤(o2*o5))=true:=decide_eq_true hc13_;go_wp2_with fail;refine wp_named ?_;intro W6 hW6;have hL6:Below w.heap.size w W6:=by rw [hW6];exact bB
   have c97:Own W6 w.heap.size 0 [.bool (ng s.1.1.num),.string (mg s.1.1.num.natAbs),.bool false,.string (mg (dn s.1.1)),.bool (ng s.1.2.num),.string (mg s.1.2.num.natAbs),.bool false,.string (mg (dn s.1.2)),.bool (ng s.2.1.num),.string (mg s.2.1.num.natAbs),.bool false,.string (mg (dn s.2.1)),.bool (ng s.2.2.num),.string (mg s.2.2.num.natAbs),.bool false,.string (mg (dn s.2.2))]:=by
    rw [hW6]
    first
    | (repeat (first|(with_reducible refine own_new (l:=[.bool (ng s.1.1.num),.string (mg s.1.1.num.natAbs),.bool false,.string (mg (dn s.1.1)),.bool (ng s.1.2.num),.string (mg s.1.2.num.natAbs),.bool false,.string (mg (dn s.1.2)),.bool (ng s.2.1.num),.string (mg s.2.1.num.natAbs),.bool false,.string (mg (dn s.2.1)),.bool (ng s.2.2.num),.string (mg s.2.2.num.natAbs),.bool false,.string (mg (dn s.2.2))]) ?_;(simp;done))|with_reducible refine Own.alloc ?_ _|refine Own.far _ _ (by first|(simp;done)|(simp [*];done)|(simp;omega)) ?_));done
    | simp [Own,go_sem]
   have c98:Own W6 (w.heap.size+1) 0 [.bool (ng t.1.1.num),.string (mg t.1.1.num.natAbs),.bool false,.string (mg (dn t.1.1)),.bool (ng t.1.2.num),.string (mg t.1.2.num.natAbs),.bool false,.string (mg (dn t.1.2)),.bool (ng t.2.1.num),.string (mg t.2.1.num.natAbs),.bool false,.string (mg (dn t.2.1)),.bool (ng t.2.2.num),.string (mg t.2.2.num.natAbs),.bool false,.string (mg (dn t.2.2))]:=by
    rw [hW6]
    first
    | (repeat (first|(with_reducible refine own_new (l:=[.bool (ng t.1.1.num),.string (mg t.1.1.num.natAbs),.bool false,.string (mg (dn t.1.1)),.bool (ng t.1.2.num),.string (mg t.1.2.num.natAbs),.bool false,.string (mg (dn t.1.2)),.bool (ng t.2.1.num),.string (mg t.2.1.num.natAbs),.bool false,.string (mg (dn t.2.1)),.bool (ng t.2.2.num),.string (mg t.2.2.num.natAbs),.bool false,.string (mg (dn t.2.2))]) ?_;(simp;done))|with_reducible refine Own.alloc ?_ _|refine Own.far _ _ (by first|(simp;done)|(simp [*];done)|(simp;omega)) ?_));done
    | simp [Own,go_sem]
   have c99:Own W6 (w.heap.size+2) 0 [.int .i64 0,.bool false,.string ⟨#[]⟩,.bool false,.string ⟨#[]⟩,.bool false,.string ⟨#[]⟩,.bool false,.string ⟨#[]⟩,.bool false,.string ⟨#[]⟩,.bool false,.string ⟨#[]⟩,.bool false,.string ⟨#[]⟩,.bool false,.string ⟨#[]⟩]:=by
    rw [hW6]
    first
    | (repeat (first|(with_reducible refine own_new (l:=[.int .i64 0,.bool false,.string ⟨#[]⟩,.bool false,.string ⟨#[]⟩,.bool false,.string ⟨#[]⟩,.bool false,.string ⟨#[]⟩,.bool false,.string ⟨#[]⟩,.bool false,.string ⟨#[]⟩,.bool false,.string ⟨#[]⟩,.bool false,.string ⟨#[]⟩]) ?_;(simp;done))|with_reducible refine Own.alloc ?_ _|refine Own.far _ _ (by first|(simp;done)|(simp [*];done)|(simp;omega)) ?_));done
    | simp [Own,go_sem]
   have hB100:Below w.heap.size w W6:=by rw [hW6];exact bB
   clear hW6 hL6;have dc97:=fun p:Bel W6=>c97.bel p;have dc98:=fun p:Bel W6=>c98.bel p;have dc99:=fun p:Bel W6=>c99.bel p
   simp only [At,Own,Nat.reduceAdd,and_true] at dc97 dc98 dc99;refine wp_region_all (by kernel_rfl) (by kernel_rfl) ?_;repeat (go_big_quiet_step (first|(go_at_call 77;with_reducible exact Calls.bel (K1.out _))|(go_at_call 77;with_reducible exact Calls.bel (K4.out _))))
   refine wpQuiet_nil ?_;intro w6 hb6;have c101:=c97.up hb6;have c102:=c98.up hb6;have c103:=c99.up hb6;have hB104:Below w.heap.size w w6:=bel_up hB100 hb6;clear dc97 dc98 dc99 c97 c98 c99;have uc101:=c101;have uc102:=c102;have uc103:=c103;simp only [At,Own,Nat.reduceAdd,and_true] at uc101 uc102 uc103;go_upto_region 2 with fail
   clear wa1 wa2 wb1 wb2;have Hhc13:=Lib.hid hc13_d;clear hc13_ hc13_d hc13_e hc13;go_wp2_with (first|(with_reducible refine st_head ?_;refine Hid.out ?_))
   refine Lib.hid ?_;refine wpList_store_cells (cs:=[.int .i64 0,.bool false,.string ⟨#[]⟩,.bool false,.string ⟨#[]⟩,.bool false,.string ⟨#[]⟩,.bool false,.string ⟨#[]⟩,.bool false,.string ⟨#[]⟩,.bool false,.string ⟨#[]⟩,.bool false,.string ⟨#[]⟩,.bool false,.string ⟨#[]⟩]) ?hg ?hd 124 (.tmp 4) (.tmp 44) ?ho ?hx ?hy c103 ?hl ?hi ?h1 ?h
   case hg=>rfl
   case hd=>rfl
   case ho=>rfl
   case hx=>rfl
   case hy=>rfl
   case hl=>rfl
   case hi=>kernel_rfl
   case h1=>simp [Value.oneCell']
   obtain ⟨WG,hWG⟩:∃ W_,W_=World.setCells w6 (w.heap.size+2) 0 [.int .i64 0,.bool false,.string ⟨#[]⟩,.bool false,.string ⟨#[]⟩,.bool false,.string ⟨#[]⟩,.bool false,.string ⟨#[]⟩,.bool false,.string ⟨#[]⟩,.bool false,.string ⟨#[]⟩,.bool false,.string ⟨#[]⟩,.bool false,.string ⟨#[]⟩]:=⟨_,rfl⟩
   rw [← hWG];have uo_:Own WG (w.heap.size+2) 0 [.int .i64 0,.bool false,.string ⟨#[]⟩,.bool false,.string ⟨#[]⟩,.bool false,.string ⟨#[]⟩,.bool false,.string ⟨#[]⟩,.bool false,.string ⟨#[]⟩,.bool false,.string ⟨#[]⟩,.bool false,.string ⟨#[]⟩,.bool false,.string ⟨#[]⟩]:=by rw [hWG];exact c103.set rfl
   have hBG:Below w.heap.size w WG:=by rw [hWG];exact Below.sets (by first|exact Nat.le_refl _|omega) _ _ _ hB104
   clear hWG;refine act_out 4 (.pointer (some ⟨w.heap.size+2,0,none⟩)) ?ga ?gd ?gh
   case ga=>rfl
   case gd=>rfl
   case gh =>
    intro af_ hp_ hd_;go_wp2_with fail;refine bodyPost_ret (results_cell1 Tryz.results156 _ _ hp_ uo_ Tryz.underlying124 rfl (by kernel_rfl)) hd_ ⟨(by unfold crsM;rw [HCB.out,if_neg (by rw [Hhc13.out];simp)]<;>rfl),hBG⟩
end Go.Proofs.YtiochgoocbkckaaGreatDoor
