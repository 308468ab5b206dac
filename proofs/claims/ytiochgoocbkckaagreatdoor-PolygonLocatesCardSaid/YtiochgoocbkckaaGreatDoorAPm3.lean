/-
 Contracts for the plane: what two segments have in common.
-/
import Derived.Test.YtiochgoocbkckaaGreatDoorAPm2
import Derived.Test.YtiochgoocbkckaaGreatDoorARst
import Derived.Test.YtiochgoocbkckaaGreatDoorARegC
set_option maxRecDepth 100000
set_option linter.unusedSimpArgs false
set_option linter.unusedVariables false
namespace Go.Proofs.YtiochgoocbkckaaGreatDoor
open Go Go.RowKit

theorem meet_zero {s t:(Rat×Rat)×(Rat×Rat)} (h:Pg.endsM s t=[]):meetM s t=crsM s t:=by unfold meetM;rw [h]
theorem meet_one {s t:(Rat×Rat)×(Rat×Rat)} {a:Rat×Rat} (h:Pg.endsM s t=[a]):meetM s t=(1,(a,a)):=by unfold meetM;rw [h]
theorem meet_two {s t:(Rat×Rat)×(Rat×Rat)} {a b:Rat×Rat} {r:List (Rat×Rat)} {c:Int} (h:Pg.endsM s t=a :: b :: r) (hc:Pl.cmpP a b=c):meetM s t=(3,if 0<c then (b,a) else (a,b)):=by unfold meetM;rw [h];simp only [hc]

theorem fld_kind (w:World) (m:Int×((Rat×Rat)×(Rat×Rat))):(Instr.field 124 (mtv m) 0).run Tryz.prog w=.ok (.int .i64 m.1) w:=by kernel_rfl
theorem qf_head {ops:Array Oper} {C:World→Prop} {Q:Act→Prop} {a:Act} {rest:List Oper} {d:Option Tmp} {ty0:TypeId} {pos:String} {af:Array Edge} {g:Option (Nat×Bool)} {ty:TypeId} {x:Operand} {i:Nat} (h:wpQuiet Tryz.prog ops C Q (⟨d,.field ty x i,ty0,pos,af,g⟩ :: rest) a):wpQuiet Tryz.prog ops C Q (⟨d,.field ty x i,ty0,pos,af,g⟩ :: rest) a:=h
theorem wpQuiet_kind {ops:Array Oper} {C:World→Prop} {Q:Act→Prop} {rest:List Oper} {op:Oper} {a:Act} (hw:Region.wanted op (yielded ops a.tmps)=true) (x:Operand) (ho:op.op=.field 124 x 0) (m:Int×((Rat×Rat)×(Rat×Rat))) (hx:a.eval x=mtv m)
 (h:wpQuiet Tryz.prog ops C Q rest (a.put op.dst (.int .i64 m.1))):wpQuiet Tryz.prog ops C Q (op :: rest) a:=by
 unfold wpQuiet;rw [if_pos hw];refine ⟨.int .i64 m.1,fun w hw' => ?_,h⟩;unfold Oper.quietAt execOp;simp only [ho,hx,fld_kind,Sem.run_bind,Sem.run_pure,Result.andThen_ok];exact ⟨rfl,rfl⟩

theorem ld_head {P:Program} {ops:Array Oper} {Q:Exit→Act→World→Prop} {a:Act} {w:World} {rest:List Oper} {d:Option Tmp} {ty0:TypeId} {pos:String} {af:Array Edge} {g:Option (Nat×Bool)} {ty:TypeId} {x:Operand} (h:wpList P ops Q (⟨d,.load ty x,ty0,pos,af,g⟩ :: rest) a w):wpList P ops Q (⟨d,.load ty x,ty0,pos,af,g⟩ :: rest) a w:=h

theorem qb_head {ops:Array Oper} {C:World→Prop} {Q:Act→Prop} {a:Act} {rest:List Oper} {d:Option Tmp} {ty0:TypeId} {pos:String} {af:Array Edge} {g:Option (Nat×Bool)} {ty:TypeId} {x:Array (Nat×Operand)} (h:wpQuiet Tryz.prog ops C Q (⟨d,.build ty x,ty0,pos,af,g⟩ :: rest) a):wpQuiet Tryz.prog ops C Q (⟨d,.build ty x,ty0,pos,af,g⟩ :: rest) a:=h
theorem wpQuiet_build2 {ops:Array Oper} {C:World→Prop} {Q:Act→Prop} {rest:List Oper} {op:Oper} {a:Act} (hw:Region.wanted op (yielded ops a.tmps)=true) (T:TypeId) (i j:Nat) (x y:Operand) (ho:op.op=.build T #[(i,x),(j,y)]) (u v:Value) (cs:Array Value)
 (hx:a.eval x=u) (hy:a.eval y=v) (hb:Tryz.prog.built T [(i,u),(j,v)]=some cs) (h:wpQuiet Tryz.prog ops C Q rest (a.put op.dst (.agg cs))):wpQuiet Tryz.prog ops C Q (op :: rest) a:=by
 unfold wpQuiet;rw [if_pos hw];refine ⟨.agg cs,fun w hw' => ?_,h⟩;unfold Oper.quietAt execOp;simp only [ho,List.map_toArray,List.map_cons,List.map_nil,hx,hy,run_build w T #[(i,u),(j,v)] cs hb,Sem.run_bind,Result.andThen_ok,Sem.run_pure];exact ⟨rfl,rfl⟩

theorem built_seg (a b:Rat×Rat):Tryz.prog.built 73 [(0,.agg #[.bool (ng a.1.num),.string (mg a.1.num.natAbs),.bool false,.string (mg (dn a.1)),.bool (ng a.2.num),.string (mg a.2.num.natAbs),.bool false,.string (mg (dn a.2))]),(1,.agg #[.bool (ng b.1.num),.string (mg b.1.num.natAbs),.bool false,.string (mg (dn b.1)),.bool (ng b.2.num),.string (mg b.2.num.natAbs),.bool false,.string (mg (dn b.2))])]=some #[.bool (ng a.1.num),.string (mg a.1.num.natAbs),.bool false,.string (mg (dn a.1)),.bool (ng a.2.num),.string (mg a.2.num.natAbs),.bool false,.string (mg (dn a.2)),.bool (ng b.1.num),.string (mg b.1.num.natAbs),.bool false,.string (mg (dn b.1)),.bool (ng b.2.num),.string (mg b.2.num.natAbs),.bool false,.string (mg (dn b.2))]:=by kernel_rfl
theorem built_mt (k:Int) (a b:Rat×Rat):Tryz.prog.built 124 [(0,.int .i64 k),(1,.agg #[.bool (ng a.1.num),.string (mg a.1.num.natAbs),.bool false,.string (mg (dn a.1)),.bool (ng a.2.num),.string (mg a.2.num.natAbs),.bool false,.string (mg (dn a.2)),.bool (ng b.1.num),.string (mg b.1.num.natAbs),.bool false,.string (mg (dn b.1)),.bool (ng b.2.num),.string (mg b.2.num.natAbs),.bool false,.string (mg (dn b.2))])]=some #[.int .i64 k,.bool (ng a.1.num),.string (mg a.1.num.natAbs),.bool false,.string (mg (dn a.1)),.bool (ng a.2.num),.string (mg a.2.num.natAbs),.bool false,.string (mg (dn a.2)),.bool (ng b.1.num),.string (mg b.1.num.natAbs),.bool false,.string (mg (dn b.1)),.bool (ng b.2.num),.string (mg b.2.num.natAbs),.bool false,.string (mg (dn b.2))]:=by kernel_rfl
theorem info_mt:(Tryz.prog.info? 124).map (·.size)=some 17:=by kernel_rfl
theorem info_pt:(Tryz.prog.info? 45).map (·.size)=some 8:=by kernel_rfl

theorem one_pt (a:Rat×Rat):((#[.bool (ng a.1.num),.string (mg a.1.num.natAbs),.bool false,.string (mg (dn a.1)),.bool (ng a.2.num),.string (mg a.2.num.natAbs),.bool false,.string (mg (dn a.2))]:Array Value).all (·.oneCell'))=true:=by simp [Value.oneCell']
theorem own_dr {w:World} {b:Nat} : ∀ {l:List Value} {i:Nat},Own w b i l→Own { w with drawn:=w.drawn+1 } b i l
 | [],_,_=>trivial
 | _ :: _,_,h=>⟨h.1,own_dr h.2⟩
theorem load_sl (w:World) (k:Nat) (q:Option Addr) (n c:Nat) (h:w.cell? ⟨k,0,none⟩=some (.slice q n c)):(Instr.loadAt 23 (.pointer (some ⟨k,0,none⟩))).run Tryz.prog w=.ok (.slice q n c) w:=by
 simp [Instr.loadAt,Instr.sureAddr,h,Tryz.underlying23,go_sem]
theorem ix_sl (w:World) (g n c:Nat) (i:Nat) (h:i<n):(Instr.indexAt 23 (.slice (some ⟨g,0,none⟩) n c) (.int .i64 i)).run Tryz.prog w=.ok (.pointer (some ⟨g,i*8,none⟩)) w:=by
 have e0:(0:Int)≤(i:Int):=by omega
 have e1:(i:Int)<(n:Int):=by omega
 simp [e0,e1,h,Tryz.underlying23,go_sem,Addr.add_mid]
theorem row_range {w:World} {base n g cap k:Nat} {l:List (Rat×Rat)} {x:Rat×Rat} (h:w.ownsRow base 45 8 (.slice (some ⟨g,0,none⟩) n cap) n (pts l)) (hx:l[k]?=some x) :
 w.rangeAt g (k*8) #[.bool (ng x.1.num),.string (mg x.1.num.natAbs),.bool false,.string (mg (dn x.1)),.bool (ng x.2.num),.string (mg x.2.num.natAbs),.bool false,.string (mg (dn x.2))].toList:=fun j v hv=>by
 have c:=LX.at_ (owns_viewP h) hx;simp only [CE,Nat.zero_add] at c;obtain ⟨h0,h1,h2,h3,h4,h5,h6,h7⟩:=c
 match j with
 | 0=>simpa [← (Option.some.inj hv)] using h0
 | 1=>simpa [← (Option.some.inj hv)] using h1
 | 2=>simpa [← (Option.some.inj hv)] using h2
 | 3=>simpa [← (Option.some.inj hv)] using h3
 | 4=>simpa [← (Option.some.inj hv)] using h4
 | 5=>simpa [← (Option.some.inj hv)] using h5
 | 6=>simpa [← (Option.some.inj hv)] using h6
 | 7=>simpa [← (Option.some.inj hv)] using h7
 | n+8=>simp at hv

set_option maxHeartbeats 20000000 in
theorem meet_any {S:Nat} (s t:(Rat×Rat)×(Rat×Rat)) (w:World) (hs:Pl.SzS S s) (ht:Pl.SzS S t) (hS:S≤2000) :
 Calls Tryz.prog 115 #[sv s,sv t] w fun e w'=>e=.returned (mtv (meetM s t))∧Below w.heap.size w w':=by
 go_enter Tryz.func115,Tryz.ntmps115;go_upto_region 3 with fail
 refine wp_named ?_;intro W1 hW1;have hL1:Below w.heap.size w W1:=by rw [hW1];exact bB
 have c1:Own W1 w.heap.size 0 [.bool (ng s.1.1.num),.string (mg s.1.1.num.natAbs),.bool false,.string (mg (dn s.1.1)),.bool (ng s.1.2.num),.string (mg s.1.2.num.natAbs),.bool false,.string (mg (dn s.1.2)),.bool (ng s.2.1.num),.string (mg s.2.1.num.natAbs),.bool false,.string (mg (dn s.2.1)),.bool (ng s.2.2.num),.string (mg s.2.2.num.natAbs),.bool false,.string (mg (dn s.2.2))]:=by
  rw [hW1]
  first
  | (repeat (first|(with_reducible refine own_new (l:=[.bool (ng s.1.1.num),.string (mg s.1.1.num.natAbs),.bool false,.string (mg (dn s.1.1)),.bool (ng s.1.2.num),.string (mg s.1.2.num.natAbs),.bool false,.string (mg (dn s.1.2)),.bool (ng s.2.1.num),.string (mg s.2.1.num.natAbs),.bool false,.string (mg (dn s.2.1)),.bool (ng s.2.2.num),.string (mg s.2.2.num.natAbs),.bool false,.string (mg (dn s.2.2))]) ?_;(simp;done))|with_reducible refine Own.alloc ?_ _|refine Own.far _ _ (by first|(simp;done)|(simp [*];done)|(simp;omega)) ?_));done
  | simp [Own,go_sem]
 have c2:Own W1 (w.heap.size+1) 0 [.bool (ng t.1.1.num),.string (mg t.1.1.num.natAbs),.bool false,.string (mg (dn t.1.1)),.bool (ng t.1.2.num),.string (mg t.1.2.num.natAbs),.bool false,.string (mg (dn t.1.2)),.bool (ng t.2.1.num),.string (mg t.2.1.num.natAbs),.bool false,.string (mg (dn t.2.1)),.bool (ng t.2.2.num),.string (mg t.2.2.num.natAbs),.bool false,.string (mg (dn t.2.2))]:=by
  rw [hW1]
  first
  | (repeat (first|(with_reducible refine own_new (l:=[.bool (ng t.1.1.num),.string (mg t.1.1.num.natAbs),.bool false,.string (mg (dn t.1.1)),.bool (ng t.1.2.num),.string (mg t.1.2.num.natAbs),.bool false,.string (mg (dn t.1.2)),.bool (ng t.2.1.num),.string (mg t.2.1.num.natAbs),.bool false,.string (mg (dn t.2.1)),.bool (ng t.2.2.num),.string (mg t.2.2.num.natAbs),.bool false,.string (mg (dn t.2.2))]) ?_;(simp;done))|with_reducible refine Own.alloc ?_ _|refine Own.far _ _ (by first|(simp;done)|(simp [*];done)|(simp;omega)) ?_));done
  | simp [Own,go_sem]
 have c3:Own W1 (w.heap.size+2) 0 [.int .i64 0,.bool false,.string ⟨#[]⟩,.bool false,.string ⟨#[]⟩,.bool false,.string ⟨#[]⟩,.bool false,.string ⟨#[]⟩,.bool false,.string ⟨#[]⟩,.bool false,.string ⟨#[]⟩,.bool false,.string ⟨#[]⟩,.bool false,.string ⟨#[]⟩]:=by
  rw [hW1]
  first
  | (repeat (first|(with_reducible refine own_new (l:=[.int .i64 0,.bool false,.string ⟨#[]⟩,.bool false,.string ⟨#[]⟩,.bool false,.string ⟨#[]⟩,.bool false,.string ⟨#[]⟩,.bool false,.string ⟨#[]⟩,.bool false,.string ⟨#[]⟩,.bool false,.string ⟨#[]⟩,.bool false,.string ⟨#[]⟩]) ?_;(simp;done))|with_reducible refine Own.alloc ?_ _|refine Own.far _ _ (by first|(simp;done)|(simp [*];done)|(simp;omega)) ?_));done
  | simp [Own,go_sem]
 have c4:Own W1 (w.heap.size+3) 0 [.slice none 0 0]:=by
  rw [hW1]
  first
  | (repeat (first|(with_reducible refine own_new (l:=[.slice none 0 0]) ?_;(simp;done))|with_reducible refine Own.alloc ?_ _|refine Own.far _ _ (by first|(simp;done)|(simp [*];done)|(simp;omega)) ?_));done
  | simp [Own,go_sem]
 have hB5:Below w.heap.size w W1:=by rw [hW1];exact bB
 clear hW1 hL1;have uc1:=c1;have uc2:=c2;have uc3:=c3;have uc4:=c4;simp only [At,Own,Nat.reduceAdd,and_true] at uc1 uc2 uc3 uc4;obtain ⟨L1,hL1⟩:∃ z,Pg.addE [] s.1 t=z:=⟨_,rfl⟩
 have HL1:=Lib.hid hL1;have hLl1:L1.length≤1:=by rw [← hL1];exact Nat.le_trans (addE_le _ _ _) (by decide)
 have HLz1:Hid (∀ q∈L1,Pl.SzP 100000 q):=Lib.hid (by rw [← hL1];exact addE_sz (by simp) (hs.1.mono (by omega)));clear hL1;go_wp2_with (first|(with_reducible refine ld_head ?_;refine wpList_load_mid ?lg 73 (.tmp 2) ?lo w.heap.size 0 ?lx [.bool (ng s.1.1.num),.string (mg s.1.1.num.natAbs),.bool false,.string (mg (dn s.1.1)),.bool (ng s.1.2.num),.string (mg s.1.2.num.natAbs),.bool false,.string (mg (dn s.1.2)),.bool (ng s.2.1.num),.string (mg s.2.1.num.natAbs),.bool false,.string (mg (dn s.2.1)),.bool (ng s.2.2.num),.string (mg s.2.2.num.natAbs),.bool false,.string (mg (dn s.2.2))] _ (own_range c1) Tryz.underlying73 rfl (by kernel_rfl) ?_;case lg=>rfl;case lo=>rfl;case lx=>rfl;simp only [Act.put,List.setIfInBounds_toArray,List.set_cons_zero,List.set_cons_succ])|(with_reducible refine ld_head ?_;refine wpList_load_mid ?lg 73 (.tmp 3) ?lo (w.heap.size+1) 0 ?lx [.bool (ng t.1.1.num),.string (mg t.1.1.num.natAbs),.bool false,.string (mg (dn t.1.1)),.bool (ng t.1.2.num),.string (mg t.1.2.num.natAbs),.bool false,.string (mg (dn t.1.2)),.bool (ng t.2.1.num),.string (mg t.2.1.num.natAbs),.bool false,.string (mg (dn t.2.1)),.bool (ng t.2.2.num),.string (mg t.2.2.num.natAbs),.bool false,.string (mg (dn t.2.2))] _ (own_range c2) Tryz.underlying73 rfl (by kernel_rfl) ?_;case lg=>rfl;case lo=>rfl;case lx=>rfl;simp only [Act.put,List.setIfInBounds_toArray,List.set_cons_zero,List.set_cons_succ]))
 refine calls_named ?_;intro W2 hW2;have hL2:Below W1.heap.size W1 W2:=by rw [hW2];exact bB
 have c6:=c1.up hL2;have c7:=c2.up hL2;have c8:=c3.up hL2;have c9:=c4.up hL2;have hB10:Below w.heap.size w W2:=by rw [hW2];exact bB
 clear hW2 hL2 uc1 uc2 uc3 uc4 c1 c2 c3 c4;have hlt1:=c9.lt;have KM1:=meetAdd_any (k:=S) (j:=S) s.1 t _ w.heap.size (.slice none 0 0) [] _ hs.1 ht (by omega) (by omega) c9 (World.ownsRow_nil _ _ _ _) (by simp [Value.ownBlock]) (hB10).size (by simp) (by simp);rw [HL1.out] at KM1;with_reducible refine KM1.mono ?_
 rintro e wm1 ⟨rfl,v1,hb1,ho1,hf1,hst1⟩;have c11:=StB.own hst1 c6.lt (by first|(simp;done)|(simp;omega)|omega) (by simp [Value.ownBlock]) c6;have c12:=StB.own hst1 c7.lt (by first|(simp;done)|(simp;omega)|omega) (by simp [Value.ownBlock]) c7;have c13:=StB.own hst1 c8.lt (by first|(simp;done)|(simp;omega)|omega) (by simp [Value.ownBlock]) c8;have hB14:Below w.heap.size w wm1:=StB.below hst1 hB10 (hB10).size (by first|exact Nat.le_refl _|omega) (fun r_ h_=>by simp [Value.ownBlock] at h_);have HO1:=Lib.hid ho1;have f15:v1.ownBlock≠some w.heap.size:=hst1.far _ c6.lt (by simp [Value.ownBlock]);have f16:v1.ownBlock≠some (w.heap.size+1):=hst1.far _ c7.lt (by simp [Value.ownBlock]);have f17:v1.ownBlock≠some (w.heap.size+2):=hst1.far _ c8.lt (by simp [Value.ownBlock]);clear c6 c7 c8 c9 hB10 ho1 hst1 hlt1
 as_aux_lemma =>
  have uc11:=c11;have uc12:=c12;have uc13:=c13;have uhb1:=hb1;simp only [At,Own,Nat.reduceAdd,and_true] at uc11 uc12 uc13 uhb1;obtain ⟨L2,hL2⟩:∃ z,Pg.addE L1 s.2 t=z:=⟨_,rfl⟩
  have HL2:=Lib.hid hL2;have hLl2:L2.length≤2:=by rw [← hL2];exact Nat.le_trans (addE_le _ _ _) (by omega)
  have HLz2:Hid (∀ q∈L2,Pl.SzP 100000 q):=Lib.hid (by rw [← hL2];exact addE_sz HLz1.out (hs.2.mono (by omega)));clear hL2;go_wp2_with (first|(with_reducible refine ld_head ?_;refine wpList_load_mid ?lg 73 (.tmp 2) ?lo w.heap.size 0 ?lx [.bool (ng s.1.1.num),.string (mg s.1.1.num.natAbs),.bool false,.string (mg (dn s.1.1)),.bool (ng s.1.2.num),.string (mg s.1.2.num.natAbs),.bool false,.string (mg (dn s.1.2)),.bool (ng s.2.1.num),.string (mg s.2.1.num.natAbs),.bool false,.string (mg (dn s.2.1)),.bool (ng s.2.2.num),.string (mg s.2.2.num.natAbs),.bool false,.string (mg (dn s.2.2))] _ (own_range c11) Tryz.underlying73 rfl (by kernel_rfl) ?_;case lg=>rfl;case lo=>rfl;case lx=>rfl;simp only [Act.put,List.setIfInBounds_toArray,List.set_cons_zero,List.set_cons_succ])|(with_reducible refine ld_head ?_;refine wpList_load_mid ?lg 73 (.tmp 3) ?lo (w.heap.size+1) 0 ?lx [.bool (ng t.1.1.num),.string (mg t.1.1.num.natAbs),.bool false,.string (mg (dn t.1.1)),.bool (ng t.1.2.num),.string (mg t.1.2.num.natAbs),.bool false,.string (mg (dn t.1.2)),.bool (ng t.2.1.num),.string (mg t.2.1.num.natAbs),.bool false,.string (mg (dn t.2.1)),.bool (ng t.2.2.num),.string (mg t.2.2.num.natAbs),.bool false,.string (mg (dn t.2.2))] _ (own_range c12) Tryz.underlying73 rfl (by kernel_rfl) ?_;case lg=>rfl;case lo=>rfl;case lx=>rfl;simp only [Act.put,List.setIfInBounds_toArray,List.set_cons_zero,List.set_cons_succ]))
  refine calls_named ?_;intro W3 hW3;have hL3:Below wm1.heap.size wm1 W3:=by rw [hW3];exact bB
  have c18:=c11.up hL3;have c19:=c12.up hL3;have c20:=c13.up hL3;have c21:=hb1.up hL3;have O22:=Lib.hid (owns_up HO1.out hL3);have hB23:Below w.heap.size w W3:=by rw [hW3];exact bB
  clear hW3 hL3 uc11 uc12 uc13 uhb1 c11 c12 c13 hb1;have hlt2:=c21.lt;have KM2:=meetAdd_any (k:=S) (j:=S) s.2 t _ w.heap.size v1 L1 _ hs.2 ht (by omega) (by omega) c21 O22.out hf1 (hB23).size (by omega) HLz1.out;rw [HL2.out] at KM2;with_reducible refine KM2.mono ?_
  rintro e wm2 ⟨rfl,v2,hb2,ho2,hf2,hst2⟩;have c24:=StB.own hst2 c18.lt (by first|(simp;done)|(simp;omega)|omega) f15 c18;have c25:=StB.own hst2 c19.lt (by first|(simp;done)|(simp;omega)|omega) f16 c19;have c26:=StB.own hst2 c20.lt (by first|(simp;done)|(simp;omega)|omega) f17 c20;have hB27:Below w.heap.size w wm2:=StB.below hst2 hB23 (hB23).size (by first|exact Nat.le_refl _|omega) (fun r_ h_=>(O22.out.lt r_ h_).1);have HO2:=Lib.hid ho2;have f28:v2.ownBlock≠some w.heap.size:=hst2.far _ c18.lt f15;have f29:v2.ownBlock≠some (w.heap.size+1):=hst2.far _ c19.lt f16;have f30:v2.ownBlock≠some (w.heap.size+2):=hst2.far _ c20.lt f17;clear c18 c19 c20 c21 hB23 ho2 hst2 hlt2 O22
  as_aux_lemma =>
   have uc24:=c24;have uc25:=c25;have uc26:=c26;have uhb2:=hb2;simp only [At,Own,Nat.reduceAdd,and_true] at uc24 uc25 uc26 uhb2;obtain ⟨L3,hL3⟩:∃ z,Pg.addE L2 t.1 s=z:=⟨_,rfl⟩
   have HL3:=Lib.hid hL3;have hLl3:L3.length≤3:=by rw [← hL3];exact Nat.le_trans (addE_le _ _ _) (by omega)
   have HLz3:Hid (∀ q∈L3,Pl.SzP 100000 q):=Lib.hid (by rw [← hL3];exact addE_sz HLz2.out (ht.1.mono (by omega)));clear hL3;go_wp2_with (first|(with_reducible refine ld_head ?_;refine wpList_load_mid ?lg 73 (.tmp 2) ?lo w.heap.size 0 ?lx [.bool (ng s.1.1.num),.string (mg s.1.1.num.natAbs),.bool false,.string (mg (dn s.1.1)),.bool (ng s.1.2.num),.string (mg s.1.2.num.natAbs),.bool false,.string (mg (dn s.1.2)),.bool (ng s.2.1.num),.string (mg s.2.1.num.natAbs),.bool false,.string (mg (dn s.2.1)),.bool (ng s.2.2.num),.string (mg s.2.2.num.natAbs),.bool false,.string (mg (dn s.2.2))] _ (own_range c24) Tryz.underlying73 rfl (by kernel_rfl) ?_;case lg=>rfl;case lo=>rfl;case lx=>rfl;simp only [Act.put,List.setIfInBounds_toArray,List.set_cons_zero,List.set_cons_succ])|(with_reducible refine ld_head ?_;refine wpList_load_mid ?lg 73 (.tmp 3) ?lo (w.heap.size+1) 0 ?lx [.bool (ng t.1.1.num),.string (mg t.1.1.num.natAbs),.bool false,.string (mg (dn t.1.1)),.bool (ng t.1.2.num),.string (mg t.1.2.num.natAbs),.bool false,.string (mg (dn t.1.2)),.bool (ng t.2.1.num),.string (mg t.2.1.num.natAbs),.bool false,.string (mg (dn t.2.1)),.bool (ng t.2.2.num),.string (mg t.2.2.num.natAbs),.bool false,.string (mg (dn t.2.2))] _ (own_range c25) Tryz.underlying73 rfl (by kernel_rfl) ?_;case lg=>rfl;case lo=>rfl;case lx=>rfl;simp only [Act.put,List.setIfInBounds_toArray,List.set_cons_zero,List.set_cons_succ]))
   refine calls_named ?_;intro W4 hW4;have hL4:Below wm2.heap.size wm2 W4:=by rw [hW4];exact bB
   have c31:=c24.up hL4;have c32:=c25.up hL4;have c33:=c26.up hL4;have c34:=hb2.up hL4;have O35:=Lib.hid (owns_up HO2.out hL4);have hB36:Below w.heap.size w W4:=by rw [hW4];exact bB
   clear hW4 hL4 uc24 uc25 uc26 uhb2 c24 c25 c26 hb2;have hlt3:=c34.lt;have KM3:=meetAdd_any (k:=S) (j:=S) t.1 s _ w.heap.size v2 L2 _ ht.1 hs (by omega) (by omega) c34 O35.out hf2 (hB36).size (by omega) HLz2.out;rw [HL3.out] at KM3;with_reducible refine KM3.mono ?_
   rintro e wm3 ⟨rfl,v3,hb3,ho3,hf3,hst3⟩;have c37:=StB.own hst3 c31.lt (by first|(simp;done)|(simp;omega)|omega) f28 c31;have c38:=StB.own hst3 c32.lt (by first|(simp;done)|(simp;omega)|omega) f29 c32;have c39:=StB.own hst3 c33.lt (by first|(simp;done)|(simp;omega)|omega) f30 c33;have hB40:Below w.heap.size w wm3:=StB.below hst3 hB36 (hB36).size (by first|exact Nat.le_refl _|omega) (fun r_ h_=>(O35.out.lt r_ h_).1);have HO3:=Lib.hid ho3;have f41:v3.ownBlock≠some w.heap.size:=hst3.far _ c31.lt f28;have f42:v3.ownBlock≠some (w.heap.size+1):=hst3.far _ c32.lt f29;have f43:v3.ownBlock≠some (w.heap.size+2):=hst3.far _ c33.lt f30;clear c31 c32 c33 c34 hB36 ho3 hst3 hlt3 O35
   as_aux_lemma =>
    have uc37:=c37;have uc38:=c38;have uc39:=c39;have uhb3:=hb3;simp only [At,Own,Nat.reduceAdd,and_true] at uc37 uc38 uc39 uhb3;obtain ⟨L4,hL4⟩:∃ z,Pg.addE L3 t.2 s=z:=⟨_,rfl⟩
    have HL4:=Lib.hid hL4;have hLl4:L4.length≤4:=by rw [← hL4];exact Nat.le_trans (addE_le _ _ _) (by omega)
    have HLz4:Hid (∀ q∈L4,Pl.SzP 100000 q):=Lib.hid (by rw [← hL4];exact addE_sz HLz3.out (ht.2.mono (by omega)));clear hL4;go_wp2_with (first|(with_reducible refine ld_head ?_;refine wpList_load_mid ?lg 73 (.tmp 2) ?lo w.heap.size 0 ?lx [.bool (ng s.1.1.num),.string (mg s.1.1.num.natAbs),.bool false,.string (mg (dn s.1.1)),.bool (ng s.1.2.num),.string (mg s.1.2.num.natAbs),.bool false,.string (mg (dn s.1.2)),.bool (ng s.2.1.num),.string (mg s.2.1.num.natAbs),.bool false,.string (mg (dn s.2.1)),.bool (ng s.2.2.num),.string (mg s.2.2.num.natAbs),.bool false,.string (mg (dn s.2.2))] _ (own_range c37) Tryz.underlying73 rfl (by kernel_rfl) ?_;case lg=>rfl;case lo=>rfl;case lx=>rfl;simp only [Act.put,List.setIfInBounds_toArray,List.set_cons_zero,List.set_cons_succ])|(with_reducible refine ld_head ?_;refine wpList_load_mid ?lg 73 (.tmp 3) ?lo (w.heap.size+1) 0 ?lx [.bool (ng t.1.1.num),.string (mg t.1.1.num.natAbs),.bool false,.string (mg (dn t.1.1)),.bool (ng t.1.2.num),.string (mg t.1.2.num.natAbs),.bool false,.string (mg (dn t.1.2)),.bool (ng t.2.1.num),.string (mg t.2.1.num.natAbs),.bool false,.string (mg (dn t.2.1)),.bool (ng t.2.2.num),.string (mg t.2.2.num.natAbs),.bool false,.string (mg (dn t.2.2))] _ (own_range c38) Tryz.underlying73 rfl (by kernel_rfl) ?_;case lg=>rfl;case lo=>rfl;case lx=>rfl;simp only [Act.put,List.setIfInBounds_toArray,List.set_cons_zero,List.set_cons_succ]))
    refine calls_named ?_;intro W5 hW5;have hL5:Below wm3.heap.size wm3 W5:=by rw [hW5];exact bB
    have c44:=c37.up hL5;have c45:=c38.up hL5;have c46:=c39.up hL5;have c47:=hb3.up hL5;have O48:=Lib.hid (owns_up HO3.out hL5);have hB49:Below w.heap.size w W5:=by rw [hW5];exact bB
    clear hW5 hL5 uc37 uc38 uc39 uhb3 c37 c38 c39 hb3;have hlt4:=c47.lt;have KM4:=meetAdd_any (k:=S) (j:=S) t.2 s _ w.heap.size v3 L3 _ ht.2 hs (by omega) (by omega) c47 O48.out hf3 (hB49).size (by omega) HLz3.out;rw [HL4.out] at KM4;with_reducible refine KM4.mono ?_
    rintro e wm4 ⟨rfl,v4,hb4,ho4,hf4,hst4⟩;have c50:=StB.own hst4 c44.lt (by first|(simp;done)|(simp;omega)|omega) f41 c44;have c51:=StB.own hst4 c45.lt (by first|(simp;done)|(simp;omega)|omega) f42 c45;have c52:=StB.own hst4 c46.lt (by first|(simp;done)|(simp;omega)|omega) f43 c46;have hB53:Below w.heap.size w wm4:=StB.below hst4 hB49 (hB49).size (by first|exact Nat.le_refl _|omega) (fun r_ h_=>(O48.out.lt r_ h_).1);have HO4:=Lib.hid ho4;have f54:v4.ownBlock≠some w.heap.size:=hst4.far _ c44.lt f41;have f55:v4.ownBlock≠some (w.heap.size+1):=hst4.far _ c45.lt f42;have f56:v4.ownBlock≠some (w.heap.size+2):=hst4.far _ c46.lt f43;clear c44 c45 c46 c47 hB49 ho4 hst4 hlt4 O48
    as_aux_lemma =>
     have HE:Hid (Pg.endsM s t=L4):=Lib.hid (by unfold Pg.endsM;rw [HL1.out,HL2.out,HL3.out,HL4.out]);clear KM1 KM2 KM3 KM4 HL1 HL2 HL3 HL4 HLz1 HLz2 HLz3 hLl1 hLl2 hLl3 hf1 hf2 hf3 HO1 HO2 HO3 f15 f16 f17 f28 f29 f30 f41 f42 f43;obtain ⟨-,A4,c4,hv4,-,-,-⟩:=owns_open HO4.out;subst hv4;have uc50:=c50;have uc51:=c51;have uc52:=c52;have uhb4:=hb4;simp only [At,Own,Nat.reduceAdd,and_true] at uc50 uc51 uc52 uhb4;go_upto_region 7 with fail
     go_cut [0,1,29] from 8 to 28 (fun s0_ s1_ s29_ wx=>s29_=.int .i64 (L4.length:Nat)∧Own wx w.heap.size 0 [.bool (ng s.1.1.num),.string (mg s.1.1.num.natAbs),.bool false,.string (mg (dn s.1.1)),.bool (ng s.1.2.num),.string (mg s.1.2.num.natAbs),.bool false,.string (mg (dn s.1.2)),.bool (ng s.2.1.num),.string (mg s.2.1.num.natAbs),.bool false,.string (mg (dn s.2.1)),.bool (ng s.2.2.num),.string (mg s.2.2.num.natAbs),.bool false,.string (mg (dn s.2.2))]∧Own wx (w.heap.size+1) 0 [.bool (ng t.1.1.num),.string (mg t.1.1.num.natAbs),.bool false,.string (mg (dn t.1.1)),.bool (ng t.1.2.num),.string (mg t.1.2.num.natAbs),.bool false,.string (mg (dn t.1.2)),.bool (ng t.2.1.num),.string (mg t.2.1.num.natAbs),.bool false,.string (mg (dn t.2.1)),.bool (ng t.2.2.num),.string (mg t.2.2.num.natAbs),.bool false,.string (mg (dn t.2.2))]∧Own wx (w.heap.size+2) 0 [.int .i64 0,.bool false,.string ⟨#[]⟩,.bool false,.string ⟨#[]⟩,.bool false,.string ⟨#[]⟩,.bool false,.string ⟨#[]⟩,.bool false,.string ⟨#[]⟩,.bool false,.string ⟨#[]⟩,.bool false,.string ⟨#[]⟩,.bool false,.string ⟨#[]⟩]∧Own wx (w.heap.size+3) 0 [(.slice A4 L4.length c4)]∧wx.ownsRow w.heap.size 45 8 (.slice A4 L4.length c4) L4.length (pts L4)∧Below w.heap.size w wx)
     case first =>
      go_wp2_with fail;go_meet;exact ⟨rfl,c50,c51,c52,hb4,HO4.out,hB53⟩
     case rest =>
      clear uc50 uc51 uc52 uhb4 c50 c51 c52 hb4 HO4 hB53;obtain ⟨hs29,c57,c58,c59,c60,hO61,hB62⟩:=hcut;subst hs29;obtain ⟨wk,hwk⟩:∃ W_,W_=wc:=⟨_,rfl⟩
      subst hwk;have HOk:=Lib.hid hO61;clear hO61;rcases L4 with _|⟨a,_|⟨b,r⟩⟩
      ·skip
       as_aux_lemma =>
        have HO4':Hid (wk.ownsRow w.heap.size 45 8 (.slice A4 0 c4) 0 (pts [])):=HOk;have ck:Own wk (w.heap.size+3) 0 [.slice A4 0 c4]:=c60;clear HOk c60;simp only [List.length_nil];have HLZ:Hid (True):=Lib.hid (trivial);obtain ⟨m,hm⟩:∃ m,crsM s t=m:=⟨_,rfl⟩
        have HM:=Lib.hid hm;clear hm;have uc57:=c57;have uc58:=c58;have uc59:=c59;have uck:=ck;simp only [At,Own,Nat.reduceAdd,and_true] at uc57 uc58 uc59 uck;have K63:=Lib.hid (fun W=>HM.out▸cross2_any s t W hs ht hS);go_wp2_with (first|(with_reducible refine ld_head ?_;refine wpList_load_mid ?lg 73 (.tmp 2) ?lo w.heap.size 0 ?lx [.bool (ng s.1.1.num),.string (mg s.1.1.num.natAbs),.bool false,.string (mg (dn s.1.1)),.bool (ng s.1.2.num),.string (mg s.1.2.num.natAbs),.bool false,.string (mg (dn s.1.2)),.bool (ng s.2.1.num),.string (mg s.2.1.num.natAbs),.bool false,.string (mg (dn s.2.1)),.bool (ng s.2.2.num),.string (mg s.2.2.num.natAbs),.bool false,.string (mg (dn s.2.2))] _ (own_range c57) Tryz.underlying73 rfl (by kernel_rfl) ?_;case lg=>rfl;case lo=>rfl;case lx=>rfl;simp only [Act.put,List.setIfInBounds_toArray,List.set_cons_zero,List.set_cons_succ])|(with_reducible refine ld_head ?_;refine wpList_load_mid ?lg 73 (.tmp 3) ?lo (w.heap.size+1) 0 ?lx [.bool (ng t.1.1.num),.string (mg t.1.1.num.natAbs),.bool false,.string (mg (dn t.1.1)),.bool (ng t.1.2.num),.string (mg t.1.2.num.natAbs),.bool false,.string (mg (dn t.1.2)),.bool (ng t.2.1.num),.string (mg t.2.1.num.natAbs),.bool false,.string (mg (dn t.2.1)),.bool (ng t.2.2.num),.string (mg t.2.2.num.natAbs),.bool false,.string (mg (dn t.2.2))] _ (own_range c58) Tryz.underlying73 rfl (by kernel_rfl) ?_;case lg=>rfl;case lo=>rfl;case lx=>rfl;simp only [Act.put,List.setIfInBounds_toArray,List.set_cons_zero,List.set_cons_succ]))
        refine calls_named ?_;intro W6 hW6;have hL6:Below wk.heap.size wk W6:=by rw [hW6];exact bB
        have c64:=c57.up hL6;have c65:=c58.up hL6;have c66:=c59.up hL6;have c67:=ck.up hL6;have O68:=Lib.hid (owns_up HO4'.out hL6);have hB69:Below w.heap.size w W6:=by rw [hW6];exact bB
        clear hW6 hL6 uc57 uc58 uc59 uck c57 c58 c59 ck;with_reducible refine (K63.out _).mono ?_
        rintro e w6 ⟨rfl,hb6⟩;have c70:=c64.up hb6;have c71:=c65.up hb6;have c72:=c66.up hb6;have c73:=c67.up hb6;have O74:=Lib.hid (owns_up O68.out hb6);have hB75:Below w.heap.size w w6:=bel_up hB69 hb6;clear c64 c65 c66 c67 O68;have uc70:=c70;have uc71:=c71;have uc72:=c72;have uc73:=c73;simp only [At,Own,Nat.reduceAdd,and_true] at uc70 uc71 uc72 uc73;go_wp2_with (first|(with_reducible refine st_head ?_;refine Hid.out ?_))
        refine Lib.hid ?_;refine wpList_store_cells (cs:=[.int .i64 m.1,.bool (ng m.2.1.1.num),.string (mg m.2.1.1.num.natAbs),.bool false,.string (mg (dn m.2.1.1)),.bool (ng m.2.1.2.num),.string (mg m.2.1.2.num.natAbs),.bool false,.string (mg (dn m.2.1.2)),.bool (ng m.2.2.1.num),.string (mg m.2.2.1.num.natAbs),.bool false,.string (mg (dn m.2.2.1)),.bool (ng m.2.2.2.num),.string (mg m.2.2.2.num.natAbs),.bool false,.string (mg (dn m.2.2.2))]) ?hg ?hd 124 (.tmp 4) (.tmp 34) ?ho ?hx ?hy c72 ?hl ?hi ?h1 ?h
        case hg=>rfl
        case hd=>rfl
        case ho=>rfl
        case hx=>rfl
        case hy=>rfl
        case hl=>rfl
        case hi=>first|exact info_mt|exact info_pt
        case h1=>simp [Value.oneCell']
        obtain ⟨WG,hWG⟩:∃ W_,W_=World.setCells w6 (w.heap.size+2) 0 [.int .i64 m.1,.bool (ng m.2.1.1.num),.string (mg m.2.1.1.num.natAbs),.bool false,.string (mg (dn m.2.1.1)),.bool (ng m.2.1.2.num),.string (mg m.2.1.2.num.natAbs),.bool false,.string (mg (dn m.2.1.2)),.bool (ng m.2.2.1.num),.string (mg m.2.2.1.num.natAbs),.bool false,.string (mg (dn m.2.2.1)),.bool (ng m.2.2.2.num),.string (mg m.2.2.2.num.natAbs),.bool false,.string (mg (dn m.2.2.2))]:=⟨_,rfl⟩
        rw [← hWG];have uo_:Own WG (w.heap.size+2) 0 [.int .i64 m.1,.bool (ng m.2.1.1.num),.string (mg m.2.1.1.num.natAbs),.bool false,.string (mg (dn m.2.1.1)),.bool (ng m.2.1.2.num),.string (mg m.2.1.2.num.natAbs),.bool false,.string (mg (dn m.2.1.2)),.bool (ng m.2.2.1.num),.string (mg m.2.2.1.num.natAbs),.bool false,.string (mg (dn m.2.2.1)),.bool (ng m.2.2.2.num),.string (mg m.2.2.2.num.natAbs),.bool false,.string (mg (dn m.2.2.2))]:=by rw [hWG];exact c72.set rfl
        have hBG:Below w.heap.size w WG:=by rw [hWG];exact Below.sets (by first|exact Nat.le_refl _|omega) _ _ _ hB75
        clear hWG;refine act_out 4 (.pointer (some ⟨w.heap.size+2,0,none⟩)) ?ga ?gd ?gh
        case ga=>rfl
        case gd=>rfl
        case gh =>
         intro af_ hp_ hd_;go_wp2_with fail;refine bodyPost_ret (results_cell1 Tryz.results115 _ _ hp_ uo_ Tryz.underlying124 rfl (by kernel_rfl)) hd_ ⟨(by rw [meet_zero HE.out,HM.out]<;>rfl),hBG⟩
      ·skip
       as_aux_lemma =>
        have HO4':Hid (wk.ownsRow w.heap.size 45 8 (.slice A4 1 c4) 1 (pts [a])):=HOk;have ck:Own wk (w.heap.size+3) 0 [.slice A4 1 c4]:=c60;clear HOk c60;simp only [List.length_cons,List.length_nil,Nat.zero_add];have HLZ:Hid (Pl.SzP 100000 a):=Lib.hid (HLz4.out a (by simp));obtain ⟨g4,c4',hv4,hnc4,hcm4,hg4,hgb4⟩:=owns_form HO4'.out (by omega);cases hv4;go_wp2_with fail;refine wp_named ?_;intro W7 hW7;have hL7:Below wk.heap.size wk W7:=by rw [hW7];exact bB
        have c76:=c57.up hL7;have c77:=c58.up hL7;have c78:=c59.up hL7;have c79:=ck.up hL7;have O80:=Lib.hid (owns_up HO4'.out hL7);have hB81:Below w.heap.size w W7:=by rw [hW7];exact bB
        clear hW7 hL7 c57 c58 c59 ck;have dc76:=fun p:Bel W7=>c76.bel p;have dc77:=fun p:Bel W7=>c77.bel p;have dc78:=fun p:Bel W7=>c78.bel p;have dc79:=fun p:Bel W7=>c79.bel p
        simp only [At,Own,Nat.reduceAdd,and_true] at dc76 dc77 dc78 dc79;have ce82:=LX.at_ (owns_viewP O80.out) (show ([a]:List (Rat×Rat))[0]?=some a from rfl);have dce82:=fun b:Bel W7=>ce82.bel b
        simp only [CE,Nat.reduceMul,Nat.zero_add,Nat.zero_mul,Nat.add_zero,Nat.add_assoc,Nat.reduceAdd] at dce82;refine wp_region_tail 8 (by kernel_rfl) (by kernel_rfl) ?_;simp only [List.take_succ_cons,List.take_zero,List.drop_succ_cons,List.drop_zero]
        iterate 6 (go_big_quiet_step (fail))
        with_reducible refine qb_head ?_
        refine wpQuiet_build2 ?qw83 73 0 1 (.tmp 39) (.tmp 42) ?qo83 (.agg #[.bool (ng a.1.num),.string (mg a.1.num.natAbs),.bool false,.string (mg (dn a.1)),.bool (ng a.2.num),.string (mg a.2.num.natAbs),.bool false,.string (mg (dn a.2))]) (.agg #[.bool (ng a.1.num),.string (mg a.1.num.natAbs),.bool false,.string (mg (dn a.1)),.bool (ng a.2.num),.string (mg a.2.num.natAbs),.bool false,.string (mg (dn a.2))]) #[.bool (ng a.1.num),.string (mg a.1.num.natAbs),.bool false,.string (mg (dn a.1)),.bool (ng a.2.num),.string (mg a.2.num.natAbs),.bool false,.string (mg (dn a.2)),.bool (ng a.1.num),.string (mg a.1.num.natAbs),.bool false,.string (mg (dn a.1)),.bool (ng a.2.num),.string (mg a.2.num.natAbs),.bool false,.string (mg (dn a.2))] ?qx83 ?qy83 ?qb83 ?_
        case qw83=>rfl
        case qo83=>rfl
        case qx83=>rfl
        case qy83=>rfl
        case qb83=>exact built_seg _ _
        simp only [Act.put,List.setIfInBounds_toArray,List.set_cons_zero,List.set_cons_succ];with_reducible refine qb_head ?_
        refine wpQuiet_build2 ?qw84 124 0 1 (.const (.int .i64 1)) (.tmp 43) ?qo84 (.int .i64 1) (.agg #[.bool (ng a.1.num),.string (mg a.1.num.natAbs),.bool false,.string (mg (dn a.1)),.bool (ng a.2.num),.string (mg a.2.num.natAbs),.bool false,.string (mg (dn a.2)),.bool (ng a.1.num),.string (mg a.1.num.natAbs),.bool false,.string (mg (dn a.1)),.bool (ng a.2.num),.string (mg a.2.num.natAbs),.bool false,.string (mg (dn a.2))]) #[.int .i64 1,.bool (ng a.1.num),.string (mg a.1.num.natAbs),.bool false,.string (mg (dn a.1)),.bool (ng a.2.num),.string (mg a.2.num.natAbs),.bool false,.string (mg (dn a.2)),.bool (ng a.1.num),.string (mg a.1.num.natAbs),.bool false,.string (mg (dn a.1)),.bool (ng a.2.num),.string (mg a.2.num.natAbs),.bool false,.string (mg (dn a.2))] ?qx84 ?qy84 ?qb84 ?_
        case qw84=>rfl
        case qo84=>rfl
        case qx84=>rfl
        case qy84=>rfl
        case qb84=>exact built_mt _ _ _
        simp only [Act.put,List.setIfInBounds_toArray,List.set_cons_zero,List.set_cons_succ];refine wpQuiet_nil ?_;intro w7 hb7;have c85:=c76.up hb7;have c86:=c77.up hb7;have c87:=c78.up hb7;have c88:=c79.up hb7;have O89:=Lib.hid (owns_up O80.out hb7);have hB90:Below w.heap.size w w7:=bel_up hB81 hb7;clear dc76 dc77 dc78 dc79 dce82 c76 c77 c78 c79 O80;have uc85:=c85;have uc86:=c86;have uc87:=c87;have uc88:=c88;simp only [At,Own,Nat.reduceAdd,and_true] at uc85 uc86 uc87 uc88;go_wp2_with (first|(with_reducible refine st_head ?_;refine Hid.out ?_))
        refine Lib.hid ?_;refine wpList_store_cells (cs:=[.int .i64 1,.bool (ng a.1.num),.string (mg a.1.num.natAbs),.bool false,.string (mg (dn a.1)),.bool (ng a.2.num),.string (mg a.2.num.natAbs),.bool false,.string (mg (dn a.2)),.bool (ng a.1.num),.string (mg a.1.num.natAbs),.bool false,.string (mg (dn a.1)),.bool (ng a.2.num),.string (mg a.2.num.natAbs),.bool false,.string (mg (dn a.2))]) ?hg ?hd 124 (.tmp 4) (.tmp 44) ?ho ?hx ?hy c87 ?hl ?hi ?h1 ?h
        case hg=>rfl
        case hd=>rfl
        case ho=>rfl
        case hx=>rfl
        case hy=>rfl
        case hl=>rfl
        case hi=>first|exact info_mt|exact info_pt
        case h1=>simp [Value.oneCell']
        obtain ⟨WG,hWG⟩:∃ W_,W_=World.setCells w7 (w.heap.size+2) 0 [.int .i64 1,.bool (ng a.1.num),.string (mg a.1.num.natAbs),.bool false,.string (mg (dn a.1)),.bool (ng a.2.num),.string (mg a.2.num.natAbs),.bool false,.string (mg (dn a.2)),.bool (ng a.1.num),.string (mg a.1.num.natAbs),.bool false,.string (mg (dn a.1)),.bool (ng a.2.num),.string (mg a.2.num.natAbs),.bool false,.string (mg (dn a.2))]:=⟨_,rfl⟩
        rw [← hWG];have uo_:Own WG (w.heap.size+2) 0 [.int .i64 1,.bool (ng a.1.num),.string (mg a.1.num.natAbs),.bool false,.string (mg (dn a.1)),.bool (ng a.2.num),.string (mg a.2.num.natAbs),.bool false,.string (mg (dn a.2)),.bool (ng a.1.num),.string (mg a.1.num.natAbs),.bool false,.string (mg (dn a.1)),.bool (ng a.2.num),.string (mg a.2.num.natAbs),.bool false,.string (mg (dn a.2))]:=by rw [hWG];exact c87.set rfl
        have hBG:Below w.heap.size w WG:=by rw [hWG];exact Below.sets (by first|exact Nat.le_refl _|omega) _ _ _ hB90
        clear hWG;refine act_out 4 (.pointer (some ⟨w.heap.size+2,0,none⟩)) ?ga ?gd ?gh
        case ga=>rfl
        case gd=>rfl
        case gh =>
         intro af_ hp_ hd_;go_wp2_with fail;refine bodyPost_ret (results_cell1 Tryz.results115 _ _ hp_ uo_ Tryz.underlying124 rfl (by kernel_rfl)) hd_ ⟨(by rw [meet_one HE.out]<;>rfl),hBG⟩
      ·skip
       as_aux_lemma =>
        have hlen4:(a :: b :: r).length=r.length+2:=rfl;obtain ⟨n,hn⟩:∃ n,n=r.length+2:=⟨_,rfl⟩
        rw [hlen4] at hLl4 HOk c60;rw [← hn] at hLl4 HOk c60;rw [hlen4,← hn];have hn2:2≤n:=by omega
        clear hlen4 hn;have HLZ:Hid (Pl.SzP 100000 a∧Pl.SzP 100000 b):=Lib.hid (⟨HLz4.out a (by simp),HLz4.out b (by simp)⟩);obtain ⟨g4,c4',hv4,hnc4,hcm4,hg4,hgb4⟩:=owns_form HOk.out (by omega);cases hv4;have hcz0:¬ ((n:Int)=0):=by omega
        have hcz0_:(((n:Int))==0)=false:=by simpa using hcz0
        have hcz1:¬ ((n:Int)=1):=by omega
        have hcz1_:(((n:Int))==1)=false:=by simpa using hcz1
        have kK91:=fun W=>pcmp_any a b W HLZ.out.1 HLZ.out.2 (by omega) (by omega)
        generalize hT93:Pl.cmpP a b=o92 at kK91;have K91:=Lib.hid kK91;clear kK91;have HhT93:=Lib.hid hT93;clear hT93;go_wp2_with fail;refine wp_named ?_;intro W8 hW8;have hL8:Below wk.heap.size wk W8:=by rw [hW8];exact bB
        have c94:=c57.up hL8;have c95:=c58.up hL8;have c96:=c59.up hL8;have c97:=c60.up hL8;have O98:=Lib.hid (owns_up HOk.out hL8);have hB99:Below w.heap.size w W8:=by rw [hW8];exact bB
        clear hW8 hL8 c57 c58 c59 c60;have dc94:=fun p:Bel W8=>c94.bel p;have dc95:=fun p:Bel W8=>c95.bel p;have dc96:=fun p:Bel W8=>c96.bel p;have dc97:=fun p:Bel W8=>c97.bel p
        simp only [At,Own,Nat.reduceAdd,and_true] at dc94 dc95 dc96 dc97;have ce100:=LX.at_ (owns_viewP O98.out) (show ((a :: b :: r):List (Rat×Rat))[0]?=some a from rfl);have dce100:=fun b:Bel W8=>ce100.bel b
        simp only [CE,Nat.reduceMul,Nat.zero_add,Nat.zero_mul,Nat.add_zero,Nat.add_assoc,Nat.reduceAdd] at dce100;have ce101:=LX.at_ (owns_viewP O98.out) (show ((a :: b :: r):List (Rat×Rat))[1]?=some b from rfl);have dce101:=fun b:Bel W8=>ce101.bel b
        simp only [CE,Nat.reduceMul,Nat.zero_add,Nat.zero_mul,Nat.add_zero,Nat.add_assoc,Nat.reduceAdd] at dce101;refine wp_region_all (by kernel_rfl) (by kernel_rfl) ?_;repeat (go_big_quiet_step (first|(go_at_call 70;with_reducible exact Calls.bel (K91.out _))))
        refine wpQuiet_nil ?_;intro w8 hb8;have c102:=c94.up hb8;have c103:=c95.up hb8;have c104:=c96.up hb8;have c105:=c97.up hb8;have O106:=Lib.hid (owns_up O98.out hb8);have hB107:Below w.heap.size w w8:=bel_up hB99 hb8;clear dc94 dc95 dc96 dc97 dce100 dce101 c94 c95 c96 c97 O98;have uc102:=c102;have uc103:=c103;have uc104:=c104;have uc105:=c105;simp only [At,Own,Nat.reduceAdd,and_true] at uc102 uc103 uc104 uc105
        by_cases hc108:(0:Int)<o92
        ·skip
         as_aux_lemma =>
          have hc108_d:decide ((0:Int)<o92)=true:=decide_eq_true hc108;have hc108_:¬ ((o92:Int)≤0):=by omega
          go_wp2_with fail;refine wp_named ?_;intro W9 hW9;have hL9:Below w8.heap.size w8 W9:=by rw [hW9];exact bB
          have c109:=c102.up hL9;have c110:=c103.up hL9;have c111:=c104.up hL9;have c112:=c105.up hL9;have O113:=Lib.hid (owns_up O106.out hL9);have hB114:Below w.heap.size w W9:=by rw [hW9];exact bB
          clear hW9 hL9 uc102 uc103 uc104 uc105 c102 c103 c104 c105;refine wp_region_swap (w.heap.size+3) g4 n c4 #[.bool (ng a.1.num),.string (mg a.1.num.natAbs),.bool false,.string (mg (dn a.1)),.bool (ng a.2.num),.string (mg a.2.num.natAbs),.bool false,.string (mg (dn a.2))] #[.bool (ng b.1.num),.string (mg b.1.num.natAbs),.bool false,.string (mg (dn b.1)),.bool (ng b.2.num),.string (mg b.2.num.natAbs),.bool false,.string (mg (dn b.2))] (by kernel_rfl) (by kernel_rfl) (Nat.le_of_ble_eq_true rfl) rfl c112.1.1 ?hgk115 (fun w_ h_=>load_sl w_ _ _ _ _ h_) (fun w_=>ix_sl w_ g4 n c4 0 (by omega)) (fun w_=>ix_sl w_ g4 n c4 1 (by omega)) (row_range (k:=0) O113.out rfl) (row_range (k:=1) O113.out rfl) Tryz.underlying45 rfl info_pt rfl rfl (own_there (k:=0) (m:=8) O113.out (by omega)) (own_there (k:=1) (m:=8) O113.out (by omega)) (one_pt a) (one_pt b) ?_
          case hgk115=>exact (fun e_=>hf4 (congrArg some e_))
          intro WB hWB;simp only [Act.put,List.setIfInBounds_toArray,List.set_cons_zero,List.set_cons_succ];obtain ⟨WA,hWA⟩:∃ W_,W_=World.setCells { W9 with drawn:=W9.drawn+1 } g4 0 [.bool (ng b.1.num),.string (mg b.1.num.natAbs),.bool false,.string (mg (dn b.1)),.bool (ng b.2.num),.string (mg b.2.num.natAbs),.bool false,.string (mg (dn b.2))]:=⟨_,rfl⟩
          replace hWB:WB=WA.setCells g4 8 [.bool (ng a.1.num),.string (mg a.1.num.natAbs),.bool false,.string (mg (dn a.1)),.bool (ng a.2.num),.string (mg a.2.num.natAbs),.bool false,.string (mg (dn a.2))]:=by rw [hWB,hWA]
          have OA:Hid (WA.ownsRow w.heap.size 45 8 (.slice (some ⟨g4,0,none⟩) n c4) n (pts (b :: b :: r))):=Lib.hid (by rw [hWA];exact own_setPt (w := { W9 with drawn:=W9.drawn+1 }) O113.out (k:=0) (by omega) b);have OB:Hid (WB.ownsRow w.heap.size 45 8 (.slice (some ⟨g4,0,none⟩) n c4) n (pts (b :: a :: r))):=Lib.hid (by rw [hWB];exact own_setPt OA.out (k:=1) (by omega) a);have c116:Own WB w.heap.size 0 [.bool (ng s.1.1.num),.string (mg s.1.1.num.natAbs),.bool false,.string (mg (dn s.1.1)),.bool (ng s.1.2.num),.string (mg s.1.2.num.natAbs),.bool false,.string (mg (dn s.1.2)),.bool (ng s.2.1.num),.string (mg s.2.1.num.natAbs),.bool false,.string (mg (dn s.2.1)),.bool (ng s.2.2.num),.string (mg s.2.2.num.natAbs),.bool false,.string (mg (dn s.2.2))]:=by rw [hWB,hWA];exact Own.off (fun e_=>f54 (congrArg some e_.symm)) (Own.off (fun e_=>f54 (congrArg some e_.symm)) (own_dr c109))
          have c117:Own WB (w.heap.size+1) 0 [.bool (ng t.1.1.num),.string (mg t.1.1.num.natAbs),.bool false,.string (mg (dn t.1.1)),.bool (ng t.1.2.num),.string (mg t.1.2.num.natAbs),.bool false,.string (mg (dn t.1.2)),.bool (ng t.2.1.num),.string (mg t.2.1.num.natAbs),.bool false,.string (mg (dn t.2.1)),.bool (ng t.2.2.num),.string (mg t.2.2.num.natAbs),.bool false,.string (mg (dn t.2.2))]:=by rw [hWB,hWA];exact Own.off (fun e_=>f55 (congrArg some e_.symm)) (Own.off (fun e_=>f55 (congrArg some e_.symm)) (own_dr c110))
          have c118:Own WB (w.heap.size+2) 0 [.int .i64 0,.bool false,.string ⟨#[]⟩,.bool false,.string ⟨#[]⟩,.bool false,.string ⟨#[]⟩,.bool false,.string ⟨#[]⟩,.bool false,.string ⟨#[]⟩,.bool false,.string ⟨#[]⟩,.bool false,.string ⟨#[]⟩,.bool false,.string ⟨#[]⟩]:=by rw [hWB,hWA];exact Own.off (fun e_=>f56 (congrArg some e_.symm)) (Own.off (fun e_=>f56 (congrArg some e_.symm)) (own_dr c111))
          have c119:Own WB (w.heap.size+3) 0 [(.slice (some ⟨g4,0,none⟩) n c4)]:=by rw [hWB,hWA];exact Own.off (fun e_=>hf4 (congrArg some e_.symm)) (Own.off (fun e_=>hf4 (congrArg some e_.symm)) (own_dr c112))
          have hB120:Below w.heap.size w WB:=by rw [hWB,hWA];exact below_setCells hgb4 _ _ _ (below_setCells hgb4 _ _ _ (Below.drew hB114))
          clear hWA hWB OA c109 c110 c111 c112 hB114;go_wp2_with fail;refine wp_named ?_;intro W10 hW10;have hL10:Below WB.heap.size WB W10:=by rw [hW10];exact bB
          have c121:=c116.up hL10;have c122:=c117.up hL10;have c123:=c118.up hL10;have c124:=c119.up hL10;have O125:=Lib.hid (owns_up OB.out hL10);have hB126:Below w.heap.size w W10:=by rw [hW10];exact bB
          clear hW10 hL10 c116 c117 c118 c119;have dc121:=fun p:Bel W10=>c121.bel p;have dc122:=fun p:Bel W10=>c122.bel p;have dc123:=fun p:Bel W10=>c123.bel p;have dc124:=fun p:Bel W10=>c124.bel p
          simp only [At,Own,Nat.reduceAdd,and_true] at dc121 dc122 dc123 dc124;have ce127:=LX.at_ (owns_viewP O125.out) (show ((b :: a :: r):List (Rat×Rat))[0]?=some b from rfl);have dce127:=fun b:Bel W10=>ce127.bel b
          simp only [CE,Nat.reduceMul,Nat.zero_add,Nat.zero_mul,Nat.add_zero,Nat.add_assoc,Nat.reduceAdd] at dce127;have ce128:=LX.at_ (owns_viewP O125.out) (show ((b :: a :: r):List (Rat×Rat))[1]?=some a from rfl);have dce128:=fun b:Bel W10=>ce128.bel b
          simp only [CE,Nat.reduceMul,Nat.zero_add,Nat.zero_mul,Nat.add_zero,Nat.add_assoc,Nat.reduceAdd] at dce128;refine wp_region_tail 8 (by kernel_rfl) (by kernel_rfl) ?_;simp only [List.take_succ_cons,List.take_zero,List.drop_succ_cons,List.drop_zero]
          iterate 6 (go_big_quiet_step (fail))
          with_reducible refine qb_head ?_
          refine wpQuiet_build2 ?qw129 73 0 1 (.tmp 65) (.tmp 68) ?qo129 (.agg #[.bool (ng b.1.num),.string (mg b.1.num.natAbs),.bool false,.string (mg (dn b.1)),.bool (ng b.2.num),.string (mg b.2.num.natAbs),.bool false,.string (mg (dn b.2))]) (.agg #[.bool (ng a.1.num),.string (mg a.1.num.natAbs),.bool false,.string (mg (dn a.1)),.bool (ng a.2.num),.string (mg a.2.num.natAbs),.bool false,.string (mg (dn a.2))]) #[.bool (ng b.1.num),.string (mg b.1.num.natAbs),.bool false,.string (mg (dn b.1)),.bool (ng b.2.num),.string (mg b.2.num.natAbs),.bool false,.string (mg (dn b.2)),.bool (ng a.1.num),.string (mg a.1.num.natAbs),.bool false,.string (mg (dn a.1)),.bool (ng a.2.num),.string (mg a.2.num.natAbs),.bool false,.string (mg (dn a.2))] ?qx129 ?qy129 ?qb129 ?_
          case qw129=>rfl
          case qo129=>rfl
          case qx129=>rfl
          case qy129=>rfl
          case qb129=>exact built_seg _ _
          simp only [Act.put,List.setIfInBounds_toArray,List.set_cons_zero,List.set_cons_succ];with_reducible refine qb_head ?_
          refine wpQuiet_build2 ?qw130 124 0 1 (.const (.int .i64 3)) (.tmp 69) ?qo130 (.int .i64 3) (.agg #[.bool (ng b.1.num),.string (mg b.1.num.natAbs),.bool false,.string (mg (dn b.1)),.bool (ng b.2.num),.string (mg b.2.num.natAbs),.bool false,.string (mg (dn b.2)),.bool (ng a.1.num),.string (mg a.1.num.natAbs),.bool false,.string (mg (dn a.1)),.bool (ng a.2.num),.string (mg a.2.num.natAbs),.bool false,.string (mg (dn a.2))]) #[.int .i64 3,.bool (ng b.1.num),.string (mg b.1.num.natAbs),.bool false,.string (mg (dn b.1)),.bool (ng b.2.num),.string (mg b.2.num.natAbs),.bool false,.string (mg (dn b.2)),.bool (ng a.1.num),.string (mg a.1.num.natAbs),.bool false,.string (mg (dn a.1)),.bool (ng a.2.num),.string (mg a.2.num.natAbs),.bool false,.string (mg (dn a.2))] ?qx130 ?qy130 ?qb130 ?_
          case qw130=>rfl
          case qo130=>rfl
          case qx130=>rfl
          case qy130=>rfl
          case qb130=>exact built_mt _ _ _
          simp only [Act.put,List.setIfInBounds_toArray,List.set_cons_zero,List.set_cons_succ];refine wpQuiet_nil ?_;intro w10 hb10;have c131:=c121.up hb10;have c132:=c122.up hb10;have c133:=c123.up hb10;have c134:=c124.up hb10;have O135:=Lib.hid (owns_up O125.out hb10);have hB136:Below w.heap.size w w10:=bel_up hB126 hb10;clear dc121 dc122 dc123 dc124 dce127 dce128 c121 c122 c123 c124 O125;have uc131:=c131;have uc132:=c132;have uc133:=c133;have uc134:=c134;simp only [At,Own,Nat.reduceAdd,and_true] at uc131 uc132 uc133 uc134;go_wp2_with (first|(with_reducible refine st_head ?_;refine Hid.out ?_))
          refine Lib.hid ?_;refine wpList_store_cells (cs:=[.int .i64 3,.bool (ng b.1.num),.string (mg b.1.num.natAbs),.bool false,.string (mg (dn b.1)),.bool (ng b.2.num),.string (mg b.2.num.natAbs),.bool false,.string (mg (dn b.2)),.bool (ng a.1.num),.string (mg a.1.num.natAbs),.bool false,.string (mg (dn a.1)),.bool (ng a.2.num),.string (mg a.2.num.natAbs),.bool false,.string (mg (dn a.2))]) ?hg ?hd 124 (.tmp 4) (.tmp 70) ?ho ?hx ?hy c133 ?hl ?hi ?h1 ?h
          case hg=>rfl
          case hd=>rfl
          case ho=>rfl
          case hx=>rfl
          case hy=>rfl
          case hl=>rfl
          case hi=>first|exact info_mt|exact info_pt
          case h1=>simp [Value.oneCell']
          obtain ⟨WG,hWG⟩:∃ W_,W_=World.setCells w10 (w.heap.size+2) 0 [.int .i64 3,.bool (ng b.1.num),.string (mg b.1.num.natAbs),.bool false,.string (mg (dn b.1)),.bool (ng b.2.num),.string (mg b.2.num.natAbs),.bool false,.string (mg (dn b.2)),.bool (ng a.1.num),.string (mg a.1.num.natAbs),.bool false,.string (mg (dn a.1)),.bool (ng a.2.num),.string (mg a.2.num.natAbs),.bool false,.string (mg (dn a.2))]:=⟨_,rfl⟩
          rw [← hWG];have uo_:Own WG (w.heap.size+2) 0 [.int .i64 3,.bool (ng b.1.num),.string (mg b.1.num.natAbs),.bool false,.string (mg (dn b.1)),.bool (ng b.2.num),.string (mg b.2.num.natAbs),.bool false,.string (mg (dn b.2)),.bool (ng a.1.num),.string (mg a.1.num.natAbs),.bool false,.string (mg (dn a.1)),.bool (ng a.2.num),.string (mg a.2.num.natAbs),.bool false,.string (mg (dn a.2))]:=by rw [hWG];exact c133.set rfl
          have hBG:Below w.heap.size w WG:=by rw [hWG];exact Below.sets (by first|exact Nat.le_refl _|omega) _ _ _ hB136
          clear hWG;refine act_out 4 (.pointer (some ⟨w.heap.size+2,0,none⟩)) ?ga ?gd ?gh
          case ga=>rfl
          case gd=>rfl
          case gh =>
           intro af_ hp_ hd_;go_wp2_with fail;refine bodyPost_ret (results_cell1 Tryz.results115 _ _ hp_ uo_ Tryz.underlying124 rfl (by kernel_rfl)) hd_ ⟨(by rw [meet_two HE.out HhT93.out,if_pos (by have q_:=hc108;omega)]<;>rfl),hBG⟩
        ·skip
         as_aux_lemma =>
          have hc108_d:decide ((0:Int)<o92)=false:=decide_eq_false hc108;have hc108_:((o92:Int)≤0):=by omega
          go_wp2_with fail;refine wp_named ?_;intro W11 hW11;have hL11:Below w8.heap.size w8 W11:=by rw [hW11];exact bB
          have c137:=c102.up hL11;have c138:=c103.up hL11;have c139:=c104.up hL11;have c140:=c105.up hL11;have O141:=Lib.hid (owns_up O106.out hL11);have hB142:Below w.heap.size w W11:=by rw [hW11];exact bB
          clear hW11 hL11 uc102 uc103 uc104 uc105 c102 c103 c104 c105;have dc137:=fun p:Bel W11=>c137.bel p;have dc138:=fun p:Bel W11=>c138.bel p;have dc139:=fun p:Bel W11=>c139.bel p;have dc140:=fun p:Bel W11=>c140.bel p
          simp only [At,Own,Nat.reduceAdd,and_true] at dc137 dc138 dc139 dc140;have ce143:=LX.at_ (owns_viewP O141.out) (show ((a :: b :: r):List (Rat×Rat))[0]?=some a from rfl);have dce143:=fun b:Bel W11=>ce143.bel b
          simp only [CE,Nat.reduceMul,Nat.zero_add,Nat.zero_mul,Nat.add_zero,Nat.add_assoc,Nat.reduceAdd] at dce143;have ce144:=LX.at_ (owns_viewP O141.out) (show ((a :: b :: r):List (Rat×Rat))[1]?=some b from rfl);have dce144:=fun b:Bel W11=>ce144.bel b
          simp only [CE,Nat.reduceMul,Nat.zero_add,Nat.zero_mul,Nat.add_zero,Nat.add_assoc,Nat.reduceAdd] at dce144;refine wp_region_tail 8 (by kernel_rfl) (by kernel_rfl) ?_;simp only [List.take_succ_cons,List.take_zero,List.drop_succ_cons,List.drop_zero]
          iterate 6 (go_big_quiet_step (fail))
          with_reducible refine qb_head ?_
          refine wpQuiet_build2 ?qw145 73 0 1 (.tmp 65) (.tmp 68) ?qo145 (.agg #[.bool (ng a.1.num),.string (mg a.1.num.natAbs),.bool false,.string (mg (dn a.1)),.bool (ng a.2.num),.string (mg a.2.num.natAbs),.bool false,.string (mg (dn a.2))]) (.agg #[.bool (ng b.1.num),.string (mg b.1.num.natAbs),.bool false,.string (mg (dn b.1)),.bool (ng b.2.num),.string (mg b.2.num.natAbs),.bool false,.string (mg (dn b.2))]) #[.bool (ng a.1.num),.string (mg a.1.num.natAbs),.bool false,.string (mg (dn a.1)),.bool (ng a.2.num),.string (mg a.2.num.natAbs),.bool false,.string (mg (dn a.2)),.bool (ng b.1.num),.string (mg b.1.num.natAbs),.bool false,.string (mg (dn b.1)),.bool (ng b.2.num),.string (mg b.2.num.natAbs),.bool false,.string (mg (dn b.2))] ?qx145 ?qy145 ?qb145 ?_
          case qw145=>rfl
          case qo145=>rfl
          case qx145=>rfl
          case qy145=>rfl
          case qb145=>exact built_seg _ _
          simp only [Act.put,List.setIfInBounds_toArray,List.set_cons_zero,List.set_cons_succ];with_reducible refine qb_head ?_
          refine wpQuiet_build2 ?qw146 124 0 1 (.const (.int .i64 3)) (.tmp 69) ?qo146 (.int .i64 3) (.agg #[.bool (ng a.1.num),.string (mg a.1.num.natAbs),.bool false,.string (mg (dn a.1)),.bool (ng a.2.num),.string (mg a.2.num.natAbs),.bool false,.string (mg (dn a.2)),.bool (ng b.1.num),.string (mg b.1.num.natAbs),.bool false,.string (mg (dn b.1)),.bool (ng b.2.num),.string (mg b.2.num.natAbs),.bool false,.string (mg (dn b.2))]) #[.int .i64 3,.bool (ng a.1.num),.string (mg a.1.num.natAbs),.bool false,.string (mg (dn a.1)),.bool (ng a.2.num),.string (mg a.2.num.natAbs),.bool false,.string (mg (dn a.2)),.bool (ng b.1.num),.string (mg b.1.num.natAbs),.bool false,.string (mg (dn b.1)),.bool (ng b.2.num),.string (mg b.2.num.natAbs),.bool false,.string (mg (dn b.2))] ?qx146 ?qy146 ?qb146 ?_
          case qw146=>rfl
          case qo146=>rfl
          case qx146=>rfl
          case qy146=>rfl
          case qb146=>exact built_mt _ _ _
          simp only [Act.put,List.setIfInBounds_toArray,List.set_cons_zero,List.set_cons_succ];refine wpQuiet_nil ?_;intro w11 hb11;have c147:=c137.up hb11;have c148:=c138.up hb11;have c149:=c139.up hb11;have c150:=c140.up hb11;have O151:=Lib.hid (owns_up O141.out hb11);have hB152:Below w.heap.size w w11:=bel_up hB142 hb11;clear dc137 dc138 dc139 dc140 dce143 dce144 c137 c138 c139 c140 O141;have uc147:=c147;have uc148:=c148;have uc149:=c149;have uc150:=c150;simp only [At,Own,Nat.reduceAdd,and_true] at uc147 uc148 uc149 uc150;go_wp2_with (first|(with_reducible refine st_head ?_;refine Hid.out ?_))
          refine Lib.hid ?_;refine wpList_store_cells (cs:=[.int .i64 3,.bool (ng a.1.num),.string (mg a.1.num.natAbs),.bool false,.string (mg (dn a.1)),.bool (ng a.2.num),.string (mg a.2.num.natAbs),.bool false,.string (mg (dn a.2)),.bool (ng b.1.num),.string (mg b.1.num.natAbs),.bool false,.string (mg (dn b.1)),.bool (ng b.2.num),.string (mg b.2.num.natAbs),.bool false,.string (mg (dn b.2))]) ?hg ?hd 124 (.tmp 4) (.tmp 70) ?ho ?hx ?hy c149 ?hl ?hi ?h1 ?h
          case hg=>rfl
          case hd=>rfl
          case ho=>rfl
          case hx=>rfl
          case hy=>rfl
          case hl=>rfl
          case hi=>first|exact info_mt|exact info_pt
          case h1=>simp [Value.oneCell']
          obtain ⟨WG,hWG⟩:∃ W_,W_=World.setCells w11 (w.heap.size+2) 0 [.int .i64 3,.bool (ng a.1.num),.string (mg a.1.num.natAbs),.bool false,.string (mg (dn a.1)),.bool (ng a.2.num),.string (mg a.2.num.natAbs),.bool false,.string (mg (dn a.2)),.bool (ng b.1.num),.string (mg b.1.num.natAbs),.bool false,.string (mg (dn b.1)),.bool (ng b.2.num),.string (mg b.2.num.natAbs),.bool false,.string (mg (dn b.2))]:=⟨_,rfl⟩
          rw [← hWG];have uo_:Own WG (w.heap.size+2) 0 [.int .i64 3,.bool (ng a.1.num),.string (mg a.1.num.natAbs),.bool false,.string (mg (dn a.1)),.bool (ng a.2.num),.string (mg a.2.num.natAbs),.bool false,.string (mg (dn a.2)),.bool (ng b.1.num),.string (mg b.1.num.natAbs),.bool false,.string (mg (dn b.1)),.bool (ng b.2.num),.string (mg b.2.num.natAbs),.bool false,.string (mg (dn b.2))]:=by rw [hWG];exact c149.set rfl
          have hBG:Below w.heap.size w WG:=by rw [hWG];exact Below.sets (by first|exact Nat.le_refl _|omega) _ _ _ hB152
          clear hWG;refine act_out 4 (.pointer (some ⟨w.heap.size+2,0,none⟩)) ?ga ?gd ?gh
          case ga=>rfl
          case gd=>rfl
          case gh =>
           intro af_ hp_ hd_;go_wp2_with fail;refine bodyPost_ret (results_cell1 Tryz.results115 _ _ hp_ uo_ Tryz.underlying124 rfl (by kernel_rfl)) hd_ ⟨(by rw [meet_two HE.out HhT93.out,if_neg (by have q_:=hc108;omega)]<;>rfl),hBG⟩
end Go.Proofs.YtiochgoocbkckaaGreatDoor
