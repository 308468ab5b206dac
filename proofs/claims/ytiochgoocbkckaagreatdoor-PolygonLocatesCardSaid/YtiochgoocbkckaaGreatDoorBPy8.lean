/-
 The law's shapes: the polygon of a shape.
-/
import Derived.Test.YtiochgoocbkckaaGreatDoorATu8
import Derived.Test.YtiochgoocbkckaaGreatDoorBKw8
import Derived.Test.YtiochgoocbkckaaGreatDoorAgav
import Derived.Test.YtiochgoocbkckaaGreatDoorBPgR
import Derived.Test.YtiochgoocbkckaaGreatDoorAPm3
import Derived.Laws.OwnMore
set_option maxRecDepth 100000
set_option linter.unusedSimpArgs false
set_option linter.unusedVariables false
namespace Go.Proofs.YtiochgoocbkckaaGreatDoor
open Go Go.RowKit
abbrev LB7 (a b:World):Prop:=Below a.heap.size a b
theorem oFB7 {p:Prop} (h:p:=by repeat (first|with_reducible assumption|refine Own.far _ _ (by simp<;>omega) ?_|with_reducible refine Own.alloc ?_ _)):p:=h

theorem own_get {w:World} {b i:Nat} {cs:List Value} {v:Value} (h:Own w b 0 cs) (hv:cs[i]?=some v):w.cell? ⟨b,i,none⟩=some v:=by
 have:=own_range h i v hv
 rwa [Nat.zero_add] at this
theorem rad_get (R:Nat→Nat) (i:Nat) (h:i<8) (l:List Value):(.int .u8 (R 0:Nat) :: .int .u8 (R 1:Nat) :: .int .u8 (R 2:Nat) :: .int .u8 (R 3:Nat) :: .int .u8 (R 4:Nat) :: .int .u8 (R 5:Nat) :: .int .u8 (R 6:Nat) :: .int .u8 (R 7:Nat) :: l)[i]?=some (.int .u8 (R i:Nat)):=by
 obtain rfl|rfl|rfl|rfl|rfl|rfl|rfl|rfl:=(by omega:i=0∨i=1∨i=2∨i=3∨i=4∨i=5∨i=6∨i=7)<;>rfl
theorem dx_get (i:Nat) (h:i<8):([.int .i64 1,.int .i64 1,.int .i64 0,.int .i64 (-1),.int .i64 (-1),.int .i64 (-1),.int .i64 0,.int .i64 1]:List Value)[i]?=some (.int .i64 (Pg.dxI i)):=by
 obtain rfl|rfl|rfl|rfl|rfl|rfl|rfl|rfl:=(by omega:i=0∨i=1∨i=2∨i=3∨i=4∨i=5∨i=6∨i=7)<;>rfl
theorem dy_get (i:Nat) (h:i<8):([.int .i64 0,.int .i64 1,.int .i64 1,.int .i64 1,.int .i64 0,.int .i64 (-1),.int .i64 (-1),.int .i64 (-1)]:List Value)[i]?=some (.int .i64 (Pg.dyI i)):=by
 obtain rfl|rfl|rfl|rfl|rfl|rfl|rfl|rfl:=(by omega:i=0∨i=1∨i=2∨i=3∨i=4∨i=5∨i=6∨i=7)<;>rfl
theorem dx_le (i:Nat) : -1≤Pg.dxI i∧Pg.dxI i≤1:=by
 rcases Nat.lt_or_ge i 8 with h|h
 ·obtain rfl|rfl|rfl|rfl|rfl|rfl|rfl|rfl:=(by omega:i=0∨i=1∨i=2∨i=3∨i=4∨i=5∨i=6∨i=7)<;>decide
 ·unfold Pg.dxI;rw [List.getD_eq_getElem?_getD,List.getElem?_eq_none (by simpa [Pg.dxs] using h)];decide
theorem dy_le (i:Nat) : -1≤Pg.dyI i∧Pg.dyI i≤1:=by
 rcases Nat.lt_or_ge i 8 with h|h
 ·obtain rfl|rfl|rfl|rfl|rfl|rfl|rfl|rfl:=(by omega:i=0∨i=1∨i=2∨i=3∨i=4∨i=5∨i=6∨i=7)<;>decide
 ·unfold Pg.dyI;rw [List.getD_eq_getElem?_getD,List.getElem?_eq_none (by simpa [Pg.dys] using h)];decide
theorem u8w (a:Nat) (h:a<256):IntKind.u8.wrap (a:Int)=a:=by simp [IntKind.wrap,IntKind.bits,IntKind.signed];omega
theorem i64s (x:Int) (h1 : -1000≤x) (h2:x≤1000):IntKind.i64.wrap x=x:=by simp [IntKind.wrap,IntKind.bits,IntKind.signed];omega
theorem mul_bd (d r:Int) (h1 : -1≤d) (h2:d≤1) (h3:0≤r) (h4:r≤7) : -7≤d*r∧d*r≤7:=by
 obtain rfl|rfl|rfl:d=-1∨d=0∨d=1:=by omega
 all_goals omega
def outI (R:Nat→Nat) (x y:Int) (i:Nat):List (Rat×Rat):=((List.range i).filter (Pg.has8 R)).map fun j=>Pg.ptI (x+Pg.dxI j*Pg.rad R j) (y+Pg.dyI j*Pg.rad R j)
theorem outI_yes {R:Nat→Nat} {x y:Int} {i:Nat} (h:Pg.has8 R i=true) {px py:Int} (hx:px=x+Pg.dxI i*Pg.rad R i) (hy:py=y+Pg.dyI i*Pg.rad R i):outI R x y (i+1)=outI R x y i++[Pg.ptI px py]:=by
 unfold outI;rw [List.range_succ,List.filter_append,List.map_append,List.filter_cons,if_pos h,hx,hy];rfl
theorem outI_no {R:Nat→Nat} {x y:Int} {i:Nat} (h:Pg.has8 R i=false):outI R x y (i+1)=outI R x y i:=by
 unfold outI;rw [List.range_succ,List.filter_append,List.map_append,List.filter_cons,if_neg (by rw [h];decide)];simp
theorem outI_len (R:Nat→Nat) (x y:Int) (i:Nat):(outI R x y i).length≤i:=by
 unfold outI;rw [List.length_map];exact Nat.le_trans (List.length_filter_le _ _) (by simp)
theorem has8_even {R:Nat→Nat} {i:Nat} (h:i%2=0):Pg.has8 R i=true:=by unfold Pg.has8;simp [h]
theorem has8_odd {R:Nat→Nat} {i:Nat} (h:R i%2=1):Pg.has8 R i=true:=by unfold Pg.has8;simp [h]
theorem has8_not {R:Nat→Nat} {i:Nat} (h1:¬ i%2=0) (h2:¬ R i%2=1):Pg.has8 R i=false:=by unfold Pg.has8;simp [h1,h2]

theorem wpQuiet_hideK {P:Program} {ops:Array Oper} {C:World→Prop} {K:Act→Prop} {l:List Oper} {a:Act} (h:∀ K':Act→Prop,Hid (∀ a,K a→K' a)→wpQuiet P ops C K' l a):wpQuiet P ops C K l a:=h K (Lib.hid fun _ h=>h)
theorem run_lit3 (w:World) (a b c:Rat×Rat):(Instr.buildSlice 23 3 #[(0,pv a),(1,pv b),(2,pv c)]).run Tryz.prog w=.ok (.slice (some ⟨w.heap.size,0,none⟩) 3 3) (w.alloc (.cells (pcells a++pcells b++pcells c).toArray 45)):=by kernel_rfl
theorem wpList_lit3 {ops:Array Oper} {Q:Exit→Act→World→Prop} {a:Act} {w:World} {op:Oper} {rest:List Oper} (hg:op.guard=none) (x y z:Operand) (ho:op.op=.buildSlice 23 3 #[(0,x),(1,y),(2,z)]) (p q r:Rat×Rat)
 (hx:a.eval x=pv p) (hy:a.eval y=pv q) (hz:a.eval z=pv r) (h:wpList Tryz.prog ops Q rest (a.put op.dst (.slice (some ⟨w.heap.size,0,none⟩) 3 3)) (w.alloc (.cells (pcells p++pcells q++pcells r).toArray 45))):wpList Tryz.prog ops Q (op :: rest) a w :=
 wpList_plain hg fun _ hK=>by
  unfold Oper.wp execOp;simp only [ho,List.map_toArray,List.map_cons,List.map_nil,hx,hy,hz,run_lit3,Sem.run_bind,Result.andThen_ok,Sem.run_pure];show _;simp only [Oper.upon];exact hK _ _ h
theorem bd_head8 {P:Program} {ops:Array Oper} {Q:Exit→Act→World→Prop} {a:Act} {w:World} {rest:List Oper} {d:Option Tmp} {ty0:TypeId} {pos:String} {af:Array Edge} {g:Option (Nat×Bool)} {ty:TypeId} {x:Array (Nat×Operand)} (h:wpList P ops Q (⟨d,.build ty x,ty0,pos,af,g⟩ :: rest) a w):wpList P ops Q (⟨d,.build ty x,ty0,pos,af,g⟩ :: rest) a w:=h
theorem rOf_s1 (n:Int) (w:World) (h:Hid (-1000≤n∧n≤1000)):Calls Tryz.prog 42 #[.int .i64 n,.int .i64 1] w fun e w'=>e=.returned (qv (Rat.divInt n 1))∧Below w.heap.size w w':=rOf_any n 1 w (by decide) (Int.le_trans (by decide) h.out.1) (Int.le_trans h.out.2 (by decide)) (by decide) (by decide)
theorem rOf_s2 (n:Int) (w:World) (h:Hid (-1000≤n∧n≤1000)):Calls Tryz.prog 42 #[.int .i64 n,.int .i64 2] w fun e w'=>e=.returned (qv (Rat.divInt n 2))∧Below w.heap.size w w':=rOf_any n 2 w (by decide) (Int.le_trans (by decide) h.out.1) (Int.le_trans h.out.2 (by decide)) (by decide) (by decide)
theorem run_lit1 (w:World) (a:Rat×Rat):(Instr.buildSlice 23 1 #[(0,pv a)]).run Tryz.prog w=.ok (.slice (some ⟨w.heap.size,0,none⟩) 1 1) (w.alloc (.cells (pcells a).toArray 45)):=by kernel_rfl
theorem wpList_lit1 {ops:Array Oper} {Q:Exit→Act→World→Prop} {a:Act} {w:World} {op:Oper} {rest:List Oper} (hg:op.guard=none) (x:Operand) (ho:op.op=.buildSlice 23 1 #[(0,x)]) (p:Rat×Rat)
 (hx:a.eval x=pv p) (h:wpList Tryz.prog ops Q rest (a.put op.dst (.slice (some ⟨w.heap.size,0,none⟩) 1 1)) (w.alloc (.cells (pcells p).toArray 45))):wpList Tryz.prog ops Q (op :: rest) a w :=
 wpList_plain hg fun _ hK=>by
  unfold Oper.wp execOp;simp only [ho,List.map_toArray,List.map_cons,List.map_nil,hx,run_lit1,Sem.run_bind,Result.andThen_ok,Sem.run_pure];show _;simp only [Oper.upon];exact hK _ _ h
theorem built_pt (p q:Rat):Tryz.prog.built 45 [(0,.agg #[.bool (ng p.num),.string (mg p.num.natAbs),.bool false,.string (mg (dn p))]),(1,.agg #[.bool (ng q.num),.string (mg q.num.natAbs),.bool false,.string (mg (dn q))])]=some #[.bool (ng p.num),.string (mg p.num.natAbs),.bool false,.string (mg (dn p)),.bool (ng q.num),.string (mg q.num.natAbs),.bool false,.string (mg (dn q))]:=by kernel_rfl
theorem wpQuiet_bpt {ops:Array Oper} {C:World→Prop} {Q:Act→Prop} {rest:List Oper} {op:Oper} {a:Act} (hw:Region.wanted op (yielded ops a.tmps)=true) (x y:Operand) (ho:op.op=.build 45 #[(0,x),(1,y)]) (p q:Rat)
 (hx:a.eval x=qv p) (hy:a.eval y=qv q) (h:wpQuiet Tryz.prog ops C Q rest (a.put op.dst (pv (p,q)))):wpQuiet Tryz.prog ops C Q (op :: rest) a:=wpQuiet_build2 hw 45 0 1 x y ho (qv p) (qv q) _ hx hy (built_pt p q) h
theorem wpList_bpt {ops:Array Oper} {Q:Exit→Act→World→Prop} {rest:List Oper} {op:Oper} {a:Act} {w:World} (hg:op.guard=none) (x y:Operand) (ho:op.op=.build 45 #[(0,x),(1,y)]) (p q:Rat)
 (hx:a.eval x=qv p) (hy:a.eval y=qv q) (h:wpList Tryz.prog ops Q rest (a.put op.dst (pv (p,q))) w):wpList Tryz.prog ops Q (op :: rest) a w:=wpList_build2 hg 45 0 1 x y ho (qv p) (qv q) _ hx hy (built_pt p q) h
theorem remL (a n b:Nat) (h:a%n=b):((a:Int)).tmod n=b:=by rw [← h];rfl
theorem sh_step (R:Nat→Nat) (x y:Int) (i:Nat) (hR:∀ i,R i<256) (hx1 : -128≤x) (hx2:x≤127) (hy1 : -128≤y) (hy2:y≤127):∃ (ri hf mi rd:Nat) (dvx dvy mx my px py:Int),Hid (ri=R i)∧((ri:Nat):Int).tdiv 2=hf∧IntKind.u8.wrap (hf:Int)=hf∧((hf:Nat):Int).tmod 6=mi∧IntKind.u8.wrap (mi:Int)=mi∧IntKind.i64.wrap (mi:Int)=mi∧(2:Int)+(mi:Int)=rd∧IntKind.i64.wrap (rd:Int)=rd ∧
 Hid (dvx=Pg.dxI i)∧Hid (dvy=Pg.dyI i)∧dvx*(rd:Int)=mx∧IntKind.i64.wrap mx=mx∧x+mx=px∧IntKind.i64.wrap px=px∧dvy*(rd:Int)=my∧IntKind.i64.wrap my=my∧y+my=py∧IntKind.i64.wrap py=py ∧
 Hid (px=x+Pg.dxI i*Pg.rad R i)∧Hid (py=y+Pg.dyI i*Pg.rad R i)∧Hid (-1000≤px∧px≤1000)∧Hid (-1000≤py∧py≤1000):=by
 have hr:=hR i;have hm:R i/2%6<6:=Nat.mod_lt _ (by decide);have hd:R i/2<128:=by omega
 have e:Pg.rad R i=((2+R i/2%6:Nat):Int):=by unfold Pg.rad;omega
 have bx:=mul_bd (Pg.dxI i) (Pg.rad R i) (dx_le i).1 (dx_le i).2 (by rw [e];omega) (by rw [e];omega);have by':=mul_bd (Pg.dyI i) (Pg.rad R i) (dy_le i).1 (dy_le i).2 (by rw [e];omega) (by rw [e];omega)
 refine ⟨R i,R i/2,R i/2%6,2+R i/2%6,Pg.dxI i,Pg.dyI i,Pg.dxI i*Pg.rad R i,Pg.dyI i*Pg.rad R i,x+Pg.dxI i*Pg.rad R i,y+Pg.dyI i*Pg.rad R i,Lib.hid rfl,rfl,u8w _ (by omega),rfl,u8w _ (by omega),i64s _ (by omega) (by omega),by omega,i64s _ (by omega) (by omega),Lib.hid rfl,Lib.hid rfl,by rw [e],i64s _ (by omega) (by omega),rfl,i64s _ (by omega) (by omega),by rw [e],i64s _ (by omega) (by omega),rfl,i64s _ (by omega) (by omega),Lib.hid rfl,Lib.hid rfl,Lib.hid ⟨by omega,by omega⟩,Lib.hid ⟨by omega,by omega⟩⟩
theorem hl_step (x y:Int) (hole:Nat) (hh:hole<256) (hx1 : -128≤x) (hx2:x≤127) (hy1 : -128≤y) (hy2:y≤127):∃ (x2 xp xm y2 yp ym:Int) (hd:Nat),Hid (xp=2*x+1)∧Hid (xm=2*x-1)∧Hid (yp=2*y+1)∧Hid (ym=2*y-1)∧Hid (hd=hole/4) ∧
 2*x=x2∧IntKind.i64.wrap x2=x2∧x2+1=xp∧IntKind.i64.wrap xp=xp∧x2-1=xm∧IntKind.i64.wrap xm=xm∧2*y=y2∧IntKind.i64.wrap y2=y2∧y2+1=yp∧IntKind.i64.wrap yp=yp∧y2-1=ym∧IntKind.i64.wrap ym=ym∧((hole:Nat):Int).tdiv 4=hd∧IntKind.u8.wrap (hd:Int)=hd∧IntKind.i64.wrap (hd:Int)=hd ∧
 Hid (-1000≤xp∧xp≤1000)∧Hid (-1000≤xm∧xm≤1000)∧Hid (-1000≤yp∧yp≤1000)∧Hid (-1000≤ym∧ym≤1000)∧hd≤1000:=by
 refine ⟨2*x,2*x+1,2*x-1,2*y,2*y+1,2*y-1,hole/4,Lib.hid rfl,Lib.hid rfl,Lib.hid rfl,Lib.hid rfl,Lib.hid rfl,rfl,i64s _ (by omega) (by omega),rfl,i64s _ (by omega) (by omega),rfl,i64s _ (by omega) (by omega),rfl,i64s _ (by omega) (by omega),rfl,i64s _ (by omega) (by omega),rfl,i64s _ (by omega) (by omega),rfl,u8w _ (by omega),i64s _ (by omega) (by omega),Lib.hid ⟨by omega,by omega⟩,Lib.hid ⟨by omega,by omega⟩,Lib.hid ⟨by omega,by omega⟩,Lib.hid ⟨by omega,by omega⟩,by omega⟩
theorem d1 (n:Int):Rat.divInt n 1=(n:Rat):=by rw [Rat.divInt_eq_div];simp;grind
theorem d2 (n:Int):Rat.divInt n 2=(n:Rat)/2:=by rw [Rat.divInt_eq_div];rfl
theorem hole_l3 {x y xp xm yp:Int} (h1:xp=2*x+1) (h2:xm=2*x-1) (h3:yp=2*y+1):[(Rat.divInt xp 2,Rat.divInt y 1),(Rat.divInt x 1,Rat.divInt yp 2),(Rat.divInt xm 2,Rat.divInt y 1)]=Pg.hole0 x y false:=by
 simp only [d1,d2,h1,h2,h3];rfl
theorem hole_l4 {x y xp xm yp ym:Int} (h1:xp=2*x+1) (h2:xm=2*x-1) (h3:yp=2*y+1) (h4:ym=2*y-1):[(Rat.divInt xp 2,Rat.divInt y 1),(Rat.divInt x 1,Rat.divInt yp 2),(Rat.divInt xm 2,Rat.divInt y 1)]++[(Rat.divInt x 1,Rat.divInt ym 2)]=Pg.hole0 x y true:=by
 simp only [d1,d2,h1,h2,h3,h4];rfl
theorem hol_none {R:Nat→Nat} {x y:Int} {hole start:Nat} {back:Bool} (h:hole%2=0):(Pg.holeS ⟨R,x,y,hole,start,back⟩).toList=[]:=by
 unfold Pg.holeS;rw [if_neg (by simp [h])];rfl
theorem hol_some {R:Nat→Nat} {x y:Int} {hole start hd k:Nat} {back:Bool} (h:hole%2=1) (h4:hole%4=k) (hh:hd=hole/4):[Pg.turned (Pg.hole0 x y (decide (k=3))) hd back]=(Pg.holeS ⟨R,x,y,hole,start,back⟩).toList:=by
 unfold Pg.holeS Pg.holeL Pg.sqS;rw [if_pos (by simp [h])];simp only [h4,hh,Option.toList]
section
variable {w1:World} {b8 b2:Nat} {u z:Value} {l h:List (Rat×Rat)} {A A2 B B2:Option Addr} {m k m' k' m2 k2 m2' k2':Nat} {T:TypeId}
theorem pol_pv (hp:PV w1 u l) (h8:Own w1 b8 0 [.slice A m k,.slice B m' k']) (h2:Own w1 b2 0 [.slice A2 m2 k2,.slice B2 m2' k2']) (hne:b8≠b2) (v1 v2 v3:Value) (o:Obj) :
 PV ((((w1.setCell ⟨b8,1,none⟩ v1).setCell ⟨b2,0,none⟩ v2).setCell ⟨b2,1,none⟩ v3).alloc o) u l:=by
 refine PV.up ?_ ((Below.refl _ _).alloc (Nat.le_refl _) _)
 exact pv_setS (pv_setS (pv_setS hp h8.2.1.1) ((World.cell?_setCell_other _ _ _ _ (fun e=>by injection e with e1;exact hne (by first|exact e1|exact e1.symm))).trans h2.1.1))
  ((World.cell?_setCell_other _ _ _ _ (fun e=>by injection e with _ e2;cases e2)).trans ((World.cell?_setCell_other _ _ _ _ (fun e=>by injection e with e1;exact hne (by first|exact e1|exact e1.symm))).trans h2.2.1.1))
theorem vll_cell {w:World} {b:Nat} {v:Value} (hc:w.cell? ⟨b,0,none⟩=some v):VLL w (.slice (some ⟨b,0,none⟩) 1 1) [v]:=by
 refine ⟨by simp [vls,vlc],.inr ⟨b,0,1,rfl,Nat.le_refl _,by decide,fun j u hj => ?_⟩⟩;rw [vls_eq] at hj
 cases j with
 | zero=>simp at hj;subst hj;exact hc
 | succ j=>simp at hj
theorem pol_rl (hp:PV w1 z h) (h8:Own w1 b8 0 [.slice A m k,.slice B m' k']) (h2:Own w1 b2 0 [.slice A2 m2 k2,.slice B2 m2' k2']) (hne:b8≠b2) (v1 v2 v3:Value) :
 RL ((((w1.setCell ⟨b8,1,none⟩ v1).setCell ⟨b2,0,none⟩ v2).setCell ⟨b2,1,none⟩ v3).alloc (.cells #[z] T)) (.slice (some ⟨w1.heap.size,0,none⟩) 1 1) [h]:=by
 refine ⟨[z],vll_cell ?_,rgs_one (pol_pv hp h8 h2 hne v1 v2 v3 _)⟩;rw [World.cell?_alloc_at _ _ _ _ (by simp)];rfl
end

set_option maxHeartbeats 40000000 in
theorem polygon_any (R:Nat→Nat) (x y:Int) (hole start:Nat) (back:Bool) (w:World) (hR:∀ i,R i<256) (hx1 : -128≤x) (hx2:x≤127) (hy1 : -128≤y) (hy2:y≤127) (hhl:hole<256) (hsl:start<256) :
 Calls Tryz.prog 19 #[.agg #[.int .u8 (R 0:Nat),.int .u8 (R 1:Nat),.int .u8 (R 2:Nat),.int .u8 (R 3:Nat),.int .u8 (R 4:Nat),.int .u8 (R 5:Nat),.int .u8 (R 6:Nat),.int .u8 (R 7:Nat),.int .i8 x,.int .i8 y,.int .u8 hole,.int .u8 start,.bool back]] w fun e w'=>∃ v',e=.returned v'∧PoV w' v' (Pg.outerS ⟨R,x,y,hole,start,back⟩) (Pg.holeS ⟨R,x,y,hole,start,back⟩).toList∧Below w.heap.size w w':=by
 have ex:=i64s x (by omega) (by omega);have ey:=i64s y (by omega) (by omega);have es:=i64s (start:Int) (by omega) (by omega);have hst:start≤1000:=by omega
 have HBx:Hid (-1000≤x∧x≤1000):=Lib.hid ⟨by omega,by omega⟩;have HBy:Hid (-1000≤y∧y≤1000):=Lib.hid ⟨by omega,by omega⟩;go_enter Tryz.func19,Tryz.ntmps19;go_wp2_with fail;refine wp_named ?_;intro W1 hW1;have hL1:LB7 w W1:=by rw [hW1];exact bB
 have c1:Own W1 w.heap.size 0 [.int .u8 (R 0:Nat),.int .u8 (R 1:Nat),.int .u8 (R 2:Nat),.int .u8 (R 3:Nat),.int .u8 (R 4:Nat),.int .u8 (R 5:Nat),.int .u8 (R 6:Nat),.int .u8 (R 7:Nat),.int .i8 x,.int .i8 y,.int .u8 hole,.int .u8 start,.bool back]:=by
  rw [hW1]
  first
  | (repeat (first|(with_reducible refine own_new ?_;(simp;done))|with_reducible refine Own.alloc ?_ _|refine Own.far _ _ (by first|(simp;done)|(simp [*];done)|(simp;omega)) ?_));done
  | simp [Own,go_sem]
 have c2:Own W1 (w.heap.size+1) 0 [.slice none 0 0,.slice none 0 0]:=by
  rw [hW1]
  first
  | (repeat (first|(with_reducible refine own_new ?_;(simp;done))|with_reducible refine Own.alloc ?_ _|refine Own.far _ _ (by first|(simp;done)|(simp [*];done)|(simp;omega)) ?_));done
  | simp [Own,go_sem]
 have c3:Own W1 (w.heap.size+2) 0 [.int .i64 1,.int .i64 1,.int .i64 0,.int .i64 (-1),.int .i64 (-1),.int .i64 (-1),.int .i64 0,.int .i64 1]:=by
  rw [hW1]
  first
  | (repeat (first|(with_reducible refine own_new ?_;(simp;done))|with_reducible refine Own.alloc ?_ _|refine Own.far _ _ (by first|(simp;done)|(simp [*];done)|(simp;omega)) ?_));done
  | simp [Own,go_sem]
 have c4:Own W1 (w.heap.size+3) 0 [.int .i64 0,.int .i64 1,.int .i64 1,.int .i64 1,.int .i64 0,.int .i64 (-1),.int .i64 (-1),.int .i64 (-1)]:=by
  rw [hW1]
  first
  | (repeat (first|(with_reducible refine own_new ?_;(simp;done))|with_reducible refine Own.alloc ?_ _|refine Own.far _ _ (by first|(simp;done)|(simp [*];done)|(simp;omega)) ?_));done
  | simp [Own,go_sem]
 have hB5:LB7 w W1:=by rw [hW1];exact bB
 clear hW1 hL1;go_loopw [5,6] (fun s5 s6 wr=>∃ (i:Nat) (n:Nat) (L:List (Rat×Rat)),s6=.int .i64 i∧Own wr w.heap.size 0 [.int .u8 (R 0:Nat),.int .u8 (R 1:Nat),.int .u8 (R 2:Nat),.int .u8 (R 3:Nat),.int .u8 (R 4:Nat),.int .u8 (R 5:Nat),.int .u8 (R 6:Nat),.int .u8 (R 7:Nat),.int .i8 x,.int .i8 y,.int .u8 hole,.int .u8 start,.bool back]∧Own wr (w.heap.size+1) 0 [.slice none 0 0,.slice none 0 0]∧Own wr (w.heap.size+2) 0 [.int .i64 1,.int .i64 1,.int .i64 0,.int .i64 (-1),.int .i64 (-1),.int .i64 (-1),.int .i64 0,.int .i64 1]∧Own wr (w.heap.size+3) 0 [.int .i64 0,.int .i64 1,.int .i64 1,.int .i64 1,.int .i64 0,.int .i64 (-1),.int .i64 (-1),.int .i64 (-1)]∧wr.ownsRow w.heap.size 45 8 s5 n (pts L)∧Value.ownBlock s5≠some w.heap.size∧Value.ownBlock s5≠some (w.heap.size+1)∧Value.ownBlock s5≠some (w.heap.size+2)∧Value.ownBlock s5≠some (w.heap.size+3)∧Below w.heap.size w wr∧i≤8∧n≤i∧Hid (L=outI R x y i)) (fun _ s6 _=>8-(intOf s6).toNat)
 case atStart=>exact ⟨0,0,([]),rfl,c1,c2,c3,c4,World.ownsRow_nil _ _ _ _,by simp [Value.ownBlock],by simp [Value.ownBlock],by simp [Value.ownBlock],by simp [Value.ownBlock],hB5,(by omega),(by omega),Lib.hid rfl⟩
 case round =>
  clear c1 c2 c3 c4 hB5;obtain ⟨i,n,L,rfl,b6,b7,b8,b9,o10,f11,f12,f13,f14,hB15,hi,hni,HE⟩:=hrel;obtain ⟨wr16,hwr16⟩:∃ W_,W_=wr:=⟨_,rfl⟩
  subst hwr16;have O17:=Lib.hid o10;clear o10;rcases (by omega:(i<8∧i%2=0)∨(i<8∧i%2=1)∨i=8) with ⟨hi8,hp⟩|⟨hi8,hp⟩|hi8
  ·skip
   have i1:(i:Int)<8:=by omega
   have a1:((i:Nat):Int).tmod 2=0:=remL i 2 0 hp;obtain ⟨ri,hf,mi,rd,dvx,dvy,mx,my,px,py,HRI,q1,q2,q3,q4,q5,q6,q7,HDX,HDY,m1,m2,m3,m4,m5,m6,m7,m8,HPX,HPY,HBpx,HBpy⟩:=sh_step R x y i hR hx1 hx2 hy1 hy2;have cR:=own_get b6 (rad_get R i hi8 _);rw [← HRI.out] at cR;have HAS:=Lib.hid (has8_even (R:=R) hp);clear hp;have K18:=Lib.hid (fun W=>at8_any px py W (Int.le_trans (by decide) HBpx.out.1) (Int.le_trans HBpx.out.2 (by decide)) (Int.le_trans (by decide) HBpy.out.1) (Int.le_trans HBpy.out.2 (by decide)));go_wp2_with fail;refine wp_named ?_;intro W2 hW2;have hL2:LB7 wr16 W2:=by rw [hW2];exact bB
   have c19:=b6.up hL2;have c20:=b7.up hL2;have c21:=b8.up hL2;have c22:=b9.up hL2;have O23:=Lib.hid (owns_up O17.out hL2);have hB24:LB7 w W2:=by rw [hW2];exact bB
   clear hW2 hL2 b6 b7 b8 b9;have dc19:=fun p:Bel W2=>c19.bel p;have dc20:=fun p:Bel W2=>c20.bel p;have dc21:=fun p:Bel W2=>c21.bel p;have dc22:=fun p:Bel W2=>c22.bel p
   simp only [At,Own,Nat.reduceAdd,and_true] at dc19 dc20 dc21 dc22;have dX:∀ p:Bel W2,p.w1.cell? ⟨w.heap.size+2,i,none⟩=some (.int .i64 dvx):=fun p=>by rw [HDX.out];exact own_get (c21.bel p) (dx_get i hi8)
   have dY:∀ p:Bel W2,p.w1.cell? ⟨w.heap.size+3,i,none⟩=some (.int .i64 dvy):=fun p=>by rw [HDY.out];exact own_get (c22.bel p) (dy_get i hi8)
   refine wp_region_tail1 22 (.tmp 5) (by kernel_rfl) (by kernel_rfl) rfl rfl (fun _ _ _ h=>h) ?_;simp only [List.take_succ_cons,List.take_zero,List.drop_succ_cons,List.drop_zero];go_simp;repeat (go_big_quiet_step (first|(go_at_call 51;with_reducible exact Calls.bel (K18.out _))))
   refine wpQuiet_nil ?_;intro w2 hb2;have c25:=c19.up hb2;have c26:=c20.up hb2;have c27:=c21.up hb2;have c28:=c22.up hb2;have O29:=Lib.hid (owns_up O23.out hb2);have hB30:LB7 w w2:=bel_up hB24 hb2;clear dc19 dc20 dc21 dc22 dX dY c19 c20 c21 c22 O23;have uc25:=c25;have uc26:=c26;have uc27:=c27;have uc28:=c28;simp only [At,Own,Nat.reduceAdd,and_true] at uc25 uc26 uc27 uc28;go_wp2_with (at_builtin;refine wpList_appF rfl _ _ _ rfl ti_pt O29.out (hB30).size rfl rfl rfl rfl (pcells_one (Pg.ptI px py)) (by omega) (by decide) ?_)
   intro v31 w_v31 hown_v31 hst_v31;have O33:Hid (w_v31.ownsRow w.heap.size 45 8 v31 ((n+1)) (pts (L++[(Pg.ptI px py)]))):=Lib.hid (by rw [pts_snoc];exact hown_v31);have c34:=Own.step hst_v31 f11 c25;have f35:=hst_v31.far _ c25.lt f11;have c36:=Own.step hst_v31 f12 c26;have f37:=hst_v31.far _ c26.lt f12;have c38:=Own.step hst_v31 f13 c27;have f39:=hst_v31.far _ c27.lt f13;have c40:=Own.step hst_v31 f14 c28;have f41:=hst_v31.far _ c28.lt f14;have hB42:LB7 w w_v31:=hst_v31.below hB30 (hB30).size (fun r hr=>(O29.out.lt r hr).1);clear uc25 uc26 uc27 uc28 hown_v31 c25 c26 c27 c28;have uc34:=c34;have uc36:=c36;have uc38:=c38;have uc40:=c40;simp only [At,Own,Nat.reduceAdd,and_true] at uc34 uc36 uc38 uc40;go_wp2;go_roundw
   case rel=>exact ⟨(i+1),(n+1),(L++[(Pg.ptI px py)]),(by first|rfl|exact congrArg (Value.int .i64) (by omega)|simp [*]),oFB7,oFB7,oFB7,oFB7,(by repeat (first|with_reducible exact O33.out|refine owns_far ?_ _ (by first|exact f35|exact f37|exact f39|exact f41) _|with_reducible refine World.ownsRow.alloc ?_ _)),f35,f37,f39,f41,(by exact bB),(by omega),(by omega),Lib.hid (by rw [HE.out];exact (outI_yes HAS.out HPX.out HPY.out).symm)⟩
   case measure=>simp [intOf]<;>omega
  ·skip
   have i1:(i:Int)<8:=by omega
   have a1:((i:Nat):Int).tmod 2=1:=remL i 2 1 hp;obtain ⟨ri,hf,mi,rd,dvx,dvy,mx,my,px,py,HRI,q1,q2,q3,q4,q5,q6,q7,HDX,HDY,m1,m2,m3,m4,m5,m6,m7,m8,HPX,HPY,HBpx,HBpy⟩:=sh_step R x y i hR hx1 hx2 hy1 hy2;have cR:=own_get b6 (rad_get R i hi8 _);rw [← HRI.out] at cR;have hrc:ri%2=1∨ri%2=0:=by omega
   rcases hrc with hq|hq
   ·skip
    have b1:((ri:Nat):Int).tmod 2=1:=remL ri 2 1 hq;have HAS:=Lib.hid (has8_odd (R:=R) (i:=i) (by rw [← HRI.out];exact hq));clear hp hq;have K43:=Lib.hid (fun W=>at8_any px py W (Int.le_trans (by decide) HBpx.out.1) (Int.le_trans HBpx.out.2 (by decide)) (Int.le_trans (by decide) HBpy.out.1) (Int.le_trans HBpy.out.2 (by decide)));go_wp2_with fail;refine wp_named ?_;intro W3 hW3;have hL3:LB7 wr16 W3:=by rw [hW3];exact bB
    have c44:=b6.up hL3;have c45:=b7.up hL3;have c46:=b8.up hL3;have c47:=b9.up hL3;have O48:=Lib.hid (owns_up O17.out hL3);have hB49:LB7 w W3:=by rw [hW3];exact bB
    clear hW3 hL3 b6 b7 b8 b9;have dc44:=fun p:Bel W3=>c44.bel p;have dc45:=fun p:Bel W3=>c45.bel p;have dc46:=fun p:Bel W3=>c46.bel p;have dc47:=fun p:Bel W3=>c47.bel p
    simp only [At,Own,Nat.reduceAdd,and_true] at dc44 dc45 dc46 dc47;have dX:∀ p:Bel W3,p.w1.cell? ⟨w.heap.size+2,i,none⟩=some (.int .i64 dvx):=fun p=>by rw [HDX.out];exact own_get (c46.bel p) (dx_get i hi8)
    have dY:∀ p:Bel W3,p.w1.cell? ⟨w.heap.size+3,i,none⟩=some (.int .i64 dvy):=fun p=>by rw [HDY.out];exact own_get (c47.bel p) (dy_get i hi8)
    refine wp_region_tail1 22 (.tmp 5) (by kernel_rfl) (by kernel_rfl) rfl rfl (fun _ _ _ h=>h) ?_;simp only [List.take_succ_cons,List.take_zero,List.drop_succ_cons,List.drop_zero];go_simp;repeat (go_big_quiet_step (first|(go_at_call 51;with_reducible exact Calls.bel (K43.out _))))
    refine wpQuiet_nil ?_;intro w3 hb3;have c50:=c44.up hb3;have c51:=c45.up hb3;have c52:=c46.up hb3;have c53:=c47.up hb3;have O54:=Lib.hid (owns_up O48.out hb3);have hB55:LB7 w w3:=bel_up hB49 hb3;clear dc44 dc45 dc46 dc47 dX dY c44 c45 c46 c47 O48;have uc50:=c50;have uc51:=c51;have uc52:=c52;have uc53:=c53;simp only [At,Own,Nat.reduceAdd,and_true] at uc50 uc51 uc52 uc53;go_wp2_with (at_builtin;refine wpList_appF rfl _ _ _ rfl ti_pt O54.out (hB55).size rfl rfl rfl rfl (pcells_one (Pg.ptI px py)) (by omega) (by decide) ?_)
    intro v56 w_v56 hown_v56 hst_v56;have O58:Hid (w_v56.ownsRow w.heap.size 45 8 v56 ((n+1)) (pts (L++[(Pg.ptI px py)]))):=Lib.hid (by rw [pts_snoc];exact hown_v56);have c59:=Own.step hst_v56 f11 c50;have f60:=hst_v56.far _ c50.lt f11;have c61:=Own.step hst_v56 f12 c51;have f62:=hst_v56.far _ c51.lt f12;have c63:=Own.step hst_v56 f13 c52;have f64:=hst_v56.far _ c52.lt f13;have c65:=Own.step hst_v56 f14 c53;have f66:=hst_v56.far _ c53.lt f14;have hB67:LB7 w w_v56:=hst_v56.below hB55 (hB55).size (fun r hr=>(O54.out.lt r hr).1);clear uc50 uc51 uc52 uc53 hown_v56 c50 c51 c52 c53;have uc59:=c59;have uc61:=c61;have uc63:=c63;have uc65:=c65;simp only [At,Own,Nat.reduceAdd,and_true] at uc59 uc61 uc63 uc65;go_wp2;go_roundw
    case rel=>exact ⟨(i+1),(n+1),(L++[(Pg.ptI px py)]),(by first|rfl|exact congrArg (Value.int .i64) (by omega)|simp [*]),oFB7,oFB7,oFB7,oFB7,(by repeat (first|with_reducible exact O58.out|refine owns_far ?_ _ (by first|exact f60|exact f62|exact f64|exact f66) _|with_reducible refine World.ownsRow.alloc ?_ _)),f60,f62,f64,f66,(by exact bB),(by omega),(by omega),Lib.hid (by rw [HE.out];exact (outI_yes HAS.out HPX.out HPY.out).symm)⟩
    case measure=>simp [intOf]<;>omega
   ·skip
    have b1:((ri:Nat):Int).tmod 2=0:=remL ri 2 0 hq;have HAS:=Lib.hid (has8_not (R:=R) (i:=i) (by rw [hp];decide) (by rw [← HRI.out,hq];decide));clear hp hq;have ub6:=b6;have ub7:=b7;have ub8:=b8;have ub9:=b9;simp only [At,Own,Nat.reduceAdd,and_true] at ub6 ub7 ub8 ub9;go_wp2;go_roundw
    case rel=>exact ⟨(i+1),n,L,(by first|rfl|exact congrArg (Value.int .i64) (by omega)|simp [*]),oFB7,oFB7,oFB7,oFB7,(by repeat (first|with_reducible exact O17.out|refine owns_far ?_ _ (by first|exact f11|exact f12|exact f13|exact f14) _|with_reducible refine World.ownsRow.alloc ?_ _)),f11,f12,f13,f14,(by exact bB),(by omega),(by omega),Lib.hid (by rw [HE.out];exact (outI_no HAS.out).symm)⟩
    case measure=>simp [intOf]<;>omega
  ·skip
   have i1:¬ (i:Int)<8:=by omega
   have PVL:=Lib.hid (pv_own O17.out);have HLX:Hid (L=Pg.outer0 R x y):=Lib.hid (by rw [HE.out,hi8];rfl);have hln:L.length≤1000:=by rw [HE.out,hi8];exact Nat.le_trans (outI_len _ _ _ _) (by decide)
   have htl:(Pg.turned L start back).length≤1000000:=by rw [tu_len];omega
   clear HE O17;clear b8;clear b9;have ub6:=b6;have ub7:=b7;simp only [At,Own,Nat.reduceAdd,and_true] at ub6 ub7;have K68:=Lib.hid (fun W (hW:PV W u5 L)=>turned_all _ L start back W hW hln hst);go_wp2_with (fail)
   refine calls_named ?_;intro W4 hW4;have hL4:LB7 wr16 W4:=by rw [hW4];exact bB
   have c69:=b6.up hL4;have c70:=b7.up hL4;have hA71:=hL4;have hB72:LB7 w W4:=by rw [hW4];exact bB
   clear hW4 hL4 ub6 ub7 b6 b7;with_reducible refine (K68.out _ (PVL.out.up hA71)).mono ?_
   rintro e w4 ⟨v4,rfl,hv4,hb4⟩;have c73:=c69.up hb4;have c74:=c70.up hb4;have hA75:=bel_up hA71 hb4;have hB76:LB7 w w4:=bel_up hB72 hb4;clear c69 c70 hA71;obtain ⟨l4,hl4⟩:∃ y_,y_=(Pg.turned L start back):=⟨_,rfl⟩
   rw [← hl4] at hv4;obtain ⟨A4,c4,rfl,hcc4,hmm4,hx4⟩:=hv4.open_;have XX4:=Lib.hid hx4;have HL4:=Lib.hid hl4;have PL4:=Lib.hid hv4;clear hx4 hv4;have hlen4:l4.length=(Pg.turned L start back).length:=by rw [HL4.out];done
   have hle4:l4.length≤1000000:=by rw [hlen4];omega
   have HLEN4:=Lib.hid hlen4;clear hl4 hlen4;generalize hn4:l4.length=N4 at *;have HN4:=Lib.hid hn4;clear hn4;have an77:wr16.heap.size≤w4.heap.size:=by have:=hA75.size;omega
   have an78:w4.heap.size≤w4.heap.size:=by omega
   have ne79_:w.heap.size<w4.heap.size:=by have:=c73.lt;omega
   have ne79:=Nat.ne_of_lt ne79_;have ne79':=ne79.symm;have ne80_:w.heap.size+1<w4.heap.size:=by have:=c74.lt;omega
   have ne80:=Nat.ne_of_lt ne80_;have ne80':=ne80.symm;have uc73:=c73;have uc74:=c74;simp only [At,Own,Nat.reduceAdd,and_true] at uc73 uc74;go_upto_region 10 with fail
   refine wp_named ?_;intro W5 hW5;have hL5:LB7 w4 W5:=by rw [hW5];exact bB
   have c81:=c73.up hL5;have c82:=c74.up hL5
   have c83:Own W5 w4.heap.size 0 [.slice A4 N4 c4,.slice none 0 0]:=by
    rw [hW5]
    first
    | (repeat (first|(with_reducible refine own_new ?_;(simp;done))|with_reducible refine Own.alloc ?_ _|refine Own.far _ _ (by first|(simp;done)|(simp [*];done)|(simp;omega)) ?_));done
    | simp [Own,go_sem,uc73,uc74,ne79,ne79',ne79_,ne80,ne80',ne80_]
   have hA84:=bel_up hA75 hL5;have hA85:=hL5;have hB86:LB7 w W5:=by rw [hW5];exact bB
   clear hW5 hL5 uc73 uc74 c73 c74 hA75;rcases (by omega:hole%2=0∨(hole%2=1∧hole%4=1)∨(hole%2=1∧hole%4=3)) with hh|⟨hh,hh4⟩|⟨hh,hh4⟩
   ·skip
    as_aux_lemma =>
     have g1:((hole:Nat):Int).tmod 2=0:=remL hole 2 0 hh;have uc81:=c81;have uc82:=c82;have uc83:=c83;simp only [At,Own,Nat.reduceAdd,and_true] at uc81 uc82 uc83;go_wp2;refine bodyPost_ret (v:=.agg #[.slice A4 N4 c4,.slice none 0 0]) (by simp [results,Tryz.results19,go_sem,uc81,uc82,uc83]) rfl ⟨_,rfl,⟨_,_,rfl,by rw [show Pg.outerS ⟨R,x,y,hole,start,back⟩=l4 from by rw [HL4.out,HLX.out];rfl];exact pv_set2 (PL4.out.up hA85) c82,by rw [show (Pg.holeS ⟨R,x,y,hole,start,back⟩).toList=[] from hol_none hh];exact rl_nil _⟩,?_⟩;exact bB
   ·skip
    as_aux_lemma =>
     have g1:((hole:Nat):Int).tmod 2=1:=remL hole 2 1 hh;have g2:((hole:Nat):Int).tmod 4=1:=remL hole 4 1 hh4;obtain ⟨x2,xp,xm,y2,yp,ym,hd,HXP,HXM,HYP,HYM,HHD,n1,n2,n3,n4,n5,n6,n7,n8,n9,n10,n11,n12,n13,n14,n15,HBxp,HBxm,HByp,HBym,hhd⟩:=hl_step x y hole hhl hx1 hx2 hy1 hy2;obtain ⟨fxp,hfxp⟩:∃ z,Rat.divInt xp 2=z:=⟨_,rfl⟩
     have Hfxp:=Lib.hid hfxp;clear hfxp;obtain ⟨fy,hfy⟩:∃ z,Rat.divInt y 1=z:=⟨_,rfl⟩
     have Hfy:=Lib.hid hfy;clear hfy;obtain ⟨fx,hfx⟩:∃ z,Rat.divInt x 1=z:=⟨_,rfl⟩
     have Hfx:=Lib.hid hfx;clear hfx;obtain ⟨fyp,hfyp⟩:∃ z,Rat.divInt yp 2=z:=⟨_,rfl⟩
     have Hfyp:=Lib.hid hfyp;clear hfyp;obtain ⟨fxm,hfxm⟩:∃ z,Rat.divInt xm 2=z:=⟨_,rfl⟩
     have Hfxm:=Lib.hid hfxm;clear hfxm;obtain ⟨fym,hfym⟩:∃ z,Rat.divInt ym 2=z:=⟨_,rfl⟩
     have Hfym:=Lib.hid hfym;clear hfym;have uc81:=c81;have uc82:=c82;have uc83:=c83;simp only [At,Own,Nat.reduceAdd,and_true] at uc81 uc82 uc83;have K87:=Lib.hid (fun W=>Hfxp.out▸rOf_s2 xp W HBxp);have K88:=Lib.hid (fun W=>Hfy.out▸rOf_s1 y W HBy);have K89:=Lib.hid (fun W=>Hfx.out▸rOf_s1 x W HBx);have K90:=Lib.hid (fun W=>Hfyp.out▸rOf_s2 yp W HByp);have K91:=Lib.hid (fun W=>Hfxm.out▸rOf_s2 xm W HBxm);go_wp2_with fail;refine wp_named ?_;intro W6 hW6;have hL6:LB7 W5 W6:=by rw [hW6];exact bB
     have c92:=c81.up hL6;have c93:=c82.up hL6;have c94:=c83.up hL6;have hA95:=bel_up hA84 hL6;have hA96:=bel_up hA85 hL6;have hB97:LB7 w W6:=by rw [hW6];exact bB
     clear hW6 hL6 uc81 uc82 uc83 c81 c82 c83 hA84 hA85;have dc92:=fun p:Bel W6=>c92.bel p;have dc93:=fun p:Bel W6=>c93.bel p;have dc94:=fun p:Bel W6=>c94.bel p
     simp only [At,Own,Nat.reduceAdd,and_true] at dc92 dc93 dc94;refine wp_region_tail 33 (by kernel_rfl) (by kernel_rfl) ?_;simp only [List.take_succ_cons,List.take_zero,List.drop_succ_cons,List.drop_zero];refine wpQuiet_hideK fun K_ hK_ => ?_
     iterate 10 (go_big_quiet_step (first|(go_at_call 42;with_reducible exact Calls.bel (K87.out _))|(go_at_call 42;with_reducible exact Calls.bel (K88.out _))))
     with_reducible refine qb_head ?_
     refine wpQuiet_bpt ?qw98 (.tmp 76) (.tmp 80) ?qo98 fxp fy ?qx98 ?qy98 ?_
     case qw98=>rfl
     case qo98=>rfl
     case qx98=>rfl
     case qy98=>rfl
     simp only [Act.put,List.setIfInBounds_toArray,List.set_cons_zero,List.set_cons_succ]
     iterate 10 (go_big_quiet_step (first|(go_at_call 42;with_reducible exact Calls.bel (K89.out _))|(go_at_call 42;with_reducible exact Calls.bel (K90.out _))))
     with_reducible refine qb_head ?_
     refine wpQuiet_bpt ?qw99 (.tmp 85) (.tmp 91) ?qo99 fx fyp ?qx99 ?qy99 ?_
     case qw99=>rfl
     case qo99=>rfl
     case qx99=>rfl
     case qy99=>rfl
     simp only [Act.put,List.setIfInBounds_toArray,List.set_cons_zero,List.set_cons_succ]
     iterate 10 (go_big_quiet_step (first|(go_at_call 42;with_reducible exact Calls.bel (K91.out _))|(go_at_call 42;with_reducible exact Calls.bel (K88.out _))))
     with_reducible refine qb_head ?_
     refine wpQuiet_bpt ?qw100 (.tmp 98) (.tmp 102) ?qo100 fxm fy ?qx100 ?qy100 ?_
     case qw100=>rfl
     case qo100=>rfl
     case qx100=>rfl
     case qy100=>rfl
     simp only [Act.put,List.setIfInBounds_toArray,List.set_cons_zero,List.set_cons_succ];refine wpQuiet_nil ?_;refine hK_.out _ ?_;clear hK_;intro w6 hb6;have c101:=c92.up hb6;have c102:=c93.up hb6;have c103:=c94.up hb6;have hA104:=bel_up hA95 hb6;have hA105:=bel_up hA96 hb6;have hB106:LB7 w w6:=bel_up hB97 hb6;clear dc92 dc93 dc94 c92 c93 c94 hA95 hA96;have uc101:=c101;have uc102:=c102;have uc103:=c103;simp only [At,Own,Nat.reduceAdd,and_true] at uc101 uc102 uc103;refine wpList_lit3 rfl (.tmp 81) (.tmp 92) (.tmp 103) rfl (fxp,fy) (fx,fyp) (fxm,fy) rfl rfl rfl ?_;obtain ⟨gH,hgH⟩:∃ z,z=w6.heap.size:=⟨_,rfl⟩
     obtain ⟨WL107,hWL107⟩:∃ W_,W_=World.alloc w6 (.cells (pcells (fxp,fy)++pcells (fx,fyp)++pcells (fxm,fy)).toArray 45):=⟨_,rfl⟩
     rw [← hWL107,← hgH];have bL107:Below w6.heap.size w6 WL107:=by rw [hWL107];exact (Below.refl _ _).alloc (Nat.le_refl _) _
     have OH:Hid (WL107.ownsRow w.heap.size 45 8 (.slice (some ⟨gH,0,none⟩) 3 3) 3 (pts [(fxp,fy),(fx,fyp),(fxm,fy)])):=Lib.hid (by rw [hWL107,hgH];exact World.ownsRow_lit (e:=45) (size:=8) w6 (pcells (fxp,fy)++pcells (fx,fyp)++pcells (fxm,fy)).toArray 3 (hB106).size (by decide) rfl);have ga108:wr16.heap.size≤gH:=by rw [hgH];exact hA104.size
     have ga109:w4.heap.size≤gH:=by rw [hgH];exact hA105.size
     have f110:(Value.slice (some ⟨gH,0,none⟩) 3 3).ownBlock≠some w.heap.size:=fun e_=>by have h1_:=c101.lt;have h2_:gH=w.heap.size:=Option.some.inj e_;omega
     have f111:(Value.slice (some ⟨gH,0,none⟩) 3 3).ownBlock≠some (w.heap.size+1):=fun e_=>by have h1_:=c102.lt;have h2_:gH=w.heap.size+1:=Option.some.inj e_;omega
     have f112:(Value.slice (some ⟨gH,0,none⟩) 3 3).ownBlock≠some w4.heap.size:=fun e_=>by have h1_:=c103.lt;have h2_:gH=w4.heap.size:=Option.some.inj e_;omega
     have c113:=c101.up bL107;have c114:=c102.up bL107;have c115:=c103.up bL107;have hA116:=bel_up hA104 bL107;have hA117:=bel_up hA105 bL107;have hB118:LB7 w WL107:=bel_up hB106 bL107;clear uc101 uc102 uc103 c101 c102 c103 hA104 hA105;clear hWL107 hgH;simp only [Act.put,List.setIfInBounds_toArray,List.set_cons_zero,List.set_cons_succ];have uc113:=c113;have uc114:=c114;have uc115:=c115;simp only [At,Own,Nat.reduceAdd,and_true] at uc113 uc114 uc115;obtain ⟨lH,hlH⟩:∃ z,z=[(fxp,fy),(fx,fyp),(fxm,fy)]:=⟨_,rfl⟩
     have HLH:Hid (lH=Pg.hole0 x y false):=Lib.hid (by rw [hlH,← Hfxp.out,← Hfy.out,← Hfx.out,← Hfyp.out,← Hfxm.out];exact hole_l3 HXP.out HXM.out HYP.out);have PVH:Hid (PV WL107 (.slice (some ⟨gH,0,none⟩) 3 3) lH):=Lib.hid (by rw [hlH];exact pv_own OH.out);have hlnH:lH.length≤1000:=by rw [hlH];exact Nat.le_of_ble_eq_true rfl
     have htlH:(Pg.turned lH hd back).length≤1000000:=by rw [tu_len];omega
     clear hlH OH;have K119:=Lib.hid (fun W (hW:PV W (.slice (some ⟨gH,0,none⟩) 3 3) lH)=>turned_all _ lH hd back W hW hlnH hhd);go_wp2_with (fail)
     refine calls_named ?_;intro W7 hW7;have hL7:LB7 WL107 W7:=by rw [hW7];exact bB
     have c120:=c113.up hL7;have c121:=c114.up hL7;have c122:=c115.up hL7;have hA123:=bel_up hA116 hL7;have hA124:=bel_up hA117 hL7;have hA125:=hL7;have hB126:LB7 w W7:=by rw [hW7];exact bB
     clear hW7 hL7 uc113 uc114 uc115 c113 c114 c115 hA116 hA117;with_reducible refine (K119.out _ (PVH.out.up hA125)).mono ?_
     rintro e w7 ⟨v7,rfl,hv7,hb7⟩;have c127:=c120.up hb7;have c128:=c121.up hb7;have c129:=c122.up hb7;have hA130:=bel_up hA123 hb7;have hA131:=bel_up hA124 hb7;have hA132:=bel_up hA125 hb7;have hB133:LB7 w w7:=bel_up hB126 hb7;clear c120 c121 c122 hA123 hA124 hA125;obtain ⟨l7,hl7⟩:∃ y_,y_=(Pg.turned lH hd back):=⟨_,rfl⟩
     rw [← hl7] at hv7;obtain ⟨A7,c7,rfl,hcc7,hmm7,hx7⟩:=hv7.open_;have XX7:=Lib.hid hx7;have HL7:=Lib.hid hl7;have PL7:=Lib.hid hv7;clear hx7 hv7;have hlen7:l7.length=(Pg.turned lH hd back).length:=by rw [HL7.out];done
     have hle7:l7.length≤1000000:=by rw [hlen7];omega
     have HLEN7:=Lib.hid hlen7;clear hl7 hlen7;generalize hn7:l7.length=N7 at *;have HN7:=Lib.hid hn7;clear hn7;have uc127:=c127;have uc128:=c128;have uc129:=c129;simp only [At,Own,Nat.reduceAdd,and_true] at uc127 uc128 uc129;have hn8:w4.heap.size≠w.heap.size+1:=by omega
     have hn8b:w4.heap.size<w7.heap.size:=c129.lt;have hn2b:w.heap.size+1<w7.heap.size:=c128.lt;go_wp2;refine bodyPost_ret (v:=.agg #[.slice A4 N4 c4,.slice (some ⟨w7.heap.size,0,none⟩) 1 1]) (by simp [results,Tryz.results19,go_sem,uc127,uc128,uc129,hn8,hn8.symm,hn2b,hn8b,Nat.ne_of_lt hn2b,(Nat.ne_of_lt hn2b).symm,Nat.ne_of_lt hn8b,(Nat.ne_of_lt hn8b).symm]) rfl ⟨_,rfl,⟨_,_,rfl,by rw [show Pg.outerS ⟨R,x,y,hole,start,back⟩=l4 from by rw [HL4.out,HLX.out];rfl];exact pol_pv (PL4.out.up hA131) c129 c128 hn8 _ _ _ _,by rw [show (Pg.holeS ⟨R,x,y,hole,start,back⟩).toList=[l7] from by rw [HL7.out,HLH.out];exact (hol_some hh hh4 HHD.out).symm];exact pol_rl PL7.out c129 c128 hn8 _ _ _⟩,?_⟩;exact bB
   ·skip
    as_aux_lemma =>
     have g1:((hole:Nat):Int).tmod 2=1:=remL hole 2 1 hh;have g2:((hole:Nat):Int).tmod 4=3:=remL hole 4 3 hh4;obtain ⟨x2,xp,xm,y2,yp,ym,hd,HXP,HXM,HYP,HYM,HHD,n1,n2,n3,n4,n5,n6,n7,n8,n9,n10,n11,n12,n13,n14,n15,HBxp,HBxm,HByp,HBym,hhd⟩:=hl_step x y hole hhl hx1 hx2 hy1 hy2;obtain ⟨fxp,hfxp⟩:∃ z,Rat.divInt xp 2=z:=⟨_,rfl⟩
     have Hfxp:=Lib.hid hfxp;clear hfxp;obtain ⟨fy,hfy⟩:∃ z,Rat.divInt y 1=z:=⟨_,rfl⟩
     have Hfy:=Lib.hid hfy;clear hfy;obtain ⟨fx,hfx⟩:∃ z,Rat.divInt x 1=z:=⟨_,rfl⟩
     have Hfx:=Lib.hid hfx;clear hfx;obtain ⟨fyp,hfyp⟩:∃ z,Rat.divInt yp 2=z:=⟨_,rfl⟩
     have Hfyp:=Lib.hid hfyp;clear hfyp;obtain ⟨fxm,hfxm⟩:∃ z,Rat.divInt xm 2=z:=⟨_,rfl⟩
     have Hfxm:=Lib.hid hfxm;clear hfxm;obtain ⟨fym,hfym⟩:∃ z,Rat.divInt ym 2=z:=⟨_,rfl⟩
     have Hfym:=Lib.hid hfym;clear hfym;have uc81:=c81;have uc82:=c82;have uc83:=c83;simp only [At,Own,Nat.reduceAdd,and_true] at uc81 uc82 uc83;have K134:=Lib.hid (fun W=>Hfxp.out▸rOf_s2 xp W HBxp);have K135:=Lib.hid (fun W=>Hfy.out▸rOf_s1 y W HBy);have K136:=Lib.hid (fun W=>Hfx.out▸rOf_s1 x W HBx);have K137:=Lib.hid (fun W=>Hfyp.out▸rOf_s2 yp W HByp);have K138:=Lib.hid (fun W=>Hfxm.out▸rOf_s2 xm W HBxm);go_wp2_with fail;refine wp_named ?_;intro W8 hW8;have hL8:LB7 W5 W8:=by rw [hW8];exact bB
     have c139:=c81.up hL8;have c140:=c82.up hL8;have c141:=c83.up hL8;have hA142:=bel_up hA84 hL8;have hA143:=bel_up hA85 hL8;have hB144:LB7 w W8:=by rw [hW8];exact bB
     clear hW8 hL8 uc81 uc82 uc83 c81 c82 c83 hA84 hA85;have dc139:=fun p:Bel W8=>c139.bel p;have dc140:=fun p:Bel W8=>c140.bel p;have dc141:=fun p:Bel W8=>c141.bel p
     simp only [At,Own,Nat.reduceAdd,and_true] at dc139 dc140 dc141;refine wp_region_tail 33 (by kernel_rfl) (by kernel_rfl) ?_;simp only [List.take_succ_cons,List.take_zero,List.drop_succ_cons,List.drop_zero];refine wpQuiet_hideK fun K_ hK_ => ?_
     iterate 10 (go_big_quiet_step (first|(go_at_call 42;with_reducible exact Calls.bel (K134.out _))|(go_at_call 42;with_reducible exact Calls.bel (K135.out _))))
     with_reducible refine qb_head ?_
     refine wpQuiet_bpt ?qw145 (.tmp 76) (.tmp 80) ?qo145 fxp fy ?qx145 ?qy145 ?_
     case qw145=>rfl
     case qo145=>rfl
     case qx145=>rfl
     case qy145=>rfl
     simp only [Act.put,List.setIfInBounds_toArray,List.set_cons_zero,List.set_cons_succ]
     iterate 10 (go_big_quiet_step (first|(go_at_call 42;with_reducible exact Calls.bel (K136.out _))|(go_at_call 42;with_reducible exact Calls.bel (K137.out _))))
     with_reducible refine qb_head ?_
     refine wpQuiet_bpt ?qw146 (.tmp 85) (.tmp 91) ?qo146 fx fyp ?qx146 ?qy146 ?_
     case qw146=>rfl
     case qo146=>rfl
     case qx146=>rfl
     case qy146=>rfl
     simp only [Act.put,List.setIfInBounds_toArray,List.set_cons_zero,List.set_cons_succ]
     iterate 10 (go_big_quiet_step (first|(go_at_call 42;with_reducible exact Calls.bel (K138.out _))|(go_at_call 42;with_reducible exact Calls.bel (K135.out _))))
     with_reducible refine qb_head ?_
     refine wpQuiet_bpt ?qw147 (.tmp 98) (.tmp 102) ?qo147 fxm fy ?qx147 ?qy147 ?_
     case qw147=>rfl
     case qo147=>rfl
     case qx147=>rfl
     case qy147=>rfl
     simp only [Act.put,List.setIfInBounds_toArray,List.set_cons_zero,List.set_cons_succ];refine wpQuiet_nil ?_;refine hK_.out _ ?_;clear hK_;intro w8 hb8;have c148:=c139.up hb8;have c149:=c140.up hb8;have c150:=c141.up hb8;have hA151:=bel_up hA142 hb8;have hA152:=bel_up hA143 hb8;have hB153:LB7 w w8:=bel_up hB144 hb8;clear dc139 dc140 dc141 c139 c140 c141 hA142 hA143;have uc148:=c148;have uc149:=c149;have uc150:=c150;simp only [At,Own,Nat.reduceAdd,and_true] at uc148 uc149 uc150;refine wpList_lit3 rfl (.tmp 81) (.tmp 92) (.tmp 103) rfl (fxp,fy) (fx,fyp) (fxm,fy) rfl rfl rfl ?_;obtain ⟨gH,hgH⟩:∃ z,z=w8.heap.size:=⟨_,rfl⟩
     obtain ⟨WL154,hWL154⟩:∃ W_,W_=World.alloc w8 (.cells (pcells (fxp,fy)++pcells (fx,fyp)++pcells (fxm,fy)).toArray 45):=⟨_,rfl⟩
     rw [← hWL154,← hgH];have bL154:Below w8.heap.size w8 WL154:=by rw [hWL154];exact (Below.refl _ _).alloc (Nat.le_refl _) _
     have OH:Hid (WL154.ownsRow w.heap.size 45 8 (.slice (some ⟨gH,0,none⟩) 3 3) 3 (pts [(fxp,fy),(fx,fyp),(fxm,fy)])):=Lib.hid (by rw [hWL154,hgH];exact World.ownsRow_lit (e:=45) (size:=8) w8 (pcells (fxp,fy)++pcells (fx,fyp)++pcells (fxm,fy)).toArray 3 (hB153).size (by decide) rfl);have ga155:wr16.heap.size≤gH:=by rw [hgH];exact hA151.size
     have ga156:w4.heap.size≤gH:=by rw [hgH];exact hA152.size
     have f157:(Value.slice (some ⟨gH,0,none⟩) 3 3).ownBlock≠some w.heap.size:=fun e_=>by have h1_:=c148.lt;have h2_:gH=w.heap.size:=Option.some.inj e_;omega
     have f158:(Value.slice (some ⟨gH,0,none⟩) 3 3).ownBlock≠some (w.heap.size+1):=fun e_=>by have h1_:=c149.lt;have h2_:gH=w.heap.size+1:=Option.some.inj e_;omega
     have f159:(Value.slice (some ⟨gH,0,none⟩) 3 3).ownBlock≠some w4.heap.size:=fun e_=>by have h1_:=c150.lt;have h2_:gH=w4.heap.size:=Option.some.inj e_;omega
     have c160:=c148.up bL154;have c161:=c149.up bL154;have c162:=c150.up bL154;have hA163:=bel_up hA151 bL154;have hA164:=bel_up hA152 bL154;have hB165:LB7 w WL154:=bel_up hB153 bL154;clear uc148 uc149 uc150 c148 c149 c150 hA151 hA152;clear hWL154 hgH;simp only [Act.put,List.setIfInBounds_toArray,List.set_cons_zero,List.set_cons_succ];have uc160:=c160;have uc161:=c161;have uc162:=c162;simp only [At,Own,Nat.reduceAdd,and_true] at uc160 uc161 uc162;have K166:=Lib.hid (fun W=>Hfym.out▸rOf_s2 ym W HBym);go_wp2_with fail;refine wp_named ?_;intro W9 hW9;have hL9:LB7 WL154 W9:=by rw [hW9];exact bB
     have c167:=c160.up hL9;have c168:=c161.up hL9;have c169:=c162.up hL9;have O170:=Lib.hid (owns_up OH.out hL9);have hA171:=bel_up hA163 hL9;have hA172:=bel_up hA164 hL9;have hB173:LB7 w W9:=by rw [hW9];exact bB
     clear hW9 hL9 uc160 uc161 uc162 c160 c161 c162 hA163 hA164;have dc167:=fun p:Bel W9=>c167.bel p;have dc168:=fun p:Bel W9=>c168.bel p;have dc169:=fun p:Bel W9=>c169.bel p
     simp only [At,Own,Nat.reduceAdd,and_true] at dc167 dc168 dc169;refine wp_region_tail1 11 (.tmp 9) (by kernel_rfl) (by kernel_rfl) rfl rfl (fun _ _ _ h=>h) ?_;simp only [List.take_succ_cons,List.take_zero,List.drop_succ_cons,List.drop_zero];go_simp;repeat (go_big_quiet_step (first|(go_at_call 42;with_reducible exact Calls.bel (K136.out _))|(go_at_call 42;with_reducible exact Calls.bel (K166.out _))))
     refine wpQuiet_nil ?_;intro w9 hb9;have c174:=c167.up hb9;have c175:=c168.up hb9;have c176:=c169.up hb9;have O177:=Lib.hid (owns_up O170.out hb9);have hA178:=bel_up hA171 hb9;have hA179:=bel_up hA172 hb9;have hB180:LB7 w w9:=bel_up hB173 hb9;clear dc167 dc168 dc169 c167 c168 c169 O170 hA171 hA172;have uc174:=c174;have uc175:=c175;have uc176:=c176;simp only [At,Own,Nat.reduceAdd,and_true] at uc174 uc175 uc176;with_reducible refine bd_head8 ?_
     refine wpList_bpt rfl (.tmp 113) (.tmp 119) rfl fx fym rfl rfl ?_;simp only [Act.put,List.setIfInBounds_toArray,List.set_cons_zero,List.set_cons_succ];refine wpList_lit1 rfl (.tmp 120) rfl (fx,fym) rfl ?_;simp only [Act.put,List.setIfInBounds_toArray,List.set_cons_zero,List.set_cons_succ];refine wpList_appF rfl (.tmp 109) (.tmp 121) _ rfl ti_pt O177.out (hB180).size rfl rfl rfl rfl (pcells_one (fx,fym)) (by omega) (by decide) ?_;intro v181 w_v181 hown_v181 hst_v181;have O183:Hid (w_v181.ownsRow w.heap.size 45 8 v181 (3+1) (pts ([(fxp,fy),(fx,fyp),(fxm,fy)]++[(fx,fym)]))):=Lib.hid (by rw [pts_snoc];exact hown_v181);have c184:=Own.step hst_v181 f157 c174;have f185:=hst_v181.far _ c174.lt f157;have c186:=Own.step hst_v181 f158 c175;have f187:=hst_v181.far _ c175.lt f158;have c188:=Own.step hst_v181 f159 c176;have f189:=hst_v181.far _ c176.lt f159;have hA190:LB7 wr16 w_v181:=hst_v181.below hA178 hA178.size (fun r hr=>by simp [Value.ownBlock] at hr;omega);have hA191:LB7 w4 w_v181:=hst_v181.below hA179 hA179.size (fun r hr=>by simp [Value.ownBlock] at hr;omega);have hB192:LB7 w w_v181:=hst_v181.below hB180 (hB180).size (fun r hr=>(O177.out.lt r hr).1);clear uc174 uc175 uc176 hown_v181 c174 c175 c176 hA178 hA179;obtain ⟨lH,hlH⟩:∃ z,z=([(fxp,fy),(fx,fyp),(fxm,fy)]++[(fx,fym)]):=⟨_,rfl⟩
     have HLH:Hid (lH=Pg.hole0 x y true):=Lib.hid (by rw [hlH,← Hfxp.out,← Hfy.out,← Hfx.out,← Hfyp.out,← Hfxm.out,← Hfym.out];exact hole_l4 HXP.out HXM.out HYP.out HYM.out);have PVH:Hid (PV w_v181 v181 lH):=Lib.hid (by rw [hlH];exact pv_own O183.out);have hlnH:lH.length≤1000:=by rw [hlH];exact Nat.le_of_ble_eq_true rfl
     have htlH:(Pg.turned lH hd back).length≤1000000:=by rw [tu_len];omega
     clear hlH O183;have uc184:=c184;have uc186:=c186;have uc188:=c188;simp only [At,Own,Nat.reduceAdd,and_true] at uc184 uc186 uc188;have K193:=Lib.hid (fun W (hW:PV W v181 lH)=>turned_all _ lH hd back W hW hlnH hhd);go_wp2_with (fail)
     refine calls_named ?_;intro W10 hW10;have hL10:LB7 w_v181 W10:=by rw [hW10];exact bB
     have c194:=c184.up hL10;have c195:=c186.up hL10;have c196:=c188.up hL10;have hA197:=bel_up hA190 hL10;have hA198:=bel_up hA191 hL10;have hA199:=hL10;have hB200:LB7 w W10:=by rw [hW10];exact bB
     clear hW10 hL10 uc184 uc186 uc188 c184 c186 c188 hA190 hA191;with_reducible refine (K193.out _ (PVH.out.up hA199)).mono ?_
     rintro e w10 ⟨v10,rfl,hv10,hb10⟩;have c201:=c194.up hb10;have c202:=c195.up hb10;have c203:=c196.up hb10;have hA204:=bel_up hA197 hb10;have hA205:=bel_up hA198 hb10;have hA206:=bel_up hA199 hb10;have hB207:LB7 w w10:=bel_up hB200 hb10;clear c194 c195 c196 hA197 hA198 hA199;obtain ⟨l10,hl10⟩:∃ y_,y_=(Pg.turned lH hd back):=⟨_,rfl⟩
     rw [← hl10] at hv10;obtain ⟨A10,c10,rfl,hcc10,hmm10,hx10⟩:=hv10.open_;have XX10:=Lib.hid hx10;have HL10:=Lib.hid hl10;have PL10:=Lib.hid hv10;clear hx10 hv10;have hlen10:l10.length=(Pg.turned lH hd back).length:=by rw [HL10.out];done
     have hle10:l10.length≤1000000:=by rw [hlen10];omega
     have HLEN10:=Lib.hid hlen10;clear hl10 hlen10;generalize hn10:l10.length=N10 at *;have HN10:=Lib.hid hn10;clear hn10;have uc201:=c201;have uc202:=c202;have uc203:=c203;simp only [At,Own,Nat.reduceAdd,and_true] at uc201 uc202 uc203;have hn8:w4.heap.size≠w.heap.size+1:=by omega
     have hn8b:w4.heap.size<w10.heap.size:=c203.lt;have hn2b:w.heap.size+1<w10.heap.size:=c202.lt;go_wp2;refine bodyPost_ret (v:=.agg #[.slice A4 N4 c4,.slice (some ⟨w10.heap.size,0,none⟩) 1 1]) (by simp [results,Tryz.results19,go_sem,uc201,uc202,uc203,hn8,hn8.symm,hn2b,hn8b,Nat.ne_of_lt hn2b,(Nat.ne_of_lt hn2b).symm,Nat.ne_of_lt hn8b,(Nat.ne_of_lt hn8b).symm]) rfl ⟨_,rfl,⟨_,_,rfl,by rw [show Pg.outerS ⟨R,x,y,hole,start,back⟩=l4 from by rw [HL4.out,HLX.out];rfl];exact pol_pv (PL4.out.up hA205) c203 c202 hn8 _ _ _ _,by rw [show (Pg.holeS ⟨R,x,y,hole,start,back⟩).toList=[l10] from by rw [HL10.out,HLH.out];exact (hol_some hh hh4 HHD.out).symm];exact pol_rl PL10.out c203 c202 hn8 _ _ _⟩,?_⟩;exact bB
end Go.Proofs.YtiochgoocbkckaaGreatDoor
