/-
 The plane in the plain: vectors, turns, directions within a half plane. No program in sight.
 How many bytes the numbers of points have; the lesser and the greater one of two fractions. No program in sight.
 Contracts of package rational: comparisons; equal structs.
-/
import Derived.Test.YtiochgoocbkckaaGreatDoorAgag
import Derived.Test.YtiochgoocbkckaaGreatDoorAQ2
set_option maxRecDepth 100000
set_option linter.unusedSimpArgs false
set_option linter.unusedVariables false
namespace Go.Proofs.YtiochgoocbkckaaGreatDoor
namespace Pl

abbrev Pt:=Rat×Rat
def addP (p q:Pt):Pt:=(p.1+q.1,p.2+q.2)
def subP (p q:Pt):Pt:=(p.1-q.1,p.2-q.2)
def scaleP (p:Pt) (r:Rat):Pt:=(p.1*r,p.2*r)
def crossP (p q:Pt):Rat:=p.1*q.2-p.2*q.1
def dotP (p q:Pt):Rat:=p.1*q.1+p.2*q.2
def det (a b c:Pt):Rat:=crossP (subP b a) (subP c a)
def turn (a b c:Pt):Int:=sgn (det a b c)
def cmpP (p q:Pt):Int:=if cmpQ p.1 q.1=0 then cmpQ p.2 q.2 else cmpQ p.1 q.1
def lessP (p q:Pt):Bool:=decide (cmpP p q<0)
def btwB (p a b:Pt):Bool:=decide (turn a b p=0)&&decide (sgn (dotP (subP a p) (subP b p))≤0)

theorem btw_iff (p a b:Pt):btwB p a b=true↔det a b p=0∧dotP (subP a p) (subP b p)≤0:=by
 unfold btwB turn;simp [sgn_zero_iff,sgn_nonpos_iff]
theorem less_iff (p q:Pt):lessP p q=true↔p.1<q.1∨p.1=q.1∧p.2<q.2:=by
 unfold lessP cmpP;rw [decide_eq_true_iff]
 by_cases h:cmpQ p.1 q.1=0
 ·rw [if_pos h,cmp_lt_iff];rw [cmp_zero_iff] at h;rw [h];constructor
  ·intro h2;exact .inr ⟨rfl,h2⟩
  ·rintro (h2|⟨_,h2⟩)
   ·exact absurd h2 Rat.lt_irrefl
   ·exact h2
 ·rw [if_neg h,cmp_lt_iff];rw [cmp_zero_iff] at h;constructor
  ·intro h2;exact .inl h2
  ·rintro (h2|⟨h2,_⟩)
   ·exact h2
   ·exact absurd h2 h
theorem cmpP_zero (p q:Pt):cmpP p q=0↔p=q:=by
 unfold cmpP
 by_cases h:cmpQ p.1 q.1=0
 ·rw [if_pos h,cmp_zero_iff];rw [cmp_zero_iff] at h
  constructor
  ·intro h2;exact Prod.ext h h2
  ·intro h2;rw [h2]
 ·rw [if_neg h];constructor
  ·intro h2;exact absurd h2 h
  ·intro h2;rw [h2,cmp_self]
theorem less_irrefl (p:Pt):lessP p p=false:=by
 unfold lessP;rw [(cmpP_zero p p).2 rfl];rfl
theorem less_trans {p q r:Pt} (h1:lessP p q=true) (h2:lessP q r=true):lessP p r=true:=by
 rw [less_iff] at *;grind
theorem less_total (p q:Pt):lessP p q=true∨p=q∨lessP q p=true:=by
 simp only [less_iff];have:p=q↔p.1=q.1∧p.2=q.2:=Prod.ext_iff;grind
def In (d v:Pt):Prop:=0<crossP d v∨crossP d v=0∧dotP d v<0

theorem mul_pos_of {a b:Rat} (h:0<a) (h2:0<a*b):0<b:=(Rat.mul_pos_iff_of_pos_left h).1 h2
theorem mul_nonneg_of {a b:Rat} (h:0<a) (h2:0≤a*b):0≤b:=by
 have:=@Rat.mul_neg_iff_of_pos_left a b h;rw [← Rat.not_lt];intro h3;have:=this.2 h3;grind
theorem mul_zero_of {a b:Rat} (h:0<a) (h2:a*b=0):b=0:=by
 rcases Rat.mul_eq_zero.1 h2 with h3|h3
 ·grind
 ·exact h3
theorem sq_pos {a:Rat} (h:a≠0):0<a*a:=by
 by_cases h1:0<a
 ·exact Rat.mul_pos h1 h1
 ·have:=Rat.mul_pos (a := -a) (b := -a) (by grind) (by grind);grind
theorem sq_nonneg (a:Rat):0≤a*a:=by
 by_cases h:a=0
 ·subst h;grind
 ·exact Rat.le_of_lt (sq_pos h)

theorem std_trans {x1 y1 x2 y2 x3 y3:Rat} (h1:0<x1∨x1=0∧0<y1) (h2:0<x2∨x2=0∧0<y2) (h3:0<x3∨x3=0∧0<y3)
 (h12:0≤x1*y2-y1*x2) (h23:0≤x2*y3-y2*x3) :
 0≤x1*y3-y1*x3∧((0<x1*y2-y1*x2∨0<x2*y3-y2*x3)→0<x1*y3-y1*x3):=by
 rcases h2 with h2|⟨h2,h2'⟩
 ·have e:x2*(x1*y3-y1*x3)=x1*(x2*y3-y2*x3)+x3*(x1*y2-y1*x2):=by grind
  have x1n:0≤x1:=by grind
  have x3n:0≤x3:=by grind
  have p1:=Rat.mul_nonneg x1n h23;have p2:=Rat.mul_nonneg x3n h12;refine ⟨mul_nonneg_of h2 (by grind),fun hs => ?_⟩;rcases h1 with h1|⟨h1,h1'⟩
  ·rcases h3 with h3|⟨h3,h3'⟩
   ·refine mul_pos_of h2 ?_
    rcases hs with hs|hs
    ·have:=Rat.mul_pos h3 hs;grind
    ·have:=Rat.mul_pos h1 hs;grind
   ·subst h3
    have:=Rat.mul_pos h1 h3';grind
  ·subst h1
   have:=Rat.mul_pos h1' h2;grind
 ·subst h2
  have hx3:x3=0:=by
   rcases h3 with h3|h3
   ·have:=Rat.mul_pos h2' h3;grind
   ·exact h3.1
  subst hx3;have hy3:0<y3:=by rcases h3 with h3|h3;(exact absurd h3 Rat.lt_irrefl);exact h3.2
  have x1n:0≤x1:=by grind
  have:=Rat.mul_nonneg x1n (Rat.le_of_lt hy3);refine ⟨by grind,fun hs => ?_⟩
  have:0<x1:=by
   rcases h1 with h1|h1
   ·exact h1
   ·obtain ⟨h1,h1'⟩:=h1;subst h1;grind
  have:=Rat.mul_pos this hy3;grind

theorem frame_cross (d u v:Pt):crossP u v*dotP d d=crossP d u*(-dotP d v)-(-dotP d u)*crossP d v:=by
 unfold crossP dotP;grind
theorem In.ne {d v:Pt} (h:In d v):0<dotP d d:=by
 unfold In crossP dotP at *
 by_cases h1:d.1=0
 ·by_cases h2:d.2=0
  ·rw [h1,h2] at h;grind
  ·have:=sq_pos h2;have:=sq_nonneg d.1;grind
 ·have:=sq_pos h1;have:=sq_nonneg d.2;grind
theorem In.std {d v:Pt} (h:In d v):0<crossP d v∨crossP d v=0∧0 < -dotP d v:=by
 unfold In at h;grind
theorem in_trans {d u v w:Pt} (hu:In d u) (hv:In d v) (hw:In d w) (h12:0≤crossP u v) (h23:0≤crossP v w) :
 0≤crossP u w∧((0<crossP u v∨0<crossP v w)→0<crossP u w):=by
 have hd:=hu.ne;have e1:=frame_cross d u v;have e2:=frame_cross d v w;have e3:=frame_cross d u w;have p1:=Rat.mul_nonneg h12 (Rat.le_of_lt hd);have p2:=Rat.mul_nonneg h23 (Rat.le_of_lt hd);obtain ⟨r1,r2⟩:=std_trans hu.std hv.std hw.std (by rw [← e1];exact p1) (by rw [← e2];exact p2);refine ⟨mul_nonneg_of hd (by rw [Rat.mul_comm,e3];exact r1),fun hs => ?_⟩;refine mul_pos_of hd ?_;rw [Rat.mul_comm,e3];refine r2 ?_;rcases hs with hs|hs
 ·exact .inl (by rw [← e1];exact Rat.mul_pos hs hd)
 ·exact .inr (by rw [← e2];exact Rat.mul_pos hs hd)
theorem dot_frame (a c u:Pt):dotP a c*dotP u u=dotP a u*dotP c u+crossP a u*crossP c u:=by
 unfold crossP dotP;grind
theorem In.same {d u v:Pt} (hu:In d u) (hv:In d v) (h:crossP u v=0):0<dotP u v:=by
 have hd:=hu.ne;have e:=dot_frame u v d;have ec:=frame_cross d u v;rw [h,Rat.zero_mul] at ec;have c1:crossP u d=- crossP d u:=by unfold crossP;grind
 have c2:crossP v d=- crossP d v:=by unfold crossP;grind
 have c3:dotP u d=dotP d u:=by unfold dotP;grind
 have c4:dotP v d=dotP d v:=by unfold dotP;grind
 rw [c1,c2,c3,c4] at e;refine mul_pos_of hd ?_;rw [Rat.mul_comm,e];have s1:=hu;have s2:=hv;unfold In at s1 s2;generalize crossP d u=X1 at *;generalize crossP d v=X2 at *;generalize dotP d u=Y1 at *;generalize dotP d v=Y2 at *;rcases s1 with s1|⟨s1,s1'⟩
 ·rcases s2 with s2|⟨s2,s2'⟩
  ·refine mul_pos_of s1 ?_
   have q1:=Rat.mul_pos (Rat.mul_pos s1 s1) s2;have q2:=Rat.mul_nonneg (sq_nonneg Y1) (Rat.le_of_lt s2);have q3:X1*Y2=Y1*X2:=by grind
   have q4:X1*(Y1*Y2 + -X1 * -X2)=Y1*(X1*Y2)+X1*X1*X2:=by grind
   rw [q4,q3];grind
  ·subst s2
   have:=Rat.mul_pos s1 (show 0 < -Y2 by grind);grind
 ·subst s1
  have hx:X2=0:=mul_zero_of (a := -Y1) (by grind) (by grind);subst hx;have:Y2<0:=by grind
  have:=Rat.mul_pos (show 0 < -Y1 by grind) (show 0 < -Y2 by grind);grind
end Pl
end Go.Proofs.YtiochgoocbkckaaGreatDoor

namespace Go.Proofs.YtiochgoocbkckaaGreatDoor
namespace Pl
def SzP (k:Nat) (p:Pt):Prop:=Sz k p.1∧Sz k p.2
theorem SzP.mono {i j:Nat} {p:Pt} (h:SzP i p) (hij:i≤j):SzP j p:=⟨h.1.mono hij,h.2.mono hij⟩
theorem SzP.add {i j:Nat} {p q:Pt} (h:SzP i p) (k:SzP j q):SzP (i+j+1) (addP p q):=⟨h.1.add k.1,h.2.add k.2⟩
theorem SzP.sub {i j:Nat} {p q:Pt} (h:SzP i p) (k:SzP j q):SzP (i+j+1) (subP p q):=⟨h.1.sub k.1,h.2.sub k.2⟩
theorem SzP.scale {i j:Nat} {p:Pt} {r:Rat} (h:SzP i p) (k:Sz j r):SzP (i+j) (scaleP p r):=⟨h.1.mul k,h.2.mul k⟩
theorem SzP.cross {i j:Nat} {p q:Pt} (h:SzP i p) (k:SzP j q):Sz (i+j+(i+j)+1) (crossP p q):=(h.1.mul k.2).sub (h.2.mul k.1)
def SzS (k:Nat) (s:Pt×Pt):Prop:=SzP k s.1∧SzP k s.2
theorem SzS.mono {i j:Nat} {s:Pt×Pt} (h:SzS i s) (hij:i≤j):SzS j s:=⟨h.1.mono hij,h.2.mono hij⟩
def onSeg (p a b:Pt):Bool:=decide (turn a b p=0)&&(decide (0≤cmpP a p*cmpP p b)&&(decide (a≠b)||decide (p=a)))
def divide (s:Pt×Pt) (r:Rat):Pt:=addP s.1 (scaleP (subP s.2 s.1) r)
end Pl
end Go.Proofs.YtiochgoocbkckaaGreatDoor

namespace Go.Proofs.YtiochgoocbkckaaGreatDoor
open Go Go.RowKit

theorem eqI_at (d:Nat) (s t:Bool) (m n:Nat) (w:World):(Op.equalIn (d+2) 41 (.agg #[.bool s,.string (mg m)]) (.agg #[.bool t,.string (mg n)])).run Tryz.prog w=.ok (s==t&&decide (m=n)) w:=by
 have ub:=Tryz.underlying4;have us:=Tryz.underlying9;have ab:=Tryz.isAgg4;have zb:=Tryz.sizeOf4;have ag:=Tryz.isAgg9;have zs:=Tryz.sizeOf9;have hS:Tryz.prog.underlying 41 = some (.struct (Tryz.prog.fieldsOf 41)):=by kernel_rfl
 have hp:Tryz.prog.stoodInHeld 41 = false:=by kernel_rfl
 rw [show d+2=(d+1)+1 from rfl,run_equalIn_agg w (d+1) 41 _ _ hS hp];simp only [Program.fieldsOf,Tryz.underlying41];go_simp;have hm:=mg_beq m n
 by_cases h1:s=t<;>by_cases h2:m=n<;>simp_all
theorem ng_inj {a b:Int} (h:ng a=ng b) (h2:a.natAbs=b.natAbs):a=b:=by
 unfold ng at h;rw [decide_eq_decide] at h;omega
theorem q_eq {a b:Rat} : ((ng a.num==ng b.num)&&decide (a.num.natAbs=b.num.natAbs)&&decide (dn a=dn b))=decide (a=b):=by
 rw [Bool.eq_iff_iff];simp only [Bool.and_eq_true,beq_iff_eq,decide_eq_true_eq,dn_eq];constructor
 ·rintro ⟨⟨h1,h2⟩,h3⟩;exact Rat.ext (ng_inj h1 h2) h3
 ·rintro rfl;exact ⟨⟨rfl,rfl⟩,rfl⟩
theorem eqQ_at (d:Nat) (a b:Rat) (w:World):(Op.equalIn (d+3) 43 (qv a) (qv b)).run Tryz.prog w=.ok (decide (a=b)) w:=by
 have ab:=Tryz.isAgg41;have zb:=Tryz.sizeOf41;have hS:Tryz.prog.underlying 43 = some (.struct (Tryz.prog.fieldsOf 43)):=by kernel_rfl
 have hp:Tryz.prog.stoodInHeld 43 = false:=by kernel_rfl
 have E:=eqI_at d;rw [show d+3=(d+2)+1 from rfl,run_equalIn_agg w (d+2) 43 _ _ hS hp];simp only [Program.fieldsOf,Tryz.underlying43];rw [← q_eq];go_simp
 by_cases h1:ng a.num=ng b.num<;>by_cases h2:a.num.natAbs=b.num.natAbs<;>by_cases h3:dn a=dn b<;>simp_all
theorem eqQ_in (a b:Rat) (w:World):(Op.equalIn 10000 43 (.agg #[.bool (ng a.num),.string (mg a.num.natAbs),.bool false,.string (mg (dn a))]) (.agg #[.bool (ng b.num),.string (mg b.num.natAbs),.bool false,.string (mg (dn b))])).run Tryz.prog w=.ok (decide (a=b)) w:=eqQ_at 9997 a b w
abbrev pv (p:Rat×Rat):Value:=.agg #[.bool (ng p.1.num),.string (mg p.1.num.natAbs),.bool false,.string (mg (dn p.1)),.bool (ng p.2.num),.string (mg p.2.num.natAbs),.bool false,.string (mg (dn p.2))]
abbrev sv (s:(Rat×Rat)×(Rat×Rat)):Value:=.agg #[.bool (ng s.1.1.num),.string (mg s.1.1.num.natAbs),.bool false,.string (mg (dn s.1.1)),.bool (ng s.1.2.num),.string (mg s.1.2.num.natAbs),.bool false,.string (mg (dn s.1.2)),
 .bool (ng s.2.1.num),.string (mg s.2.1.num.natAbs),.bool false,.string (mg (dn s.2.1)),.bool (ng s.2.2.num),.string (mg s.2.2.num.natAbs),.bool false,.string (mg (dn s.2.2))]
theorem eqP_in (p q:Rat×Rat) (w:World):(Op.equalIn 10000 45 (pv p) (pv q)).run Tryz.prog w=.ok (decide (p=q)) w:=by
 have ab:=Tryz.isAgg43;have zb:=Tryz.sizeOf43;have hS:Tryz.prog.underlying 45 = some (.struct (Tryz.prog.fieldsOf 45)):=by kernel_rfl
 have hp:Tryz.prog.stoodInHeld 45 = false:=by kernel_rfl
 have E:∀ (a b:Rat) (w:World),(Op.equalIn 9999 43 (qv a) (qv b)).run Tryz.prog w=.ok (decide (a=b)) w:=eqQ_at 9996
 have e:decide (p=q)=(decide (p.1=q.1)&&decide (p.2=q.2)):=by rw [Bool.eq_iff_iff];simp [Prod.ext_iff]
 rw [show (10000:Nat)=9999+1 from rfl,run_equalIn_agg w 9999 45 _ _ hS hp];simp only [Program.fieldsOf,Tryz.underlying45];rw [e];go_simp
 by_cases h1:p.1=q.1<;>by_cases h2:p.2=q.2<;>simp_all

theorem qcmp_eq (a:Rat) (b:Rat) (w:World) (h:a=b) :
 Calls Tryz.prog 76 #[qv a,qv b] w fun e w'=>e=.returned (.int .i64 0)∧Below w.heap.size w w':=by
 have EQ:=fun W=>eqQ_in a b W
 rw [decide_eq_true h] at EQ;clear h;go_enter Tryz.func76,Tryz.ntmps76;go_wp2;go_ret;refine ⟨rfl,?_⟩;exact bB

theorem qcmp_ne (a:Rat) (b:Rat) (w:World) (h:¬ a=b) (ha:Pl.Sz 16777216 a) (hb:Pl.Sz 16777216 b) :
 Calls Tryz.prog 76 #[qv a,qv b] w fun e w'=>e=.returned (.int .i64 (Pl.cmpQ a b))∧Below w.heap.size w w':=by
 have EQ:=fun W=>eqQ_in a b W
 rw [decide_eq_false h] at EQ;have kx:=fun W=>cross_any a b W ha hb
 have kc:=fun W=>icmp_any (crX a b) (crY a b) W
 simp only [cr_cmp] at kc;generalize crX a b=X at kx kc;generalize crY a b=Y at kx kc;generalize crD a b=D at kx kc;have KX:=Lib.hid kx;have KC:=Lib.hid kc;clear kx kc;have K1:=Lib.hid (fun W=>KX.out W);have K2:=Lib.hid (fun W=>KC.out W);clear h ha hb;go_enter Tryz.func76,Tryz.ntmps76;go_wp2_with fail;refine calls_named ?_;intro W1 hW1;have c1_0:At W1 w.heap.size 0 [.bool (ng a.num),.string (mg a.num.natAbs),.bool false,.string (mg (dn a))]:=by rw [hW1];simp [At,go_sem]
 have c1_1:At W1 (w.heap.size+1) 0 [.bool (ng b.num),.string (mg b.num.natAbs),.bool false,.string (mg (dn b))]:=by rw [hW1];simp [At,go_sem]
 have hB1:Below w.heap.size w W1:=by rw [hW1];exact bB
 clear hW1;have uc1_0:=c1_0;have uc1_1:=c1_1;simp only [At,Own,Nat.reduceAdd,and_true] at uc1_0 uc1_1;with_reducible refine (K1.out _).mono ?_
 rintro e w1 ⟨rfl,hb1⟩;have c1_0x:=c1_0.up hb1;have c1_1x:=c1_1.up hb1;have hDw1:Below w.heap.size w w1:=bel_up hB1 hb1;clear uc1_0 uc1_1 c1_0 c1_1;have uc1_0x:=c1_0x;have uc1_1x:=c1_1x;simp only [At,Own,Nat.reduceAdd,and_true] at uc1_0x uc1_1x
 -- NE
 have nc1_0x_0_:w.heap.size<w1.heap.size:=by have:=c1_0x.lt;omega
 have nc1_0x_0:=Nat.ne_of_lt nc1_0x_0_;have nc1_0x_0':=nc1_0x_0.symm;have nc1_1x_0_:w.heap.size+1<w1.heap.size:=by have:=c1_1x.lt;omega
 have nc1_1x_0:=Nat.ne_of_lt nc1_1x_0_;have nc1_1x_0':=nc1_1x_0.symm;have nc1_0x_1_:w.heap.size<w1.heap.size+1:=by have:=c1_0x.lt;omega
 have nc1_0x_1:=Nat.ne_of_lt nc1_0x_1_;have nc1_0x_1':=nc1_0x_1.symm;have nc1_1x_1_:w.heap.size+1<w1.heap.size+1:=by have:=c1_1x.lt;omega
 have nc1_1x_1:=Nat.ne_of_lt nc1_1x_1_;have nc1_1x_1':=nc1_1x_1.symm;have nc1_0x_2_:w.heap.size<w1.heap.size+2:=by have:=c1_0x.lt;omega
 have nc1_0x_2:=Nat.ne_of_lt nc1_0x_2_;have nc1_0x_2':=nc1_0x_2.symm;have nc1_1x_2_:w.heap.size+1<w1.heap.size+2:=by have:=c1_1x.lt;omega
 have nc1_1x_2:=Nat.ne_of_lt nc1_1x_2_;have nc1_1x_2':=nc1_1x_2.symm;go_wp2_with fail;refine calls_named ?_;intro W2 hW2;have hL2:Below w1.heap.size w1 W2:=by rw [hW2];exact bB
 have c2_0:=c1_0x.up hL2;have c2_1:=c1_1x.up hL2;have c2_2:Own W2 w1.heap.size 0 [.bool (ng X),.string (mg X.natAbs)]:=by rw [hW2];simp [Own,go_sem,uc1_0x,uc1_1x,nc1_0x_0,nc1_0x_0',nc1_0x_0_,nc1_1x_0,nc1_1x_0',nc1_1x_0_,nc1_0x_1,nc1_0x_1',nc1_0x_1_,nc1_1x_1,nc1_1x_1',nc1_1x_1_,nc1_0x_2,nc1_0x_2',nc1_0x_2_,nc1_1x_2,nc1_1x_2',nc1_1x_2_]
 have c2_3:Own W2 (w1.heap.size+1) 0 [.bool (ng Y),.string (mg Y.natAbs)]:=by rw [hW2];simp [Own,go_sem,uc1_0x,uc1_1x,nc1_0x_0,nc1_0x_0',nc1_0x_0_,nc1_1x_0,nc1_1x_0',nc1_1x_0_,nc1_0x_1,nc1_0x_1',nc1_0x_1_,nc1_1x_1,nc1_1x_1',nc1_1x_1_,nc1_0x_2,nc1_0x_2',nc1_0x_2_,nc1_1x_2,nc1_1x_2',nc1_1x_2_]
 have c2_4:Own W2 (w1.heap.size+2) 0 [.bool false,.string (mg D)]:=by rw [hW2];simp [Own,go_sem,uc1_0x,uc1_1x,nc1_0x_0,nc1_0x_0',nc1_0x_0_,nc1_1x_0,nc1_1x_0',nc1_1x_0_,nc1_0x_1,nc1_0x_1',nc1_0x_1_,nc1_1x_1,nc1_1x_1',nc1_1x_1_,nc1_0x_2,nc1_0x_2',nc1_0x_2_,nc1_1x_2,nc1_1x_2',nc1_1x_2_]
 have hB2:Below w.heap.size w W2:=by rw [hW2];exact bB
 clear hW2 hL2 uc1_0x uc1_1x c1_0x c1_1x;have uc2_0:=c2_0;have uc2_1:=c2_1;have uc2_2:=c2_2;have uc2_3:=c2_3;have uc2_4:=c2_4;simp only [At,Own,Nat.reduceAdd,and_true] at uc2_0 uc2_1 uc2_2 uc2_3 uc2_4;with_reducible refine (K2.out _).mono ?_
 rintro e w2 ⟨rfl,hb2⟩;have c2_0x:=c2_0.up hb2;have c2_1x:=c2_1.up hb2;have c2_2x:=c2_2.up hb2;have c2_3x:=c2_3.up hb2;have c2_4x:=c2_4.up hb2;have hDw2:Below w.heap.size w w2:=bel_up hB2 hb2;clear uc2_0 uc2_1 uc2_2 uc2_3 uc2_4 c2_0 c2_1 c2_2 c2_3 c2_4;have uc2_0x:=c2_0x;have uc2_1x:=c2_1x;have uc2_2x:=c2_2x;have uc2_3x:=c2_3x;have uc2_4x:=c2_4x;simp only [At,Own,Nat.reduceAdd,and_true] at uc2_0x uc2_1x uc2_2x uc2_3x uc2_4x
 -- NE
 go_wp2;go_ret;refine ⟨rfl,?_⟩;exact bB

theorem qcmp_any (a b:Rat) (w:World) (ha:Pl.Sz 16777216 a) (hb:Pl.Sz 16777216 b) :
 Calls Tryz.prog 76 #[qv a,qv b] w fun e w'=>e=.returned (.int .i64 (Pl.cmpQ a b))∧Below w.heap.size w w':=by
 by_cases h:a=b
 ·rw [(Pl.cmp_zero_iff a b).2 h];exact qcmp_eq a b w h
 ·exact qcmp_ne a b w h ha hb

end Go.Proofs.YtiochgoocbkckaaGreatDoor
