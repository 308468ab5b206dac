/-
 The law ConvexSeparates: the walk.
-/
import Derived.Test.YtdkkjfnpinckjaaGreatDoorYKnw
import Derived.Test.YtdkkjfnpinckjaaGreatDoorYMr
import Derived.Test.YtdkkjfnpinckjaaGreatDoorYLw1
import Derived.Test.YtdkkjfnpinckjaaGreatDoorYSpr
import Derived.Test.YtdkkjfnpinckjaaGreatDoorYLin
import Derived.Test.YtdkkjfnpinckjaaGreatDoorYReg7
import Derived.Deep.RegionHeld3
import Derived.Deep.DeepCutAuto
set_option maxRecDepth 100000
set_option linter.unusedSimpArgs false
set_option linter.unusedVariables false
namespace Go.Proofs.YtdkkjfnpinckjaaGreatDoor
open Go Go.RowKit

theorem own_sub {w:World} {b:Nat} {l cs:List Value} (h:Own w b 0 l) (i n:Nat) (hs:(l.drop i).take n=cs):w.rangeAt b i cs:=fun j v hv=>by
 subst hs;rw [List.getElem?_take] at hv
 split at hv
 ·rw [List.getElem?_drop] at hv
  have:=h.range (i+j) v hv
  simpa using this
 ·cases hv
theorem hr_of {V:World} {b:Nat} {l:List Value} (h:Own V b 0 l) (i n:Nat):∀ w,(∃ p:Bel V,w=p.w1)→w.rangeAt b i ((l.drop i).take n):=fun w ⟨p,hp⟩=>by
 subst hp;exact own_sub (h.bel p) i n rfl
theorem PV.openN {w:World} {v:Value} {l:List (Rat×Rat)} {n:Nat} (h:PV w v l) (hn:l.length=n):∃ A c,v=.slice A n c:=by
 obtain ⟨A,c,hv,_⟩:=h.open_;exact ⟨A,c,by rw [hv,hn]⟩
def setOf (l:List (Int×Int×Bool)):List (Rat×Rat):=Pl.wrap (ptsOf (l.take (min l.length 8)))
theorem cmp_m1 {a b:Rat} (h:a<b):Pl.cmpQ a b=-1:=(Pl.sgn_neg_iff _).2 (by grind)
theorem cmp_p1 {a b:Rat} (h:b<a):Pl.cmpQ a b=1:=(Pl.sgn_pos_iff _).2 (by grind)
theorem loc_of {X:List (Rat×Rat)} {p:Rat×Rat} (hX:Pl.wrap X=X) (h:Pl.Mem X p):0≤Pl.locR X p:=by
 have a:=Pl.wrap_isHull X;rw [hX] at a;exact Pl.locR_mem a h
theorem meet_law {X Y:List (Rat×Rat)} {cm:Rat×Rat} (hX:Pl.wrap X=X) (hY:Pl.wrap Y=Y) (h0X:0<X.length) (h0Y:0<Y.length) (h:cm∈Pl.interC X Y) :
 fitsB X Y false cm (0,0) 0=true∧csepR X Y false cm (0,0) 0=0:=by
 have hm:=((Pl.interC_spec hX hY).2 cm).1 (.of_mem h);have h1:=loc_of hX hm.1;have h2:=loc_of hY hm.2;constructor
 ·simp [fitsB,h1,h2]
 ·unfold csepR
  rw [if_neg (by omega),if_neg (by decide),if_neg];rintro (h|h|h|h)
  ·exact h rfl
  ·exact h rfl
  ·omega
  ·omega
theorem apart_law {X Y:List (Rat×Rat)} {p q d:Rat×Rat} {lv:Rat} (hX:Pl.wrap X=X) (hY:Pl.wrap Y=Y) (h0X:0<X.length) (h0Y:0<Y.length) (h:Pl.interC X Y=[])
 (hp:(Pl.nearest2 X Y).1=p) (hq:(Pl.nearest2 X Y).2=q) (hd:Pl.subP q p=d) (hlv:Pl.midL p q=lv):fitsB X Y true (0,0) d lv=true∧csepA X Y (0,0) d lv=0:=by
 have hk:=Pl.parted hX hY (List.length_pos_iff.1 h0X) (List.length_pos_iff.1 h0Y) fun z hz=>by
  have:=((Pl.interC_spec hX hY).2 z).2 hz;rw [h] at this;exact Pl.Mem.nil this
 rw [hp,hq,hd,hlv] at hk;constructor
 ·unfold fitsB
  rw [if_pos rfl];simp only [Bool.and_eq_true,List.all_eq_true,beq_iff_eq,decide_eq_true_eq];exact ⟨⟨fun s hs=>cmp_m1 (hk.1 s hs),fun s hs=>cmp_p1 (hk.2 s hs)⟩,trivial⟩
 ·unfold csepA
  rw [if_neg];rintro (h|h|h)
  ·exact h rfl
  ·obtain ⟨s,hs,hb⟩:=List.any_eq_true.1 h
   unfold beyB at hb;rw [cmp_m1 (hk.1 s hs)] at hb;cases hb
  ·obtain ⟨s,hs,hb⟩:=List.any_eq_true.1 h
   unfold beyB at hb;rw [cmp_p1 (hk.2 s hs)] at hb;cases hb
theorem csepz_none1 (A:Option Addr) (c:Nat) (vb:Value) (ap:Bool) (cm dr:Rat×Rat) (lv:Rat) (w:World) :
 Calls Tryz.prog 23 #[.slice A 0 c,vb,sepv ap cm dr lv] w fun e w'=>e=.returned (.int .i64 10)∧Below w.heap.size w w':=by
 go_enter Tryz.func23,Tryz.ntmps23;go_wp2;go_ret;refine ⟨rfl,?_⟩;exact bB

theorem csepz_none2 (A B:Option Addr) (N c d:Nat) (ap:Bool) (cm dr:Rat×Rat) (lv:Rat) (w:World) (hN:0<N) :
 Calls Tryz.prog 23 #[.slice A N c,.slice B 0 d,sepv ap cm dr lv] w fun e w'=>e=.returned (.int .i64 10)∧Below w.heap.size w w':=by
 have j1:((N:Int)==0)=false:=by simp;omega
 have j3:¬ (N:Int)=0:=by omega
 go_enter Tryz.func23,Tryz.ntmps23;go_wp2;go_ret;refine ⟨rfl,?_⟩;exact bB
set_option maxHeartbeats 1000000 in
theorem csep0_none (va vb:Value) (a b:List (Rat×Rat)) (w:World) (ha:PV w va a) (hb:PV w vb b) (h:a.length=0∨b.length=0) :
 Calls Tryz.prog 23 #[va,vb,.agg #[.bool false,.bool false,.string ⟨#[]⟩,.bool false,.string ⟨#[]⟩,.bool false,.string ⟨#[]⟩,.bool false,.string ⟨#[]⟩,.bool false,.string ⟨#[]⟩,.bool false,.string ⟨#[]⟩,.bool false,.string ⟨#[]⟩,.bool false,.string ⟨#[]⟩,.bool false,.string ⟨#[]⟩,.bool false,.string ⟨#[]⟩]] w fun e w'=>e=.returned (.int .i64 10)∧Below w.heap.size w w':=by
 obtain ⟨A,c,rfl,_⟩:=ha.open_
 by_cases h1:a.length=0
 ·rw [h1];exact csepz_none1 A c vb false (0,0) (0,0) 0 w
 ·obtain ⟨B,d,rfl,_⟩:=hb.open_
  rw [h.resolve_left h1];exact csepz_none2 A B _ c d false (0,0) (0,0) 0 w (by omega)
theorem csep_meet0 (va vb:Value) (a b:List (Rat×Rat)) (cm:Rat×Rat) (w:World) (ha:PV w va a) (hb:PV w vb b) (hsa:∀ q∈a,Pl.SzP 2000 q) (hsb:∀ q∈b,Pl.SzP 2000 q) (hna:a.length≤1000000) (hnb:b.length≤1000000) (hcm:Pl.SzP 2000 cm) (h0a:0<a.length) (h0b:0<b.length) :
 Calls Tryz.prog 23 #[va,vb,.agg #[.bool false,.bool (ng cm.1.num),.string (mg cm.1.num.natAbs),.bool false,.string (mg (dn cm.1)),.bool (ng cm.2.num),.string (mg cm.2.num.natAbs),.bool false,.string (mg (dn cm.2)),.bool false,.string ⟨#[]⟩,.bool false,.string ⟨#[]⟩,.bool false,.string ⟨#[]⟩,.bool false,.string ⟨#[]⟩,.bool false,.string ⟨#[]⟩,.bool false,.string ⟨#[]⟩]] w fun e w'=>e=.returned (.int .i64 (csepR a b false cm (0,0) 0))∧Below w.heap.size w w' :=
 csep_meet va vb a b cm (0,0) 0 w ha hb hsa hsb hna hnb (by decide) hcm h0a h0b
theorem csep_apart0 (va vb:Value) (a b:List (Rat×Rat)) (d:Rat×Rat) (lv:Rat) (w:World) (ha:PV w va a) (hb:PV w vb b) (hsa:∀ q∈a,Pl.SzP 2000 q) (hsb:∀ q∈b,Pl.SzP 2000 q) (hna:a.length≤1000000) (hnb:b.length≤1000000) (hdr:Pl.SzP 2000 d) (hlv:Pl.Sz 2000 lv) (h0a:0<a.length) (h0b:0<b.length) :
 Calls Tryz.prog 23 #[va,vb,.agg #[.bool true,.bool false,.string ⟨#[]⟩,.bool false,.string ⟨#[]⟩,.bool false,.string ⟨#[]⟩,.bool false,.string ⟨#[]⟩,.bool (ng d.1.num),.string (mg d.1.num.natAbs),.bool false,.string (mg (dn d.1)),.bool (ng d.2.num),.string (mg d.2.num.natAbs),.bool false,.string (mg (dn d.2)),.bool (ng lv.num),.string (mg lv.num.natAbs),.bool false,.string (mg (dn lv))]] w fun e w'=>e=.returned (.int .i64 (csepA a b (0,0) d lv))∧Below w.heap.size w w' :=
 csep_apart va vb a b (0,0) d lv w ha hb hsa hsb hna hnb (by decide) hdr hlv h0a h0b
theorem fits_meet0 (va vb:Value) (a b:List (Rat×Rat)) (p:Rat×Rat) (w:World) (ha:PV w va a) (hb:PV w vb b) (hsa:∀ q∈a,Pl.SzP 2000 q) (hsb:∀ q∈b,Pl.SzP 2000 q) (hna:a.length≤1000000) (hnb:b.length≤1000000) (hp:Pl.SzP 2000 p) :
 Calls Tryz.prog 22 #[va,vb,.bool false,pv p,.agg #[.bool false,.string ⟨#[]⟩,.bool false,.string ⟨#[]⟩,.bool false,.string ⟨#[]⟩,.bool false,.string ⟨#[]⟩],.agg #[.bool false,.string ⟨#[]⟩,.bool false,.string ⟨#[]⟩]] w fun e w'=>e=.returned (.bool (fitsB a b false p (0,0) 0))∧Below w.heap.size w w' :=
 fits_meet va vb a b p (0,0) 0 w ha hb hsa hsb hna hnb (by decide) hp ⟨Pl.sz_zero.mono (by decide),Pl.sz_zero.mono (by decide)⟩ (Pl.sz_zero.mono (by decide))
theorem fits_apart0 (va vb:Value) (a b:List (Rat×Rat)) (d:Rat×Rat) (lv:Rat) (w:World) (ha:PV w va a) (hb:PV w vb b) (hsa:∀ q∈a,Pl.SzP 2000 q) (hsb:∀ q∈b,Pl.SzP 2000 q) (hna:a.length≤1000000) (hnb:b.length≤1000000) (hd:Pl.SzP 2000 d) (hl:Pl.Sz 2000 lv) :
 Calls Tryz.prog 22 #[va,vb,.bool true,.agg #[.bool false,.string ⟨#[]⟩,.bool false,.string ⟨#[]⟩,.bool false,.string ⟨#[]⟩,.bool false,.string ⟨#[]⟩],pv d,qv lv] w fun e w'=>e=.returned (.bool (fitsB a b true (0,0) d lv))∧Below w.heap.size w w' :=
 fits_apart va vb a b (0,0) d lv w ha hb hsa hsb hna hnb (by decide) ⟨Pl.sz_zero.mono (by decide),Pl.sz_zero.mono (by decide)⟩ hd hl
theorem eqSep0 (w:World):(Op.equalIn 10000 42 (.agg #[.bool false,.bool false,.string ⟨#[]⟩,.bool false,.string ⟨#[]⟩,.bool false,.string ⟨#[]⟩,.bool false,.string ⟨#[]⟩,.bool false,.string ⟨#[]⟩,.bool false,.string ⟨#[]⟩,.bool false,.string ⟨#[]⟩,.bool false,.string ⟨#[]⟩,.bool false,.string ⟨#[]⟩,.bool false,.string ⟨#[]⟩]) (.agg #[.bool false,.bool false,.string ⟨#[]⟩,.bool false,.string ⟨#[]⟩,.bool false,.string ⟨#[]⟩,.bool false,.string ⟨#[]⟩,.bool false,.string ⟨#[]⟩,.bool false,.string ⟨#[]⟩,.bool false,.string ⟨#[]⟩,.bool false,.string ⟨#[]⟩,.bool false,.string ⟨#[]⟩,.bool false,.string ⟨#[]⟩])).run Tryz.prog w=.ok true w:=by
 kernel_rfl

theorem csepar_meetZ (va vb:Value) (a b L:List (Rat×Rat)) (cm:Rat×Rat) (m1 m2 m3 m4 m5 m6 m7 m8:Value) (hz:Hid ([.bool (ng cm.1.num),.string (mg cm.1.num.natAbs),.bool false,.string (mg (dn cm.1)),.bool (ng cm.2.num),.string (mg cm.2.num.natAbs),.bool false,.string (mg (dn cm.2))]=[m1,m2,m3,m4,m5,m6,m7,m8])) (w:World) (ha:PV w va a) (hb:PV w vb b) (hka:Small a) (hkb:Small b) (h0a:0<a.length) (h0b:0<b.length) (hL:Pl.interC a b=L) (hcm:L[0]?=some cm) :
 Calls Tryz.prog 51 #[va,vb] w fun e w'=>e=.returned (.tuple #[.agg #[.bool false,m1,m2,m3,m4,m5,m6,m7,m8,.bool false,.string ⟨#[]⟩,.bool false,.string ⟨#[]⟩,.bool false,.string ⟨#[]⟩,.bool false,.string ⟨#[]⟩,.bool false,.string ⟨#[]⟩,.bool false,.string ⟨#[]⟩],.int .i64 0])∧Below w.heap.size w w':=by
 have hz_:=hz.out;simp only [List.cons.injEq,and_true] at hz_;obtain ⟨rfl,rfl,rfl,rfl,rfl,rfl,rfl,rfl⟩:=hz_;exact csepar_meet va vb a b L w ha hb hka hkb h0a h0b hL cm hcm
theorem fits_meetZ (va vb:Value) (a b:List (Rat×Rat)) (cm:Rat×Rat) (m1 m2 m3 m4 m5 m6 m7 m8:Value) (hz:Hid ([.bool (ng cm.1.num),.string (mg cm.1.num.natAbs),.bool false,.string (mg (dn cm.1)),.bool (ng cm.2.num),.string (mg cm.2.num.natAbs),.bool false,.string (mg (dn cm.2))]=[m1,m2,m3,m4,m5,m6,m7,m8])) (w:World) (ha:PV w va a) (hb:PV w vb b) (hsa:∀ q∈a,Pl.SzP 2000 q) (hsb:∀ q∈b,Pl.SzP 2000 q) (hna:a.length≤1000000) (hnb:b.length≤1000000) (hp:Pl.SzP 2000 cm) :
 Calls Tryz.prog 22 #[va,vb,.bool false,.agg #[m1,m2,m3,m4,m5,m6,m7,m8],.agg #[.bool false,.string ⟨#[]⟩,.bool false,.string ⟨#[]⟩,.bool false,.string ⟨#[]⟩,.bool false,.string ⟨#[]⟩],.agg #[.bool false,.string ⟨#[]⟩,.bool false,.string ⟨#[]⟩]] w fun e w'=>e=.returned (.bool (fitsB a b false cm (0,0) 0))∧Below w.heap.size w w':=by
 have hz_:=hz.out;simp only [List.cons.injEq,and_true] at hz_;obtain ⟨rfl,rfl,rfl,rfl,rfl,rfl,rfl,rfl⟩:=hz_;exact fits_meet0 va vb a b cm w ha hb hsa hsb hna hnb hp
theorem csep_meetZ (va vb:Value) (a b:List (Rat×Rat)) (cm:Rat×Rat) (m1 m2 m3 m4 m5 m6 m7 m8:Value) (hz:Hid ([.bool (ng cm.1.num),.string (mg cm.1.num.natAbs),.bool false,.string (mg (dn cm.1)),.bool (ng cm.2.num),.string (mg cm.2.num.natAbs),.bool false,.string (mg (dn cm.2))]=[m1,m2,m3,m4,m5,m6,m7,m8])) (w:World) (ha:PV w va a) (hb:PV w vb b) (hsa:∀ q∈a,Pl.SzP 2000 q) (hsb:∀ q∈b,Pl.SzP 2000 q) (hna:a.length≤1000000) (hnb:b.length≤1000000) (hp:Pl.SzP 2000 cm) (h0a:0<a.length) (h0b:0<b.length) :
 Calls Tryz.prog 23 #[va,vb,.agg #[.bool false,m1,m2,m3,m4,m5,m6,m7,m8,.bool false,.string ⟨#[]⟩,.bool false,.string ⟨#[]⟩,.bool false,.string ⟨#[]⟩,.bool false,.string ⟨#[]⟩,.bool false,.string ⟨#[]⟩,.bool false,.string ⟨#[]⟩]] w fun e w'=>e=.returned (.int .i64 (csepR a b false cm (0,0) 0))∧Below w.heap.size w w':=by
 have hz_:=hz.out;simp only [List.cons.injEq,and_true] at hz_;obtain ⟨rfl,rfl,rfl,rfl,rfl,rfl,rfl,rfl⟩:=hz_;exact csep_meet0 va vb a b cm w ha hb hsa hsb hna hnb hp h0a h0b
theorem csepar_apartZ (va vb:Value) (a b:List (Rat×Rat)) (p q d:Rat×Rat) (lv:Rat) (z1 z2 z3 z4 z5 z6 z7 z8 z9 z10 z11 z12:Value) (hz:Hid ([.bool (ng d.1.num),.string (mg d.1.num.natAbs),.bool false,.string (mg (dn d.1)),.bool (ng d.2.num),.string (mg d.2.num.natAbs),.bool false,.string (mg (dn d.2)),.bool (ng lv.num),.string (mg lv.num.natAbs),.bool false,.string (mg (dn lv))]=[z1,z2,z3,z4,z5,z6,z7,z8,z9,z10,z11,z12])) (w:World) (ha:PV w va a) (hb:PV w vb b) (hka:Small a) (hkb:Small b) (h0a:0<a.length) (h0b:0<b.length) (hL:Pl.interC a b=[]) (hp:(Pl.nearest2 a b).1=p) (hq:(Pl.nearest2 a b).2=q) (hd:Pl.subP q p=d) (hlv:Pl.midL p q=lv) :
 Calls Tryz.prog 51 #[va,vb] w fun e w'=>e=.returned (.tuple #[.agg #[.bool true,.bool false,.string ⟨#[]⟩,.bool false,.string ⟨#[]⟩,.bool false,.string ⟨#[]⟩,.bool false,.string ⟨#[]⟩,z1,z2,z3,z4,z5,z6,z7,z8,z9,z10,z11,z12],.int .i64 0])∧Below w.heap.size w w':=by
 have hz_:=hz.out;simp only [List.cons.injEq,and_true] at hz_;obtain ⟨rfl,rfl,rfl,rfl,rfl,rfl,rfl,rfl,rfl,rfl,rfl,rfl⟩:=hz_;exact csepar_apart va vb a b w ha hb hka hkb h0a h0b hL p q d lv hp hq hd hlv
theorem fits_apartZ (va vb:Value) (a b:List (Rat×Rat)) (d:Rat×Rat) (lv:Rat) (z1 z2 z3 z4 z5 z6 z7 z8 z9 z10 z11 z12:Value) (hz:Hid ([.bool (ng d.1.num),.string (mg d.1.num.natAbs),.bool false,.string (mg (dn d.1)),.bool (ng d.2.num),.string (mg d.2.num.natAbs),.bool false,.string (mg (dn d.2)),.bool (ng lv.num),.string (mg lv.num.natAbs),.bool false,.string (mg (dn lv))]=[z1,z2,z3,z4,z5,z6,z7,z8,z9,z10,z11,z12])) (w:World) (ha:PV w va a) (hb:PV w vb b) (hsa:∀ q∈a,Pl.SzP 2000 q) (hsb:∀ q∈b,Pl.SzP 2000 q) (hna:a.length≤1000000) (hnb:b.length≤1000000) (hd:Pl.SzP 2000 d) (hl:Pl.Sz 2000 lv) :
 Calls Tryz.prog 22 #[va,vb,.bool true,.agg #[.bool false,.string ⟨#[]⟩,.bool false,.string ⟨#[]⟩,.bool false,.string ⟨#[]⟩,.bool false,.string ⟨#[]⟩],.agg #[z1,z2,z3,z4,z5,z6,z7,z8],.agg #[z9,z10,z11,z12]] w fun e w'=>e=.returned (.bool (fitsB a b true (0,0) d lv))∧Below w.heap.size w w':=by
 have hz_:=hz.out;simp only [List.cons.injEq,and_true] at hz_;obtain ⟨rfl,rfl,rfl,rfl,rfl,rfl,rfl,rfl,rfl,rfl,rfl,rfl⟩:=hz_;exact fits_apart0 va vb a b d lv w ha hb hsa hsb hna hnb hd hl
theorem csep_apartZ (va vb:Value) (a b:List (Rat×Rat)) (d:Rat×Rat) (lv:Rat) (z1 z2 z3 z4 z5 z6 z7 z8 z9 z10 z11 z12:Value) (hz:Hid ([.bool (ng d.1.num),.string (mg d.1.num.natAbs),.bool false,.string (mg (dn d.1)),.bool (ng d.2.num),.string (mg d.2.num.natAbs),.bool false,.string (mg (dn d.2)),.bool (ng lv.num),.string (mg lv.num.natAbs),.bool false,.string (mg (dn lv))]=[z1,z2,z3,z4,z5,z6,z7,z8,z9,z10,z11,z12])) (w:World) (ha:PV w va a) (hb:PV w vb b) (hsa:∀ q∈a,Pl.SzP 2000 q) (hsb:∀ q∈b,Pl.SzP 2000 q) (hna:a.length≤1000000) (hnb:b.length≤1000000) (hd:Pl.SzP 2000 d) (hl:Pl.Sz 2000 lv) (h0a:0<a.length) (h0b:0<b.length) :
 Calls Tryz.prog 23 #[va,vb,.agg #[.bool true,.bool false,.string ⟨#[]⟩,.bool false,.string ⟨#[]⟩,.bool false,.string ⟨#[]⟩,.bool false,.string ⟨#[]⟩,z1,z2,z3,z4,z5,z6,z7,z8,z9,z10,z11,z12]] w fun e w'=>e=.returned (.int .i64 (csepA a b (0,0) d lv))∧Below w.heap.size w w':=by
 have hz_:=hz.out;simp only [List.cons.injEq,and_true] at hz_;obtain ⟨rfl,rfl,rfl,rfl,rfl,rfl,rfl,rfl,rfl,rfl,rfl,rfl⟩:=hz_;exact csep_apart0 va vb a b d lv w ha hb hsa hsb hna hnb hd hl h0a h0b

set_option maxHeartbeats 2000000 in
theorem seps_none1 (Aa Ab:Option Addr) (ca cb:Nat) (a b:List (Int×Int×Bool)) (w:World) (ha':TV w (.slice Aa a.length ca) a) (hia:∀ s∈a,In8 s) (hna:a.length≤9223372036854775807) (hca:a.length≤ca) (hb':TV w (.slice Ab b.length cb) b) (hib:∀ s∈b,In8 s) (hnb:b.length≤9223372036854775807) (hcb:b.length≤cb) (hX0:(setOf a).length=0) :
 Calls Tryz.prog 14 #[.slice Aa a.length ca,.slice Ab b.length cb] w fun e w'=>e=.returned (.bool true)∧Below w.heap.size w w':=by
 have hlta:=TV.take (M:=min a.length 8) ha' (Nat.min_le_left _ _);obtain ⟨Ma,hMa⟩:∃ M,M=min a.length 8:=⟨_,rfl⟩
 rw [← hMa] at hlta;have hM8a:Ma≤8:=by omega
 have hMNa:Ma≤a.length:=by omega
 have HTA:=Lib.hid hlta;have HIA:Hid (∀ s∈a.take Ma,In8 s):=Lib.hid fun s hs=>hia s (List.mem_of_mem_take hs)
 obtain ⟨X,hSa⟩:∃ S,Pl.wrap (ptsOf (a.take Ma))=S:=⟨_,rfl⟩
 have HSWA:=Lib.hid hSa;have HSX:Hid (∀ q∈X,Pl.SzP 1 q):=Lib.hid (hSa▸wrap_sz (ptsOf_sz HIA.out));have HMX:Hid (X.length≤12):=Lib.hid (by have:=wrap_len (ptsOf (a.take Ma));have:=ptsOf_len (a.take Ma);rw [hSa] at *;omega);have HNX:Hid (X.length≤1000000):=Lib.hid (by have:=HMX.out;omega);have HKX:Hid (Small X):=Lib.hid ⟨by rw [← hSa];exact Pl.wrap_wrap _,HSX.out,HMX.out⟩;clear hSa hlta;have hmia:min (a.length:Int) 8=(Ma:Int):=by omega
 have hifa:(if (8:Int)<(a.length:Int) then (8:Int) else (a.length:Int))=(Ma:Int):=by split<;>omega
 generalize hNa:a.length=Na at *;have hmca:(Ma:Int)≤ca:=by omega
 have hmna:(Ma:Int)≤Na:=by omega
 clear ha' hia hMa;have hltb:=TV.take (M:=min b.length 8) hb' (Nat.min_le_left _ _);obtain ⟨Mb,hMb⟩:∃ M,M=min b.length 8:=⟨_,rfl⟩
 rw [← hMb] at hltb;have hM8b:Mb≤8:=by omega
 have hMNb:Mb≤b.length:=by omega
 have HTB:=Lib.hid hltb;have HIB:Hid (∀ s∈b.take Mb,In8 s):=Lib.hid fun s hs=>hib s (List.mem_of_mem_take hs)
 obtain ⟨Y,hSb⟩:∃ S,Pl.wrap (ptsOf (b.take Mb))=S:=⟨_,rfl⟩
 have HSWB:=Lib.hid hSb;have HSY:Hid (∀ q∈Y,Pl.SzP 1 q):=Lib.hid (hSb▸wrap_sz (ptsOf_sz HIB.out));have HMY:Hid (Y.length≤12):=Lib.hid (by have:=wrap_len (ptsOf (b.take Mb));have:=ptsOf_len (b.take Mb);rw [hSb] at *;omega);have HNY:Hid (Y.length≤1000000):=Lib.hid (by have:=HMY.out;omega);have HKY:Hid (Small Y):=Lib.hid ⟨by rw [← hSb];exact Pl.wrap_wrap _,HSY.out,HMY.out⟩;clear hSb hltb;have hmib:min (b.length:Int) 8=(Mb:Int):=by omega
 have hifb:(if (8:Int)<(b.length:Int) then (8:Int) else (b.length:Int))=(Mb:Int):=by split<;>omega
 generalize hNb:b.length=Nb at *;have hmcb:(Mb:Int)≤cb:=by omega
 have hmnb:(Mb:Int)≤Nb:=by omega
 clear hb' hib hMb;have hXS:setOf a=X:=by unfold setOf;rw [hNa,show min Na 8=Ma by omega];exact HSWA.out
 have hYS:setOf b=Y:=by unfold setOf;rw [hNb,show min Nb 8=Mb by omega];exact HSWB.out
 rw [hXS] at hX0;have HE0:=Lib.hid hX0;have HE:Hid (X.length=0∨Y.length=0):=Lib.hid (.inl hX0);clear hX0 hXS hYS;have EQS:=fun W=>eqSep0 W
 go_enter Tryz.func14,Tryz.ntmps14;go_upto_region 1 with fail
 refine wp_named ?_;intro W1 hW1;have hL1:Below w.heap.size w W1:=by rw [hW1];exact bB
 have hB1:Below w.heap.size w W1:=by rw [hW1];exact bB
 clear hW1 hL1;have K2:=Lib.hid (fun W (h:TV W (.slice Aa Ma ca) (a.take Ma))=>HSWA.out▸set_any (.slice Aa Ma ca) (a.take Ma) W h HIA.out (by rw [List.length_take];omega));have K4:=Lib.hid (fun W (h:TV W (.slice Ab Mb cb) (b.take Mb))=>HSWB.out▸set_any (.slice Ab Mb cb) (b.take Mb) W h HIB.out (by rw [List.length_take];omega));have HSS6:=True.intro;go_cut [5,6] (fun x5 x6 wx=>PV wx x5 X∧PV wx x6 Y∧Below W1.heap.size W1 wx)
 case first =>
  go_region_held3 (fun w'=>True) (trivial) (first
   | (go_at_call 16;with_reducible refine (K2.out _ (HTA.out.up (bel_up hB1 (by exact bD)))).mono ?_;rintro e v_3 ⟨vv_3,rfl,hv_3,hbq_3⟩;have hsz_3:=hbq_3.size;(try simp [size_drewC] at hsz_3))
   | (go_at_call 16;with_reducible refine (K4.out _ (HTB.out.up (bel_up hB1 (by exact bD)))).mono ?_;rintro e v_5 ⟨vv_5,rfl,hv_5,hbq_5⟩;have hsz_5:=hbq_5.size;(try simp [size_drewC] at hsz_5)))
  all_goals
   go_wp2_with fail;go_meet;refine ⟨(hv_3.up (by repeat (first|with_reducible exact Below.refl _ _|with_reducible refine bel_alloc ?_ _|with_reducible refine Below.drew ?_|(refine Below.setCell ?_ (by first|(simp;done)|(simp;omega)|omega) _)|with_reducible refine bel_up ?_ (by with_reducible assumption)))),(hv_5.up (by repeat (first|with_reducible exact Below.refl _ _|with_reducible refine bel_alloc ?_ _|with_reducible refine Below.drew ?_|(refine Below.setCell ?_ (by first|(simp;done)|(simp;omega)|omega) _)|with_reducible refine bel_up ?_ (by with_reducible assumption)))),?_⟩
   ·(exact bD)
 case rest =>
  obtain ⟨lv7,lv8,hbz1⟩:=hcut;obtain ⟨wz1,hwz1⟩:∃ W_,W_=wc:=⟨_,rfl⟩
  subst hwz1;clear HSS6;have hB9:Below w.heap.size w wz1:=bel_up hB1 hbz1;have PV10:=Lib.hid lv7;clear lv7;have PV12:=Lib.hid lv8;clear lv8;have K14:=Lib.hid (fun W va vb (ha:PV W va X) (hb:PV W vb Y)=>csepar_none va vb X Y W ha hb HE.out);go_wp2_with (fail)
  refine calls_named ?_;intro W2 hW2;have hL2:Below wz1.heap.size wz1 W2:=by rw [hW2];exact bB
  have hA15:=hL2;have hB16:Below w.heap.size w W2:=by rw [hW2];exact bB
  clear hW2 hL2;with_reducible refine (K14.out _ _ _ (PV10.out.up hA15) (PV12.out.up hA15)).mono ?_
  rintro e w2 ⟨rfl,hb2⟩;have hA17:=bel_up hA15 hb2;have hB18:Below w.heap.size w w2:=bel_up hB16 hb2;clear hA15;have an19:wz1.heap.size≤w2.heap.size:=by have:=hA17.size;omega
  obtain ⟨AX,cX,hvX⟩:∃ A c,u5=.slice A 0 c:=by obtain ⟨A,c,h,_⟩:=((PV10.out.up hA17)).open_;exact ⟨A,c,by rw [h,HE0.out]⟩
  subst hvX;have K20:=Lib.hid (fun W=>known_any W);go_wp2_with (refine wpList_store_new rfl _ _ _ rfl _ _ rfl rfl (by kernel_rfl) (by rfl) (by simp [Value.oneCell']) ?_)
  refine calls_named ?_;intro W3 hW3;have hL3:Below w2.heap.size w2 W3:=by rw [hW3];exact bB
  have c21:Own W3 w2.heap.size 0 [.bool false,.bool false,.string ⟨#[]⟩,.bool false,.string ⟨#[]⟩,.bool false,.string ⟨#[]⟩,.bool false,.string ⟨#[]⟩,.bool false,.string ⟨#[]⟩,.bool false,.string ⟨#[]⟩,.bool false,.string ⟨#[]⟩,.bool false,.string ⟨#[]⟩,.bool false,.string ⟨#[]⟩,.bool false,.string ⟨#[]⟩]:=by
   rw [hW3]
   first
   | (repeat (first|(with_reducible refine own_new (l:=[.bool false,.bool false,.string ⟨#[]⟩,.bool false,.string ⟨#[]⟩,.bool false,.string ⟨#[]⟩,.bool false,.string ⟨#[]⟩,.bool false,.string ⟨#[]⟩,.bool false,.string ⟨#[]⟩,.bool false,.string ⟨#[]⟩,.bool false,.string ⟨#[]⟩,.bool false,.string ⟨#[]⟩,.bool false,.string ⟨#[]⟩]) ?_;(simp;done))|with_reducible refine Own.alloc ?_ _|refine Own.far _ _ (by first|(simp;done)|(simp [*];done)|(simp;omega)) ?_));done
   | simp [Own,go_sem]
  have hA22:=bel_up hA17 hL3;have hB23:Below w.heap.size w W3:=by rw [hW3];exact bB
  clear hW3 hL3 hA17;with_reducible refine (K20.out _).mono ?_
  rintro e w3 ⟨rfl,hb3⟩;have c24:=c21.up hb3;have hA25:=bel_up hA22 hb3;have hB26:Below w.heap.size w w3:=bel_up hB23 hb3;clear c21 hA22;have uc24:=c24;simp only [At,Own,Nat.reduceAdd,and_true] at uc24;go_wp2_with (fail)
  refine calls_named ?_;intro W4 hW4;have hL4:Below w3.heap.size w3 W4:=by rw [hW4];exact bB
  have c27:=c24.up hL4;have hA28:=bel_up hA25 hL4;have hB29:Below w.heap.size w W4:=by rw [hW4];exact bB
  clear hW4 hL4 uc24 c24 hA25;with_reducible refine (K20.out _).mono ?_
  rintro e w4 ⟨rfl,hb4⟩;have c30:=c27.up hb4;have hA31:=bel_up hA28 hb4;have hB32:Below w.heap.size w w4:=bel_up hB29 hb4;clear c27 hA28;have uc30:=c30;simp only [At,Own,Nat.reduceAdd,and_true] at uc30;have K33:=Lib.hid (fun W va vb (ha:PV W va X) (hb:PV W vb Y)=>csep0_none va vb X Y W ha hb HE.out);go_wp2_with (refine wpList_load_own (by rfl) _ _ rfl _ rfl _ _ c30 Tryz.underlying42 (by rfl) (by kernel_rfl) ?_)
  refine calls_named ?_;intro W5 hW5;have hL5:Below w4.heap.size w4 W5:=by rw [hW5];exact bB
  have c34:=c30.up hL5;have hA35:=bel_up hA31 hL5;have hB36:Below w.heap.size w W5:=by rw [hW5];exact bB
  clear hW5 hL5 uc30 c30 hA31;with_reducible refine (K33.out _ _ _ (PV10.out.up hA35) (PV12.out.up hA35)).mono ?_
  rintro e w5 ⟨rfl,hb5⟩;have c37:=c34.up hb5;have hA38:=bel_up hA35 hb5;have hB39:Below w.heap.size w w5:=bel_up hB36 hb5;clear c34 hA35;have uc37:=c37;simp only [At,Own,Nat.reduceAdd,and_true] at uc37;go_wp2;go_ret;refine ⟨rfl,?_⟩;exact bB

set_option maxHeartbeats 2000000 in
theorem seps_none2 (Aa Ab:Option Addr) (ca cb:Nat) (a b:List (Int×Int×Bool)) (w:World) (ha':TV w (.slice Aa a.length ca) a) (hia:∀ s∈a,In8 s) (hna:a.length≤9223372036854775807) (hca:a.length≤ca) (hb':TV w (.slice Ab b.length cb) b) (hib:∀ s∈b,In8 s) (hnb:b.length≤9223372036854775807) (hcb:b.length≤cb) (hX0:0<(setOf a).length) (hY0:(setOf b).length=0) :
 Calls Tryz.prog 14 #[.slice Aa a.length ca,.slice Ab b.length cb] w fun e w'=>e=.returned (.bool true)∧Below w.heap.size w w':=by
 have hlta:=TV.take (M:=min a.length 8) ha' (Nat.min_le_left _ _);obtain ⟨Ma,hMa⟩:∃ M,M=min a.length 8:=⟨_,rfl⟩
 rw [← hMa] at hlta;have hM8a:Ma≤8:=by omega
 have hMNa:Ma≤a.length:=by omega
 have HTA:=Lib.hid hlta;have HIA:Hid (∀ s∈a.take Ma,In8 s):=Lib.hid fun s hs=>hia s (List.mem_of_mem_take hs)
 obtain ⟨X,hSa⟩:∃ S,Pl.wrap (ptsOf (a.take Ma))=S:=⟨_,rfl⟩
 have HSWA:=Lib.hid hSa;have HSX:Hid (∀ q∈X,Pl.SzP 1 q):=Lib.hid (hSa▸wrap_sz (ptsOf_sz HIA.out));have HMX:Hid (X.length≤12):=Lib.hid (by have:=wrap_len (ptsOf (a.take Ma));have:=ptsOf_len (a.take Ma);rw [hSa] at *;omega);have HNX:Hid (X.length≤1000000):=Lib.hid (by have:=HMX.out;omega);have HKX:Hid (Small X):=Lib.hid ⟨by rw [← hSa];exact Pl.wrap_wrap _,HSX.out,HMX.out⟩;clear hSa hlta;have hmia:min (a.length:Int) 8=(Ma:Int):=by omega
 have hifa:(if (8:Int)<(a.length:Int) then (8:Int) else (a.length:Int))=(Ma:Int):=by split<;>omega
 generalize hNa:a.length=Na at *;have hmca:(Ma:Int)≤ca:=by omega
 have hmna:(Ma:Int)≤Na:=by omega
 clear ha' hia hMa;have hltb:=TV.take (M:=min b.length 8) hb' (Nat.min_le_left _ _);obtain ⟨Mb,hMb⟩:∃ M,M=min b.length 8:=⟨_,rfl⟩
 rw [← hMb] at hltb;have hM8b:Mb≤8:=by omega
 have hMNb:Mb≤b.length:=by omega
 have HTB:=Lib.hid hltb;have HIB:Hid (∀ s∈b.take Mb,In8 s):=Lib.hid fun s hs=>hib s (List.mem_of_mem_take hs)
 obtain ⟨Y,hSb⟩:∃ S,Pl.wrap (ptsOf (b.take Mb))=S:=⟨_,rfl⟩
 have HSWB:=Lib.hid hSb;have HSY:Hid (∀ q∈Y,Pl.SzP 1 q):=Lib.hid (hSb▸wrap_sz (ptsOf_sz HIB.out));have HMY:Hid (Y.length≤12):=Lib.hid (by have:=wrap_len (ptsOf (b.take Mb));have:=ptsOf_len (b.take Mb);rw [hSb] at *;omega);have HNY:Hid (Y.length≤1000000):=Lib.hid (by have:=HMY.out;omega);have HKY:Hid (Small Y):=Lib.hid ⟨by rw [← hSb];exact Pl.wrap_wrap _,HSY.out,HMY.out⟩;clear hSb hltb;have hmib:min (b.length:Int) 8=(Mb:Int):=by omega
 have hifb:(if (8:Int)<(b.length:Int) then (8:Int) else (b.length:Int))=(Mb:Int):=by split<;>omega
 generalize hNb:b.length=Nb at *;have hmcb:(Mb:Int)≤cb:=by omega
 have hmnb:(Mb:Int)≤Nb:=by omega
 clear hb' hib hMb;have hXS:setOf a=X:=by unfold setOf;rw [hNa,show min Na 8=Ma by omega];exact HSWA.out
 have hYS:setOf b=Y:=by unfold setOf;rw [hNb,show min Nb 8=Mb by omega];exact HSWB.out
 rw [hXS] at hX0;rw [hYS] at hY0;obtain ⟨NX,hNX⟩:∃ n,n=X.length:=⟨_,rfl⟩
 have jx0:¬ (NX:Int)=0:=by omega
 have jx1:((NX:Int)==0)=false:=by simpa using jx0
 have HLX:=Lib.hid hNX.symm;have H0X:=Lib.hid hX0;have HE0:=Lib.hid hY0;have HE:Hid (X.length=0∨Y.length=0):=Lib.hid (.inr hY0);clear hX0 hY0 hXS hYS hNX;have EQS:=fun W=>eqSep0 W
 go_enter Tryz.func14,Tryz.ntmps14;go_upto_region 1 with fail
 refine wp_named ?_;intro W1 hW1;have hL1:Below w.heap.size w W1:=by rw [hW1];exact bB
 have hB1:Below w.heap.size w W1:=by rw [hW1];exact bB
 clear hW1 hL1;have K2:=Lib.hid (fun W (h:TV W (.slice Aa Ma ca) (a.take Ma))=>HSWA.out▸set_any (.slice Aa Ma ca) (a.take Ma) W h HIA.out (by rw [List.length_take];omega));have K4:=Lib.hid (fun W (h:TV W (.slice Ab Mb cb) (b.take Mb))=>HSWB.out▸set_any (.slice Ab Mb cb) (b.take Mb) W h HIB.out (by rw [List.length_take];omega));have HSS6:=True.intro;go_cut [5,6] (fun x5 x6 wx=>PV wx x5 X∧PV wx x6 Y∧Below W1.heap.size W1 wx)
 case first =>
  go_region_held3 (fun w'=>True) (trivial) (first
   | (go_at_call 16;with_reducible refine (K2.out _ (HTA.out.up (bel_up hB1 (by exact bD)))).mono ?_;rintro e v_3 ⟨vv_3,rfl,hv_3,hbq_3⟩;have hsz_3:=hbq_3.size;(try simp [size_drewC] at hsz_3))
   | (go_at_call 16;with_reducible refine (K4.out _ (HTB.out.up (bel_up hB1 (by exact bD)))).mono ?_;rintro e v_5 ⟨vv_5,rfl,hv_5,hbq_5⟩;have hsz_5:=hbq_5.size;(try simp [size_drewC] at hsz_5)))
  all_goals
   go_wp2_with fail;go_meet;refine ⟨(hv_3.up (by repeat (first|with_reducible exact Below.refl _ _|with_reducible refine bel_alloc ?_ _|with_reducible refine Below.drew ?_|(refine Below.setCell ?_ (by first|(simp;done)|(simp;omega)|omega) _)|with_reducible refine bel_up ?_ (by with_reducible assumption)))),(hv_5.up (by repeat (first|with_reducible exact Below.refl _ _|with_reducible refine bel_alloc ?_ _|with_reducible refine Below.drew ?_|(refine Below.setCell ?_ (by first|(simp;done)|(simp;omega)|omega) _)|with_reducible refine bel_up ?_ (by with_reducible assumption)))),?_⟩
   ·(exact bD)
 case rest =>
  obtain ⟨lv7,lv8,hbz1⟩:=hcut;obtain ⟨wz1,hwz1⟩:∃ W_,W_=wc:=⟨_,rfl⟩
  subst hwz1;clear HSS6;have hB9:Below w.heap.size w wz1:=bel_up hB1 hbz1;have PV10:=Lib.hid lv7;clear lv7;have PV12:=Lib.hid lv8;clear lv8;have K14:=Lib.hid (fun W va vb (ha:PV W va X) (hb:PV W vb Y)=>csepar_none va vb X Y W ha hb HE.out);go_wp2_with (fail)
  refine calls_named ?_;intro W2 hW2;have hL2:Below wz1.heap.size wz1 W2:=by rw [hW2];exact bB
  have hA15:=hL2;have hB16:Below w.heap.size w W2:=by rw [hW2];exact bB
  clear hW2 hL2;with_reducible refine (K14.out _ _ _ (PV10.out.up hA15) (PV12.out.up hA15)).mono ?_
  rintro e w2 ⟨rfl,hb2⟩;have hA17:=bel_up hA15 hb2;have hB18:Below w.heap.size w w2:=bel_up hB16 hb2;clear hA15;have an19:wz1.heap.size≤w2.heap.size:=by have:=hA17.size;omega
  obtain ⟨AX,cX,hvX⟩:∃ A c,u5=.slice A NX c:=by obtain ⟨A,c,h,_⟩:=((PV10.out.up hA17)).open_;exact ⟨A,c,by rw [h,HLX.out]⟩
  subst hvX;obtain ⟨AY,cY,hvY⟩:∃ A c,u6=.slice A 0 c:=by obtain ⟨A,c,h,_⟩:=((PV12.out.up hA17)).open_;exact ⟨A,c,by rw [h,HE0.out]⟩
  subst hvY;have K20:=Lib.hid (fun W=>known_any W);go_wp2_with (refine wpList_store_new rfl _ _ _ rfl _ _ rfl rfl (by kernel_rfl) (by rfl) (by simp [Value.oneCell']) ?_)
  refine calls_named ?_;intro W3 hW3;have hL3:Below w2.heap.size w2 W3:=by rw [hW3];exact bB
  have c21:Own W3 w2.heap.size 0 [.bool false,.bool false,.string ⟨#[]⟩,.bool false,.string ⟨#[]⟩,.bool false,.string ⟨#[]⟩,.bool false,.string ⟨#[]⟩,.bool false,.string ⟨#[]⟩,.bool false,.string ⟨#[]⟩,.bool false,.string ⟨#[]⟩,.bool false,.string ⟨#[]⟩,.bool false,.string ⟨#[]⟩,.bool false,.string ⟨#[]⟩]:=by
   rw [hW3]
   first
   | (repeat (first|(with_reducible refine own_new (l:=[.bool false,.bool false,.string ⟨#[]⟩,.bool false,.string ⟨#[]⟩,.bool false,.string ⟨#[]⟩,.bool false,.string ⟨#[]⟩,.bool false,.string ⟨#[]⟩,.bool false,.string ⟨#[]⟩,.bool false,.string ⟨#[]⟩,.bool false,.string ⟨#[]⟩,.bool false,.string ⟨#[]⟩,.bool false,.string ⟨#[]⟩]) ?_;(simp;done))|with_reducible refine Own.alloc ?_ _|refine Own.far _ _ (by first|(simp;done)|(simp [*];done)|(simp;omega)) ?_));done
   | simp [Own,go_sem]
  have hA22:=bel_up hA17 hL3;have hB23:Below w.heap.size w W3:=by rw [hW3];exact bB
  clear hW3 hL3 hA17;with_reducible refine (K20.out _).mono ?_
  rintro e w3 ⟨rfl,hb3⟩;have c24:=c21.up hb3;have hA25:=bel_up hA22 hb3;have hB26:Below w.heap.size w w3:=bel_up hB23 hb3;clear c21 hA22;have uc24:=c24;simp only [At,Own,Nat.reduceAdd,and_true] at uc24;go_wp2_with (fail)
  refine calls_named ?_;intro W4 hW4;have hL4:Below w3.heap.size w3 W4:=by rw [hW4];exact bB
  have c27:=c24.up hL4;have hA28:=bel_up hA25 hL4;have hB29:Below w.heap.size w W4:=by rw [hW4];exact bB
  clear hW4 hL4 uc24 c24 hA25;with_reducible refine (K20.out _).mono ?_
  rintro e w4 ⟨rfl,hb4⟩;have c30:=c27.up hb4;have hA31:=bel_up hA28 hb4;have hB32:Below w.heap.size w w4:=bel_up hB29 hb4;clear c27 hA28;have uc30:=c30;simp only [At,Own,Nat.reduceAdd,and_true] at uc30;have K33:=Lib.hid (fun W va vb (ha:PV W va X) (hb:PV W vb Y)=>csep0_none va vb X Y W ha hb HE.out);go_wp2_with (refine wpList_load_own (by rfl) _ _ rfl _ rfl _ _ c30 Tryz.underlying42 (by rfl) (by kernel_rfl) ?_)
  refine calls_named ?_;intro W5 hW5;have hL5:Below w4.heap.size w4 W5:=by rw [hW5];exact bB
  have c34:=c30.up hL5;have hA35:=bel_up hA31 hL5;have hB36:Below w.heap.size w W5:=by rw [hW5];exact bB
  clear hW5 hL5 uc30 c30 hA31;with_reducible refine (K33.out _ _ _ (PV10.out.up hA35) (PV12.out.up hA35)).mono ?_
  rintro e w5 ⟨rfl,hb5⟩;have c37:=c34.up hb5;have hA38:=bel_up hA35 hb5;have hB39:Below w.heap.size w w5:=bel_up hB36 hb5;clear c34 hA35;have uc37:=c37;simp only [At,Own,Nat.reduceAdd,and_true] at uc37;go_wp2;go_ret;refine ⟨rfl,?_⟩;exact bB

set_option maxHeartbeats 4000000 in
theorem seps_meet (Aa Ab:Option Addr) (ca cb:Nat) (a b:List (Int×Int×Bool)) (w:World) (ha':TV w (.slice Aa a.length ca) a) (hia:∀ s∈a,In8 s) (hna:a.length≤9223372036854775807) (hca:a.length≤ca) (hb':TV w (.slice Ab b.length cb) b) (hib:∀ s∈b,In8 s) (hnb:b.length≤9223372036854775807) (hcb:b.length≤cb) (hX0:0<(setOf a).length) (hY0:0<(setOf b).length) (cm:Rat×Rat) (hcm:(Pl.interC (setOf a) (setOf b))[0]?=some cm) :
 Calls Tryz.prog 14 #[.slice Aa a.length ca,.slice Ab b.length cb] w fun e w'=>e=.returned (.bool true)∧Below w.heap.size w w':=by
 have hlta:=TV.take (M:=min a.length 8) ha' (Nat.min_le_left _ _);obtain ⟨Ma,hMa⟩:∃ M,M=min a.length 8:=⟨_,rfl⟩
 rw [← hMa] at hlta;have hM8a:Ma≤8:=by omega
 have hMNa:Ma≤a.length:=by omega
 have HTA:=Lib.hid hlta;have HIA:Hid (∀ s∈a.take Ma,In8 s):=Lib.hid fun s hs=>hia s (List.mem_of_mem_take hs)
 obtain ⟨X,hSa⟩:∃ S,Pl.wrap (ptsOf (a.take Ma))=S:=⟨_,rfl⟩
 have HSWA:=Lib.hid hSa;have HSX:Hid (∀ q∈X,Pl.SzP 1 q):=Lib.hid (hSa▸wrap_sz (ptsOf_sz HIA.out));have HMX:Hid (X.length≤12):=Lib.hid (by have:=wrap_len (ptsOf (a.take Ma));have:=ptsOf_len (a.take Ma);rw [hSa] at *;omega);have HNX:Hid (X.length≤1000000):=Lib.hid (by have:=HMX.out;omega);have HKX:Hid (Small X):=Lib.hid ⟨by rw [← hSa];exact Pl.wrap_wrap _,HSX.out,HMX.out⟩;clear hSa hlta;have hmia:min (a.length:Int) 8=(Ma:Int):=by omega
 have hifa:(if (8:Int)<(a.length:Int) then (8:Int) else (a.length:Int))=(Ma:Int):=by split<;>omega
 generalize hNa:a.length=Na at *;have hmca:(Ma:Int)≤ca:=by omega
 have hmna:(Ma:Int)≤Na:=by omega
 clear ha' hia hMa;have hltb:=TV.take (M:=min b.length 8) hb' (Nat.min_le_left _ _);obtain ⟨Mb,hMb⟩:∃ M,M=min b.length 8:=⟨_,rfl⟩
 rw [← hMb] at hltb;have hM8b:Mb≤8:=by omega
 have hMNb:Mb≤b.length:=by omega
 have HTB:=Lib.hid hltb;have HIB:Hid (∀ s∈b.take Mb,In8 s):=Lib.hid fun s hs=>hib s (List.mem_of_mem_take hs)
 obtain ⟨Y,hSb⟩:∃ S,Pl.wrap (ptsOf (b.take Mb))=S:=⟨_,rfl⟩
 have HSWB:=Lib.hid hSb;have HSY:Hid (∀ q∈Y,Pl.SzP 1 q):=Lib.hid (hSb▸wrap_sz (ptsOf_sz HIB.out));have HMY:Hid (Y.length≤12):=Lib.hid (by have:=wrap_len (ptsOf (b.take Mb));have:=ptsOf_len (b.take Mb);rw [hSb] at *;omega);have HNY:Hid (Y.length≤1000000):=Lib.hid (by have:=HMY.out;omega);have HKY:Hid (Small Y):=Lib.hid ⟨by rw [← hSb];exact Pl.wrap_wrap _,HSY.out,HMY.out⟩;clear hSb hltb;have hmib:min (b.length:Int) 8=(Mb:Int):=by omega
 have hifb:(if (8:Int)<(b.length:Int) then (8:Int) else (b.length:Int))=(Mb:Int):=by split<;>omega
 generalize hNb:b.length=Nb at *;have hmcb:(Mb:Int)≤cb:=by omega
 have hmnb:(Mb:Int)≤Nb:=by omega
 clear hb' hib hMb;have hXS:setOf a=X:=by unfold setOf;rw [hNa,show min Na 8=Ma by omega];exact HSWA.out
 have hYS:setOf b=Y:=by unfold setOf;rw [hNb,show min Nb 8=Mb by omega];exact HSWB.out
 rw [hXS] at hX0 hcm;rw [hYS] at hY0 hcm;obtain ⟨NX,hNX⟩:∃ n,n=X.length:=⟨_,rfl⟩
 have jx0:¬ (NX:Int)=0:=by omega
 have jx1:((NX:Int)==0)=false:=by simpa using jx0
 have HLX:=Lib.hid hNX.symm;have H0X:=Lib.hid hX0;obtain ⟨NY,hNY⟩:∃ n,n=Y.length:=⟨_,rfl⟩
 have jy0:¬ (NY:Int)=0:=by omega
 have jy1:((NY:Int)==0)=false:=by simpa using jy0
 have HLY:=Lib.hid hNY.symm;have H0Y:=Lib.hid hY0;have HZX:Hid (∀ q∈X,Pl.SzP 2000 q):=Lib.hid fun q hq=>(HSX.out q hq).mono (by decide)
 have HZY:Hid (∀ q∈Y,Pl.SzP 2000 q):=Lib.hid fun q hq=>(HSY.out q hq).mono (by decide)
 obtain ⟨L,hL⟩:∃ L,Pl.interC X Y=L:=⟨_,rfl⟩
 have hLZ:=(inter_good HKX.out HKY.out).sz;have HLAW:=Lib.hid (meet_law HKX.out.wrap HKY.out.wrap hX0 hY0 (List.mem_of_getElem? hcm));have HZC:Hid (Pl.SzP 2000 cm):=Lib.hid ((hLZ cm (List.mem_of_getElem? hcm)).mono (by decide));rw [hL] at hcm;obtain ⟨NL,hNL⟩:∃ n,L.length=n:=⟨_,rfl⟩
 have hnl:0<NL:=by rw [← hNL];exact (List.getElem?_eq_some_iff.1 hcm).1
 have jl0:¬ (NL:Int)=0:=by omega
 have jl1:((NL:Int)==0)=false:=by simpa using jl0
 have HL:=Lib.hid hL;have HNL:=Lib.hid hNL;have HCM:=Lib.hid hcm;clear hX0 hY0 hXS hYS hNX hNY hcm hL hLZ hNL;obtain ⟨m1,m2,m3,m4,m5,m6,m7,m8,hzz⟩:∃ m1 m2 m3 m4 m5 m6 m7 m8:Value,[.bool (ng cm.1.num),.string (mg cm.1.num.natAbs),.bool false,.string (mg (dn cm.1)),.bool (ng cm.2.num),.string (mg cm.2.num.natAbs),.bool false,.string (mg (dn cm.2))]=[m1,m2,m3,m4,m5,m6,m7,m8]:=⟨_,_,_,_,_,_,_,_,rfl⟩
 have HZZ:=Lib.hid hzz;clear hzz;go_enter Tryz.func14,Tryz.ntmps14;go_upto_region 1 with fail
 refine wp_named ?_;intro W1 hW1;have hL1:Below w.heap.size w W1:=by rw [hW1];exact bB
 have hB1:Below w.heap.size w W1:=by rw [hW1];exact bB
 clear hW1 hL1;have K2:=Lib.hid (fun W (h:TV W (.slice Aa Ma ca) (a.take Ma))=>HSWA.out▸set_any (.slice Aa Ma ca) (a.take Ma) W h HIA.out (by rw [List.length_take];omega));have K4:=Lib.hid (fun W (h:TV W (.slice Ab Mb cb) (b.take Mb))=>HSWB.out▸set_any (.slice Ab Mb cb) (b.take Mb) W h HIB.out (by rw [List.length_take];omega));have HSS6:=True.intro;go_cut [5,6] (fun x5 x6 wx=>PV wx x5 X∧PV wx x6 Y∧Below W1.heap.size W1 wx)
 case first =>
  go_region_held3 (fun w'=>True) (trivial) (first
   | (go_at_call 16;with_reducible refine (K2.out _ (HTA.out.up (bel_up hB1 (by exact bD)))).mono ?_;rintro e v_3 ⟨vv_3,rfl,hv_3,hbq_3⟩;have hsz_3:=hbq_3.size;(try simp [size_drewC] at hsz_3))
   | (go_at_call 16;with_reducible refine (K4.out _ (HTB.out.up (bel_up hB1 (by exact bD)))).mono ?_;rintro e v_5 ⟨vv_5,rfl,hv_5,hbq_5⟩;have hsz_5:=hbq_5.size;(try simp [size_drewC] at hsz_5)))
  all_goals
   go_wp2_with fail;go_meet;refine ⟨(hv_3.up (by repeat (first|with_reducible exact Below.refl _ _|with_reducible refine bel_alloc ?_ _|with_reducible refine Below.drew ?_|(refine Below.setCell ?_ (by first|(simp;done)|(simp;omega)|omega) _)|with_reducible refine bel_up ?_ (by with_reducible assumption)))),(hv_5.up (by repeat (first|with_reducible exact Below.refl _ _|with_reducible refine bel_alloc ?_ _|with_reducible refine Below.drew ?_|(refine Below.setCell ?_ (by first|(simp;done)|(simp;omega)|omega) _)|with_reducible refine bel_up ?_ (by with_reducible assumption)))),?_⟩
   ·(exact bD)
 case rest =>
  obtain ⟨lv7,lv8,hbz1⟩:=hcut;obtain ⟨wz1,hwz1⟩:∃ W_,W_=wc:=⟨_,rfl⟩
  subst hwz1;clear HSS6;have hB9:Below w.heap.size w wz1:=bel_up hB1 hbz1;have PV10:=Lib.hid lv7;clear lv7;have PV12:=Lib.hid lv8;clear lv8;have K14:=Lib.hid (fun W va vb (ha:PV W va X) (hb:PV W vb Y)=>csepar_meetZ va vb X Y L cm m1 m2 m3 m4 m5 m6 m7 m8 HZZ W ha hb HKX.out HKY.out H0X.out H0Y.out HL.out HCM.out);go_wp2_with (fail)
  refine calls_named ?_;intro W2 hW2;have hL2:Below wz1.heap.size wz1 W2:=by rw [hW2];exact bB
  have hA15:=hL2;have hB16:Below w.heap.size w W2:=by rw [hW2];exact bB
  clear hW2 hL2;with_reducible refine (K14.out _ _ _ (PV10.out.up hA15) (PV12.out.up hA15)).mono ?_
  rintro e w2 ⟨rfl,hb2⟩;have hA17:=bel_up hA15 hb2;have hB18:Below w.heap.size w w2:=bel_up hB16 hb2;clear hA15;have an19:wz1.heap.size≤w2.heap.size:=by have:=hA17.size;omega
  obtain ⟨AX,cX,hvX⟩:∃ A c,u5=.slice A NX c:=by obtain ⟨A,c,h,_⟩:=((PV10.out.up hA17)).open_;exact ⟨A,c,by rw [h,HLX.out]⟩
  subst hvX;obtain ⟨AY,cY,hvY⟩:∃ A c,u6=.slice A NY c:=by obtain ⟨A,c,h,_⟩:=((PV12.out.up hA17)).open_;exact ⟨A,c,by rw [h,HLY.out]⟩
  subst hvY;have K20:=Lib.hid (fun W=>known_any W);go_wp2_with (refine wpList_store_new rfl _ _ _ rfl _ _ rfl rfl (by kernel_rfl) (by rfl) (by have hz_:=HZZ.out;simp only [List.cons.injEq,and_true] at hz_;obtain ⟨rfl,rfl,rfl,rfl,rfl,rfl,rfl,rfl⟩:=hz_;simp [Value.oneCell']) ?_)
  refine calls_named ?_;intro W3 hW3;have hL3:Below w2.heap.size w2 W3:=by rw [hW3];exact bB
  have c21:Own W3 w2.heap.size 0 [.bool false,m1,m2,m3,m4,m5,m6,m7,m8,.bool false,.string ⟨#[]⟩,.bool false,.string ⟨#[]⟩,.bool false,.string ⟨#[]⟩,.bool false,.string ⟨#[]⟩,.bool false,.string ⟨#[]⟩,.bool false,.string ⟨#[]⟩]:=by
   rw [hW3]
   first
   | (repeat (first|(with_reducible refine own_new (l:=[.bool false,m1,m2,m3,m4,m5,m6,m7,m8,.bool false,.string ⟨#[]⟩,.bool false,.string ⟨#[]⟩,.bool false,.string ⟨#[]⟩,.bool false,.string ⟨#[]⟩,.bool false,.string ⟨#[]⟩,.bool false,.string ⟨#[]⟩]) ?_;(simp;done))|with_reducible refine Own.alloc ?_ _|refine Own.far _ _ (by first|(simp;done)|(simp [*];done)|(simp;omega)) ?_));done
   | simp [Own,go_sem]
  have hA22:=bel_up hA17 hL3;have hB23:Below w.heap.size w W3:=by rw [hW3];exact bB
  clear hW3 hL3 hA17;with_reducible refine (K20.out _).mono ?_
  rintro e w3 ⟨rfl,hb3⟩;have c24:=c21.up hb3;have hA25:=bel_up hA22 hb3;have hB26:Below w.heap.size w w3:=bel_up hB23 hb3;clear c21 hA22;go_upto_region 5 with fail
  refine wp_named ?_;intro W4 hW4;have hL4:Below w3.heap.size w3 W4:=by rw [hW4];exact bB
  have c27:=c24.up hL4;have hA28:=bel_up hA25 hL4;have hB29:Below w.heap.size w W4:=by rw [hW4];exact bB
  clear hW4 hL4 c24 hA25;have K31:=Lib.hid (fun W va vb (ha:PV W va X) (hb:PV W vb Y)=>HL.out▸hinter_small va vb X Y W ha hb HKX.out HKY.out);have K32:=Lib.hid (fun W va vb (ha:PV W va X) (hb:PV W vb Y)=>HLAW.out.1▸fits_meetZ va vb X Y cm m1 m2 m3 m4 m5 m6 m7 m8 HZZ W ha hb HZX.out HZY.out HNX.out HNY.out HZC.out);have K33:=Lib.hid (fun W va vb (ha:PV W va X) (hb:PV W vb Y)=>HLAW.out.2▸csep_meetZ va vb X Y cm m1 m2 m3 m4 m5 m6 m7 m8 HZZ W ha hb HZX.out HZY.out HNX.out HNY.out HZC.out H0X.out H0Y.out);refine wp_region_hold 7 8 63 (.int .i64 NL) (fun v_ w_=>PV w_ v_ L) (by kernel_rfl) rfl rfl (by kernel_rfl) (by simp) (by intro e_ h_;cases h_;simp) (fun _ _ _ h_ hb_=>h_.up hb_) ?_;intro V_30 hV_30;have vc27:=c27.up hV_30;have dc27:=fun p:Bel V_30=>vc27.bel p
  simp only [At,Own,Nat.reduceAdd,and_true] at dc27;have hBV_30:=bel_up hB29 hV_30;have hA34:=bel_up hA28 hV_30;simp only [maskL,mask2,Nat.reduceAdd,Nat.reduceEqDiff,reduceCtorEq,reduceIte];repeat (first|((first|refine wpQuiet_load_mid (by rfl) 42 _ rfl _ 0 rfl _ _ (hr_of vc27 0 21) Tryz.underlying42 (by rfl) (by kernel_rfl) ?_|refine wpQuiet_load_mid (by rfl) 35 _ rfl _ 1 rfl _ _ (hr_of vc27 1 8) Tryz.underlying35 (by rfl) (by kernel_rfl) ?_|refine wpQuiet_load_mid (by rfl) 35 _ rfl _ 9 rfl _ _ (hr_of vc27 9 8) Tryz.underlying35 (by rfl) (by kernel_rfl) ?_|refine wpQuiet_load_mid (by rfl) 33 _ rfl _ 17 rfl _ _ (hr_of vc27 17 4) Tryz.underlying33 (by rfl) (by kernel_rfl) ?_);simp only [Act.put,List.drop_succ_cons,List.drop_zero,List.take_succ_cons,List.take_zero,List.setIfInBounds_toArray,List.set_cons_zero,List.set_cons_succ])|go_big_quiet_step (first|(go_at_call 22;with_reducible exact Calls.bel (K32.out _ _ _ ((PV10.out.up hA34).up (Bel.h _)) ((PV12.out.up hA34).up (Bel.h _))))|(go_at_call 23;with_reducible exact Calls.bel (K33.out _ _ _ ((PV10.out.up hA34).up (Bel.h _)) ((PV12.out.up hA34).up (Bel.h _))))))
  refine wpQuiet_nil ?_;refine ⟨⟨fun V1_ hV1_ => ?_,fun V1_ v1_ hV1_ hv1_ => ?_⟩,?_⟩
  ·go_wp2_with (go_at_call 50;with_reducible refine (K31.out _ _ _ ((PV10.out.up hA28).up hV1_) ((PV12.out.up hA28).up hV1_)).mono ?_;rintro e w2_ ⟨vv_,rfl,hvv_,hbq_⟩)
   all_goals exact ⟨vv_,rfl,rfl,hbq_,hvv_⟩
  ·obtain ⟨A_,c_,rfl⟩:=PV.openN hv1_ HNL.out
   go_wp2_with fail
   all_goals exact Below.refl _ _
  intro vh_30 wn_30 hbn_30 hf_30;clear hf_30 hA34 hBV_30 dc27 vc27 hV_30 V_30;simp only [Act.put,List.setIfInBounds_toArray,List.set_cons_zero,List.set_cons_succ];have c35:=c27.up hbn_30;have hA36:=bel_up hA28 hbn_30;have hB37:Below w.heap.size w wn_30:=bel_up hB29 hbn_30;clear c27 hA28;have uc35:=c35;simp only [At,Own,Nat.reduceAdd,and_true] at uc35;go_wp2;go_ret;refine ⟨rfl,?_⟩;exact bB

set_option maxHeartbeats 4000000 in
theorem seps_apart (Aa Ab:Option Addr) (ca cb:Nat) (a b:List (Int×Int×Bool)) (w:World) (ha':TV w (.slice Aa a.length ca) a) (hia:∀ s∈a,In8 s) (hna:a.length≤9223372036854775807) (hca:a.length≤ca) (hb':TV w (.slice Ab b.length cb) b) (hib:∀ s∈b,In8 s) (hnb:b.length≤9223372036854775807) (hcb:b.length≤cb) (hX0:0<(setOf a).length) (hY0:0<(setOf b).length) (hL:Pl.interC (setOf a) (setOf b)=[]) :
 Calls Tryz.prog 14 #[.slice Aa a.length ca,.slice Ab b.length cb] w fun e w'=>e=.returned (.bool true)∧Below w.heap.size w w':=by
 have hlta:=TV.take (M:=min a.length 8) ha' (Nat.min_le_left _ _);obtain ⟨Ma,hMa⟩:∃ M,M=min a.length 8:=⟨_,rfl⟩
 rw [← hMa] at hlta;have hM8a:Ma≤8:=by omega
 have hMNa:Ma≤a.length:=by omega
 have HTA:=Lib.hid hlta;have HIA:Hid (∀ s∈a.take Ma,In8 s):=Lib.hid fun s hs=>hia s (List.mem_of_mem_take hs)
 obtain ⟨X,hSa⟩:∃ S,Pl.wrap (ptsOf (a.take Ma))=S:=⟨_,rfl⟩
 have HSWA:=Lib.hid hSa;have HSX:Hid (∀ q∈X,Pl.SzP 1 q):=Lib.hid (hSa▸wrap_sz (ptsOf_sz HIA.out));have HMX:Hid (X.length≤12):=Lib.hid (by have:=wrap_len (ptsOf (a.take Ma));have:=ptsOf_len (a.take Ma);rw [hSa] at *;omega);have HNX:Hid (X.length≤1000000):=Lib.hid (by have:=HMX.out;omega);have HKX:Hid (Small X):=Lib.hid ⟨by rw [← hSa];exact Pl.wrap_wrap _,HSX.out,HMX.out⟩;clear hSa hlta;have hmia:min (a.length:Int) 8=(Ma:Int):=by omega
 have hifa:(if (8:Int)<(a.length:Int) then (8:Int) else (a.length:Int))=(Ma:Int):=by split<;>omega
 generalize hNa:a.length=Na at *;have hmca:(Ma:Int)≤ca:=by omega
 have hmna:(Ma:Int)≤Na:=by omega
 clear ha' hia hMa;have hltb:=TV.take (M:=min b.length 8) hb' (Nat.min_le_left _ _);obtain ⟨Mb,hMb⟩:∃ M,M=min b.length 8:=⟨_,rfl⟩
 rw [← hMb] at hltb;have hM8b:Mb≤8:=by omega
 have hMNb:Mb≤b.length:=by omega
 have HTB:=Lib.hid hltb;have HIB:Hid (∀ s∈b.take Mb,In8 s):=Lib.hid fun s hs=>hib s (List.mem_of_mem_take hs)
 obtain ⟨Y,hSb⟩:∃ S,Pl.wrap (ptsOf (b.take Mb))=S:=⟨_,rfl⟩
 have HSWB:=Lib.hid hSb;have HSY:Hid (∀ q∈Y,Pl.SzP 1 q):=Lib.hid (hSb▸wrap_sz (ptsOf_sz HIB.out));have HMY:Hid (Y.length≤12):=Lib.hid (by have:=wrap_len (ptsOf (b.take Mb));have:=ptsOf_len (b.take Mb);rw [hSb] at *;omega);have HNY:Hid (Y.length≤1000000):=Lib.hid (by have:=HMY.out;omega);have HKY:Hid (Small Y):=Lib.hid ⟨by rw [← hSb];exact Pl.wrap_wrap _,HSY.out,HMY.out⟩;clear hSb hltb;have hmib:min (b.length:Int) 8=(Mb:Int):=by omega
 have hifb:(if (8:Int)<(b.length:Int) then (8:Int) else (b.length:Int))=(Mb:Int):=by split<;>omega
 generalize hNb:b.length=Nb at *;have hmcb:(Mb:Int)≤cb:=by omega
 have hmnb:(Mb:Int)≤Nb:=by omega
 clear hb' hib hMb;have hXS:setOf a=X:=by unfold setOf;rw [hNa,show min Na 8=Ma by omega];exact HSWA.out
 have hYS:setOf b=Y:=by unfold setOf;rw [hNb,show min Nb 8=Mb by omega];exact HSWB.out
 rw [hXS,hYS] at hL;rw [hXS] at hX0;rw [hYS] at hY0;obtain ⟨NX,hNX⟩:∃ n,n=X.length:=⟨_,rfl⟩
 have jx0:¬ (NX:Int)=0:=by omega
 have jx1:((NX:Int)==0)=false:=by simpa using jx0
 have HLX:=Lib.hid hNX.symm;have H0X:=Lib.hid hX0;obtain ⟨NY,hNY⟩:∃ n,n=Y.length:=⟨_,rfl⟩
 have jy0:¬ (NY:Int)=0:=by omega
 have jy1:((NY:Int)==0)=false:=by simpa using jy0
 have HLY:=Lib.hid hNY.symm;have H0Y:=Lib.hid hY0;have HZX:Hid (∀ q∈X,Pl.SzP 2000 q):=Lib.hid fun q hq=>(HSX.out q hq).mono (by decide)
 have HZY:Hid (∀ q∈Y,Pl.SzP 2000 q):=Lib.hid fun q hq=>(HSY.out q hq).mono (by decide)
 obtain ⟨p,hp⟩:∃ z,(Pl.nearest2 X Y).1=z:=⟨_,rfl⟩
 obtain ⟨q,hq⟩:∃ z,(Pl.nearest2 X Y).2=z:=⟨_,rfl⟩
 obtain ⟨d,hd⟩:∃ z,Pl.subP q p=z:=⟨_,rfl⟩
 obtain ⟨lv,hlv⟩:∃ z,Pl.midL p q=z:=⟨_,rfl⟩
 have hz:=near2_sz HSX.out HSY.out;rw [hp,hq] at hz;have hzd:Pl.SzP 67 d:=by rw [← hd];exact hz.2.sub hz.1
 have HZD:Hid (Pl.SzP 2000 d∧Pl.Sz 2000 lv):=Lib.hid ⟨hzd.mono (by decide),by rw [← hlv,Pl.midL,hd];exact (((hzd.dot hz.1).add (hzd.dot hz.2)).mul half_sz).mono (by omega)⟩;have HLAW:=Lib.hid (apart_law HKX.out.wrap HKY.out.wrap hX0 hY0 hL hp hq hd hlv);have HP:=Lib.hid (show (Pl.nearest2 X Y).1=p∧(Pl.nearest2 X Y).2=q∧Pl.subP q p=d∧Pl.midL p q=lv from ⟨hp,hq,hd,hlv⟩);have HL:=Lib.hid hL;clear hX0 hY0 hXS hYS hNX hNY hL hp hq hd hlv hz hzd;obtain ⟨z1,z2,z3,z4,z5,z6,z7,z8,z9,z10,z11,z12,hzz⟩:∃ z1 z2 z3 z4 z5 z6 z7 z8 z9 z10 z11 z12:Value,[.bool (ng d.1.num),.string (mg d.1.num.natAbs),.bool false,.string (mg (dn d.1)),.bool (ng d.2.num),.string (mg d.2.num.natAbs),.bool false,.string (mg (dn d.2)),.bool (ng lv.num),.string (mg lv.num.natAbs),.bool false,.string (mg (dn lv))]=[z1,z2,z3,z4,z5,z6,z7,z8,z9,z10,z11,z12]:=⟨_,_,_,_,_,_,_,_,_,_,_,_,rfl⟩
 have HZZ:=Lib.hid hzz;clear hzz;go_enter Tryz.func14,Tryz.ntmps14;go_upto_region 1 with fail
 refine wp_named ?_;intro W1 hW1;have hL1:Below w.heap.size w W1:=by rw [hW1];exact bB
 have hB1:Below w.heap.size w W1:=by rw [hW1];exact bB
 clear hW1 hL1;have K2:=Lib.hid (fun W (h:TV W (.slice Aa Ma ca) (a.take Ma))=>HSWA.out▸set_any (.slice Aa Ma ca) (a.take Ma) W h HIA.out (by rw [List.length_take];omega));have K4:=Lib.hid (fun W (h:TV W (.slice Ab Mb cb) (b.take Mb))=>HSWB.out▸set_any (.slice Ab Mb cb) (b.take Mb) W h HIB.out (by rw [List.length_take];omega));have HSS6:=True.intro;go_cut [5,6] (fun x5 x6 wx=>PV wx x5 X∧PV wx x6 Y∧Below W1.heap.size W1 wx)
 case first =>
  go_region_held3 (fun w'=>True) (trivial) (first
   | (go_at_call 16;with_reducible refine (K2.out _ (HTA.out.up (bel_up hB1 (by exact bD)))).mono ?_;rintro e v_3 ⟨vv_3,rfl,hv_3,hbq_3⟩;have hsz_3:=hbq_3.size;(try simp [size_drewC] at hsz_3))
   | (go_at_call 16;with_reducible refine (K4.out _ (HTB.out.up (bel_up hB1 (by exact bD)))).mono ?_;rintro e v_5 ⟨vv_5,rfl,hv_5,hbq_5⟩;have hsz_5:=hbq_5.size;(try simp [size_drewC] at hsz_5)))
  all_goals
   go_wp2_with fail;go_meet;refine ⟨(hv_3.up (by repeat (first|with_reducible exact Below.refl _ _|with_reducible refine bel_alloc ?_ _|with_reducible refine Below.drew ?_|(refine Below.setCell ?_ (by first|(simp;done)|(simp;omega)|omega) _)|with_reducible refine bel_up ?_ (by with_reducible assumption)))),(hv_5.up (by repeat (first|with_reducible exact Below.refl _ _|with_reducible refine bel_alloc ?_ _|with_reducible refine Below.drew ?_|(refine Below.setCell ?_ (by first|(simp;done)|(simp;omega)|omega) _)|with_reducible refine bel_up ?_ (by with_reducible assumption)))),?_⟩
   ·(exact bD)
 case rest =>
  obtain ⟨lv7,lv8,hbz1⟩:=hcut;obtain ⟨wz1,hwz1⟩:∃ W_,W_=wc:=⟨_,rfl⟩
  subst hwz1;clear HSS6;have hB9:Below w.heap.size w wz1:=bel_up hB1 hbz1;have PV10:=Lib.hid lv7;clear lv7;have PV12:=Lib.hid lv8;clear lv8;have K14:=Lib.hid (fun W va vb (ha:PV W va X) (hb:PV W vb Y)=>csepar_apartZ va vb X Y p q d lv z1 z2 z3 z4 z5 z6 z7 z8 z9 z10 z11 z12 HZZ W ha hb HKX.out HKY.out H0X.out H0Y.out HL.out HP.out.1 HP.out.2.1 HP.out.2.2.1 HP.out.2.2.2);go_wp2_with (fail)
  refine calls_named ?_;intro W2 hW2;have hL2:Below wz1.heap.size wz1 W2:=by rw [hW2];exact bB
  have hA15:=hL2;have hB16:Below w.heap.size w W2:=by rw [hW2];exact bB
  clear hW2 hL2;with_reducible refine (K14.out _ _ _ (PV10.out.up hA15) (PV12.out.up hA15)).mono ?_
  rintro e w2 ⟨rfl,hb2⟩;have hA17:=bel_up hA15 hb2;have hB18:Below w.heap.size w w2:=bel_up hB16 hb2;clear hA15;have an19:wz1.heap.size≤w2.heap.size:=by have:=hA17.size;omega
  obtain ⟨AX,cX,hvX⟩:∃ A c,u5=.slice A NX c:=by obtain ⟨A,c,h,_⟩:=((PV10.out.up hA17)).open_;exact ⟨A,c,by rw [h,HLX.out]⟩
  subst hvX;obtain ⟨AY,cY,hvY⟩:∃ A c,u6=.slice A NY c:=by obtain ⟨A,c,h,_⟩:=((PV12.out.up hA17)).open_;exact ⟨A,c,by rw [h,HLY.out]⟩
  subst hvY;have K20:=Lib.hid (fun W=>known_any W);go_wp2_with (refine wpList_store_new rfl _ _ _ rfl _ _ rfl rfl (by kernel_rfl) (by rfl) (by have hz_:=HZZ.out;simp only [List.cons.injEq,and_true] at hz_;obtain ⟨rfl,rfl,rfl,rfl,rfl,rfl,rfl,rfl,rfl,rfl,rfl,rfl⟩:=hz_;simp [Value.oneCell']) ?_)
  refine calls_named ?_;intro W3 hW3;have hL3:Below w2.heap.size w2 W3:=by rw [hW3];exact bB
  have c21:Own W3 w2.heap.size 0 [.bool true,.bool false,.string ⟨#[]⟩,.bool false,.string ⟨#[]⟩,.bool false,.string ⟨#[]⟩,.bool false,.string ⟨#[]⟩,z1,z2,z3,z4,z5,z6,z7,z8,z9,z10,z11,z12]:=by
   rw [hW3]
   first
   | (repeat (first|(with_reducible refine own_new (l:=[.bool true,.bool false,.string ⟨#[]⟩,.bool false,.string ⟨#[]⟩,.bool false,.string ⟨#[]⟩,.bool false,.string ⟨#[]⟩,z1,z2,z3,z4,z5,z6,z7,z8,z9,z10,z11,z12]) ?_;(simp;done))|with_reducible refine Own.alloc ?_ _|refine Own.far _ _ (by first|(simp;done)|(simp [*];done)|(simp;omega)) ?_));done
   | simp [Own,go_sem]
  have hA22:=bel_up hA17 hL3;have hB23:Below w.heap.size w W3:=by rw [hW3];exact bB
  clear hW3 hL3 hA17;with_reducible refine (K20.out _).mono ?_
  rintro e w3 ⟨rfl,hb3⟩;have c24:=c21.up hb3;have hA25:=bel_up hA22 hb3;have hB26:Below w.heap.size w w3:=bel_up hB23 hb3;clear c21 hA22;go_upto_region 5 with fail
  refine wp_named ?_;intro W4 hW4;have hL4:Below w3.heap.size w3 W4:=by rw [hW4];exact bB
  have c27:=c24.up hL4;have hA28:=bel_up hA25 hL4;have hB29:Below w.heap.size w W4:=by rw [hW4];exact bB
  clear hW4 hL4 c24 hA25;have K31:=Lib.hid (fun W va vb (ha:PV W va X) (hb:PV W vb Y)=>HL.out▸hinter_small va vb X Y W ha hb HKX.out HKY.out);have K32:=Lib.hid (fun W va vb (ha:PV W va X) (hb:PV W vb Y)=>HLAW.out.1▸fits_apartZ va vb X Y d lv z1 z2 z3 z4 z5 z6 z7 z8 z9 z10 z11 z12 HZZ W ha hb HZX.out HZY.out HNX.out HNY.out HZD.out.1 HZD.out.2);have K33:=Lib.hid (fun W va vb (ha:PV W va X) (hb:PV W vb Y)=>HLAW.out.2▸csep_apartZ va vb X Y d lv z1 z2 z3 z4 z5 z6 z7 z8 z9 z10 z11 z12 HZZ W ha hb HZX.out HZY.out HNX.out HNY.out HZD.out.1 HZD.out.2 H0X.out H0Y.out);refine wp_region_hold 7 8 63 (.int .i64 0) (fun v_ w_=>PV w_ v_ ([])) (by kernel_rfl) rfl rfl (by kernel_rfl) (by simp) (by intro e_ h_;cases h_;simp) (fun _ _ _ h_ hb_=>h_.up hb_) ?_;intro V_30 hV_30;have vc27:=c27.up hV_30;have dc27:=fun p:Bel V_30=>vc27.bel p
  simp only [At,Own,Nat.reduceAdd,and_true] at dc27;have hBV_30:=bel_up hB29 hV_30;have hA34:=bel_up hA28 hV_30;simp only [maskL,mask2,Nat.reduceAdd,Nat.reduceEqDiff,reduceCtorEq,reduceIte];repeat (first|((first|refine wpQuiet_load_mid (by rfl) 42 _ rfl _ 0 rfl _ _ (hr_of vc27 0 21) Tryz.underlying42 (by rfl) (by kernel_rfl) ?_|refine wpQuiet_load_mid (by rfl) 35 _ rfl _ 1 rfl _ _ (hr_of vc27 1 8) Tryz.underlying35 (by rfl) (by kernel_rfl) ?_|refine wpQuiet_load_mid (by rfl) 35 _ rfl _ 9 rfl _ _ (hr_of vc27 9 8) Tryz.underlying35 (by rfl) (by kernel_rfl) ?_|refine wpQuiet_load_mid (by rfl) 33 _ rfl _ 17 rfl _ _ (hr_of vc27 17 4) Tryz.underlying33 (by rfl) (by kernel_rfl) ?_);simp only [Act.put,List.drop_succ_cons,List.drop_zero,List.take_succ_cons,List.take_zero,List.setIfInBounds_toArray,List.set_cons_zero,List.set_cons_succ])|go_big_quiet_step (first|(go_at_call 22;with_reducible exact Calls.bel (K32.out _ _ _ ((PV10.out.up hA34).up (Bel.h _)) ((PV12.out.up hA34).up (Bel.h _))))|(go_at_call 23;with_reducible exact Calls.bel (K33.out _ _ _ ((PV10.out.up hA34).up (Bel.h _)) ((PV12.out.up hA34).up (Bel.h _))))))
  refine wpQuiet_nil ?_;refine ⟨⟨fun V1_ hV1_ => ?_,fun V1_ v1_ hV1_ hv1_ => ?_⟩,?_⟩
  ·go_wp2_with (go_at_call 50;with_reducible refine (K31.out _ _ _ ((PV10.out.up hA28).up hV1_) ((PV12.out.up hA28).up hV1_)).mono ?_;rintro e w2_ ⟨vv_,rfl,hvv_,hbq_⟩)
   all_goals exact ⟨vv_,rfl,rfl,hbq_,hvv_⟩
  ·obtain ⟨A_,c_,rfl⟩:=PV.openN hv1_ rfl
   go_wp2_with fail
   all_goals exact Below.refl _ _
  intro vh_30 wn_30 hbn_30 hf_30;clear hf_30 hA34 hBV_30 dc27 vc27 hV_30 V_30;simp only [Act.put,List.setIfInBounds_toArray,List.set_cons_zero,List.set_cons_succ];have c35:=c27.up hbn_30;have hA36:=bel_up hA28 hbn_30;have hB37:Below w.heap.size w wn_30:=bel_up hB29 hbn_30;clear c27 hA28;have uc35:=c35;simp only [At,Own,Nat.reduceAdd,and_true] at uc35;go_wp2;go_ret;refine ⟨rfl,?_⟩;exact bB
theorem seps_any (va vb:Value) (a b:List (Int×Int×Bool)) (w:World) (ha:TV w va a) (hia:∀ s∈a,In8 s) (hna:a.length≤9223372036854775807) (hb:TV w vb b) (hib:∀ s∈b,In8 s) (hnb:b.length≤9223372036854775807) :
 Calls Tryz.prog 14 #[va,vb] w fun e w'=>e=.returned (.bool true)∧Below w.heap.size w w':=by
 obtain ⟨Aa,ca,rfl,hca,hma,hxa⟩:=ha;obtain ⟨Ab,cb,rfl,hcb,hmb,hxb⟩:=hb;have hTa:TV w (.slice Aa a.length ca) a:=⟨Aa,ca,rfl,hca,hma,hxa⟩
 have hTb:TV w (.slice Ab b.length cb) b:=⟨Ab,cb,rfl,hcb,hmb,hxb⟩
 rcases Nat.eq_zero_or_pos (setOf a).length with h0|h0
 ·exact seps_none1 Aa Ab ca cb a b w hTa hia hna hca hTb hib hnb hcb h0
 ·rcases Nat.eq_zero_or_pos (setOf b).length with h1|h1
  ·exact seps_none2 Aa Ab ca cb a b w hTa hia hna hca hTb hib hnb hcb h0 h1
  ·cases hL:Pl.interC (setOf a) (setOf b) with
   | nil=>exact seps_apart Aa Ab ca cb a b w hTa hia hna hca hTb hib hnb hcb h0 h1 hL
   | cons cm l=>exact seps_meet Aa Ab ca cb a b w hTa hia hna hca hTb hib hnb hcb h0 h1 cm (by rw [hL];rfl)
end Go.Proofs.YtdkkjfnpinckjaaGreatDoor
