/-
 Contracts for the plane: what two segments have in common: an end that lies on the other one.
 Regions in which a result is taken out of a tuple beside a store: the taking may come behind the store.
-/
import Derived.Test.YtiochgoocbkckaaGreatDoorAgao
import Derived.Test.YtiochgoocbkckaaGreatDoorAgax
import Derived.Test.YtiochgoocbkckaaGreatDoorARst
import Derived.Test.YtiochgoocbkckaaGreatDoorAReg3
import Derived.Deep.MidRow
import Derived.Deep.RegionHeld3
set_option maxRecDepth 100000
set_option linter.unusedSimpArgs false
set_option linter.unusedVariables false
namespace Go.Proofs.YtiochgoocbkckaaGreatDoor
open Go Go.RowKit

def crossM (s t:(Rat×Rat)×(Rat×Rat)):Rat×Rat:=Pl.divide s (Pl.crossP (Pl.subP t.1 s.1) (Pl.subP t.2 t.1)/Pl.crossP (Pl.subP s.2 s.1) (Pl.subP t.2 t.1))
def crsM (s t:(Rat×Rat)×(Rat×Rat)):Int×((Rat×Rat)×(Rat×Rat)):=if Pg.crossB s t then (2,(crossM s t,crossM s t)) else (0,((0,0),(0,0)))
def meetM (s t:(Rat×Rat)×(Rat×Rat)):Int×((Rat×Rat)×(Rat×Rat)):=match Pg.endsM s t with
 | []=>crsM s t
 | [a]=>(1,(a,a))
 | a :: b :: _=>(3,if 0<Pl.cmpP a b then (b,a) else (a,b))
theorem meetM_kind (s t:(Rat×Rat)×(Rat×Rat)):(meetM s t).1=Pg.kindM s t:=by
 unfold meetM Pg.kindM crsM;rcases Pg.endsM s t with _|⟨a,_|⟨b,r⟩⟩
 ·simp only [List.length_nil];split<;>rfl
 ·rfl
 ·rfl
abbrev mtv (m:Int×((Rat×Rat)×(Rat×Rat))):Value:=.agg #[.int .i64 m.1,.bool (ng m.2.1.1.num),.string (mg m.2.1.1.num.natAbs),.bool false,.string (mg (dn m.2.1.1)),.bool (ng m.2.1.2.num),.string (mg m.2.1.2.num.natAbs),.bool false,.string (mg (dn m.2.1.2)),.bool (ng m.2.2.1.num),.string (mg m.2.2.1.num.natAbs),.bool false,.string (mg (dn m.2.2.1)),.bool (ng m.2.2.2.num),.string (mg m.2.2.2.num.natAbs),.bool false,.string (mg (dn m.2.2.2))]
structure StB (b:Nat) (w w':World) (v v':Value):Prop where
 os:w'.os=w.os
 tape:w'.tape=w.tape
 output:w'.output=w.output
 size:w.heap.size≤w'.heap.size
 block:∀ k,k<w.heap.size→k≠b→v.ownBlock≠some k→w'.heap[k]?=w.heap[k]?
 drawn:w.drawn≤w'.drawn
 far:∀ k,k<w.heap.size→v.ownBlock≠some k→v'.ownBlock≠some k
namespace StB
variable {b:Nat} {w w':World} {v v':Value}
theorem of (h:Below w.heap.size w w'):StB b w w' v v:=⟨h.os,h.tape,h.output,h.size,fun k hk _ _=>h.block k hk,h.drawn,fun _ _ h=>h⟩
theorem own (s:StB b w w' v v') {c:Nat} (hc:c<w.heap.size) (hn:c≠b) (hf:v.ownBlock≠some c):∀ {l:List Value} {i:Nat},Own w c i l→Own w' c i l
 | [],_,_=>trivial
 | _ :: _,_,o=>⟨⟨(World.cell?_of_block (w:=w) (s.block c hc hn hf)).trans o.1.1,(World.frozen?_of_block (w:=w) (s.block c hc hn hf)).trans o.1.2⟩,own s hc hn hf o.2⟩
theorem below {B:Nat} {w0:World} (s:StB b w w' v v') (h:Below B w0 w) (hB:B≤w.heap.size) (hb:B≤b) (hr:∀ r,v.ownBlock=some r→B≤r):Below B w0 w' :=
 h.trans ⟨s.os,s.tape,s.output,s.size,fun k hk=>s.block k (by omega) (by omega) (fun e=>by have:=hr k e;omega),s.drawn⟩
end StB
def MAdd (base b:Nat) (w w':World) (v:Value) (L':List (Rat×Rat)):Prop:=∃ v',Own w' b 0 [v']∧w'.ownsRow base 45 8 v' L'.length (pts L')∧v'.ownBlock≠some b∧StB b w w' v v'
theorem MAdd.of {base b:Nat} {w w':World} {v:Value} {L:List (Rat×Rat)} (hb:Own w b 0 [v]) (ho:w.ownsRow base 45 8 v L.length (pts L)) (hf:v.ownBlock≠some b) (h:Below w.heap.size w w'):MAdd base b w w' v L :=
 ⟨v,hb.up h,owns_up ho h,hf,.of h⟩
theorem MAdd.app {base b n:Nat} {w W w2:World} {v v2:Value} {L:List (Rat×Rat)} {p:Rat×Rat} (hb:Own w b 0 [v]) (hf:v.ownBlock≠some b) (hn:L.length=n) (hB:Below w.heap.size w W) (hst:Step W w2 v v2)
 (hown:w2.ownsRow base 45 8 v2 (n+1) (pts L++pcells p)):MAdd base b w (w2.setCell ⟨b,0,none⟩ v2) v (L++[p]):=by
 have hbW:=hb.up hB;have hlt:=hbW.lt;have hf2:=hst.far b hlt hf;refine ⟨v2,?_,?_,hf2,?_⟩
 ·exact own_setL (olds:=[v]) (vs:=[v2]) (Own.step hst hf hbW) rfl
 ·rw [List.length_append,hn,pts_snoc]
  exact owns_far hown _ hf2 _
 ·exact ⟨hst.grown.os.trans hB.os,hst.grown.tape.trans hB.tape,hst.grown.output.trans hB.output,by have:=hst.grown.size;have:=hB.size;simp only [World.setCell,Array.size_modify];omega,
   fun k hk hkb hkv=>(Below.heap_setCell _ _ _ _ hkb).trans ((hst.heap (by have:=hB.size;omega) hkv).trans (hB.block k hk)),Nat.le_trans hB.drawn hst.drawn,fun k hk hkv=>hst.far k (by have:=hB.size;omega) hkv⟩
theorem addE_off {L:List (Rat×Rat)} {p:Rat×Rat} {s:(Rat×Rat)×(Rat×Rat)} (h:Pl.onSeg p s.1 s.2=false):Pg.addE L p s=L:=by unfold Pg.addE;rw [if_neg (by rw [h];decide)]
theorem addE_in {L:List (Rat×Rat)} {p:Rat×Rat} {s:(Rat×Rat)×(Rat×Rat)} (h:Pl.onSeg p s.1 s.2=true) (hm:p∈L):Pg.addE L p s=L:=by unfold Pg.addE;rw [if_pos h,if_pos hm]
theorem addE_new {L:List (Rat×Rat)} {p:Rat×Rat} {s:(Rat×Rat)×(Rat×Rat)} (h:Pl.onSeg p s.1 s.2=true) (hm:p∉L):Pg.addE L p s=L++[p]:=by unfold Pg.addE;rw [if_pos h,if_neg hm]
theorem addE_le (L:List (Rat×Rat)) (p:Rat×Rat) (s:(Rat×Rat)×(Rat×Rat)):(Pg.addE L p s).length≤L.length+1:=by
 unfold Pg.addE;split
 ·split<;>simp
 ·omega
theorem addE_sz {S:Nat} {L:List (Rat×Rat)} {p:Rat×Rat} {s:(Rat×Rat)×(Rat×Rat)} (h:∀ q∈L,Pl.SzP S q) (hp:Pl.SzP S p):∀ q∈Pg.addE L p s,Pl.SzP S q:=by
 unfold Pg.addE;split
 ·split
  ·exact h
  ·intro q hq;rcases List.mem_append.1 hq with hq|hq
   ·exact h q hq
   ·rw [List.mem_singleton.1 hq];exact hp
 ·exact h
theorem results_cell1 {P:Program} {fn:Func} {c:Tmp} {ty:TypeId} {b:Nat} {cs:List Value} {d:TypeDesc} (h:fn.results = #[.cell c ty]) (tmps:Array Value) (w:World) (ha:tmps.getD c undef=.pointer (some ⟨b,0,none⟩))
 (hO:Own w b 0 cs) (hu:P.underlying ty=some d) (hd:d.isRow=true) (hi:(P.info? ty).map (·.size)=some cs.length):(results fn tmps).run P w=.ok (.agg cs.toArray) w:=by
 have k:=run_loadVar_mid (P:=P) w b 0 ty cs d (own_range hO) hu hd hi;have ha2:tmps[c]?.getD undef=.pointer (some ⟨b,0,none⟩):=by simpa using ha
 simp [results,h,ha2,asAddr,k]

theorem meetAdd_off {j k:Nat} (p:Rat×Rat) (s:(Rat×Rat)×(Rat×Rat)) (b:Nat) (w:World) (hp:Pl.SzP k p) (hs:Pl.SzS j s) (hj:j≤100000) (hk:k≤100000) (h:Pl.onSeg p s.1 s.2=false) :
 Calls Tryz.prog 155 #[pv p,sv s,.pointer (some ⟨b,0,none⟩)] w fun e w'=>e=.returned (.tuple #[])∧Below w.heap.size w w':=by
 go_enter Tryz.func155,Tryz.ntmps155;have K1:=Lib.hid (fun W=>h▸on2_any p s.1 s.2 W hs hp (by omega) (by omega));go_wp2_with (fail)
 refine calls_named ?_;intro W1 hW1;have hL1:Below w.heap.size w W1:=by rw [hW1];exact bB
 have c2:Own W1 w.heap.size 0 [.bool (ng p.1.num),.string (mg p.1.num.natAbs),.bool false,.string (mg (dn p.1)),.bool (ng p.2.num),.string (mg p.2.num.natAbs),.bool false,.string (mg (dn p.2))]:=by
  rw [hW1]
  first
  | (repeat (first|(with_reducible refine own_new (l:=[.bool (ng p.1.num),.string (mg p.1.num.natAbs),.bool false,.string (mg (dn p.1)),.bool (ng p.2.num),.string (mg p.2.num.natAbs),.bool false,.string (mg (dn p.2))]) ?_;(simp;done))|with_reducible refine Own.alloc ?_ _|refine Own.far _ _ (by first|(simp;done)|(simp [*];done)|(simp;omega)) ?_));done
  | simp [Own,go_sem]
 have c3:Own W1 (w.heap.size+1) 0 [.bool (ng s.1.1.num),.string (mg s.1.1.num.natAbs),.bool false,.string (mg (dn s.1.1)),.bool (ng s.1.2.num),.string (mg s.1.2.num.natAbs),.bool false,.string (mg (dn s.1.2)),.bool (ng s.2.1.num),.string (mg s.2.1.num.natAbs),.bool false,.string (mg (dn s.2.1)),.bool (ng s.2.2.num),.string (mg s.2.2.num.natAbs),.bool false,.string (mg (dn s.2.2))]:=by
  rw [hW1]
  first
  | (repeat (first|(with_reducible refine own_new (l:=[.bool (ng s.1.1.num),.string (mg s.1.1.num.natAbs),.bool false,.string (mg (dn s.1.1)),.bool (ng s.1.2.num),.string (mg s.1.2.num.natAbs),.bool false,.string (mg (dn s.1.2)),.bool (ng s.2.1.num),.string (mg s.2.1.num.natAbs),.bool false,.string (mg (dn s.2.1)),.bool (ng s.2.2.num),.string (mg s.2.2.num.natAbs),.bool false,.string (mg (dn s.2.2))]) ?_;(simp;done))|with_reducible refine Own.alloc ?_ _|refine Own.far _ _ (by first|(simp;done)|(simp [*];done)|(simp;omega)) ?_));done
  | simp [Own,go_sem]
 have hB4:Below w.heap.size w W1:=by rw [hW1];exact bB
 clear hW1 hL1;with_reducible refine (K1.out _).mono ?_
 rintro e w1 ⟨rfl,hb1⟩;have c5:=c2.up hb1;have c6:=c3.up hb1;have hB7:Below w.heap.size w w1:=bel_up hB4 hb1;clear c2 c3;have uc5:=c5;have uc6:=c6;simp only [At,Own,Nat.reduceAdd,and_true] at uc5 uc6;go_wp2
 (first|(refine bodyPost_ret (results_none rfl _ _ _) rfl ?_)|go_end0)
 refine ⟨rfl,?_⟩;exact bB

set_option maxHeartbeats 1000000 in
theorem meetAdd_on {j k:Nat} (p:Rat×Rat) (s:(Rat×Rat)×(Rat×Rat)) (b base:Nat) (v:Value) (L:List (Rat×Rat)) (w:World) (hp:Pl.SzP k p) (hs:Pl.SzS j s) (hj:j≤100000) (hk:k≤100000) (h:Pl.onSeg p s.1 s.2=true) (hb:Own w b 0 [v]) (ho:w.ownsRow base 45 8 v L.length (pts L)) (hf:v.ownBlock≠some b) (hbase:base≤w.heap.size) (hL:L.length≤10) (hsz:∀ q∈L,Pl.SzP 100000 q) :
 Calls Tryz.prog 155 #[pv p,sv s,.pointer (some ⟨b,0,none⟩)] w fun e w'=>e=.returned (.tuple #[])∧MAdd base b w w' v (Pg.addE L p s):=by
 obtain ⟨A,c,rfl,hc,hm,hx⟩:=(pv_own ho).open_;have HX:=Lib.hid hx;have HS:=Lib.hid hsz;have HB0:=Lib.hid hb;have HF0:=Lib.hid hf;have hlb:=hb.lt;have HF:Hid (L.take L.length=L):=Lib.hid List.take_length;generalize hN:L.length=N at *;have HN:=Lib.hid hN;have HO:=Lib.hid ho;clear hx hsz hf ho hN;go_enter Tryz.func155,Tryz.ntmps155;have ne1_:b<w.heap.size:=by have:=hb.lt;omega
 have ne1:=Nat.ne_of_lt ne1_;have ne1':=ne1.symm;have ne2_:b<w.heap.size+1:=by have:=hb.lt;omega
 have ne2:=Nat.ne_of_lt ne2_;have ne2':=ne2.symm;have uhb:=hb;simp only [At,Own,Nat.reduceAdd,and_true] at uhb;have K3:=Lib.hid (fun W=>h▸on2_any p s.1 s.2 W hs hp (by omega) (by omega));go_wp2_with (fail)
 refine calls_named ?_;intro W1 hW1;have hL1:Below w.heap.size w W1:=by rw [hW1];exact bB
 have c4:=hb.up hL1
 have c5:Own W1 w.heap.size 0 [.bool (ng p.1.num),.string (mg p.1.num.natAbs),.bool false,.string (mg (dn p.1)),.bool (ng p.2.num),.string (mg p.2.num.natAbs),.bool false,.string (mg (dn p.2))]:=by
  rw [hW1]
  first
  | (repeat (first|(with_reducible refine own_new (l:=[.bool (ng p.1.num),.string (mg p.1.num.natAbs),.bool false,.string (mg (dn p.1)),.bool (ng p.2.num),.string (mg p.2.num.natAbs),.bool false,.string (mg (dn p.2))]) ?_;(simp;done))|with_reducible refine Own.alloc ?_ _|refine Own.far _ _ (by first|(simp;done)|(simp [*];done)|(simp;omega)) ?_));done
  | simp [Own,go_sem,uhb,ne1,ne1',ne1_,ne2,ne2',ne2_]
 have c6:Own W1 (w.heap.size+1) 0 [.bool (ng s.1.1.num),.string (mg s.1.1.num.natAbs),.bool false,.string (mg (dn s.1.1)),.bool (ng s.1.2.num),.string (mg s.1.2.num.natAbs),.bool false,.string (mg (dn s.1.2)),.bool (ng s.2.1.num),.string (mg s.2.1.num.natAbs),.bool false,.string (mg (dn s.2.1)),.bool (ng s.2.2.num),.string (mg s.2.2.num.natAbs),.bool false,.string (mg (dn s.2.2))]:=by
  rw [hW1]
  first
  | (repeat (first|(with_reducible refine own_new (l:=[.bool (ng s.1.1.num),.string (mg s.1.1.num.natAbs),.bool false,.string (mg (dn s.1.1)),.bool (ng s.1.2.num),.string (mg s.1.2.num.natAbs),.bool false,.string (mg (dn s.1.2)),.bool (ng s.2.1.num),.string (mg s.2.1.num.natAbs),.bool false,.string (mg (dn s.2.1)),.bool (ng s.2.2.num),.string (mg s.2.2.num.natAbs),.bool false,.string (mg (dn s.2.2))]) ?_;(simp;done))|with_reducible refine Own.alloc ?_ _|refine Own.far _ _ (by first|(simp;done)|(simp [*];done)|(simp;omega)) ?_));done
  | simp [Own,go_sem,uhb,ne1,ne1',ne1_,ne2,ne2',ne2_]
 have hB7:Below w.heap.size w W1:=by rw [hW1];exact bB
 clear hW1 hL1 uhb hb;with_reducible refine (K3.out _).mono ?_
 rintro e w1 ⟨rfl,hb1⟩;have c8:=c4.up hb1;have c9:=c5.up hb1;have c10:=c6.up hb1;have hB11:Below w.heap.size w w1:=bel_up hB7 hb1;clear c4 c5 c6;have uc8:=c8;have uc9:=c9;have uc10:=c10;simp only [At,Own,Nat.reduceAdd,and_true] at uc8 uc9 uc10;go_wp2_with fail;go_loopw [13] (fun s13 wr=>∃ (k:Nat),s13=.int .i64 k∧Own wr (b) 0 [.slice A N c]∧Own wr w.heap.size 0 [.bool (ng p.1.num),.string (mg p.1.num.natAbs),.bool false,.string (mg (dn p.1)),.bool (ng p.2.num),.string (mg p.2.num.natAbs),.bool false,.string (mg (dn p.2))]∧Below w.heap.size w wr∧k≤N∧Hid (p∉L.take k)) (fun s13 _=>N-(intOf s13).toNat)
 case atStart=>exact ⟨0,rfl,c8,c9,hB11,(by omega),Lib.hid (by simp)⟩
 case round =>
  clear c8 c9 hB11 uc8 uc9 uc10;obtain ⟨k,rfl,b12,b13,hB14,hk,HE⟩:=hrel;obtain ⟨wr15,hwr15⟩:∃ W_,W_=wr:=⟨_,rfl⟩
  subst hwr15
  by_cases hltk:k<N
  ·skip
   have i1k:(k:Int)<N:=by omega
   obtain ⟨x16,hx17⟩:∃ x,L[k]?=some x:=⟨_,List.getElem?_eq_getElem (by rw [HN.out];omega)⟩
   have Hhx17:=Lib.hid hx17;have Zhx17:=Lib.hid (HS.out _ (List.mem_of_getElem? hx17));clear hx17;obtain ⟨g19,o20,ha21,-⟩:=(HX.out).up kpP hB14 _ _ Hhx17.out;subst ha21;have ce18:=LX.at_ ((HX.out).up kpP hB14) Hhx17.out;have ce18_:g19<wr15.heap.size:=World.block_lt_of_cell? _ _ ce18.1;have uce18:=ce18;simp only [CE,Nat.reduceMul] at uce18;have ne22_:b<wr15.heap.size:=by have:=b12.lt;omega
   have ne22:=Nat.ne_of_lt ne22_;have ne22':=ne22.symm;have ne23_:w.heap.size<wr15.heap.size:=by have:=b13.lt;omega
   have ne23:=Nat.ne_of_lt ne23_;have ne23':=ne23.symm;have ub12:=b12;have ub13:=b13;simp only [At,Own,Nat.reduceAdd,and_true] at ub12 ub13
   by_cases hq24:p=x16
   ·skip
    have EQhq24:=fun W=>eqP_in p x16 W
    rw [decide_eq_true hq24] at EQhq24;have Hhq24:=Lib.hid hq24;clear hq24;go_wp2
    (first|(refine bodyPost_ret (results_none rfl _ _ _) rfl ?_)|go_end0)
    exact ⟨rfl,by rw [addE_in h (by rw [Hhq24.out];exact List.mem_of_getElem? Hhx17.out)];exact MAdd.of HB0.out (by rw [HN.out];exact HO.out) HF0.out (by exact bB)⟩
   ·skip
    have EQhq24:=fun W=>eqP_in p x16 W
    rw [decide_eq_false hq24] at EQhq24;have Hhq24:=Lib.hid hq24;clear hq24;go_wp2;go_roundw
    case rel=>exact ⟨(k+1),(by first|rfl|exact congrArg (Value.int .i64) (by omega)|simp [*]),(by repeat (first|with_reducible exact b12|refine Own.far _ _ (by simp<;>omega) ?_|with_reducible refine Own.alloc ?_ _)),(by repeat (first|with_reducible exact b13|refine Own.far _ _ (by simp<;>omega) ?_|with_reducible refine Own.alloc ?_ _)),(by exact bB),(by omega),Lib.hid (by rw [List.take_add_one,Hhx17.out];simp only [Option.toList_some,List.mem_append,List.mem_singleton,not_or];exact ⟨HE.out,Hhq24.out⟩)⟩
    case measure=>simp [intOf]<;>omega
  ·skip
   have hkN:N=k:=by omega
   subst hkN;have HE2:Hid (p∉L):=Lib.hid (by rw [← HF.out];exact HE.out);go_upto_region 7 with fail
   refine wp_named ?_;intro W2 hW2;have hL2:Below wr15.heap.size wr15 W2:=by rw [hW2];exact bB
   have c25:=b12.up hL2;have c26:=b13.up hL2;have hB27:Below w.heap.size w W2:=by rw [hW2];exact bB
   clear hW2 hL2 b12 b13;have uc25:=c25;have uc26:=c26;simp only [At,Own,Nat.reduceAdd,and_true] at uc25 uc26;have OW:=Lib.hid (owns_up HO.out hB27);have hbs:=hB27.size;go_wp2_with (at_builtin;refine wpList_appF rfl _ _ _ rfl ti_pt OW.out (by omega) rfl rfl rfl rfl (pcells_one p) (by omega) (by decide) ?_)
   intro v2 w2 hown hst;obtain ⟨g2,c2,hv2,-⟩:=owns_form hown (by omega);subst hv2;have hb2:Own w2 b 0 [.slice A N c]:=Own.step hst HF0.out (HB0.out.up hB27);simp only [At,Own,and_true] at hb2;go_wp2
   (first|(refine bodyPost_ret (results_none rfl _ _ _) rfl ?_)|go_end0)
   exact ⟨rfl,by rw [addE_new h HE2.out];exact MAdd.app HB0.out HF0.out HN.out hB27 hst hown⟩

theorem meetAdd_any {j k:Nat} (p:Rat×Rat) (s:(Rat×Rat)×(Rat×Rat)) (b base:Nat) (v:Value) (L:List (Rat×Rat)) (w:World) (hp:Pl.SzP k p) (hs:Pl.SzS j s) (hj:j≤100000) (hk:k≤100000) (hb:Own w b 0 [v]) (ho:w.ownsRow base 45 8 v L.length (pts L)) (hf:v.ownBlock≠some b) (hbase:base≤w.heap.size) (hL:L.length≤10) (hsz:∀ q∈L,Pl.SzP 100000 q) :
 Calls Tryz.prog 155 #[pv p,sv s,.pointer (some ⟨b,0,none⟩)] w fun e w'=>e=.returned (.tuple #[])∧MAdd base b w w' v (Pg.addE L p s):=by
 rcases h:Pl.onSeg p s.1 s.2 with _|_
 ·exact (meetAdd_off p s b w hp hs hj hk h).mono fun e w' ⟨h1,h2⟩=>⟨h1,by rw [addE_off h];exact .of hb ho hf h2⟩
 ·exact meetAdd_on p s b base v L w hp hs hj hk h hb ho hf hbase hL hsz
end Go.Proofs.YtiochgoocbkckaaGreatDoor

namespace Go.Proofs.YtiochgoocbkckaaGreatDoor
open Go Go.RowKit

section
variable {P:Program} {md:Region.Mode}
structure Waits (ops ops':Array Oper) (s e:Nat) (os:Oper):Prop where
 ne:e≠s
 size:ops'.size=ops.size
 at_:ops[s]?=some os
 at':ops'[s]?=some { os with after:=os.after.push { on:=e,ground:=.data } }
 off:∀ j,j≠s→ops'[j]?=ops[j]?
variable {ops ops':Array Oper} {s e:Nat} {os:Oper}
theorem Waits.yielded (h:Waits ops ops' s e os) (tmps:Array Value) (j:Nat):yielded ops' tmps j=yielded ops tmps j:=by
 unfold Go.yielded
 by_cases hj:j=s
 ·subst hj;rw [h.at_,h.at'];rfl
 ·rw [h.off j hj]
theorem Waits.wpOp (h:Waits ops ops' s e os) {Q:Exit→Act→World→Prop} {i:Nat} {K:Act→World→Prop} {a:Act} {w:World} (hw:wpOp P ops' Q i K a w):wpOp P ops Q i K a w:=by
 unfold Go.wpOp at *;have e1:Go.yielded ops' a.tmps=Go.yielded ops a.tmps:=funext (h.yielded a.tmps)
 by_cases hi:i=s
 ·subst hi
  rw [h.at'] at hw;rw [h.at_];simp only at hw ⊢;have e2:Region.wanted { os with after:=os.after.push { on:=e,ground:=.data } } (Go.yielded ops' a.tmps)=Region.wanted os (Go.yielded ops a.tmps):=by unfold Region.wanted;rw [e1]
  rw [e2] at hw;exact hw
 ·rw [h.off i hi] at hw
  rw [← e1];exact hw
theorem Waits.ready (h:Waits ops ops' s e os) {listed:Array Bool} {j:Nat} : j∈Region.ready md ops' listed↔j∈Region.ready md ops listed∧(j=s→listed.getD e false=true):=by
 rw [mem_ready,mem_ready]
 by_cases hj:j=s
 ·subst hj
  constructor
  ·rintro ⟨h0,o,ho,hall⟩
   rw [h.at'] at ho;cases ho;refine ⟨⟨h0,os,h.at_,fun x hx hb=>hall x (by simp only [Array.mem_push];exact .inl hx) hb⟩,fun _ => ?_⟩;exact hall { on:=e,ground:=.data } (by simp) rfl
  ·rintro ⟨⟨h0,o,ho,hall⟩,he⟩
   rw [h.at_] at ho;cases ho;refine ⟨h0,_,h.at',fun x hx hb => ?_⟩;rcases Array.mem_push.1 hx with hx|rfl
   ·exact hall x hx hb
   ·exact he rfl
 ·rw [h.off j hj]
  exact ⟨fun k=>⟨k,fun e=>absurd e hj⟩,fun k=>k.1⟩
theorem getB_lt {listed:Array Bool} {i:Nat} (h:listed.getD i true=false):i<listed.size:=by
 rcases Nat.lt_or_ge i listed.size with h'|h'
 ·exact h'
 ·simp [Array.getD,Nat.not_lt.2 h'] at h
theorem getB_set {listed:Array Bool} {i:Nat} (b:Bool) (h:i<listed.size):(listed.setIfInBounds i true).getD i b=true:=by simp [h]
theorem extract_yields {Q:Exit→Act→World→Prop} {oe:Oper} {x:Operand} {i:Nat} (hoe:ops[e]?=some oe) (hx:oe.op=.extract x i) {K:Act→World→Prop} {a:Act} {w:World} (h:Go.wpOp P ops Q e K a w) :
 ∃ v,Yields P ops oe v a∧K (a.put oe.dst v) w:=by
 unfold Go.wpOp at h;simp only [hoe] at h
 split at h
 ·rename_i hw
  have hex:execOp a.eval oe=(do let v←Instr.extract (a.eval x) i;pure (.value v)):=by unfold execOp;rw [hx]
  have hr:(∃ u,∀ w,(execOp a.eval oe).run P w=.ok (.value u) w)∨∀ w K,¬ oe.upon P a K Q ((execOp a.eval oe).run P w):=by
   rw [hex];unfold Instr.extract
   cases a.eval x with
   | tuple vs =>
    cases hv:vs[i]? with
    | some u=>exact .inl ⟨u,fun w=>by simp [hv]⟩
    | none=>exact .inr fun w K=>by simp [hv,stuck,Oper.upon]
   | _=>exact .inr fun w K=>by simp [stuck,Oper.upon]
  have ha:¬ oe.asks P a w:=by
   rintro ⟨h1,_⟩;rw [hex] at h1;unfold Instr.extract at h1;have no:∀ {e:Event},¬ e∈(#[]:Array Event):=by simp
   cases hv0:a.eval x with
   | tuple vs =>
    rw [hv0] at h1;dsimp only at h1
    cases hv:vs[i]? with
    | some u=>rw [hv] at h1;exact no h1
    | none=>rw [hv] at h1;exact no h1
   | _=>rw [hv0] at h1;exact no h1
  rcases h with h|h
  ·rcases hr with ⟨u,hu⟩|hno
   ·refine ⟨u,.inl ⟨hw,hu⟩,?_⟩
    unfold Oper.wp at h;rw [hu] at h;exact h
   ·exact absurd h (hno _ _)
  ·exact absurd h.1 ha
 ·rename_i hw
  exact ⟨undef,.inr ⟨by simpa using hw,rfl⟩,h⟩
def lateB (md:Region.Mode) (ops:Array Oper) (s e:Nat):Bool:=match ops[s]?,ops[e]? with
 | some os,some oe=>((List.range ops.size).all fun j=>j==e||j==s||(os.after.any fun x=>Region.binds md x&&x.on==j)||(match ops[j]? with
  | some o=>o.after.any fun x=>Region.binds md x&&x.on==e
  | none=>true))&&oe.after.all fun x => !Region.binds md x||os.after.any fun y=>Region.binds md y&&y.on==x.on
 | _,_=>false
theorem late_spec (hB:lateB md ops s e=true) (hne:e≠s) {listed:Array Bool} (hs:s∈Region.ready md ops listed) (hl:listed.getD e true=false) :
 e∈Region.ready md ops listed∧∀ j∈Region.ready md ops (listed.setIfInBounds s true),j=e:=by
 obtain ⟨h0,os,hos,hall⟩:=mem_ready.1 hs;unfold lateB at hB;rw [hos] at hB
 cases hoe:ops[e]? with
 | none=>simp [hoe] at hB
 | some oe =>
  simp only [hoe,Bool.and_eq_true] at hB
  have cov:∀ j,(os.after.any fun x=>Region.binds md x&&x.on==j)=true→listed.getD j false=true:=fun j hj=>by
   obtain ⟨x,hx,h2⟩:=Array.any_eq_true'.1 hj;simp only [Bool.and_eq_true,beq_iff_eq] at h2;rw [← h2.2];exact hall x hx h2.1
  refine ⟨mem_ready.2 ⟨hl,oe,hoe,fun x hx hb => ?_⟩,fun j hj => ?_⟩
  ·have h2:=Array.all_eq_true'.1 hB.2 x hx
   rw [hb] at h2;exact cov _ (by simpa using h2)
  ·obtain ⟨g0,o,ho,gall⟩:=mem_ready.1 hj
   refine Classical.byContradiction fun hje => ?_
   have hjs:j≠s:=fun c=>by
    subst c;rw [getB_set true (getB_lt h0)] at g0;cases g0
   have h2:=List.all_eq_true.1 hB.1 j (List.mem_range.2 (Array.getElem?_eq_some_iff.1 ho).1);simp only [ho,Bool.or_eq_true,beq_iff_eq] at h2;rcases h2 with ((h2|h2)|h2)|h2
   ·exact hje h2
   ·exact hjs h2
   ·have:=cov j h2
    rw [getD_set_ne true (Ne.symm hjs)] at g0;rw [getD_both g0] at this;cases this
   ·obtain ⟨x,hx,h3⟩:=Array.any_eq_true'.1 h2
    simp only [Bool.and_eq_true,beq_iff_eq] at h3;have:=gall x hx h3.1;rw [h3.2,getD_set_ne false (Ne.symm hne)] at this;rw [getD_both hl] at this;cases this
theorem lateB_lt (hB:lateB md ops s e=true):e<ops.size:=by
 unfold lateB at hB
 cases hos:ops[s]? with
 | none=>simp [hos] at hB
 | some os=>cases hoe:ops[e]? with
  | none=>simp [hos,hoe] at hB
  | some oe=>exact (Array.getElem?_eq_some_iff.1 hoe).1
theorem wpAny_wait {Q:Exit→Act→World→Prop} (h:Waits ops ops' s e os) (hB:lateB md ops s e=true)
 {oe:Oper} {x:Operand} {ix:Nat} (hoe:ops[e]?=some oe) (hx:oe.op=.extract x ix) (hsel:∀ cs b,os.op≠.select cs b) (hap:oe.apart ops os=true)
 (hQ:∀ c a v w,Q (.panic c) (a.put oe.dst v) w→Q (.panic c) a w) :
 ∀ n k,k≤n→∀ listed a w,listed.size=ops.size→wpAny P md ops' Q k listed a w→wpAny P md ops Q k listed a w:=by
 have hc:∀ K a w,Go.wpOp P ops Q e (fun a w=>Go.wpOp P ops Q s K a w) a w→Go.wpOp P ops Q s (fun a w=>Go.wpOp P ops Q e K a w) a w:=fun K a w h1=>by
  obtain ⟨v,hy,h2⟩:=extract_yields hoe hx h1;refine wpOp_mono (fun a' w' h3 => ?_) (wpOp_put h.at_ hap (fun cs b hh=>by rw [hx] at hh;cases hh) hsel (fun c a w=>hQ c a v w) hy h2);exact Yields.wpOp hoe h3.1 h3.2
 intro n
 induction n with
 | zero =>
  intro k hk listed a w hsz H;obtain rfl:k=0:=by omega
  refine ⟨?_,H.2⟩
  cases hr:Region.ready md ops listed with
  | nil=>rfl
  | cons j l =>
   exfalso;have hj:j∈Region.ready md ops listed:=by rw [hr];simp
   have hsome:∃ i,i∈Region.ready md ops' listed:=by
    by_cases c:j=s∧listed.getD e false=false
    ·obtain ⟨rfl,c⟩:=c
     have he:=(late_spec hB h.ne hj (getD_in (by
      have:=lateB_lt hB
      omega) c)).1
     exact ⟨e,h.ready.2 ⟨he,fun q=>absurd q h.ne⟩⟩
    ·exact ⟨j,h.ready.2 ⟨hj,fun q=>by
      cases hl:listed.getD e false with
      | true=>rfl
      | false=>exact absurd ⟨q,hl⟩ c⟩⟩
   obtain ⟨i,hi⟩:=hsome;rw [H.1] at hi;cases hi
 | succ n ih =>
  intro k hk listed a w hsz H
  cases k with
  | zero=>exact ih 0 (by omega) listed a w hsz H
  | succ k =>
   refine ⟨fun hr=>H.1 ?_,fun i hi => ?_⟩
   ·cases hr':Region.ready md ops' listed with
    | nil=>rfl
    | cons j l =>
     have:j∈Region.ready md ops' listed:=by rw [hr'];simp
     have:=(h.ready.1 this).1;rw [hr] at this;cases this
   ·by_cases hi':i∈Region.ready md ops' listed
    ·exact wpOp_mono (fun a' w' h'=>ih k (by omega) _ a' w' (by simpa using hsz) h') (h.wpOp (H.2 i hi'))
    ·have hcase:i=s∧listed.getD e false=false:=by
      refine Classical.byContradiction fun c=>hi' (h.ready.2 ⟨hi,fun q => ?_⟩)
      cases hl:listed.getD e false with
      | true=>rfl
      | false=>exact absurd ⟨q,hl⟩ c
     obtain ⟨rfl,hl⟩:=hcase;have hl':listed.getD e true=false:=getD_in (by have:=lateB_lt hB;omega) hl;obtain ⟨he,honly⟩:=late_spec hB h.ne hi hl';have he':e∈Region.ready md ops' listed:=h.ready.2 ⟨he,fun q=>absurd q h.ne⟩;have hie:i∈Region.ready md ops' (listed.setIfInBounds e true):=h.ready.2 ⟨ready_mono hi (Ne.symm h.ne),fun _=>getB_set false (getB_lt hl')⟩;have H2:=h.wpOp (H.2 e he')
     cases k with
     | zero =>
      exfalso
      -- nothing may be left
      have:∀ a w,wpAny P md ops' Q 0 (listed.setIfInBounds e true) a w→False:=fun a w h0=>by
       rw [h0.1] at hie;cases hie
      have H3:Go.wpOp P ops Q e (fun _ _=>False) a w:=wpOp_mono (fun a' w' h'=>this a' w' h') H2;obtain ⟨_,_,hf⟩:=extract_yields hoe hx H3;exact hf
     | succ k =>
      have H3:Go.wpOp P ops Q e (fun a w=>Go.wpOp P ops Q i (wpAny P md ops Q k ((listed.setIfInBounds e true).setIfInBounds i true)) a w) a w :=
       wpOp_mono (fun a' w' h'=>wpOp_mono (fun a2 w2 h2=>ih k (by omega) _ a2 w2 (by simpa using hsz) h2) (h.wpOp (h'.2 i hie))) H2
      refine wpOp_mono (fun a' w' h' => ?_) (hc _ a w H3);refine ⟨fun h0 => ?_,fun j hj => ?_⟩
      ·have:e∈Region.ready md ops (listed.setIfInBounds i true):=ready_mono he h.ne
       rw [h0] at this;cases this
      ·obtain rfl:=honly j hj
       rw [Array.setIfInBounds_comm _ _ (Ne.symm h.ne)];exact h'
theorem wpAny_headA {Q:Exit→Act→World→Prop} {a:Act} {w:World} {l:List Oper} (n:Nat) (al:List (Nat×Nat×List Value×TypeId)) (hB:headB l n al=true)
 (hsz:∀ x∈al,x.2.1<a.tmps.size)
 (hz:∀ x∈al,∀ w,(Instr.alloc x.2.2.2 true (.tuple #[])).run P w=.ok (.pointer (some ⟨w.heap.size,0,none⟩)) (w.alloc (.cells x.2.2.1.toArray x.2.2.2)))
 (h:∀ V,Below w.heap.size w V→wpQuiet P (l.map maskOp).toArray (fun w'=>∃ p:Bel V,w'=p.w1)
  (fun aq=>∀ a' w',Below w.heap.size w w'→Same (al.map (·.2.1)) aq a'→Laid w al (restA l n) a' w'→wpAny P .any l.toArray Q (l.length-n) (restA l n) a' w') ((l.map maskOp).take n) a) :
 wpAny P .any l.toArray Q l.length (Array.replicate l.length false) a w.drew:=by
 simp only [headB,Bool.and_eq_true,decide_eq_true_eq] at hB;obtain ⟨⟨⟨⟨⟨hsel,hsel'⟩,hn⟩,hs⟩,hA⟩,hlex⟩:=hB;have hmm:(l.map maskOp).toArray=l.toArray.map maskOp:=by simp
 have htl:((l.map maskOp).take n).length=n:=by simp;omega
 have inv0:HeadInv .any (l.map maskOp).toArray n (Array.replicate l.length false) :=
  ⟨by simp,fun j oj _ hl=>(by rw [getD_replicate_false] at hl;cases hl),fun t _ ht=>getD_in (by simpa using ht) (getD_replicate_false _ _)⟩
 rw [show wpAny P .any l.toArray Q l.length=wpAny P .any l.toArray Q (n+(l.length-n)) by rw [show n+(l.length-n)=l.length by omega]]
 refine wpAny_of_fam (W:=w) (n:=n) (al:=al) (L:=fun listed' aq=>listed'=restA l n∧∀ a' w',Below w.heap.size w w'→Same (al.map (·.2.1)) aq a'→Laid w al (restA l n) a' w'→wpAny P .any l.toArray Q (l.length-n) (restA l n) a' w')
  hsel hA hz (fun listed aq a' w' hb hs' hl hL => ?_) n _ a a _ hsz (by simp) ((Below.refl _ w).drew) (Same.refl _ _) ?_ fun V hV => ?_
 ·obtain ⟨rfl,hK⟩:=hL
  exact hK a' w' hb hs' hl
 ·refine ⟨fun x _ hl => ?_,fun x _ y _ _ hl _ => ?_⟩
  ·rw [getD_replicate_false] at hl;cases hl
  ·rw [getD_replicate_false] at hl;cases hl
 ·have hV':Below w.heap.size w V:=((Below.refl _ w).drew).trans hV
  rw [← hmm]
  have H:=headA_lex (md:=.any) hsel' hs ((l.map maskOp).take n) 0 _ a (fun j hj=>by
   rw [htl] at hj
   simp [hj]) (by simpa using htl) inv0 (by rw [htl];exact hlex) (h V hV')
  rw [htl] at H;exact H
theorem wpAny_new1a {Q:Exit→Act→World→Prop} {a:Act} {w:World} {l:List Oper} (n i d d2:Nat) (cs:List Value) (T:TypeId) {s r:Oper} {y z:Operand}
 (hB:(headB l n [(i,d,cs,T)]&&(restA l n).getD i false&&(pairB l n||Region.seqB .any l.toArray (l.length-n) n (restA l n)))=true)
 (hl:l.drop n=[s,r]) (hs:s.op=.store T (.tmp d) y) (hg:s.guard=none) (hd:s.dst=none) (hr:r.op=.assign z) (hgr:r.guard=none) (hdr:r.dst=some d2) (hyd:y≠.tmp d∧z≠.tmp d∧y≠.tmp d2) (hdd:(decide (d=d2))=false) (hsz:d<a.tmps.size)
 (hz:∀ w,(Instr.alloc T true (.tuple #[])).run P w=.ok (.pointer (some ⟨w.heap.size,0,none⟩)) (w.alloc (.cells cs.toArray T))) (hi:(P.info? T).map (·.size)=some cs.length)
 (h:∀ V,Below w.heap.size w V→wpQuiet P (l.map maskOp).toArray (fun w'=>∃ p:Bel V,w'=p.w1)
  (fun aq=>∃ vs:List Value,(aq.eval y).cells=vs.toArray∧cs.length=vs.length∧(∀ u∈vs,u.oneCell'=true) ∧
   ∀ b w',Below w.heap.size w w'→w.heap.size≤b→b<w'.heap.size→Own w' b 0 vs→Q .normal ((aq.put (some d) (.pointer (some ⟨b,0,none⟩))).put (some d2) (aq.eval z)) w') ((l.map maskOp).take n) a) :
 wpAny P .any l.toArray Q l.length (Array.replicate l.length false) a w.drew:=by
 simp only [Bool.and_eq_true] at hB;refine wpAny_headA n [(i,d,cs,T)] hB.1.1 (fun x hx=>by rw [List.mem_singleton] at hx;subst hx;exact hsz) (fun x hx=>by rw [List.mem_singleton] at hx;subst hx;exact hz) fun V hV => ?_
 refine wpQuiet_mono' (fun aq hk a' w' hb hs' hl' => ?_) (h V hV);obtain ⟨vs,hvs,hlen,hone,hk⟩:=hk;obtain ⟨b,h1,h2,h3,h4⟩:=hl'.at_ (i,d,cs,T) (by simp) hB.1.2;have ea:=same_one (by simpa using hs') h1;have hda:d<aq.tmps.size:=by rw [← hs'.size];exact (Array.getElem?_eq_some_iff.1 h1).1
 have hfin:Q .normal ((aq.put (some d) (.pointer (some ⟨b,0,none⟩))).put (some d2) (aq.eval z)) (w'.setCells b 0 vs):=hk b _ (Below.sets h2 _ _ _ hb) h2 (by rw [sets_size];exact h3) (h4.set hlen);rw [ea];have hne:(Operand.tmp d:Operand)≠.tmp d2:=by intro e;cases e;simp at hdd
 have k1:wpList P l.toArray Q [s,r] (aq.put (some d) (.pointer (some ⟨b,0,none⟩))) w':=by
  refine wpList_store_cells hg hd T _ _ hs (eval_put_self _ hda) (by rw [eval_put_ne _ hyd.1];exact hvs) h4 hlen (by rw [hi,hlen]) hone ?_;refine wpList_plain hgr fun K hK => ?_
  unfold Oper.wp execOp;rw [hr];refine hK _ _ ?_;show wpList P l.toArray Q _ (Act.put _ r.dst _) _;rw [hdr,eval_put_ne _ hyd.2.1];exact hfin
 have k2:wpList P l.toArray Q [r,s] (aq.put (some d) (.pointer (some ⟨b,0,none⟩))) w':=by
  refine wpList_plain hgr fun K hK => ?_
  unfold Oper.wp execOp;rw [hr];refine hK _ _ ?_;show wpList P l.toArray Q _ (Act.put _ r.dst _) _;rw [hdr,eval_put_ne _ hyd.2.1];refine wpList_store_cells hg hd T _ _ hs (by rw [eval_put_ne _ hne,eval_put_self _ hda]) (by rw [eval_put_ne _ hyd.2.2,eval_put_ne _ hyd.1];exact hvs) h4 hlen (by rw [hi,hlen]) hone ?_;exact hfin
 rcases (Bool.or_eq_true _ _).mp hB.2 with hp|hp
 ·exact tail_pair hp (by rw [hl];exact k1) (by rw [hl];exact k2)
 ·exact tail_seq hp (by rw [hl];exact k1)
def waitL (l:List Oper) (n e:Nat):List Oper:=match l[n]? with
 | some o=>l.set n { o with after:=o.after.push { on:=e,ground:=.data } }
 | none=>l
theorem waits_L {l:List Oper} {n e:Nat} {o:Oper} (ho:l[n]?=some o) (hne:e≠n):Waits l.toArray (waitL l n e).toArray n e o:=by
 have hlt:=(List.getElem?_eq_some_iff.1 ho).1;have hw:waitL l n e=l.set n { o with after:=o.after.push { on:=e,ground:=.data } } := by unfold waitL;rw [ho]
 refine ⟨hne,by rw [hw];simp,by simpa using ho,by rw [hw];simp [hlt],fun j hj => ?_⟩;rw [hw];simp [List.getElem?_set,Ne.symm hj]
theorem wp_region_new1l {id:Nat} {Q:Exit→Act→World→Prop} {a:Act} {w:World} {l l':List Oper} (n e i d d2:Nat) (cs:List Value) (T:TypeId) {s s' r oe:Oper} {y z x:Operand} {ix:Nat} (hm:P.follows .mixedOrders=true)
 (hl':waitL l n e=l') (hln:l[n]?=some s) (hoe:l[e]?=some oe) (hx:oe.op=.extract x ix) (hE:(decide (e≠n)&&lateB .any l.toArray n e&&oe.apart l.toArray s)=true)
 (hB:(headB l' n [(i,d,cs,T)]&&(restA l' n).getD i false&&(pairB l' n||Region.seqB .any l'.toArray (l'.length-n) n (restA l' n)))=true)
 (hl:l'.drop n=[s',r]) (hs:s'.op=.store T (.tmp d) y) (hg:s'.guard=none) (hd:s'.dst=none) (hr:r.op=.assign z) (hgr:r.guard=none) (hdr:r.dst=some d2) (hyd:y≠.tmp d∧z≠.tmp d∧y≠.tmp d2) (hdd:(decide (d=d2))=false) (hsz:d<a.tmps.size)
 (hz:∀ w,(Instr.alloc T true (.tuple #[])).run P w=.ok (.pointer (some ⟨w.heap.size,0,none⟩)) (w.alloc (.cells cs.toArray T))) (hi:(P.info? T).map (·.size)=some cs.length)
 (h:∀ V,Below w.heap.size w V→wpQuiet P (l'.map maskOp).toArray (fun w'=>∃ p:Bel V,w'=p.w1)
  (fun aq=>∃ vs:List Value,(aq.eval y).cells=vs.toArray∧cs.length=vs.length∧(∀ u∈vs,u.oneCell'=true) ∧
   ∀ b w',Below w.heap.size w w'→w.heap.size≤b→b<w'.heap.size→Own w' b 0 vs→Q .normal ((aq.put (some d) (.pointer (some ⟨b,0,none⟩))).put (some d2) (aq.eval z)) w') ((l'.map maskOp).take n) a):(Code.region id l.toArray true).wp P Q a w:=by
 simp only [Bool.and_eq_true,decide_eq_true_eq] at hE;obtain ⟨⟨hne,hlate⟩,hap⟩:=hE;have hW:=waits_L hln hne;rw [hl'] at hW;have hlen:l'.length=l.length:=by have:=hW.size;simpa using this
 have hso:s'.op=s.op:=by
  have h1:l'[n]?=some s':=by rw [← Nat.add_zero n,← List.getElem?_drop,hl];rfl
  have h2:=hW.at';simp only [List.getElem?_toArray] at h2;rw [h1] at h2;rw [Option.some.inj h2]
 refine wp_region_noPanic ?_;refine wp_region_any hm ?_;simp only [List.size_toArray];refine wpAny_wait hW hlate (by simpa using hoe) hx (fun cs b hh=>by rw [← hso,hs] at hh;cases hh) hap (fun _ _ _ _ h=>h) _ _ (Nat.le_refl _) _ _ _ (by simp) ?_;have:=wpAny_new1a n i d d2 cs T hB hl hs hg hd hr hgr hdr hyd hdd hsz hz hi (Q:=NoPanic Q) (fun V hV=>wpQuiet_mono' (fun aq ⟨vs,k1,k2,k3,k4⟩=>⟨vs,k1,k2,k3,fun b w' j1 j2 j3 j4=>NoPanic.normal (k4 b w' j1 j2 j3 j4)⟩) (h V hV));rw [hlen] at this;exact this
end
end Go.Proofs.YtiochgoocbkckaaGreatDoor
