/-
 Contracts for the plane: a look at two points.
-/
import Derived.Test.YtdkkjfnpinckjaaGreatDoorYReg4
import Derived.Test.YtdkkjfnpinckjaaGreatDoorYReg5
import Derived.Test.YtdkkjfnpinckjaaGreatDoorYSeG
import Derived.Test.YtdkkjfnpinckjaaGreatDoorYPl
import Derived.Test.YtdkkjfnpinckjaaGreatDoorYMn
import Derived.Deep.RegionHeld3
import Derived.Deep.DeepCutAuto
set_option maxRecDepth 100000
set_option linter.unusedSimpArgs false
set_option linter.unusedVariables false
namespace Go.Proofs.YtdkkjfnpinckjaaGreatDoor
open Go Go.RowKit

structure Exc (B:Nat) (w w':World):Prop where
 os:w'.os=w.os
 tape:w'.tape=w.tape
 output:w'.output=w.output
 size:w.heap.size≤w'.heap.size
 block:∀ k,k<w.heap.size→k<B∨B+4≤k→w'.heap[k]?=w.heap[k]?
 drawn:w.drawn≤w'.drawn
theorem Exc.of {B:Nat} {w w':World} (h:Below w.heap.size w w'):Exc B w w':=⟨h.os,h.tape,h.output,h.size,fun k hk _=>h.block k hk,h.drawn⟩
theorem Exc.trans {B:Nat} {a b c:World} (h:Exc B a b) (k:Exc B b c):Exc B a c :=
 ⟨k.os.trans h.os,k.tape.trans h.tape,k.output.trans h.output,Nat.le_trans h.size k.size,fun i hi hb=>(k.block i (Nat.lt_of_lt_of_le hi h.size) hb).trans (h.block i hi hb),Nat.le_trans h.drawn k.drawn⟩
theorem Exc.setCell {B:Nat} {a w:World} (h:Exc B a w) {p:Addr} (h1:B≤p.block) (h2:p.block<B+4) (u:Value):Exc B a (w.setCell p u) :=
 h.trans ⟨rfl,rfl,rfl,by simp [World.setCell],fun k _ hk=>Below.heap_setCell _ _ _ _ (by omega),Nat.le_refl _⟩
theorem Exc.sets {B:Nat} {a:World} {c:Nat} (h1:B≤c) (h2:c<B+4):∀ (vs:List Value) (i:Nat) (w:World),Exc B a w→Exc B a (w.setCells c i vs)
 | [],_,_,h=>h
 | _ :: vs,i,_,h=>Exc.sets h1 h2 vs (i+1) _ (h.setCell h1 h2 _)
theorem Exc.drew {B:Nat} {a w:World} (h:Exc B a w):Exc B a w.drew:=⟨h.os,h.tape,h.output,h.size,h.block,Nat.le_succ_of_le h.drawn⟩
theorem Exc.below {B:Nat} {w w':World} (h:Exc B w w') (hB:B≤w.heap.size):Below B w w':=⟨h.os,h.tape,h.output,h.size,fun k hk=>h.block k (by omega) (.inl hk),h.drawn⟩
theorem Exc.own {B b:Nat} {w w':World} (h:Exc B w w') (hb:b<w.heap.size) (hn:b<B∨B+4≤b):∀ {l:List Value} {i:Nat},Own w b i l→Own w' b i l
 | [],_,_=>trivial
 | _ :: _,_,o=>⟨⟨(World.cell?_of_block (w:=w) (h.block b hb hn)).trans o.1.1,(World.frozen?_of_block (w:=w) (h.block b hb hn)).trans o.1.2⟩,Exc.own h hb hn o.2⟩
theorem Exc.owns {B:Nat} {w w':World} (h:Exc B w w') {base:Nat} {e:TypeId} {size n:Nat} {v:Value} {xs:List Value} (o:w.ownsRow base e size v n xs) (hn:∀ k,v.ownBlock=some k→B+4≤k):w'.ownsRow base e size v n xs :=
 owns_block o fun k hk hw=>h.block k hw (.inr (hn k hk))
def lkS (s:Bool×Rat×(Rat×Rat)×(Rat×Rat)) (c:(Rat×Rat)×(Rat×Rat)):Bool×Rat×(Rat×Rat)×(Rat×Rat) :=
 if s.1=true∨Pl.dist2 c.1 c.2<s.2.1 then (false,Pl.dist2 c.1 c.2,c.1,c.2) else s
theorem lk_first {s:Bool×Rat×(Rat×Rat)×(Rat×Rat)} {c:(Rat×Rat)×(Rat×Rat)} (h:s.1=true):lkS s c=(false,Pl.dist2 c.1 c.2,c.1,c.2):=if_pos (.inl h)
theorem lk_less {s:Bool×Rat×(Rat×Rat)×(Rat×Rat)} {c:(Rat×Rat)×(Rat×Rat)} (h:Pl.cmpQ (Pl.dist2 c.1 c.2) s.2.1<0):lkS s c=(false,Pl.dist2 c.1 c.2,c.1,c.2):=if_pos (.inr ((Pl.cmp_lt_iff _ _).1 h))
theorem lk_not {s:Bool×Rat×(Rat×Rat)×(Rat×Rat)} {c:(Rat×Rat)×(Rat×Rat)} (h1:s.1=false) (h:¬ Pl.cmpQ (Pl.dist2 c.1 c.2) s.2.1<0):lkS s c=s:=if_neg (by
 rintro (h2|h2)
 ·rw [h1] at h2;cases h2
 ·exact h ((Pl.cmp_lt_iff _ _).2 h2))
set_option maxHeartbeats 1000000 in
theorem look_first (x y:Rat×Rat) (D:Rat) (P Q:Rat×Rat) (B:Nat) (w:World) (hx:Pl.SzP 33 x) (hy:Pl.SzP 33 y) (hD:Pl.Sz 400 D) (hf:Own w (B+2) 0 [.bool true]) (hl:Own w (B+3) 0 [.bool (ng D.num),.string (mg D.num.natAbs),.bool false,.string (mg (dn D))]) (hp:Own w B 0 [.bool (ng P.1.num),.string (mg P.1.num.natAbs),.bool false,.string (mg (dn P.1)),.bool (ng P.2.num),.string (mg P.2.num.natAbs),.bool false,.string (mg (dn P.2))]) (hq:Own w (B+1) 0 [.bool (ng Q.1.num),.string (mg Q.1.num.natAbs),.bool false,.string (mg (dn Q.1)),.bool (ng Q.2.num),.string (mg Q.2.num.natAbs),.bool false,.string (mg (dn Q.2))]) :
 Calls Tryz.prog 126 #[pv x,pv y,.pointer (some ⟨B+2,0,none⟩),.pointer (some ⟨B+3,0,none⟩),.pointer (some ⟨B,0,none⟩),.pointer (some ⟨B+1,0,none⟩)] w fun e w'=>e=.returned (.tuple #[])∧Own w' B 0 [.bool (ng x.1.num),.string (mg x.1.num.natAbs),.bool false,.string (mg (dn x.1)),.bool (ng x.2.num),.string (mg x.2.num.natAbs),.bool false,.string (mg (dn x.2))]∧Own w' (B+1) 0 [.bool (ng y.1.num),.string (mg y.1.num.natAbs),.bool false,.string (mg (dn y.1)),.bool (ng y.2.num),.string (mg y.2.num.natAbs),.bool false,.string (mg (dn y.2))]∧Own w' (B+2) 0 [.bool false]∧Own w' (B+3) 0 [.bool (ng ((Pl.dist2 x y).num)),.string (mg ((Pl.dist2 x y).num).natAbs),.bool false,.string (mg (dn (Pl.dist2 x y)))]∧Exc B w w':=by
 obtain ⟨d,hd⟩:∃ z,Pl.dist2 x y=z:=⟨_,rfl⟩
 have HZD:Hid (Pl.Sz 269 d):=Lib.hid (by rw [← hd];exact (hx.sub hy).dot (hx.sub hy));rw [hd];have HD:=Lib.hid hd;clear hd;have g0:=hp.lt;have g1:=hq.lt;have g2:=hf.lt;have g3:=hl.lt;go_enter Tryz.func126,Tryz.ntmps126;have ne1_:(B+2)<w.heap.size:=by have:=hf.lt;omega
 have ne1:=Nat.ne_of_lt ne1_;have ne1':=ne1.symm;have ne2_:(B+3)<w.heap.size:=by have:=hl.lt;omega
 have ne2:=Nat.ne_of_lt ne2_;have ne2':=ne2.symm;have ne3_:B<w.heap.size:=by have:=hp.lt;omega
 have ne3:=Nat.ne_of_lt ne3_;have ne3':=ne3.symm;have ne4_:(B+1)<w.heap.size:=by have:=hq.lt;omega
 have ne4:=Nat.ne_of_lt ne4_;have ne4':=ne4.symm;have ne5_:(B+2)<w.heap.size+1:=by have:=hf.lt;omega
 have ne5:=Nat.ne_of_lt ne5_;have ne5':=ne5.symm;have ne6_:(B+3)<w.heap.size+1:=by have:=hl.lt;omega
 have ne6:=Nat.ne_of_lt ne6_;have ne6':=ne6.symm;have ne7_:B<w.heap.size+1:=by have:=hp.lt;omega
 have ne7:=Nat.ne_of_lt ne7_;have ne7':=ne7.symm;have ne8_:(B+1)<w.heap.size+1:=by have:=hq.lt;omega
 have ne8:=Nat.ne_of_lt ne8_;have ne8':=ne8.symm;have uhf:=hf;have uhl:=hl;have uhp:=hp;have uhq:=hq;simp only [At,Own,Nat.reduceAdd,and_true] at uhf uhl uhp uhq;have K9:=Lib.hid (fun W=>HD.out▸pdist_any x y W hx hy (by omega) (by omega));go_wp2_with (fail)
 refine calls_named ?_;intro W1 hW1;have hL1:Below w.heap.size w W1:=by rw [hW1];exact bB
 have c10:=hf.up hL1;have c11:=hl.up hL1;have c12:=hp.up hL1;have c13:=hq.up hL1
 have c14:Own W1 w.heap.size 0 [.bool (ng x.1.num),.string (mg x.1.num.natAbs),.bool false,.string (mg (dn x.1)),.bool (ng x.2.num),.string (mg x.2.num.natAbs),.bool false,.string (mg (dn x.2))]:=by
  rw [hW1]
  first
  | (repeat (first|(with_reducible refine own_new (l:=[.bool (ng x.1.num),.string (mg x.1.num.natAbs),.bool false,.string (mg (dn x.1)),.bool (ng x.2.num),.string (mg x.2.num.natAbs),.bool false,.string (mg (dn x.2))]) ?_;(simp;done))|with_reducible refine Own.alloc ?_ _|refine Own.far _ _ (by first|(simp;done)|(simp [*];done)|(simp;omega)) ?_));done
  | simp [Own,go_sem,uhf,uhl,uhp,uhq,ne1,ne1',ne1_,ne2,ne2',ne2_,ne3,ne3',ne3_,ne4,ne4',ne4_,ne5,ne5',ne5_,ne6,ne6',ne6_,ne7,ne7',ne7_,ne8,ne8',ne8_]
 have c15:Own W1 (w.heap.size+1) 0 [.bool (ng y.1.num),.string (mg y.1.num.natAbs),.bool false,.string (mg (dn y.1)),.bool (ng y.2.num),.string (mg y.2.num.natAbs),.bool false,.string (mg (dn y.2))]:=by
  rw [hW1]
  first
  | (repeat (first|(with_reducible refine own_new (l:=[.bool (ng y.1.num),.string (mg y.1.num.natAbs),.bool false,.string (mg (dn y.1)),.bool (ng y.2.num),.string (mg y.2.num.natAbs),.bool false,.string (mg (dn y.2))]) ?_;(simp;done))|with_reducible refine Own.alloc ?_ _|refine Own.far _ _ (by first|(simp;done)|(simp [*];done)|(simp;omega)) ?_));done
  | simp [Own,go_sem,uhf,uhl,uhp,uhq,ne1,ne1',ne1_,ne2,ne2',ne2_,ne3,ne3',ne3_,ne4,ne4',ne4_,ne5,ne5',ne5_,ne6,ne6',ne6_,ne7,ne7',ne7_,ne8,ne8',ne8_]
 have hB16:Below w.heap.size w W1:=by rw [hW1];exact bB
 clear hW1 hL1 uhf uhl uhp uhq hf hl hp hq;with_reducible refine (K9.out _).mono ?_
 rintro e w1 ⟨rfl,hb1⟩;have c17:=c10.up hb1;have c18:=c11.up hb1;have c19:=c12.up hb1;have c20:=c13.up hb1;have c21:=c14.up hb1;have c22:=c15.up hb1;have hB23:Below w.heap.size w w1:=bel_up hB16 hb1;clear c10 c11 c12 c13 c14 c15;have ne24_:(B+2)<w1.heap.size:=by have:=c17.lt;omega
 have ne24:=Nat.ne_of_lt ne24_;have ne24':=ne24.symm;have ne25_:(B+3)<w1.heap.size:=by have:=c18.lt;omega
 have ne25:=Nat.ne_of_lt ne25_;have ne25':=ne25.symm;have ne26_:B<w1.heap.size:=by have:=c19.lt;omega
 have ne26:=Nat.ne_of_lt ne26_;have ne26':=ne26.symm;have ne27_:(B+1)<w1.heap.size:=by have:=c20.lt;omega
 have ne27:=Nat.ne_of_lt ne27_;have ne27':=ne27.symm;have ne28_:w.heap.size<w1.heap.size:=by have:=c21.lt;omega
 have ne28:=Nat.ne_of_lt ne28_;have ne28':=ne28.symm;have ne29_:w.heap.size+1<w1.heap.size:=by have:=c22.lt;omega
 have ne29:=Nat.ne_of_lt ne29_;have ne29':=ne29.symm;have uc17:=c17;have uc18:=c18;have uc19:=c19;have uc20:=c20;have uc21:=c21;have uc22:=c22;simp only [At,Own,Nat.reduceAdd,and_true] at uc17 uc18 uc19 uc20 uc21 uc22;have hE0:=Exc.of (B:=B) hB23;go_upto_region 3 with fail
 refine wp_named ?_;intro W2 hW2;have hL2:Below w1.heap.size w1 W2:=by rw [hW2];exact bB
 have c30:=c17.up hL2;have c31:=c18.up hL2;have c32:=c19.up hL2;have c33:=c20.up hL2;have c34:=c21.up hL2;have c35:=c22.up hL2
 have c36:Own W2 w1.heap.size 0 [.bool (ng d.num),.string (mg d.num.natAbs),.bool false,.string (mg (dn d))]:=by
  rw [hW2]
  first
  | (repeat (first|(with_reducible refine own_new (l:=[.bool (ng d.num),.string (mg d.num.natAbs),.bool false,.string (mg (dn d))]) ?_;(simp;done))|with_reducible refine Own.alloc ?_ _|refine Own.far _ _ (by first|(simp;done)|(simp [*];done)|(simp;omega)) ?_));done
  | simp [Own,go_sem,uc17,uc18,uc19,uc20,uc21,uc22,ne24,ne24',ne24_,ne25,ne25',ne25_,ne26,ne26',ne26_,ne27,ne27',ne27_,ne28,ne28',ne28_,ne29,ne29',ne29_]
 have hB37:Below w.heap.size w W2:=by rw [hW2];exact bB
 clear hW2 hL2 uc17 uc18 uc19 uc20 uc21 uc22 c17 c18 c19 c20 c21 c22;have hE1:Exc B w W2:=Exc.of hB37;have uc30:=c30;have uc31:=c31;have uc32:=c32;have uc33:=c33;have uc34:=c34;have uc35:=c35;have uc36:=c36;simp only [At,Own,Nat.reduceAdd,and_true] at uc30 uc31 uc32 uc33 uc34 uc35 uc36;have hbd_:Below W2.heap.size W2 W2.drew:=(Below.refl _ _).drew;have hf0_:=Lib.hid (((((c32.up hbd_).set (vs:=[.bool (ng x.1.num),.string (mg x.1.num.natAbs),.bool false,.string (mg (dn x.1)),.bool (ng x.2.num),.string (mg x.2.num.natAbs),.bool false,.string (mg (dn x.2))]) rfl).off (c:=B+1) (i:=0) (vs:=[.bool (ng y.1.num),.string (mg y.1.num.natAbs),.bool false,.string (mg (dn y.1)),.bool (ng y.2.num),.string (mg y.2.num.natAbs),.bool false,.string (mg (dn y.2))]) (by omega)).off (c:=B+3) (i:=0) (vs:=[.bool (ng d.num),.string (mg d.num.natAbs),.bool false,.string (mg (dn d))]) (by omega)).off (c:=B+2) (i:=0) (vs:=[.bool false]) (by omega));have hf1_:=Lib.hid (((((c33.up hbd_).off (c:=B) (i:=0) (vs:=[.bool (ng x.1.num),.string (mg x.1.num.natAbs),.bool false,.string (mg (dn x.1)),.bool (ng x.2.num),.string (mg x.2.num.natAbs),.bool false,.string (mg (dn x.2))]) (by omega)).set (vs:=[.bool (ng y.1.num),.string (mg y.1.num.natAbs),.bool false,.string (mg (dn y.1)),.bool (ng y.2.num),.string (mg y.2.num.natAbs),.bool false,.string (mg (dn y.2))]) rfl).off (c:=B+3) (i:=0) (vs:=[.bool (ng d.num),.string (mg d.num.natAbs),.bool false,.string (mg (dn d))]) (by omega)).off (c:=B+2) (i:=0) (vs:=[.bool false]) (by omega));have hf2_:=Lib.hid (((((c31.up hbd_).off (c:=B) (i:=0) (vs:=[.bool (ng x.1.num),.string (mg x.1.num.natAbs),.bool false,.string (mg (dn x.1)),.bool (ng x.2.num),.string (mg x.2.num.natAbs),.bool false,.string (mg (dn x.2))]) (by omega)).off (c:=B+1) (i:=0) (vs:=[.bool (ng y.1.num),.string (mg y.1.num.natAbs),.bool false,.string (mg (dn y.1)),.bool (ng y.2.num),.string (mg y.2.num.natAbs),.bool false,.string (mg (dn y.2))]) (by omega)).set (vs:=[.bool (ng d.num),.string (mg d.num.natAbs),.bool false,.string (mg (dn d))]) rfl).off (c:=B+2) (i:=0) (vs:=[.bool false]) (by omega));have hf3_:=Lib.hid (((((c30.up hbd_).off (c:=B) (i:=0) (vs:=[.bool (ng x.1.num),.string (mg x.1.num.natAbs),.bool false,.string (mg (dn x.1)),.bool (ng x.2.num),.string (mg x.2.num.natAbs),.bool false,.string (mg (dn x.2))]) (by omega)).off (c:=B+1) (i:=0) (vs:=[.bool (ng y.1.num),.string (mg y.1.num.natAbs),.bool false,.string (mg (dn y.1)),.bool (ng y.2.num),.string (mg y.2.num.natAbs),.bool false,.string (mg (dn y.2))]) (by omega)).off (c:=B+3) (i:=0) (vs:=[.bool (ng d.num),.string (mg d.num.natAbs),.bool false,.string (mg (dn d))]) (by omega)).set (vs:=[.bool false]) rfl);have hfe_:=Lib.hid (Exc.sets (c:=B+2) (by omega) (by omega) [.bool false] 0 _ (Exc.sets (c:=B+3) (by omega) (by omega) [.bool (ng d.num),.string (mg d.num.natAbs),.bool false,.string (mg (dn d))] 0 _ (Exc.sets (c:=B+1) (by omega) (by omega) [.bool (ng y.1.num),.string (mg y.1.num.natAbs),.bool false,.string (mg (dn y.1)),.bool (ng y.2.num),.string (mg y.2.num.natAbs),.bool false,.string (mg (dn y.2))] 0 _ (Exc.sets (c:=B) (by omega) (by omega) [.bool (ng x.1.num),.string (mg x.1.num.natAbs),.bool false,.string (mg (dn x.1)),.bool (ng x.2.num),.string (mg x.2.num.natAbs),.bool false,.string (mg (dn x.2))] 0 _ (Exc.trans hE1 (Exc.of hbd_))))));have hk0_:=c34.up hbd_;have hk1_:=c35.up hbd_;have hk2_:=c36.up hbd_;have hm0_:=c32.up hbd_;have hm1_:=c33.up hbd_;have hm2_:=c31.up hbd_;have hm3_:=c30.up hbd_;refine wp_region_l3s4 (d0:=19) (d1:=20) (d2:=21) (v0:=.agg #[.bool (ng x.1.num),.string (mg x.1.num.natAbs),.bool false,.string (mg (dn x.1)),.bool (ng x.2.num),.string (mg x.2.num.natAbs),.bool false,.string (mg (dn x.2))]) (v1:=.agg #[.bool (ng y.1.num),.string (mg y.1.num.natAbs),.bool false,.string (mg (dn y.1)),.bool (ng y.2.num),.string (mg y.2.num.natAbs),.bool false,.string (mg (dn y.2))]) (v2:=.agg #[.bool (ng d.num),.string (mg d.num.natAbs),.bool false,.string (mg (dn d))]) (cL:=[(B,[.bool (ng x.1.num),.string (mg x.1.num.natAbs),.bool false,.string (mg (dn x.1)),.bool (ng x.2.num),.string (mg x.2.num.natAbs),.bool false,.string (mg (dn x.2))]),(B+1,[.bool (ng y.1.num),.string (mg y.1.num.natAbs),.bool false,.string (mg (dn y.1)),.bool (ng y.2.num),.string (mg y.2.num.natAbs),.bool false,.string (mg (dn y.2))]),(B+3,[.bool (ng d.num),.string (mg d.num.natAbs),.bool false,.string (mg (dn d))]),(B+2,[.bool false])]) (by kernel_rfl) rfl (by kernel_rfl) rfl (by decide) (by decide) (by decide) ⟨_,_,w.heap.size,[.bool (ng x.1.num),.string (mg x.1.num.natAbs),.bool false,.string (mg (dn x.1)),.bool (ng x.2.num),.string (mg x.2.num.natAbs),.bool false,.string (mg (dn x.2))],_,rfl,rfl,rfl,rfl,(fun b0 b1 b2=>by cases b0<;>cases b1<;>cases b2<;>rfl),hk0_,Tryz.underlying35,rfl,(by kernel_rfl),(by intro z_ hz_;simp only [List.mem_cons,List.not_mem_nil,or_false] at hz_;rcases hz_ with rfl|rfl|rfl|rfl<;>(dsimp only;omega))⟩ ⟨_,_,w.heap.size+1,[.bool (ng y.1.num),.string (mg y.1.num.natAbs),.bool false,.string (mg (dn y.1)),.bool (ng y.2.num),.string (mg y.2.num.natAbs),.bool false,.string (mg (dn y.2))],_,rfl,rfl,rfl,rfl,(fun b0 b1 b2=>by cases b0<;>cases b1<;>cases b2<;>rfl),hk1_,Tryz.underlying35,rfl,(by kernel_rfl),(by intro z_ hz_;simp only [List.mem_cons,List.not_mem_nil,or_false] at hz_;rcases hz_ with rfl|rfl|rfl|rfl<;>(dsimp only;omega))⟩ ⟨_,_,w1.heap.size,[.bool (ng d.num),.string (mg d.num.natAbs),.bool false,.string (mg (dn d))],_,rfl,rfl,rfl,rfl,(fun b0 b1 b2=>by cases b0<;>cases b1<;>cases b2<;>rfl),hk2_,Tryz.underlying33,rfl,(by kernel_rfl),(by intro z_ hz_;simp only [List.mem_cons,List.not_mem_nil,or_false] at hz_;rcases hz_ with rfl|rfl|rfl|rfl<;>(dsimp only;omega))⟩ ⟨_,_,_,_,rfl,rfl,rfl,(fun b0 b1 b2 hn_=>by obtain rfl:=hn_.1 (by decide);cases b1<;>cases b2<;>exact ⟨rfl,rfl⟩),hm0_,rfl,(by kernel_rfl),(by simp [Value.oneCell'])⟩ ⟨_,_,_,_,rfl,rfl,rfl,(fun b0 b1 b2 hn_=>by obtain rfl:=hn_.1 (by decide);obtain rfl:=hn_.2.1 (by decide);cases b2<;>exact ⟨rfl,rfl⟩),hm1_,rfl,(by kernel_rfl),(by simp [Value.oneCell'])⟩ ⟨_,_,_,_,rfl,rfl,rfl,(fun b0 b1 b2 hn_=>by obtain rfl:=hn_.1 (by decide);obtain rfl:=hn_.2.1 (by decide);obtain rfl:=hn_.2.2 (by decide);exact ⟨rfl,rfl⟩),hm2_,rfl,(by kernel_rfl),(by simp [Value.oneCell'])⟩ ⟨_,_,_,_,rfl,rfl,rfl,(fun b0 b1 b2 hn_=>by obtain rfl:=hn_.1 (by decide);obtain rfl:=hn_.2.1 (by decide);obtain rfl:=hn_.2.2 (by decide);exact ⟨rfl,rfl⟩),hm3_,rfl,(by kernel_rfl),(by simp [Value.oneCell'])⟩ ⟨(by dsimp only;omega),(by dsimp only;omega),(by dsimp only;omega),(by dsimp only;omega),(by dsimp only;omega),(by dsimp only;omega)⟩ ?_;simp only [act7,pif,Act.put,List.setIfInBounds_toArray,List.set_cons_zero,List.set_cons_succ];go_wp2;go_end0;exact ⟨rfl,hf0_.out,hf1_.out,hf3_.out,hf2_.out,hfe_.out⟩

set_option maxHeartbeats 1000000 in
theorem look_less (x y:Rat×Rat) (D:Rat) (P Q:Rat×Rat) (B:Nat) (w:World) (hx:Pl.SzP 33 x) (hy:Pl.SzP 33 y) (hD:Pl.Sz 400 D) (hf:Own w (B+2) 0 [.bool false]) (hl:Own w (B+3) 0 [.bool (ng D.num),.string (mg D.num.natAbs),.bool false,.string (mg (dn D))]) (hp:Own w B 0 [.bool (ng P.1.num),.string (mg P.1.num.natAbs),.bool false,.string (mg (dn P.1)),.bool (ng P.2.num),.string (mg P.2.num.natAbs),.bool false,.string (mg (dn P.2))]) (hq:Own w (B+1) 0 [.bool (ng Q.1.num),.string (mg Q.1.num.natAbs),.bool false,.string (mg (dn Q.1)),.bool (ng Q.2.num),.string (mg Q.2.num.natAbs),.bool false,.string (mg (dn Q.2))]) (hc:Pl.cmpQ (Pl.dist2 x y) D<0) :
 Calls Tryz.prog 126 #[pv x,pv y,.pointer (some ⟨B+2,0,none⟩),.pointer (some ⟨B+3,0,none⟩),.pointer (some ⟨B,0,none⟩),.pointer (some ⟨B+1,0,none⟩)] w fun e w'=>e=.returned (.tuple #[])∧Own w' B 0 [.bool (ng x.1.num),.string (mg x.1.num.natAbs),.bool false,.string (mg (dn x.1)),.bool (ng x.2.num),.string (mg x.2.num.natAbs),.bool false,.string (mg (dn x.2))]∧Own w' (B+1) 0 [.bool (ng y.1.num),.string (mg y.1.num.natAbs),.bool false,.string (mg (dn y.1)),.bool (ng y.2.num),.string (mg y.2.num.natAbs),.bool false,.string (mg (dn y.2))]∧Own w' (B+2) 0 [.bool false]∧Own w' (B+3) 0 [.bool (ng ((Pl.dist2 x y).num)),.string (mg ((Pl.dist2 x y).num).natAbs),.bool false,.string (mg (dn (Pl.dist2 x y)))]∧Exc B w w':=by
 obtain ⟨d,hd⟩:∃ z,Pl.dist2 x y=z:=⟨_,rfl⟩
 have HZD:Hid (Pl.Sz 269 d):=Lib.hid (by rw [← hd];exact (hx.sub hy).dot (hx.sub hy));rw [hd];have HD:=Lib.hid hd;rw [hd] at hc;obtain ⟨t,ht⟩:∃ z,Pl.cmpQ d D=z:=⟨_,rfl⟩
 rw [ht] at hc;have HC:=Lib.hid ht;clear ht;clear hd;have g0:=hp.lt;have g1:=hq.lt;have g2:=hf.lt;have g3:=hl.lt;go_enter Tryz.func126,Tryz.ntmps126;have ne1_:(B+2)<w.heap.size:=by have:=hf.lt;omega
 have ne1:=Nat.ne_of_lt ne1_;have ne1':=ne1.symm;have ne2_:(B+3)<w.heap.size:=by have:=hl.lt;omega
 have ne2:=Nat.ne_of_lt ne2_;have ne2':=ne2.symm;have ne3_:B<w.heap.size:=by have:=hp.lt;omega
 have ne3:=Nat.ne_of_lt ne3_;have ne3':=ne3.symm;have ne4_:(B+1)<w.heap.size:=by have:=hq.lt;omega
 have ne4:=Nat.ne_of_lt ne4_;have ne4':=ne4.symm;have ne5_:(B+2)<w.heap.size+1:=by have:=hf.lt;omega
 have ne5:=Nat.ne_of_lt ne5_;have ne5':=ne5.symm;have ne6_:(B+3)<w.heap.size+1:=by have:=hl.lt;omega
 have ne6:=Nat.ne_of_lt ne6_;have ne6':=ne6.symm;have ne7_:B<w.heap.size+1:=by have:=hp.lt;omega
 have ne7:=Nat.ne_of_lt ne7_;have ne7':=ne7.symm;have ne8_:(B+1)<w.heap.size+1:=by have:=hq.lt;omega
 have ne8:=Nat.ne_of_lt ne8_;have ne8':=ne8.symm;have uhf:=hf;have uhl:=hl;have uhp:=hp;have uhq:=hq;simp only [At,Own,Nat.reduceAdd,and_true] at uhf uhl uhp uhq;have K9:=Lib.hid (fun W=>HD.out▸pdist_any x y W hx hy (by omega) (by omega));go_wp2_with (fail)
 refine calls_named ?_;intro W1 hW1;have hL1:Below w.heap.size w W1:=by rw [hW1];exact bB
 have c10:=hf.up hL1;have c11:=hl.up hL1;have c12:=hp.up hL1;have c13:=hq.up hL1
 have c14:Own W1 w.heap.size 0 [.bool (ng x.1.num),.string (mg x.1.num.natAbs),.bool false,.string (mg (dn x.1)),.bool (ng x.2.num),.string (mg x.2.num.natAbs),.bool false,.string (mg (dn x.2))]:=by
  rw [hW1]
  first
  | (repeat (first|(with_reducible refine own_new (l:=[.bool (ng x.1.num),.string (mg x.1.num.natAbs),.bool false,.string (mg (dn x.1)),.bool (ng x.2.num),.string (mg x.2.num.natAbs),.bool false,.string (mg (dn x.2))]) ?_;(simp;done))|with_reducible refine Own.alloc ?_ _|refine Own.far _ _ (by first|(simp;done)|(simp [*];done)|(simp;omega)) ?_));done
  | simp [Own,go_sem,uhf,uhl,uhp,uhq,ne1,ne1',ne1_,ne2,ne2',ne2_,ne3,ne3',ne3_,ne4,ne4',ne4_,ne5,ne5',ne5_,ne6,ne6',ne6_,ne7,ne7',ne7_,ne8,ne8',ne8_]
 have c15:Own W1 (w.heap.size+1) 0 [.bool (ng y.1.num),.string (mg y.1.num.natAbs),.bool false,.string (mg (dn y.1)),.bool (ng y.2.num),.string (mg y.2.num.natAbs),.bool false,.string (mg (dn y.2))]:=by
  rw [hW1]
  first
  | (repeat (first|(with_reducible refine own_new (l:=[.bool (ng y.1.num),.string (mg y.1.num.natAbs),.bool false,.string (mg (dn y.1)),.bool (ng y.2.num),.string (mg y.2.num.natAbs),.bool false,.string (mg (dn y.2))]) ?_;(simp;done))|with_reducible refine Own.alloc ?_ _|refine Own.far _ _ (by first|(simp;done)|(simp [*];done)|(simp;omega)) ?_));done
  | simp [Own,go_sem,uhf,uhl,uhp,uhq,ne1,ne1',ne1_,ne2,ne2',ne2_,ne3,ne3',ne3_,ne4,ne4',ne4_,ne5,ne5',ne5_,ne6,ne6',ne6_,ne7,ne7',ne7_,ne8,ne8',ne8_]
 have hB16:Below w.heap.size w W1:=by rw [hW1];exact bB
 clear hW1 hL1 uhf uhl uhp uhq hf hl hp hq;with_reducible refine (K9.out _).mono ?_
 rintro e w1 ⟨rfl,hb1⟩;have c17:=c10.up hb1;have c18:=c11.up hb1;have c19:=c12.up hb1;have c20:=c13.up hb1;have c21:=c14.up hb1;have c22:=c15.up hb1;have hB23:Below w.heap.size w w1:=bel_up hB16 hb1;clear c10 c11 c12 c13 c14 c15;have ne24_:(B+2)<w1.heap.size:=by have:=c17.lt;omega
 have ne24:=Nat.ne_of_lt ne24_;have ne24':=ne24.symm;have ne25_:(B+3)<w1.heap.size:=by have:=c18.lt;omega
 have ne25:=Nat.ne_of_lt ne25_;have ne25':=ne25.symm;have ne26_:B<w1.heap.size:=by have:=c19.lt;omega
 have ne26:=Nat.ne_of_lt ne26_;have ne26':=ne26.symm;have ne27_:(B+1)<w1.heap.size:=by have:=c20.lt;omega
 have ne27:=Nat.ne_of_lt ne27_;have ne27':=ne27.symm;have ne28_:w.heap.size<w1.heap.size:=by have:=c21.lt;omega
 have ne28:=Nat.ne_of_lt ne28_;have ne28':=ne28.symm;have ne29_:w.heap.size+1<w1.heap.size:=by have:=c22.lt;omega
 have ne29:=Nat.ne_of_lt ne29_;have ne29':=ne29.symm;have uc17:=c17;have uc18:=c18;have uc19:=c19;have uc20:=c20;have uc21:=c21;have uc22:=c22;simp only [At,Own,Nat.reduceAdd,and_true] at uc17 uc18 uc19 uc20 uc21 uc22;have K30:=Lib.hid (fun W=>HC.out▸qcmp_any d D W (HZD.out.mono (by omega)) (hD.mono (by omega)));go_wp2_with (fail)
 refine calls_named ?_;intro W2 hW2;have hL2:Below w1.heap.size w1 W2:=by rw [hW2];exact bB
 have c31:=c17.up hL2;have c32:=c18.up hL2;have c33:=c19.up hL2;have c34:=c20.up hL2;have c35:=c21.up hL2;have c36:=c22.up hL2
 have c37:Own W2 w1.heap.size 0 [.bool (ng d.num),.string (mg d.num.natAbs),.bool false,.string (mg (dn d))]:=by
  rw [hW2]
  first
  | (repeat (first|(with_reducible refine own_new (l:=[.bool (ng d.num),.string (mg d.num.natAbs),.bool false,.string (mg (dn d))]) ?_;(simp;done))|with_reducible refine Own.alloc ?_ _|refine Own.far _ _ (by first|(simp;done)|(simp [*];done)|(simp;omega)) ?_));done
  | simp [Own,go_sem,uc17,uc18,uc19,uc20,uc21,uc22,ne24,ne24',ne24_,ne25,ne25',ne25_,ne26,ne26',ne26_,ne27,ne27',ne27_,ne28,ne28',ne28_,ne29,ne29',ne29_]
 have hB38:Below w.heap.size w W2:=by rw [hW2];exact bB
 clear hW2 hL2 uc17 uc18 uc19 uc20 uc21 uc22 c17 c18 c19 c20 c21 c22;with_reducible refine (K30.out _).mono ?_
 rintro e w2 ⟨rfl,hb2⟩;have c39:=c31.up hb2;have c40:=c32.up hb2;have c41:=c33.up hb2;have c42:=c34.up hb2;have c43:=c35.up hb2;have c44:=c36.up hb2;have c45:=c37.up hb2;have hB46:Below w.heap.size w w2:=bel_up hB38 hb2;clear c31 c32 c33 c34 c35 c36 c37;have hE0:=Exc.of (B:=B) hB46;go_upto_region 3 with fail
 refine wp_named ?_;intro W3 hW3;have hL3:Below w2.heap.size w2 W3:=by rw [hW3];exact bB
 have c47:=c39.up hL3;have c48:=c40.up hL3;have c49:=c41.up hL3;have c50:=c42.up hL3;have c51:=c43.up hL3;have c52:=c44.up hL3;have c53:=c45.up hL3;have hB54:Below w.heap.size w W3:=by rw [hW3];exact bB
 clear hW3 hL3 c39 c40 c41 c42 c43 c44 c45;have hE1:Exc B w W3:=Exc.of hB54;have uc47:=c47;have uc48:=c48;have uc49:=c49;have uc50:=c50;have uc51:=c51;have uc52:=c52;have uc53:=c53;simp only [At,Own,Nat.reduceAdd,and_true] at uc47 uc48 uc49 uc50 uc51 uc52 uc53;have hbd_:Below W3.heap.size W3 W3.drew:=(Below.refl _ _).drew;have hf0_:=Lib.hid (((((c49.up hbd_).set (vs:=[.bool (ng x.1.num),.string (mg x.1.num.natAbs),.bool false,.string (mg (dn x.1)),.bool (ng x.2.num),.string (mg x.2.num.natAbs),.bool false,.string (mg (dn x.2))]) rfl).off (c:=B+1) (i:=0) (vs:=[.bool (ng y.1.num),.string (mg y.1.num.natAbs),.bool false,.string (mg (dn y.1)),.bool (ng y.2.num),.string (mg y.2.num.natAbs),.bool false,.string (mg (dn y.2))]) (by omega)).off (c:=B+3) (i:=0) (vs:=[.bool (ng d.num),.string (mg d.num.natAbs),.bool false,.string (mg (dn d))]) (by omega)).off (c:=B+2) (i:=0) (vs:=[.bool false]) (by omega));have hf1_:=Lib.hid (((((c50.up hbd_).off (c:=B) (i:=0) (vs:=[.bool (ng x.1.num),.string (mg x.1.num.natAbs),.bool false,.string (mg (dn x.1)),.bool (ng x.2.num),.string (mg x.2.num.natAbs),.bool false,.string (mg (dn x.2))]) (by omega)).set (vs:=[.bool (ng y.1.num),.string (mg y.1.num.natAbs),.bool false,.string (mg (dn y.1)),.bool (ng y.2.num),.string (mg y.2.num.natAbs),.bool false,.string (mg (dn y.2))]) rfl).off (c:=B+3) (i:=0) (vs:=[.bool (ng d.num),.string (mg d.num.natAbs),.bool false,.string (mg (dn d))]) (by omega)).off (c:=B+2) (i:=0) (vs:=[.bool false]) (by omega));have hf2_:=Lib.hid (((((c48.up hbd_).off (c:=B) (i:=0) (vs:=[.bool (ng x.1.num),.string (mg x.1.num.natAbs),.bool false,.string (mg (dn x.1)),.bool (ng x.2.num),.string (mg x.2.num.natAbs),.bool false,.string (mg (dn x.2))]) (by omega)).off (c:=B+1) (i:=0) (vs:=[.bool (ng y.1.num),.string (mg y.1.num.natAbs),.bool false,.string (mg (dn y.1)),.bool (ng y.2.num),.string (mg y.2.num.natAbs),.bool false,.string (mg (dn y.2))]) (by omega)).set (vs:=[.bool (ng d.num),.string (mg d.num.natAbs),.bool false,.string (mg (dn d))]) rfl).off (c:=B+2) (i:=0) (vs:=[.bool false]) (by omega));have hf3_:=Lib.hid (((((c47.up hbd_).off (c:=B) (i:=0) (vs:=[.bool (ng x.1.num),.string (mg x.1.num.natAbs),.bool false,.string (mg (dn x.1)),.bool (ng x.2.num),.string (mg x.2.num.natAbs),.bool false,.string (mg (dn x.2))]) (by omega)).off (c:=B+1) (i:=0) (vs:=[.bool (ng y.1.num),.string (mg y.1.num.natAbs),.bool false,.string (mg (dn y.1)),.bool (ng y.2.num),.string (mg y.2.num.natAbs),.bool false,.string (mg (dn y.2))]) (by omega)).off (c:=B+3) (i:=0) (vs:=[.bool (ng d.num),.string (mg d.num.natAbs),.bool false,.string (mg (dn d))]) (by omega)).set (vs:=[.bool false]) rfl);have hfe_:=Lib.hid (Exc.sets (c:=B+2) (by omega) (by omega) [.bool false] 0 _ (Exc.sets (c:=B+3) (by omega) (by omega) [.bool (ng d.num),.string (mg d.num.natAbs),.bool false,.string (mg (dn d))] 0 _ (Exc.sets (c:=B+1) (by omega) (by omega) [.bool (ng y.1.num),.string (mg y.1.num.natAbs),.bool false,.string (mg (dn y.1)),.bool (ng y.2.num),.string (mg y.2.num.natAbs),.bool false,.string (mg (dn y.2))] 0 _ (Exc.sets (c:=B) (by omega) (by omega) [.bool (ng x.1.num),.string (mg x.1.num.natAbs),.bool false,.string (mg (dn x.1)),.bool (ng x.2.num),.string (mg x.2.num.natAbs),.bool false,.string (mg (dn x.2))] 0 _ (Exc.trans hE1 (Exc.of hbd_))))));have hk0_:=c51.up hbd_;have hk1_:=c52.up hbd_;have hk2_:=c53.up hbd_;have hm0_:=c49.up hbd_;have hm1_:=c50.up hbd_;have hm2_:=c48.up hbd_;have hm3_:=c47.up hbd_;refine wp_region_l3s4 (d0:=19) (d1:=20) (d2:=21) (v0:=.agg #[.bool (ng x.1.num),.string (mg x.1.num.natAbs),.bool false,.string (mg (dn x.1)),.bool (ng x.2.num),.string (mg x.2.num.natAbs),.bool false,.string (mg (dn x.2))]) (v1:=.agg #[.bool (ng y.1.num),.string (mg y.1.num.natAbs),.bool false,.string (mg (dn y.1)),.bool (ng y.2.num),.string (mg y.2.num.natAbs),.bool false,.string (mg (dn y.2))]) (v2:=.agg #[.bool (ng d.num),.string (mg d.num.natAbs),.bool false,.string (mg (dn d))]) (cL:=[(B,[.bool (ng x.1.num),.string (mg x.1.num.natAbs),.bool false,.string (mg (dn x.1)),.bool (ng x.2.num),.string (mg x.2.num.natAbs),.bool false,.string (mg (dn x.2))]),(B+1,[.bool (ng y.1.num),.string (mg y.1.num.natAbs),.bool false,.string (mg (dn y.1)),.bool (ng y.2.num),.string (mg y.2.num.natAbs),.bool false,.string (mg (dn y.2))]),(B+3,[.bool (ng d.num),.string (mg d.num.natAbs),.bool false,.string (mg (dn d))]),(B+2,[.bool false])]) (by kernel_rfl) rfl (by kernel_rfl) rfl (by decide) (by decide) (by decide) ⟨_,_,w.heap.size,[.bool (ng x.1.num),.string (mg x.1.num.natAbs),.bool false,.string (mg (dn x.1)),.bool (ng x.2.num),.string (mg x.2.num.natAbs),.bool false,.string (mg (dn x.2))],_,rfl,rfl,rfl,rfl,(fun b0 b1 b2=>by cases b0<;>cases b1<;>cases b2<;>rfl),hk0_,Tryz.underlying35,rfl,(by kernel_rfl),(by intro z_ hz_;simp only [List.mem_cons,List.not_mem_nil,or_false] at hz_;rcases hz_ with rfl|rfl|rfl|rfl<;>(dsimp only;omega))⟩ ⟨_,_,w.heap.size+1,[.bool (ng y.1.num),.string (mg y.1.num.natAbs),.bool false,.string (mg (dn y.1)),.bool (ng y.2.num),.string (mg y.2.num.natAbs),.bool false,.string (mg (dn y.2))],_,rfl,rfl,rfl,rfl,(fun b0 b1 b2=>by cases b0<;>cases b1<;>cases b2<;>rfl),hk1_,Tryz.underlying35,rfl,(by kernel_rfl),(by intro z_ hz_;simp only [List.mem_cons,List.not_mem_nil,or_false] at hz_;rcases hz_ with rfl|rfl|rfl|rfl<;>(dsimp only;omega))⟩ ⟨_,_,w1.heap.size,[.bool (ng d.num),.string (mg d.num.natAbs),.bool false,.string (mg (dn d))],_,rfl,rfl,rfl,rfl,(fun b0 b1 b2=>by cases b0<;>cases b1<;>cases b2<;>rfl),hk2_,Tryz.underlying33,rfl,(by kernel_rfl),(by intro z_ hz_;simp only [List.mem_cons,List.not_mem_nil,or_false] at hz_;rcases hz_ with rfl|rfl|rfl|rfl<;>(dsimp only;omega))⟩ ⟨_,_,_,_,rfl,rfl,rfl,(fun b0 b1 b2 hn_=>by obtain rfl:=hn_.1 (by decide);cases b1<;>cases b2<;>exact ⟨rfl,rfl⟩),hm0_,rfl,(by kernel_rfl),(by simp [Value.oneCell'])⟩ ⟨_,_,_,_,rfl,rfl,rfl,(fun b0 b1 b2 hn_=>by obtain rfl:=hn_.1 (by decide);obtain rfl:=hn_.2.1 (by decide);cases b2<;>exact ⟨rfl,rfl⟩),hm1_,rfl,(by kernel_rfl),(by simp [Value.oneCell'])⟩ ⟨_,_,_,_,rfl,rfl,rfl,(fun b0 b1 b2 hn_=>by obtain rfl:=hn_.1 (by decide);obtain rfl:=hn_.2.1 (by decide);obtain rfl:=hn_.2.2 (by decide);exact ⟨rfl,rfl⟩),hm2_,rfl,(by kernel_rfl),(by simp [Value.oneCell'])⟩ ⟨_,_,_,_,rfl,rfl,rfl,(fun b0 b1 b2 hn_=>by obtain rfl:=hn_.1 (by decide);obtain rfl:=hn_.2.1 (by decide);obtain rfl:=hn_.2.2 (by decide);exact ⟨rfl,rfl⟩),hm3_,rfl,(by kernel_rfl),(by simp [Value.oneCell'])⟩ ⟨(by dsimp only;omega),(by dsimp only;omega),(by dsimp only;omega),(by dsimp only;omega),(by dsimp only;omega),(by dsimp only;omega)⟩ ?_;simp only [act7,pif,Act.put,List.setIfInBounds_toArray,List.set_cons_zero,List.set_cons_succ];go_wp2;go_end0;exact ⟨rfl,hf0_.out,hf1_.out,hf3_.out,hf2_.out,hfe_.out⟩

set_option maxHeartbeats 1000000 in
theorem look_not (x y:Rat×Rat) (D:Rat) (P Q:Rat×Rat) (B:Nat) (w:World) (hx:Pl.SzP 33 x) (hy:Pl.SzP 33 y) (hD:Pl.Sz 400 D) (hf:Own w (B+2) 0 [.bool false]) (hl:Own w (B+3) 0 [.bool (ng D.num),.string (mg D.num.natAbs),.bool false,.string (mg (dn D))]) (hp:Own w B 0 [.bool (ng P.1.num),.string (mg P.1.num.natAbs),.bool false,.string (mg (dn P.1)),.bool (ng P.2.num),.string (mg P.2.num.natAbs),.bool false,.string (mg (dn P.2))]) (hq:Own w (B+1) 0 [.bool (ng Q.1.num),.string (mg Q.1.num.natAbs),.bool false,.string (mg (dn Q.1)),.bool (ng Q.2.num),.string (mg Q.2.num.natAbs),.bool false,.string (mg (dn Q.2))]) (hc:¬ Pl.cmpQ (Pl.dist2 x y) D<0) :
 Calls Tryz.prog 126 #[pv x,pv y,.pointer (some ⟨B+2,0,none⟩),.pointer (some ⟨B+3,0,none⟩),.pointer (some ⟨B,0,none⟩),.pointer (some ⟨B+1,0,none⟩)] w fun e w'=>e=.returned (.tuple #[])∧Below w.heap.size w w':=by
 obtain ⟨d,hd⟩:∃ z,Pl.dist2 x y=z:=⟨_,rfl⟩
 have HZD:Hid (Pl.Sz 269 d):=Lib.hid (by rw [← hd];exact (hx.sub hy).dot (hx.sub hy));have HD:=Lib.hid hd;rw [hd] at hc;obtain ⟨t,ht⟩:∃ z,Pl.cmpQ d D=z:=⟨_,rfl⟩
 rw [ht] at hc;have HC:=Lib.hid ht;clear ht;clear hd;have g0:=hp.lt;have g1:=hq.lt;have g2:=hf.lt;have g3:=hl.lt;go_enter Tryz.func126,Tryz.ntmps126;have ne1_:(B+2)<w.heap.size:=by have:=hf.lt;omega
 have ne1:=Nat.ne_of_lt ne1_;have ne1':=ne1.symm;have ne2_:(B+3)<w.heap.size:=by have:=hl.lt;omega
 have ne2:=Nat.ne_of_lt ne2_;have ne2':=ne2.symm;have ne3_:B<w.heap.size:=by have:=hp.lt;omega
 have ne3:=Nat.ne_of_lt ne3_;have ne3':=ne3.symm;have ne4_:(B+1)<w.heap.size:=by have:=hq.lt;omega
 have ne4:=Nat.ne_of_lt ne4_;have ne4':=ne4.symm;have ne5_:(B+2)<w.heap.size+1:=by have:=hf.lt;omega
 have ne5:=Nat.ne_of_lt ne5_;have ne5':=ne5.symm;have ne6_:(B+3)<w.heap.size+1:=by have:=hl.lt;omega
 have ne6:=Nat.ne_of_lt ne6_;have ne6':=ne6.symm;have ne7_:B<w.heap.size+1:=by have:=hp.lt;omega
 have ne7:=Nat.ne_of_lt ne7_;have ne7':=ne7.symm;have ne8_:(B+1)<w.heap.size+1:=by have:=hq.lt;omega
 have ne8:=Nat.ne_of_lt ne8_;have ne8':=ne8.symm;have uhf:=hf;have uhl:=hl;have uhp:=hp;have uhq:=hq;simp only [At,Own,Nat.reduceAdd,and_true] at uhf uhl uhp uhq;have K9:=Lib.hid (fun W=>HD.out▸pdist_any x y W hx hy (by omega) (by omega));go_wp2_with (fail)
 refine calls_named ?_;intro W1 hW1;have hL1:Below w.heap.size w W1:=by rw [hW1];exact bB
 have c10:=hf.up hL1;have c11:=hl.up hL1;have c12:=hp.up hL1;have c13:=hq.up hL1
 have c14:Own W1 w.heap.size 0 [.bool (ng x.1.num),.string (mg x.1.num.natAbs),.bool false,.string (mg (dn x.1)),.bool (ng x.2.num),.string (mg x.2.num.natAbs),.bool false,.string (mg (dn x.2))]:=by
  rw [hW1]
  first
  | (repeat (first|(with_reducible refine own_new (l:=[.bool (ng x.1.num),.string (mg x.1.num.natAbs),.bool false,.string (mg (dn x.1)),.bool (ng x.2.num),.string (mg x.2.num.natAbs),.bool false,.string (mg (dn x.2))]) ?_;(simp;done))|with_reducible refine Own.alloc ?_ _|refine Own.far _ _ (by first|(simp;done)|(simp [*];done)|(simp;omega)) ?_));done
  | simp [Own,go_sem,uhf,uhl,uhp,uhq,ne1,ne1',ne1_,ne2,ne2',ne2_,ne3,ne3',ne3_,ne4,ne4',ne4_,ne5,ne5',ne5_,ne6,ne6',ne6_,ne7,ne7',ne7_,ne8,ne8',ne8_]
 have c15:Own W1 (w.heap.size+1) 0 [.bool (ng y.1.num),.string (mg y.1.num.natAbs),.bool false,.string (mg (dn y.1)),.bool (ng y.2.num),.string (mg y.2.num.natAbs),.bool false,.string (mg (dn y.2))]:=by
  rw [hW1]
  first
  | (repeat (first|(with_reducible refine own_new (l:=[.bool (ng y.1.num),.string (mg y.1.num.natAbs),.bool false,.string (mg (dn y.1)),.bool (ng y.2.num),.string (mg y.2.num.natAbs),.bool false,.string (mg (dn y.2))]) ?_;(simp;done))|with_reducible refine Own.alloc ?_ _|refine Own.far _ _ (by first|(simp;done)|(simp [*];done)|(simp;omega)) ?_));done
  | simp [Own,go_sem,uhf,uhl,uhp,uhq,ne1,ne1',ne1_,ne2,ne2',ne2_,ne3,ne3',ne3_,ne4,ne4',ne4_,ne5,ne5',ne5_,ne6,ne6',ne6_,ne7,ne7',ne7_,ne8,ne8',ne8_]
 have hB16:Below w.heap.size w W1:=by rw [hW1];exact bB
 clear hW1 hL1 uhf uhl uhp uhq hf hl hp hq;with_reducible refine (K9.out _).mono ?_
 rintro e w1 ⟨rfl,hb1⟩;have c17:=c10.up hb1;have c18:=c11.up hb1;have c19:=c12.up hb1;have c20:=c13.up hb1;have c21:=c14.up hb1;have c22:=c15.up hb1;have hB23:Below w.heap.size w w1:=bel_up hB16 hb1;clear c10 c11 c12 c13 c14 c15;have ne24_:(B+2)<w1.heap.size:=by have:=c17.lt;omega
 have ne24:=Nat.ne_of_lt ne24_;have ne24':=ne24.symm;have ne25_:(B+3)<w1.heap.size:=by have:=c18.lt;omega
 have ne25:=Nat.ne_of_lt ne25_;have ne25':=ne25.symm;have ne26_:B<w1.heap.size:=by have:=c19.lt;omega
 have ne26:=Nat.ne_of_lt ne26_;have ne26':=ne26.symm;have ne27_:(B+1)<w1.heap.size:=by have:=c20.lt;omega
 have ne27:=Nat.ne_of_lt ne27_;have ne27':=ne27.symm;have ne28_:w.heap.size<w1.heap.size:=by have:=c21.lt;omega
 have ne28:=Nat.ne_of_lt ne28_;have ne28':=ne28.symm;have ne29_:w.heap.size+1<w1.heap.size:=by have:=c22.lt;omega
 have ne29:=Nat.ne_of_lt ne29_;have ne29':=ne29.symm;have uc17:=c17;have uc18:=c18;have uc19:=c19;have uc20:=c20;have uc21:=c21;have uc22:=c22;simp only [At,Own,Nat.reduceAdd,and_true] at uc17 uc18 uc19 uc20 uc21 uc22;have K30:=Lib.hid (fun W=>HC.out▸qcmp_any d D W (HZD.out.mono (by omega)) (hD.mono (by omega)));go_wp2_with (fail)
 refine calls_named ?_;intro W2 hW2;have hL2:Below w1.heap.size w1 W2:=by rw [hW2];exact bB
 have c31:=c17.up hL2;have c32:=c18.up hL2;have c33:=c19.up hL2;have c34:=c20.up hL2;have c35:=c21.up hL2;have c36:=c22.up hL2
 have c37:Own W2 w1.heap.size 0 [.bool (ng d.num),.string (mg d.num.natAbs),.bool false,.string (mg (dn d))]:=by
  rw [hW2]
  first
  | (repeat (first|(with_reducible refine own_new (l:=[.bool (ng d.num),.string (mg d.num.natAbs),.bool false,.string (mg (dn d))]) ?_;(simp;done))|with_reducible refine Own.alloc ?_ _|refine Own.far _ _ (by first|(simp;done)|(simp [*];done)|(simp;omega)) ?_));done
  | simp [Own,go_sem,uc17,uc18,uc19,uc20,uc21,uc22,ne24,ne24',ne24_,ne25,ne25',ne25_,ne26,ne26',ne26_,ne27,ne27',ne27_,ne28,ne28',ne28_,ne29,ne29',ne29_]
 have hB38:Below w.heap.size w W2:=by rw [hW2];exact bB
 clear hW2 hL2 uc17 uc18 uc19 uc20 uc21 uc22 c17 c18 c19 c20 c21 c22;with_reducible refine (K30.out _).mono ?_
 rintro e w2 ⟨rfl,hb2⟩;have c39:=c31.up hb2;have c40:=c32.up hb2;have c41:=c33.up hb2;have c42:=c34.up hb2;have c43:=c35.up hb2;have c44:=c36.up hb2;have c45:=c37.up hb2;have hB46:Below w.heap.size w w2:=bel_up hB38 hb2;clear c31 c32 c33 c34 c35 c36 c37;have uc39:=c39;have uc40:=c40;have uc41:=c41;have uc42:=c42;have uc43:=c43;have uc44:=c44;have uc45:=c45;simp only [At,Own,Nat.reduceAdd,and_true] at uc39 uc40 uc41 uc42 uc43 uc44 uc45;go_wp2;go_end0;refine ⟨rfl,?_⟩;exact bB
theorem look_any (x y:Rat×Rat) (f:Bool) (D:Rat) (P Q:Rat×Rat) (B:Nat) (w:World) (hx:Pl.SzP 33 x) (hy:Pl.SzP 33 y) (hD:Pl.Sz 400 D) (hP:Pl.SzP 33 P) (hQ:Pl.SzP 33 Q)
 (hp:Own w B 0 [.bool (ng P.1.num),.string (mg P.1.num.natAbs),.bool false,.string (mg (dn P.1)),.bool (ng P.2.num),.string (mg P.2.num.natAbs),.bool false,.string (mg (dn P.2))]) (hq:Own w (B+1) 0 [.bool (ng Q.1.num),.string (mg Q.1.num.natAbs),.bool false,.string (mg (dn Q.1)),.bool (ng Q.2.num),.string (mg Q.2.num.natAbs),.bool false,.string (mg (dn Q.2))]) (hf:Own w (B+2) 0 [.bool f]) (hl:Own w (B+3) 0 [.bool (ng D.num),.string (mg D.num.natAbs),.bool false,.string (mg (dn D))]) :
 Calls Tryz.prog 126 #[pv x,pv y,.pointer (some ⟨B+2,0,none⟩),.pointer (some ⟨B+3,0,none⟩),.pointer (some ⟨B,0,none⟩),.pointer (some ⟨B+1,0,none⟩)] w fun e w'=>e=.returned (.tuple #[]) ∧
  ∃ (f':Bool) (D':Rat) (P' Q':Rat×Rat),Hid ((f',D',P',Q')=lkS (f,D,P,Q) (x,y))∧Hid (Pl.Sz 400 D'∧Pl.SzP 33 P'∧Pl.SzP 33 Q')∧Own w' B 0 [.bool (ng P'.1.num),.string (mg P'.1.num.natAbs),.bool false,.string (mg (dn P'.1)),.bool (ng P'.2.num),.string (mg P'.2.num.natAbs),.bool false,.string (mg (dn P'.2))]∧Own w' (B+1) 0 [.bool (ng Q'.1.num),.string (mg Q'.1.num.natAbs),.bool false,.string (mg (dn Q'.1)),.bool (ng Q'.2.num),.string (mg Q'.2.num.natAbs),.bool false,.string (mg (dn Q'.2))]∧Own w' (B+2) 0 [.bool f']∧Own w' (B+3) 0 [.bool (ng D'.num),.string (mg D'.num.natAbs),.bool false,.string (mg (dn D'))]∧Exc B w w':=by
 have hZ:Pl.Sz 400 (Pl.dist2 x y):=((hx.sub hy).dot (hx.sub hy)).mono (by omega);cases f
 ·by_cases hc:Pl.cmpQ (Pl.dist2 x y) D<0
  ·refine (look_less x y D P Q B w hx hy hD hf hl hp hq hc).mono ?_
   rintro e w' ⟨he,a1,a2,a3,a4,a5⟩;exact ⟨he,false,Pl.dist2 x y,x,y,Lib.hid (lk_less (s:=(false,D,P,Q)) (c:=(x,y)) hc).symm,Lib.hid ⟨hZ,hx,hy⟩,a1,a2,a3,a4,a5⟩
  ·refine (look_not x y D P Q B w hx hy hD hf hl hp hq hc).mono ?_
   rintro e w' ⟨he,hb⟩;exact ⟨he,false,D,P,Q,Lib.hid (lk_not (s:=(false,D,P,Q)) (c:=(x,y)) rfl hc).symm,Lib.hid ⟨hD,hP,hQ⟩,hp.up hb,hq.up hb,hf.up hb,hl.up hb,Exc.of hb⟩
 ·refine (look_first x y D P Q B w hx hy hD hf hl hp hq).mono ?_
  rintro e w' ⟨he,a1,a2,a3,a4,a5⟩;exact ⟨he,false,Pl.dist2 x y,x,y,Lib.hid (lk_first (s:=(true,D,P,Q)) (c:=(x,y)) rfl).symm,Lib.hid ⟨hZ,hx,hy⟩,a1,a2,a3,a4,a5⟩
end Go.Proofs.YtdkkjfnpinckjaaGreatDoor
