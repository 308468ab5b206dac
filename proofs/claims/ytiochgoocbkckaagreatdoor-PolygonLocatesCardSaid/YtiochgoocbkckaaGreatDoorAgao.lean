/-
 Laws for walks over lists: elements of slices, rows of the call's own that grow.
 Contracts of the reference for fractions: digits to the base 256.
 Contracts of the reference for fractions: an integer of digits; machine integers and digits.
 Contracts of the reference for fractions: comparing, adding and subtracting digits.
-/
import Derived.Test.YtiochgoocbkckaaGreatDoorAgam
import Derived.Test.YtiochgoocbkckaaGreatDoorAgan
import Derived.WalkSmall
set_option maxRecDepth 100000
set_option linter.unusedSimpArgs false
set_option linter.unusedVariables false
namespace Go.Proofs.YtiochgoocbkckaaGreatDoor
open Go Go.RowKit

def LX {α:Type} (C:World→Nat→Nat→α→Prop) (K:Nat) (w:World) (A:Option Addr) (l:List α):Prop :=
 ∀ (k:Nat) x,l[k]?=some x→∃ g o,A=some ⟨g,o,none⟩∧C w g (o+k*K) x
structure Kp {α:Type} (C:World→Nat→Nat→α→Prop):Prop where
 up:∀ {w w1:World} {g i:Nat} {x:α},C w g i x→Below w.heap.size w w1→C w1 g i x
theorem LX.up {α:Type} {C:World→Nat→Nat→α→Prop} {K:Nat} {w w1:World} {A:Option Addr} {l:List α} (h:LX C K w A l) (kp:Kp C) (hb:Below w.heap.size w w1):LX C K w1 A l:=fun k x hx=>by
 obtain ⟨g,o,ha,hc⟩:=h k x hx;exact ⟨g,o,ha,kp.up hc hb⟩
theorem LX.at_ {α:Type} {C:World→Nat→Nat→α→Prop} {K:Nat} {w:World} {g o k:Nat} {x:α} {l:List α} (h:LX C K w (some ⟨g,o,none⟩) l) (hx:l[k]?=some x):C w g (o+k*K) x:=by
 obtain ⟨g',o',ha,hc⟩:=h k x hx;cases ha;exact hc
theorem kpP:Kp CE:=⟨fun h hb=>h.up hb⟩
theorem flat_get {α:Type} (cs:α→List Value) (K:Nat) (hK:∀ x,(cs x).length=K):∀ (l:List α) (k j:Nat) (x:α),l[k]?=some x→j<K→(l.flatMap cs)[k*K+j]?=(cs x)[j]?
 | [],k,j,x,h,_=>by simp at h
 | a :: l,0,j,x,h,hj=>by
  simp only [List.getElem?_cons_zero,Option.some.injEq] at h;subst h;rw [List.flatMap_cons,Nat.zero_mul,Nat.zero_add,List.getElem?_append_left (by rw [hK];exact hj)]
 | a :: l,k+1,j,x,h,hj=>by
  simp only [List.getElem?_cons_succ] at h;rw [List.flatMap_cons,List.getElem?_append_right (by rw [hK,Nat.add_mul];omega)];have e:(k+1)*K+j-(cs a).length=k*K+j:=by rw [hK,Nat.add_mul];omega
  rw [e];exact flat_get cs K hK l k j x h hj
theorem flat_length {α:Type} (cs:α→List Value) (K:Nat) (hK:∀ x,(cs x).length=K) (l:List α):(l.flatMap cs).length=l.length*K:=by
 induction l with
 | nil=>simp
 | cons a l ih=>rw [List.flatMap_cons,List.length_append,ih,hK,List.length_cons,Nat.add_mul];omega
theorem sl_open {α:Type} (cs:α→List Value) (K:Nat) (hK:∀ x,(cs x).length=K) {C:World→Nat→Nat→α→Prop}
 (hC:∀ w g i x,(∀ j u,j<K→(cs x)[j]?=some u→w.cell? ⟨g,i+j,none⟩=some u)→C w g i x) {w:World} {v:Value} {l:List α} (h:Sl w v l.length K (l.flatMap cs)) :
 ∃ A c,v=.slice A l.length c∧l.length≤c∧c≤maxLen∧LX C K w A l:=by
 rcases h.2 with ⟨h1,h2⟩|⟨g,o,c,hv,hc,hm,hx⟩
 ·refine ⟨none,0,by rw [h1,h2],by omega,by simp [maxLen],fun k x hk => ?_⟩
  have:=(List.getElem?_eq_some_iff.1 hk).1;omega
 ·refine ⟨_,c,hv,hc,hm,fun k x hk=>⟨g,o,rfl,hC _ _ _ _ fun j u hj hu => ?_⟩⟩
  rw [Nat.add_assoc];exact hx (k*K+j) u ((flat_get cs K hK l k j x hk hj).trans hu)
theorem CE.mk {w:World} {g i:Nat} {p:Rat×Rat} (H:∀ j u,j<8→(pcells p)[j]?=some u→w.cell? ⟨g,i+j,none⟩=some u):CE w g i p :=
 ⟨H 0 _ (by omega) rfl,H 1 _ (by omega) rfl,H 2 _ (by omega) rfl,H 3 _ (by omega) rfl,H 4 _ (by omega) rfl,H 5 _ (by omega) rfl,H 6 _ (by omega) rfl,H 7 _ (by omega) rfl⟩
theorem pcells_len (p:Rat×Rat):(pcells p).length=8:=rfl
theorem PV.open_ {w:World} {v:Value} {l:List (Rat×Rat)} (h:PV w v l):∃ A c,v=.slice A l.length c∧l.length≤c∧c≤maxLen∧LX CE 8 w A l :=
 sl_open pcells 8 pcells_len (fun _ _ _ _ H=>CE.mk H) h
def scells (s:(Rat×Rat)×(Rat×Rat)):List Value:=pcells s.1++pcells s.2
theorem scells_len (s:(Rat×Rat)×(Rat×Rat)):(scells s).length=16:=rfl
def segs (l:List ((Rat×Rat)×(Rat×Rat))):List Value:=l.flatMap scells
def SV (w:World) (v:Value) (l:List ((Rat×Rat)×(Rat×Rat))):Prop:=Sl w v l.length 16 (segs l)
theorem SV.up {w w1:World} {v:Value} {l:List ((Rat×Rat)×(Rat×Rat))} (h:SV w v l) (hb:Below w.heap.size w w1):SV w1 v l:=Sl.up h hb
def CS (w:World) (g i:Nat) (s:(Rat×Rat)×(Rat×Rat)):Prop :=
 (w.cell? ⟨g,i,none⟩=some (.bool (ng s.1.1.num))∧w.cell? ⟨g,i+1,none⟩=some (.string (mg s.1.1.num.natAbs))∧w.cell? ⟨g,i+2,none⟩=some (.bool false)∧w.cell? ⟨g,i+3,none⟩=some (.string (mg (dn s.1.1))) ∧
 w.cell? ⟨g,i+4,none⟩=some (.bool (ng s.1.2.num))∧w.cell? ⟨g,i+5,none⟩=some (.string (mg s.1.2.num.natAbs))∧w.cell? ⟨g,i+6,none⟩=some (.bool false)∧w.cell? ⟨g,i+7,none⟩=some (.string (mg (dn s.1.2)))) ∧
 (w.cell? ⟨g,i+8,none⟩=some (.bool (ng s.2.1.num))∧w.cell? ⟨g,i+9,none⟩=some (.string (mg s.2.1.num.natAbs))∧w.cell? ⟨g,i+10,none⟩=some (.bool false)∧w.cell? ⟨g,i+11,none⟩=some (.string (mg (dn s.2.1))) ∧
 w.cell? ⟨g,i+12,none⟩=some (.bool (ng s.2.2.num))∧w.cell? ⟨g,i+13,none⟩=some (.string (mg s.2.2.num.natAbs))∧w.cell? ⟨g,i+14,none⟩=some (.bool false)∧w.cell? ⟨g,i+15,none⟩=some (.string (mg (dn s.2.2))))
theorem CS.two {w:World} {g i:Nat} {s:(Rat×Rat)×(Rat×Rat)} : CS w g i s↔CE w g i s.1∧CE w g (i+8) s.2:=by
 simp only [CS,CE,Nat.add_assoc,Nat.reduceAdd]
theorem CS.up {w w1:World} {g i:Nat} {s:(Rat×Rat)×(Rat×Rat)} (h:CS w g i s) (hb:Below w.heap.size w w1):CS w1 g i s:=by
 have:=CS.two.1 h;exact CS.two.2 ⟨this.1.up hb,this.2.up hb⟩
theorem CS.bel {W:World} {g i:Nat} {s:(Rat×Rat)×(Rat×Rat)} (h:CS W g i s) (b:Bel W):CS b.w1 g i s:=h.up b.h
theorem kpS:Kp CS:=⟨fun h hb=>h.up hb⟩
theorem SV.open_ {w:World} {v:Value} {l:List ((Rat×Rat)×(Rat×Rat))} (h:SV w v l):∃ A c,v=.slice A l.length c∧l.length≤c∧c≤maxLen∧LX CS 16 w A l :=
 sl_open scells 16 scells_len (fun _ _ _ _ H=>CS.two.2 ⟨CE.mk fun j u hj hu=>H j u (by omega) (by rw [scells,List.getElem?_append_left (by rw [pcells_len];exact hj)];exact hu),
  CE.mk fun j u hj hu=>by rw [Nat.add_assoc];exact H (8+j) u (by omega) (by rw [scells,List.getElem?_append_right (by rw [pcells_len];omega),pcells_len,Nat.add_sub_cancel_left];exact hu)⟩) h
theorem ti_sg:TI Tryz.prog 68 73 16 192:=⟨Tryz.underlying68,by kernel_rfl,by decide⟩
theorem ti_pt:TI Tryz.prog 23 45 8 96:=⟨Tryz.underlying23,by kernel_rfl,by decide⟩
theorem pcells_one (p:Rat×Rat):∀ u∈pcells p,u.oneCell'=true:=by
 intro u hu;simp only [pcells,List.mem_cons,List.not_mem_nil,or_false] at hu;rcases hu with rfl|rfl|rfl|rfl|rfl|rfl|rfl|rfl<;>rfl
theorem scells_one (s:(Rat×Rat)×(Rat×Rat)):∀ u∈scells s,u.oneCell'=true:=by
 intro u hu;rcases List.mem_append.1 hu with h|h
 ·exact pcells_one _ u h
 ·exact pcells_one _ u h
theorem pts_snoc (l:List (Rat×Rat)) (p:Rat×Rat):pts (l++[p])=pts l++pcells p:=by simp [pts]
theorem segs_snoc (l:List ((Rat×Rat)×(Rat×Rat))) (p:(Rat×Rat)×(Rat×Rat)):segs (l++[p])=segs l++scells p:=by simp [segs]
theorem pv_own {w:World} {base n:Nat} {v:Value} {l:List (Rat×Rat)} (h:w.ownsRow base 45 8 v n (pts l)):PV w v l:=by
 have e:n=l.length:=by have:=h.1;rw [pts_length] at this;omega
 subst e;exact Sl.of_own h
theorem sv_own {w:World} {base n:Nat} {v:Value} {l:List ((Rat×Rat)×(Rat×Rat))} (h:w.ownsRow base 73 16 v n (segs l)):SV w v l:=by
 have e:n=l.length:=by have:=h.1;rw [segs,flat_length scells 16 scells_len] at this;omega
 subst e;exact Sl.of_own h

theorem owns_block {w w':World} {base:Nat} {e:TypeId} {size n:Nat} {v:Value} {xs:List Value} (h:w.ownsRow base e size v n xs) (hb:∀ k,v.ownBlock=some k→k<w.heap.size→w'.heap[k]?=w.heap[k]?):w'.ownsRow base e size v n xs:=by
 refine ⟨h.1,?_⟩;rcases h.2 with hn|⟨g,cap,cur,rfl,hbg,hgg,rest⟩
 ·exact .inl hn
 ·exact .inr ⟨g,cap,cur,rfl,hbg,(hb g rfl (Array.getElem?_eq_some_iff.1 hgg).1).trans hgg,rest⟩
theorem owns_up {w w':World} {base:Nat} {e:TypeId} {size n:Nat} {v:Value} {xs:List Value} (h:w.ownsRow base e size v n xs) (hb:Below w.heap.size w w'):w'.ownsRow base e size v n xs:=owns_block h fun k _ hk=>hb.block k hk
theorem owns_far {w:World} {base:Nat} {e:TypeId} {size n:Nat} {v:Value} {xs:List Value} (h:w.ownsRow base e size v n xs) (p:Addr) (hp:v.ownBlock≠some p.block) (u:Value):(w.setCell p u).ownsRow base e size v n xs :=
 owns_block h fun k hk _=>Below.heap_setCell w p u k (by intro e;subst e;exact hp hk)
theorem owns_viewP {w:World} {base n g cap:Nat} {l:List (Rat×Rat)} (h:w.ownsRow base 45 8 (.slice (some ⟨g,0,none⟩) n cap) n (pts l)):LX CE 8 w (some ⟨g,0,none⟩) l:=by
 obtain ⟨A,c,hv,_,_,hx⟩:=(pv_own h).open_;have e:n=l.length:=by have:=h.1;rw [pts_length] at this;omega
 subst e;cases hv;exact hx
theorem owns_form {w:World} {base n k:Nat} {e:TypeId} {v:Value} {xs:List Value} (h:w.ownsRow base e k v n xs) (hn:0<n):∃ g cap,v=.slice (some ⟨g,0,none⟩) n cap∧n≤cap∧cap≤maxLen∧g<w.heap.size∧base≤g:=by
 rcases h.2 with ⟨_,h0⟩|⟨g,cap,cur,rfl,hbg,hg,hnc,hcm,_⟩
 ·omega
 ·exact ⟨g,cap,rfl,hnc,hcm,(Array.getElem?_eq_some_iff.1 hg).1,hbg⟩
theorem owns_open {w:World} {base n:Nat} {v:Value} {l:List (Rat×Rat)} (h:w.ownsRow base 45 8 v n (pts l)):n=l.length∧∃ A c,v=.slice A n c∧n≤c∧c≤maxLen∧LX CE 8 w A l:=by
 have e:n=l.length:=by have:=h.1;rw [pts_length] at this;omega
 subst e;exact ⟨rfl,(pv_own h).open_⟩
theorem PV.open1 {w:World} {v:Value} {a:Rat×Rat} (h:PV w v [a]):∃ A c,v=.slice A 1 c∧1≤c∧c≤maxLen∧LX CE 8 w A [a]:=h.open_
def setL (w:World) (b:Nat):Nat→List Value→World
 | _,[]=>w
 | i,v :: l=>setL (w.setCell ⟨b,i,none⟩ v) b (i+1) l
theorem setL_keep {b:Nat} : ∀ (l:List Value) (i j:Nat) (w:World) (v:Value),j<i→w.cell? ⟨b,j,none⟩=some v∧w.frozen? ⟨b,j,none⟩=false→(setL w b i l).cell? ⟨b,j,none⟩=some v∧(setL w b i l).frozen? ⟨b,j,none⟩=false
 | [],_,_,_,_,_,h=>h
 | u :: l,i,j,w,v,hj,h=>setL_keep l (i+1) j _ v (by omega) ⟨(World.cell?_setCell_other w _ _ _ (fun e=>by injection e with _ e2;omega)).trans h.1,by rw [show (w.setCell ⟨b,i,none⟩ u).frozen? ⟨b,j,none⟩=w.frozen? ⟨b,j,none⟩ from by simp [go_sem]];exact h.2⟩
theorem Own.keepR {w:World} {b:Nat} {i:Nat} {u:Value} : ∀ {l:List Value} {j:Nat},i<j→Own w b j l→Own (w.setCell ⟨b,i,none⟩ u) b j l
 | [],_,_,_=>trivial
 | _ :: _,j,hj,h=>⟨⟨(World.cell?_setCell_other w _ _ _ (fun e=>by injection e with _ e2;omega)).trans h.1.1,by rw [show (w.setCell ⟨b,i,none⟩ u).frozen? ⟨b,j,none⟩=w.frozen? ⟨b,j,none⟩ from by simp [go_sem]];exact h.1.2⟩,Own.keepR (by omega) h.2⟩
theorem own_setLi {b:Nat} : ∀ {olds vs:List Value} {i:Nat} {w:World},Own w b i olds→olds.length=vs.length→Own (setL w b i vs) b i vs
 | [],[],_,_,_,_=>trivial
 | [],_ :: _,_,_,_,h=>by cases h
 | _ :: _,[],_,_,_,h=>by cases h
 | o :: olds,v :: vs,i,w,h,hl=>by
  refine ⟨setL_keep vs (i+1) i _ v (by omega) ⟨?_,?_⟩,own_setLi (Own.keepR (by omega) h.2) (by simpa using hl)⟩
  ·have:=h.1.1
   simp [go_sem,this]
  ·rw [show (w.setCell ⟨b,i,none⟩ v).frozen? ⟨b,i,none⟩=w.frozen? ⟨b,i,none⟩ from by simp [go_sem]];exact h.1.2
theorem own_setL {b:Nat} {olds vs:List Value} {w:World} (h:Own w b 0 olds) (hl:olds.length=vs.length):Own (setL w b 0 vs) b 0 vs:=own_setLi h hl
theorem own_newi {w:World} {b:Nat} {T:TypeId} : ∀ {l:List Value} {i:Nat} {cs:List Value},b=w.heap.size→cs.drop i=l→Own (w.alloc (.cells cs.toArray T)) b i l
 | [],_,_,_,_=>trivial
 | v :: l,i,cs,hb,h=>by
  have h1:cs[i]?=some v:=by rw [← List.head?_drop,h];rfl
  refine ⟨⟨?_,?_⟩,own_newi hb ?_⟩
  ·subst hb;rw [World.cell?_alloc_at _ _ _ _ rfl];simpa using h1
  ·subst hb;simp [go_sem]
  ·rw [← List.tail_drop,h];rfl
theorem own_new {w:World} {b:Nat} {T:TypeId} {l:List Value} (hb:b=w.heap.size):Own (w.alloc (.cells l.toArray T)) b 0 l:=own_newi hb rfl
theorem At.get {w:World} {b:Nat} : ∀ {l:List Value} {i j:Nat} {u:Value},At w b i l→l[j]?=some u→w.cell? ⟨b,i+j,none⟩=some u
 | [],_,j,_,_,h=>by simp at h
 | _ :: _,i,0,u,h,hj=>by simp only [List.getElem?_cons_zero,Option.some.injEq] at hj;subst hj;exact h.1
 | _ :: l,i,j+1,u,h,hj=>by
  have:=At.get h.2 (by simpa using hj)
  rwa [show i+(j+1)=i+1+j from by omega]
theorem Own.at_ {w:World} {b:Nat} : ∀ {l:List Value} {i:Nat},Own w b i l→At w b i l
 | [],_,_=>trivial
 | _ :: _,_,h=>⟨h.1.1,Own.at_ h.2⟩
theorem pv_lit {w:World} {b n:Nat} {cs:List Value} {l:List (Rat×Rat)} (h:Own w b 0 cs) (hc:cs=pts l) (hn:l.length=n∧n≤1000):PV w (.slice (some ⟨b,0,none⟩) n n) l:=by
 obtain ⟨rfl,hm⟩:=hn;subst hc;exact ⟨pts_length l,.inr ⟨b,0,_,rfl,Nat.le_refl _,by simp [maxLen];omega,fun j u hj=>by simpa using At.get h.at_ hj⟩⟩
theorem on2_any {j k:Nat} (p a b:Rat×Rat) (w:World) (hs:Pl.SzS j (a,b)) (hp:Pl.SzP k p) (hj:j≤100000) (hk:k≤100000) :
 Calls Tryz.prog 75 #[pv p,.agg #[.bool (ng a.1.num),.string (mg a.1.num.natAbs),.bool false,.string (mg (dn a.1)),.bool (ng a.2.num),.string (mg a.2.num.natAbs),.bool false,.string (mg (dn a.2)),.bool (ng b.1.num),.string (mg b.1.num.natAbs),.bool false,.string (mg (dn b.1)),.bool (ng b.2.num),.string (mg b.2.num.natAbs),.bool false,.string (mg (dn b.2))]] w fun e w'=>e=.returned (.bool (Pl.onSeg p a b))∧Below w.heap.size w w':=on_any p (a,b) w hs hp hj hk
theorem sgn3 {a b p:Rat×Rat} {t:Int} (h:Pl.turn a b p=t):t=-1∨t=0∨t=1:=h▸Pl.turn3 a b p
theorem sgn_three (q:Rat):Pl.sgn q=-1∨Pl.sgn q=0∨Pl.sgn q=1:=by
 unfold Pl.sgn;rcases Int.lt_trichotomy q.num 0 with h|h|h
 ·exact .inl (Int.sign_eq_neg_one_of_neg h)
 ·exact .inr (.inl (by rw [h];rfl))
 ·exact .inr (.inr (Int.sign_eq_one_of_pos h))
theorem sgnQ {a b:Rat} {t:Int} (h:Pl.cmpQ a b=t):t=-1∨t=0∨t=1:=h▸sgn_three _
theorem remS (k N m:Nat) (h:m=(k+1)%N) (hN:N≤1000000000) (hk:k≤1000000000):((k:Int)+1).tmod N=m∧((k:Int)+1)%N=m∧IntKind.i64.wrap ((k:Int)+1)=k+1∧wrap64 ((k:Int)+1)=k+1∧IntKind.i64.wrap (m:Int)=m∧wrap64 (m:Int)=m:=by
 have h1:((k:Int)+1).tmod N=m:=by rw [h];rfl
 have h2:((k:Int)+1)%N=m:=by rw [h];rfl
 have hm:m≤1000000001:=by rw [h];exact Nat.le_trans (Nat.mod_le _ _) (by omega)
 refine ⟨h1,h2,?_,?_,?_,?_⟩
 ·simp [IntKind.wrap,IntKind.bits,IntKind.signed];omega
 ·unfold wrap64;omega
 ·simp [IntKind.wrap,IntKind.bits,IntKind.signed];omega
 ·unfold wrap64;omega
end Go.Proofs.YtiochgoocbkckaaGreatDoor

namespace Go.Proofs.YtiochgoocbkckaaGreatDoor
open Go Go.RowKit

theorem rtrim_some (g o n c:Nat) (l:List Nat) (w:World) (hl:l.length=n) (hc:n≤c) (hbig:n≤1073741824) (hx:∀ j u,(ints l)[j]?=some u→w.cell? ⟨g,o+j,none⟩=some u) :
 Calls Tryz.prog 137 #[.slice (some ⟨g,o,none⟩) n c] w fun e w'=>e=.returned (.slice (some ⟨g,o,none⟩) (Pl.tlen l) c)∧w=w':=by
 have HX:=Lib.hid hx;clear hx;go_enter Tryz.func137,Tryz.ntmps137;go_wp2_with fail;go_loop [3] (fun s=>∃ k:Nat,k≤n∧s=.int .i64 k∧Pl.tlen (l.take k)=Pl.tlen l) (fun s=>(intOf s).toNat)
 case atStart=>exact ⟨n,Nat.le_refl _,rfl,by rw [List.take_of_length_le (by omega)]⟩
 case round =>
  obtain ⟨k,hk,rfl,hrel⟩:=hrel;have HR:=Lib.hid hrel;clear hrel
  by_cases h0:k=0
  ·subst h0
   have HT:Hid (Pl.tlen l=0):=Lib.hid (by rw [← HR.out];rfl);go_wp2;go_ret;exact ⟨by rw [HT.out];rfl,rfl⟩
  ·have hcell:=HX.out (k-1) (.int .i64 (l[k-1]'(by omega))) (by rw [ints_get,List.getElem?_eq_getElem (by omega)];rfl)
   have i1:(0:Int)<k:=by omega
   have i2:(1:Int)≤k:=by omega
   have i3:(k:Int)-1<n:=by omega
   have i4:((k:Int)-1).toNat=k-1:=by omega
   by_cases hz:l[k-1]'(by omega)=0
   ·rw [hz] at hcell
    have HT:=Lib.hid (Pl.tlen_take_zero l k (by omega) (by omega) hz);clear hz;go_wp2;go_round
    case rel=>exact ⟨k-1,by omega,congrArg (Value.int .i64) (by omega),by rw [← HT.out,HR.out]⟩
    case measure=>simp [intOf];omega
   ·have hz':((l[k-1]'(by omega):Nat):Int)≠0:=Int.natCast_ne_zero.2 hz
    have HT:=Lib.hid (Pl.tlen_take_last l k (by omega) (by omega) hz);have HK:Hid (Pl.tlen l=k):=Lib.hid (by rw [← HR.out,HT.out]);clear HT;generalize l[k-1]'(by omega)=d at hcell hz';clear hz;go_wp2;go_ret;exact ⟨by rw [HK.out];rfl,rfl⟩

theorem rtrim_nil (w:World):Calls Tryz.prog 137 #[.slice none 0 0] w fun e w'=>e=.returned (.slice none 0 0)∧w=w':=by
 go_enter Tryz.func137,Tryz.ntmps137;go_wp2;go_rounds 1;go_ret;exact ⟨rfl,rfl⟩
theorem ints_take (l:List Nat) (k:Nat):(ints l).take k=ints (l.take k):=by simp [ints,List.map_take]
theorem rtrim_any (v:Value) (n:Nat) (l:List Nat) (w:World) (h:Sl w v n 1 (ints l)) (hd:∀ d∈l,d<256) (hbig:n≤1073741824) :
 Calls Tryz.prog 137 #[v] w fun e w'=>(∃ v',e=.returned v'∧DV w v' (Pl.vB 256 l)∧∀ B,Fresh B v→Fresh B v')∧w=w':=by
 have hl:l.length=n:=by have:=h.1;rw [ints_length] at this;omega
 obtain ⟨t1,t2⟩:=trim_dL n hl hd;rcases h.2 with ⟨rfl,h0⟩|⟨g,o,c,rfl,hc,hm,hx⟩
 ·subst h0
  have:l=[]:=List.eq_nil_of_length_eq_zero hl;subst this;exact (rtrim_nil w).mono fun e w' ⟨he,hw⟩=>⟨⟨_,he,by exact Sl.nil w 1,fun _ h=>h⟩,hw⟩
 ·refine (rtrim_some g o n c l w hl hc hbig hx).mono fun e w' ⟨he,hw⟩=>⟨⟨_,he,?_,fun B hF a m c' hv => ?_⟩,hw⟩
  ·have:=h.take (Pl.tlen l) (by have:=Pl.tlen_le l;omega)
   rw [Nat.mul_one,ints_take,t1,t2] at this;rw [DV,t2];exact this
  ·injection hv with e1 e2 e3
   injection e1 with e1
   rw [← e1];exact hF _ _ _ rfl

theorem ti_int:TI Tryz.prog 82 3 1 8:=⟨Tryz.underlying82,by kernel_rfl,by decide⟩
theorem dg_snoc (n k:Nat):Pl.dg 256 (k+1) n=Pl.dg 256 k n++[n/256 ^ k%256]:=Pl.dg_succ 256 k n
theorem ints_snoc (l:List Nat) (d:Nat):ints (l++[d])=ints l++[.int .i64 (d:Int)]:=by simp [ints]
theorem one_int (d:Int):∀ u∈[Value.int .i64 d],u.oneCell'=true:=by intro u hu;rw [List.mem_singleton.1 hu];rfl
theorem rdigits_any (s:Bool) (n:Nat) (w:World) (hn:Pl.L n≤67108864) :
 Calls Tryz.prog 108 #[.agg #[.bool s,.string (mg n)]] w fun e w'=>∃ v,e=.returned v∧DV w' v n∧Below w.heap.size w w':=by
 have hs:=mg_size n;have H0:Hid (Own (w.alloc (.cells #[.bool s,.string (mg n)] 41)) w.heap.size 0 [.bool s,.string (mg n)]):=Lib.hid (by simp [Own,go_sem]);go_enter Tryz.func108,Tryz.ntmps108;go_wp2_with fail;go_loopw [3,4] (fun v i wr=>∃ k:Nat,k≤Pl.L n∧i=.int .i64 ((Pl.L n:Int)-1-k)∧wr.ownsRow (w.heap.size+1) 3 1 v k (ints (Pl.dg 256 k n))∧Below (w.heap.size+1) (w.alloc (.cells #[.bool s,.string (mg n)] 41)) wr) (fun _ i _=>(intOf i+1).toNat)
 case atStart=>exact ⟨0,Nat.zero_le _,congrArg (Value.int .i64) (by omega),World.ownsRow_nil _ _ _ _,Below.refl _ _⟩
 case round =>
  obtain ⟨k,hk,rfl,hown,hb⟩:=hrel;have hbox:=H0.out.below (by omega) hb;have hb2:Below w.heap.size w wr:=bel_up ((Below.refl _ _).alloc (Nat.le_refl _) _) (hb.mono (by simp));have hsz:w.heap.size+1≤wr.heap.size:=by have:=hb.size;simpa using this
  have hbx:=hbox;simp only [Own,Nat.reduceAdd,and_true] at hbx
  by_cases hlt:k<Pl.L n
  ·have i1:(0:Int)≤(Pl.L n:Int)-1-k:=by omega
   have i2:(Pl.L n:Int)-1-k<Pl.L n:=by omega
   have i3:((Pl.L n:Int)-1-k).toNat=Pl.L n-1-k:=by omega
   have hlen:Pl.L n-1-k<(mg n).size:=by omega
   have hbt:((mg n)[Pl.L n-1-k]'hlen).toNat=n/256 ^ k%256:=mg_get n k hlt hlen;have hd:n/256 ^ k%256<256:=Nat.mod_lt _ (by omega);have HSN:=Lib.hid (dg_snoc n k);have HO:=Lib.hid hown;generalize n/256 ^ k%256=d at *;clear hown;go_wp2_with (at_builtin;refine wpList_app1 rfl _ _ _ rfl ti_int HO.out hb hsz rfl rfl rfl rfl (one_int _) (by omega) (by decide) ?_)
   intro v' w1 hown' hb';rw [← ints_snoc,← HSN.out] at hown';have hbx':=H0.out.below (by omega) hb';simp only [Own,Nat.reduceAdd,and_true] at hbx';clear hbx;have HO':=Lib.hid hown';clear hown' HO;go_wp2;go_roundw
   case rel=>exact ⟨k+1,by omega,congrArg (Value.int .i64) (by omega),HO'.out,hb'⟩
   case measure=>simp [intOf];omega
  ·have hk':k=Pl.L n:=by omega
   subst hk';have hR:=rtrim_any _ (Pl.L n) (Pl.dg 256 (Pl.L n) n) wr (Sl.of_own hown) (Pl.dg_lt (by omega)) (by omega);rw [Pl.vB_dg,Nat.mod_eq_of_lt (Pl.lt_L n)] at hR;have HR:=Lib.hid hR;clear hR hown;go_wp2_with fail;refine HR.out.mono ?_;rintro e w1 ⟨⟨v',rfl,hv,_⟩,rfl⟩;go_wp2;go_ret;exact ⟨_,rfl,hv,hb2⟩
end Go.Proofs.YtiochgoocbkckaaGreatDoor

namespace Go.Proofs.YtiochgoocbkckaaGreatDoor
open Go Go.RowKit

theorem dL_lt (n:Nat):∀ d∈dL n,d<256:=Pl.dg_lt (by omega)
theorem vB_dL (n:Nat):Pl.vB 256 (dL n)=n:=by rw [dL,Pl.vB_dg,Nat.mod_eq_of_lt (Pl.lt_L n)]
theorem dL_get (n i:Nat) (h:i<Pl.L n):(ints (dL n))[i]?=some (.int .i64 ((n/256 ^ i%256:Nat):Int)):=by
 rw [ints_get,List.getElem?_eq_getElem (by rw [dL_length];exact h)];simp only [dL,Pl.dg_get,Option.map_some]
theorem rtrim_dv (v:Value) (n:Nat) (w:World) (h:DV w v n) (hn:Pl.L n≤67108864) :
 Calls Tryz.prog 137 #[v] w fun e w'=>(∃ v',e=.returned v'∧DV w v' n)∧w=w':=by
 have:=rtrim_any v (Pl.L n) (dL n) w h (dL_lt n) (by omega);rw [vB_dL] at this;exact this.mono fun e w' ⟨⟨v',h1,h2,_⟩,h3⟩=>⟨⟨v',h1,h2⟩,h3⟩
theorem dv_some {w:World} {v:Value} {n:Nat} (h:DV w v n) (h0:n≠0):∃ g o c,v=.slice (some ⟨g,o,none⟩) (Pl.L n) c∧Pl.L n≤c∧c≤maxLen∧g<w.heap.size∧∀ i,i<Pl.L n→w.cell? ⟨g,o+i,none⟩=some (.int .i64 ((n/256 ^ i%256:Nat):Int)):=by
 have hL:=Pl.L_pos h0;rcases h.2 with ⟨_,h2⟩|⟨g,o,c,hv,hc,hm,hx⟩
 ·omega
 ·refine ⟨g,o,c,hv,hc,hm,?_,fun i hi=>hx i _ (dL_get n i hi)⟩
  exact World.block_lt_of_cell? _ _ (hx 0 _ (dL_get n 0 hL))
theorem dv_zero {w:World} {v:Value} (h:DV w v 0):v=.slice none 0 0∨∃ g o c,v=.slice (some ⟨g,o,none⟩) 0 c∧c≤maxLen:=by
 rcases h.2 with ⟨h1,_⟩|⟨g,o,c,hv,hc,hm,hx⟩
 ·exact .inl h1
 ·exact .inr ⟨g,o,c,hv,hm⟩
theorem mg_of_bytes (n:Nat):strOfNums ((Pl.bytesOf (Pl.L n) n).map fun (d:Nat)=>(d:Int))=mg n:=by
 rw [← mg_of_nums];unfold Pl.bytesOf;rw [List.map_map];rfl

theorem rwhole_zero (v:Value) (s:Bool) (w:World) (h:DV w v 0) :
 Calls Tryz.prog 139 #[v,.bool s] w fun e w'=>e=.returned (nv 0)∧Below w.heap.size w w':=by
 have hT:=Lib.hid (fun W hW=>rtrim_dv v 0 W hW (by decide));have hmk:=make_bytes 0 0 rfl (by omega);have hcv:=fun W g=>run_convert_bytes_arg (P:=Tryz.prog) W 173 5 Tryz.underlying173 Tryz.underlying5 g 0 0 0 [] rfl (fun i hi=>by omega) 9 Tryz.underlying9
 have HZ:Hid (strOfNums []=mg 0):=Lib.hid rfl;have hd:=h.up ((Below.refl _ w).alloc (Nat.le_refl _) (.cells #[.bool false,.string ⟨#[]⟩] 41));have HD:=Lib.hid hd;clear hd h;rw [HZ.out] at hcv;obtain ⟨z,hz⟩:∃ z,mg 0=z:=⟨_,rfl⟩
 rw [hz] at hcv;have HZ2:=Lib.hid hz;clear HZ hz;go_enter Tryz.func139,Tryz.ntmps139;go_wp2_with fail;refine (hT.out _ HD.out).mono ?_;rintro e w1 ⟨⟨v',rfl,hv⟩,rfl⟩;rcases dv_zero hv with rfl|⟨g,o,c,rfl,hm⟩
 all_goals
  cases s
  all_goals
   clear hv;go_wp2;go_rounds 1;refine bodyPost_ret (v:=.agg #[.bool false,.string z]) (by simp [results,Tryz.results139,go_sem]) rfl ⟨by rw [nv,HZ2.out],?_⟩;exact bB

theorem blk_new {w:World} {g:Nat} {t:TypeId} {cs:List Value} (h:g=w.heap.size):Blk (w.alloc (.cells cs.toArray t)) g t cs:=h▸Blk.new w t cs
set_option maxHeartbeats 1000000 in
theorem rwhole_pos (v:Value) (s:Bool) (n:Nat) (w:World) (h:DV w v n) (h0:n≠0) (hn:Pl.L n≤67108864) :
 Calls Tryz.prog 139 #[v,.bool s] w fun e w'=>e=.returned (.agg #[.bool s,.string (mg n)])∧Below w.heap.size w w':=by
 have hT:=Lib.hid (fun W hW=>rtrim_dv v n W hW hn);have hmk:=make_bytes (Pl.L n) (Pl.L n) rfl (by omega);have hL:=Pl.L_pos h0;have hd:=h.up ((Below.refl _ w).alloc (Nat.le_refl _) (.cells #[.bool false,.string ⟨#[]⟩] 41));have HD:=Lib.hid hd;have HSTR:=Lib.hid (mg_of_bytes n);have H0:Hid (Own (w.alloc (.cells #[.bool false,.string ⟨#[]⟩] 41)) w.heap.size 0 [.bool false,.string ⟨#[]⟩]):=Lib.hid (by simp [Own,go_sem]);clear hd h h0;go_enter Tryz.func139,Tryz.ntmps139;go_wp2_with fail;refine (hT.out _ HD.out).mono ?_;rintro e w1 ⟨⟨v',rfl,hv⟩,rfl⟩;obtain ⟨g,o,c,rfl,hc,hm,hgl,hx⟩:=dv_some hv (fun e=>by subst e;simp [Pl.L_zero] at hL);have HX:=Lib.hid hx;clear hx hv;have hgl:g<w.heap.size+1:=by simpa using hgl
 generalize hN:Pl.L n=N at *;have HN:=Lib.hid hN;clear hN;go_wp2_with fail;clear hmk;go_loopw [6] (fun i wr=>∃ k:Nat,k≤N∧i=.int .i64 k∧Blk wr (w.heap.size+1) 5 (u8s (Pl.bytesUp N n k))∧Below (w.heap.size+1) (w.alloc (.cells #[.bool false,.string ⟨#[]⟩] 41)) wr) (fun i _=>N-(intOf i).toNat)
 case atStart=>exact ⟨0,Nat.zero_le _,rfl,by rw [Pl.bytesUp_zero];exact blk_new (by simp),(Below.refl _ _).alloc (by simp) _⟩
 case round =>
  obtain ⟨k,hk,rfl,hb,hbl⟩:=hrel
  by_cases hlt:k<N
  ·have hx:=(hbl.cell (p:=⟨g,o+k,none⟩) (by exact hgl)).trans (HX.out k hlt)
   have hD:n/256 ^ k%256<256:=Nat.mod_lt _ (by omega);have hcl:=hb.cellAt (i:=N-1-k) (by rw [u8s_length,Pl.bytesUp_length];omega);have hf:=hb.free (N-1-k);generalize (u8s (Pl.bytesUp N n k))[N-1-k]'(by rw [u8s_length,Pl.bytesUp_length];omega)=old at hcl;have HU:=Lib.hid (Pl.bytesUp_succ N n k hlt);generalize n/256 ^ k%256=d at *;have hne:w.heap.size+1≠g:=by omega
   go_wp2;go_roundw
   case rel=>exact ⟨k+1,by omega,by go_num,by rw [← HU.out,← u8s_set];exact hb.put _ _,hbl.setCell (Nat.le_refl _) _⟩
   case measure=>simp [intOf];omega
  ·have hkm:k=N:=by omega
   have hcv:=run_convert_bytes_arg (P:=Tryz.prog) wr 173 5 Tryz.underlying173 Tryz.underlying5 (w.heap.size+1) 0 N N ((Pl.bytesOf N n).map fun (d:Nat)=>(d:Int)) (by simp [Pl.bytesOf_length]) (fun i hi=>by
    rw [hb.cell,Nat.zero_add,hkm,Pl.bytesUp_full,u8s_get,List.getD_eq_getElem?_getD,List.getElem?_map,List.getElem?_eq_getElem (by rw [Pl.bytesOf_length];exact hi)]
    rfl) 9 Tryz.underlying9
   have hbx:=H0.out.below (by omega) hbl;simp only [Own,Nat.reduceAdd,and_true] at hbx;rw [HSTR.out] at hcv;have i1:(0:Int)<N:=by omega
   have hB:Below w.heap.size w wr:=bel_up ((Below.refl _ _).alloc (Nat.le_refl _) _) (hbl.mono (by simp));clear HSTR hkm hb;cases s
   all_goals
    go_wp2;refine bodyPost_ret (v:=.agg #[.bool _,.string (mg n)]) (by simp [results,Tryz.results139,go_sem,hbx]) rfl ⟨rfl,?_⟩;repeat (first|with_reducible exact hB|refine Below.setCell ?_ (by first|(simp;done)|(simp;omega)|omega) _)
theorem rwhole_any (v:Value) (s:Bool) (n:Nat) (w:World) (h:DV w v n) (hn:Pl.L n≤67108864) :
 Calls Tryz.prog 139 #[v,.bool s] w fun e w'=>e=.returned (.agg #[.bool (s&&decide (n≠0)),.string (mg n)])∧Below w.heap.size w w':=by
 by_cases h0:n=0
 ·subst h0
  have:=rwhole_zero v s w h;rw [show (s&&decide ((0:Nat)≠0))=false by simp];exact this
 ·rw [decide_eq_true h0,Bool.and_true]
  exact rwhole_pos v s n w h h0 hn
end Go.Proofs.YtiochgoocbkckaaGreatDoor

namespace Go.Proofs.YtiochgoocbkckaaGreatDoor
open Go Go.RowKit

theorem dv_form {w:World} {v:Value} {n:Nat} (h:DV w v n):∃ A c,v=.slice A (Pl.L n) c:=by
 rcases h.2 with ⟨h1,h2⟩|⟨g,o,c,hv,_⟩
 ·exact ⟨none,0,by rw [h1,h2]⟩
 ·exact ⟨_,c,hv⟩
theorem len_lt {a b:Nat} (h:Pl.L a<Pl.L b):a<b:=by
 rcases Nat.lt_or_ge a b with h1|h1
 ·exact h1
 ·have:=Pl.L_mono h1;omega
theorem cmpZ_lt {a b:Int} (h:a<b):cmpZ a b=-1:=by unfold cmpZ;rw [if_pos h]
theorem cmpZ_gt {a b:Int} (h:b<a):cmpZ a b=1:=by unfold cmpZ;rw [if_neg (by omega),if_pos h]
theorem cmpZ_eq {a b:Int} (h:a=b):cmpZ a b=0:=by unfold cmpZ;rw [if_neg (by omega),if_neg (by omega)]
theorem high_digit (n k:Nat) (h:0<k):n/256 ^ (k-1)=256*(n/256 ^ k)+n/256 ^ (k-1)%256:=by
 obtain ⟨j,rfl⟩:∃ j,k=j+1:=⟨k-1,by omega⟩
 rw [Nat.add_sub_cancel,Nat.pow_succ,← Nat.div_div_eq_div_mul];exact (Nat.div_add_mod _ _).symm
theorem lt_of_high {a b k:Nat} (h:a/256 ^ k<b/256 ^ k):a<b:=by
 rcases Nat.lt_or_ge a b with h1|h1
 ·exact h1
 ·have:=Nat.div_le_div_right (c:=256 ^ k) h1;omega

theorem rcmp_len (va vb:Value) (a b:Nat) (w:World) (ha:DV w va a) (hb:DV w vb b) (h:Pl.L a≠Pl.L b) :
 Calls Tryz.prog 88 #[va,vb] w fun e w'=>e=.returned (.int .i64 (cmpZ a b))∧w=w':=by
 obtain ⟨A,c,rfl⟩:=dv_form ha;obtain ⟨B,d,rfl⟩:=dv_form hb;have hne:((Pl.L a:Int) != (Pl.L b:Int))=true:=by simpa using (fun e=>h (Int.ofNat_inj.1 e))
 rcases Nat.lt_or_ge (Pl.L a) (Pl.L b) with hl|hl
 ·have HC:=Lib.hid (cmpZ_lt (Int.ofNat_lt.2 (len_lt hl)))
  clear ha hb;go_enter Tryz.func88,Tryz.ntmps88;go_wp2;go_ret;exact ⟨by rw [HC.out];rfl,rfl⟩
 ·have hl':¬ Pl.L a<Pl.L b:=by omega
  have HC:=Lib.hid (cmpZ_gt (Int.ofNat_lt.2 (len_lt (show Pl.L b<Pl.L a by omega))));clear ha hb;go_enter Tryz.func88,Tryz.ntmps88;go_wp2;go_ret;exact ⟨by rw [HC.out];rfl,rfl⟩
theorem rcmp_zero (va vb:Value) (w:World) (ha:DV w va 0) (hb:DV w vb 0) :
 Calls Tryz.prog 88 #[va,vb] w fun e w'=>e=.returned (.int .i64 0)∧w=w':=by
 obtain ⟨A,c,rfl⟩:=dv_form ha;obtain ⟨B,d,rfl⟩:=dv_form hb;rw [Pl.L_zero];clear ha hb;go_enter Tryz.func88,Tryz.ntmps88;go_wp2;go_rounds 1;go_ret;exact ⟨rfl,rfl⟩
theorem rcmp_same (va vb:Value) (a b:Nat) (w:World) (ha:DV w va a) (hb:DV w vb b) (h:Pl.L b=Pl.L a) (h0:a≠0) (hbig:Pl.L a≤1073741824) :
 Calls Tryz.prog 88 #[va,vb] w fun e w'=>e=.returned (.int .i64 (cmpZ a b))∧Below w.heap.size w w':=by
 have hL:=Pl.L_pos h0;have h0':b≠0:=fun e=>by subst e;simp [Pl.L_zero] at h;omega
 obtain ⟨g,o,c,rfl,hc,hm,hgl,hx⟩:=dv_some ha h0;obtain ⟨g',o',c',rfl,hc',hm',hgl',hx'⟩:=dv_some hb h0';have ea:a/256 ^ Pl.L a=b/256 ^ Pl.L a:=by rw [Nat.div_eq_of_lt (Pl.lt_L a),Nat.div_eq_of_lt (by rw [← h];exact Pl.lt_L b)]
 rw [h] at hx' hc' ⊢;have HX:=Lib.hid hx;have HX':=Lib.hid hx';have HE:=Lib.hid ea;clear hx hx' ha hb h ea h0 h0';generalize Pl.L a=N at *;go_enter Tryz.func88,Tryz.ntmps88;go_wp2_with fail;go_loopw [5] (fun i wr=>∃ k:Nat,k≤N∧i=.int .i64 ((k:Int)-1)∧a/256 ^ k=b/256 ^ k∧∃ q,wr=w.drewN q) (fun i _=>(intOf i+1).toNat)
 case atStart=>exact ⟨N,Nat.le_refl _,rfl,HE.out,0,rfl⟩
 case round =>
  obtain ⟨k,hk,rfl,he,q,rfl⟩:=hrel;have HK:=Lib.hid he;clear he
  by_cases hk0:k=0
  ·subst hk0
   have HC:Hid (cmpZ a b=0):=Lib.hid (cmpZ_eq (by have:=HK.out;simp at this;omega));go_wp2;go_ret;exact ⟨by rw [HC.out];rfl,bel_drewN (Below.refl _ _) _⟩
  ·have hxa:=HX.out (k-1) (by omega)
   have hxb:=HX'.out (k-1) (by omega);have ha':=high_digit a k (by omega);have hb':=high_digit b k (by omega);rw [← HK.out] at hb';have hA:=fun h=>@lt_of_high a b (k-1) h
   have hB:=fun h=>@lt_of_high b a (k-1) h
   have da:=Nat.mod_lt (a/256 ^ (k-1)) (show 256>0 by omega);have db:=Nat.mod_lt (b/256 ^ (k-1)) (show 256>0 by omega);generalize a/256 ^ k=H at *;generalize hra:a/256 ^ (k-1)=ra at *;generalize hrb:b/256 ^ (k-1)=rb at *;generalize ra%256=x at *;generalize rb%256=y at *;have i1:(0:Int)≤(k:Int)-1:=by omega
   have i2:(k:Int)-1<N:=by omega
   have i3:((k:Int)-1).toNat=k-1:=by omega
   have i4:(1:Int)≤k:=by omega
   have HRA:=Lib.hid hra;have HRB:=Lib.hid hrb;have HHA:=Lib.hid ha';have HHB:=Lib.hid hb';have HAA:=Lib.hid hA;have HBB:=Lib.hid hB;clear hra hrb ha' hb' hA hB;rcases Nat.lt_trichotomy x y with hxy|hxy|hxy
   ·have HC:Hid (cmpZ a b=-1):=Lib.hid (cmpZ_lt (Int.ofNat_lt.2 (HAA.out (by have:=HHA.out;have:=HHB.out;omega))))
    go_wp2_with fail;go_quiet (fail);go_wp2;go_ret;exact ⟨by rw [HC.out];rfl,by repeat (first|exact Below.refl _ _|refine bel_drewN ?_ _)⟩
   ·subst hxy
    have HK1:Hid (ra=rb):=Lib.hid (by have:=HHA.out;have:=HHB.out;omega);go_wp2_with fail;go_quiet (fail);go_wp2_with fail;go_quiet (fail);go_wp2;go_roundw
    case rel=>exact ⟨k-1,by omega,congrArg (Value.int .i64) (by omega),by rw [HRA.out,HRB.out,HK1.out],_,rfl⟩
    case measure=>simp [intOf];omega
   ·have HC:Hid (cmpZ a b=1):=Lib.hid (cmpZ_gt (Int.ofNat_lt.2 (HBB.out (by have:=HHA.out;have:=HHB.out;omega))))
    have hxy':¬ x<y:=by omega
    go_wp2_with fail;go_quiet (fail);go_wp2_with fail;go_quiet (fail);go_wp2;go_ret;exact ⟨by rw [HC.out];rfl,by repeat (first|exact Below.refl _ _|refine bel_drewN ?_ _)⟩
theorem dv_at {w:World} {A:Option Addr} {n c N k:Nat} (h:DV w (.slice A N c) n) (hk:k<Pl.L n):∃ g o,A=some ⟨g,o,none⟩∧g<w.heap.size∧w.cell? ⟨g,o+k,none⟩=some (.int .i64 ((n/256 ^ k%256:Nat):Int)):=by
 have h0:n≠0:=fun e=>by subst e;simp [Pl.L_zero] at hk
 obtain ⟨g,o,c',hv,_,_,hg,hx⟩:=dv_some h h0;injection hv with e1 e2 e3
 exact ⟨g,o,e1,hg,hx k hk⟩
theorem dig_zero {n k:Nat} (h:Pl.L n≤k):n/256 ^ k%256=0:=by
 rw [Nat.div_eq_of_lt ((Pl.L_le_iff n k).1 h)]
theorem rcmp_any (va vb:Value) (a b:Nat) (w:World) (ha:DV w va a) (hb:DV w vb b) (hbig:Pl.L a≤1073741824) :
 Calls Tryz.prog 88 #[va,vb] w fun e w'=>e=.returned (.int .i64 (cmpZ a b))∧Below w.heap.size w w':=by
 by_cases h:Pl.L a=Pl.L b
 ·by_cases h0:a=0
  ·subst h0
   have hb0:b=0:=Pl.L_eq_zero.1 (by rw [← h];rfl);subst hb0;exact calls_same (rcmp_zero va vb w ha hb)
  ·exact rcmp_same va vb a b w ha hb h.symm h0 hbig
 ·exact calls_same (rcmp_len va vb a b w ha hb h)

theorem plus_round (a b k:Nat):(Pl.carry 256 a b k+a/256 ^ k%256+b/256 ^ k%256)%256=(a+b)/256 ^ k%256∧(Pl.carry 256 a b k+a/256 ^ k%256+b/256 ^ k%256)/256=Pl.carry 256 a b (k+1) :=
 ⟨Pl.carry_digit 256 a b k (by omega),Pl.carry_succ 256 a b k (by omega)⟩
theorem plus_end {a b k:Nat} (h1:Pl.L a≤k) (h2:Pl.L b≤k) (h:Pl.carry 256 a b k=0):(a+b)%256 ^ k=a+b:=by
 have ha:=(Pl.L_le_iff a k).1 h1;have hb:=(Pl.L_le_iff b k).1 h2;unfold Pl.carry at h;rw [Nat.mod_eq_of_lt ha,Nat.mod_eq_of_lt hb] at h;exact Nat.mod_eq_of_lt (by rcases Nat.lt_or_ge (a+b) (256 ^ k) with h3|h3;(exact h3);have:=Nat.div_pos h3 (Nat.pow_pos (by omega));omega)
theorem plus_len {a b k:Nat} (h:k<Pl.L a∨k<Pl.L b∨0<Pl.carry 256 a b k):k≤max (Pl.L a) (Pl.L b):=by
 rcases h with h|h|h
 ·omega
 ·omega
 ·rcases Nat.lt_or_ge (max (Pl.L a) (Pl.L b)) k with h1|h1
  ·exfalso
   have ha:=(Pl.L_le_iff a (k-1)).1 (by omega);have hb:=(Pl.L_le_iff b (k-1)).1 (by omega);unfold Pl.carry at h;obtain ⟨j,rfl⟩:∃ j,k=j+1:=⟨k-1,by omega⟩
   rw [Nat.add_sub_cancel] at ha hb;have hp:256 ^ (j+1)=256 ^ j*256:=Nat.pow_succ 256 j;rw [Nat.mod_eq_of_lt (by omega),Nat.mod_eq_of_lt (by omega),Nat.div_eq_of_lt (by omega)] at h;omega
  ·exact h1

set_option maxHeartbeats 1000000 in
theorem rplus_any (va vb:Value) (a b:Nat) (w:World) (ha:DV w va a) (hb:DV w vb b) (hla:Pl.L a≤67108864) (hlb:Pl.L b≤67108864) :
 Calls Tryz.prog 87 #[va,vb] w fun e w'=>∃ v,e=.returned v∧DV w' v (a+b)∧Below w.heap.size w w'∧Fresh w.heap.size v:=by
 obtain ⟨A,c,rfl⟩:=dv_form ha;obtain ⟨B,d,rfl⟩:=dv_form hb;have HA:=Lib.hid ha;have HB:=Lib.hid hb;clear ha hb;go_enter Tryz.func87,Tryz.ntmps87;go_wp2_with fail;go_loopw [5,6,7] (fun v cy i wr=>∃ k:Nat,k≤max (Pl.L a) (Pl.L b)+1∧i=.int .i64 k∧cy=.int .i64 (Pl.carry 256 a b k:Nat)∧wr.ownsRow w.heap.size 3 1 v k (ints (Pl.dg 256 k (a+b)))∧Below w.heap.size w wr) (fun _ _ i _=>max (Pl.L a) (Pl.L b)+1-(intOf i).toNat)
 case atStart=>exact ⟨0,Nat.zero_le _,rfl,by rw [Pl.carry_zero];rfl,World.ownsRow_nil _ _ _ _,Below.refl _ _⟩
 case round =>
  obtain ⟨k,hk,rfl,rfl,hown,hbl⟩:=hrel;have hsz:=hbl.size;have hcl:=Pl.carry_le 256 a b k (by omega);obtain ⟨hr1,hr2⟩:=plus_round a b k;have HSN:=Lib.hid (dg_snoc (a+b) k);have HO:=Lib.hid hown;have HPE:=Lib.hid (fun h1 h2 h3=>@plus_end a b k h1 h2 h3);have HPL:=Lib.hid (@plus_len a b k);clear hown;have hx:a/256 ^ k%256<256:=Nat.mod_lt _ (by omega);have hy:b/256 ^ k%256<256:=Nat.mod_lt _ (by omega);have hxz:=fun h=>@dig_zero a k h
  have hyz:=fun h=>@dig_zero b k h
  have hxa:=fun h=>@dv_at w A a c _ k HA.out h
  have hxb:=fun h=>@dv_at w B b d _ k HB.out h
  generalize a/256 ^ k%256=x at *;generalize b/256 ^ k%256=y at *;generalize Pl.carry 256 a b k=q at *;have HR1:=Lib.hid hr1;have HR2:=Lib.hid hr2;have HXZ:=Lib.hid hxz;have HYZ:=Lib.hid hyz;have HXA:=Lib.hid hxa;have HXB:=Lib.hid hxb;clear hr1 hr2 hxz hyz hxa hxb
  by_cases h1:k<Pl.L a
  ·by_cases h2:k<Pl.L b
   ·obtain ⟨g,o,rfl,hg,hc⟩:=HXA.out h1
    have hca:=(hbl.cell (p:=⟨g,o+k,none⟩) (by exact hg)).trans hc;obtain ⟨g',o',rfl,hg',hc'⟩:=HXB.out h2;have hcb:=(hbl.cell (p:=⟨g',o'+k,none⟩) (by exact hg')).trans hc';have hkm:k≤max (Pl.L a) (Pl.L b):=HPL.out (by omega);clear HXA HXB HXZ HYZ HPE HPL;go_wp2_with (at_builtin;refine wpList_app1 rfl _ _ _ rfl ti_int HO.out hbl hsz rfl rfl rfl rfl (one_int _) (by omega) (by decide) ?_)
    intro v' w1 hown' hb'
    have HO':Hid (w1.ownsRow w.heap.size 3 1 v' (k+1) (ints (Pl.dg 256 (k+1) (a+b)))):=Lib.hid (by
     rw [HSN.out,ints_snoc,← HR1.out];have e:((q:Int)+x+y)%256=(((q+x+y)%256:Nat):Int):=by omega
     rw [← e];exact hown')
    clear hown';go_wp2;go_roundw
    case rel=>exact ⟨k+1,by omega,by go_num,by rw [← HR2.out];go_num,HO'.out,hb'⟩
    case measure=>simp [intOf];omega
   ·obtain ⟨g,o,rfl,hg,hc⟩:=HXA.out h1
    have hca:=(hbl.cell (p:=⟨g,o+k,none⟩) (by exact hg)).trans hc;have hy0:y=0:=HYZ.out (by omega);subst hy0;have hkm:k≤max (Pl.L a) (Pl.L b):=HPL.out (by omega);clear HXA HXB HXZ HYZ HPE HPL;go_wp2_with (at_builtin;refine wpList_app1 rfl _ _ _ rfl ti_int HO.out hbl hsz rfl rfl rfl rfl (one_int _) (by omega) (by decide) ?_)
    intro v' w1 hown' hb'
    have HO':Hid (w1.ownsRow w.heap.size 3 1 v' (k+1) (ints (Pl.dg 256 (k+1) (a+b)))):=Lib.hid (by
     rw [HSN.out,ints_snoc,← HR1.out];have e:((q:Int)+x)%256=(((q+x+0)%256:Nat):Int):=by omega
     rw [← e];exact hown')
    clear hown';go_wp2;go_roundw
    case rel=>exact ⟨k+1,by omega,by go_num,by rw [← HR2.out];go_num,HO'.out,hb'⟩
    case measure=>simp [intOf];omega
  ·by_cases h2:k<Pl.L b
   ·have hx0:x=0:=HXZ.out (by omega)
    subst hx0;obtain ⟨g',o',rfl,hg',hc'⟩:=HXB.out h2;have hcb:=(hbl.cell (p:=⟨g',o'+k,none⟩) (by exact hg')).trans hc';have hkm:k≤max (Pl.L a) (Pl.L b):=HPL.out (by omega);clear HXA HXB HXZ HYZ HPE HPL;go_wp2_with (at_builtin;refine wpList_app1 rfl _ _ _ rfl ti_int HO.out hbl hsz rfl rfl rfl rfl (one_int _) (by omega) (by decide) ?_)
    intro v' w1 hown' hb'
    have HO':Hid (w1.ownsRow w.heap.size 3 1 v' (k+1) (ints (Pl.dg 256 (k+1) (a+b)))):=Lib.hid (by
     rw [HSN.out,ints_snoc,← HR1.out];have e:((q:Int)+y)%256=(((q+0+y)%256:Nat):Int):=by omega
     rw [← e];exact hown')
    clear hown';go_wp2;go_roundw
    case rel=>exact ⟨k+1,by omega,by go_num,by rw [← HR2.out];go_num,HO'.out,hb'⟩
    case measure=>simp [intOf];omega
   ·by_cases hq:q=0
    ·subst hq
     have hkn:k≤67108865:=by omega
     have hR:=rtrim_any _ k (Pl.dg 256 k (a+b)) wr (Sl.of_own HO.out) (Pl.dg_lt (by omega)) (by omega);rw [Pl.vB_dg,HPE.out (by omega) (by omega) rfl] at hR;have HR:=Lib.hid hR;clear hR HXA HXB HXZ HYZ HPE HPL HR1 HR2;go_wp2_with fail;refine HR.out.mono ?_;rintro e w1 ⟨⟨v',rfl,hv,hfr⟩,rfl⟩;go_wp2;go_ret;exact ⟨_,rfl,hv,hbl,hfr _ (fresh_own HO.out)⟩
    ·have hq1:(0:Int)<q:=by omega
     have hx0:x=0:=HXZ.out (by omega);subst hx0;have hy0:y=0:=HYZ.out (by omega);subst hy0;have hkm:k≤max (Pl.L a) (Pl.L b):=HPL.out (by omega);clear HXA HXB HXZ HYZ HPE HPL;go_wp2_with (at_builtin;refine wpList_app1 rfl _ _ _ rfl ti_int HO.out hbl hsz rfl rfl rfl rfl (one_int _) (by omega) (by decide) ?_)
     intro v' w1 hown' hb'
     have HO':Hid (w1.ownsRow w.heap.size 3 1 v' (k+1) (ints (Pl.dg 256 (k+1) (a+b)))):=Lib.hid (by
      rw [HSN.out,ints_snoc,← HR1.out];have e:(q:Int)%256=(((q+0+0)%256:Nat):Int):=by omega
      rw [← e];exact hown')
     clear hown';go_wp2;go_roundw
     case rel=>exact ⟨k+1,by omega,by go_num,by rw [← HR2.out];go_num,HO'.out,hb'⟩
     case measure=>simp [intOf];omega
end Go.Proofs.YtiochgoocbkckaaGreatDoor
