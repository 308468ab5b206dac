/-
 Slices that read as lists; digits to the base 256 as lists of numbers.
 The list of a hull in the plain: what it is, that a set has one only, and that gift wrapping gives it. No program in sight.
 Gift wrapping gives the list of the hull; the edges of that list. No program in sight.
 Contracts of the reference for convex sets: lists of points.
-/
import Derived.Test.YtiochgoocbkckaaGreatDoorAPl
import Derived.Laws.OwnMore
import Derived.Maps.AppendAt
import Derived.Laws.AppendOwnNone
import Derived.Test.YtiochgoocbkckaaGreatDoorAgak
set_option maxRecDepth 100000
set_option linter.unusedSimpArgs false
set_option linter.unusedVariables false
namespace Go.Proofs.YtiochgoocbkckaaGreatDoor
open Go Go.RowKit

theorem At.below {w w1:World} {b B:Nat} (hB:b<B):∀ {l:List Value} {i:Nat},At w b i l→Below B w w1→At w1 b i l
 | [],_,_,_=>trivial
 | _ :: _,_,h,hb=>⟨(hb.cell hB).trans h.1,At.below hB h.2 hb⟩
theorem Own.below {w w1:World} {b B:Nat} (hB:b<B):∀ {l:List Value} {i:Nat},Own w b i l→Below B w w1→Own w1 b i l
 | [],_,_,_=>trivial
 | _ :: _,_,h,hb=>⟨⟨(hb.cell hB).trans h.1.1,(hb.frozen hB).trans h.1.2⟩,Own.below hB h.2 hb⟩
def Sl (w:World) (v:Value) (n k:Nat) (xs:List Value):Prop :=
 xs.length=n*k∧((v=.slice none 0 0∧n=0)∨∃ g o c,v=.slice (some ⟨g,o,none⟩) n c∧n≤c∧c≤maxLen∧∀ j u,xs[j]?=some u→w.cell? ⟨g,o+j,none⟩=some u)
theorem Sl.up {w w1:World} {v:Value} {n k:Nat} {xs:List Value} (h:Sl w v n k xs) (hb:Below w.heap.size w w1):Sl w1 v n k xs:=by
 refine ⟨h.1,?_⟩;rcases h.2 with h2|⟨g,o,c,hv,hc,hm,hx⟩
 ·exact .inl h2
 ·exact .inr ⟨g,o,c,hv,hc,hm,fun j u hj=>(hb.cell (World.block_lt_of_cell? _ _ (hx j u hj))).trans (hx j u hj)⟩
theorem Sl.nil (w:World) (k:Nat):Sl w (.slice none 0 0) 0 k []:=⟨by simp,.inl ⟨rfl,rfl⟩⟩
theorem Sl.take {w:World} {g o n c k:Nat} {xs:List Value} (h:Sl w (.slice (some ⟨g,o,none⟩) n c) n k xs) (m:Nat) (hm:m≤n):Sl w (.slice (some ⟨g,o,none⟩) m c) m k (xs.take (m*k)):=by
 refine ⟨by rw [List.length_take,h.1];exact Nat.min_eq_left (Nat.mul_le_mul_right k hm),.inr ?_⟩;rcases h.2 with ⟨h2,_⟩|⟨g',o',c',hv,hc,hmx,hx⟩
 ·cases h2
 ·injection hv with e1 e2 e3
  injection e1 with e1
  injection e1 with e1 e4
  subst e1;subst e4;subst e3;exact ⟨g,o,c,rfl,by omega,hmx,fun j u hj=>hx j u (by rw [List.getElem?_take] at hj;split at hj<;>simp_all)⟩
theorem Sl.of_own {w:World} {base:Nat} {e:TypeId} {k n:Nat} {v:Value} {xs:List Value} (h:w.ownsRow base e k v n xs):Sl w v n k xs:=by
 refine ⟨h.1,?_⟩;rcases h.2 with h2|⟨g,cap,cur,rfl,h3,h4,hc,hm,h5⟩
 ·exact .inl h2
 ·refine .inr ⟨g,0,cap,rfl,hc,hm,fun j u hj => ?_⟩
  have hj':j<n*k:=by rw [← h.1];exact (List.getElem?_eq_some_iff.1 hj).1
  rw [Nat.zero_add,h.cellAt j hj'];exact hj

structure TI (P:Program) (t e:TypeId) (k bytes:Nat):Prop where
 und:P.underlying t=some (.slice e)
 info:(P.info? e).map (fun i=>(i.zero.map fun z=>z.cells.size,i.size,i.bytes))=some (some k,k,bytes)
 pos:0<k
structure Step (W w':World) (v v':Value):Prop where
 grown:W.grownBy w' v.ownBlock
 drawn:W.drawn≤w'.drawn
 far:∀ b,b<W.heap.size→v.ownBlock≠some b→v'.ownBlock≠some b
theorem Step.same (w:World) (v:Value):Step w w v v:=⟨⟨rfl,rfl,rfl,Nat.le_refl _,fun _ _ _=>rfl⟩,Nat.le_refl _,fun _ _ h=>h⟩
theorem run_app {P:Program} (w:World) (base:Nat) (t ty e:TypeId) (i:TypeInfo) (z:Value) (size bytes:Nat) (ht:P.underlying t=some (.slice e)) (hi:P.info? e=some i) (hz:i.zero=some z)
 (hsize:i.size=size) (hby:i.bytes=bytes) (hzs:z.cells.size=size) (hsz:0<size)
 (v:Value) (n:Nat) (xs:List Value) (hown:w.ownsRow base e size v n xs)
 (a:Addr) (m c:Nat) (news:List Value) (hl:news.length=m*size) (hnews:∀ j u,news[j]?=some u→w.cell? (a.add j)=some u) (h1:∀ u∈news,u.oneCell'=true)
 (h63:n+m≤maxLen) (hbytes:(n+m)*bytes≤140737488355328) (hbase:base≤w.heap.size) :
 ∃ v' w',(Builtin.append_ #[t,t] ty #[v,.slice (some a) m c]).run P w=.ok v' w'∧w'.ownsRow base e size v' (n+m) (xs++news)∧Step w w' v v':=by
 obtain ⟨v',w',hr,h2,h3,h4⟩:=run_append_own (P:=P) w base t ty e i z size bytes ht hi hz hsize hby hzs hsz v n xs hown a m c news hl hnews h1 h63 hbytes hbase;have hsmall:n+m≤9223372036854775807:=by simp only [maxLen] at h63;omega
 suffices H:w.drawn≤w'.drawn∧∀ b,b<w.heap.size→v.ownBlock≠some b→v'.ownBlock≠some b from ⟨v',w',hr,h2,h3,H.1,H.2⟩
 rcases hown.2 with ⟨rfl,rfl⟩|⟨g,cap,cur,rfl,hbg,hg,hnc,hcm,hcs,htake⟩
 ·by_cases hm:m=0
  ·subst hm
   have hn:news=[]:=List.eq_nil_of_length_eq_zero (by simpa using hl);subst hn;have hr2:(Builtin.append_ #[t,t] ty #[.slice none 0 0,.slice (some a) 0 c]).run P w=.ok (.slice none 0 0) w:=by simp [Builtin.append_,run_underlying ht,sizeOf,typeInfo,hi,Builtin.lenOf,Builtin.firstCells,loadCells,loadCellsFrom]
   have e:=hr.symm.trans hr2;injection e with e1 e2
   subst e1;subst e2;exact ⟨Nat.le_refl _,fun _ _ h=>h⟩
  ·have hr2:=run_append_nil (P:=P) w t ty e i z ht hi hz a m c news (by rw [hsize];exact hl) hnews (by omega) (by omega) (by rw [hby];have hb:=hbytes;simp only [Nat.zero_add] at hb;omega)
   have e:=hr.symm.trans hr2;injection e with e1 e2
   subst e1;subst e2;exact ⟨Nat.le_succ _,fun b hb _=>by simp only [Value.ownBlock,ne_eq,Option.some.injEq];omega⟩
 ·by_cases hroom:n+m≤cap
  ·have hr2:=run_append_room (P:=P) w t ty e i ht hi g n cap cur hg a m c news (by rw [hsize];exact hl) hnews h1 hroom (by rw [hsize,hl,hcs,← Nat.add_mul];exact Nat.mul_le_mul_right _ hroom)
   have e:=hr.symm.trans hr2;injection e with e1 e2
   subst e1;subst e2;exact ⟨Nat.le_refl _,fun _ _ h=>h⟩
  ·have holds:∀ j u,xs[j]?=some u→w.cell? ((⟨g,0,none⟩:Addr).add j)=some u:=hown.cells (g:=g) rfl
   have hr2:=run_append_grow (P:=P) w t ty e i z ht hi hz ⟨g,0,none⟩ n cap xs (by rw [hsize];exact hown.1) holds a m c news (by rw [hsize];exact hl) hnews (by omega) (by omega) (by rw [hby];exact growslice_fits (by omega) hbytes);have e:=hr.symm.trans hr2;injection e with e1 e2
   subst e1;subst e2;exact ⟨Nat.le_succ _,fun b hb _=>by simp only [Value.ownBlock,ne_eq,Option.some.injEq];omega⟩
section
variable {W w':World} {v v':Value}
theorem Step.heap (s:Step W w' v v') {b:Nat} (hb:b<W.heap.size) (hf:v.ownBlock≠some b):w'.heap[b]?=W.heap[b]?:=s.grown.block b hb (fun e=>hf e.symm)
theorem Step.cell (s:Step W w' v v') {p:Addr} {u:Value} (h:W.cell? p=some u) (hf:v.ownBlock≠some p.block):w'.cell? p=some u:=(World.cell?_of_block (w:=W) (s.heap (World.block_lt_of_cell? _ _ h) hf)).trans h
theorem Step.frozen (s:Step W w' v v') {p:Addr} (hb:p.block<W.heap.size) (hf:v.ownBlock≠some p.block):w'.frozen? p=W.frozen? p:=World.frozen?_of_block (w:=W) (s.heap hb hf)
theorem Step.below (s:Step W w' v v') {B:Nat} {w0:World} (h:Below B w0 W) (hB:B≤W.heap.size) (hr:∀ r,v.ownBlock=some r→B≤r):Below B w0 w' :=
 h.trans ⟨s.grown.os,s.grown.tape,s.grown.output,s.grown.size,fun k hk=>s.grown.block k (by omega) (fun e=>by have:=hr k e.symm;omega),s.drawn⟩
theorem At.step {b:Nat} (s:Step W w' v v') (hf:v.ownBlock≠some b):∀ {l:List Value} {i:Nat},At W b i l→At w' b i l
 | [],_,_=>trivial
 | _ :: _,_,h=>⟨s.cell h.1 hf,At.step s hf h.2⟩
theorem Own.step {b:Nat} (s:Step W w' v v') (hf:v.ownBlock≠some b):∀ {l:List Value} {i:Nat},Own W b i l→Own w' b i l
 | [],_,_=>trivial
 | _ :: _,_,h=>⟨⟨s.cell h.1.1 hf,(s.frozen (World.block_lt_of_cell? _ _ h.1.1) hf).trans h.1.2⟩,Own.step s hf h.2⟩
end
theorem wpList_appF {P:Program} {ops:Array Oper} {rest:List Oper} {o:Oper} {a:Act} {Q:Exit→Act→World→Prop} {w:World} (hgd:o.guard=none) (s x:Operand) (t:TypeId)
 (ho:o.op=.call { callee:=.builtin .append,args:=#[s,x],argTypes:=#[t,t] }) {e:TypeId} {k bytes:Nat} (ti:TI P t e k bytes)
 {W:World} {base n:Nat} {v:Value} {xs news:List Value} (hown:W.ownsRow base e k v n xs) (hbase:base≤W.heap.size)
 (hw:w=W.alloc (.cells news.toArray e)) (hs:a.eval s=v) (hx:a.eval x=.slice (some ⟨W.heap.size,0,none⟩) 1 1) (hl:news.length=k) (h1:∀ u∈news,u.oneCell'=true)
 (hbytes:(n+1)*bytes≤140737488351232) (hpos:0<bytes)
 (h:∀ v' w',w'.ownsRow base e k v' (n+1) (xs++news)→Step W w' v v'→wpList P ops Q rest (a.put o.dst v') w'):wpList P ops Q (o :: rest) a w:=by
 subst hw;obtain ⟨i,hi,hif⟩:=Option.map_eq_some_iff.1 ti.info;simp only [Prod.mk.injEq] at hif;obtain ⟨hz,hsz,hby⟩:=hif;obtain ⟨z,hz,hzs⟩:=Option.map_eq_some_iff.1 hz;have hn:n+1≤140737488351232:=Nat.le_trans (Nat.le_mul_of_pos_right _ hpos) hbytes
 obtain ⟨v',w',hr,h2,h3⟩:=run_app (P:=P) (W.alloc (.cells news.toArray e)) base t o.type e i z k bytes ti.und hi hz hsz hby hzs ti.pos v n xs (hown.alloc _) ⟨W.heap.size,0,none⟩ 1 1 news (by omega) (fun j u hj=>by
  have:(⟨W.heap.size,0,none⟩:Addr).add j=⟨W.heap.size,j,none⟩:=by unfold Addr.add;split<;>simp_all
  rw [this,World.cell?_alloc_at _ _ _ _ rfl];simpa using hj) h1 (by unfold maxLen;omega) (by omega) (by simp;omega)
 refine wpList_plain hgd fun K hK => ?_
 unfold Oper.wp;simp [execOp,ho,resolve,invoke,builtin,hs,hx,hr,Result.andThen];refine hK _ _ (h v' w' h2 ⟨⟨?_,?_,?_,?_,?_⟩,h3.drawn,fun b hb hne=>h3.far b (by simp;omega) hne⟩)
 ·exact h3.grown.os
 ·exact h3.grown.tape
 ·exact h3.grown.output
 ·have:=h3.grown.size;simp at this;omega
 ·intro b hb hne
  exact (h3.grown.block b (by simp;omega) hne).trans (Below.heap_alloc W _ b hb)
theorem wpList_app1 {P:Program} {ops:Array Oper} {rest:List Oper} {o:Oper} {a:Act} {Q:Exit→Act→World→Prop} {w:World} (hgd:o.guard=none) (s x:Operand) (t:TypeId)
 (ho:o.op=.call { callee:=.builtin .append,args:=#[s,x],argTypes:=#[t,t] }) {e:TypeId} {k bytes:Nat} (ti:TI P t e k bytes)
 {W w0:World} {base n:Nat} {v:Value} {xs news:List Value} (hown:W.ownsRow base e k v n xs) (hb:Below base w0 W) (hbase:base≤W.heap.size)
 (hw:w=W.alloc (.cells news.toArray e)) (hs:a.eval s=v) (hx:a.eval x=.slice (some ⟨W.heap.size,0,none⟩) 1 1) (hl:news.length=k) (h1:∀ u∈news,u.oneCell'=true)
 (hbytes:(n+1)*bytes≤140737488351232) (hpos:0<bytes)
 (h:∀ v' w',w'.ownsRow base e k v' (n+1) (xs++news)→Below base w0 w'→wpList P ops Q rest (a.put o.dst v') w'):wpList P ops Q (o :: rest) a w :=
 wpList_appF hgd s x t ho ti hown hbase hw hs hx hl h1 hbytes hpos fun v' w' h2 h3=>h v' w' h2 (h3.below hb hbase fun r hr=>(hown.lt r hr).1)
theorem wpList_appX {P:Program} {ops:Array Oper} {rest:List Oper} {o:Oper} {a:Act} {Q:Exit→Act→World→Prop} {w:World} (hgd:o.guard=none) (s x:Operand) (t:TypeId)
 (ho:o.op=.call { callee:=.builtin .append,args:=#[s,x],argTypes:=#[t,t] }) {e:TypeId} {k bytes:Nat} (ti:TI P t e k bytes)
 {base n m:Nat} {v vx:Value} {xs news:List Value} (hown:w.ownsRow base e k v n xs) (hbase:base≤w.heap.size)
 (hs:a.eval s=v) (hx:a.eval x=vx) (hS:Sl w vx m k news) (h1:∀ u∈news,u.oneCell'=true)
 (hbytes:(n+m)*bytes≤140737488351232) (hpos:0<bytes)
 (h:∀ v' w',w'.ownsRow base e k v' (n+m) (xs++news)→Step w w' v v'→wpList P ops Q rest (a.put o.dst v') w'):wpList P ops Q (o :: rest) a w:=by
 obtain ⟨i,hi,hif⟩:=Option.map_eq_some_iff.1 ti.info;simp only [Prod.mk.injEq] at hif;obtain ⟨hz,hsz,hby⟩:=hif;obtain ⟨z,hz,hzs⟩:=Option.map_eq_some_iff.1 hz;have hn:n+m≤140737488351232:=Nat.le_trans (Nat.le_mul_of_pos_right _ hpos) hbytes;rcases hS.2 with ⟨rfl,h0⟩|⟨g,off,c,rfl,hc,hm,hcell⟩
 ·subst h0
  have hnil:news=[]:=List.eq_nil_of_length_eq_zero (by rw [hS.1,Nat.zero_mul]);subst hnil;refine wpList_append_own_none hgd s x t ho base e i k ti.und hi v n xs hs hown hx ?_;exact h v w (by simpa using hown) (Step.same w v)
 ·obtain ⟨v',w',hr,h2,h3⟩:=run_app (P:=P) w base t o.type e i z k bytes ti.und hi hz hsz hby hzs ti.pos v n xs hown ⟨g,off,none⟩ m c news hS.1 (fun j u hj=>by
   have:(⟨g,off,none⟩:Addr).add j=⟨g,off+j,none⟩:=by unfold Addr.add;split<;>simp_all
   rw [this];exact hcell j u hj) h1 (by unfold maxLen;omega) (by omega) hbase
  refine wpList_plain hgd fun K hK => ?_
  unfold Oper.wp;simp [execOp,ho,resolve,invoke,builtin,hs,hx,hr,Result.andThen];exact hK _ _ (h v' w' h2 h3)
theorem wpList_appS {P:Program} {ops:Array Oper} {rest:List Oper} {o:Oper} {a:Act} {Q:Exit→Act→World→Prop} {w:World} (hgd:o.guard=none) (s x:Operand) (t:TypeId)
 (ho:o.op=.call { callee:=.builtin .append,args:=#[s,x],argTypes:=#[t,t] }) {e:TypeId} {k bytes:Nat} (ti:TI P t e k bytes)
 {w0:World} {base n m:Nat} {v vx:Value} {xs news:List Value} (hown:w.ownsRow base e k v n xs) (hb:Below base w0 w) (hbase:base≤w.heap.size)
 (hs:a.eval s=v) (hx:a.eval x=vx) (hS:Sl w vx m k news) (h1:∀ u∈news,u.oneCell'=true)
 (hbytes:(n+m)*bytes≤140737488351232) (hpos:0<bytes)
 (h:∀ v' w',w'.ownsRow base e k v' (n+m) (xs++news)→Below base w0 w'→w.heap.size≤w'.heap.size→(∀ b,b<w.heap.size→some b≠v.ownBlock→w'.heap[b]?=w.heap[b]?)→wpList P ops Q rest (a.put o.dst v') w'):wpList P ops Q (o :: rest) a w :=
 wpList_appX hgd s x t ho ti hown hbase hs hx hS h1 hbytes hpos fun v' w' h2 h3=>h v' w' h2 (h3.below hb hbase fun r hr=>(hown.lt r hr).1) h3.grown.size (fun b hb' hne=>h3.grown.block b hb' hne)
def Fresh (B:Nat) (v:Value):Prop:=∀ a n c,v=.slice (some a) n c→B≤a.block
def Far (g:Nat) (v:Value):Prop:=∀ a n c,v=.slice (some a) n c→a.block≠g
theorem Fresh.far {B g:Nat} {v:Value} (h:Fresh B v) (hg:g<B):Far g v:=fun a n c hv=>by have:=h a n c hv;omega
theorem Fresh.mono {B B':Nat} {v:Value} (h:Fresh B v) (hb:B'≤B):Fresh B' v:=fun a n c hv=>Nat.le_trans hb (h a n c hv)
theorem fresh_own {w:World} {base:Nat} {e:TypeId} {k n:Nat} {v:Value} {xs:List Value} (h:w.ownsRow base e k v n xs):Fresh base v:=fun a m c hv=>by
 have:=h.lt a.block (by rw [hv];rfl);exact this.1
theorem Sl.setCell {w:World} {v:Value} {n k g i:Nat} {xs:List Value} (h:Sl w v n k xs) (hf:Far g v) (u:Value):Sl (w.setCell ⟨g,i,none⟩ u) v n k xs:=by
 refine ⟨h.1,?_⟩;rcases h.2 with h2|⟨g',o,c,hv,hc,hm,hx⟩
 ·exact .inl h2
 ·refine .inr ⟨g',o,c,hv,hc,hm,fun j u' hj => ?_⟩
  have hne:=hf _ _ _ hv;rw [World.cell?_setCell_other w _ _ _ (fun e=>hne (by injection e with e1;exact e1.symm))];exact hx j u' hj
def ints (l:List Nat):List Value:=l.map fun (d:Nat)=>.int .i64 (d:Int)
theorem ints_length (l:List Nat):(ints l).length=l.length:=by simp [ints]
theorem ints_get (l:List Nat) (i:Nat):(ints l)[i]?=(l[i]?).map fun (d:Nat)=>.int .i64 (d:Int):=by simp [ints]
def dL (n:Nat):List Nat:=Pl.dg 256 (Pl.L n) n
theorem dL_length (n:Nat):(dL n).length=Pl.L n:=Pl.dg_length _ _ _
def DV (w:World) (v:Value) (n:Nat):Prop:=Sl w v (Pl.L n) 1 (ints (dL n))
theorem DV.up {w w1:World} {v:Value} {n:Nat} (h:DV w v n) (hb:Below w.heap.size w w1):DV w1 v n:=Sl.up h hb
theorem trim_dL:∀ (n:Nat) {l:List Nat},l.length=n→(∀ d∈l,d<256)→l.take (Pl.tlen l)=dL (Pl.vB 256 l)∧Pl.tlen l=Pl.L (Pl.vB 256 l)
 | 0,l,hn,_=>by
  have:l=[]:=List.eq_nil_of_length_eq_zero hn;subst this;exact ⟨rfl,rfl⟩
 | n+1,l,hn,h=>by
  obtain ⟨m,d,rfl⟩:∃ m d,l=m++[d]:=by
   rcases List.eq_nil_or_concat l with h0|⟨m,d,h1⟩
   ·rw [h0] at hn;simp at hn
   ·exact ⟨m,d,by simpa using h1⟩
  have hm:m.length=n:=by simpa using hn
  by_cases hd:d=0
  ·subst hd
   obtain ⟨h1,h2⟩:=trim_dL n hm (fun x hx=>h x (by simp [hx]));have hv:Pl.vB 256 (m++[0])=Pl.vB 256 m:=by rw [Pl.vB_snoc];simp
   rw [hv,Pl.tlen_zero,← h2];refine ⟨?_,rfl⟩;rw [List.take_append_of_le_length (Pl.tlen_le m),h1]
  ·rw [Pl.tlen_last m d hd]
   have hlt:=Pl.vB_lt h;have hge:256 ^ m.length≤Pl.vB 256 (m++[d]):=by rw [Pl.vB_snoc];exact Nat.le_trans (Nat.le_mul_of_pos_right _ (Nat.pos_of_ne_zero hd)) (Nat.le_add_left _ _)
   have e:Pl.L (Pl.vB 256 (m++[d]))=m.length+1:=by
    have h1:=(Pl.L_le_iff (Pl.vB 256 (m++[d])) (m.length+1)).2 (by simpa using hlt)
    have h2:¬ Pl.L (Pl.vB 256 (m++[d]))≤m.length:=fun h3=>by
     have:=(Pl.L_le_iff _ _).1 h3;omega
    omega
   refine ⟨?_,e.symm⟩;rw [dL,e,List.take_of_length_le (by simp)];have:=Pl.dg_vB h (by decide);rw [List.length_append] at this;exact this.symm
end Go.Proofs.YtiochgoocbkckaaGreatDoor

namespace Go.Proofs.YtiochgoocbkckaaGreatDoor
namespace Pl

structure Edge (S:List Pt) (a b:Pt):Prop where
 ma:a∈S
 mb:b∈S
 ne:a≠b
 left:∀ s∈S,0≤det a b s
 on:∀ s∈S,det a b s=0→btwB s a b=true

theorem det_flip (a b s:Pt):det a s b=- det a b s:=by unfold det crossP subP;grind
theorem det_self (a b:Pt):det a b a=0:=by unfold det crossP subP;grind
theorem det_self' (a b:Pt):det a b b=0:=by unfold det crossP subP;grind
theorem btw_left (a b:Pt):btwB a a b=true:=by
 rw [btw_iff];exact ⟨det_self a b,by unfold dotP subP;grind⟩
theorem btw_right (a b:Pt):btwB b a b=true:=by
 rw [btw_iff];exact ⟨det_self' a b,by unfold dotP subP;grind⟩
theorem sub_zero {p q:Pt} (h:subP p q=(0,0)):p=q:=by
 unfold subP at h;rw [Prod.ext_iff] at h ⊢;grind
theorem btw_dots (s a b:Pt):dotP (subP a s) (subP b s)=dotP (subP s a) (subP s a)-dotP (subP s a) (subP b a):=by
 unfold dotP subP;grind
def pick (p out x:Pt):Pt:=if x=p then out else if out=p∨turn p out x<0∨turn p out x=0∧btwB out p x=true then x else out
def nxt (l:List Pt) (p:Pt):Pt:=l.foldl (pick p) p

structure Best (S:List Pt) (p out:Pt):Prop where
 m:out∈S
 ne:out≠p
 left:∀ s∈S,s≠p→0≤det p out s
 on:∀ s∈S,s≠p→det p out s=0→dotP (subP s p) (subP s p)≤dotP (subP s p) (subP out p)
theorem Best.edge {S:List Pt} {p out:Pt} (h:Best S p out) (hp:p∈S):Edge S p out:=by
 refine ⟨hp,h.m,fun e=>h.ne e.symm,fun s hs => ?_,fun s hs h0 => ?_⟩
 ·by_cases e:s=p
  ·rw [e,det_self];exact Rat.le_refl
  ·exact h.left s hs e
 ·by_cases e:s=p
  ·rw [e];exact btw_left _ _
  ·have:=h.on s hs e h0
   rw [btw_iff,btw_dots];exact ⟨h0,by grind⟩
inductive Ring (S:List Pt) (first:Pt):Pt→List Pt→Prop
 | last {a:Pt} : Edge S a first→Ring S first a [a]
 | step {a b:Pt} {l:List Pt} : Edge S a b→b≠first→Ring S first b l→Ring S first a (a :: l)
def Least (S:List Pt) (p:Pt):Prop:=p∈S∧∀ s∈S,lessP s p=false
def IsHull (S h:List Pt):Prop :=
 (S=[]∧h=[])∨(∃ p,h=[p]∧p∈S∧∀ s∈S,s=p)∨∃ p,Least S p∧Ring S p p h
theorem Ring.edge {S:List Pt} {f a:Pt} {l:List Pt} (h:Ring S f a l):∃ b,Edge S a b:=by
 cases h with
 | last e=>exact ⟨_,e⟩
 | step e _ _=>exact ⟨_,e⟩
theorem Edge.congr {S T:List Pt} (hST:∀ s,s∈S↔s∈T) {a b:Pt} (h:Edge S a b):Edge T a b :=
 ⟨(hST a).1 h.ma,(hST b).1 h.mb,h.ne,fun s hs=>h.left s ((hST s).2 hs),fun s hs=>h.on s ((hST s).2 hs)⟩
theorem Ring.congr {S T:List Pt} (hST:∀ s,s∈S↔s∈T) {f a:Pt} {l:List Pt} (h:Ring S f a l):Ring T f a l:=by
 induction h with
 | last e=>exact .last (e.congr hST)
 | step e hn _ ih=>exact .step (e.congr hST) hn ih
theorem IsHull.congr {S T h:List Pt} (hST:∀ s,s∈S↔s∈T) (a:IsHull S h):IsHull T h:=by
 rcases a with ⟨rfl,rfl⟩|⟨p,rfl,hp,hall⟩|⟨p,hl,hr⟩
 ·refine .inl ⟨?_,rfl⟩
  cases T with
  | nil=>rfl
  | cons t T=>exact absurd ((hST t).2 (by simp)) (by simp)
 ·exact .inr (.inl ⟨p,rfl,(hST p).1 hp,fun s hs=>hall s ((hST s).2 hs)⟩)
 ·exact .inr (.inr ⟨p,⟨(hST p).1 hl.1,fun s hs=>hl.2 s ((hST s).2 hs)⟩,hr.congr hST⟩)
end Pl
end Go.Proofs.YtiochgoocbkckaaGreatDoor

namespace Go.Proofs.YtiochgoocbkckaaGreatDoor
namespace Pl

def wrapGo (S:List Pt) (f:Pt):Nat→Pt→List Pt
 | 0,_=>[]
 | n+1,p=>p :: if nxt S p=f then [] else wrapGo S f n (nxt S p)
def leastP:List Pt→Pt→Pt
 | [],out=>out
 | x :: l,out=>leastP l (if lessP x out then x else out)
def wrap (S:List Pt):List Pt:=match S with
 | []=>[]
 | a :: l=>wrapGo S (leastP (a :: l) a) (S.length+1) (leastP (a :: l) a)
theorem Ring.head {S:List Pt} {f a:Pt} {l:List Pt} (h:Ring S f a l):∃ m,l=a :: m:=by
 cases h with
 | last _=>exact ⟨_,rfl⟩
 | step _ _ _=>exact ⟨_,rfl⟩
theorem Ring.edges {S:List Pt} {f a:Pt} {l:List Pt} (h:Ring S f a l):∀ i (hi:i<l.length),Edge S l[i] ((l.drop (i+1)).headD f):=by
 induction h with
 | last e => intro i hi; have : i = 0 := by simpa using hi
             subst this;simpa using e
 | @step a b l e hn hr ih =>
  intro i hi
  cases i with
  | zero=>obtain ⟨m,rfl⟩:=hr.head;simpa using e
  | succ i=>simpa using ih i (by simpa using hi)
theorem headD_drop (l:List Pt) (f:Pt) (i:Nat) (h0:0<l.length) (hf:l[0]=f) (hi:i<l.length):(l.drop (i+1)).headD f=l[(i+1)%l.length]'(Nat.mod_lt _ h0):=by
 rcases Nat.lt_or_ge (i+1) l.length with h|h
 ·rw [List.drop_eq_getElem_cons h]
  simp only [List.headD_cons];congr 1;exact (Nat.mod_eq_of_lt h).symm
 ·have:i+1=l.length:=by omega
  rw [List.drop_eq_nil_of_le (by omega)];simp only [List.headD_nil];rw [← hf];congr 1;rw [this,Nat.mod_self]
theorem ring_edge {S:List Pt} {p:Pt} {h:List Pt} (hr:Ring S p p h) (i:Nat) (hi:i<h.length):Edge S h[i] (h[(i+1)%h.length]'(Nat.mod_lt _ (by omega))):=by
 have h1:=hr.edges i hi;obtain ⟨m,rfl⟩:=hr.head;rw [headD_drop _ _ _ (by simp) (by simp) hi] at h1;exact h1
theorem IsHull.sub {S h:List Pt} (a:IsHull S h):∀ p∈h,p∈S:=by
 rcases a with ⟨rfl,rfl⟩|⟨p,rfl,hp,_⟩|⟨p,_,hr⟩
 ·simp
 ·simpa using hp
 ·intro q hq
  obtain ⟨i,hi,rfl⟩:=List.getElem_of_mem hq;exact (ring_edge hr i hi).ma
end Pl
end Go.Proofs.YtiochgoocbkckaaGreatDoor

namespace Go.Proofs.YtiochgoocbkckaaGreatDoor
open Go Go.RowKit

def pcells (p:Rat×Rat):List Value:=[.bool (ng p.1.num),.string (mg p.1.num.natAbs),.bool false,.string (mg (dn p.1)),.bool (ng p.2.num),.string (mg p.2.num.natAbs),.bool false,.string (mg (dn p.2))]
def pts (l:List (Rat×Rat)):List Value:=l.flatMap pcells
theorem pts_length (l:List (Rat×Rat)):(pts l).length=l.length*8:=by
 induction l with
 | nil=>rfl
 | cons a l ih=>simp only [pts,List.flatMap_cons,List.length_append,List.length_cons] at *;rw [ih];simp only [pcells,List.length_cons,List.length_nil];omega
theorem pts_get:∀ (l:List (Rat×Rat)) (k j:Nat) (p:Rat×Rat),l[k]?=some p→j<8→(pts l)[k*8+j]?=(pcells p)[j]?
 | [],k,j,p,h,_=>by simp at h
 | a :: l,0,j,p,h,hj=>by
  simp only [List.getElem?_cons_zero,Option.some.injEq] at h;subst h;rw [pts,List.flatMap_cons,Nat.zero_mul,Nat.zero_add,List.getElem?_append_left (by simpa [pcells] using hj)]
 | a :: l,k+1,j,p,h,hj=>by
  simp only [List.getElem?_cons_succ] at h;rw [pts,List.flatMap_cons,List.getElem?_append_right (by simp [pcells];omega)];have e:(k+1)*8+j-(pcells a).length=k*8+j:=by simp [pcells];omega
  rw [e];exact pts_get l k j p h hj
def PV (w:World) (v:Value) (l:List (Rat×Rat)):Prop:=Sl w v l.length 8 (pts l)
theorem PV.up {w w1:World} {v:Value} {l:List (Rat×Rat)} (h:PV w v l) (hb:Below w.heap.size w w1):PV w1 v l:=Sl.up h hb
def CE (w:World) (g i:Nat) (p:Rat×Rat):Prop :=
 w.cell? ⟨g,i,none⟩=some (.bool (ng p.1.num))∧w.cell? ⟨g,i+1,none⟩=some (.string (mg p.1.num.natAbs))∧w.cell? ⟨g,i+2,none⟩=some (.bool false)∧w.cell? ⟨g,i+3,none⟩=some (.string (mg (dn p.1))) ∧
 w.cell? ⟨g,i+4,none⟩=some (.bool (ng p.2.num))∧w.cell? ⟨g,i+5,none⟩=some (.string (mg p.2.num.natAbs))∧w.cell? ⟨g,i+6,none⟩=some (.bool false)∧w.cell? ⟨g,i+7,none⟩=some (.string (mg (dn p.2)))
theorem CE.up {w w1:World} {g i:Nat} {p:Rat×Rat} (h:CE w g i p) (hb:Below w.heap.size w w1):CE w1 g i p:=by
 obtain ⟨h0,h1,h2,h3,h4,h5,h6,h7⟩:=h;have hg:g<w.heap.size:=World.block_lt_of_cell? _ _ h0;exact ⟨(hb.cell (p:=⟨g,i,none⟩) hg).trans h0,(hb.cell (p:=⟨g,i+1,none⟩) hg).trans h1,(hb.cell (p:=⟨g,i+2,none⟩) hg).trans h2,(hb.cell (p:=⟨g,i+3,none⟩) hg).trans h3,(hb.cell (p:=⟨g,i+4,none⟩) hg).trans h4,(hb.cell (p:=⟨g,i+5,none⟩) hg).trans h5,(hb.cell (p:=⟨g,i+6,none⟩) hg).trans h6,(hb.cell (p:=⟨g,i+7,none⟩) hg).trans h7⟩
theorem CE.bel {W:World} {g i:Nat} {p:Rat×Rat} (h:CE W g i p) (b:Bel W):CE b.w1 g i p:=h.up b.h
theorem PV.form {w:World} {v:Value} {l:List (Rat×Rat)} (h:PV w v l) (h0:0<l.length):∃ g o c,v=.slice (some ⟨g,o,none⟩) l.length c∧l.length≤c∧c≤maxLen∧g<w.heap.size∧∀ (k:Nat) p,l[k]?=some p→CE w g (o+k*8) p:=by
 rcases h.2 with ⟨_,h2⟩|⟨g,o,c,hv,hc,hm,hx⟩
 ·omega
 ·have hx':∀ (k:Nat) p,l[k]?=some p→CE w g (o+k*8) p:=fun k p hk=>by
   have H:∀ j u,j<8→(pcells p)[j]?=some u→w.cell? ⟨g,o+k*8+j,none⟩=some u:=fun j u hj hu=>by
    rw [Nat.add_assoc];exact hx (k*8+j) u ((pts_get l k j p hk hj).trans hu)
   exact ⟨H 0 _ (by omega) rfl,H 1 _ (by omega) rfl,H 2 _ (by omega) rfl,H 3 _ (by omega) rfl,H 4 _ (by omega) rfl,H 5 _ (by omega) rfl,H 6 _ (by omega) rfl,H 7 _ (by omega) rfl⟩
  obtain ⟨a,ha⟩:∃ a,l[0]?=some a:=⟨l[0],List.getElem?_eq_getElem h0⟩
  exact ⟨g,o,c,hv,hc,hm,World.block_lt_of_cell? _ _ (hx' 0 a ha).1,hx'⟩
theorem PV.len {w:World} {v:Value} {l:List (Rat×Rat)} (h:PV w v l):∃ A c,v=.slice A l.length c:=by
 rcases h.2 with ⟨h1,h2⟩|⟨g,o,c,hv,_⟩
 ·exact ⟨none,0,by rw [h1,h2]⟩
 ·exact ⟨_,c,hv⟩
end Go.Proofs.YtiochgoocbkckaaGreatDoor
