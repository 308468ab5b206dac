/-
 Rows of points that are sorted and turned round in place, by the library.
 Package slices at rows of points: Clone, Compact of rows without equal neighbours, Concat of two rows.
 Contracts for convex sets: the chain of sorted points.
 Contracts for convex sets: the hull of points that are all different.
 Contracts for convex sets: sums.
-/
import Derived.Test.YtdkkjfnpinckjaaGreatDoorYMn
import Derived.Test.YtdkkjfnpinckjaaGreatDoorYDd
import Derived.Test.YtdkkjfnpinckjaaGreatDoorShelg
import Derived.Lib.SliceRun
import Derived.Shelf.Spec.SlicesGrow
set_option maxRecDepth 100000
set_option linter.unusedSimpArgs false
set_option linter.unusedVariables false
namespace Go.Proofs.YtdkkjfnpinckjaaGreatDoor
open Go Go.RowKit Go.Sort Go.Lib

abbrev BP (S:Nat) := { p:Rat×Rat // Pl.SzP (S+1) p }
instance (S:Nat):Inhabited (BP S):=⟨⟨(0,0),Pl.sz_zero.mono (by omega),Pl.sz_zero.mono (by omega)⟩⟩
def encB {S:Nat} (p:BP S):List Value:=pcells p.1
theorem encB_len {S:Nat} (p:BP S):(encB p).length=8:=rfl
theorem grow_of_below {w w':World} (h:Below w.heap.size w w'):∃ q os,w'=Sort.grow (w.drewN q) os:=by
 refine ⟨w'.drawn-w.drawn,w'.heap.extract w.heap.size w'.heap.size,?_⟩;obtain ⟨heap',tape',drawn',os',output'⟩:=w';have e1:os'=w.os:=h.os;have e2:tape'=w.tape:=h.tape;have e3:output'=w.output:=h.output;have hs:w.heap.size≤heap'.size:=h.size;have hb:∀ k,k<w.heap.size→heap'[k]?=w.heap[k]?:=h.block
 have hd:w.drawn≤drawn':=h.drawn;subst e1 e2 e3
 have eh:heap'=w.heap++heap'.extract w.heap.size heap'.size:=by
  apply Array.ext_getElem?;intro k
  by_cases hk:k<w.heap.size
  ·rw [Array.getElem?_append_left hk];exact hb k hk
  ·rw [Array.getElem?_append_right (by omega),Array.getElem?_extract]
   by_cases hk2:k<heap'.size
   ·rw [if_pos (by omega)];congr 1;omega
   ·rw [if_neg (by omega),Array.getElem?_eq_none (by omega)]
 have ed:drawn'=w.drawn+(drawn'-w.drawn):=by omega
 simp only [Sort.grow,World.drewN];rw [← ed];congr 1
theorem cmpLays {S:Nat} (hS:S≤100000) (blk off size:Nat) (w:World):CmpLays Tryz.prog 68 #[] (encB (S:=S)) 8 (fun x y=>Pl.cmpP x.1 y.1) blk off size w :=
 fun _ _ _ _ x y=>(pcmp_any x.1 y.1 _ x.2 y.2 (by omega) (by omega)).mono fun _ _ ⟨h1,h2⟩=>⟨h1,grow_of_below h2⟩
theorem ltOf_cmp {S:Nat} (x y:BP S):ltOf (fun x y:BP S=>Pl.cmpP x.1 y.1) x y=Pl.lessP x.1 y.1:=rfl
theorem swo_less {S:Nat} : Sort.SWO (ltOf fun x y:BP S=>Pl.cmpP x.1 y.1) where
 irrefl x:=Pl.less_irrefl x.1
 trans x y z h1 h2:=Pl.less_trans h1 h2
 ntrans x y z h1 h2:=by
  simp only [ltOf_cmp] at *;rcases h:Pl.lessP x.1 z.1 with _|_
  ·rfl
  ·rcases Pl.less_total x.1 y.1 with h3|h3|h3
   ·rw [h3] at h1;cases h1
   ·rw [h3] at h;rw [h] at h2;cases h2
   ·have:=Pl.less_trans h3 h
    rw [this] at h2;cases h2
theorem less_parts {S:Nat} (x y:BP S) (h1:ltOf (fun x y:BP S=>Pl.cmpP x.1 y.1) x y=false) (h2:ltOf (fun x y:BP S=>Pl.cmpP x.1 y.1) y x=false):x=y:=by
 simp only [ltOf_cmp] at *;rcases Pl.less_total x.1 y.1 with h|h|h
 ·rw [h] at h1;cases h1
 ·exact Subtype.ext h
 ·rw [h] at h2;cases h2
theorem flat_pts {S:Nat} (d:List (BP S)):(flatK encB 8 d.toArray).toList=pts (d.map (·.1)):=by
 apply List.ext_getElem?;intro t;have hl:(pts (d.map (·.1))).length=d.length*8:=by rw [pts_length,List.length_map]
 by_cases ht:t<d.length*8
 ·have h1:t/8<d.length:=by omega
  have h2:=pts_get (d.map (·.1)) (t/8) (t%8) (d[t/8]).1 (by simp [h1]) (Nat.mod_lt _ (by decide));have e:t/8*8+t%8=t:=by omega
  rw [e] at h2;rw [h2,Array.getElem?_toList];have h3:=get_flatK (encB (S:=S)) 8 d.toArray t (by simpa using ht);have hs:t<(flatK encB 8 d.toArray).size:=by simpa using ht
  rw [getElem!_pos _ t hs] at h3;rw [Array.getElem?_eq_getElem hs,h3];have h4:d.toArray[t/8]! = d[t/8]:=by simp [h1]
  rw [h4];have h5:t%8<(encB d[t/8]).length:=by rw [encB_len];exact Nat.mod_lt _ (by decide)
  rw [getElem!_pos _ (t%8) h5,← List.getElem?_eq_getElem h5];rfl
 ·rw [List.getElem?_eq_none (by simp;omega),List.getElem?_eq_none (by rw [hl];omega)]
section
variable {S:Nat} {w:World} {base n g cap:Nat} {l:List (Rat×Rat)} {cur:Array Value}
theorem holds_own (d:List (BP S)) (hn:d.length=n) (hg:w.heap[g]?=some (.cells cur 35 (0,0))) (htake:cur.toList.take (n*8)=pts (d.map (·.1))):HoldsK encB 8 w g 0 d.toArray:=by
 intro j hj;rw [size_flatK] at hj;have hj':j<n*8:=by simpa [hn] using hj
 have h1:(flatK encB 8 d.toArray)[j]?=some ((flatK encB 8 d.toArray)[j]!):=by
  have hs:j<(flatK encB 8 d.toArray).size:=by rw [size_flatK];exact hj
  rw [getElem!_pos _ j hs,Array.getElem?_eq_getElem hs]
 rw [← Array.getElem?_toList,flat_pts,← htake,List.getElem?_take,if_pos hj',Array.getElem?_toList] at h1;refine ⟨?_,by simp [World.frozen?,hg]⟩;rw [cell_of_row w g _ cur _ (0,0) hg,Nat.zero_add,h1];rfl
theorem put_own (d d':List (BP S)) (hn:d.length=n) (hn':d'.length=n) (m:Nat) (os:Array Obj) (hg:w.heap[g]?=some (.cells cur 35 (0,0))) (hb:base≤g) (hnc:n≤cap) (hcm:cap≤maxLen) (hcs:cur.size=cap*8) :
 (Sort.grow (putRowK encB 8 (Sort.ahead w m) g 0 d'.toArray) os).ownsRow base 35 8 (.slice (some ⟨g,0,none⟩) n cap) n (pts (d'.map (·.1))) ∧
 Step w (Sort.grow (putRowK encB 8 (Sort.ahead w m) g 0 d'.toArray) os) (.slice (some ⟨g,0,none⟩) n cap) (.slice (some ⟨g,0,none⟩) n cap):=by
 have hgs:=(Array.getElem?_eq_some_iff.1 hg).1;have hgs':g<(w.heap.modify g (Sort.onCells (Sort.putCells id 0 (flatK encB 8 d'.toArray)))).size:=by simpa using hgs
 have hh:(Sort.grow (putRowK encB 8 (Sort.ahead w m) g 0 d'.toArray) os).heap[g]?=some (.cells (Sort.putCells id 0 (flatK encB 8 d'.toArray) cur) 35 (0,0)):=by show (w.heap.modify g (Sort.onCells (Sort.putCells id 0 (flatK encB 8 d'.toArray)))++os)[g]?=_;rw [Array.getElem?_append_left hgs',Array.getElem?_modify,if_pos rfl,hg];rfl
 have hlen:(pts (d'.map (·.1))).length=n*8:=by rw [pts_length,List.length_map,hn']
 have hn8:n*8≤cap*8:=Nat.mul_le_mul_right _ hnc;refine ⟨⟨hlen,.inr ⟨g,cap,_,rfl,hb,hh,hnc,hcm,by simp [Sort.putCells,hcs],?_⟩⟩,⟨⟨rfl,rfl,rfl,?_,?_⟩,?_,fun _ _ h=>h⟩⟩
 ·apply List.ext_getElem?
  intro t;rw [List.getElem?_take]
  by_cases ht:t<n*8
  ·rw [if_pos ht,← flat_pts,Array.getElem?_toList,Array.getElem?_toList]
   have hs:t<(flatK encB 8 d'.toArray).size:=by rw [size_flatK];simpa [hn'] using ht
   have hc:t<cur.size:=by rw [hcs];omega
   rw [Array.getElem?_eq_getElem hs];simp only [Sort.putCells,Array.getElem?_mapIdx,Array.getElem?_eq_getElem hc,Option.map_some,Nat.zero_le,Nat.zero_add,true_and,id,Nat.sub_zero];rw [if_pos hs,getElem!_pos _ t hs]
  ·rw [if_neg ht,List.getElem?_eq_none (by rw [hlen];omega)]
 ·show w.heap.size≤(w.heap.modify g _++os).size
  simp
 ·intro k hk hne
  show (w.heap.modify g _++os)[k]?=_;rw [Array.getElem?_append_left (by simpa using hk),Array.getElem?_modify,if_neg (fun e=>hne (by simp [Value.ownBlock,e]))]
 ·show w.drawn≤w.drawn+m
  omega
end
def bps {S:Nat} : (l:List (Rat×Rat))→(∀ q∈l,Pl.SzP S q)→List (BP S)
 | [],_=>[]
 | a :: l,h=>⟨a,(h a (by simp)).mono (by omega)⟩ :: bps l fun q hq=>h q (by simp [hq])
theorem bps_map {S:Nat} : ∀ (l:List (Rat×Rat)) (h:∀ q∈l,Pl.SzP S q),(bps l h).map (·.1)=l
 | [],_=>rfl
 | a :: l,h=>by rw [bps,List.map_cons,bps_map l]
theorem bps_length {S:Nat} (l:List (Rat×Rat)) (h:∀ q∈l,Pl.SzP S q):(bps l h).length=l.length:=by
 have:=congrArg List.length (bps_map l h);rwa [List.length_map] at this
theorem sortP_bps {S:Nat} (l:List (Rat×Rat)) (h:∀ q∈l,Pl.SzP S q):((bps l h).mergeSort fun x y => !ltOf (fun x y:BP S=>Pl.cmpP x.1 y.1) y x).map (·.1)=sortP l:=by
 rw [List.map_mergeSort (r:=fun x y => !ltOf (fun x y:BP S=>Pl.cmpP x.1 y.1) y x) (s:=fun x y => !Pl.lessP y x) (f:=(·.1)) (l:=bps l h) (fun a _ b _=>rfl),bps_map];rfl
theorem sort_any {S:Nat} (v:Value) (n base:Nat) (l:List (Rat×Rat)) (w:World) (hown:w.ownsRow base 35 8 v n (pts l)) (hs:∀ q∈l,Pl.SzP S q) (hn:n≤1000000) (hS:S≤100000) :
 Calls Tryz.prog 106 #[v,.func (.func 68) #[] #[]] w fun e w'=>e=.returned (.tuple #[])∧w'.ownsRow base 35 8 v n (pts (sortP l))∧Step w w' v v:=by
 have hnl:n=l.length:=by have:=hown.1;rw [pts_length] at this;omega
 rcases hown.2 with ⟨rfl,rfl⟩|⟨g,cap,cur,rfl,hbg,hg,hnc,hcm,hcs,htake⟩
 ·have hl:l=[]:=List.eq_nil_of_length_eq_zero hnl.symm
  subst hl;have h:=AnyF.slices_SortFunc_none (P:=Tryz.prog) Tryz.sortPt none 0 (.func (.func 68) #[] #[]) w;exact h.mono fun _ _ ⟨h1,h2⟩=>⟨h1,by subst h2;simpa [sortP] using hown,by subst h2;exact Step.same _ _⟩
 ·have hd:(bps l hs).length=n:=by rw [bps_length,hnl]
  have eg:∀ args w,(callFunc 68 args).run Tryz.prog w=.ok (.enter 68 args) w:=enters_of Tryz.func68 (by kernel_rfl) rfl
  have h:=AnyQ.slices_SortFunc_total (P:=Tryz.prog) Tryz.sortPt 8 Tryz.isAgg35 Tryz.sizeOf35 (encB (S:=S)) encB_len (fun x v hv=>pcells_one x.1 v hv) (fun x y=>Pl.cmpP x.1 y.1) swo_less 68 #[] g 0 cap (bps l hs).toArray w eg (cmpLays hS g 0 _ w)
   (holds_own (bps l hs) hd hg (by rw [bps_map];exact htake)) (Array.getElem?_eq_some_iff.1 hg).1 (by simp [hd];omega) less_parts
  rw [show (bps l hs).toArray.size=n from by simpa using hd] at h;refine h.mono fun _ w' ⟨h1,m,os,hw⟩=>⟨h1,?_⟩
  have H:=put_own (bps l hs) ((bps l hs).mergeSort fun x y => !ltOf (fun x y:BP S=>Pl.cmpP x.1 y.1) y x) hd (by rw [List.length_mergeSort];exact hd) m os hg hbg hnc hcm hcs;rw [sortP_bps] at H;rw [hw];exact H
theorem reverse_any {S:Nat} (v:Value) (n base:Nat) (l:List (Rat×Rat)) (w:World) (hown:w.ownsRow base 35 8 v n (pts l)) (hs:∀ q∈l,Pl.SzP S q) (hn:n≤1000000) :
 Calls Tryz.prog 109 #[v] w fun e w'=>e=.returned (.tuple #[])∧w'.ownsRow base 35 8 v n (pts l.reverse)∧Step w w' v v:=by
 have hnl:n=l.length:=by have:=hown.1;rw [pts_length] at this;omega
 rcases hown.2 with ⟨rfl,rfl⟩|⟨g,cap,cur,rfl,hbg,hg,hnc,hcm,hcs,htake⟩
 ·have hl:l=[]:=List.eq_nil_of_length_eq_zero hnl.symm
  subst hl;have h:=AnyQ.slices_Reverse_empty (P:=Tryz.prog) Tryz.reversePt none 0 w;exact h.mono fun _ _ ⟨h1,h2⟩=>⟨h1,by subst h2;simpa [sortP] using hown,by subst h2;exact Step.same _ _⟩
 ·have hd:(bps l hs).length=n:=by rw [bps_length,hnl]
  have h:=AnyQ.slices_Reverse (P:=Tryz.prog) Tryz.reversePt 8 Tryz.isAgg35 Tryz.sizeOf35 (encB (S:=S)) encB_len (fun x v hv=>pcells_one x.1 v hv) g 0 cap (bps l hs).toArray w
   (holds_own (bps l hs) hd hg (by rw [bps_map];exact htake)) (by simp [hd];omega)
  rw [show (bps l hs).toArray.size=n from by simpa using hd] at h;refine h.mono fun _ w' ⟨h1,m,hw⟩=>⟨h1,?_⟩
  have H:=put_own (bps l hs) (bps l hs).reverse hd (by rw [List.length_reverse];exact hd) m #[] hg hbg hnc hcm hcs;rw [List.map_reverse,bps_map,Sort.grow_empty] at H;rw [hw,List.reverse_toArray];exact H
end Go.Proofs.YtdkkjfnpinckjaaGreatDoor

namespace Go.Proofs.YtdkkjfnpinckjaaGreatDoor
open Go Go.RowKit

theorem owns_empty (w:World):(w.alloc (.cells #[] 35)).ownsRow w.heap.size 35 8 (.slice (some ⟨w.heap.size,0,none⟩) 0 0) 0 [] :=
 ⟨rfl,.inr ⟨w.heap.size,0,#[],rfl,Nat.le_refl _,heap_alloc_new w _,Nat.le_refl _,by simp [maxLen],rfl,rfl⟩⟩
theorem clone_any (v:Value) (l:List (Rat×Rat)) (w:World) (h:PV w v l) (hn:l.length≤1000000) :
 Calls Tryz.prog 95 #[v] w fun e w'=>∃ v',e=.returned v'∧w'.ownsRow w.heap.size 35 8 v' l.length (pts l)∧Below w.heap.size w w':=by
 have q22:∀ (w:World) (a:Option Addr) (n c n' c':Nat),(binOp .eql 26 (.slice a n c) (.slice none n' c')).run Tryz.prog w=.ok (.bool a.isNone) w:=fun w a n c n' c'=>Lib.run_eql_slice_nil w _ _ a n c n' c' Tryz.underlying26
 rcases h.2 with ⟨rfl,h0⟩|⟨g,o,c,rfl,hc,hm,hx⟩
 ·have hl:l=[]:=List.eq_nil_of_length_eq_zero h0
  subst hl;go_enter Tryz.func95,Tryz.ntmps95;go_wp2;go_ret;exact ⟨_,rfl,World.ownsRow_nil _ _ _ _,Below.refl _ _⟩
 ·have HS:=Lib.hid (h.up ((Below.refl _ w).alloc (Nat.le_refl _) (.cells #[] 35)))
  have hone:∀ u∈pts l,u.oneCell'=true:=fun u hu=>by
   obtain ⟨p,_,hp⟩:=List.mem_flatMap.1 hu;exact pcells_one p u hp
  have HO:=Lib.hid hone;generalize hN:l.length=N at *;have HN:=Lib.hid hN;clear h hx hone hN;have HS2:Hid (Sl (w.alloc (.cells #[] 35)) (.slice (some ⟨g,o,none⟩) N c) N 8 (pts l)):=Lib.hid (by have:=HS.out;unfold PV at this;rw [HN.out] at this;exact this);go_enter Tryz.func95,Tryz.ntmps95;go_wp2_with (at_builtin;refine wpList_appX rfl _ _ _ rfl ti_pt (owns_empty w) (by simp) rfl rfl HS2.out HO.out (by omega) (by decide) ?_)
  intro v' w' hown hst;have hb:Below w.heap.size w w':=hst.below ((Below.refl _ w).alloc (Nat.le_refl _) _) (by simp) (fun r hr=>by simp [Value.ownBlock] at hr;omega);have hown':Hid (w'.ownsRow w.heap.size 35 8 v' N (pts l)):=Lib.hid (by simpa using hown);clear hown;go_wp2;go_ret;exact ⟨_,rfl,hown'.out,hb⟩

theorem owns_grown (w:World) (N cap:Nat) (z:Value) (hz:z.cells.size=8) (hN:N≤cap) (hc:cap≤maxLen) :
 (w.drew.alloc (.cells (([]:List Value).toArray++Builtin.zeroCells z.cells (0+N-0)++Builtin.zeroCells z.cells (cap-(0+N))) 35)).ownsRow w.heap.size 35 8 (.slice (some ⟨w.heap.size,0,none⟩) 0 cap) 0 []:=by
 refine ⟨rfl,.inr ⟨w.heap.size,cap,_,rfl,Nat.le_refl _,heap_alloc_new w.drew _,Nat.zero_le _,hc,?_,by simp⟩⟩;simp only [Array.size_append,size_zeroCells,hz];simp;omega
theorem grow_any (N:Nat) (w:World) (h0:0<N) (hN:N≤2000000) :
 Calls Tryz.prog 132 #[.slice none 0 0,.int .i64 N] w fun e w'=>∃ v',e=.returned v'∧w'.ownsRow w.heap.size 35 8 v' 0 []∧Below w.heap.size w w':=by
 obtain ⟨i,hi,hz,hs,hb⟩:=info_parts (show (Tryz.prog.info? 35).map (fun i=>(i.zero,i.size,i.bytes))=some (some (.agg #[.bool false,.string ⟨#[]⟩,.bool false,.string ⟨#[]⟩,.bool false,.string ⟨#[]⟩,.bool false,.string ⟨#[]⟩]),8,96) by kernel_rfl);have h:=Any8.slices_Grow_grow (P:=Tryz.prog) Tryz.growPt i _ hi hz (by rw [hs];decide) none 0 0 N [] w (Nat.le_refl _) (by omega) (by rw [hb];omega) (by omega) (by simp) (fun _=>rfl) (fun a ha=>by cases ha);refine h.mono fun e w' ⟨he,hw⟩=>⟨_,he,?_,?_⟩
 ·rw [hw]
  exact owns_grown w N _ _ rfl (by have:=grownCap_ge w (0+N) 0 35;rw [Nat.zero_add] at this ⊢;exact this) (grownCap_le_maxLen w (0+N) 0 _ (by simp [maxLen];omega))
 ·rw [hw]
  exact (Below.refl _ w).drew.alloc (Nat.le_refl _) _
theorem grow_sum (Na Nb:Nat) (w:World) (h0:0<Na+Nb) (hN:Na+Nb≤2000000) :
 Calls Tryz.prog 132 #[.slice none 0 0,.int .i64 ((Na:Int)+(Nb:Int))] w fun e w'=>∃ v',e=.returned v'∧w'.ownsRow w.heap.size 35 8 v' 0 []∧Below w.heap.size w w':=by
 have h:=grow_any (Na+Nb) w h0 hN;rw [Int.natCast_add] at h;exact h
theorem owns_mono {w:World} {base base':Nat} {e:TypeId} {size n:Nat} {v:Value} {xs:List Value} (h:w.ownsRow base e size v n xs) (hb:base'≤base):w.ownsRow base' e size v n xs:=by
 refine ⟨h.1,?_⟩;rcases h.2 with hn|⟨g,cap,cur,rfl,hbg,rest⟩
 ·exact .inl hn
 ·exact .inr ⟨g,cap,cur,rfl,Nat.le_trans hb hbg,rest⟩
theorem pts_one (l:List (Rat×Rat)):∀ u∈pts l,u.oneCell'=true:=fun u hu=>by
 obtain ⟨p,_,hp⟩:=List.mem_flatMap.1 hu;exact pcells_one p u hp
set_option maxHeartbeats 1000000 in
theorem concat_any (va vb:Value) (la lb:List (Rat×Rat)) (g:Nat) (w:World) (ha:PV w va la) (hb:PV w vb lb) (h0:w.cell? ⟨g,0,none⟩=some va) (h1:w.cell? ⟨g,1,none⟩=some vb) (hna:la.length≤1000000) (hnb:lb.length≤1000000) (hpos:0<la.length+lb.length) :
 Calls Tryz.prog 110 #[.slice (some ⟨g,0,none⟩) 2 2] w fun e w'=>∃ v',e=.returned v'∧PV w' v' (la++lb)∧Below w.heap.size w w':=by
 have HA:=Lib.hid ha;have HB:=Lib.hid hb;have hg:g<w.heap.size:=World.block_lt_of_cell? _ _ h0;obtain ⟨Aa,ca,rfl,hca,hma,hxa⟩:=ha.open_;obtain ⟨Ab,cb,rfl,hcb,hmb,hxb⟩:=hb.open_;generalize hNa:la.length=Na at *;generalize hNb:lb.length=Nb at *;have HNa:=Lib.hid hNa;have HNb:=Lib.hid hNb;clear ha hb hxa hxb hNa hNb;have KG:=Lib.hid (fun W=>grow_sum Na Nb W (by omega) (by omega));go_enter Tryz.func110,Tryz.ntmps110;go_wp2_with fail;go_loopw [3,11] (fun t i wr=>(i=.int .i64 0∧t=.int .i64 0∨i=.int .i64 1∧t=.int .i64 Na∨i=.int .i64 2∧t=.int .i64 ((Na:Int)+(Nb:Int)))∧Below w.heap.size w wr) (fun _ i _=>2-(intOf i).toNat)
 case atStart=>exact ⟨.inl ⟨rfl,rfl⟩,Below.refl _ _⟩
 case round =>
  obtain ⟨⟨rfl,rfl⟩|⟨rfl,rfl⟩|⟨rfl,rfl⟩,hB0⟩:=hrel
  all_goals have v0:=(hB0.cell (p:=⟨g,0,none⟩) hg).trans h0
  all_goals have v1:=(hB0.cell (p:=⟨g,1,none⟩) hg).trans h1
  ·go_wp2_with fail
   go_roundw
   case rel=>exact ⟨.inr (.inl ⟨rfl,rfl⟩),hB0⟩
   case measure=>simp [intOf]
  ·have p1:¬ ((Na:Int)+(Nb:Int)<0):=by omega
   go_wp2_with fail;go_roundw
   case rel=>exact ⟨.inr (.inr ⟨rfl,rfl⟩),hB0⟩
   case measure=>simp [intOf]
  ·go_wp2_with fail
   with_reducible refine (KG.out _).mono ?_
   rintro e w1 ⟨vg,rfl,hown1,hb1⟩;have O1:=Lib.hid hown1;have hb1:=bel_up hB0 hb1;clear hown1;go_wp2_with fail;go_loopw [6,27] (fun v i wr=>(i=.int .i64 0∧wr.ownsRow w.heap.size 35 8 v 0 []∨i=.int .i64 1∧wr.ownsRow w.heap.size 35 8 v Na (pts la)∨i=.int .i64 2∧wr.ownsRow w.heap.size 35 8 v (Na+Nb) (pts la++pts lb))∧Below w.heap.size w wr) (fun _ i _=>2-(intOf i).toNat)
   case atStart=>exact ⟨.inl ⟨rfl,owns_mono O1.out hB0.size⟩,hb1⟩
   case round =>
    obtain ⟨⟨rfl,ho⟩|⟨rfl,ho⟩|⟨rfl,ho⟩,hB⟩:=hrel
    ·have O2:=Lib.hid ho
     have HA1:=Lib.hid (HA.out.up hB);have u0:=(hB.cell (p:=⟨g,0,none⟩) hg).trans h0;have HA2:Hid (Sl wr (.slice Aa Na ca) Na 8 (pts la)):=Lib.hid (by have:=HA1.out;unfold PV at this;rw [HNa.out] at this;exact this);clear ho h0 h1;go_wp2_with (at_builtin;refine wpList_appX rfl _ _ _ rfl ti_pt O2.out hB.size rfl rfl HA2.out (pts_one la) (by omega) (by decide) ?_)
     intro v' w' hown hst;have hB2:Below w.heap.size w w':=hst.below hB hB.size (fun r hr=>(O2.out.lt r hr).1);have hown':Hid (w'.ownsRow w.heap.size 35 8 v' Na (pts la)):=Lib.hid (by simpa using hown);clear hown;go_wp2_with fail;go_roundw
     case rel=>exact ⟨.inr (.inl ⟨rfl,hown'.out⟩),hB2⟩
     case measure=>simp [intOf]
    ·have O2:=Lib.hid ho
     have HB1:=Lib.hid (HB.out.up hB);have u1:=(hB.cell (p:=⟨g,1,none⟩) hg).trans h1;have HB2:Hid (Sl wr (.slice Ab Nb cb) Nb 8 (pts lb)):=Lib.hid (by have:=HB1.out;unfold PV at this;rw [HNb.out] at this;exact this);clear ho h0 h1;go_wp2_with (at_builtin;refine wpList_appX rfl _ _ _ rfl ti_pt O2.out hB.size rfl rfl HB2.out (pts_one lb) (by omega) (by decide) ?_)
     intro v' w' hown hst;have hB2:Below w.heap.size w w':=hst.below hB hB.size (fun r hr=>(O2.out.lt r hr).1);have hown':=Lib.hid hown;clear hown;go_wp2_with fail;go_roundw
     case rel=>exact ⟨.inr (.inr ⟨rfl,hown'.out⟩),hB2⟩
     case measure=>simp [intOf]
    ·have O2:=Lib.hid ho
     have HP:Hid (pts la++pts lb=pts (la++lb)):=Lib.hid (by simp [pts]);clear ho;go_wp2;go_ret;exact ⟨_,rfl,pv_own (n:=Na+Nb) (by rw [← HP.out];exact O2.out),hB⟩
def Apart (l:List (Rat×Rat)):Prop:=∀ (k:Nat) x y,l[k]?=some x→l[k+1]?=some y→y≠x
set_option maxHeartbeats 1000000 in
theorem compact_apart (v:Value) (l:List (Rat×Rat)) (w:World) (h:PV w v l) (hn:l.length≤1000000) (ha:Apart l) :
 Calls Tryz.prog 107 #[v] w fun e w'=>e=.returned v∧Below w.heap.size w w':=by
 obtain ⟨A,c,rfl,hc,hm,hx⟩:=h.open_;have HX:=Lib.hid hx;have HA:=Lib.hid ha;generalize hN:l.length=N at *;have HN:=Lib.hid hN;clear h hx ha hN
 by_cases h2:N<2
 ·have i1:(N:Int)<2:=by omega
  go_enter Tryz.func107,Tryz.ntmps107;go_wp2;go_ret;exact ⟨rfl,Below.refl _ _⟩
 ·have i1:¬ (N:Int)<2:=by omega
  go_enter Tryz.func107,Tryz.ntmps107;go_wp2_with fail;go_loopw [3] (fun i wr=>∃ k:Nat,k+1≤N∧i=.int .i64 (k+1:Nat)∧Below w.heap.size w wr) (fun i _=>N-(intOf i).toNat)
  case atStart=>exact ⟨0,by omega,rfl,Below.refl _ _⟩
  case round =>
   obtain ⟨k,hk,rfl,hB⟩:=hrel
   by_cases hlt:k+1<N
   ·have i2:((k+1:Nat):Int)<N:=by omega
    have i3:(k:Int)<N:=by omega
    obtain ⟨x,hx⟩:∃ x,l[k]?=some x:=⟨_,List.getElem?_eq_getElem (by rw [HN.out];omega)⟩
    obtain ⟨y,hy⟩:∃ y,l[k+1]?=some y:=⟨_,List.getElem?_eq_getElem (by rw [HN.out];omega)⟩
    have hne:=HA.out k x y hx hy;have EQ:=fun W=>eqP_in y x W
    rw [decide_eq_false hne] at EQ;obtain ⟨g,o,hA,-⟩:=HX.out _ _ hx;subst hA;have c1:=LX.at_ (HX.out.up kpP hB) hx;have c2:=LX.at_ (HX.out.up kpP hB) hy;have d1:=fun b:Bel wr=>c1.bel b
    have d2:=fun b:Bel wr=>c2.bel b
    simp only [CE] at d1 d2;have e1:((k+1:Nat):Int)-1=(k:Int):=by omega
    have e2:IntKind.i64.wrap (((k+1:Nat):Int)-1)=(k:Int):=by simp [IntKind.wrap,IntKind.bits,IntKind.signed];omega
    have e3:wrap64 (((k+1:Nat):Int)-1)=(k:Int):=by unfold wrap64;omega
    have HK:Hid (((k+1:Nat):Int)=(k:Int)+1):=Lib.hid (by omega);clear hx hy hne c1 c2;go_wp2_with fail;refine wp_region_all (by kernel_rfl) (by kernel_rfl) ?_;repeat (go_big_quiet_step (fail))
    refine wpQuiet_nil ?_;intro w1 hb1;have hB1:Below w.heap.size w w1:=bel_up hB hb1;clear d1 d2;go_wp2;go_roundw
    case rel=>exact ⟨k+1,by omega,congrArg (Value.int .i64) (by omega),hB1⟩
    case measure=>simp [intOf];omega
   ·have i2:¬ ((k+1:Nat):Int)<N:=by omega
    go_wp2;go_ret;exact ⟨rfl,hB⟩
end Go.Proofs.YtdkkjfnpinckjaaGreatDoor

namespace Go.Proofs.YtdkkjfnpinckjaaGreatDoor
open Go Go.RowKit

theorem chainGo_snoc (l:List (Rat×Rat)) (x:Rat×Rat):Pl.chainGo (l++[x]) []=x :: Pl.popTo x (Pl.chainGo l []):=by
 unfold Pl.chainGo;rw [List.foldl_append];rfl
theorem take_snoc' {l:List (Rat×Rat)} {k:Nat} {x:Rat×Rat} (h:l[k]?=some x):l.take (k+1)=l.take k++[x]:=by
 rw [List.take_add_one,h];rfl
theorem popTo_short (p:Rat×Rat):∀ {st:List (Rat×Rat)},st.length<2→Pl.popTo p st=st
 | [],_=>rfl
 | [_],_=>rfl
 | _ :: _ :: _,h=>by simp at h;omega
theorem popTo_pop (p:Rat×Rat) (M:List (Rat×Rat)) (a b:Rat×Rat) (h:Pl.turn a b p≤0):Pl.popTo p (M++[a,b]).reverse=Pl.popTo p (M++[a]).reverse:=by
 rw [List.reverse_append,List.reverse_append];show Pl.popTo p (b :: a :: M.reverse)=Pl.popTo p (a :: M.reverse);rw [Pl.popTo,if_pos h]
theorem popTo_stay (p:Rat×Rat) (M:List (Rat×Rat)) (a b:Rat×Rat) (h:¬ Pl.turn a b p≤0):Pl.popTo p (M++[a,b]).reverse=(M++[a,b]).reverse:=by
 rw [List.reverse_append];show Pl.popTo p (b :: a :: M.reverse)=b :: a :: M.reverse;rw [Pl.popTo,if_neg h]
theorem two_last {n:Nat} {M:List (Rat×Rat)} (h:2≤M.length) (hn:n=M.length):∃ m M2 q1 q2,n=m+2∧M=M2++[q1,q2]:=by
 rcases List.eq_nil_or_concat M with h0|⟨M1,q2,h1⟩
 ·rw [h0] at h;simp at h
 ·rcases List.eq_nil_or_concat M1 with h0|⟨M2,q1,h2⟩
  ·rw [h1,h0] at h;simp at h
  ·exact ⟨M2.length,M2,q1,q2,by rw [hn,h1,h2];simp,by rw [h1,h2];simp⟩
theorem subS (m:Nat) (h:m≤1000000000):IntKind.i64.wrap (((m+2:Nat):Int)-2)=m∧wrap64 (((m+2:Nat):Int)-2)=m∧IntKind.i64.wrap (((m+2:Nat):Int)-1)=m+1∧wrap64 (((m+2:Nat):Int)-1)=m+1 ∧
 ((m+2:Nat):Int)-2=m∧((m+2:Nat):Int)-1=m+1:=by
 refine ⟨?_,?_,?_,?_,by omega,by omega⟩
 ·simp [IntKind.wrap,IntKind.bits,IntKind.signed];omega
 ·unfold wrap64;omega
 ·simp [IntKind.wrap,IntKind.bits,IntKind.signed];omega
 ·unfold wrap64;omega
theorem owns_pop_pt {w:World} {base m g cap:Nat} {M:List (Rat×Rat)} {a b:Rat×Rat} (h:w.ownsRow base 35 8 (.slice (some ⟨g,0,none⟩) (m+2) cap) (m+2) (pts (M++[a,b]))) (hM:M.length=m) :
 w.ownsRow base 35 8 (.slice (some ⟨g,0,none⟩) (m+1) cap) (m+1) (pts (M++[a])):=by
 have e:pts (M++[a,b])=pts (M++[a])++pcells b:=by rw [← pts_snoc];simp
 rw [e] at h;exact ownsRow_pop (by rw [pts_length];simp [hM]) h

set_option maxHeartbeats 2000000 in
theorem chain_any {S:Nat} (v:Value) (l:List (Rat×Rat)) (w:World) (h:PV w v l) (hs:∀ q∈l,Pl.SzP S q) (hn:l.length≤1000000) (hS:S≤100000) :
 Calls Tryz.prog 108 #[v] w fun e w'=>∃ v' n',e=.returned v'∧w'.ownsRow w.heap.size 35 8 v' n' (pts (Pl.chain l))∧Below w.heap.size w w':=by
 obtain ⟨A,c,rfl,hc,hm,hx⟩:=h.open_;have HV:=Lib.hid h;have HX:=Lib.hid hx;have HS:=Lib.hid hs;have HR:Hid (Pl.chain l=(Pl.chainGo l []).reverse):=Lib.hid rfl;have HF:Hid (l.take l.length=l):=Lib.hid List.take_length;generalize hN:l.length=N at *;have HN:=Lib.hid hN;clear h hx hs hN;go_enter Tryz.func108,Tryz.ntmps108;go_wp2_with fail;go_loopw [3,8] (fun s3 s8 wr=>∃ (k:Nat) (n:Nat) (L:List (Rat×Rat)),s8=.int .i64 k∧wr.ownsRow w.heap.size 35 8 s3 n (pts L)∧Below w.heap.size w wr∧k≤N∧n≤k∧Hid (L.reverse=Pl.chainGo (l.take k) [])∧Hid (∀ q∈L,Pl.SzP S q)) (fun _ s8 _=>N-(intOf s8).toNat)
 case atStart=>exact ⟨0,0,([]),rfl,World.ownsRow_nil _ _ _ _,Below.refl _ _,(by omega),(by omega),Lib.hid rfl,Lib.hid (fun _ h=>by cases h)⟩
 case round =>
  obtain ⟨k,n,L,rfl,o1,hB2,hk,hnk,HE,HLS⟩:=hrel;obtain ⟨wr3,hwr3⟩:∃ W_,W_=wr:=⟨_,rfl⟩
  subst hwr3;have O4:=Lib.hid o1;clear o1
  by_cases hltk:k<N
  ·skip
   have i1k:(k:Int)<N:=by omega
   obtain ⟨x5,hx6⟩:∃ x,l[k]?=some x:=⟨_,List.getElem?_eq_getElem (by rw [HN.out];omega)⟩
   have Hhx6:=Lib.hid hx6;have Zhx6:=Lib.hid (HS.out _ (List.mem_of_getElem? hx6));clear hx6;have HT:Hid (Pl.chainGo (l.take (k+1)) []=x5 :: Pl.popTo x5 (Pl.chainGo (l.take k) [])):=Lib.hid (by rw [take_snoc' Hhx6.out,chainGo_snoc]);obtain ⟨g8,o9,ha10,-⟩:=(HX.out).up kpP hB2 _ _ Hhx6.out;subst ha10;have ce7:=LX.at_ ((HX.out).up kpP hB2) Hhx6.out;have ce7_:g8<wr3.heap.size:=World.block_lt_of_cell? _ _ ce7.1;have uce7:=ce7;simp only [CE,Nat.reduceMul] at uce7;have f11:=owns_new0 O4.out;have ne12_:g8<wr3.heap.size:=by omega
   have ne12:=Nat.ne_of_lt ne12_;have ne12':=ne12.symm;go_wp2_with fail;refine wp_named ?_;intro W1 hW1;have hL1:Below wr3.heap.size wr3 W1:=by rw [hW1];exact bB
   have c13:Own W1 wr3.heap.size 0 [.bool (ng x5.1.num),.string (mg x5.1.num.natAbs),.bool false,.string (mg (dn x5.1)),.bool (ng x5.2.num),.string (mg x5.2.num.natAbs),.bool false,.string (mg (dn x5.2))]:=by
    rw [hW1]
    first
    | (repeat (first|(with_reducible refine own_new (l:=[.bool (ng x5.1.num),.string (mg x5.1.num.natAbs),.bool false,.string (mg (dn x5.1)),.bool (ng x5.2.num),.string (mg x5.2.num.natAbs),.bool false,.string (mg (dn x5.2))]) ?_;(simp;done))|with_reducible refine Own.alloc ?_ _|refine Own.far _ _ (by first|(simp;done)|(simp [*];done)|(simp;omega)) ?_));done
    | simp [Own,go_sem,uce7,ne12,ne12',ne12_]
   have O14:=Lib.hid (owns_up O4.out hL1);have hB15:Below w.heap.size w W1:=by rw [hW1];exact bB
   clear hW1 hL1 uce7;go_loopw [3] (fun s3 wr=>∃ (n2:Nat) (M:List (Rat×Rat)),Own wr wr3.heap.size 0 [.bool (ng x5.1.num),.string (mg x5.1.num.natAbs),.bool false,.string (mg (dn x5.1)),.bool (ng x5.2.num),.string (mg x5.2.num.natAbs),.bool false,.string (mg (dn x5.2))]∧wr.ownsRow w.heap.size 35 8 s3 n2 (pts M)∧Value.ownBlock s3≠some wr3.heap.size∧Below w.heap.size w wr∧n2≤k∧Hid (Pl.popTo x5 M.reverse=Pl.popTo x5 (Pl.chainGo (l.take k) []))∧Hid (∀ q∈M,Pl.SzP S q)) (fun s3 _=>lenV s3)
   case atStart=>exact ⟨n,L,c13,O14.out,f11,hB15,(by omega),Lib.hid (by rw [HE.out]),Lib.hid HLS.out⟩
   case round =>
    clear c13 hB15 O14;obtain ⟨n2,M,b16,o17,f18,hB19,hn2,HP,HM⟩:=hrel;obtain ⟨wr20,hwr20⟩:∃ W_,W_=wr:=⟨_,rfl⟩
    subst hwr20;have O21:=Lib.hid o17;clear o17;have HML:Hid (n2=M.length):=Lib.hid (by have:=O21.out.1;rw [pts_length] at this;omega)
    by_cases h2:n2<2
    ·skip
     have i2:¬ (2:Int)≤n2:=by omega
     have i2b:decide ((2:Int)≤n2)=false:=decide_eq_false i2;have HS2:Hid (Pl.popTo x5 M.reverse=M.reverse):=Lib.hid (popTo_short _ (by rw [List.length_reverse,← HML.out];exact h2));obtain ⟨A2,c2,hv2⟩:∃ A c,u3=.slice A n2 c:=(owns_open O21.out).2.imp fun A h=>h.imp fun c h=>h.1
     subst hv2;go_wp2_with fail;refine wp_named ?_;intro W2 hW2;have hL2:Below wr20.heap.size wr20 W2:=by rw [hW2];exact bB
     have c22:=b16.up hL2;have O23:=Lib.hid (owns_up O21.out hL2);have hB24:Below w.heap.size w W2:=by rw [hW2];exact bB
     clear hW2 hL2 b16;have dc22:=fun p:Bel W2=>c22.bel p
     simp only [At,Own,Nat.reduceAdd,and_true] at dc22;refine wp_region_all (by kernel_rfl) (by kernel_rfl) ?_;repeat (go_big_quiet_step (fail))
     refine wpQuiet_nil ?_;intro w2 hb2;have c25:=c22.up hb2;have O26:=Lib.hid (owns_up O23.out hb2);have hB27:Below w.heap.size w w2:=bel_up hB24 hb2;clear dc22 c22 O23;have uc25:=c25;simp only [At,Own,Nat.reduceAdd,and_true] at uc25;go_wp2_with (at_builtin;refine wpList_appF rfl _ _ _ rfl ti_pt O26.out (hB27).size rfl rfl rfl rfl (pcells_one x5) (by omega) (by decide) ?_)
     intro v28 w_v28 hown_v28 hst_v28;have O30:Hid (w_v28.ownsRow w.heap.size 35 8 v28 ((n2+1)) (pts (M++[x5]))):=Lib.hid (by rw [pts_snoc];exact hown_v28);have c31:=Own.step hst_v28 f18 c25;have f32:=hst_v28.far _ c25.lt f18;have hB33:Below w.heap.size w w_v28:=hst_v28.below hB27 (hB27).size (fun r hr=>(O26.out.lt r hr).1);clear uc25 hown_v28 c25;have uc31:=c31;simp only [At,Own,Nat.reduceAdd,and_true] at uc31;go_wp2;go_roundw
     case rel=>exact ⟨(k+1),(n2+1),(M++[x5]),(by first|rfl|exact congrArg (Value.int .i64) (by omega)|simp [*]),(by repeat (first|with_reducible exact O30.out|refine owns_far ?_ _ (by first|exact f32) _|with_reducible refine World.ownsRow.alloc ?_ _)),(by exact bB),(by omega),(by omega),Lib.hid (by rw [HT.out,← HP.out,HS2.out];simp),Lib.hid (fun q hq=>by rcases List.mem_append.1 hq with h|h;exact HM.out q h;rw [List.mem_singleton.1 h];exact Zhx6.out)⟩
     case measure=>simp [intOf]<;>omega
    ·skip
     obtain ⟨m,M2,q1,q2,hm,hM⟩:∃ m M2 q1 q2,n2=m+2∧M=M2++[q1,q2]:=two_last (by rw [← HML.out];omega) HML.out
     subst hm;subst hM;obtain ⟨g2,cap2,hv2,hnc2,hcm2,hg2,hbg2⟩:=owns_form O21.out (by omega);subst hv2;have i2:(2:Int)≤((m+2:Nat):Int):=by omega
     have i2b:decide ((2:Int)≤((m+2:Nat):Int))=true:=decide_eq_true (by omega);have i2c:decide ((2:Int)≤(m:Int)+2)=true:=decide_eq_true (by omega);have i3:(m:Int)<((m+2:Nat):Int):=by omega
     have hML2:M2.length=m:=by have:=HML.out;simp at this;omega
     have hq1:(M2++[q1,q2])[m]?=some q1:=by rw [List.getElem?_append_right (by omega),hML2,Nat.sub_self];rfl
     have hq2:(M2++[q1,q2])[m+1]?=some q2:=by rw [List.getElem?_append_right (by omega),hML2,Nat.add_sub_cancel_left];rfl
     have HQ1:=Lib.hid hq1;have HQ2:=Lib.hid hq2;have ZQ1:=Lib.hid (HM.out q1 (by simp));have ZQ2:=Lib.hid (HM.out q2 (by simp));have HML2:=Lib.hid hML2;obtain ⟨r1,r2,r3,r4,r5,r6⟩:=subS m (by omega);clear hq1 hq2 hML2;have kK34:=fun W=>orient_any q1 q2 x5 W ZQ1.out ZQ2.out Zhx6.out (by omega) (by omega) (by omega)
     generalize hT36:Pl.turn q1 q2 x5=t35 at kK34;have K34:=Lib.hid kK34;clear kK34;have T37:=Lib.hid (sgn3 hT36);have HhT36:=Lib.hid hT36;clear hT36;go_wp2_with fail;refine wp_named ?_;intro W3 hW3;have hL3:Below wr20.heap.size wr20 W3:=by rw [hW3];exact bB
     have c38:=b16.up hL3;have O39:=Lib.hid (owns_up O21.out hL3);have hB40:Below w.heap.size w W3:=by rw [hW3];exact bB
     clear hW3 hL3 b16;have dc38:=fun p:Bel W3=>c38.bel p
     simp only [At,Own,Nat.reduceAdd,and_true] at dc38;have ce41:=LX.at_ (owns_viewP O39.out) HQ1.out;have dce41:=fun b:Bel W3=>ce41.bel b
     simp only [CE,Nat.reduceMul,Nat.zero_add] at dce41;have ce42:=LX.at_ (owns_viewP O39.out) HQ2.out;have dce42:=fun b:Bel W3=>ce42.bel b
     simp only [CE,Nat.reduceMul,Nat.zero_add] at dce42;refine wp_region_all (by kernel_rfl) (by kernel_rfl) ?_;repeat (go_big_quiet_step (first|(go_at_call 55;with_reducible exact Calls.bel (K34.out _))))
     refine wpQuiet_nil ?_;intro w3 hb3;have c43:=c38.up hb3;have O44:=Lib.hid (owns_up O39.out hb3);have hB45:Below w.heap.size w w3:=bel_up hB40 hb3;clear dc38 dce41 dce42 c38 O39;have uc43:=c43;simp only [At,Own,Nat.reduceAdd,and_true] at uc43;rcases T37.out with rfl|rfl|rfl
     ·skip
      skip
      have O46:Hid (w3.ownsRow w.heap.size 35 8 (.slice (some ⟨g2,0,none⟩) (m+2-1) cap2) (m+1) (pts (M2++[q1]))):=Lib.hid (owns_pop_pt O44.out HML2.out);go_wp2;go_roundw
      case rel=>exact ⟨(m+1),(M2++[q1]),(by repeat (first|with_reducible exact c43|refine Own.far _ _ (by simp<;>omega) ?_|with_reducible refine Own.alloc ?_ _)),(by repeat (first|with_reducible exact O46.out|refine owns_far ?_ _ (by first|exact f18) _|with_reducible refine World.ownsRow.alloc ?_ _)),f18,(by exact bB),(by omega),Lib.hid (by rw [← HP.out];exact (popTo_pop _ _ _ _ (by rw [HhT36.out];decide)).symm),Lib.hid (fun q hq=>HM.out q (by simp at hq ⊢;rcases hq with h|h<;>simp [h]))⟩
      case measure=>simp [lenV]
     ·skip
      skip
      have O47:Hid (w3.ownsRow w.heap.size 35 8 (.slice (some ⟨g2,0,none⟩) (m+2-1) cap2) (m+1) (pts (M2++[q1]))):=Lib.hid (owns_pop_pt O44.out HML2.out);go_wp2;go_roundw
      case rel=>exact ⟨(m+1),(M2++[q1]),(by repeat (first|with_reducible exact c43|refine Own.far _ _ (by simp<;>omega) ?_|with_reducible refine Own.alloc ?_ _)),(by repeat (first|with_reducible exact O47.out|refine owns_far ?_ _ (by first|exact f18) _|with_reducible refine World.ownsRow.alloc ?_ _)),f18,(by exact bB),(by omega),Lib.hid (by rw [← HP.out];exact (popTo_pop _ _ _ _ (by rw [HhT36.out];decide)).symm),Lib.hid (fun q hq=>HM.out q (by simp at hq ⊢;rcases hq with h|h<;>simp [h]))⟩
      case measure=>simp [lenV]
     ·skip
      go_wp2_with (at_builtin;refine wpList_appF rfl _ _ _ rfl ti_pt O44.out (hB45).size rfl rfl rfl rfl (pcells_one x5) (by omega) (by decide) ?_)
      intro v48 w_v48 hown_v48 hst_v48;have O50:Hid (w_v48.ownsRow w.heap.size 35 8 v48 ((m+2+1)) (pts (M2++[q1,q2]++[x5]))):=Lib.hid (by rw [pts_snoc];exact hown_v48);have c51:=Own.step hst_v48 f18 c43;have f52:=hst_v48.far _ c43.lt f18;have hB53:Below w.heap.size w w_v48:=hst_v48.below hB45 (hB45).size (fun r hr=>(O44.out.lt r hr).1);clear uc43 hown_v48 c43;have uc51:=c51;simp only [At,Own,Nat.reduceAdd,and_true] at uc51;go_wp2;go_roundw
      case rel=>exact ⟨(k+1),(m+2+1),(M2++[q1,q2]++[x5]),(by first|rfl|exact congrArg (Value.int .i64) (by omega)|simp [*]),(by repeat (first|with_reducible exact O50.out|refine owns_far ?_ _ (by first|exact f52) _|with_reducible refine World.ownsRow.alloc ?_ _)),(by exact bB),(by omega),(by omega),Lib.hid (by rw [HT.out,← HP.out,popTo_stay _ _ _ _ (by rw [HhT36.out];decide)];simp),Lib.hid (fun q hq=>by rcases List.mem_append.1 hq with h|h;exact HM.out q h;rw [List.mem_singleton.1 h];exact Zhx6.out)⟩
      case measure=>simp [intOf]<;>omega
  ·skip
   have hkN:N=k:=by omega
   subst hkN;go_wp2;go_ret;exact ⟨_,_,rfl,(by rw [HR.out,← HF.out,← HE.out,List.reverse_reverse];exact O4.out),(by exact bB)⟩
end Go.Proofs.YtdkkjfnpinckjaaGreatDoor

namespace Go.Proofs.YtdkkjfnpinckjaaGreatDoor
open Go Go.RowKit

theorem Sl.step {w w':World} {v u u':Value} {n k:Nat} {xs:List Value} (h:Sl w v n k xs) (s:Step w w' u u') (hf:∀ a m c,v=.slice (some a) m c→u.ownBlock≠some a.block):Sl w' v n k xs:=by
 refine ⟨h.1,?_⟩;rcases h.2 with h2|⟨g,o,c,hv,hc,hm,hx⟩
 ·exact .inl h2
 ·exact .inr ⟨g,o,c,hv,hc,hm,fun j u hj=>s.cell (hx j u hj) (by have:=hf _ _ _ hv;exact this)⟩
theorem pts_take (l:List (Rat×Rat)) (m:Nat):(pts l).take (m*8)=pts (l.take m):=by
 induction l generalizing m with
 | nil=>simp [pts]
 | cons a l ih =>
  cases m with
  | zero=>simp [pts]
  | succ m =>
   rw [List.take_succ_cons];show List.take ((m+1)*8) (pcells a++pts l)=pcells a++pts (l.take m);rw [List.take_append,List.take_of_length_le (by rw [pcells_len];omega),pcells_len,show (m+1)*8-8=m*8 from by omega,ih]
theorem popTo_ne (p:Rat×Rat):∀ st:List (Rat×Rat),st≠[]→Pl.popTo p st≠[]
 | [],h=>h
 | [a],_=>by simp [Pl.popTo]
 | a :: b :: r,_=>by
  rw [Pl.popTo]
  split
  ·exact popTo_ne p (b :: r) (by simp)
  ·simp
theorem chainGo_len (l:List (Rat×Rat)) (h:2≤l.length):2≤(Pl.chainGo l []).length:=by
 obtain ⟨_,M,x,y,_,rfl⟩:=two_last h rfl;rw [show M++[x,y]=(M++[x])++[y] from by simp,chainGo_snoc];have h1:Pl.chainGo (M++[x]) []≠[]:=by rw [chainGo_snoc];simp
 have h2:=popTo_ne y _ h1;have h3:0<(Pl.popTo y (Pl.chainGo (M++[x]) [])).length:=List.length_pos_iff.2 h2;rw [List.length_cons];omega
theorem chain_len (l:List (Rat×Rat)) (h:2≤l.length):2≤(Pl.chain l).length:=by
 unfold Pl.chain;rw [List.length_reverse];exact chainGo_len l h
theorem chain_le:∀ (l:List (Rat×Rat)),(Pl.chain l).length≤l.length:=by
 have hp:∀ (p:Rat×Rat) (st:List (Rat×Rat)),(Pl.popTo p st).length≤st.length:=by
  intro p st
  induction st using Pl.popTo.induct p with
  | case1 b a r h ih=>rw [Pl.popTo,if_pos h];exact Nat.le_succ_of_le ih
  | case2 b a r h=>rw [Pl.popTo,if_neg h];exact Nat.le_refl _
  | case3 st h=>rw [Pl.popTo];exact Nat.le_refl _;exact h
 have H:∀ (l st:List (Rat×Rat)),(Pl.chainGo l st).length≤l.length+st.length:=by
  intro l
  induction l with
  | nil=>intro st;simp [Pl.chainGo]
  | cons p l ih =>
   intro st;have h1:=ih (p :: Pl.popTo p st);have h2:=hp p st;show (Pl.chainGo l (p :: Pl.popTo p st)).length≤_;simp only [List.length_cons] at h1 ⊢;omega
 intro l;have:=H l [];unfold Pl.chain;rw [List.length_reverse];simpa using this
theorem pv_cut {w:World} {base n g cap:Nat} {l:List (Rat×Rat)} (h:w.ownsRow base 35 8 (.slice (some ⟨g,0,none⟩) n cap) n (pts l)):PV w (.slice (some ⟨g,0,none⟩) (n-1) cap) l.dropLast:=by
 have e:n=l.length:=by have:=h.1;rw [pts_length] at this;omega
 have h1:=Sl.take (Sl.of_own h) (n-1) (by omega);rw [pts_take] at h1;unfold PV;rw [List.length_dropLast,List.dropLast_eq_take,← e];exact h1
theorem cutS (m:Nat) (h:m≤1000000000):IntKind.i64.wrap (((m+1:Nat):Int)-1)=m∧wrap64 (((m+1:Nat):Int)-1)=m∧((m+1:Nat):Int)-1=m∧(m:Int)+1-1=m:=by
 refine ⟨?_,?_,by omega,by omega⟩
 ·simp [IntKind.wrap,IntKind.bits,IntKind.signed];omega
 ·unfold wrap64;omega
theorem sortP_mem (l:List (Rat×Rat)) (q:Rat×Rat):q∈sortP l↔q∈l:=List.mem_mergeSort
theorem sortP_length (l:List (Rat×Rat)):(sortP l).length=l.length:=List.length_mergeSort _
set_option maxHeartbeats 2000000 in
theorem hull_apart {S:Nat} (v:Value) (l:List (Rat×Rat)) (w:World) (h:PV w v l) (hs:∀ q∈l,Pl.SzP S q) (hn:l.length≤1000000) (hS:S≤100000) (ha:Apart (sortP l)) :
 Calls Tryz.prog 66 #[v] w fun e w'=>∃ v',e=.returned v'∧PV w' v' (Pl.hullL (sortP l))∧Below w.heap.size w w':=by
 have KC:=Lib.hid (fun W hW=>clone_any v l W hW hn);have KS:=Lib.hid (fun u B W hW=>sort_any (S:=S) u l.length B l W hW hs hn hS);have HV:=Lib.hid h;have HS:=Lib.hid (fun q hq=>hs q ((sortP_mem l q).1 hq):∀ q∈sortP l,Pl.SzP S q);have hls:(sortP l).length=l.length:=sortP_length l;obtain ⟨s,hs1⟩:∃ s,s=sortP l:=⟨_,rfl⟩
 rw [← hs1] at HS KS ha hls ⊢;have KX:=Lib.hid (fun u W hW=>compact_apart u s W hW (by rw [hls];exact hn) ha);have KH:=Lib.hid (fun u W hW=>chain_any u s W hW HS.out (by rw [hls];exact hn) hS);have KR:=Lib.hid (fun u B W hW=>reverse_any (S:=S) u l.length B s W hW HS.out hn);have KH2:=Lib.hid (fun u W hW=>chain_any u s.reverse W hW (fun q hq=>HS.out q (List.mem_reverse.1 hq)) (by rw [List.length_reverse,hls];exact hn) hS);have HC1:=Lib.hid (chain_len s);have HC2:=Lib.hid (chain_len s.reverse);have HD1:=Lib.hid (chain_le s);have HD2:=Lib.hid (chain_le s.reverse);have HH:=Lib.hid (show s.length<3→Pl.hullL s=s from fun h=>by unfold Pl.hullL;rw [if_pos h]);have HH2:=Lib.hid (show ¬ s.length<3→Pl.hullL s=(Pl.chain s).dropLast++(Pl.chain s.reverse).dropLast from fun h=>by unfold Pl.hullL;rw [if_neg h]);have HLS:=Lib.hid hls;generalize hN:l.length=N at *;clear h hs ha hs1 hls hN;go_enter Tryz.func66,Tryz.ntmps66;go_wp2_with fail;with_reducible refine (KC.out _ HV.out).mono ?_
 rintro e w1 ⟨v1,rfl,ho1,hb1⟩;have O1:=Lib.hid ho1;clear ho1;go_wp2_with fail;with_reducible refine (KS.out _ _ _ O1.out).mono ?_
 rintro e w2 ⟨rfl,ho2,hst2⟩;have hb2:Below w.heap.size w w2:=hst2.below hb1 hb1.size (fun r hr=>(O1.out.lt r hr).1);have O2:=Lib.hid ho2;clear ho2 hst2;go_wp2_with fail;with_reducible refine (KX.out _ _ (pv_own O2.out)).mono ?_
 rintro e w3 ⟨rfl,hb3⟩;have O3:=Lib.hid (owns_up O2.out hb3);have hb3:=bel_up hb2 hb3
 by_cases h3:N<3
 ·have i1:(N:Int)<3:=by omega
  obtain ⟨A,c,hv⟩:∃ A c,v1=.slice A N c:=(owns_open O3.out).2.imp fun A h=>h.imp fun c h=>h.1
  subst hv;go_wp2;go_ret;exact ⟨_,rfl,by rw [HH.out (by rw [HLS.out];exact h3)];exact pv_own O3.out,hb3⟩
 ·have i1:¬ (N:Int)<3:=by omega
  obtain ⟨g,cap,hv,hnc,hcm,hg,hbg⟩:=owns_form O3.out (by omega);subst hv;go_wp2_with fail;with_reducible refine (KH.out _ _ (pv_own O3.out)).mono ?_
  rintro e w4 ⟨v4,n4,rfl,ho4,hb4⟩;have O4:=Lib.hid ho4;have O3b:=Lib.hid (owns_up O3.out hb4);have hb4:=bel_up hb3 hb4;clear ho4;go_wp2_with fail;with_reducible refine (KR.out _ _ _ O3b.out).mono ?_
  rintro e w5 ⟨rfl,ho5,hst5⟩;have hb5:Below w.heap.size w w5:=hst5.below hb4 hb4.size (fun r hr=>(O3b.out.lt r hr).1);have O5:=Lib.hid ho5;have O4b:=Lib.hid (owns_step hst5 O4.out (fun r hr hg'=>by have:=(O4.out.lt r hr).1;simp only [Value.ownBlock,Option.some.injEq] at hg';omega));clear ho5 hst5;go_wp2_with fail;with_reducible refine (KH2.out _ _ (pv_own O5.out)).mono ?_
  rintro e w6 ⟨v6,n6,rfl,ho6,hb6⟩;have O6:=Lib.hid ho6;have O4c:=Lib.hid (owns_up O4b.out hb6);have hb6:=bel_up hb5 hb6;clear ho6;have hn4:n4=(Pl.chain s).length:=(owns_open O4c.out).1;have hn6:n6=(Pl.chain s.reverse).length:=(owns_open O6.out).1;have g4:2≤n4:=by rw [hn4];exact HC1.out (by rw [HLS.out];omega)
  have g6:2≤n6:=by rw [hn6];exact HC2.out (by rw [List.length_reverse,HLS.out];omega)
  have d4:n4≤1000000:=by rw [hn4];exact Nat.le_trans HD1.out (by rw [HLS.out];exact hn)
  have d6:n6≤1000000:=by rw [hn6];exact Nat.le_trans HD2.out (by rw [List.length_reverse,HLS.out];exact hn)
  have HN4:=Lib.hid hn4;have HN6:=Lib.hid hn6;clear hn4 hn6;obtain ⟨x4,c4,hv4,hc4,hm4,hg4,_⟩:=owns_form O4c.out (by omega);subst hv4;obtain ⟨x6,c6,hv6,hc6,hm6,hg6,_⟩:=owns_form O6.out (by omega);subst hv6;have P4:=Lib.hid (pv_cut O4c.out);have P6:=Lib.hid (pv_cut O6.out);obtain ⟨m4,hm4'⟩:∃ m,n4=m+1:=⟨n4-1,by omega⟩
  subst hm4';obtain ⟨m6,hm6'⟩:∃ m,n6=m+1:=⟨n6-1,by omega⟩
  subst hm6';clear O4 O3b O4b;obtain ⟨r1,r2,r3,r4⟩:=cutS m4 (by omega);obtain ⟨r5,r6,r7,r8⟩:=cutS m6 (by omega);go_wp2_with fail;refine wp_region_tail 10 (by kernel_rfl) (by kernel_rfl) ?_;simp only [List.take_succ_cons,List.take_zero,List.drop_succ_cons,List.drop_zero];repeat (go_big_quiet_step (fail))
  refine wpQuiet_nil ?_;intro w7 hb7;have P4b:=Lib.hid (P4.out.up hb7);have P6b:=Lib.hid (P6.out.up hb7);have hb7:=bel_up hb6 hb7;clear P4 P6;go_wp2_with fail;refine calls_named ?_;intro W8 hW8;have hL8:Below w7.heap.size w7 W8:=by rw [hW8];repeat (first|with_reducible exact Below.refl _ _|with_reducible refine bel_alloc ?_ _)
  have z0:W8.cell? ⟨w7.heap.size,0,none⟩=some (.slice (some ⟨x4,0,none⟩) m4 c4):=by rw [hW8];simp [go_sem]
  have z1:W8.cell? ⟨w7.heap.size,1,none⟩=some (.slice (some ⟨x6,0,none⟩) m6 c6):=by rw [hW8];simp [go_sem]
  clear hW8;have q4:(Pl.chain s).dropLast.length=m4:=by rw [List.length_dropLast,← HN4.out];rfl
  have q6:(Pl.chain s.reverse).dropLast.length=m6:=by rw [List.length_dropLast,← HN6.out];rfl
  with_reducible refine (concat_any _ _ _ _ _ _ (P4b.out.up hL8) (P6b.out.up hL8) z0 z1 (by rw [q4];omega) (by rw [q6];omega) (by rw [q4,q6];omega)).mono ?_
  rintro e w9 ⟨v9,rfl,hp9,hb9⟩;have hb9:=bel_up (bel_up hb7 hL8) hb9;have P9:=Lib.hid hp9;clear hp9 z0 z1 hL8 q4 q6;go_wp2;go_ret;exact ⟨_,rfl,by rw [HH2.out (by rw [HLS.out];exact h3)];exact P9.out,hb9⟩
end Go.Proofs.YtdkkjfnpinckjaaGreatDoor

namespace Go.Proofs.YtdkkjfnpinckjaaGreatDoor
open Go Go.RowKit

def sumL (a b:List (Rat×Rat)):List (Rat×Rat):=a.flatMap fun p=>b.map (Pl.addP p)
theorem sumL_snoc (a b:List (Rat×Rat)) (p:Rat×Rat):sumL (a++[p]) b=sumL a b++b.map (Pl.addP p):=by simp [sumL]
theorem take_snocA {l:List (Rat×Rat)} {k:Nat} {x:Rat×Rat} (h:l[k]?=some x):l.take (k+1)=l.take k++[x]:=by
 rw [List.take_add_one,h];rfl
theorem sumL_sz {S:Nat} {a b:List (Rat×Rat)} (ha:∀ q∈a,Pl.SzP S q) (hb:∀ q∈b,Pl.SzP S q):∀ q∈sumL a b,Pl.SzP (S+S+1) q:=by
 intro q hq;obtain ⟨x,hx,h⟩:=List.mem_flatMap.1 hq;obtain ⟨y,hy,rfl⟩:=List.mem_map.1 h;exact (ha x hx).add (hb y hy)
theorem sumL_length (a b:List (Rat×Rat)):(sumL a b).length=a.length*b.length:=by
 induction a with
 | nil=>simp [sumL]
 | cons x a ih=>simp only [sumL,List.flatMap_cons,List.length_append,List.length_map,List.length_cons] at *;rw [ih,Nat.add_mul];omega

theorem sum_apart {S:Nat} (va vb:Value) (a b:List (Rat×Rat)) (w:World) (ha:PV w va a) (hb:PV w vb b) (hsa:∀ q∈a,Pl.SzP S q) (hsb:∀ q∈b,Pl.SzP S q) (hna:a.length≤1000) (hnb:b.length≤1000) (hS:S≤40000) (hap:Apart (sortP (sumL a b))) :
 Calls Tryz.prog 24 #[va,vb] w fun e w'=>∃ v',e=.returned v'∧PV w' v' (Pl.hullL (sortP (sumL a b)))∧Below w.heap.size w w':=by
 have HAP:=Lib.hid hap;have HZ:=Lib.hid (sumL_sz hsa hsb);have HQ:Hid ((sumL a b).length≤1000000):=Lib.hid (by rw [sumL_length];exact Nat.le_trans (Nat.mul_le_mul hna hnb) (by decide));obtain ⟨Aa,ca,rfl,hca,hma,hxa⟩:=ha.open_;have HVA:=Lib.hid ha;have HXA:=Lib.hid hxa;have HSA:=Lib.hid hsa;obtain ⟨Ab,cb,rfl,hcb,hmb,hxb⟩:=hb.open_;have HVB:=Lib.hid hb;have HXB:=Lib.hid hxb;have HSB:=Lib.hid hsb;clear hap;have HFA:Hid (a.take a.length=a):=Lib.hid List.take_length;generalize hNa:a.length=Na at *;have HNA:=Lib.hid hNa;clear ha hxa hsa hNa;have HFB:Hid (b.take b.length=b):=Lib.hid List.take_length;generalize hNb:b.length=Nb at *;have HNB:=Lib.hid hNb;clear hb hxb hsb hNb;go_enter Tryz.func24,Tryz.ntmps24;go_wp2_with fail;go_loopw [5,12] (fun s5 s12 wr=>∃ (k:Nat) (n:Nat) (L:List (Rat×Rat)),s12=.int .i64 k∧wr.ownsRow w.heap.size 35 8 s5 n (pts L)∧Below w.heap.size w wr∧k≤Na∧n≤1001*k∧Hid (L=sumL (a.take k) b)) (fun _ s12 _=>Na-(intOf s12).toNat)
 case atStart=>exact ⟨0,0,([]),rfl,World.ownsRow_nil _ _ _ _,Below.refl _ _,(by omega),(by omega),Lib.hid rfl⟩
 case round =>
  obtain ⟨k,n,L,rfl,o1,hB2,hk,hnk,HE⟩:=hrel;obtain ⟨wr3,hwr3⟩:∃ W_,W_=wr:=⟨_,rfl⟩
  subst hwr3;have O4:=Lib.hid o1;clear o1
  by_cases hltk:k<Na
  ·skip
   have i1k:(k:Int)<Na:=by omega
   obtain ⟨x5,hx6⟩:∃ x,a[k]?=some x:=⟨_,List.getElem?_eq_getElem (by rw [HNA.out];omega)⟩
   have Hhx6:=Lib.hid hx6;have Zhx6:=Lib.hid (HSA.out _ (List.mem_of_getElem? hx6));clear hx6;have HT3:Hid (sumL (a.take (k+1)) b=sumL (a.take k) b++b.map (Pl.addP x5)):=Lib.hid (by rw [take_snocA Hhx6.out,sumL_snoc]);obtain ⟨g8,o9,ha10,-⟩:=(HXA.out).up kpP hB2 _ _ Hhx6.out;subst ha10;have ce7:=LX.at_ ((HXA.out).up kpP hB2) Hhx6.out;have ce7_:g8<wr3.heap.size:=World.block_lt_of_cell? _ _ ce7.1;have uce7:=ce7;simp only [CE,Nat.reduceMul] at uce7;have f11:=owns_new0 O4.out;have ne12_:g8<wr3.heap.size:=by omega
   have ne12:=Nat.ne_of_lt ne12_;have ne12':=ne12.symm;go_wp2_with fail;refine wp_named ?_;intro W1 hW1;have hL1:Below wr3.heap.size wr3 W1:=by rw [hW1];exact bB
   have c13:Own W1 wr3.heap.size 0 [.bool (ng x5.1.num),.string (mg x5.1.num.natAbs),.bool false,.string (mg (dn x5.1)),.bool (ng x5.2.num),.string (mg x5.2.num.natAbs),.bool false,.string (mg (dn x5.2))]:=by
    rw [hW1]
    first
    | (repeat (first|(with_reducible refine own_new (l:=[.bool (ng x5.1.num),.string (mg x5.1.num.natAbs),.bool false,.string (mg (dn x5.1)),.bool (ng x5.2.num),.string (mg x5.2.num.natAbs),.bool false,.string (mg (dn x5.2))]) ?_;(simp;done))|with_reducible refine Own.alloc ?_ _|refine Own.far _ _ (by first|(simp;done)|(simp [*];done)|(simp;omega)) ?_));done
    | simp [Own,go_sem,uce7,ne12,ne12',ne12_]
   have O14:=Lib.hid (owns_up O4.out hL1);have hB15:Below w.heap.size w W1:=by rw [hW1];exact bB
   clear hW1 hL1 uce7;go_loopw [5,18] (fun s5 s18 wr=>∃ (i:Nat) (n2:Nat) (M:List (Rat×Rat)),s18=.int .i64 i∧Own wr wr3.heap.size 0 [.bool (ng x5.1.num),.string (mg x5.1.num.natAbs),.bool false,.string (mg (dn x5.1)),.bool (ng x5.2.num),.string (mg x5.2.num.natAbs),.bool false,.string (mg (dn x5.2))]∧wr.ownsRow w.heap.size 35 8 s5 n2 (pts M)∧Value.ownBlock s5≠some wr3.heap.size∧Below w.heap.size w wr∧i≤Nb∧n2≤n+i∧Hid (M=L++(b.take i).map (Pl.addP x5))) (fun _ s18 _=>Nb-(intOf s18).toNat)
   case atStart=>exact ⟨0,n,L,rfl,c13,O14.out,f11,hB15,(by omega),(by omega),Lib.hid (by simp)⟩
   case round =>
    clear c13 hB15 O14;obtain ⟨i,n2,M,rfl,b16,o17,f18,hB19,hi,hn2,HM⟩:=hrel;obtain ⟨wr20,hwr20⟩:∃ W_,W_=wr:=⟨_,rfl⟩
    subst hwr20;have O21:=Lib.hid o17;clear o17
    by_cases hlti:i<Nb
    ·skip
     have i1i:(i:Int)<Nb:=by omega
     obtain ⟨x22,hx23⟩:∃ x,b[i]?=some x:=⟨_,List.getElem?_eq_getElem (by rw [HNB.out];omega)⟩
     have Hhx23:=Lib.hid hx23;have Zhx23:=Lib.hid (HSB.out _ (List.mem_of_getElem? hx23));clear hx23;have HT6:Hid ((b.take (i+1)).map (Pl.addP x5)=(b.take i).map (Pl.addP x5)++[Pl.addP x5 x22]):=Lib.hid (by rw [take_snocA Hhx23.out,List.map_append];rfl);obtain ⟨g25,o26,ha27,-⟩:=(HXB.out).up kpP hB19 _ _ Hhx23.out;subst ha27;have ce24:=LX.at_ ((HXB.out).up kpP hB19) Hhx23.out;have ce24_:g25<wr20.heap.size:=World.block_lt_of_cell? _ _ ce24.1;have uce24:=ce24;simp only [CE,Nat.reduceMul] at uce24;have f28:=owns_new0 O21.out;have ne29_:wr3.heap.size<wr20.heap.size:=by have:=b16.lt;omega
     have ne29:=Nat.ne_of_lt ne29_;have ne29':=ne29.symm;have ne30_:g8<wr20.heap.size:=by omega
     have ne30:=Nat.ne_of_lt ne30_;have ne30':=ne30.symm;have ne31_:g25<wr20.heap.size:=by omega
     have ne31:=Nat.ne_of_lt ne31_;have ne31':=ne31.symm;have ub16:=b16;simp only [At,Own,Nat.reduceAdd,and_true] at ub16;have K32:=Lib.hid (fun W=>padd_any x5 x22 W Zhx6.out Zhx23.out (by omega) (by omega));go_wp2_with fail;refine calls_named ?_;intro W2 hW2;have hL2:Below wr20.heap.size wr20 W2:=by rw [hW2];exact bB
     have c33:=b16.up hL2
     have c34:Own W2 wr20.heap.size 0 [.bool (ng x22.1.num),.string (mg x22.1.num.natAbs),.bool false,.string (mg (dn x22.1)),.bool (ng x22.2.num),.string (mg x22.2.num.natAbs),.bool false,.string (mg (dn x22.2))]:=by
      rw [hW2]
      first
      | (repeat (first|(with_reducible refine own_new (l:=[.bool (ng x22.1.num),.string (mg x22.1.num.natAbs),.bool false,.string (mg (dn x22.1)),.bool (ng x22.2.num),.string (mg x22.2.num.natAbs),.bool false,.string (mg (dn x22.2))]) ?_;(simp;done))|with_reducible refine Own.alloc ?_ _|refine Own.far _ _ (by first|(simp;done)|(simp [*];done)|(simp;omega)) ?_));done
      | simp [Own,go_sem,uce24,ub16,ne29,ne29',ne29_,ne30,ne30',ne30_,ne31,ne31',ne31_]
     have O35:=Lib.hid (owns_up O21.out hL2);have hB36:Below w.heap.size w W2:=by rw [hW2];exact bB
     clear hW2 hL2 uce24 ub16 b16;with_reducible refine (K32.out _).mono ?_
     rintro e w2 ⟨rfl,hb2⟩;have c37:=c33.up hb2;have c38:=c34.up hb2;have O39:=Lib.hid (owns_up O35.out hb2);have hB40:Below w.heap.size w w2:=bel_up hB36 hb2;clear c33 c34 O35;have uc37:=c37;have uc38:=c38;simp only [At,Own,Nat.reduceAdd,and_true] at uc37 uc38;go_wp2_with (at_builtin;refine wpList_appF rfl _ _ _ rfl ti_pt O39.out (hB40).size rfl rfl rfl rfl (pcells_one (Pl.addP x5 x22)) (by omega) (by decide) ?_)
     intro v41 w_v41 hown_v41 hst_v41;have O43:Hid (w_v41.ownsRow w.heap.size 35 8 v41 ((n2+1)) (pts (M++[(Pl.addP x5 x22)]))):=Lib.hid (by rw [pts_snoc];exact hown_v41);have c44:=Own.step hst_v41 f18 c37;have f45:=hst_v41.far _ c37.lt f18;have c46:=Own.step hst_v41 f28 c38;have f47:=hst_v41.far _ c38.lt f28;have hB48:Below w.heap.size w w_v41:=hst_v41.below hB40 (hB40).size (fun r hr=>(O39.out.lt r hr).1);clear uc37 uc38 hown_v41 c37 c38;have uc44:=c44;have uc46:=c46;simp only [At,Own,Nat.reduceAdd,and_true] at uc44 uc46;go_wp2;go_roundw
     case rel=>exact ⟨(i+1),(n2+1),(M++[Pl.addP x5 x22]),(by first|rfl|exact congrArg (Value.int .i64) (by omega)|simp [*]),(by repeat (first|with_reducible exact c44|refine Own.far _ _ (by simp<;>omega) ?_|with_reducible refine Own.alloc ?_ _)),(by repeat (first|with_reducible exact O43.out|refine owns_far ?_ _ (by first|exact f45|exact f47) _|with_reducible refine World.ownsRow.alloc ?_ _)),f45,(by exact bB),(by omega),(by omega),Lib.hid (by rw [HT6.out,HM.out,List.append_assoc])⟩
     case measure=>simp [intOf]<;>omega
    ·skip
     have hkN:Nb=i:=by omega
     subst hkN;have ub16:=b16;simp only [At,Own,Nat.reduceAdd,and_true] at ub16;go_wp2;go_roundw
     case rel=>exact ⟨(k+1),n2,M,(by first|rfl|exact congrArg (Value.int .i64) (by omega)|simp [*]),(by repeat (first|with_reducible exact O21.out|refine owns_far ?_ _ (by first|exact f18) _|with_reducible refine World.ownsRow.alloc ?_ _)),(by exact bB),(by omega),(by omega),Lib.hid (by rw [HT3.out,← HE.out,← HFB.out,← HM.out])⟩
     case measure=>simp [intOf]<;>omega
  ·skip
   have hkN:Na=k:=by omega
   subst hkN;have K49:=Lib.hid (fun v W hW=>hull_apart v (sumL a b) W hW HZ.out HQ.out (by omega) HAP.out);go_wp2_with fail;refine calls_named ?_;intro W3 hW3;have hL3:Below wr3.heap.size wr3 W3:=by rw [hW3];exact bB
   have O50:=Lib.hid (owns_up O4.out hL3);have hB51:Below w.heap.size w W3:=by rw [hW3];exact bB
   clear hW3 hL3;with_reducible refine (K49.out _ _ (by rw [← HFA.out,← HE.out];exact pv_own O50.out)).mono ?_
   rintro e w3 ⟨v3,rfl,hv3,hb3⟩;have O52:=Lib.hid (owns_up O50.out hb3);have hB53:Below w.heap.size w w3:=bel_up hB51 hb3;clear O50;have PW3:=Lib.hid hv3;clear hv3;go_wp2;go_ret;exact ⟨_,rfl,(by skip;exact PW3.out),(by exact bB)⟩
end Go.Proofs.YtdkkjfnpinckjaaGreatDoor
