/-
 Places in the plain: the two ways to find a place agree; every point of a set lies in its hull. No program in sight.
 What Compact leaves of sorted points; the hull of any list; a point that is farthest in some direction is a point of the hull's list.
 Rows of points that are sorted and turned round in place, by the library.
 Package slices at rows of points: Clone, Compact of rows without equal neighbours, Concat of two rows.
-/
import Derived.Test.YtiochgoocbkckaaGreatDoorAgan
import Derived.Test.YtiochgoocbkckaaGreatDoorAgao
import Derived.Test.YtiochgoocbkckaaGreatDoorShelg
import Derived.Lib.SliceRun
import Derived.Shelf.Spec.SlicesGrow
set_option maxRecDepth 100000
set_option linter.unusedSimpArgs false
set_option linter.unusedVariables false
namespace Go.Proofs.YtiochgoocbkckaaGreatDoor
namespace Pl

end Pl
end Go.Proofs.YtiochgoocbkckaaGreatDoor

namespace Go.Proofs.YtiochgoocbkckaaGreatDoor

def sortP (l:List (Rat×Rat)):List (Rat×Rat):=l.mergeSort fun x y => !Pl.lessP y x
def ddGo:Option (Rat×Rat)→List (Rat×Rat)→List (Rat×Rat)
 | _,[]=>[]
 | o,x :: l=>if o=some x then ddGo o l else x :: ddGo (some x) l
def dd (l:List (Rat×Rat)):List (Rat×Rat):=ddGo none l
theorem ddGo_snoc (x:Rat×Rat):∀ (l:List (Rat×Rat)) (o:Option (Rat×Rat)),ddGo o (l++[x])=if (l.getLast?).or o=some x then ddGo o l else ddGo o l++[x]
 | [],o=>by by_cases h:o=some x<;>simp [ddGo,h]
 | y :: l,o=>by
  have ih:=ddGo_snoc x l
  have e:((y :: l).getLast?).or o=(l.getLast?).or (some y):=by
   cases l with
   | nil=>simp
   | cons z l=>simp [List.getLast?_cons_cons,List.getLast?_cons]
  rw [e,List.cons_append,ddGo,ddGo]
  split
  ·rename_i h;rw [ih,h]
  ·rw [ih];split<;>simp
theorem dd_step {l:List (Rat×Rat)} {m:Nat} {x y:Rat×Rat} (hx:l[m]?=some x) (hy:l[m+1]?=some y) :
 dd (l.take (m+1+1))=if x=y then dd (l.take (m+1)) else dd (l.take (m+1))++[y]:=by
 have h1:l.take (m+1+1)=l.take (m+1)++[y]:=by rw [List.take_add_one,hy];rfl
 have h2:(l.take (m+1)).getLast?=some x:=by rw [List.take_add_one,hx];simp
 rw [dd,h1,ddGo_snoc,h2];simp [dd]
namespace Pl
theorem In.cr {d u:Pt} (h:In d u):0≤crossP d u:=by
 rcases h with h|⟨h,_⟩
 ·exact Rat.le_of_lt h
 ·rw [h];exact Rat.le_refl
theorem Ring.out {S:List Pt} {f a:Pt} {l:List Pt} (h:Ring S f a l):∀ v∈l,∃ b,Edge S v b∧(b∈l∨b=f):=by
 induction h with
 | last e=>intro v hv;rw [List.mem_singleton] at hv;subst hv;exact ⟨_,e,.inr rfl⟩
 | step e hn hr ih =>
  intro v hv;rcases List.mem_cons.1 hv with rfl|hv
  ·refine ⟨_,e,.inl ?_⟩
   obtain ⟨m,rfl⟩:=hr.head;simp
  ·obtain ⟨b,h1,h2⟩:=ih v hv
   exact ⟨b,h1,h2.imp (List.mem_cons_of_mem _) id⟩
theorem Ring.into {S:List Pt} {f a:Pt} {l:List Pt} (h:Ring S f a l):(∃ z∈l,Edge S z f)∧∀ v∈l,v=a∨∃ z∈l,Edge S z v:=by
 induction h with
 | last e=>exact ⟨⟨_,by simp,e⟩,fun v hv=>.inl (by simpa using hv)⟩
 | step e hn hr ih =>
  obtain ⟨⟨z,hz,h1⟩,h2⟩:=ih;refine ⟨⟨z,List.mem_cons_of_mem _ hz,h1⟩,fun v hv => ?_⟩;rcases List.mem_cons.1 hv with rfl|hv
  ·exact .inl rfl
  ·rcases h2 v hv with rfl|⟨z,hz,h3⟩
   ·exact .inr ⟨_,by simp,e⟩
   ·exact .inr ⟨z,List.mem_cons_of_mem _ hz,h3⟩
end Pl
end Go.Proofs.YtiochgoocbkckaaGreatDoor

namespace Go.Proofs.YtiochgoocbkckaaGreatDoor
open Go Go.RowKit Go.Sort Go.Lib

abbrev BP (S:Nat) := { p:Rat×Rat // Pl.SzP (S+1) p }
instance (S:Nat):Inhabited (BP S):=⟨⟨(0,0),Pl.sz_zero.mono (by omega),Pl.sz_zero.mono (by omega)⟩⟩
def encB {S:Nat} (p:BP S):List Value:=pcells p.1
theorem encB_len {S:Nat} (p:BP S):(encB p).length=8:=rfl
theorem flat_pts {S:Nat} (d:List (BP S)):(flatK encB 8 d.toArray).toList=pts (d.map (·.1)):=by
 apply List.ext_getElem?;intro t;have hl:(pts (d.map (·.1))).length=d.length*8:=by rw [pts_length,List.length_map]
 by_cases ht:t<d.length*8
 ·have h1:t/8<d.length:=by omega
  have h2:=pts_get (d.map (·.1)) (t/8) (t%8) (d[t/8]).1 (by simp [h1]) (Nat.mod_lt _ (by decide));have e:t/8*8+t%8=t:=by omega
  rw [e] at h2;rw [h2,Array.getElem?_toList];have h3:=get_flatK (encB (S:=S)) 8 d.toArray t (by simpa using ht);have hs:t<(flatK encB 8 d.toArray).size:=by simpa using ht
  rw [getElem!_pos _ t hs] at h3;rw [Array.getElem?_eq_getElem hs,h3];have h4:d.toArray[t/8]! = d[t/8]:=by simp [h1]
  rw [h4];have h5:t%8<(encB d[t/8]).length:=by rw [encB_len];exact Nat.mod_lt _ (by decide)
  rw [getElem!_pos _ (t%8) h5,← List.getElem?_eq_getElem h5];rfl
 ·rw [List.getElem?_eq_none (by simp;omega),List.getElem?_eq_none (by rw [hl];omega)]
section
variable {S:Nat} {w:World} {base n g cap:Nat} {l:List (Rat×Rat)} {cur:Array Value}
theorem holds_own (d:List (BP S)) (hn:d.length=n) (hg:w.heap[g]?=some (.cells cur 45 (0,0))) (htake:cur.toList.take (n*8)=pts (d.map (·.1))):HoldsK encB 8 w g 0 d.toArray:=by
 intro j hj;rw [size_flatK] at hj;have hj':j<n*8:=by simpa [hn] using hj
 have h1:(flatK encB 8 d.toArray)[j]?=some ((flatK encB 8 d.toArray)[j]!):=by
  have hs:j<(flatK encB 8 d.toArray).size:=by rw [size_flatK];exact hj
  rw [getElem!_pos _ j hs,Array.getElem?_eq_getElem hs]
 rw [← Array.getElem?_toList,flat_pts,← htake,List.getElem?_take,if_pos hj',Array.getElem?_toList] at h1;refine ⟨?_,by simp [World.frozen?,hg]⟩;rw [cell_of_row w g _ cur _ (0,0) hg,Nat.zero_add,h1];rfl
theorem put_own (d d':List (BP S)) (hn:d.length=n) (hn':d'.length=n) (m:Nat) (os:Array Obj) (hg:w.heap[g]?=some (.cells cur 45 (0,0))) (hb:base≤g) (hnc:n≤cap) (hcm:cap≤maxLen) (hcs:cur.size=cap*8) :
 (Sort.grow (putRowK encB 8 (Sort.ahead w m) g 0 d'.toArray) os).ownsRow base 45 8 (.slice (some ⟨g,0,none⟩) n cap) n (pts (d'.map (·.1))) ∧
 Step w (Sort.grow (putRowK encB 8 (Sort.ahead w m) g 0 d'.toArray) os) (.slice (some ⟨g,0,none⟩) n cap) (.slice (some ⟨g,0,none⟩) n cap):=by
 have hgs:=(Array.getElem?_eq_some_iff.1 hg).1;have hgs':g<(w.heap.modify g (Sort.onCells (Sort.putCells id 0 (flatK encB 8 d'.toArray)))).size:=by simpa using hgs
 have hh:(Sort.grow (putRowK encB 8 (Sort.ahead w m) g 0 d'.toArray) os).heap[g]?=some (.cells (Sort.putCells id 0 (flatK encB 8 d'.toArray) cur) 45 (0,0)):=by show (w.heap.modify g (Sort.onCells (Sort.putCells id 0 (flatK encB 8 d'.toArray)))++os)[g]?=_;rw [Array.getElem?_append_left hgs',Array.getElem?_modify,if_pos rfl,hg];rfl
 have hlen:(pts (d'.map (·.1))).length=n*8:=by rw [pts_length,List.length_map,hn']
 have hn8:n*8≤cap*8:=Nat.mul_le_mul_right _ hnc;refine ⟨⟨hlen,.inr ⟨g,cap,_,rfl,hb,hh,hnc,hcm,by simp [Sort.putCells,hcs],?_⟩⟩,⟨⟨rfl,rfl,rfl,?_,?_⟩,?_,fun _ _ h=>h⟩⟩
 ·apply List.ext_getElem?
  intro t;rw [List.getElem?_take]
  by_cases ht:t<n*8
  ·rw [if_pos ht,← flat_pts,Array.getElem?_toList,Array.getElem?_toList]
   have hs:t<(flatK encB 8 d'.toArray).size:=by rw [size_flatK];simpa [hn'] using ht
   have hc:t<cur.size:=by rw [hcs];omega
   rw [Array.getElem?_eq_getElem hs];simp only [Sort.putCells,Array.getElem?_mapIdx,Array.getElem?_eq_getElem hc,Option.map_some,Nat.zero_le,Nat.zero_add,true_and,id,Nat.sub_zero];rw [if_pos hs,getElem!_pos _ t hs]
  ·rw [if_neg ht,List.getElem?_eq_none (by rw [hlen];omega)]
 ·show w.heap.size≤(w.heap.modify g _++os).size
  simp
 ·intro k hk hne
  show (w.heap.modify g _++os)[k]?=_;rw [Array.getElem?_append_left (by simpa using hk),Array.getElem?_modify,if_neg (fun e=>hne (by simp [Value.ownBlock,e]))]
 ·show w.drawn≤w.drawn+m
  omega
end
def bps {S:Nat} : (l:List (Rat×Rat))→(∀ q∈l,Pl.SzP S q)→List (BP S)
 | [],_=>[]
 | a :: l,h=>⟨a,(h a (by simp)).mono (by omega)⟩ :: bps l fun q hq=>h q (by simp [hq])
theorem bps_map {S:Nat} : ∀ (l:List (Rat×Rat)) (h:∀ q∈l,Pl.SzP S q),(bps l h).map (·.1)=l
 | [],_=>rfl
 | a :: l,h=>by rw [bps,List.map_cons,bps_map l]
theorem bps_length {S:Nat} (l:List (Rat×Rat)) (h:∀ q∈l,Pl.SzP S q):(bps l h).length=l.length:=by
 have:=congrArg List.length (bps_map l h);rwa [List.length_map] at this
theorem reverse_any {S:Nat} (v:Value) (n base:Nat) (l:List (Rat×Rat)) (w:World) (hown:w.ownsRow base 45 8 v n (pts l)) (hs:∀ q∈l,Pl.SzP S q) (hn:n≤1000000) :
 Calls Tryz.prog 126 #[v] w fun e w'=>e=.returned (.tuple #[])∧w'.ownsRow base 45 8 v n (pts l.reverse)∧Step w w' v v:=by
 have hnl:n=l.length:=by have:=hown.1;rw [pts_length] at this;omega
 rcases hown.2 with ⟨rfl,rfl⟩|⟨g,cap,cur,rfl,hbg,hg,hnc,hcm,hcs,htake⟩
 ·have hl:l=[]:=List.eq_nil_of_length_eq_zero hnl.symm
  subst hl;have h:=AnyQ.slices_Reverse_empty (P:=Tryz.prog) Tryz.reversePt none 0 w;exact h.mono fun _ _ ⟨h1,h2⟩=>⟨h1,by subst h2;simpa [sortP] using hown,by subst h2;exact Step.same _ _⟩
 ·have hd:(bps l hs).length=n:=by rw [bps_length,hnl]
  have h:=AnyQ.slices_Reverse (P:=Tryz.prog) Tryz.reversePt 8 Tryz.isAgg45 Tryz.sizeOf45 (encB (S:=S)) encB_len (fun x v hv=>pcells_one x.1 v hv) g 0 cap (bps l hs).toArray w
   (holds_own (bps l hs) hd hg (by rw [bps_map];exact htake)) (by simp [hd];omega)
  rw [show (bps l hs).toArray.size=n from by simpa using hd] at h;refine h.mono fun _ w' ⟨h1,m,hw⟩=>⟨h1,?_⟩
  have H:=put_own (bps l hs) (bps l hs).reverse hd (by rw [List.length_reverse];exact hd) m #[] hg hbg hnc hcm hcs;rw [List.map_reverse,bps_map,Sort.grow_empty] at H;rw [hw,List.reverse_toArray];exact H
end Go.Proofs.YtiochgoocbkckaaGreatDoor

namespace Go.Proofs.YtiochgoocbkckaaGreatDoor
open Go Go.RowKit

theorem owns_empty (w:World):(w.alloc (.cells #[] 45)).ownsRow w.heap.size 45 8 (.slice (some ⟨w.heap.size,0,none⟩) 0 0) 0 [] :=
 ⟨rfl,.inr ⟨w.heap.size,0,#[],rfl,Nat.le_refl _,heap_alloc_new w _,Nat.le_refl _,by simp [maxLen],rfl,rfl⟩⟩
theorem clone_any (v:Value) (l:List (Rat×Rat)) (w:World) (h:PV w v l) (hn:l.length≤1000000) :
 Calls Tryz.prog 123 #[v] w fun e w'=>∃ v',e=.returned v'∧w'.ownsRow w.heap.size 45 8 v' l.length (pts l)∧Below w.heap.size w w':=by
 have q22:∀ (w:World) (a:Option Addr) (n c n' c':Nat),(binOp .eql 23 (.slice a n c) (.slice none n' c')).run Tryz.prog w=.ok (.bool a.isNone) w:=fun w a n c n' c'=>Lib.run_eql_slice_nil w _ _ a n c n' c' Tryz.underlying23
 rcases h.2 with ⟨rfl,h0⟩|⟨g,o,c,rfl,hc,hm,hx⟩
 ·have hl:l=[]:=List.eq_nil_of_length_eq_zero h0
  subst hl;go_enter Tryz.func123,Tryz.ntmps123;go_wp2;go_ret;exact ⟨_,rfl,World.ownsRow_nil _ _ _ _,Below.refl _ _⟩
 ·have HS:=Lib.hid (h.up ((Below.refl _ w).alloc (Nat.le_refl _) (.cells #[] 45)))
  have hone:∀ u∈pts l,u.oneCell'=true:=fun u hu=>by
   obtain ⟨p,_,hp⟩:=List.mem_flatMap.1 hu;exact pcells_one p u hp
  have HO:=Lib.hid hone;generalize hN:l.length=N at *;have HN:=Lib.hid hN;clear h hx hone hN;have HS2:Hid (Sl (w.alloc (.cells #[] 45)) (.slice (some ⟨g,o,none⟩) N c) N 8 (pts l)):=Lib.hid (by have:=HS.out;unfold PV at this;rw [HN.out] at this;exact this);go_enter Tryz.func123,Tryz.ntmps123;go_wp2_with (at_builtin;refine wpList_appX rfl _ _ _ rfl ti_pt (owns_empty w) (by simp) rfl rfl HS2.out HO.out (by omega) (by decide) ?_)
  intro v' w' hown hst;have hb:Below w.heap.size w w':=hst.below ((Below.refl _ w).alloc (Nat.le_refl _) _) (by simp) (fun r hr=>by simp [Value.ownBlock] at hr;omega);have hown':Hid (w'.ownsRow w.heap.size 45 8 v' N (pts l)):=Lib.hid (by simpa using hown);clear hown;go_wp2;go_ret;exact ⟨_,rfl,hown'.out,hb⟩

theorem owns_grown (w:World) (N cap:Nat) (z:Value) (hz:z.cells.size=8) (hN:N≤cap) (hc:cap≤maxLen) :
 (w.drew.alloc (.cells (([]:List Value).toArray++Builtin.zeroCells z.cells (0+N-0)++Builtin.zeroCells z.cells (cap-(0+N))) 45)).ownsRow w.heap.size 45 8 (.slice (some ⟨w.heap.size,0,none⟩) 0 cap) 0 []:=by
 refine ⟨rfl,.inr ⟨w.heap.size,cap,_,rfl,Nat.le_refl _,heap_alloc_new w.drew _,Nat.zero_le _,hc,?_,by simp⟩⟩;simp only [Array.size_append,size_zeroCells,hz];simp;omega
theorem grow_any (N:Nat) (w:World) (h0:0<N) (hN:N≤2000000) :
 Calls Tryz.prog 140 #[.slice none 0 0,.int .i64 N] w fun e w'=>∃ v',e=.returned v'∧w'.ownsRow w.heap.size 45 8 v' 0 []∧Below w.heap.size w w':=by
 obtain ⟨i,hi,hz,hs,hb⟩:=info_parts (show (Tryz.prog.info? 45).map (fun i=>(i.zero,i.size,i.bytes))=some (some (.agg #[.bool false,.string ⟨#[]⟩,.bool false,.string ⟨#[]⟩,.bool false,.string ⟨#[]⟩,.bool false,.string ⟨#[]⟩]),8,96) by kernel_rfl);have h:=Any8.slices_Grow_grow (P:=Tryz.prog) Tryz.growPt i _ hi hz (by rw [hs];decide) none 0 0 N [] w (Nat.le_refl _) (by omega) (by rw [hb];omega) (by omega) (by simp) (fun _=>rfl) (fun a ha=>by cases ha);refine h.mono fun e w' ⟨he,hw⟩=>⟨_,he,?_,?_⟩
 ·rw [hw]
  exact owns_grown w N _ _ rfl (by have:=grownCap_ge w (0+N) 0 45;rw [Nat.zero_add] at this ⊢;exact this) (grownCap_le_maxLen w (0+N) 0 _ (by simp [maxLen];omega))
 ·rw [hw]
  exact (Below.refl _ w).drew.alloc (Nat.le_refl _) _
theorem grow_sum (Na Nb:Nat) (w:World) (h0:0<Na+Nb) (hN:Na+Nb≤2000000) :
 Calls Tryz.prog 140 #[.slice none 0 0,.int .i64 ((Na:Int)+(Nb:Int))] w fun e w'=>∃ v',e=.returned v'∧w'.ownsRow w.heap.size 45 8 v' 0 []∧Below w.heap.size w w':=by
 have h:=grow_any (Na+Nb) w h0 hN;rw [Int.natCast_add] at h;exact h
theorem owns_mono {w:World} {base base':Nat} {e:TypeId} {size n:Nat} {v:Value} {xs:List Value} (h:w.ownsRow base e size v n xs) (hb:base'≤base):w.ownsRow base' e size v n xs:=by
 refine ⟨h.1,?_⟩;rcases h.2 with hn|⟨g,cap,cur,rfl,hbg,rest⟩
 ·exact .inl hn
 ·exact .inr ⟨g,cap,cur,rfl,Nat.le_trans hb hbg,rest⟩
theorem pts_one (l:List (Rat×Rat)):∀ u∈pts l,u.oneCell'=true:=fun u hu=>by
 obtain ⟨p,_,hp⟩:=List.mem_flatMap.1 hu;exact pcells_one p u hp
set_option maxHeartbeats 1000000 in
theorem concat_any (va vb:Value) (la lb:List (Rat×Rat)) (g:Nat) (w:World) (ha:PV w va la) (hb:PV w vb lb) (h0:w.cell? ⟨g,0,none⟩=some va) (h1:w.cell? ⟨g,1,none⟩=some vb) (hna:la.length≤1000000) (hnb:lb.length≤1000000) (hpos:0<la.length+lb.length) :
 Calls Tryz.prog 100 #[.slice (some ⟨g,0,none⟩) 2 2] w fun e w'=>∃ v',e=.returned v'∧PV w' v' (la++lb)∧Below w.heap.size w w':=by
 have HA:=Lib.hid ha;have HB:=Lib.hid hb;have hg:g<w.heap.size:=World.block_lt_of_cell? _ _ h0;obtain ⟨Aa,ca,rfl,hca,hma,hxa⟩:=ha.open_;obtain ⟨Ab,cb,rfl,hcb,hmb,hxb⟩:=hb.open_;generalize hNa:la.length=Na at *;generalize hNb:lb.length=Nb at *;have HNa:=Lib.hid hNa;have HNb:=Lib.hid hNb;clear ha hb hxa hxb hNa hNb;have KG:=Lib.hid (fun W=>grow_sum Na Nb W (by omega) (by omega));go_enter Tryz.func100,Tryz.ntmps100;go_wp2_with fail;go_loopw [3,11] (fun t i wr=>(i=.int .i64 0∧t=.int .i64 0∨i=.int .i64 1∧t=.int .i64 Na∨i=.int .i64 2∧t=.int .i64 ((Na:Int)+(Nb:Int)))∧Below w.heap.size w wr) (fun _ i _=>2-(intOf i).toNat)
 case atStart=>exact ⟨.inl ⟨rfl,rfl⟩,Below.refl _ _⟩
 case round =>
  obtain ⟨⟨rfl,rfl⟩|⟨rfl,rfl⟩|⟨rfl,rfl⟩,hB0⟩:=hrel
  all_goals have v0:=(hB0.cell (p:=⟨g,0,none⟩) hg).trans h0
  all_goals have v1:=(hB0.cell (p:=⟨g,1,none⟩) hg).trans h1
  ·go_wp2_with fail
   go_roundw
   case rel=>exact ⟨.inr (.inl ⟨rfl,rfl⟩),hB0⟩
   case measure=>simp [intOf]
  ·have p1:¬ ((Na:Int)+(Nb:Int)<0):=by omega
   go_wp2_with fail;go_roundw
   case rel=>exact ⟨.inr (.inr ⟨rfl,rfl⟩),hB0⟩
   case measure=>simp [intOf]
  ·go_wp2_with fail
   with_reducible refine (KG.out _).mono ?_
   rintro e w1 ⟨vg,rfl,hown1,hb1⟩;have O1:=Lib.hid hown1;have hb1:=bel_up hB0 hb1;clear hown1;go_wp2_with fail;go_loopw [6,27] (fun v i wr=>(i=.int .i64 0∧wr.ownsRow w.heap.size 45 8 v 0 []∨i=.int .i64 1∧wr.ownsRow w.heap.size 45 8 v Na (pts la)∨i=.int .i64 2∧wr.ownsRow w.heap.size 45 8 v (Na+Nb) (pts la++pts lb))∧Below w.heap.size w wr) (fun _ i _=>2-(intOf i).toNat)
   case atStart=>exact ⟨.inl ⟨rfl,owns_mono O1.out hB0.size⟩,hb1⟩
   case round =>
    obtain ⟨⟨rfl,ho⟩|⟨rfl,ho⟩|⟨rfl,ho⟩,hB⟩:=hrel
    ·have O2:=Lib.hid ho
     have HA1:=Lib.hid (HA.out.up hB);have u0:=(hB.cell (p:=⟨g,0,none⟩) hg).trans h0;have HA2:Hid (Sl wr (.slice Aa Na ca) Na 8 (pts la)):=Lib.hid (by have:=HA1.out;unfold PV at this;rw [HNa.out] at this;exact this);clear ho h0 h1;go_wp2_with (at_builtin;refine wpList_appX rfl _ _ _ rfl ti_pt O2.out hB.size rfl rfl HA2.out (pts_one la) (by omega) (by decide) ?_)
     intro v' w' hown hst;have hB2:Below w.heap.size w w':=hst.below hB hB.size (fun r hr=>(O2.out.lt r hr).1);have hown':Hid (w'.ownsRow w.heap.size 45 8 v' Na (pts la)):=Lib.hid (by simpa using hown);clear hown;go_wp2_with fail;go_roundw
     case rel=>exact ⟨.inr (.inl ⟨rfl,hown'.out⟩),hB2⟩
     case measure=>simp [intOf]
    ·have O2:=Lib.hid ho
     have HB1:=Lib.hid (HB.out.up hB);have u1:=(hB.cell (p:=⟨g,1,none⟩) hg).trans h1;have HB2:Hid (Sl wr (.slice Ab Nb cb) Nb 8 (pts lb)):=Lib.hid (by have:=HB1.out;unfold PV at this;rw [HNb.out] at this;exact this);clear ho h0 h1;go_wp2_with (at_builtin;refine wpList_appX rfl _ _ _ rfl ti_pt O2.out hB.size rfl rfl HB2.out (pts_one lb) (by omega) (by decide) ?_)
     intro v' w' hown hst;have hB2:Below w.heap.size w w':=hst.below hB hB.size (fun r hr=>(O2.out.lt r hr).1);have hown':=Lib.hid hown;clear hown;go_wp2_with fail;go_roundw
     case rel=>exact ⟨.inr (.inr ⟨rfl,hown'.out⟩),hB2⟩
     case measure=>simp [intOf]
    ·have O2:=Lib.hid ho
     have HP:Hid (pts la++pts lb=pts (la++lb)):=Lib.hid (by simp [pts]);clear ho;go_wp2;go_ret;exact ⟨_,rfl,pv_own (n:=Na+Nb) (by rw [← HP.out];exact O2.out),hB⟩
def Apart (l:List (Rat×Rat)):Prop:=∀ (k:Nat) x y,l[k]?=some x→l[k+1]?=some y→y≠x
end Go.Proofs.YtiochgoocbkckaaGreatDoor
