/-
 A law on regions that leave their order open: if every operation of the region's head reads, computes or calls a function that makes new memory alone, one walk of the head in the text's order serves all orders; what follows it (the stores of the results) is walked behind it. Conditions: the edges of the region make the tail wait for the whole head (a closed fact, by the kernel).
 How the numbers of the program are laid: an integer is its sign and its bytes; a fraction two integers; a point two fractions.
 Contracts of package integer: bytes and words.
 Contracts of package integer: comparisons and signs.
 A block of memory that is known whole; numbers as rows of words.
 Contracts of package integer: numbers as rows of words.
-/
import Derived.StillTail
import Derived.Deep.QuietTactic
import Derived.BigQuiet
import Derived.Below
import Derived.Laws.CopyOwn
import Derived.WalkKit
import Derived.Test.YtiochgoocbkckaaGreatDoorANat
import Derived.Test.YtiochgoocbkckaaGreatDoorChecked
import Derived.Laws.StructEq
import Derived.WalkSpells
import Derived.Handy
import Derived.Laws.BitsAllLaws
import Derived.Lib.BitFns
import Derived.Laws.BytesArg
import Derived.Laws.NewBlocks
import Derived.Laws.Rows
import Derived.Test.YtiochgoocbkckaaGreatDoorShelf
import Derived.Lib.Hide
import Derived.Laws.MakeOwn
import Derived.Laws.CopyRow
set_option maxRecDepth 100000
set_option linter.unusedSimpArgs false
set_option linter.unusedVariables false
namespace Go.Proofs.YtiochgoocbkckaaGreatDoor
open Go Go.RowKit

structure Below (B:Nat) (w w':World):Prop where
 os:w'.os=w.os
 tape:w'.tape=w.tape
 output:w'.output=w.output
 size:w.heap.size≤w'.heap.size
 block:∀ k,k<B→w'.heap[k]?=w.heap[k]?
 drawn:w.drawn≤w'.drawn
theorem Below.refl (B:Nat) (w:World):Below B w w:=⟨rfl,rfl,rfl,Nat.le_refl _,fun _ _=>rfl,Nat.le_refl _⟩
theorem Below.trans {B:Nat} {a b c:World} (h:Below B a b) (k:Below B b c):Below B a c :=
 ⟨k.os.trans h.os,k.tape.trans h.tape,k.output.trans h.output,Nat.le_trans h.size k.size,fun i hi=>(k.block i hi).trans (h.block i hi),Nat.le_trans h.drawn k.drawn⟩
theorem Below.mono {B B':Nat} {w w':World} (h:Below B w w') (hB:B'≤B):Below B' w w':=⟨h.os,h.tape,h.output,h.size,fun k hk=>h.block k (Nat.lt_of_lt_of_le hk hB),h.drawn⟩
theorem Below.drew {B:Nat} {a w:World} (h:Below B a w):Below B a w.drew:=⟨h.os,h.tape,h.output,h.size,h.block,Nat.le_succ_of_le h.drawn⟩
theorem Below.heap_alloc (w:World) (o:Obj) (k:Nat) (h:k<w.heap.size):(w.alloc o).heap[k]?=w.heap[k]?:=Go.RowKit.Below.heap_alloc w o k h
theorem Below.heap_setCell (w:World) (a:Addr) (u:Value) (k:Nat) (h:k≠a.block):(w.setCell a u).heap[k]?=w.heap[k]?:=Go.RowKit.Below.heap_setCell w a u k h
theorem Below.alloc {B:Nat} {a w:World} (h:Below B a w) (hB:B≤w.heap.size) (o:Obj):Below B a (w.alloc o) :=
 h.trans ⟨rfl,rfl,rfl,by simp,fun k hk=>Below.heap_alloc _ _ _ (by omega),Nat.le_refl _⟩
theorem Below.setCell {B:Nat} {a w:World} (h:Below B a w) {p:Addr} (hp:B≤p.block) (u:Value):Below B a (w.setCell p u) :=
 h.trans ⟨rfl,rfl,rfl,by simp [World.setCell],fun k hk=>Below.heap_setCell _ _ _ _ (by omega),Nat.le_refl _⟩
theorem Below.cell {B:Nat} {w w':World} (h:Below B w w') {p:Addr} (hp:p.block<B):w'.cell? p=w.cell? p:=World.cell?_of_block (w:=w) (h.block p.block hp)
theorem Below.frozen {B:Nat} {w w':World} (h:Below B w w') {p:Addr} (hp:p.block<B):w'.frozen? p=w.frozen? p:=World.frozen?_of_block (w:=w) (h.block p.block hp)
theorem Below.kit {B:Nat} {w w':World} (h:Below B w w'):Go.RowKit.Below B w w':=⟨h.os,h.tape,h.output,h.size,h.block⟩
theorem Below.of_kit {B:Nat} {w w':World} (h:Go.RowKit.Below B w w') (hd:w.drawn≤w'.drawn):Below B w w':=⟨h.os,h.tape,h.output,h.size,h.block,hd⟩
theorem Below.setRow {B g:Nat} {w0 w:World} (hb:Below B w0 w) (hBg:B≤g) (cs:Array Value):Below B w0 (w.setRow g cs) :=
 Below.of_kit (below_setRow hb.kit hBg cs) hb.drawn

structure Bel (W:World) where
 w1:World
 h:Below W.heap.size W w1

instance (W:World):Nonempty (Bel W):=⟨⟨W,Below.refl _ _⟩⟩

theorem Bel.cell {W:World} {a:Addr} {v:Value} (h:W.cell? a=some v) (p:Bel W):p.w1.cell? a=some v :=
 (p.h.cell (World.block_lt_of_cell? W a h)).trans h
theorem Bel.frozen {W:World} {a:Addr} {v:Value} {b:Bool} (h:W.cell? a=some v) (hf:W.frozen? a=b) (p:Bel W):p.w1.frozen? a=b :=
 (p.h.frozen (World.block_lt_of_cell? W a h)).trans hf
theorem Bel.size {W:World} (p:Bel W):W.heap.size≤p.w1.heap.size:=p.h.size

theorem Calls.bel {P:Program} {f:FuncId} {args:Array Value} {W:World} {p:Bel W} {v:Value} (h:Calls P f args p.w1 fun e w'=>e=.returned v∧Below p.w1.heap.size p.w1 w') :
 Calls P f args p.w1 fun e w''=>e=.returned v∧∃ q:Bel W,w''=q.w1 :=
 h.mono fun _ w' ⟨he,hb⟩=>⟨he,⟨w',p.h.trans (hb.mono p.h.size)⟩,rfl⟩
section
variable {P:Program} {ops:Array Oper} {md:Region.Mode} {C:World→Prop}

def headAny (P:Program) (md:Region.Mode) (ops:Array Oper) (C:World→Prop) (n:Nat) (L:Array Bool→Act→Prop):Nat→Array Bool→Act→Prop
 | 0,listed,a=>L listed a
 | f+1,listed,a=>Region.ready md ops listed≠[]∧∀ i∈Region.ready md ops listed,i<n∧qOp P ops C i (headAny P md ops C n L f (listed.setIfInBounds i true)) a

theorem wpAny_of_headAny {n g:Nat} {L:Array Bool→Act→Prop} {Q':Exit→Act→World→Prop} (hL:∀ listed a w,C w→L listed a→wpAny P md ops Q' g listed a w) :
 ∀ (f:Nat) (listed:Array Bool) (a:Act) (w:World),C w→headAny P md ops C n L f listed a→wpAny P md ops Q' (f+g) listed a w
 | 0,listed,a,w,hw,h=>by rw [Nat.zero_add];exact hL _ _ _ hw h
 | f+1,listed,a,w,hw,h=>by
  rw [show f+1+g=(f+g)+1 from by omega];exact ⟨fun h0=>absurd h0 h.1,fun i hi=>wpOp_of_qOp hw (fun a' w' hw' h'=>wpAny_of_headAny hL f _ a' w' hw' h') (h.2 i hi).2⟩

theorem headAny_first {n i:Nat} {oi:Oper} {v:Value} {L:Array Bool→Act→Prop} (hi:ops[i]?=some oi) (hsel:∀ (j:Nat) (o:Oper) cs b,ops[j]?=some o→o.op≠.select cs b)
 (hs:Region.sinkB md ops n=true) (hc:Region.chainB md ops n=true) (hn:n<ops.size) (hin:i<n) (hdone:∀ listed a,L listed a→∀ j∈Region.ready md ops listed,n≤j) :
 ∀ (f:Nat) (listed:Array Bool) (a:Act),HeadInv md ops n listed →
  (∀ j oj,ops[j]?=some oj→j≠i→listed.getD j true=false→(∀ e∈oj.after,Region.binds md e=true→e.on≠i)→oi.apart ops oj=true) →
  i∈Region.ready md ops listed→YieldsIn P ops C oi v a →
  headAny P md ops C n L f (listed.setIfInBounds i true) (a.put oi.dst v)→headAny P md ops C n L (f+1) listed a:=by
 intro f
 induction f with
 | zero =>
  intro listed a inv _ hr hy H;refine ⟨fun h=>(by rw [h] at hr;cases hr),fun j hj => ?_⟩;have hjn:j<n:=Nat.lt_of_not_le fun h=>tail_waits hs hc hn inv _ i rfl hin (mem_ready.1 hr).1 j h hj
  refine ⟨hjn,?_⟩;rcases Nat.decEq j i with hji|hji
  ·exact absurd (hdone _ _ H j (ready_mono hj hji)) (by omega)
  ·subst hji;exact hy.qOp hi H
 | succ f ih =>
  intro listed a inv hfree hr hy H;refine ⟨fun h=>(by rw [h] at hr;cases hr),fun j hj => ?_⟩;have hjn:j<n:=Nat.lt_of_not_le fun h=>tail_waits hs hc hn inv _ i rfl hin (mem_ready.1 hr).1 j h hj
  refine ⟨hjn,?_⟩;rcases Nat.decEq j i with hji|hji
  ·have h1:=(H.2 j (ready_mono hj hji)).2
   obtain ⟨hjun,oj,hoj,hall⟩:=mem_ready.1 hj
   have hnot:∀ e∈oj.after,Region.binds md e=true→e.on≠i:=fun e he hb heq=>by
    have h2:=hall e he hb;rw [heq,getD_both (mem_ready.1 hr).1] at h2;cases h2
   have h2:=qOp_put hoj (hfree j oj hoj hji hjun hnot) (fun cs b=>hsel i oi cs b hi) (fun cs b=>hsel j oj cs b hoj) hy h1;refine qOp_mono (fun a' h3=>ih (listed.setIfInBounds j true) a' (inv.set hj hjn) (fun k ok hk hki hun hno=>hfree k ok hk hki ?_ hno) (ready_mono hr (Ne.symm hji)) h3.1 ?_) h2
   ·rcases Nat.decEq j k with hjk|hjk
    ·rw [getD_set_ne true hjk] at hun;exact hun
    ·subst hjk;exact hjun
   ·rw [Array.setIfInBounds_comm _ _ hji];exact h3.2
  ·subst hji;exact hy.qOp hi H

theorem headAny_lex {n g:Nat} {K:Act→Prop} (hsel:Region.noSelect ops=true) (hs:Region.sinkB md ops n=true) (hc:Region.chainB md ops n=true) (hn:n<ops.size) :
 ∀ (l:List Oper) (k:Nat) (listed:Array Bool) (a:Act),(∀ j,j<l.length→l[j]?=ops[k+j]?)→k+l.length=n→HeadInv md ops n listed →
  Region.lexHead md ops g l.length k listed=true→wpQuiet P ops C K l a →
  headAny P md ops C n (fun listed' a'=>Region.seqB md ops g n listed'=true∧K a') l.length listed a
 | [],k,listed,a,_,hk,_,hB,h=>by
  have e:k=n:=by simpa using hk
  subst e;exact ⟨by simpa [Region.lexHead] using hB,h⟩
 | o :: l,k,listed,a,hl,hk,inv,hB,h=>by
  have h0:ops[k]?=some o:=by simpa using (hl 0 (by simp)).symm
  simp only [List.length_cons,Region.lexHead,Bool.and_eq_true] at hB;simp only [List.length_cons] at hk;have hr:k∈Region.ready md ops listed:=by simpa using hB.1.1
  have hst:qOp P ops C k (wpQuiet P ops C K l) a:=by unfold qOp;simp only [h0];exact h
  obtain ⟨v,hy,hK⟩:=yieldsIn_of_qOp h0 hst;refine headAny_first h0 (Region.noSelect_spec hsel) hs hc hn (by omega) (fun listed' a' hL=>seqB_ready hL.1) l.length listed a inv (Region.free_spec h0 hB.1.2) hr hy ?_;exact headAny_lex hsel hs hc hn l (k+1) _ _ (fun j hj=>by have:=hl (j+1) (by simp;omega);simpa [Nat.add_assoc,Nat.add_comm 1 j] using this) (by omega) (inv.set hr (by omega)) hB.2 hK

theorem wp_region_head {id:Nat} {Q:Exit→Act→World→Prop} {a:Act} {w:World} {l:List Oper} (n:Nat) (hm:P.follows .mixedOrders=true) (hB:Region.lexTailB .any l.toArray n=true)
 (hC:C { w with drawn:=w.drawn+1 }) (h:wpQuiet P l.toArray C (fun a'=>∀ w',C w'→wpList P l.toArray Q (l.drop n) a' w') (l.take n) a):(Code.region id l.toArray true).wp P Q a w:=by
 simp only [Region.lexTailB,Bool.and_eq_true,decide_eq_true_eq] at hB;obtain ⟨⟨⟨⟨hsel,hn⟩,hs⟩,hc⟩,hlex⟩:=hB;have hn':n<l.length:=by simpa using hn
 have htl:(l.take n).length=n:=by simp;omega
 have inv0:HeadInv .any l.toArray n (Array.replicate l.toArray.size false) :=
  ⟨by simp,fun j oj _ hl=>(by rw [getD_replicate_false] at hl;cases hl),fun t _ ht=>getD_in (by simpa using ht) (getD_replicate_false _ _)⟩
 have H:=headAny_lex (md:=.any) (g:=l.toArray.size-n) hsel hs hc hn (l.take n) 0 _ a (fun j hj=>by
  rw [htl] at hj
  simp [hj]) (by simpa using htl) inv0 (by rw [htl];exact hlex) h
 refine wp_region_any hm ?_
 have H2:=wpAny_of_headAny (Q':=Q) (g:=l.toArray.size-n) (fun listed a' w' hw' hL=>by
  have h3:=wpAny_of_seq (md:=.any) (Q':=Q) (l.drop n) n listed a' w' (fun j=>by simp [List.getElem?_drop]) (by simpa using hL.1) (hL.2 w' hw')
  simpa using h3) _ _ _ _ hC H
 rw [htl,show n+(l.toArray.size-n)=l.toArray.size from by omega] at H2;exact H2
end

theorem wp_region_tail {P:Program} {id:Nat} {Q:Exit→Act→World→Prop} {a:Act} {w:World} {l:List Oper} (n:Nat) (hm:P.follows .mixedOrders=true) (hB:Region.lexTailB .any l.toArray n=true)
 (h:wpQuiet P l.toArray (fun w'=>∃ p:Bel w,w'=p.w1) (fun a'=>∀ w',Below w.heap.size w w'→wpList P l.toArray Q (l.drop n) a' w') (l.take n) a):(Code.region id l.toArray true).wp P Q a w:=by
 refine wp_region_head (C:=fun w'=>∃ p:Bel w,w'=p.w1) n hm hB ⟨⟨_,(Below.refl _ w).drew⟩,rfl⟩ ?_;have e:(fun a'=>∀ w',Below w.heap.size w w'→wpList P l.toArray Q (l.drop n) a' w')=fun a'=>∀ w',(∃ p:Bel w,w'=p.w1)→wpList P l.toArray Q (l.drop n) a' w':=by funext a';exact propext ⟨fun h w' ⟨p,hp⟩=>hp▸h _ p.h,fun h w' hb=>h w' ⟨⟨w',hb⟩,rfl⟩⟩
 rw [← e];exact h

theorem wp_region_all {P:Program} {id:Nat} {Q:Exit→Act→World→Prop} {a:Act} {w:World} {l:List Oper} (hm:P.follows .mixedOrders=true) (hB:Region.lexB .any l.toArray=true)
 (h:wpQuiet P l.toArray (fun w'=>∃ p:Bel w,w'=p.w1) (fun a'=>∀ w',Below w.heap.size w w'→Q .normal a' w') l a):(Code.region id l.toArray true).wp P Q a w:=by
 refine wp_region_quiet (C:=fun w'=>∃ p:Bel w,w'=p.w1) hm hB ⟨⟨_,(Below.refl _ w).drew⟩,rfl⟩ ?_;have e:(fun a'=>∀ w',Below w.heap.size w w'→Q .normal a' w')=fun a'=>∀ w',(∃ p:Bel w,w'=p.w1)→Q .normal a' w':=by funext a';exact propext ⟨fun h w' ⟨p,hp⟩=>hp▸h _ p.h,fun h w' hb=>h w' ⟨⟨w',hb⟩,rfl⟩⟩
 rw [← e]
 simpa using h

theorem wp_named {P:Program} {c:Code} {Q:Exit→Act→World→Prop} {a:Act} {w:World} (h:∀ W,W=w→c.wp P Q a W):c.wp P Q a w:=h w rfl
end Go.Proofs.YtiochgoocbkckaaGreatDoor

namespace Go.Proofs.YtiochgoocbkckaaGreatDoor
open Go Go.RowKit

def mg (n:Nat):ByteArray:=⟨(Pl.magL n).toArray⟩
def ng (z:Int):Bool:=decide (z<0)
theorem mg_size (n:Nat):(mg n).size=Pl.L n:=by simp [mg,ByteArray.size,Pl.magL_length]
theorem mg_data (n:Nat):(mg n).data.toList=Pl.magL n:=rfl
theorem mg_get (n i:Nat) (h:i<Pl.L n) (h2:Pl.L n-1-i<(mg n).size):((mg n)[Pl.L n-1-i]'h2).toNat=n/256 ^ i%256:=by
 have e:(mg n)[Pl.L n-1-i]=(Pl.magL n)[Pl.L n-1-i]'(by rw [Pl.magL_length];omega):=rfl;rw [e,Pl.magL_get,show Pl.L n-1-(Pl.L n-1-i)=i from by omega]
theorem mg_inj {a b:Nat} (h:mg a=mg b):a=b:=Pl.magL_inj (by rw [← mg_data,h,mg_data])
def dn (q:Rat):Nat:=if q.den=1 then 0 else q.den
theorem or_byte (x y:Nat) (hx:x<72057594037927936) (hy:y<256):bits .or .u64 ((x:Int)*256) (y:Int)=((x*256+y:Nat):Int):=by
 rw [show ((x:Int)*256)=((x*256:Nat):Int) from by omega,u64_or_nat _ _ (by omega) (by omega),nat_join 8 (x*256) y (by omega) (by omega)]
theorem or_word64 (x y:Nat) (hx:x<4294967296) (hy:y<4294967296):bits .or .u64 ((x:Int)*4294967296) (y:Int)=((x*4294967296+y:Nat):Int):=by
 rw [show ((x:Int)*4294967296)=((x*4294967296:Nat):Int) from by omega,u64_or_nat _ _ (by omega) (by omega),nat_join 32 (x*4294967296) y (by omega) (by omega)]
theorem mg_empty (n:Nat):(mg n).toList.isEmpty=decide (n=0):=by
 have e:(mg n).toList=Pl.magL n:=by rw [← mg_data];exact ByteArray.toList_eq _
 rw [e,Bool.eq_iff_iff,List.isEmpty_iff,decide_eq_true_iff,← List.length_eq_zero_iff,Pl.magL_length,Pl.L_eq_zero]
theorem bitLen_log2 (u:Nat) (h0:u≠0) (h:u<18446744073709551616):Lib.bitLen u=Nat.log2 u+1:=by
 have H:∀ f x,x≠0→x<2 ^ f→Lib.bitLenAux f x=Nat.log2 x+1:=by
  intro f
  induction f with
  | zero=>intro x hx h1;simp at h1;omega
  | succ f ih =>
   intro x hx h1;rw [Lib.bitLenAux,if_neg hx,Nat.log2_def]
   by_cases h2:x≥2
   ·rw [if_pos h2,ih (x/2) (by omega) (by rw [Nat.pow_succ] at h1;omega)];omega
   ·rw [if_neg h2]
    have:x=1:=by omega
    subst this;cases f<;>simp [Lib.bitLenAux]
 exact H 64 u h0 h
theorem bitLen_L (u:Nat) (h0:u≠0) (h:u<18446744073709551616):(Lib.bitLen u+7)/8=Pl.L u:=by
 rw [bitLen_log2 u h0 h];unfold Pl.L;rw [if_neg h0];omega
theorem L_word (u:Nat) (h:u<18446744073709551616):Pl.L u≤8:=(Pl.L_le_iff _ _).2 (by simpa using h)
theorem word_of_L {u:Nat} (h:Pl.L u≤8):u<18446744073709551616:=by have:=(Pl.L_le_iff _ _).1 h;simpa using this
def cellsOf (u n k:Nat):List Value:=(List.range 8).map fun j=>.int .u8 (if n-k≤j∧j<n then u/256 ^ (n-1-j)%256 else 0:Nat)
theorem cellsOf_zero (u n:Nat):cellsOf u n 0=[.int .u8 0,.int .u8 0,.int .u8 0,.int .u8 0,.int .u8 0,.int .u8 0,.int .u8 0,.int .u8 0]:=by
 have h:∀ j,(if n-0≤j∧j<n then u/256 ^ (n-1-j)%256 else 0)=0:=fun j=>if_neg (by omega)
 unfold cellsOf;simp only [h];rfl
theorem cellsOf_succ (u n k:Nat) (hk:k<n) (hn:n≤8):(cellsOf u n k).set (n-1-k) (.int .u8 (u/256 ^ k%256:Nat))=cellsOf u n (k+1):=by
 apply List.ext_getElem
 ·simp [cellsOf]
 ·intro j h1 h2
  rw [List.getElem_set];simp only [cellsOf,List.getElem_map,List.getElem_range]
  by_cases hj:n-1-k=j
  ·rw [if_pos hj,if_pos (by omega),show n-1-j=k from by omega]
  ·rw [if_neg hj]
   congr 2
   by_cases h3:n-k≤j∧j<n
   ·rw [if_pos h3,if_pos (by omega)]
   ·rw [if_neg h3,if_neg (by omega)]
theorem cellsOf_get (u n:Nat) (hn:n≤8) (i:Nat) (hi:i<n):(cellsOf u n n).toArray[i]?=some (.int .u8 (((List.range n).map fun j=>((u/256 ^ (n-1-j)%256:Nat):Int)).getD i 0)):=by
 simp only [cellsOf,List.getElem?_toArray,List.getElem?_map,List.getD_eq_getElem?_getD];rw [List.getElem?_range (by omega),List.getElem?_range hi];simp only [Option.map_some,Option.getD_some];rw [if_pos (by omega)]
theorem shr_byte (u k:Nat):((u:Int)/2 ^ (8*k)%256)=((u/256 ^ k%256:Nat):Int):=by
 rw [Pl.pow256];simp
theorem or_word (n k:Nat):bits .or .u32 ((n%256 ^ k/4294967296 ^ (k/4)%4294967296:Nat):Int) (((n/256 ^ k%256:Nat):Int)*2 ^ (8*(k%4))%4294967296)=((n%256 ^ (k+1)/4294967296 ^ (k/4)%4294967296:Nat):Int):=by
 have hst:=Pl.dig_step n k;have hjoin:n%256 ^ k/4294967296 ^ (k/4)%4294967296<256 ^ (k%4):=Nat.lt_of_le_of_lt (Nat.mod_le _ _) (Pl.dig_low n k);have hD2:n%256 ^ (k+1)/4294967296 ^ (k/4)%4294967296<4294967296:=Nat.mod_lt _ (by omega);generalize n/256 ^ k%256=bt at *;generalize n%256 ^ k/4294967296 ^ (k/4)%4294967296=D at *;generalize n%256 ^ (k+1)/4294967296 ^ (k/4)%4294967296=D2 at *;have hlt:bt*256 ^ (k%4)<4294967296:=by omega
 have e1:(bt:Int)*2 ^ (8*(k%4))%4294967296=((bt*256 ^ (k%4):Nat):Int):=by
  have e2:(bt:Int)*2 ^ (8*(k%4))=((bt*256 ^ (k%4):Nat):Int):=by rw [Pl.pow256,Int.natCast_mul,Int.natCast_pow];rfl
  rw [e2];omega
 have hmod:bt*256 ^ (k%4)%2 ^ (8*(k%4))=0:=by rw [Pl.pow256];exact Nat.mul_mod_left _ _
 rw [Pl.pow256] at hjoin;rw [e1,u32_or_nat _ _ (by omega) hlt,Nat.or_comm,nat_join (8*(k%4)) _ _ hmod hjoin];omega
theorem mg_of_nums (u:Nat):strOfNums ((List.range (Pl.L u)).map fun j=>((u/256 ^ (Pl.L u-1-j)%256:Nat):Int))=mg u:=by
 unfold strOfNums mg Pl.magL Pl.byt;rw [List.map_map];congr 2
theorem mg_zero:mg 0=⟨#[]⟩:=rfl
end Go.Proofs.YtiochgoocbkckaaGreatDoor

namespace Go.Proofs.YtiochgoocbkckaaGreatDoor
open Go Go.RowKit

set_option maxHeartbeats 400000 in
theorem word_small (s:ByteArray) (w:World) (h:s.size≤8):Calls Tryz.prog 216 #[.string s] w fun e w'=>e=.returned (.tuple #[.int .u64 (Pl.valL s.data.toList:Nat),.bool true])∧w=w':=by
 go_enter Tryz.func216,Tryz.ntmps216;go_wp2;go_loop [4,11] (fun u i=>∃ k:Nat,k≤s.size∧i=.int .i64 k∧u=.int .u64 (Pl.valL (s.data.toList.take k):Nat)) (fun _ i=>s.size-(intOf i).toNat)
 case atStart=>exact ⟨0,Nat.zero_le _,rfl,rfl⟩
 case round =>
  obtain ⟨k,hk,rfl,rfl⟩:=hrel
  by_cases hlt:k<s.size
  ·have hv:=Pl.valL_lt (s.data.toList.take k)
   have hl:(s.data.toList.take k).length=k:=by simp;omega
   rw [hl] at hv;have hp:256 ^ k≤256 ^ 7:=Nat.pow_le_pow_right (by omega) (by omega);have hb:Pl.valL (s.data.toList.take k)<72057594037927936:=by omega
   have hby:=(s[k]).toNat_lt;have hor:=or_byte (Pl.valL (s.data.toList.take k)) (s[k]).toNat hb hby;have hts:=Pl.valL_take_succ s.data.toList k hlt;have HS:Hid (Pl.valL (s.data.toList.take (k+1))=Pl.valL (s.data.toList.take k)*256+(s[k]).toNat):=hts;clear hts hv hl hp;go_wp2;go_round
   case rel=>exact ⟨k+1,by omega,by go_num,by rw [HS.out];go_num⟩
   case measure=>simp [intOf];omega
  ·have e:s.data.toList.take k=s.data.toList:=List.take_of_length_le (by simp;omega)
   have E:=Lib.hid e;clear e;go_wp2;go_ret2;exact ⟨congrArg (fun l:List UInt8=>Ending.returned (.tuple #[.int .u64 (Pl.valL l:Nat),.bool true])) E.out,rfl⟩

set_option maxHeartbeats 400000 in
theorem word_long (s:ByteArray) (w:World) (h:8<s.size):Calls Tryz.prog 216 #[.string s] w fun e w'=>e=.returned (.tuple #[.int .u64 0,.bool false])∧w=w':=by
 go_enter Tryz.func216,Tryz.ntmps216;go_wp2;go_ret2;exact ⟨rfl,rfl⟩

theorem words_small (a b:ByteArray) (w:World) (ha:a.size≤8) (hb:b.size≤8) :
 Calls Tryz.prog 189 #[.string a,.string b] w fun e w'=>e=.returned (.tuple #[.int .u64 (Pl.valL a.data.toList:Nat),.int .u64 (Pl.valL b.data.toList:Nat),.bool true])∧w=w':=by
 go_enter Tryz.func189,Tryz.ntmps189;go_wp2_with fail;refine (word_small a _ ha).mono ?_;rintro e w1 ⟨rfl,rfl⟩;go_wp2_with fail;refine (word_small b _ hb).mono ?_;rintro e w1 ⟨rfl,rfl⟩;go_wp2;go_ret3;exact ⟨rfl,rfl⟩

theorem made_any (s:Bool) (n:Nat) (w:World) :
 Calls Tryz.prog 158 #[.bool s,.string (mg n)] w fun e w'=>e=.returned (.agg #[.bool (s&&decide (n≠0)),.string (mg n)])∧Below w.heap.size w w':=by
 have he:=mg_empty n;go_enter Tryz.func158,Tryz.ntmps158;go_wp2
 all_goals
  refine bodyPost_ret (v:=.agg #[.bool (s&&decide (n≠0)),.string (mg n)]) (by simp [results,Tryz.results158,go_sem, *]) rfl ⟨rfl,(Below.refl _ _).alloc (Nat.le_refl _) _⟩
theorem len64_any (u:Nat) (w:World) (hu:u<18446744073709551616):Calls Tryz.prog 170 #[.int .u64 u] w fun e w'=>e=.returned (.int .i64 (Lib.bitLen u))∧w=w' :=
 (Tryz.bits_Len64 u w (by omega) (by omega)).mono fun _ _ ⟨h,k⟩=>⟨by simpa using h,k.symm⟩
theorem magnitude_any (u:Nat) (w:World) (hu:u<18446744073709551616) :
 Calls Tryz.prog 190 #[.int .u64 u] w fun e w'=>e=.returned (.string (mg u))∧Below w.heap.size w w':=by
 by_cases h0:u=0
 ·subst h0
  go_enter Tryz.func190,Tryz.ntmps190;go_wp2;go_ret;exact ⟨rfl,Below.refl _ _⟩
 have hL:=L_word u hu;have hb:=bitLen_L u h0 hu;have hb1:1≤Lib.bitLen u:=by rw [bitLen_log2 u h0 hu];omega
 have hlen:=fun w=>len64_any u w hu
 have hfin:=mg_of_nums u;have hb2:Lib.bitLen u≤64:=by omega
 have hget:=cellsOf_get u (Pl.L u) hL;rw [← hb] at hfin hget;clear hb hL;generalize Lib.bitLen u=b at *;have hc0:=cellsOf_zero u ((b+7)/8);have HF:=Lib.hid hfin;have HG:=Lib.hid hget;have HC:=Lib.hid hc0;have HL:=Lib.hid hlen;clear hc0 hfin hget hlen;have hg:(u==0)=false:=by simpa using h0
 go_enter Tryz.func190,Tryz.ntmps190;go_wp2_with (go_at_call 170;refine (HL.out _).mono ?_;rintro e w' ⟨rfl,rfl⟩)
 go_loopw [13] (fun i wr=>∃ k:Nat,k≤(b+7)/8∧i=.int .i64 k∧wr=w.alloc (.cells (cellsOf u ((b+7)/8) k).toArray 30)) (fun i _=>(b+7)/8-(intOf i).toNat)
 case atStart=>exact ⟨0,Nat.zero_le _,rfl,by rw [HC.out]⟩
 case round =>
  obtain ⟨k,hk,rfl,rfl⟩:=hrel
  by_cases hlt:k<(b+7)/8
  ·have hs:=cellsOf_succ u ((b+7)/8) k hlt (by omega)
   have HS:=Lib.hid hs;clear hs;obtain ⟨v,hv⟩:∃ v,(cellsOf u ((b+7)/8) k)[(b+7)/8-1-k]?=some v:=⟨_,List.getElem?_eq_getElem (by simp [cellsOf];omega)⟩
   go_wp2;go_roundw
   case rel=>exact ⟨k+1,by omega,by go_num,by rw [shr_byte,HS.out]⟩
   case measure=>simp [intOf];omega
  ·have hcv:=run_convert_bytes_arg (P:=Tryz.prog) (w.alloc (.cells (cellsOf u ((b+7)/8) k).toArray 30)) 173 5 Tryz.underlying173 Tryz.underlying5 w.heap.size 0 ((b+7)/8) 8
    ((List.range ((b+7)/8)).map fun j=>((u/256 ^ ((b+7)/8-1-j)%256:Nat):Int)) (by simp) (fun i hi=>by
     rw [cell_of_row _ w.heap.size (0+i) _ _ (0,0) (heap_alloc_new w _),Nat.zero_add,show k=(b+7)/8 from by omega];exact HG.out i hi) 9 Tryz.underlying9
   rw [HF.out] at hcv;have hbl:Below w.heap.size w (w.alloc (.cells (cellsOf u ((b+7)/8) k).toArray 30)):=(Below.refl _ _).alloc (Nat.le_refl _) _;generalize w.alloc (.cells (cellsOf u ((b+7)/8) k).toArray 30)=wx at hcv hbl ⊢;have hd0:0≤((b:Int)+7)/8:=by omega
   have hd1:((b:Int)+7)/8≤8:=by omega
   clear HG HF HC HL;go_wp2;go_ret;exact ⟨rfl,hbl⟩
theorem cmp_any (a b:Int) (w:World):Calls Tryz.prog 175 #[.int .i64 a,.int .i64 b] w fun e w'=>e=.returned (.int .i64 (if a<b then -1 else if b<a then 1 else 0))∧w=w':=by
 go_enter Tryz.func175,Tryz.ntmps175;go_wp2
 all_goals
  go_ret;exact ⟨rfl,rfl⟩
end Go.Proofs.YtiochgoocbkckaaGreatDoor

namespace Go.Proofs.YtiochgoocbkckaaGreatDoor
open Go Go.RowKit

def cmpZ (a b:Int):Int:=if a<b then -1 else if b<a then 1 else 0
def orZ (a b:Int):Int:=if a=0 then b else a
abbrev iv (z:Int):Value:=.agg #[.bool (ng z),.string (mg z.natAbs)]

theorem cmpInt_any (a b:Int) (w:World):Calls Tryz.prog 175 #[.int .i64 a,.int .i64 b] w fun e w'=>e=.returned (.int .i64 (cmpZ a b))∧w=w':=cmp_any a b w

theorem or_any (a b:Int) (h:Nat) (w:World) (h0:w.cell? ⟨h,0,none⟩=some (.int .i64 a)) (h1:w.cell? ⟨h,1,none⟩=some (.int .i64 b)) :
 Calls Tryz.prog 201 #[.slice (some ⟨h,0,none⟩) 2 2] w fun e w'=>e=.returned (.int .i64 (orZ a b))∧w=w':=by
 by_cases ha:a=0
 ·subst ha
  by_cases hb:b=0
  ·subst hb
   go_enter Tryz.func201,Tryz.ntmps201;go_wp2;go_rounds 3;go_ret;exact ⟨rfl,rfl⟩
  ·have hb':(b != 0)=true:=by simpa using hb
   go_enter Tryz.func201,Tryz.ntmps201;go_wp2;go_rounds 3;go_ret;exact ⟨rfl,rfl⟩
 ·have ha':(a != 0)=true:=by simpa using ha
  go_enter Tryz.func201,Tryz.ntmps201;go_wp2;go_rounds 3;go_ret;exact ⟨by rw [orZ,if_neg ha];rfl,rfl⟩

theorem compareBytes_val:∀ (l m:List UInt8),l.length=m.length→Lib.compareBytes l m=cmpZ (Pl.valL l:Nat) (Pl.valL m:Nat)
 | [],[],_=>by simp [Lib.compareBytes,cmpZ,Pl.valL]
 | [],_ :: _,h=>by simp at h
 | _ :: _,[],h=>by simp at h
 | a :: l,b :: m,h=>by
  have hl:l.length=m.length:=by simpa using h
  have ih:=compareBytes_val l m hl;have h1:=Pl.valL_lt l;have h2:=Pl.valL_lt m;rw [Lib.compareBytes,ih,Pl.valL_cons,Pl.valL_cons,hl];rw [hl] at h1;generalize Pl.valL l=x at *;generalize Pl.valL m=y at *;generalize 256 ^ m.length=p at *;rcases Nat.lt_trichotomy a.toNat b.toNat with h3|h3|h3
  ·rw [if_pos (UInt8.lt_iff_toNat_lt.2 h3)]
   have h4:(a.toNat+1)*p≤b.toNat*p:=Nat.mul_le_mul_right p h3;rw [Nat.add_mul] at h4;rw [cmpZ,if_pos (by omega)]
  ·have e:a=b:=UInt8.toNat_inj.1 h3
   subst e;rw [if_neg (by simp),if_neg (by simp)];unfold cmpZ;congr 1
   ·simp
   ·congr 1;simp
  ·rw [if_neg (by simp [UInt8.lt_iff_toNat_lt];omega),if_pos (UInt8.lt_iff_toNat_lt.2 h3)]
   have h4:(b.toNat+1)*p≤a.toNat*p:=Nat.mul_le_mul_right p h3;rw [Nat.add_mul] at h4;rw [cmpZ,if_neg (by omega),if_pos (by omega)]
theorem cmp_mag (a b:Nat):orZ (cmpZ (Pl.L a) (Pl.L b)) (Lib.compareBytes (mg a).data.toList (mg b).data.toList)=cmpZ a b:=by
 rw [mg_data,mg_data];rcases Nat.lt_trichotomy (Pl.L a) (Pl.L b) with h|h|h
 ·have:a<b:=by
   rcases Nat.lt_or_ge a b with h1|h1
   ·exact h1
   ·have:=Pl.L_mono h1;omega
  rw [show cmpZ (Pl.L a:Int) (Pl.L b:Int)=-1 from if_pos (by omega),orZ,if_neg (by decide),cmpZ,if_pos (by omega)]
 ·rw [show cmpZ (Pl.L a:Int) (Pl.L b:Int)=0 from by rw [cmpZ,if_neg (by omega),if_neg (by omega)],orZ,if_pos rfl,compareBytes_val _ _ (by rw [Pl.magL_length,Pl.magL_length,h]),Pl.valL_magL,Pl.valL_magL]
 ·have:b<a:=by
   rcases Nat.lt_or_ge b a with h1|h1
   ·exact h1
   ·have:=Pl.L_mono h1;omega
  rw [show cmpZ (Pl.L a:Int) (Pl.L b:Int)=1 from by rw [cmpZ,if_neg (by omega),if_pos (by omega)],orZ,if_neg (by decide),cmpZ,if_neg (by omega),if_pos (by omega)]

theorem strCompare_any (a b:ByteArray) (w:World):Calls Tryz.prog 202 #[.string a,.string b] w fun e w'=>e=.returned (.int .i64 (Lib.compareBytes a.data.toList b.data.toList))∧w=w' :=
 (Tryz.strings_Compare a b w).mono fun _ _ ⟨h,k⟩=>⟨h,k.symm⟩

theorem compare_any (a b:Nat) (w:World) :
 Calls Tryz.prog 173 #[.string (mg a),.string (mg b)] w fun e w'=>e=.returned (.int .i64 (cmpZ a b))∧Below w.heap.size w w':=by
 have hfin:=cmp_mag a b;have HF:=Lib.hid hfin;have ha:=mg_size a;have hb:=mg_size b;clear hfin;go_enter Tryz.func173,Tryz.ntmps173;go_wp2_with fail;refine (cmpInt_any _ _ _).mono ?_;rintro e w1 ⟨rfl,rfl⟩;go_wp2_with fail;refine (strCompare_any _ _ _).mono ?_;rintro e w1 ⟨rfl,rfl⟩;go_wp2_with fail;refine (or_any _ _ _ _ (by simp [go_sem];rfl) (by simp [go_sem];rfl)).mono ?_;rintro e w1 ⟨rfl,rfl⟩;go_wp2;go_ret;exact ⟨by rw [← HF.out];rfl,(Below.refl _ _).alloc (Nat.le_refl _) _⟩

theorem sign_any (z:Int) (w:World):Calls Tryz.prog 160 #[iv z] w fun e w'=>e=.returned (.int .i64 z.sign)∧Below w.heap.size w w':=by
 have he:=mg_empty z.natAbs;rcases Int.lt_trichotomy z 0 with h|h|h
 ·have h1:ng z=true:=by simpa [ng] using h
  have h2:z.natAbs≠0:=by omega
  have hs:=Lib.hid (Int.sign_eq_neg_one_of_neg h);go_enter Tryz.func160,Tryz.ntmps160;go_wp2;go_ret;exact ⟨by rw [hs.out];rfl,(by repeat (first|with_reducible exact Below.refl _ _|refine Below.drew ?_|refine Below.alloc ?_ (by first|(simp;done)|(simp;omega)|omega) _|refine Below.setCell ?_ (by first|(simp;done)|(simp;omega)|omega) _))⟩
 ·subst h
  have he0:(mg 0).toList.isEmpty=true:=by rw [mg_empty];rfl
  clear he;go_enter Tryz.func160,Tryz.ntmps160;go_wp2;go_ret;exact ⟨rfl,(by repeat (first|with_reducible exact Below.refl _ _|refine Below.drew ?_|refine Below.alloc ?_ (by first|(simp;done)|(simp;omega)|omega) _|refine Below.setCell ?_ (by first|(simp;done)|(simp;omega)|omega) _))⟩
 ·have h1:ng z=false:=by simpa [ng] using Int.le_of_lt h
  have h2:z.natAbs≠0:=by omega
  have hs:=Lib.hid (Int.sign_eq_one_of_pos h);go_enter Tryz.func160,Tryz.ntmps160;go_wp2;go_ret;exact ⟨by rw [hs.out];rfl,(by repeat (first|with_reducible exact Below.refl _ _|refine Below.drew ?_|refine Below.alloc ?_ (by first|(simp;done)|(simp;omega)|omega) _|refine Below.setCell ?_ (by first|(simp;done)|(simp;omega)|omega) _))⟩

theorem bcell {W w1:World} (hb:Below W.heap.size W w1):(∀ b o,b<W.heap.size→w1.cell? ⟨b,o,none⟩=W.cell? ⟨b,o,none⟩)∧(∀ b o,b<W.heap.size→w1.frozen? ⟨b,o,none⟩=W.frozen? ⟨b,o,none⟩) :=
 ⟨fun b o h=>hb.cell (p:=⟨b,o,none⟩) h,fun b o h=>hb.frozen (p:=⟨b,o,none⟩) h⟩

theorem bel_up {w W w1:World} (h0:Below w.heap.size w W) (hb:Below W.heap.size W w1):Below w.heap.size w w1:=h0.trans (hb.mono h0.size)
theorem bel_alloc {w w1:World} (h:Below w.heap.size w w1) (o:Obj):Below w.heap.size w (w1.alloc o):=h.alloc h.size o
theorem bB {p:Prop} (h:p:=by repeat (first|with_reducible assumption|with_reducible exact Below.refl _ _|with_reducible refine bel_alloc ?_ _|refine Below.setCell ?_ (by first|(simp;done)|(simp;omega)|omega) _)):p:=h
theorem neg_bool (z:Int):(!(ng z) && !decide (z=0))=ng (-z):=by
 unfold ng;rw [Bool.eq_iff_iff];simp;omega
theorem negate_any (z:Int) (w:World):Calls Tryz.prog 159 #[iv z] w fun e w'=>e=.returned (iv (-z))∧Below w.heap.size w w':=by
 have HN:=Lib.hid (neg_bool z);have HM:=Lib.hid (Int.natAbs_neg z);go_enter Tryz.func159,Tryz.ntmps159;go_wp2_with (go_at_call 158;refine (made_any _ _ _).mono ?_;rintro e w1 ⟨rfl,hb⟩;obtain ⟨hc,hf⟩:=bcell hb)
 have hz:=hb.size;refine bodyPost_ret (v:=.agg #[.bool (!ng z && !decide (z=0)),.string (mg z.natAbs)]) (by simp [results,Tryz.results159,go_sem,hc]) rfl ⟨by rw [HN.out,iv,HM.out],?_⟩;repeat (refine Below.setCell ?_ (by simp) _)
 exact bel_up (by repeat (first|with_reducible exact Below.refl _ _|refine Below.drew ?_|refine Below.alloc ?_ (by first|(simp;done)|(simp;omega)|omega) _|refine Below.setCell ?_ (by first|(simp;done)|(simp;omega)|omega) _)) hb
end Go.Proofs.YtiochgoocbkckaaGreatDoor

namespace Go.Proofs.YtiochgoocbkckaaGreatDoor
open Go Go.RowKit

def Blk (w:World) (g:Nat) (t:TypeId) (cs:List Value):Prop:=w.heap[g]?=some (.cells cs.toArray t (0,0))
section
variable {w w':World} {g:Nat} {t:TypeId} {cs:List Value}
theorem Blk.lt (h:Blk w g t cs):g<w.heap.size:=by
 unfold Blk at h;rcases Nat.lt_or_ge g w.heap.size with h1|h1
 ·exact h1
 ·rw [Array.getElem?_eq_none h1] at h;cases h
theorem Blk.cell (h:Blk w g t cs) (i:Nat):w.cell? ⟨g,i,none⟩=cs[i]?:=by
 rw [cell_of_row w g i cs.toArray t (0,0) h];simp
theorem Blk.cellAt (h:Blk w g t cs) {i:Nat} (hi:i<cs.length):w.cell? ⟨g,i,none⟩=some cs[i]:=by
 rw [h.cell,List.getElem?_eq_getElem hi]
theorem Blk.free (h:Blk w g t cs) (i:Nat):w.frozen? ⟨g,i,none⟩=false:=by
 unfold Blk at h;simp [World.frozen?,h]
theorem Blk.below {B:Nat} (h:Blk w g t cs) (hb:Below B w w') (hg:g<B):Blk w' g t cs:=(hb.block g hg).trans h
theorem Blk.up (h:Blk w g t cs) (hb:Below w.heap.size w w'):Blk w' g t cs:=h.below hb h.lt
theorem Blk.put (h:Blk w g t cs) (i:Nat) (v:Value):Blk (w.setCell ⟨g,i,none⟩ v) g t (cs.set i v):=by
 unfold Blk at h ⊢;simp [World.setCell,Array.getElem?_modify,h]
theorem Blk.far (h:Blk w g t cs) {p:Addr} (hp:g≠p.block) (v:Value):Blk (w.setCell p v) g t cs:=(Below.heap_setCell w p v g hp).trans h
theorem Blk.alloc (h:Blk w g t cs) (o:Obj):Blk (w.alloc o) g t cs:=(Below.heap_alloc w o g h.lt).trans h
theorem Blk.drew (h:Blk w g t cs):Blk w.drew g t cs:=h
theorem Blk.new (w:World) (t:TypeId) (cs:List Value):Blk (w.alloc (.cells cs.toArray t)) w.heap.size t cs:=heap_alloc_new w _
end
def u32s (l:List Nat):List Value:=l.map fun (d:Nat)=>.int .u32 (d:Int)
theorem u32s_length (l:List Nat):(u32s l).length=l.length:=by simp [u32s]
theorem u32s_get (l:List Nat) (i:Nat):(u32s l)[i]?=(l[i]?).map fun (d:Nat)=>.int .u32 (d:Int):=by simp [u32s]
theorem u32s_set (l:List Nat) (i d:Nat):(u32s l).set i (.int .u32 (d:Int))=u32s (l.set i d):=by
 simp [u32s,List.map_set]
theorem u32s_dg (k n i:Nat) (h:i<k):(u32s (Pl.dg 4294967296 k n))[i]?=some (.int .u32 ((n/4294967296 ^ i%4294967296:Nat):Int)):=by
 rw [u32s_get,List.getElem?_eq_getElem (by rw [Pl.dg_length];exact h),Pl.dg_get];rfl
theorem make_words (c:Int) (k:Nat) (hc:c=k) (hk:k≤134217728) (w:World):(Instr.makeSlice 196 (.int .i64 c) (.int .i64 c)).run Tryz.prog w =
 .ok (.slice (some ⟨w.heap.size,0,none⟩) k k) (w.alloc (.cells (u32s (Pl.dg 4294967296 k 0)).toArray 165)):=by
 subst hc;obtain ⟨i,hi,hz,hs,hb⟩:=info_parts (show (Tryz.prog.info? 165).map (fun i=>(i.zero,i.size,i.bytes))=some (some (.int .u32 0),1,4) by kernel_rfl);rw [run_make w _ _ i _ Tryz.underlying196 hi hz .i64 .i64 k k (by omega) (by omega) (by rw [hb];omega) (by omega),hs]
 have e:madeCells (Value.int .u32 0).cells ((k:Int).toNat*1)=(u32s (Pl.dg 4294967296 k 0)).toArray:=by
  apply Array.ext
  ·simp [size_madeCells,u32s_length,Pl.dg_length]
  ·intro j h1 h2
   simp [madeCells,u32s,Pl.dg,Value.cells,Nat.mod_one]
 rw [e];simp
theorem copy_words (w:World) (g1 g2 n1 n2 c1 c2 ty:Nat) (l1 l2:List Nat) (h1:Blk w g1 165 (u32s l1)) (h2:Blk w g2 165 (u32s l2)) (e1:l1.length=n1) (e2:l2.length=n2) (h:n1≤n2) :
 ∃ w',(Builtin.copy_ #[196,196] ty #[.slice (some ⟨g2,0,none⟩) n2 c2,.slice (some ⟨g1,0,none⟩) n1 c1]).run Tryz.prog w=.ok (goInt n1) w'∧Blk w' g2 165 (u32s (l1++l2.drop n1))∧(∀ B w0,B≤g2→Below B w0 w→Below B w0 w'):=by
 have hr:=run_copy_row (P:=Tryz.prog) w 196 196 ty 165 g2 0 n2 c2 ⟨g1,0,none⟩ n1 c1 (u32s l2).toArray 165 (u32s l1) Tryz.underlying196 (by kernel_rfl) h2
  (by rw [u32s_length,e1];exact (Nat.min_eq_left h).symm)
  (fun j v hj=>by
   have:(⟨g1,0,none⟩:Addr).add j=⟨g1,j,none⟩:=by unfold Addr.add;split<;>simp_all
   rw [this,h1.cell];exact hj)
  (by simp [u32s_length];omega) (fun v hv=>by simp only [u32s,List.mem_map] at hv;obtain ⟨d,_,rfl⟩:=hv;rfl)
 rw [u32s_length,e1] at hr;refine ⟨_,hr,?_,fun B w0 hB hb=>hb.setRow hB _⟩;have:=setRow_heap w g2 _ ((u32s l2).toArray.toList.take 0++u32s l1++(u32s l2).toArray.toList.drop (0+n1)).toArray 165 _ h2;unfold Blk;rw [this];simp [u32s,List.map_drop]
def u8s (l:List Nat):List Value:=l.map fun (d:Nat)=>.int .u8 (d:Int)
theorem u8s_length (l:List Nat):(u8s l).length=l.length:=by simp [u8s]
theorem u8s_get (l:List Nat) (i:Nat):(u8s l)[i]?=(l[i]?).map fun (d:Nat)=>.int .u8 (d:Int):=by simp [u8s]
theorem u8s_set (l:List Nat) (i d:Nat):(u8s l).set i (.int .u8 (d:Int))=u8s (l.set i d):=by simp [u8s,List.map_set]
theorem make_bytes (c:Int) (k:Nat) (hc:c=k) (hk:k≤1073741824) (w:World):(Instr.makeSlice 173 (.int .i64 c) (.int .i64 c)).run Tryz.prog w =
 .ok (.slice (some ⟨w.heap.size,0,none⟩) k k) (w.alloc (.cells (u8s (List.replicate k 0)).toArray 5)):=by
 subst hc;obtain ⟨i,hi,hz,hs,hb⟩:=info_parts (show (Tryz.prog.info? 5).map (fun i=>(i.zero,i.size,i.bytes))=some (some (.int .u8 0),1,1) by kernel_rfl);rw [run_make w _ _ i _ Tryz.underlying173 hi hz .i64 .i64 k k (by omega) (by omega) (by rw [hb];omega) (by omega),hs]
 have e:madeCells (Value.int .u8 0).cells ((k:Int).toNat*1)=(u8s (List.replicate k 0)).toArray:=by
  apply Array.ext
  ·simp [size_madeCells,u8s_length]
  ·intro j h1 h2
   simp [madeCells,u8s,Value.cells,Nat.mod_one]
 rw [e];simp
end Go.Proofs.YtiochgoocbkckaaGreatDoor

namespace Go.Proofs.YtiochgoocbkckaaGreatDoor
open Go Go.RowKit

set_option maxHeartbeats 400000 in
theorem digits_any (n:Nat) (w:World) (hn:Pl.L n≤67108864) :
 Calls Tryz.prog 199 #[.string (mg n)] w fun e w'=>e=.returned (.slice (some ⟨w.heap.size,0,none⟩) ((Pl.L n+3)/4) ((Pl.L n+3)/4))∧Blk w' w.heap.size 165 (u32s (Pl.dg 4294967296 ((Pl.L n+3)/4) n))∧Below w.heap.size w w':=by
 have hs:=mg_size n;generalize hN:Pl.L n=N at *;have HN:=Lib.hid hN;clear hN;have hmk:=make_words ((N+3)/4) ((N+3)/4) (by omega) (by omega);go_enter Tryz.func199,Tryz.ntmps199;go_wp2_with fail;clear hmk;go_loopw [4,5,13] (fun _ _ i wr=>∃ k:Nat,k≤N∧i=.int .i64 k∧Blk wr w.heap.size 165 (u32s (Pl.dg 4294967296 ((N+3)/4) (n%256 ^ k)))∧Below w.heap.size w wr) (fun _ _ i _=>N-(intOf i).toNat)
 case atStart=>exact ⟨0,Nat.zero_le _,rfl,by rw [Nat.pow_zero,Nat.mod_one];exact Blk.new _ _ _,(by repeat (first|with_reducible exact Below.refl _ _|refine Below.drew ?_|refine Below.alloc ?_ (by first|(simp;done)|(simp;omega)|omega) _|refine Below.setCell ?_ (by first|(simp;done)|(simp;omega)|omega) _))⟩
 case round =>
  obtain ⟨k,hk,rfl,hB,hb⟩:=hrel
  by_cases hlt:k<N
  ·have hi4:k/4<(N+3)/4:=by omega
   have hg:wr.cell? ⟨w.heap.size,k/4,none⟩=some (.int .u32 ((n%256 ^ k/4294967296 ^ (k/4)%4294967296:Nat):Int)):=by rw [hB.cell];exact u32s_dg _ _ _ hi4
   have hset:=Pl.dg_step ((N+3)/4) n k;have hor:=or_word n k;have hD2:n%256 ^ (k+1)/4294967296 ^ (k/4)%4294967296<4294967296:=Nat.mod_lt _ (by omega);have hb255:n/256 ^ k%256<256:=Nat.mod_lt _ (by omega);have hlen:N-1-k<(mg n).size:=by omega
   have hbt:((mg n)[N-1-k]'hlen).toNat=n/256 ^ k%256:=by have:=HN.out;subst this;exact mg_get n k hlt hlen
   generalize n/256 ^ k%256=bt at *;generalize n%256 ^ k/4294967296 ^ (k/4)%4294967296=D at *;generalize n%256 ^ (k+1)/4294967296 ^ (k/4)%4294967296=D2 at *;have HSET:=Lib.hid hset;clear hset;go_wp2_with fail;have dg:=Bel.cell hg;have i1:(0:Int)≤(k:Int)/4:=by omega
   have i2:(k:Int)/4<((N+3)/4:Nat):=by omega
   have i3:(0:Int)≤(N:Int)-1-k:=by omega
   have i4:(N:Int)-1-k<N:=by omega
   have i5:((N:Int)-1-k).toNat=N-1-k:=by omega
   have i6:(k:Int)≤(N:Int)-1:=by omega
   refine wp_region_tail 15 (by kernel_rfl) (by kernel_rfl) ?_;simp only [List.take_succ_cons,List.take_zero,List.drop_succ_cons,List.drop_zero];repeat (go_big_quiet_step (fail))
   refine wpQuiet_nil ?_;intro w1 hb1;have e0:w1.cell? _=_:=Bel.cell hg ⟨w1,hb1⟩;have g0:=(hB.up hb1).free (k/4);clear dg hg;go_wp2;go_roundw
   case rel=>exact ⟨k+1,by omega,by go_num,by rw [← HSET.out,← u32s_set];exact (hB.up hb1).put _ _,(bel_up hb hb1).setCell (Nat.le_refl _) _⟩
   case measure=>simp [intOf];omega
  ·have hk':k=Pl.L n:=by have:=HN.out;omega
   rw [hk',Nat.mod_eq_of_lt (Pl.lt_L n)] at hB;clear hk';go_wp2;go_ret;exact ⟨rfl,hB,hb⟩

theorem trim_any (g len cap:Nat) (l:List Nat) (w:World) (hB:Blk w g 165 (u32s l)) (hl:len≤l.length) (hc:len≤cap) (hbig:cap≤134217728) :
 Calls Tryz.prog 221 #[.slice (some ⟨g,0,none⟩) len cap] w fun e w'=>e=.returned (.slice (some ⟨g,0,none⟩) (Pl.tlen (l.take len)) cap)∧w=w':=by
 go_enter Tryz.func221,Tryz.ntmps221;go_wp2_with fail;go_loop [0] (fun s=>∃ k:Nat,k≤len∧s=.slice (some ⟨g,0,none⟩) k cap∧Pl.tlen (l.take k)=Pl.tlen (l.take len)) (fun s=>match s with|.slice _ n _=>n|_=>0)
 case atStart=>exact ⟨len,Nat.le_refl _,rfl,rfl⟩
 case round =>
  obtain ⟨k,hk,rfl,hrel⟩:=hrel;have HR:=Lib.hid hrel;clear hrel
  by_cases h0:k=0
  ·subst h0
   go_wp2;go_ret;exact ⟨by rw [← HR.out];rfl,rfl⟩
  ·have hcell:=hB.cell (k-1)
   rw [u32s_get,List.getElem?_eq_getElem (by omega:k-1<l.length)] at hcell;simp only [Option.map_some] at hcell
   by_cases hz:l[k-1]=0
   ·rw [hz] at hcell
    have HT:=Lib.hid (Pl.tlen_take_zero l k (by omega) (by omega) hz);clear hz;go_wp2;exact ⟨⟨k-1,by omega,rfl,by rw [← HT.out,HR.out]⟩,by show k-1<k;omega⟩
   ·have hz':((l[k-1]:Nat):Int)≠0:=by omega
    have HT:=Lib.hid (Pl.tlen_take_last l k (by omega) (by omega) hz);go_wp2;go_ret;exact ⟨by rw [← HR.out,HT.out];rfl,rfl⟩
end Go.Proofs.YtiochgoocbkckaaGreatDoor
