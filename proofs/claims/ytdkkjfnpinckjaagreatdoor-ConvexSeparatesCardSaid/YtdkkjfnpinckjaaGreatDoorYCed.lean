/-
 Contracts for convex sets: edges as a row of the call's own; cuts.
-/
import Derived.Test.YtdkkjfnpinckjaaGreatDoorYMo
import Derived.Test.YtdkkjfnpinckjaaGreatDoorYReg4
import Derived.Test.YtdkkjfnpinckjaaGreatDoorYCutQ
import Derived.Deep.Onto
set_option maxRecDepth 100000
set_option linter.unusedSimpArgs false
set_option linter.unusedVariables false
namespace Go.Proofs.YtdkkjfnpinckjaaGreatDoor
open Go Go.RowKit

def FarR (u v:Value):Prop:=∀ r,u.ownBlock=some r→v.ownBlock≠some r
theorem FarR.symm {u v:Value} (h:FarR u v):FarR v u:=fun r h1 h2=>h r h2 h1
theorem far_new {w w':World} {e e':TypeId} {k k' n n':Nat} {v u:Value} {xs xs':List Value} (h:w'.ownsRow w.heap.size e k v n xs) {base:Nat} (h':w.ownsRow base e' k' u n' xs'):FarR v u:=fun r h1 h2=>by
 have:=(h.lt r h1).1;have:=(h'.lt r h2).2;omega
theorem FarR.step {W w':World} {v v' u:Value} (s:Step W w' v v') {base k n:Nat} {e:TypeId} {xs:List Value} (h:W.ownsRow base e k u n xs) (hf:FarR u v):FarR u v':=fun r hr=>s.far r (h.lt r hr).2 (hf r hr)
theorem sg_oneo {w:World} {B:Nat} (hB:B≤w.heap.size) (s:(Rat×Rat)×(Rat×Rat)):(w.alloc (.cells (scells s).toArray 59)).ownsRow B 59 16 (.slice (some ⟨w.heap.size,0,none⟩) 1 1) 1 (segs [s]):=by
 have:=World.ownsRow_lit (base:=B) (e:=59) (size:=16) w (scells s).toArray 1 hB (by simp [maxLen]) (by simp [scells,pcells])
 simpa [segs] using this
theorem owns_openS {w:World} {base n:Nat} {v:Value} {l:List ((Rat×Rat)×(Rat×Rat))} (h:w.ownsRow base 59 16 v n (segs l)):n=l.length∧∃ A c,v=.slice A n c∧n≤c:=by
 have e:n=l.length:=by have:=h.1;rw [segs,flat_length scells 16 scells_len] at this;omega
 subst e;obtain ⟨A,c,hv,hc,_⟩:=(sv_own h).open_;exact ⟨rfl,A,c,hv,hc⟩
theorem signMul {m n:Int} (hm:m=-1∨m=0∨m=1) (hn:n=-1∨n=0∨n=1):∃ p,p=m*n∧IntKind.i64.wrap (m*n)=p∧wrap64 (m*n)=p∧(p=-1∨p=0∨p=1):=by
 refine ⟨m*n,rfl,?_,?_,?_⟩
 ·rcases hm with rfl|rfl|rfl<;>rcases hn with rfl|rfl|rfl<;>decide
 ·rcases hm with rfl|rfl|rfl<;>rcases hn with rfl|rfl|rfl<;>(unfold wrap64;omega)
 ·rcases hm with rfl|rfl|rfl<;>rcases hn with rfl|rfl|rfl<;>decide

theorem edges_manyo {S:Nat} (v:Value) (l:List (Rat×Rat)) (w:World) (h:PV w v l) (hs:∀ q∈l,Pl.SzP S q) (hn:l.length≤1000000) (hS:S≤100000) (h3:3≤l.length) :
 Calls Tryz.prog 54 #[v] w fun e w'=>∃ v' n',e=.returned v'∧w'.ownsRow w.heap.size 59 16 v' n' (segs (Pl.edges l))∧Below w.heap.size w w':=by
 obtain ⟨A,c,rfl,hc,hm,hx⟩:=h.open_;have HV:=Lib.hid h;have HX:=Lib.hid hx;have HS:=Lib.hid hs;have HR:Hid (Pl.edges l=(List.range l.length).map (Pl.edge l)):=Lib.hid (by unfold Pl.edges;rw [if_neg (by omega),if_neg (by omega)]);have HF:Hid (l.take l.length=l):=Lib.hid List.take_length;generalize hN:l.length=N at *;have HN:=Lib.hid hN;clear h hx hs hN;have j0:¬ (N:Int)=0:=by omega
 have j1:((N:Int)==0)=false:=by simpa using j0
 have j2:((N:Int)==1)=false:=by simp;omega
 have j3:((N:Int)==2)=false:=by simp;omega
 have j4:¬ (N:Int)<3:=by omega
 go_enter Tryz.func54,Tryz.ntmps54;go_wp2_with fail;go_loopw [3,23] (fun s3 s23 wr=>∃ (k:Nat) (L:List ((Rat×Rat)×(Rat×Rat))),s23=.int .i64 k∧wr.ownsRow w.heap.size 59 16 s3 k (segs L)∧Below w.heap.size w wr∧k≤N∧Hid (L=(List.range k).map (Pl.edge l))) (fun _ s23 _=>N-(intOf s23).toNat)
 case atStart=>exact ⟨0,([]),rfl,World.ownsRow_nil _ _ _ _,Below.refl _ _,(by omega),Lib.hid rfl⟩
 case round =>
  obtain ⟨k,L,rfl,o1,hB2,hk,HE⟩:=hrel;obtain ⟨wr3,hwr3⟩:∃ W_,W_=wr:=⟨_,rfl⟩
  subst hwr3;have O4:=Lib.hid o1;clear o1
  by_cases hltk:k<N
  ·skip
   have i1k:(k:Int)<N:=by omega
   obtain ⟨x5,hx6⟩:∃ x,l[k]?=some x:=⟨_,List.getElem?_eq_getElem (by rw [HN.out];omega)⟩
   have Hhx6:=Lib.hid hx6;have Zhx6:=Lib.hid (HS.out _ (List.mem_of_getElem? hx6));clear hx6;obtain ⟨m,hm1⟩:∃ m,m=(k+1)%N:=⟨_,rfl⟩
   have hm2:m<N:=hm1▸Nat.mod_lt _ (by omega);have i2:(m:Int)<N:=by omega
   obtain ⟨r1,r2,r3,r4,r5,r6⟩:=remS k N m hm1 (by omega) (by omega);have HM:=Lib.hid hm1;clear hm1;obtain ⟨x7,hx8⟩:∃ x,l[m]?=some x:=⟨_,List.getElem?_eq_getElem (by rw [HN.out];omega)⟩
   have Hhx8:=Lib.hid hx8;have Zhx8:=Lib.hid (HS.out _ (List.mem_of_getElem? hx8));clear hx8;have HT:Hid ((List.range (k+1)).map (Pl.edge l)=(List.range k).map (Pl.edge l)++[(x5,x7)]):=Lib.hid (by rw [List.range_succ,List.map_append,List.map_cons,List.map_nil,Pl.edge,Pl.getD_of Hhx6.out,HN.out,← HM.out,Pl.getD_of Hhx8.out]);obtain ⟨g10,o11,ha12,-⟩:=(HX.out).up kpP hB2 _ _ Hhx6.out;subst ha12;have ce9:=LX.at_ ((HX.out).up kpP hB2) Hhx6.out;have ce9_:g10<wr3.heap.size:=World.block_lt_of_cell? _ _ ce9.1;have uce9:=ce9;simp only [CE,Nat.reduceMul] at uce9;have f13:=owns_new0 O4.out;have ne14_:g10<wr3.heap.size:=by omega
   have ne14:=Nat.ne_of_lt ne14_;have ne14':=ne14.symm;go_wp2_with fail;refine wp_named ?_;intro W1 hW1;have hL1:Below wr3.heap.size wr3 W1:=by rw [hW1];exact bB
   have c15:Own W1 wr3.heap.size 0 [.bool (ng x5.1.num),.string (mg x5.1.num.natAbs),.bool false,.string (mg (dn x5.1)),.bool (ng x5.2.num),.string (mg x5.2.num.natAbs),.bool false,.string (mg (dn x5.2))]:=by
    rw [hW1]
    first
    | (repeat (first|(with_reducible refine own_new (l:=[.bool (ng x5.1.num),.string (mg x5.1.num.natAbs),.bool false,.string (mg (dn x5.1)),.bool (ng x5.2.num),.string (mg x5.2.num.natAbs),.bool false,.string (mg (dn x5.2))]) ?_;(simp;done))|with_reducible refine Own.alloc ?_ _|refine Own.far _ _ (by first|(simp;done)|(simp [*];done)|(simp;omega)) ?_));done
    | simp [Own,go_sem,uce9,ne14,ne14',ne14_]
   have O16:=Lib.hid (owns_up O4.out hL1);have hB17:Below w.heap.size w W1:=by rw [hW1];exact bB
   clear hW1 hL1 uce9;have dc15:=fun p:Bel W1=>c15.bel p
   simp only [At,Own,Nat.reduceAdd,and_true] at dc15;have ce18:=LX.at_ ((HX.out).up kpP hB17) Hhx8.out;have ce18_:g10<W1.heap.size:=World.block_lt_of_cell? _ _ ce18.1;have dce18:=fun b:Bel W1=>ce18.bel b
   simp only [CE,Nat.reduceMul] at dce18;refine wp_region_tail1 10 (.tmp 3) (by kernel_rfl) (by kernel_rfl) rfl rfl (fun _ _ _ h=>h) ?_;simp only [List.take_succ_cons,List.take_zero,List.drop_succ_cons,List.drop_zero];go_simp;repeat (go_big_quiet_step (fail))
   refine wpQuiet_nil ?_;intro w1 hb1;have c19:=c15.up hb1;have O20:=Lib.hid (owns_up O16.out hb1);have hB21:Below w.heap.size w w1:=bel_up hB17 hb1;clear dc15 dce18 c15 O16;have uc19:=c19;simp only [At,Own,Nat.reduceAdd,and_true] at uc19;go_wp2_with (at_builtin;refine wpList_appF rfl _ _ _ rfl ti_sg O20.out (hB21).size rfl rfl rfl rfl (scells_one (x5,x7)) (by omega) (by decide) ?_)
   intro v22 w_v22 hown_v22 hst_v22;have O24:Hid (w_v22.ownsRow w.heap.size 59 16 v22 ((k+1)) (segs (L++[(x5,x7)]))):=Lib.hid (by rw [segs_snoc];exact hown_v22);have c25:=Own.step hst_v22 f13 c19;have f26:=hst_v22.far _ c19.lt f13;have hB27:Below w.heap.size w w_v22:=hst_v22.below hB21 (hB21).size (fun r hr=>(O20.out.lt r hr).1);clear uc19 hown_v22 c19;have uc25:=c25;simp only [At,Own,Nat.reduceAdd,and_true] at uc25;go_wp2;go_roundw
   case rel=>exact ⟨(k+1),(L++[(x5,x7)]),(by first|rfl|exact congrArg (Value.int .i64) (by omega)|simp [*]),(by repeat (first|with_reducible exact O24.out|refine owns_far ?_ _ (by first|exact f26) _|with_reducible refine World.ownsRow.alloc ?_ _)),(by exact bB),(by omega),Lib.hid (by rw [HT.out,HE.out])⟩
   case measure=>simp [intOf]<;>omega
  ·skip
   have hkN:N=k:=by omega
   subst hkN;go_wp2;go_ret;exact ⟨_,_,rfl,(by rw [HR.out,← HE.out];exact O4.out),(by exact bB)⟩

theorem edges_shorto (v:Value) (l:List (Rat×Rat)) (w:World) (h:PV w v l) (h1:l.length≤1) :
 Calls Tryz.prog 54 #[v] w fun e w'=>∃ v' n',e=.returned v'∧w'.ownsRow w.heap.size 59 16 v' n' (segs (Pl.edges l))∧Below w.heap.size w w':=by
 rw [show Pl.edges l=[] by unfold Pl.edges;rw [if_pos (by omega)]];obtain ⟨A,c,rfl⟩:=h.len;have hcase:l.length=0∨l.length=1:=by omega
 clear h;generalize l.length=N at *;go_enter Tryz.func54,Tryz.ntmps54;rcases hcase with rfl|rfl
 ·go_wp2
  go_ret;exact ⟨_,_,rfl,World.ownsRow_nil _ _ _ _,Below.refl _ _⟩
 ·go_wp2
  go_ret;exact ⟨_,_,rfl,World.ownsRow_nil _ _ _ _,Below.refl _ _⟩

theorem edges_twoo {S:Nat} (v:Value) (a b:Rat×Rat) (w:World) (h:PV w v [a,b]) (ha:Pl.SzP S a) (hb:Pl.SzP S b) :
 Calls Tryz.prog 54 #[v] w fun e w'=>∃ v' n',e=.returned v'∧w'.ownsRow w.heap.size 59 16 v' n' (segs ([(a,b)]))∧Below w.heap.size w w':=by
 obtain ⟨A,c,rfl,hc,hm,hx⟩:=h.open2;have HX:=Lib.hid hx;clear h hx;go_enter Tryz.func54,Tryz.ntmps54;go_wp2_with fail;refine wp_named ?_;intro W1 hW1;have hL1:Below w.heap.size w W1:=by rw [hW1];exact bB
 have hB1:Below w.heap.size w W1:=by rw [hW1];exact bB
 clear hW1 hL1;obtain ⟨g3,o4,ha5,-⟩:=(HX.out).up kpP hB1 _ _ (show ([a,b]:List (Rat×Rat))[0]?=some a from rfl);subst ha5;have ce2:=LX.at_ ((HX.out).up kpP hB1) (show ([a,b]:List (Rat×Rat))[0]?=some a from rfl);have ce2_:g3<W1.heap.size:=World.block_lt_of_cell? _ _ ce2.1;have dce2:=fun b:Bel W1=>ce2.bel b
 simp only [CE,Nat.reduceMul,Nat.zero_mul,Nat.add_zero,Nat.add_assoc,Nat.reduceAdd] at dce2;have ce6:=LX.at_ ((HX.out).up kpP hB1) (show ([a,b]:List (Rat×Rat))[1]?=some b from rfl);have ce6_:g3<W1.heap.size:=World.block_lt_of_cell? _ _ ce6.1;have dce6:=fun b:Bel W1=>ce6.bel b
 simp only [CE,Nat.reduceMul,Nat.zero_mul,Nat.add_zero,Nat.add_assoc,Nat.reduceAdd] at dce6;refine wp_region_tail 6 (by kernel_rfl) (by kernel_rfl) ?_;simp only [List.take_succ_cons,List.take_zero,List.drop_succ_cons,List.drop_zero];repeat (go_big_quiet_step (fail))
 refine wpQuiet_nil ?_;intro w1 hb1;have hB7:Below w.heap.size w w1:=bel_up hB1 hb1;clear dce2 dce6;go_wp2;go_ret;exact ⟨_,_,rfl,(by skip;exact sg_oneo (hB7).size (a,b)),(by exact bB)⟩

theorem edges_own {S:Nat} (v:Value) (l:List (Rat×Rat)) (w:World) (h:PV w v l) (hs:∀ q∈l,Pl.SzP S q) (hn:l.length≤1000000) (hS:S≤100000) :
 Calls Tryz.prog 54 #[v] w fun e w'=>∃ v' n',e=.returned v'∧w'.ownsRow w.heap.size 59 16 v' n' (segs (Pl.edges l))∧Below w.heap.size w w':=by
 match l,h,hs,hn with
 | [],h,_,_=>exact edges_shorto v _ w h (by simp)
 | [a],h,_,_=>exact edges_shorto v _ w h (by simp)
 | [a,b],h,hs,_=>exact edges_twoo v a b w h (hs a (by simp)) (hs b (by simp))
 | _ :: _ :: _ :: _,h,hs,hn=>exact edges_manyo v _ w h hs hn hS (by simp)
end Go.Proofs.YtdkkjfnpinckjaaGreatDoor
