/-
  Rows of points that are written in place; what Compact leaves of any row of points.
  Contracts for convex sets: the hull of any points.
  Contracts for convex sets: the part to the left of a line.
-/
import Derived.Test.YtdkkjfnpinckjaaGreatDoorYMp
import Derived.Test.YtdkkjfnpinckjaaGreatDoorYDd
import Derived.Deep.MidRow
import Derived.Deep.LoopGhost
import Derived.Test.YtdkkjfnpinckjaaGreatDoorYCed
import Derived.Deep.RegionHeld3
import Derived.Deep.DeepCutAuto
set_option linter.unusedSimpArgs false
set_option linter.unusedVariables false
set_option maxRecDepth 100000
namespace Go.Proofs.YtdkkjfnpinckjaaGreatDoor
open Go Go.RowKit

def setFrom (xs:List Value):Nat→List Value→List Value
 | _,[]=>xs
 | i,v :: r=>setFrom (xs.set i v) (i+1) r
theorem setFrom_mid:∀ (vs p a b:List Value),a.length=vs.length→setFrom (p++a++b) p.length vs=p++vs++b
 | [],p,a,b,h=>by
  have:a=[]:=List.eq_nil_of_length_eq_zero h;subst this;rfl
 | v :: r,p,[],b,h=>by cases h
 | v :: r,p,x :: a,b,h=>by
  rw [setFrom];have e:(p++x :: a++b).set p.length v=(p++[v])++a++b:=by simp
  rw [e];have:=setFrom_mid r (p++[v]) a b (by simpa using h);rw [List.length_append] at this;rw [show p.length+1=p.length+[v].length from rfl,this];simp
theorem setFrom_pts {l:List (Rat×Rat)} {k:Nat} (hk:k<l.length) (u:Rat×Rat):setFrom (pts l) (k*8) (pcells u)=pts (l.set k u):=by
 have e1:l=l.take k++l[k] :: l.drop (k+1):=by rw [List.getElem_cons_drop,List.take_append_drop]
 have e2:pts l=pts (l.take k)++pcells l[k]++pts (l.drop (k+1)):=by
  have:∀ (a:List (Rat×Rat)) (x:Rat×Rat) (b:List (Rat×Rat)),pts (a++x :: b)=pts a++pcells x++pts b:=fun a x b=>by simp [pts]
  rw [← this,← e1]
 have e3:(pts (l.take k)).length=k*8:=by rw [pts_length,List.length_take,Nat.min_eq_left (by omega)]
 rw [e2,← e3,setFrom_mid (pcells u) (pts (l.take k)) (pcells l[k]) (pts (l.drop (k+1))) (by rw [pcells_len,pcells_len]),List.set_eq_take_append_cons_drop,if_pos hk];simp [pts]
theorem setFrom_take:∀ (vs xs:List Value) (i m:Nat),m≤i→(setFrom xs i vs).take m=xs.take m
 | [],_,_,_,_=>rfl
 | v :: r,xs,i,m,h=>by
  rw [setFrom,setFrom_take r _ _ _ (by omega),List.take_set_of_le h]
section
variable {w w0:World} {base n g cap size:Nat} {e:TypeId}
theorem own_setCells:∀ (vs:List Value) (i:Nat) (w:World) (xs:List Value),w.ownsRow base e size (.slice (some ⟨g,0,none⟩) n cap) n xs→(w.setCells g i vs).ownsRow base e size (.slice (some ⟨g,0,none⟩) n cap) n (setFrom xs i vs)
 | [],_,_,_,h=>h
 | v :: r,i,w,xs,h=>own_setCells r (i+1) _ _ (h.stored i v).1
theorem below_setCells {B:Nat} (hg:B≤g):∀ (vs:List Value) (i:Nat) (w:World),Below B w0 w→Below B w0 (w.setCells g i vs)
 | [],_,_,h=>h
 | v :: r,i,w,h=>below_setCells hg r (i+1) _ (h.setCell hg v)
theorem own_cut {xs:List Value} {m:Nat} (h:w.ownsRow base e size (.slice (some ⟨g,0,none⟩) n cap) n xs) (hm:m≤n):w.ownsRow base e size (.slice (some ⟨g,0,none⟩) m cap) m (xs.take (m*size)):=by
 rcases h.2 with ⟨h',_⟩|⟨g',cap',cur,h',hb,hg,hnc,hcm,hcs,htake⟩
 ·simp at h'
 ·simp only [Value.slice.injEq,Option.some.injEq,Addr.mk.injEq,and_true,true_and] at h'
  obtain ⟨rfl,rfl⟩:=h';have hms:m*size≤n*size:=Nat.mul_le_mul_right _ hm;refine ⟨by rw [List.length_take,h.1];omega,.inr ⟨g,cap,cur,rfl,hb,hg,by omega,hcm,hcs,?_⟩⟩;rw [← htake,List.take_take,Nat.min_eq_left hms]
end
theorem own_setPt {w:World} {base n g cap k:Nat} {l:List (Rat×Rat)} (h:w.ownsRow base 35 8 (.slice (some ⟨g,0,none⟩) n cap) n (pts l)) (hk:k<n) (u:Rat×Rat) :
 (w.setCells g (k*8) (pcells u)).ownsRow base 35 8 (.slice (some ⟨g,0,none⟩) n cap) n (pts (l.set k u)):=by
 have hl:n=l.length:=by have:=h.1;rw [pts_length] at this;omega
 have:=own_setCells (pcells u) (k*8) w _ h
 rwa [setFrom_pts (by omega)] at this
theorem own_there {w:World} {base n g cap k:Nat} {l:List (Rat×Rat)} (h:w.ownsRow base 35 8 (.slice (some ⟨g,0,none⟩) n cap) n (pts l)) {m:Nat} (hk:k*8+m≤n*8) :
 w.there g (k*8) m:=fun j hj=>⟨by
 rw [h.cellAt (k*8+j) (by omega)];have:=h.1
 rw [List.getElem?_eq_getElem (by omega)];rfl,h.frozenAt _⟩
theorem own_clear {w:World} {base n g cap k:Nat} {l:List (Rat×Rat)} (h:w.ownsRow base 35 8 (.slice (some ⟨g,0,none⟩) n cap) n (pts l)) (hk:k≤n) (vs:List Value) :
 (w.setCells g (k*8) vs).ownsRow base 35 8 (.slice (some ⟨g,0,none⟩) k cap) k (pts (l.take k)):=by
 have h1:=own_cut (own_setCells vs (k*8) w _ h) hk;rw [setFrom_take _ _ _ _ (Nat.le_refl _)] at h1
 have e:(pts l).take (k*8)=pts (l.take k):=by
  have hl:n=l.length:=by have:=h.1;rw [pts_length] at this;omega
  have e1:pts l=pts (l.take k)++pts (l.drop k):=by
   have:∀ (a b:List (Rat×Rat)),pts (a++b)=pts a++pts b:=fun a b=>by simp [pts]
   rw [← this,List.take_append_drop]
  rw [e1,List.take_left' (by rw [pts_length,List.length_take,Nat.min_eq_left (by omega)])]
 rwa [e] at h1
theorem run_clear_pts (w:World) (b o n c:Nat) (hn:0<n) (ht:w.there b o (n*8)) :
 ∃ cs,∀ ty,(Builtin.clear_ #[26] ty #[.slice (some ⟨b,o,none⟩) n c]).run Tryz.prog w=.ok (.tuple #[]) (w.setCells b o cs):=by
 obtain ⟨z,hz,hs,h1⟩:∃ z:Value,(∀ w,(zeroValue 35).run Tryz.prog w=.ok z w)∧z.cells.size=8∧z.cells.all (·.oneCell')=true:=⟨_,Tryz.zeroValue35,rfl,by simp [Value.cells,Value.oneCell']⟩
 have hsz:(Builtin.zeroCells z.cells n).size=n*8:=by rw [size_zeroCells,hs]
 have hst:=run_storeCells_cells (P:=Tryz.prog) b o (Builtin.zeroCells z.cells n).toList 0 w (fun j hj=>by
  have:=(ht j (by rw [Array.length_toList,hsz] at hj;exact hj)).1;simpa using this) (fun j hj=>by
  have:=(ht j (by rw [Array.length_toList,hsz] at hj;exact hj)).2;simpa using this) (by
  intro v hv;simp only [Builtin.zeroCells,Array.toList_map,List.mem_map] at hv;obtain ⟨i,_,rfl⟩:=hv;have hi:i%z.cells.size<z.cells.size:=Nat.mod_lt _ (by omega);rw [getElem!_pos z.cells (i%z.cells.size) hi]
  exact Array.all_eq_true.1 h1 _ hi)
 simp only [Nat.add_zero] at hst;obtain ⟨m,rfl⟩:∃ m,n=m+1:=⟨n-1,by omega⟩
 exact ⟨(Builtin.zeroCells z.cells (m+1)).toList,fun ty=>by simp [Builtin.clear_,run_underlying Tryz.underlying26,hz,hst]⟩
theorem dd_short {l:List (Rat×Rat)} (h:l.length<2):dd l=l:=by
 match l,h with
 | [],_=>rfl
 | [x],_=>exact dd_one x
def DdI (l r:List (Rat×Rat)) (m p:Nat):Prop:=r.take m=dd (l.take p)∧r.drop m=l.drop m∧r.length=l.length
theorem DdI.at_ {l r:List (Rat×Rat)} {m p i:Nat} (h:DdI l r m p) (hi:m≤i):r[i]?=l[i]?:=by
 have:=congrArg (fun z=>z[i-m]?) h.2.1;simp only [List.getElem?_drop] at this
 rwa [show m+(i-m)=i by omega] at this
theorem DdI.same {l r:List (Rat×Rat)} {m p:Nat} {x:Rat×Rat} (h:DdI l r m (p+1)) (hx:l[p]?=some x) (hy:l[p+1]?=some x):DdI l r m (p+1+1) :=
 ⟨by rw [h.1,dd_step hx hy,if_pos rfl],h.2⟩
theorem DdI.more {l r:List (Rat×Rat)} {m p:Nat} {x y:Rat×Rat} (h:DdI l r m (p+1)) (hx:l[p]?=some x) (hy:l[p+1]?=some y) (hne:y≠x) (hm:m≤p):DdI l (r.set m y) (m+1) (p+1+1):=by
 have hl:p+1<l.length:=(List.getElem?_eq_some_iff.1 hy).1;have hmr:m<r.length:=by have:=h.2.2;omega
 refine ⟨?_,?_,by rw [List.length_set];exact h.2.2⟩
 ·rw [dd_step hx hy,if_neg (Ne.symm hne),← h.1,List.take_add_one,List.getElem?_set_self hmr]
  rw [List.take_set_of_le (Nat.le_refl _)];rfl
 ·rw [List.drop_set_of_lt (Nat.lt_succ_self m)]
  have:=congrArg (List.drop 1) h.2.1
  rwa [List.drop_drop,List.drop_drop] at this
def CmpRel (base g cap n k:Nat) (l:List (Rat×Rat)) (w:World) (i j:Value) (wr:World):Prop :=
 ∃ (m p:Nat) (r:List (Rat×Rat)),i=.int .i64 m∧j=.int .i64 (p+1:Nat)∧k+1≤m∧m≤k+1+p∧k+2+p≤n∧wr.ownsRow base 35 8 (.slice (some ⟨g,0,none⟩) n cap) n (pts r)∧Below base w wr∧Hid (DdI l r m (k+1+p+1))
theorem CmpRel.mk {base g cap n k:Nat} {l:List (Rat×Rat)} {w wr:World} {i j:Value} (m p:Nat) (r:List (Rat×Rat)) (h1:i=.int .i64 m) (h2:j=.int .i64 (p+1:Nat)) (h3:k+1≤m) (h4:m≤k+1+p) (h5:k+2+p≤n)
 (h6:wr.ownsRow base 35 8 (.slice (some ⟨g,0,none⟩) n cap) n (pts r)) (h7:Below base w wr) (h8:Hid (DdI l r m (k+1+p+1))):CmpRel base g cap n k l w i j wr:=⟨m,p,r,h1,h2,h3,h4,h5,h6,h7,h8⟩
set_option maxHeartbeats 600000 in
theorem compact_any (v:Value) (l:List (Rat×Rat)) (n base:Nat) (w:World) (hown:w.ownsRow base 35 8 v n (pts l)) (hn:n≤1000000) :
 Calls Tryz.prog 107 #[v] w fun e w'=>∃ v',e=.returned v'∧w'.ownsRow base 35 8 v' (dd l).length (pts (dd l))∧Below base w w':=by
 have hnl:n=l.length:=by have:=hown.1;rw [pts_length] at this;omega
 by_cases h2:n<2
 ·have i1:(n:Int)<2:=by omega
  have hd:dd l=l:=dd_short (by omega);obtain ⟨A,c,hv⟩:∃ A c,v=.slice A n c:=(owns_open hown).2.imp fun A h=>h.imp fun c h=>h.1
  have HO:=Lib.hid hown;have HD:=Lib.hid hd;have HL:=Lib.hid hnl;clear hown hd hnl;subst hv;go_enter Tryz.func107,Tryz.ntmps107;go_wp2;go_ret;exact ⟨_,rfl,by rw [HD.out,← HL.out];exact HO.out,Below.refl _ _⟩
 ·have i1:¬ (n:Int)<2:=by omega
  obtain ⟨g,cap,hv,hnc,hcm,hgw,hbg⟩:=owns_form hown (by omega);subst hv;have HO:=Lib.hid hown;have HL:=Lib.hid hnl;clear hown hnl;go_enter Tryz.func107,Tryz.ntmps107;go_wp2_with fail;go_loopw [3] (fun i wr=>∃ k:Nat,k+1≤n∧i=.int .i64 (k+1:Nat)∧wr.ownsRow base 35 8 (.slice (some ⟨g,0,none⟩) n cap) n (pts l)∧Below base w wr∧Hid (∀ (j:Nat) x y,j+1≤k→l[j]?=some x→l[j+1]?=some y→x≠y)) (fun i _=>n-(intOf i).toNat)
  case atStart=>exact ⟨0,by omega,rfl,HO.out,Below.refl _ _,Lib.hid (fun j x y h=>by omega)⟩
  case round =>
   clear HO;obtain ⟨k,hk,rfl,ho,hB,HA⟩:=hrel;have O1:=Lib.hid ho;clear ho
   by_cases hlt:k+1<n
   ·have i2:((k+1:Nat):Int)<n:=by omega
    have i3:(k:Int)<n:=by omega
    obtain ⟨x,hx⟩:∃ x,l[k]?=some x:=⟨_,List.getElem?_eq_getElem (by rw [← HL.out];omega)⟩
    obtain ⟨y,hy⟩:∃ y,l[k+1]?=some y:=⟨_,List.getElem?_eq_getElem (by rw [← HL.out];omega)⟩
    have c1:=LX.at_ (owns_viewP O1.out) hx;have c2:=LX.at_ (owns_viewP O1.out) hy;have d1:=fun b:Bel wr=>c1.bel b
    have d2:=fun b:Bel wr=>c2.bel b
    simp only [CE,Nat.zero_add] at d1 d2;have e1:((k+1:Nat):Int)-1=(k:Int):=by omega
    have e2:IntKind.i64.wrap (((k+1:Nat):Int)-1)=(k:Int):=by simp [IntKind.wrap,IntKind.bits,IntKind.signed];omega
    have e3:wrap64 (((k+1:Nat):Int)-1)=(k:Int):=by unfold wrap64;omega
    have HX:=Lib.hid hx;have HY:=Lib.hid hy;clear hx hy c1 c2
    by_cases hdup:y=x
    ·have EQ:=fun W=>eqP_in y x W
     rw [decide_eq_true hdup] at EQ;have HDUP:=Lib.hid hdup;clear hdup;go_wp2_with fail;refine wp_region_all (by kernel_rfl) (by kernel_rfl) ?_;repeat (go_big_quiet_step (fail))
     refine wpQuiet_nil ?_;intro w1 hb1;have hB1:=hB.trans (hb1.mono (Nat.le_trans hbg (Nat.le_of_lt (Nat.lt_of_lt_of_le hgw hB.size))));have O2:=Lib.hid (owns_up O1.out hb1);clear d1 d2 O1 EQ;have i4:((k+1:Nat):Int)≤n:=by omega
     have i5:(n:Int)≤cap:=by omega
     have HST:Hid (DdI l l (k+1) (k+1+0+1)):=Lib.hid ⟨by
      rw [Nat.add_zero,dd_step HX.out HY.out,if_pos HDUP.out.symm,dd_all (by rw [← HL.out];omega) HA.out],rfl,rfl⟩
     go_wp2_with fail;go_loopw [3,5] (fun i j wr=>CmpRel base g cap n k l w i j wr) (fun _ j _=>n-(k+1)-(intOf j).toNat)
     case atStart=>exact CmpRel.mk (k+1) 0 l rfl rfl (Nat.le_refl _) (by omega) (by omega) O2.out hB1 HST
     case round =>
      clear O2 HST hB1 hb1 e1 e2 e3 HX HY HDUP hB HA;obtain ⟨m,p,r,rfl,rfl,hm1,hm2,hp,ho,hB,HI⟩:=hrel;obtain ⟨wq,hwq⟩:∃ W_,W_=wr:=⟨_,rfl⟩
      subst hwq;have O3:=Lib.hid ho;clear ho;have e1:((p+1:Nat):Int)-1=(p:Int):=by omega
      have e2:IntKind.i64.wrap (((p+1:Nat):Int)-1)=(p:Int):=by simp [IntKind.wrap,IntKind.bits,IntKind.signed];omega
      have e3:wrap64 (((p+1:Nat):Int)-1)=(p:Int):=by unfold wrap64;omega
      by_cases hlt2:k+2+p<n
      ·have j1:((p+1:Nat):Int)<((n-(k+1):Nat):Int):=by omega
       have j2:(p:Int)<((n-(k+1):Nat):Int):=by omega
       have j3:(m:Int)<n:=by omega
       obtain ⟨x,hx⟩:∃ x,l[k+1+p]?=some x:=⟨_,List.getElem?_eq_getElem (by rw [← HL.out];omega)⟩
       obtain ⟨y,hy⟩:∃ y,l[k+1+p+1]?=some y:=⟨_,List.getElem?_eq_getElem (by rw [← HL.out];omega)⟩
       have c1:CE wq g ((k+1)*8+p*8) x:=by
        have:=LX.at_ (owns_viewP O3.out) ((HI.out.at_ (by omega)).trans hx)
        rwa [show 0+(k+1+p)*8=(k+1)*8+p*8 by omega] at this
       have c2:CE wq g ((k+1)*8+(p+1)*8) y:=by
        have:=LX.at_ (owns_viewP O3.out) ((HI.out.at_ (by omega)).trans hy)
        rwa [show 0+(k+1+p+1)*8=(k+1)*8+(p+1)*8 by omega] at this
       have d1:=fun b:Bel wq=>c1.bel b
       have d2:=fun b:Bel wq=>c2.bel b
       simp only [CE] at d1 d2;have HX:=Lib.hid hx;have HY:=Lib.hid hy;clear hx hy c1
       by_cases hdup:y=x
       ·have EQ:=fun W=>eqP_in y x W
        rw [decide_eq_true hdup] at EQ;have HDUP:=Lib.hid hdup;clear hdup;go_wp2_with fail;refine wp_region_all (by kernel_rfl) (by kernel_rfl) ?_;repeat (go_big_quiet_step (fail))
        refine wpQuiet_nil ?_;intro w2 hb2;have hB2:=hB.trans (hb2.mono (Nat.le_trans hbg (Nat.le_of_lt (Nat.lt_of_lt_of_le hgw hB.size))));have O4:=Lib.hid (owns_up O3.out hb2);clear d1 d2 O3 EQ;go_wp2;go_roundw
        case rel=>exact CmpRel.mk m (p+1) r rfl (congrArg (Value.int .i64) (by omega)) (by omega) (by omega) (by omega) O4.out hB2 (Lib.hid (DdI.same HI.out HX.out (by rw [← HDUP.out];exact HY.out)))
        case measure=>simp [intOf];omega
       ·have EQ:=fun W=>eqP_in y x W
        rw [decide_eq_false hdup] at EQ;have HDUP:=Lib.hid hdup;clear hdup;go_wp2_with fail;refine wp_region_all (by kernel_rfl) (by kernel_rfl) ?_;repeat (go_big_quiet_step (fail))
        refine wpQuiet_nil ?_;intro w2 hb2;have hB2:=hB.trans (hb2.mono (Nat.le_trans hbg (Nat.le_of_lt (Nat.lt_of_lt_of_le hgw hB.size))));have O4:=Lib.hid (owns_up O3.out hb2);have uc:=c2.up hb2;simp only [CE] at uc;clear d1 d2 O3 EQ c2;have OS:Hid ((w2.setCells g (m*8) (#[.bool (ng y.1.num),.string (mg y.1.num.natAbs),.bool false,.string (mg (dn y.1)),.bool (ng y.2.num),.string (mg y.2.num.natAbs),.bool false,.string (mg (dn y.2))]:Array Value).toList).ownsRow base 35 8 (.slice (some ⟨g,0,none⟩) n cap) n (pts (r.set m y))):=Lib.hid (own_setPt O4.out (by omega) y);have BS:Hid (Below base w (w2.setCells g (m*8) (#[.bool (ng y.1.num),.string (mg y.1.num.natAbs),.bool false,.string (mg (dn y.1)),.bool (ng y.2.num),.string (mg y.2.num.natAbs),.bool false,.string (mg (dn y.2))]:Array Value).toList)):=Lib.hid (below_setCells hbg _ _ _ hB2);have DS:=Lib.hid (DdI.more HI.out HX.out HY.out HDUP.out (by omega));have HTH:=Lib.hid (own_there (m:=8) O4.out (show m*8+8≤n*8 by omega));go_wp2_with (refine wpList_store_mid rfl 35 _ _ rfl _ _ _ (by rfl) (by rfl) (by simpa using HTH.out) (by kernel_rfl) (by simp [Value.oneCell']) ?_)
        go_roundw
        case rel=>exact CmpRel.mk (m+1) (p+1) (r.set m y) (congrArg (Value.int .i64) (by omega)) (congrArg (Value.int .i64) (by omega)) (by omega) (by omega) (by omega) (by first|with_reducible exact OS.out|simpa using OS.out) (by first|with_reducible exact BS.out|simpa using BS.out) DS
        case measure=>simp [intOf];omega
      ·have j1:¬ ((p+1:Nat):Int)<((n-(k+1):Nat):Int):=by omega
       have j3:(m:Int)≤n:=by omega
       have j4:¬ cap=m:=by omega
       obtain ⟨cs,hcl⟩:=run_clear_pts wq g (m*8) (n-m) (cap-m) (by omega) (own_there O3.out (by omega))
       have HD:Hid (r.take m=dd l):=Lib.hid (by
        rw [HI.out.1,show k+1+p+1=l.length by have:=HL.out;omega,List.take_length])
       have HM:Hid ((dd l).length=m):=Lib.hid (by rw [← HD.out,List.length_take,HI.out.2.2];have:=HL.out;omega);go_wp2;go_ret;exact ⟨_,rfl,by rw [HM.out,← HD.out];exact own_clear O3.out (by omega) cs,below_setCells hbg _ _ _ hB⟩
    ·have EQ:=fun W=>eqP_in y x W
     rw [decide_eq_false hdup] at EQ;have HDUP:=Lib.hid hdup;clear hdup;go_wp2_with fail;refine wp_region_all (by kernel_rfl) (by kernel_rfl) ?_;repeat (go_big_quiet_step (fail))
     refine wpQuiet_nil ?_;intro w1 hb1;have hB1:=hB.trans (hb1.mono (Nat.le_trans hbg (Nat.le_of_lt (Nat.lt_of_lt_of_le hgw hB.size))));have O2:=Lib.hid (owns_up O1.out hb1);clear d1 d2 O1
     have HA2:Hid (∀ (j:Nat) x y,j+1≤k+1→l[j]?=some x→l[j+1]?=some y→x≠y):=Lib.hid (fun j x' y' hj h1 h2=>by
      rcases Nat.lt_or_ge j k with hlt|hge
      ·exact HA.out j x' y' hlt h1 h2
      ·obtain rfl:j=k:=by omega
       have e1:=HX.out;have e2:=HY.out;rw [h1] at e1;rw [h2] at e2;cases e1;cases e2
       exact fun e=>HDUP.out e.symm)
     go_wp2;go_roundw
     case rel=>exact ⟨k+1,by omega,congrArg (Value.int .i64) (by omega),O2.out,hB1,HA2⟩
     case measure=>simp [intOf];omega
   ·have i2:¬ ((k+1:Nat):Int)<n:=by omega
    have HE:Hid (dd l=l):=Lib.hid (by
     have e:k+1=l.length:=by have:=HL.out;omega
     have:=dd_all (l:=l) (m:=k) (by omega) HA.out;rw [e,List.take_length] at this
     exact this)
    go_wp2;go_ret;exact ⟨_,rfl,by rw [HE.out,← HL.out];exact O1.out,hB⟩
end Go.Proofs.YtdkkjfnpinckjaaGreatDoor
set_option maxRecDepth 100000
namespace Go.Proofs.YtdkkjfnpinckjaaGreatDoor
open Go Go.RowKit

set_option maxHeartbeats 2000000 in
theorem hull_any {S:Nat} (v:Value) (l:List (Rat×Rat)) (w:World) (h:PV w v l) (hs:∀ q∈l,Pl.SzP S q) (hn:l.length≤1000000) (hS:S≤100000) :
 Calls Tryz.prog 66 #[v] w fun e w'=>∃ v',e=.returned v'∧PV w' v' (Pl.wrap l)∧Below w.heap.size w w':=by
 have KC:=Lib.hid (fun W hW=>clone_any v l W hW hn);have KS:=Lib.hid (fun u B W hW=>sort_any (S:=S) u l.length B l W hW hs hn hS);have HV:=Lib.hid h;have HS0:∀ q∈dd (sortP l),Pl.SzP S q:=fun q hq=>hs q ((sortP_mem l q).1 ((dd_mem _ q).1 hq))
 have hls:(sortP l).length=l.length:=sortP_length l;have HW:=Lib.hid (hullL_wrap l);obtain ⟨s0,hs0⟩:∃ s,s=sortP l:=⟨_,rfl⟩
 have HE0:=Lib.hid hs0;rw [← hs0] at HS0 hls HW;have KX:=Lib.hid (fun u n B W hW hn=>compact_any u s0 n B W hW hn);have hds:(dd s0).length≤l.length:=by rw [← hls];exact dd_len s0
 obtain ⟨s,hs1⟩:∃ s,s=dd s0:=⟨_,rfl⟩
 rw [← hs1] at HS0 hds HW;have HE1:=Lib.hid hs1;have HS:=Lib.hid HS0;have hsn:s.length≤1000000:=Nat.le_trans hds hn;have KH:=Lib.hid (fun u W hW=>chain_any u s W hW HS.out hsn hS);have KR:=Lib.hid (fun u B W hW=>reverse_any (S:=S) u s.length B s W hW HS.out hsn);have KH2:=Lib.hid (fun u W hW=>chain_any u s.reverse W hW (fun q hq=>HS.out q (List.mem_reverse.1 hq)) (by rw [List.length_reverse];exact hsn) hS);have HC1:=Lib.hid (chain_len s);have HC2:=Lib.hid (chain_len s.reverse);have HD1:=Lib.hid (chain_le s);have HD2:=Lib.hid (chain_le s.reverse);have HH:=Lib.hid (show s.length<3→Pl.hullL s=s from fun h=>by unfold Pl.hullL;rw [if_pos h]);have HH2:=Lib.hid (show ¬ s.length<3→Pl.hullL s=(Pl.chain s).dropLast++(Pl.chain s.reverse).dropLast from fun h=>by unfold Pl.hullL;rw [if_neg h]);generalize hM:s.length=M at *;have HLS:=Lib.hid hM;generalize hN:l.length=N at *;clear h hs hs0 hs1 hls hN hM HS0;go_enter Tryz.func66,Tryz.ntmps66;go_wp2_with fail;with_reducible refine (KC.out _ HV.out).mono ?_
 rintro e w1 ⟨v1,rfl,ho1,hb1⟩;have O1:=Lib.hid ho1;clear ho1;go_wp2_with fail;with_reducible refine (KS.out _ _ _ O1.out).mono ?_
 rintro e w2 ⟨rfl,ho2,hst2⟩;have hb2:Below w.heap.size w w2:=hst2.below hb1 hb1.size (fun r hr=>(O1.out.lt r hr).1);have O2:Hid (w2.ownsRow w.heap.size 35 8 v1 N (pts s0)):=Lib.hid (by rw [HE0.out];exact ho2);clear ho2 hst2;go_wp2_with fail;with_reducible refine (KX.out _ _ _ _ O2.out hn).mono ?_
 rintro e w3 ⟨v3,rfl,ho3,hb3⟩;have O3:Hid (w3.ownsRow w.heap.size 35 8 v3 M (pts s)):=Lib.hid (by rw [← HE1.out,HLS.out] at ho3;exact ho3);have hb3:=hb2.trans hb3;clear ho3 O2 O1
 by_cases h3:M<3
 ·have i1:(M:Int)<3:=by omega
  obtain ⟨A,c,hv⟩:∃ A c,v3=.slice A M c:=(owns_open O3.out).2.imp fun A h=>h.imp fun c h=>h.1
  subst hv;go_wp2;go_ret;exact ⟨_,rfl,by rw [← HW.out,HH.out h3];exact pv_own O3.out,hb3⟩
 ·have i1:¬ (M:Int)<3:=by omega
  obtain ⟨g,cap,hv,hnc,hcm,hg,hbg⟩:=owns_form O3.out (by omega);subst hv;go_wp2_with fail;with_reducible refine (KH.out _ _ (pv_own O3.out)).mono ?_
  rintro e w4 ⟨v4,n4,rfl,ho4,hb4⟩;have O4:=Lib.hid ho4;have O3b:=Lib.hid (owns_up O3.out hb4);have hb4:=bel_up hb3 hb4;clear ho4;go_wp2_with fail;with_reducible refine (KR.out _ _ _ O3b.out).mono ?_
  rintro e w5 ⟨rfl,ho5,hst5⟩;have hb5:Below w.heap.size w w5:=hst5.below hb4 hb4.size (fun r hr=>(O3b.out.lt r hr).1);have O5:=Lib.hid ho5;have O4b:=Lib.hid (owns_step hst5 O4.out (fun r hr hg'=>by have:=(O4.out.lt r hr).1;simp only [Value.ownBlock,Option.some.injEq] at hg';omega));clear ho5 hst5;go_wp2_with fail;with_reducible refine (KH2.out _ _ (pv_own O5.out)).mono ?_
  rintro e w6 ⟨v6,n6,rfl,ho6,hb6⟩;have O6:=Lib.hid ho6;have O4c:=Lib.hid (owns_up O4b.out hb6);have hb6:=bel_up hb5 hb6;clear ho6;have hn4:n4=(Pl.chain s).length:=(owns_open O4c.out).1;have hn6:n6=(Pl.chain s.reverse).length:=(owns_open O6.out).1;have g4:2≤n4:=by rw [hn4];exact HC1.out (by omega)
  have g6:2≤n6:=by rw [hn6];exact HC2.out (by rw [List.length_reverse,HLS.out];omega)
  have d4:n4≤1000000:=by rw [hn4];exact Nat.le_trans HD1.out hsn
  have d6:n6≤1000000:=by rw [hn6];exact Nat.le_trans HD2.out (by rw [List.length_reverse,HLS.out];exact hsn)
  have HN4:=Lib.hid hn4;have HN6:=Lib.hid hn6;clear hn4 hn6;obtain ⟨x4,c4,hv4,hc4,hm4,hg4,_⟩:=owns_form O4c.out (by omega);subst hv4;obtain ⟨x6,c6,hv6,hc6,hm6,hg6,_⟩:=owns_form O6.out (by omega);subst hv6;have P4:=Lib.hid (pv_cut O4c.out);have P6:=Lib.hid (pv_cut O6.out);obtain ⟨m4,hm4'⟩:∃ m,n4=m+1:=⟨n4-1,by omega⟩
  subst hm4';obtain ⟨m6,hm6'⟩:∃ m,n6=m+1:=⟨n6-1,by omega⟩
  subst hm6';clear O4 O3b O4b;obtain ⟨r1,r2,r3,r4⟩:=cutS m4 (by omega);obtain ⟨r5,r6,r7,r8⟩:=cutS m6 (by omega);go_wp2_with fail;refine wp_region_tail 10 (by kernel_rfl) (by kernel_rfl) ?_;simp only [List.take_succ_cons,List.take_zero,List.drop_succ_cons,List.drop_zero];repeat (go_big_quiet_step (fail))
  refine wpQuiet_nil ?_;intro w7 hb7;have P4b:=Lib.hid (P4.out.up hb7);have P6b:=Lib.hid (P6.out.up hb7);have hb7:=bel_up hb6 hb7;clear P4 P6;go_wp2_with fail;refine calls_named ?_;intro W8 hW8;have hL8:Below w7.heap.size w7 W8:=by rw [hW8];repeat (first|with_reducible exact Below.refl _ _|with_reducible refine bel_alloc ?_ _)
  have z0:W8.cell? ⟨w7.heap.size,0,none⟩=some (.slice (some ⟨x4,0,none⟩) m4 c4):=by rw [hW8];simp [go_sem]
  have z1:W8.cell? ⟨w7.heap.size,1,none⟩=some (.slice (some ⟨x6,0,none⟩) m6 c6):=by rw [hW8];simp [go_sem]
  clear hW8;have q4:(Pl.chain s).dropLast.length=m4:=by rw [List.length_dropLast,← HN4.out];rfl
  have q6:(Pl.chain s.reverse).dropLast.length=m6:=by rw [List.length_dropLast,← HN6.out];rfl
  with_reducible refine (concat_any _ _ _ _ _ _ (P4b.out.up hL8) (P6b.out.up hL8) z0 z1 (by rw [q4];omega) (by rw [q6];omega) (by rw [q4,q6];omega)).mono ?_
  rintro e w9 ⟨v9,rfl,hp9,hb9⟩;have hb9:=bel_up (bel_up hb7 hL8) hb9;have P9:=Lib.hid hp9;clear hp9 z0 z1 hL8 q4 q6;go_wp2;go_ret;exact ⟨_,rfl,by rw [← HW.out,HH2.out h3];exact P9.out,hb9⟩
end Go.Proofs.YtdkkjfnpinckjaaGreatDoor
set_option maxRecDepth 100000
namespace Go.Proofs.YtdkkjfnpinckjaaGreatDoor
open Go Go.RowKit

theorem filt_yes {l:List (Rat×Rat)} {k:Nat} {x:Rat×Rat} {f:Rat×Rat→Bool} (h:l[k]?=some x) (hf:f x=true):(l.take (k+1)).filter f=(l.take k).filter f++[x]:=by
 rw [List.take_add_one,h,List.filter_append];simp [hf]
theorem filt_no {l:List (Rat×Rat)} {k:Nat} {x:Rat×Rat} {f:Rat×Rat→Bool} (h:l[k]?=some x) (hf:f x=false):(l.take (k+1)).filter f=(l.take k).filter f:=by
 rw [List.take_add_one,h,List.filter_append];simp [hf]
def leftB (a b:Rat×Rat) (p:Rat×Rat):Bool:=decide (0≤Pl.turn a b p)
def crL (a b:Rat×Rat) (s:(Rat×Rat)×(Rat×Rat)):List (Rat×Rat):=if Pl.turn a b s.1*Pl.turn a b s.2<0 then [Pl.crs a b s.1 s.2] else []
theorem leftB_of {a b p:Rat×Rat} {t:Int} (h:Pl.turn a b p=t):leftB a b p=decide (0≤t):=by rw [leftB,h]
theorem crL_yes {a b:Rat×Rat} {s:(Rat×Rat)×(Rat×Rat)} {m n p:Int} (h1:Pl.turn a b s.1=m) (h2:Pl.turn a b s.2=n) (hp:p=m*n) (h:p<0):crL a b s=[Pl.crs a b s.1 s.2]:=by
 rw [crL,if_pos (by rw [h1,h2,← hp];exact h)]
theorem crL_no {a b:Rat×Rat} {s:(Rat×Rat)×(Rat×Rat)} {m n p:Int} (h1:Pl.turn a b s.1=m) (h2:Pl.turn a b s.2=n) (hp:p=m*n) (h:¬ p<0):crL a b s=[]:=by
 rw [crL,if_neg (by rw [h1,h2,← hp];exact h)]
theorem crL_ne {a b:Rat×Rat} {s:(Rat×Rat)×(Rat×Rat)} {m n p:Int} (h1:Pl.turn a b s.1=m) (h2:Pl.turn a b s.2=n) (hp:p=m*n) (h:p<0):Pl.crossP (Pl.subP b a) (Pl.subP s.1 a)-Pl.crossP (Pl.subP b a) (Pl.subP s.2 a)≠0:=by
 have h3:Pl.turn a b s.1*Pl.turn a b s.2<0:=by rw [h1,h2,← hp];exact h
 have h4:=Pl.sign_mul.1 h3;show Pl.det a b s.1-Pl.det a b s.2≠0;grind
theorem flat_snocS {α:Type} {l:List α} {k:Nat} {x:α} {f:α→List (Rat×Rat)} (h:l[k]?=some x):(l.take (k+1)).flatMap f=(l.take k).flatMap f++f x:=by
 rw [List.take_add_one,h];simp
theorem cutE_parts (l:List (Rat×Rat)) (a b:Rat×Rat):Pl.cutE l a b=l.filter (leftB a b)++(Pl.edges l).flatMap (crL a b):=rfl

theorem pdivC {j k:Nat} (a b:Rat×Rat) (e:(Rat×Rat)×(Rat×Rat)) (w:World) (hs:Pl.SzS j e) (hr:Pl.Sz k (Pl.crossP (Pl.subP b a) (Pl.subP e.1 a)/(Pl.crossP (Pl.subP b a) (Pl.subP e.1 a)-Pl.crossP (Pl.subP b a) (Pl.subP e.2 a)))) (hj:j≤100000) (hk:k≤100000) :
 Calls Tryz.prog 115 #[.agg #[.bool (ng e.1.1.num),.string (mg e.1.1.num.natAbs),.bool false,.string (mg (dn e.1.1)),.bool (ng e.1.2.num),.string (mg e.1.2.num.natAbs),.bool false,.string (mg (dn e.1.2)),.bool (ng e.2.1.num),.string (mg e.2.1.num.natAbs),.bool false,.string (mg (dn e.2.1)),.bool (ng e.2.2.num),.string (mg e.2.2.num.natAbs),.bool false,.string (mg (dn e.2.2))],
  .agg #[.bool (ng (Pl.crossP (Pl.subP b a) (Pl.subP e.1 a)/(Pl.crossP (Pl.subP b a) (Pl.subP e.1 a)-Pl.crossP (Pl.subP b a) (Pl.subP e.2 a))).num),.string (mg (Pl.crossP (Pl.subP b a) (Pl.subP e.1 a)/(Pl.crossP (Pl.subP b a) (Pl.subP e.1 a)-Pl.crossP (Pl.subP b a) (Pl.subP e.2 a))).num.natAbs),.bool false,.string (mg (dn (Pl.crossP (Pl.subP b a) (Pl.subP e.1 a)/(Pl.crossP (Pl.subP b a) (Pl.subP e.1 a)-Pl.crossP (Pl.subP b a) (Pl.subP e.2 a)))))]] w fun e' w'=>e'=.returned (pv (Pl.crs a b e.1 e.2))∧Below w.heap.size w w' :=
 pdiv_any e _ w hs hr hj hk

theorem cutE_len (l:List (Rat×Rat)) (a b:Rat×Rat):(Pl.cutE l a b).length≤2*l.length:=by
 rw [cutE_parts,List.length_append];have h1:=List.length_filter_le (leftB a b) l
 have h2:∀ E:List ((Rat×Rat)×(Rat×Rat)),(E.flatMap (crL a b)).length≤E.length:=by
  intro E
  induction E with
  | nil=>simp
  | cons e E ih =>
   rw [List.flatMap_cons,List.length_append,List.length_cons];have:(crL a b e).length≤1:=by unfold crL;split<;>simp
   omega
 have h3:=h2 (Pl.edges l);have h4:=Pl.edges_length l;omega
set_option maxHeartbeats 4000000 in
theorem ccut_any {I J K:Nat} (v:Value) (l:List (Rat×Rat)) (a b:Rat×Rat) (w:World) (h:PV w v l) (hs:∀ q∈l,Pl.SzP J q) (hn:l.length≤400000) (ha:Pl.SzP I a) (hb:Pl.SzP I b) (hIJ:18*I+6*J+16≤100000) (hC:∀ q∈Pl.cutE l a b,Pl.SzP K q) (hK:K≤100000) :
 Calls Tryz.prog 80 #[v,.agg #[.bool (ng a.1.num),.string (mg a.1.num.natAbs),.bool false,.string (mg (dn a.1)),.bool (ng a.2.num),.string (mg a.2.num.natAbs),.bool false,.string (mg (dn a.2)),.bool (ng b.1.num),.string (mg b.1.num.natAbs),.bool false,.string (mg (dn b.1)),.bool (ng b.2.num),.string (mg b.2.num.natAbs),.bool false,.string (mg (dn b.2))]] w fun e w'=>∃ v',e=.returned v'∧PV w' v' (Pl.wrap (Pl.cutE l a b))∧Below w.heap.size w w':=by
 obtain ⟨A,c,rfl,hc,hm,hx⟩:=h.open_;have HV:=Lib.hid h;have HX:=Lib.hid hx;have HS:=Lib.hid hs;obtain ⟨ES,hES⟩:∃ E,Pl.edges l=E:=⟨_,rfl⟩
 obtain ⟨NE,hNE⟩:∃ n,ES.length=n:=⟨_,rfl⟩
 have hle:NE≤l.length:=by rw [← hNE,← hES];exact Pl.edges_length l
 have HES:=Lib.hid hES;have HNE0:=Lib.hid hNE;have HZS:Hid (∀ s∈ES,Pl.SzS J s):=Lib.hid (by rw [← hES];exact Pl.edges_sz HS.out);have HFE:Hid (ES.take NE=ES):=Lib.hid (by rw [← hNE];exact List.take_length);have HC:=Lib.hid hC;have HLEN:Hid ((Pl.cutE l a b).length≤1000000):=Lib.hid (by have:=cutE_len l a b;omega);clear hES hNE hC;have HF:Hid (l.take l.length=l):=Lib.hid List.take_length;generalize hN:l.length=N at *;have HN:=Lib.hid hN;clear h hx hs hN;go_enter Tryz.func80,Tryz.ntmps80;go_wp2_with fail;refine wp_named ?_;intro W1 hW1;have hL1:Below w.heap.size w W1:=by rw [hW1];exact bB
 have c1:Own W1 w.heap.size 0 [.bool (ng a.1.num),.string (mg a.1.num.natAbs),.bool false,.string (mg (dn a.1)),.bool (ng a.2.num),.string (mg a.2.num.natAbs),.bool false,.string (mg (dn a.2)),.bool (ng b.1.num),.string (mg b.1.num.natAbs),.bool false,.string (mg (dn b.1)),.bool (ng b.2.num),.string (mg b.2.num.natAbs),.bool false,.string (mg (dn b.2))]:=by
  rw [hW1]
  first
  | (repeat (first|(with_reducible refine own_new (l:=[.bool (ng a.1.num),.string (mg a.1.num.natAbs),.bool false,.string (mg (dn a.1)),.bool (ng a.2.num),.string (mg a.2.num.natAbs),.bool false,.string (mg (dn a.2)),.bool (ng b.1.num),.string (mg b.1.num.natAbs),.bool false,.string (mg (dn b.1)),.bool (ng b.2.num),.string (mg b.2.num.natAbs),.bool false,.string (mg (dn b.2))]) ?_;(simp;done))|with_reducible refine Own.alloc ?_ _|refine Own.far _ _ (by first|(simp;done)|(simp [*];done)|(simp;omega)) ?_));done
  | simp [Own,go_sem]
 have hB2:Below w.heap.size w W1:=by rw [hW1];exact bB
 clear hW1 hL1;go_loopw [5,19] (fun s5 s19 wr=>∃ (k:Nat) (n:Nat) (L:List (Rat×Rat)),s19=.int .i64 k∧Own wr w.heap.size 0 [.bool (ng a.1.num),.string (mg a.1.num.natAbs),.bool false,.string (mg (dn a.1)),.bool (ng a.2.num),.string (mg a.2.num.natAbs),.bool false,.string (mg (dn a.2)),.bool (ng b.1.num),.string (mg b.1.num.natAbs),.bool false,.string (mg (dn b.1)),.bool (ng b.2.num),.string (mg b.2.num.natAbs),.bool false,.string (mg (dn b.2))]∧wr.ownsRow w.heap.size 35 8 s5 n (pts L)∧Value.ownBlock s5≠some w.heap.size∧Below w.heap.size w wr∧k≤N∧n≤k∧Hid (L=(l.take k).filter (leftB a b))) (fun _ s19 _=>N-(intOf s19).toNat)
 case atStart=>exact ⟨0,0,([]),rfl,c1,World.ownsRow_nil _ _ _ _,by simp [Value.ownBlock],hB2,(by omega),(by omega),Lib.hid rfl⟩
 case round =>
  clear c1 hB2;obtain ⟨k,n,L,rfl,b3,o4,f5,hB6,hk,hnk,HE⟩:=hrel;obtain ⟨wr7,hwr7⟩:∃ W_,W_=wr:=⟨_,rfl⟩
  subst hwr7;have O8:=Lib.hid o4;clear o4
  by_cases hltk:k<N
  ·skip
   have i1k:(k:Int)<N:=by omega
   obtain ⟨x9,hx10⟩:∃ x,l[k]?=some x:=⟨_,List.getElem?_eq_getElem (by rw [HN.out];omega)⟩
   have Hhx10:=Lib.hid hx10;have Zhx10:=Lib.hid (HS.out _ (List.mem_of_getElem? hx10));clear hx10;obtain ⟨g12,o13,ha14,-⟩:=(HX.out).up kpP hB6 _ _ Hhx10.out;subst ha14;have ce11:=LX.at_ ((HX.out).up kpP hB6) Hhx10.out;have ce11_:g12<wr7.heap.size:=World.block_lt_of_cell? _ _ ce11.1;have uce11:=ce11;simp only [CE,Nat.reduceMul] at uce11;have f15:=owns_new0 O8.out;have ne16_:w.heap.size<wr7.heap.size:=by have:=b3.lt;omega
   have ne16:=Nat.ne_of_lt ne16_;have ne16':=ne16.symm;have ne17_:g12<wr7.heap.size:=by omega
   have ne17:=Nat.ne_of_lt ne17_;have ne17':=ne17.symm;have ub3:=b3;simp only [At,Own,Nat.reduceAdd,and_true] at ub3;have kK18:=fun W=>orient_any a b x9 W ha hb Zhx10.out (by omega) (by omega) (by omega)
   generalize hT20:Pl.turn a b x9=t19 at kK18;have K18:=Lib.hid kK18;clear kK18;have T21:=Lib.hid (sgn3 hT20);have HhT20:=Lib.hid hT20;clear hT20;go_wp2_with (fail)
   refine calls_named ?_;intro W2 hW2;have hL2:Below wr7.heap.size wr7 W2:=by rw [hW2];exact bB
   have c22:=b3.up hL2
   have c23:Own W2 wr7.heap.size 0 [.bool (ng x9.1.num),.string (mg x9.1.num.natAbs),.bool false,.string (mg (dn x9.1)),.bool (ng x9.2.num),.string (mg x9.2.num.natAbs),.bool false,.string (mg (dn x9.2))]:=by
    rw [hW2]
    first
    | (repeat (first|(with_reducible refine own_new (l:=[.bool (ng x9.1.num),.string (mg x9.1.num.natAbs),.bool false,.string (mg (dn x9.1)),.bool (ng x9.2.num),.string (mg x9.2.num.natAbs),.bool false,.string (mg (dn x9.2))]) ?_;(simp;done))|with_reducible refine Own.alloc ?_ _|refine Own.far _ _ (by first|(simp;done)|(simp [*];done)|(simp;omega)) ?_));done
    | simp [Own,go_sem,uce11,ub3,ne16,ne16',ne16_,ne17,ne17',ne17_]
   have O24:=Lib.hid (owns_up O8.out hL2);have hB25:Below w.heap.size w W2:=by rw [hW2];exact bB
   clear hW2 hL2 uce11 ub3 b3;with_reducible refine (K18.out _).mono ?_
   rintro e w2 ⟨rfl,hb2⟩;have c26:=c22.up hb2;have c27:=c23.up hb2;have O28:=Lib.hid (owns_up O24.out hb2);have hB29:Below w.heap.size w w2:=bel_up hB25 hb2;clear c22 c23 O24;rcases T21.out with rfl|rfl|rfl
   ·skip
    have uc26:=c26;have uc27:=c27;simp only [At,Own,Nat.reduceAdd,and_true] at uc26 uc27;go_wp2;go_roundw
    case rel=>exact ⟨(k+1),n,L,(by first|rfl|exact congrArg (Value.int .i64) (by omega)|simp [*]),(by repeat (first|with_reducible exact c26|refine Own.far _ _ (by simp<;>omega) ?_|with_reducible refine Own.alloc ?_ _)),(by repeat (first|with_reducible exact O28.out|refine owns_far ?_ _ (by first|exact f5|exact f15) _|with_reducible refine World.ownsRow.alloc ?_ _)),f5,(by exact bB),(by omega),(by omega),Lib.hid (by rw [filt_no Hhx10.out (by rw [leftB_of HhT20.out];rfl),HE.out])⟩
    case measure=>simp [intOf]<;>omega
   ·skip
    have uc26:=c26;have uc27:=c27;simp only [At,Own,Nat.reduceAdd,and_true] at uc26 uc27;go_wp2_with (at_builtin;refine wpList_appF rfl _ _ _ rfl ti_pt O28.out (hB29).size rfl rfl rfl rfl (pcells_one x9) (by omega) (by decide) ?_)
    intro v30 w_v30 hown_v30 hst_v30;have O32:Hid (w_v30.ownsRow w.heap.size 35 8 v30 ((n+1)) (pts (L++[x9]))):=Lib.hid (by rw [pts_snoc];exact hown_v30);have c33:=Own.step hst_v30 f5 c26;have f34:=hst_v30.far _ c26.lt f5;have c35:=Own.step hst_v30 f15 c27;have f36:=hst_v30.far _ c27.lt f15;have hB37:Below w.heap.size w w_v30:=hst_v30.below hB29 (hB29).size (fun r hr=>(O28.out.lt r hr).1);clear uc26 uc27 hown_v30 c26 c27;have uc33:=c33;have uc35:=c35;simp only [At,Own,Nat.reduceAdd,and_true] at uc33 uc35;go_wp2;go_roundw
    case rel=>exact ⟨(k+1),(n+1),(L++[x9]),(by first|rfl|exact congrArg (Value.int .i64) (by omega)|simp [*]),(by repeat (first|with_reducible exact c33|refine Own.far _ _ (by simp<;>omega) ?_|with_reducible refine Own.alloc ?_ _)),(by repeat (first|with_reducible exact O32.out|refine owns_far ?_ _ (by first|exact f34|exact f36) _|with_reducible refine World.ownsRow.alloc ?_ _)),f34,(by exact bB),(by omega),(by omega),Lib.hid (by rw [filt_yes Hhx10.out (by rw [leftB_of HhT20.out];rfl),HE.out])⟩
    case measure=>simp [intOf]<;>omega
   ·skip
    have uc26:=c26;have uc27:=c27;simp only [At,Own,Nat.reduceAdd,and_true] at uc26 uc27;go_wp2_with (at_builtin;refine wpList_appF rfl _ _ _ rfl ti_pt O28.out (hB29).size rfl rfl rfl rfl (pcells_one x9) (by omega) (by decide) ?_)
    intro v38 w_v38 hown_v38 hst_v38;have O40:Hid (w_v38.ownsRow w.heap.size 35 8 v38 ((n+1)) (pts (L++[x9]))):=Lib.hid (by rw [pts_snoc];exact hown_v38);have c41:=Own.step hst_v38 f5 c26;have f42:=hst_v38.far _ c26.lt f5;have c43:=Own.step hst_v38 f15 c27;have f44:=hst_v38.far _ c27.lt f15;have hB45:Below w.heap.size w w_v38:=hst_v38.below hB29 (hB29).size (fun r hr=>(O28.out.lt r hr).1);clear uc26 uc27 hown_v38 c26 c27;have uc41:=c41;have uc43:=c43;simp only [At,Own,Nat.reduceAdd,and_true] at uc41 uc43;go_wp2;go_roundw
    case rel=>exact ⟨(k+1),(n+1),(L++[x9]),(by first|rfl|exact congrArg (Value.int .i64) (by omega)|simp [*]),(by repeat (first|with_reducible exact c41|refine Own.far _ _ (by simp<;>omega) ?_|with_reducible refine Own.alloc ?_ _)),(by repeat (first|with_reducible exact O40.out|refine owns_far ?_ _ (by first|exact f42|exact f44) _|with_reducible refine World.ownsRow.alloc ?_ _)),f42,(by exact bB),(by omega),(by omega),Lib.hid (by rw [filt_yes Hhx10.out (by rw [leftB_of HhT20.out];rfl),HE.out])⟩
    case measure=>simp [intOf]<;>omega
  ·skip
   have hkN:N=k:=by omega
   subst hkN;have HFL:Hid (L=l.filter (leftB a b)):=Lib.hid (by rw [HE.out,HF.out]);have K46:=Lib.hid (fun v W hW=>HES.out▸edges_own v l W hW HS.out (by rw [HN.out];omega) (by omega));have ub3:=b3;simp only [At,Own,Nat.reduceAdd,and_true] at ub3;go_wp2_with (fail)
   refine calls_named ?_;intro W3 hW3;have hL3:Below wr7.heap.size wr7 W3:=by rw [hW3];exact bB
   have c47:=b3.up hL3;have O48:=Lib.hid (owns_up O8.out hL3);have hB49:Below w.heap.size w W3:=by rw [hW3];exact bB
   clear hW3 hL3 ub3 b3;with_reducible refine (K46.out _ _ (HV.out.up hB49)).mono ?_
   rintro e w3 ⟨v3,n3,rfl,ho3,hb3⟩;have f50:Value.ownBlock v3≠some w.heap.size:=fun e_=>by have:=(ho3.lt _ e_).1;have:=c47.lt;omega
   have ff51:FarR v3 u5:=far_new ho3 O48.out;have ff51':=FarR.symm ff51;have OC3:=Lib.hid (ho3.mono (hB49).size);clear ho3;have c52:=c47.up hb3;have O53:=Lib.hid (owns_up O48.out hb3);have hB54:Below w.heap.size w w3:=bel_up hB49 hb3;clear c47 O48;obtain ⟨hn36,A36,c36,hv36,_⟩:=owns_openS OC3.out;have hq36:NE=n3:=(hn36.trans HNE0.out).symm;subst hq36;subst hv36;clear hn36;go_wp2_with fail;go_loopw [5,38] (fun s5 s38 wr=>∃ (i:Nat) (n2:Nat) (M:List (Rat×Rat)),s38=.int .i64 i∧Own wr w.heap.size 0 [.bool (ng a.1.num),.string (mg a.1.num.natAbs),.bool false,.string (mg (dn a.1)),.bool (ng a.2.num),.string (mg a.2.num.natAbs),.bool false,.string (mg (dn a.2)),.bool (ng b.1.num),.string (mg b.1.num.natAbs),.bool false,.string (mg (dn b.1)),.bool (ng b.2.num),.string (mg b.2.num.natAbs),.bool false,.string (mg (dn b.2))]∧wr.ownsRow w.heap.size 35 8 s5 n2 (pts M)∧Value.ownBlock s5≠some w.heap.size∧wr.ownsRow w.heap.size 59 16 (.slice A36 NE c36) NE (segs ES)∧FarR (.slice A36 NE c36) s5∧Below w.heap.size w wr∧i≤NE∧n2≤n+i∧Hid (M=L++(ES.take i).flatMap (crL a b))) (fun _ s38 _=>NE-(intOf s38).toNat)
   case atStart=>exact ⟨0,n,L,rfl,c52,O53.out,f5,OC3.out,ff51,hB54,(by omega),(by omega),Lib.hid (by simp)⟩
   case round =>
    clear c52 hB54 O53 OC3;obtain ⟨i,n2,M,rfl,b55,o56,f57,o58,ff59,hB60,hi,hn2,HM⟩:=hrel;obtain ⟨wr61,hwr61⟩:∃ W_,W_=wr:=⟨_,rfl⟩
    subst hwr61;have O62:=Lib.hid o56;clear o56;have O63:=Lib.hid o58;clear o58;have ff59':=FarR.symm ff59
    by_cases hlti:i<NE
    ·skip
     have i1i:(i:Int)<NE:=by omega
     obtain ⟨g36,cap36,hv36,_,_,_,_⟩:=owns_form O63.out (by omega);injection hv36 with hv36 _ hv37
     subst hv36;subst hv37;obtain ⟨x64,hx65⟩:∃ x,ES[i]?=some x:=⟨_,List.getElem?_eq_getElem (by rw [HNE0.out];omega)⟩
     have Hhx65:=Lib.hid hx65;have Zhx65:=Lib.hid (HZS.out _ (List.mem_of_getElem? hx65));clear hx65;have ce66:=LX.at_ (owns_viewS O63.out) Hhx65.out;have uce66:=ce66;simp only [CS,Nat.reduceMul,Nat.zero_add] at uce66;have f67:=owns_new0 O62.out;have f68:=owns_new0 O63.out;have ne69_:w.heap.size<wr61.heap.size:=by have:=b55.lt;omega
     have ne69:=Nat.ne_of_lt ne69_;have ne69':=ne69.symm;have ub55:=b55;simp only [At,Own,Nat.reduceAdd,and_true] at ub55;have kK70:=fun W=>orient_any a b x64.1 W ha hb Zhx65.out.1 (by omega) (by omega) (by omega)
     generalize hT72:Pl.turn a b x64.1=t71 at kK70;have K70:=Lib.hid kK70;clear kK70;have T73:=Lib.hid (sgn3 hT72);have HhT72:=Lib.hid hT72;clear hT72;have kK74:=fun W=>orient_any a b x64.2 W ha hb Zhx65.out.2 (by omega) (by omega) (by omega)
     generalize hT76:Pl.turn a b x64.2=t75 at kK74;have K74:=Lib.hid kK74;clear kK74;have T77:=Lib.hid (sgn3 hT76);have HhT76:=Lib.hid hT76;clear hT76;go_wp2_with fail;refine wp_named ?_;intro W4 hW4;have hL4:Below wr61.heap.size wr61 W4:=by rw [hW4];exact bB
     have c78:=b55.up hL4
     have c79:Own W4 wr61.heap.size 0 [.bool (ng x64.1.1.num),.string (mg x64.1.1.num.natAbs),.bool false,.string (mg (dn x64.1.1)),.bool (ng x64.1.2.num),.string (mg x64.1.2.num.natAbs),.bool false,.string (mg (dn x64.1.2)),.bool (ng x64.2.1.num),.string (mg x64.2.1.num.natAbs),.bool false,.string (mg (dn x64.2.1)),.bool (ng x64.2.2.num),.string (mg x64.2.2.num.natAbs),.bool false,.string (mg (dn x64.2.2))]:=by
      rw [hW4]
      first
      | (repeat (first|(with_reducible refine own_new (l:=[.bool (ng x64.1.1.num),.string (mg x64.1.1.num.natAbs),.bool false,.string (mg (dn x64.1.1)),.bool (ng x64.1.2.num),.string (mg x64.1.2.num.natAbs),.bool false,.string (mg (dn x64.1.2)),.bool (ng x64.2.1.num),.string (mg x64.2.1.num.natAbs),.bool false,.string (mg (dn x64.2.1)),.bool (ng x64.2.2.num),.string (mg x64.2.2.num.natAbs),.bool false,.string (mg (dn x64.2.2))]) ?_;(simp;done))|with_reducible refine Own.alloc ?_ _|refine Own.far _ _ (by first|(simp;done)|(simp [*];done)|(simp;omega)) ?_));done
      | simp [Own,go_sem,uce66,ub55,ne69,ne69',ne69_]
     have O80:=Lib.hid (owns_up O62.out hL4);have O81:=Lib.hid (owns_up O63.out hL4);have hB82:Below w.heap.size w W4:=by rw [hW4];exact bB
     clear hW4 hL4 uce66 ub55 b55;have dc78:=fun p:Bel W4=>c78.bel p;have dc79:=fun p:Bel W4=>c79.bel p
     simp only [At,Own,Nat.reduceAdd,and_true] at dc78 dc79;refine wp_region_tail 14 (by kernel_rfl) (by kernel_rfl) ?_;simp only [List.take_succ_cons,List.take_zero,List.drop_succ_cons,List.drop_zero];repeat (go_big_quiet_step (first|(go_at_call 55;with_reducible exact Calls.bel (K70.out _))|(go_at_call 55;with_reducible exact Calls.bel (K74.out _))))
     refine wpQuiet_nil ?_;intro w4 hb4;have c83:=c78.up hb4;have c84:=c79.up hb4;have O85:=Lib.hid (owns_up O80.out hb4);have O86:=Lib.hid (owns_up O81.out hb4);have hB87:Below w.heap.size w w4:=bel_up hB82 hb4;clear dc78 dc79 c78 c79 O80 O81;have uc83:=c83;have uc84:=c84;simp only [At,Own,Nat.reduceAdd,and_true] at uc83 uc84;obtain ⟨p,hp1,hp2,hp3,hp4⟩:=signMul T73.out T77.out;have HP:=Lib.hid hp1;clear hp1
     by_cases hc88:(p:Int)<0
     ·skip
      have hc88_:¬ ((0:Int)≤p):=by omega
      have HNE:=Lib.hid (crL_ne HhT72.out HhT76.out HP.out (by omega));have K89:=Lib.hid (fun W=>psub_any b a W hb ha (by omega) (by omega));go_wp2_with (fail)
      refine calls_named ?_;intro W5 hW5;have hL5:Below w4.heap.size w4 W5:=by rw [hW5];exact bB
      have c90:=c83.up hL5;have c91:=c84.up hL5;have O92:=Lib.hid (owns_up O85.out hL5);have O93:=Lib.hid (owns_up O86.out hL5);have hB94:Below w.heap.size w W5:=by rw [hW5];exact bB
      clear hW5 hL5 uc83 uc84 c83 c84;with_reducible refine (K89.out _).mono ?_
      rintro e w5 ⟨rfl,hb5⟩;have c95:=c90.up hb5;have c96:=c91.up hb5;have O97:=Lib.hid (owns_up O92.out hb5);have O98:=Lib.hid (owns_up O93.out hb5);have hB99:Below w.heap.size w w5:=bel_up hB94 hb5;clear c90 c91 O92 O93;have f100:=owns_new0 O97.out;have f101:=owns_new0 O98.out;have ne102_:w.heap.size<w5.heap.size:=by have:=c95.lt;omega
      have ne102:=Nat.ne_of_lt ne102_;have ne102':=ne102.symm;have ne103_:wr61.heap.size<w5.heap.size:=by have:=c96.lt;omega
      have ne103:=Nat.ne_of_lt ne103_;have ne103':=ne103.symm;have uc95:=c95;have uc96:=c96;simp only [At,Own,Nat.reduceAdd,and_true] at uc95 uc96;go_upto_region 14 with fail
      refine wp_named ?_;intro W6 hW6;have hL6:Below w5.heap.size w5 W6:=by rw [hW6];exact bB
      have c104:=c95.up hL6;have c105:=c96.up hL6
      have c106:Own W6 w5.heap.size 0 [.bool (ng (((Pl.subP b a).1).num)),.string (mg (((Pl.subP b a).1).num).natAbs),.bool false,.string (mg (dn ((Pl.subP b a).1))),.bool (ng (((Pl.subP b a).2).num)),.string (mg (((Pl.subP b a).2).num).natAbs),.bool false,.string (mg (dn ((Pl.subP b a).2)))]:=by
       rw [hW6]
       first
       | (repeat (first|(with_reducible refine own_new (l:=[.bool (ng (((Pl.subP b a).1).num)),.string (mg (((Pl.subP b a).1).num).natAbs),.bool false,.string (mg (dn ((Pl.subP b a).1))),.bool (ng (((Pl.subP b a).2).num)),.string (mg (((Pl.subP b a).2).num).natAbs),.bool false,.string (mg (dn ((Pl.subP b a).2)))]) ?_;(simp;done))|with_reducible refine Own.alloc ?_ _|refine Own.far _ _ (by first|(simp;done)|(simp [*];done)|(simp;omega)) ?_));done
       | simp [Own,go_sem,uc95,uc96,ne102,ne102',ne102_,ne103,ne103',ne103_]
      have O107:=Lib.hid (owns_up O97.out hL6);have O108:=Lib.hid (owns_up O98.out hL6);have hB109:Below w.heap.size w W6:=by rw [hW6];exact bB
      clear hW6 hL6 uc95 uc96 c95 c96;have K111:=Lib.hid (fun W=>psub_any x64.1 a W Zhx65.out.1 ha (by omega) (by omega));have K112:=Lib.hid (fun W=>pcross_any (Pl.subP b a) (Pl.subP x64.1 a) W (hb.sub ha) (Zhx65.out.1.sub ha) (by omega) (by omega));have K113:=Lib.hid (fun W=>psub_any x64.2 a W Zhx65.out.2 ha (by omega) (by omega));have K114:=Lib.hid (fun W=>pcross_any (Pl.subP b a) (Pl.subP x64.2 a) W (hb.sub ha) (Zhx65.out.2.sub ha) (by omega) (by omega));refine wp_region_new2 16 14 13 15 14 [.bool false,.string ⟨#[]⟩,.bool false,.string ⟨#[]⟩] [.bool false,.string ⟨#[]⟩,.bool false,.string ⟨#[]⟩] 33 33 (by kernel_rfl) (by kernel_rfl) rfl rfl rfl rfl rfl rfl rfl ⟨(by intro h_;cases h_),(by intro h_;cases h_),(by intro h_;cases h_),(by intro h_;cases h_)⟩ (by simp) (by simp) (run_alloc_zero Tryz.zeroValue33 rfl) (by kernel_rfl) (run_alloc_zero Tryz.zeroValue33 rfl) (by kernel_rfl) ?_;intro V_110 hV_110;have vc104:=c104.up hV_110;have dc104:=fun p:Bel V_110=>vc104.bel p
      have vc105:=c105.up hV_110;have dc105:=fun p:Bel V_110=>vc105.bel p
      have vc106:=c106.up hV_110;have dc106:=fun p:Bel V_110=>vc106.bel p
      simp only [At,Own,Nat.reduceAdd,and_true] at dc104 dc105 dc106;have hBV_110:=bel_up hB109 hV_110;simp only [List.map_cons,List.map_nil,maskOp,List.take_succ_cons,List.take_zero];repeat (go_big_quiet_step (first|(go_at_call 99;with_reducible exact Calls.bel (K111.out _))|(go_at_call 100;with_reducible exact Calls.bel (K112.out _))|(go_at_call 99;with_reducible exact Calls.bel (K113.out _))|(go_at_call 100;with_reducible exact Calls.bel (K114.out _))))
      refine wpQuiet_nil ?_;refine ⟨[.bool (ng ((Pl.crossP (Pl.subP b a) (Pl.subP x64.1 a)).num)),.string (mg ((Pl.crossP (Pl.subP b a) (Pl.subP x64.1 a)).num).natAbs),.bool false,.string (mg (dn (Pl.crossP (Pl.subP b a) (Pl.subP x64.1 a))))],[.bool (ng ((Pl.crossP (Pl.subP b a) (Pl.subP x64.2 a)).num)),.string (mg ((Pl.crossP (Pl.subP b a) (Pl.subP x64.2 a)).num).natAbs),.bool false,.string (mg (dn (Pl.crossP (Pl.subP b a) (Pl.subP x64.2 a))))],rfl,rfl,by simp [Value.oneCell'],rfl,rfl,by simp [Value.oneCell'],?_⟩;intro bq115 bq116 wn_110 hbn_110 lbq115 mbq115 lbq116 mbq116 nbq115 c117 c118;have nbq115':=nbq115.symm;simp only [Act.put,List.setIfInBounds_toArray,List.set_cons_zero,List.set_cons_succ];have ne119:w.heap.size≠bq115:=by have:=c104.lt;omega
      have ne119':=ne119.symm;have ne120:wr61.heap.size≠bq115:=by have:=c105.lt;omega
      have ne120':=ne120.symm;have ne121:w5.heap.size≠bq115:=by have:=c106.lt;omega
      have ne121':=ne121.symm;have wbq115:=Nat.le_trans hB109.size lbq115;have ne122:w.heap.size≠bq116:=by have:=c104.lt;omega
      have ne122':=ne122.symm;have ne123:wr61.heap.size≠bq116:=by have:=c105.lt;omega
      have ne123':=ne123.symm;have ne124:w5.heap.size≠bq116:=by have:=c106.lt;omega
      have ne124':=ne124.symm;have wbq116:=Nat.le_trans hB109.size lbq116;have f125:Value.ownBlock u5≠some bq115:=fun e_=>by have:=(O107.out.lt _ e_).2;omega
      have f126:Value.ownBlock u5≠some bq116:=fun e_=>by have:=(O107.out.lt _ e_).2;omega
      have f127:Value.ownBlock (.slice (some ⟨g36,0,none⟩) NE c36)≠some bq115:=fun e_=>by have:=(O108.out.lt _ e_).2;omega
      have f128:Value.ownBlock (.slice (some ⟨g36,0,none⟩) NE c36)≠some bq116:=fun e_=>by have:=(O108.out.lt _ e_).2;omega
      clear hBV_110 dc106 vc106 dc105 vc105 dc104 vc104 hV_110 V_110;have c129:=c104.up hbn_110;have c130:=c105.up hbn_110;have c131:=c106.up hbn_110;have O132:=Lib.hid (owns_up O107.out hbn_110);have O133:=Lib.hid (owns_up O108.out hbn_110);have hB134:Below w.heap.size w wn_110:=bel_up hB109 hbn_110;clear c104 c105 c106 O107 O108;go_upto_region 15 with fail
      refine wp_named ?_;intro W7 hW7;have hL7:Below wn_110.heap.size wn_110 W7:=by rw [hW7];exact bB
      have c135:=c129.up hL7;have c136:=c130.up hL7;have c137:=c131.up hL7;have c138:=c117.up hL7;have c139:=c118.up hL7;have O140:=Lib.hid (owns_up O132.out hL7);have O141:=Lib.hid (owns_up O133.out hL7);have hB142:Below w.heap.size w W7:=by rw [hW7];exact bB
      clear hW7 hL7 c129 c130 c131 c117 c118;have K144:=Lib.hid (fun W=>qsub_any (Pl.crossP (Pl.subP b a) (Pl.subP x64.1 a)) (Pl.crossP (Pl.subP b a) (Pl.subP x64.2 a)) W (((hb.sub ha).cross (Zhx65.out.1.sub ha)).mono (by omega)) (((hb.sub ha).cross (Zhx65.out.2.sub ha)).mono (by omega)));have K145:=Lib.hid (fun W=>qdiv_any (Pl.crossP (Pl.subP b a) (Pl.subP x64.1 a)) ((Pl.crossP (Pl.subP b a) (Pl.subP x64.1 a))-(Pl.crossP (Pl.subP b a) (Pl.subP x64.2 a))) W HNE.out (((hb.sub ha).cross (Zhx65.out.1.sub ha)).mono (by omega)) ((((hb.sub ha).cross (Zhx65.out.1.sub ha)).sub ((hb.sub ha).cross (Zhx65.out.2.sub ha))).mono (by omega)));refine wp_region_new1l 9 7 8 15 16 [.bool false,.string ⟨#[]⟩,.bool false,.string ⟨#[]⟩] 33 (by kernel_rfl) rfl rfl rfl rfl (by kernel_rfl) (by kernel_rfl) rfl rfl rfl rfl rfl rfl rfl ⟨(by intro h_;cases h_),(by intro h_;cases h_),(by intro h_;cases h_)⟩ (by kernel_rfl) (by simp) (run_alloc_zero Tryz.zeroValue33 rfl) (by kernel_rfl) ?_;intro V_143 hV_143;have vc135:=c135.up hV_143;have dc135:=fun p:Bel V_143=>vc135.bel p
      have vc136:=c136.up hV_143;have dc136:=fun p:Bel V_143=>vc136.bel p
      have vc137:=c137.up hV_143;have dc137:=fun p:Bel V_143=>vc137.bel p
      have vc138:=c138.up hV_143;have dc138:=fun p:Bel V_143=>vc138.bel p
      have vc139:=c139.up hV_143;have dc139:=fun p:Bel V_143=>vc139.bel p
      simp only [At,Own,Nat.reduceAdd,and_true] at dc135 dc136 dc137 dc138 dc139;have hBV_143:=bel_up hB142 hV_143;simp only [waitL,List.getElem?_cons_succ,List.getElem?_cons_zero,List.set_cons_succ,List.set_cons_zero,List.map_cons,List.map_nil,maskOp,List.take_succ_cons,List.take_zero];repeat (go_big_quiet_step (first|(go_at_call 114;with_reducible exact Calls.bel (K144.out _))|(go_at_call 87;with_reducible exact Calls.bel (K145.out _))))
      refine wpQuiet_nil ?_;refine ⟨[.bool (ng (((Pl.crossP (Pl.subP b a) (Pl.subP x64.1 a))/((Pl.crossP (Pl.subP b a) (Pl.subP x64.1 a))-(Pl.crossP (Pl.subP b a) (Pl.subP x64.2 a)))).num)),.string (mg (((Pl.crossP (Pl.subP b a) (Pl.subP x64.1 a))/((Pl.crossP (Pl.subP b a) (Pl.subP x64.1 a))-(Pl.crossP (Pl.subP b a) (Pl.subP x64.2 a)))).num).natAbs),.bool false,.string (mg (dn ((Pl.crossP (Pl.subP b a) (Pl.subP x64.1 a))/((Pl.crossP (Pl.subP b a) (Pl.subP x64.1 a))-(Pl.crossP (Pl.subP b a) (Pl.subP x64.2 a))))))],rfl,rfl,by simp [Value.oneCell'],?_⟩;intro bq146 wn_143 hbn_143 lbq146 mbq146 c147;simp only [Act.put,List.setIfInBounds_toArray,List.set_cons_zero,List.set_cons_succ];have ne148:w.heap.size≠bq146:=by have:=c135.lt;omega
      have ne148':=ne148.symm;have ne149:wr61.heap.size≠bq146:=by have:=c136.lt;omega
      have ne149':=ne149.symm;have ne150:w5.heap.size≠bq146:=by have:=c137.lt;omega
      have ne150':=ne150.symm;have ne151:bq115≠bq146:=by have:=c138.lt;omega
      have ne151':=ne151.symm;have ne152:bq116≠bq146:=by have:=c139.lt;omega
      have ne152':=ne152.symm;have wbq146:=Nat.le_trans hB142.size lbq146;have f153:Value.ownBlock u5≠some bq146:=fun e_=>by have:=(O140.out.lt _ e_).2;omega
      have f154:Value.ownBlock (.slice (some ⟨g36,0,none⟩) NE c36)≠some bq146:=fun e_=>by have:=(O141.out.lt _ e_).2;omega
      clear hBV_143 dc139 vc139 dc138 vc138 dc137 vc137 dc136 vc136 dc135 vc135 hV_143 V_143;have c155:=c135.up hbn_143;have c156:=c136.up hbn_143;have c157:=c137.up hbn_143;have c158:=c138.up hbn_143;have c159:=c139.up hbn_143;have O160:=Lib.hid (owns_up O140.out hbn_143);have O161:=Lib.hid (owns_up O141.out hbn_143);have hB162:Below w.heap.size w wn_143:=bel_up hB142 hbn_143;clear c135 c136 c137 c138 c139 O140 O141;have uc155:=c155;have uc156:=c156;have uc157:=c157;have uc158:=c158;have uc159:=c159;have uc147:=c147;simp only [At,Own,Nat.reduceAdd,and_true] at uc155 uc156 uc157 uc158 uc159 uc147;have K163:=Lib.hid (fun W=>pdivC a b x64 W (by exact Zhx65.out) (by exact (((hb.sub ha).cross (Zhx65.out.1.sub ha)).div (((hb.sub ha).cross (Zhx65.out.1.sub ha)).sub ((hb.sub ha).cross (Zhx65.out.2.sub ha))))) (by omega) (by omega));go_wp2_with (fail)
      refine calls_named ?_;intro W8 hW8;have hL8:Below wn_143.heap.size wn_143 W8:=by rw [hW8];exact bB
      have c164:=c155.up hL8;have c165:=c156.up hL8;have c166:=c157.up hL8;have c167:=c158.up hL8;have c168:=c159.up hL8;have c169:=c147.up hL8;have O170:=Lib.hid (owns_up O160.out hL8);have O171:=Lib.hid (owns_up O161.out hL8);have hB172:Below w.heap.size w W8:=by rw [hW8];exact bB
      clear hW8 hL8 uc155 uc156 uc157 uc158 uc159 uc147 c155 c156 c157 c158 c159 c147;with_reducible refine (K163.out _).mono ?_
      rintro e w8 ⟨rfl,hb8⟩;have c173:=c164.up hb8;have c174:=c165.up hb8;have c175:=c166.up hb8;have c176:=c167.up hb8;have c177:=c168.up hb8;have c178:=c169.up hb8;have O179:=Lib.hid (owns_up O170.out hb8);have O180:=Lib.hid (owns_up O171.out hb8);have hB181:Below w.heap.size w w8:=bel_up hB172 hb8;clear c164 c165 c166 c167 c168 c169 O170 O171;have uc173:=c173;have uc174:=c174;have uc175:=c175;have uc176:=c176;have uc177:=c177;have uc178:=c178;simp only [At,Own,Nat.reduceAdd,and_true] at uc173 uc174 uc175 uc176 uc177 uc178;go_wp2_with (at_builtin;refine wpList_appF rfl _ _ _ rfl ti_pt O179.out (hB181).size rfl rfl rfl rfl (pcells_one (Pl.crs a b x64.1 x64.2)) (by omega) (by decide) ?_)
      intro v182 w_v182 hown_v182 hst_v182;have O184:Hid (w_v182.ownsRow w.heap.size 35 8 v182 ((n2+1)) (pts (M++[(Pl.crs a b x64.1 x64.2)]))):=Lib.hid (by rw [pts_snoc];exact hown_v182);have c185:=Own.step hst_v182 f57 c173;have f186:=hst_v182.far _ c173.lt f57;have c187:=Own.step hst_v182 f67 c174;have f188:=hst_v182.far _ c174.lt f67;have c189:=Own.step hst_v182 f100 c175;have f190:=hst_v182.far _ c175.lt f100;have c191:=Own.step hst_v182 f125 c176;have f192:=hst_v182.far _ c176.lt f125;have c193:=Own.step hst_v182 f126 c177;have f194:=hst_v182.far _ c177.lt f126;have c195:=Own.step hst_v182 f153 c178;have f196:=hst_v182.far _ c178.lt f153;have O197:=Lib.hid (owns_step hst_v182 O180.out ff59);have ff198:FarR (.slice (some ⟨g36,0,none⟩) NE c36) v182:=FarR.step hst_v182 O180.out ff59;have ff198':=FarR.symm ff198;have hB199:Below w.heap.size w w_v182:=hst_v182.below hB181 (hB181).size (fun r hr=>(O179.out.lt r hr).1);clear uc173 uc174 uc175 uc176 uc177 uc178 hown_v182 c173 c174 c175 c176 c177 c178 O180;have uc185:=c185;have uc187:=c187;have uc189:=c189;have uc191:=c191;have uc193:=c193;have uc195:=c195;simp only [At,Own,Nat.reduceAdd,and_true] at uc185 uc187 uc189 uc191 uc193 uc195;go_wp2;go_roundw
      case rel=>exact ⟨(i+1),(n2+1),(M++[Pl.crs a b x64.1 x64.2]),(by first|rfl|exact congrArg (Value.int .i64) (by omega)|simp [*]),(by repeat (first|with_reducible exact c185|refine Own.far _ _ (by simp<;>omega) ?_|with_reducible refine Own.alloc ?_ _)),(by repeat (first|with_reducible exact O184.out|refine owns_far ?_ _ (by first|exact f186|exact f188|exact f190|exact f192|exact f194|exact f196) _|with_reducible refine World.ownsRow.alloc ?_ _)),f186,(by repeat (first|with_reducible exact O197.out|refine owns_far ?_ _ (by first|exact f50|exact f68|exact f101|exact f127|exact f128|exact f154) _|with_reducible refine World.ownsRow.alloc ?_ _)),ff198,(by exact bB),(by omega),(by omega),Lib.hid (by rw [flat_snocS Hhx65.out,crL_yes HhT72.out HhT76.out HP.out (by omega),HM.out,List.append_assoc])⟩
      case measure=>simp [intOf]<;>omega
     ·skip
      have hc88_:((0:Int)≤p):=by omega
      go_wp2;go_roundw
      case rel=>exact ⟨(i+1),n2,M,(by first|rfl|exact congrArg (Value.int .i64) (by omega)|simp [*]),(by repeat (first|with_reducible exact c83|refine Own.far _ _ (by simp<;>omega) ?_|with_reducible refine Own.alloc ?_ _)),(by repeat (first|with_reducible exact O85.out|refine owns_far ?_ _ (by first|exact f57|exact f67) _|with_reducible refine World.ownsRow.alloc ?_ _)),f57,(by repeat (first|with_reducible exact O86.out|refine owns_far ?_ _ (by first|exact f50|exact f68) _|with_reducible refine World.ownsRow.alloc ?_ _)),ff59,(by exact bB),(by omega),(by omega),Lib.hid (by rw [flat_snocS Hhx65.out,crL_no HhT72.out HhT76.out HP.out (by omega),List.append_nil,HM.out])⟩
      case measure=>simp [intOf]<;>omega
    ·skip
     have hkN:NE=i:=by omega
     subst hkN;have HFIN:Hid (M=Pl.cutE l a b):=Lib.hid (by rw [HM.out,cutE_parts,HES.out,HFE.out,HFL.out]);have K200:=Lib.hid (fun v W hW=>hull_any v (Pl.cutE l a b) W hW HC.out HLEN.out hK);have ub55:=b55;simp only [At,Own,Nat.reduceAdd,and_true] at ub55;go_wp2_with (fail)
     refine calls_named ?_;intro W9 hW9;have hL9:Below wr61.heap.size wr61 W9:=by rw [hW9];exact bB
     have c201:=b55.up hL9;have O202:=Lib.hid (owns_up O62.out hL9);have O203:=Lib.hid (owns_up O63.out hL9);have hB204:Below w.heap.size w W9:=by rw [hW9];exact bB
     clear hW9 hL9 ub55 b55;with_reducible refine (K200.out _ _ (HFIN.out▸pv_own O202.out)).mono ?_
     rintro e w9 ⟨v9,rfl,hv9,hb9⟩;have c205:=c201.up hb9;have O206:=Lib.hid (owns_up O202.out hb9);have O207:=Lib.hid (owns_up O203.out hb9);have hB208:Below w.heap.size w w9:=bel_up hB204 hb9;clear c201 O202 O203;have PW9:=Lib.hid hv9;clear hv9;have uc205:=c205;simp only [At,Own,Nat.reduceAdd,and_true] at uc205;go_wp2;go_ret;exact ⟨_,rfl,(by skip;exact PW9.out),(by exact bB)⟩
end Go.Proofs.YtdkkjfnpinckjaaGreatDoor
