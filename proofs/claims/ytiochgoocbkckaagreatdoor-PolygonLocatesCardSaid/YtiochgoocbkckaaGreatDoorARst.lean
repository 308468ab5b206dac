/-
 Rows of points that are written in place; what Compact leaves of any row of points.
-/
import Derived.Test.YtiochgoocbkckaaGreatDoorAgay
import Derived.Deep.MidRow
import Derived.Deep.LoopGhost
set_option maxRecDepth 100000
set_option linter.unusedSimpArgs false
set_option linter.unusedVariables false
namespace Go.Proofs.YtiochgoocbkckaaGreatDoor
open Go Go.RowKit

def setFrom (xs:List Value):Nat→List Value→List Value
 | _,[]=>xs
 | i,v :: r=>setFrom (xs.set i v) (i+1) r
theorem setFrom_mid:∀ (vs p a b:List Value),a.length=vs.length→setFrom (p++a++b) p.length vs=p++vs++b
 | [],p,a,b,h=>by
  have:a=[]:=List.eq_nil_of_length_eq_zero h;subst this;rfl
 | v :: r,p,[],b,h=>by cases h
 | v :: r,p,x :: a,b,h=>by
  rw [setFrom];have e:(p++x :: a++b).set p.length v=(p++[v])++a++b:=by simp
  rw [e];have:=setFrom_mid r (p++[v]) a b (by simpa using h);rw [List.length_append] at this;rw [show p.length+1=p.length+[v].length from rfl,this];simp
theorem setFrom_pts {l:List (Rat×Rat)} {k:Nat} (hk:k<l.length) (u:Rat×Rat):setFrom (pts l) (k*8) (pcells u)=pts (l.set k u):=by
 have e1:l=l.take k++l[k] :: l.drop (k+1):=by rw [List.getElem_cons_drop,List.take_append_drop]
 have e2:pts l=pts (l.take k)++pcells l[k]++pts (l.drop (k+1)):=by
  have:∀ (a:List (Rat×Rat)) (x:Rat×Rat) (b:List (Rat×Rat)),pts (a++x :: b)=pts a++pcells x++pts b:=fun a x b=>by simp [pts]
  rw [← this,← e1]
 have e3:(pts (l.take k)).length=k*8:=by rw [pts_length,List.length_take,Nat.min_eq_left (by omega)]
 rw [e2,← e3,setFrom_mid (pcells u) (pts (l.take k)) (pcells l[k]) (pts (l.drop (k+1))) (by rw [pcells_len,pcells_len]),List.set_eq_take_append_cons_drop,if_pos hk];simp [pts]
theorem setFrom_take:∀ (vs xs:List Value) (i m:Nat),m≤i→(setFrom xs i vs).take m=xs.take m
 | [],_,_,_,_=>rfl
 | v :: r,xs,i,m,h=>by
  rw [setFrom,setFrom_take r _ _ _ (by omega),List.take_set_of_le h]
section
variable {w w0:World} {base n g cap size:Nat} {e:TypeId}
theorem own_setCells:∀ (vs:List Value) (i:Nat) (w:World) (xs:List Value),w.ownsRow base e size (.slice (some ⟨g,0,none⟩) n cap) n xs→(w.setCells g i vs).ownsRow base e size (.slice (some ⟨g,0,none⟩) n cap) n (setFrom xs i vs)
 | [],_,_,_,h=>h
 | v :: r,i,w,xs,h=>own_setCells r (i+1) _ _ (h.stored i v).1
theorem below_setCells {B:Nat} (hg:B≤g):∀ (vs:List Value) (i:Nat) (w:World),Below B w0 w→Below B w0 (w.setCells g i vs)
 | [],_,_,h=>h
 | v :: r,i,w,h=>below_setCells hg r (i+1) _ (h.setCell hg v)
theorem own_cut {xs:List Value} {m:Nat} (h:w.ownsRow base e size (.slice (some ⟨g,0,none⟩) n cap) n xs) (hm:m≤n):w.ownsRow base e size (.slice (some ⟨g,0,none⟩) m cap) m (xs.take (m*size)):=by
 rcases h.2 with ⟨h',_⟩|⟨g',cap',cur,h',hb,hg,hnc,hcm,hcs,htake⟩
 ·simp at h'
 ·simp only [Value.slice.injEq,Option.some.injEq,Addr.mk.injEq,and_true,true_and] at h'
  obtain ⟨rfl,rfl⟩:=h';have hms:m*size≤n*size:=Nat.mul_le_mul_right _ hm;refine ⟨by rw [List.length_take,h.1];omega,.inr ⟨g,cap,cur,rfl,hb,hg,by omega,hcm,hcs,?_⟩⟩;rw [← htake,List.take_take,Nat.min_eq_left hms]
end
theorem own_setPt {w:World} {base n g cap k:Nat} {l:List (Rat×Rat)} (h:w.ownsRow base 45 8 (.slice (some ⟨g,0,none⟩) n cap) n (pts l)) (hk:k<n) (u:Rat×Rat) :
 (w.setCells g (k*8) (pcells u)).ownsRow base 45 8 (.slice (some ⟨g,0,none⟩) n cap) n (pts (l.set k u)):=by
 have hl:n=l.length:=by have:=h.1;rw [pts_length] at this;omega
 have:=own_setCells (pcells u) (k*8) w _ h
 rwa [setFrom_pts (by omega)] at this
theorem own_there {w:World} {base n g cap k:Nat} {l:List (Rat×Rat)} (h:w.ownsRow base 45 8 (.slice (some ⟨g,0,none⟩) n cap) n (pts l)) {m:Nat} (hk:k*8+m≤n*8) :
 w.there g (k*8) m:=fun j hj=>⟨by
 rw [h.cellAt (k*8+j) (by omega)];have:=h.1
 rw [List.getElem?_eq_getElem (by omega)];rfl,h.frozenAt _⟩
theorem own_clear {w:World} {base n g cap k:Nat} {l:List (Rat×Rat)} (h:w.ownsRow base 45 8 (.slice (some ⟨g,0,none⟩) n cap) n (pts l)) (hk:k≤n) (vs:List Value) :
 (w.setCells g (k*8) vs).ownsRow base 45 8 (.slice (some ⟨g,0,none⟩) k cap) k (pts (l.take k)):=by
 have h1:=own_cut (own_setCells vs (k*8) w _ h) hk;rw [setFrom_take _ _ _ _ (Nat.le_refl _)] at h1
 have e:(pts l).take (k*8)=pts (l.take k):=by
  have hl:n=l.length:=by have:=h.1;rw [pts_length] at this;omega
  have e1:pts l=pts (l.take k)++pts (l.drop k):=by
   have:∀ (a b:List (Rat×Rat)),pts (a++b)=pts a++pts b:=fun a b=>by simp [pts]
   rw [← this,List.take_append_drop]
  rw [e1,List.take_left' (by rw [pts_length,List.length_take,Nat.min_eq_left (by omega)])]
 rwa [e] at h1
theorem run_clear_pts (w:World) (b o n c:Nat) (hn:0<n) (ht:w.there b o (n*8)) :
 ∃ cs,∀ ty,(Builtin.clear_ #[23] ty #[.slice (some ⟨b,o,none⟩) n c]).run Tryz.prog w=.ok (.tuple #[]) (w.setCells b o cs):=by
 obtain ⟨z,hz,hs,h1⟩:∃ z:Value,(∀ w,(zeroValue 45).run Tryz.prog w=.ok z w)∧z.cells.size=8∧z.cells.all (·.oneCell')=true:=⟨_,Tryz.zeroValue45,rfl,by simp [Value.cells,Value.oneCell']⟩
 have hsz:(Builtin.zeroCells z.cells n).size=n*8:=by rw [size_zeroCells,hs]
 have hst:=run_storeCells_cells (P:=Tryz.prog) b o (Builtin.zeroCells z.cells n).toList 0 w (fun j hj=>by
  have:=(ht j (by rw [Array.length_toList,hsz] at hj;exact hj)).1;simpa using this) (fun j hj=>by
  have:=(ht j (by rw [Array.length_toList,hsz] at hj;exact hj)).2;simpa using this) (by
  intro v hv;simp only [Builtin.zeroCells,Array.toList_map,List.mem_map] at hv;obtain ⟨i,_,rfl⟩:=hv;have hi:i%z.cells.size<z.cells.size:=Nat.mod_lt _ (by omega);rw [getElem!_pos z.cells (i%z.cells.size) hi]
  exact Array.all_eq_true.1 h1 _ hi)
 simp only [Nat.add_zero] at hst;obtain ⟨m,rfl⟩:∃ m,n=m+1:=⟨n-1,by omega⟩
 exact ⟨(Builtin.zeroCells z.cells (m+1)).toList,fun ty=>by simp [Builtin.clear_,run_underlying Tryz.underlying23,hz,hst]⟩
def DdI (l r:List (Rat×Rat)) (m p:Nat):Prop:=r.take m=dd (l.take p)∧r.drop m=l.drop m∧r.length=l.length
theorem DdI.at_ {l r:List (Rat×Rat)} {m p i:Nat} (h:DdI l r m p) (hi:m≤i):r[i]?=l[i]?:=by
 have:=congrArg (fun z=>z[i-m]?) h.2.1;simp only [List.getElem?_drop] at this
 rwa [show m+(i-m)=i by omega] at this
theorem DdI.same {l r:List (Rat×Rat)} {m p:Nat} {x:Rat×Rat} (h:DdI l r m (p+1)) (hx:l[p]?=some x) (hy:l[p+1]?=some x):DdI l r m (p+1+1) :=
 ⟨by rw [h.1,dd_step hx hy,if_pos rfl],h.2⟩
theorem DdI.more {l r:List (Rat×Rat)} {m p:Nat} {x y:Rat×Rat} (h:DdI l r m (p+1)) (hx:l[p]?=some x) (hy:l[p+1]?=some y) (hne:y≠x) (hm:m≤p):DdI l (r.set m y) (m+1) (p+1+1):=by
 have hl:p+1<l.length:=(List.getElem?_eq_some_iff.1 hy).1;have hmr:m<r.length:=by have:=h.2.2;omega
 refine ⟨?_,?_,by rw [List.length_set];exact h.2.2⟩
 ·rw [dd_step hx hy,if_neg (Ne.symm hne),← h.1,List.take_add_one,List.getElem?_set_self hmr]
  rw [List.take_set_of_le (Nat.le_refl _)];rfl
 ·rw [List.drop_set_of_lt (Nat.lt_succ_self m)]
  have:=congrArg (List.drop 1) h.2.1
  rwa [List.drop_drop,List.drop_drop] at this
def CmpRel (base g cap n k:Nat) (l:List (Rat×Rat)) (w:World) (i j:Value) (wr:World):Prop :=
 ∃ (m p:Nat) (r:List (Rat×Rat)),i=.int .i64 m∧j=.int .i64 (p+1:Nat)∧k+1≤m∧m≤k+1+p∧k+2+p≤n∧wr.ownsRow base 45 8 (.slice (some ⟨g,0,none⟩) n cap) n (pts r)∧Below base w wr∧Hid (DdI l r m (k+1+p+1))
theorem CmpRel.mk {base g cap n k:Nat} {l:List (Rat×Rat)} {w wr:World} {i j:Value} (m p:Nat) (r:List (Rat×Rat)) (h1:i=.int .i64 m) (h2:j=.int .i64 (p+1:Nat)) (h3:k+1≤m) (h4:m≤k+1+p) (h5:k+2+p≤n)
 (h6:wr.ownsRow base 45 8 (.slice (some ⟨g,0,none⟩) n cap) n (pts r)) (h7:Below base w wr) (h8:Hid (DdI l r m (k+1+p+1))):CmpRel base g cap n k l w i j wr:=⟨m,p,r,h1,h2,h3,h4,h5,h6,h7,h8⟩
end Go.Proofs.YtiochgoocbkckaaGreatDoor
