/-
 Repeated cuts in the plain: every edge lies on one of the lines; so the points stay small, and there are few of them.
-/
import Derived.Test.YtdkkjfnpinckjaaGreatDoorYCutQ
set_option maxRecDepth 100000
set_option linter.unusedSimpArgs false
set_option linter.unusedVariables false
namespace Go.Proofs.YtdkkjfnpinckjaaGreatDoor
namespace Pl

theorem weigh:∀ (l:List (Rat×Rat)),(∀ x∈l,x.1<0∨(x.1=0∧x.2=0))→∃ N:Rat,0≤N∧∀ x∈l,N*x.1+x.2≤0
 | [],_=>⟨0,Rat.le_refl,fun _ h=>by cases h⟩
 | y :: l,h=>by
  obtain ⟨N,h0,hN⟩:=weigh l fun x hx=>h x (List.mem_cons_of_mem _ hx)
  have up:∀ M,N≤M→∀ x∈l,M*x.1+x.2≤0:=by intro M hM x hx;have h1:=hN x hx;have h2:=Rat.mul_nonneg (show 0≤M-N by grind) (show 0≤-x.1 by rcases h x (List.mem_cons_of_mem _ hx) with h|⟨h,_⟩<;>grind);grind
  rcases h y (by simp) with h1|⟨h1,h2⟩
  ·by_cases h3:N*y.1+y.2≤0
   ·exact ⟨N,h0,fun x hx=>by rcases List.mem_cons.1 hx with rfl|hx;exact h3;exact hN x hx⟩
   ·have hp:0 < -y.1:=by grind
    have e:y.2 / -y.1 * -y.1=y.2:=Rat.div_mul_cancel (by grind)
    have hle:N≤y.2 / -y.1:=by
     refine Rat.not_lt.1 fun hlt => ?_
     have:=Rat.mul_pos (show 0<N-y.2 / -y.1 by grind) hp;grind
    refine ⟨y.2 / -y.1,Rat.le_trans h0 hle,fun x hx => ?_⟩;rcases List.mem_cons.1 hx with rfl|hx
    ·grind
    ·exact up _ hle x hx
  ·exact ⟨N,h0,fun x hx=>by rcases List.mem_cons.1 hx with rfl|hx;(rw [h1,h2];grind);exact hN x hx⟩
theorem Mem.only {h:List Pt} {e s u:Pt} (hm:Mem h u) (hs:∀ t∈h,t≠s→dotP t e<dotP s e) (hu:dotP s e≤dotP u e):u=s:=by
 refine Mem.single fun g => ?_
 obtain ⟨N,h0,hN⟩:=weigh (h.map fun t=>(dotP t e-dotP s e,dotP t g-dotP s g)) fun x hx=>by
  obtain ⟨t,ht,rfl⟩:=List.mem_map.1 hx;rcases Classical.em (t=s) with h1|h1
  ·right;subst h1;constructor<;>grind
  ·left;have:=hs t ht h1;grind
 obtain ⟨t,ht,h1⟩:=hm (N*e.1+g.1,N*e.2+g.2);have h2:=hN _ (List.mem_map.2 ⟨t,ht,rfl⟩);refine ⟨s,by simp,?_⟩;have e1:∀ p:Pt,dotP p (N*e.1+g.1,N*e.2+g.2)=N*dotP p e+dotP p g:=fun p=>by unfold dotP;grind
 rw [e1,e1] at h1;have h3:=Rat.mul_nonneg h0 (show 0≤dotP u e-dotP s e by grind);simp only at h2;grind
theorem lin_mean {z w u:Pt} (h:det z w u=0):dotP (subP w z) (subP w z)*(u.1-z.1)=dotP (subP w z) (subP u z)*(w.1-z.1)∧dotP (subP w z) (subP w z)*(u.2-z.2)=dotP (subP w z) (subP u z)*(w.2-z.2):=by
 have e1:dotP (subP w z) (subP w z)*(subP u z).1=dotP (subP w z) (subP u z)*(subP w z).1-det z w u*(subP w z).2:=by unfold det crossP dotP subP;grind
 have e2:dotP (subP w z) (subP w z)*(subP u z).2=dotP (subP w z) (subP u z)*(subP w z).2+det z w u*(subP w z).1:=by unfold det crossP dotP subP;grind
 rw [h] at e1 e2;unfold subP at *;simp only at *;constructor<;>grind
theorem line_in {z w u a b:Pt} (hzw:z≠w) (h:det z w u=0) (hz:det a b z=0) (hw:det a b w=0):det a b u=0:=by
 obtain ⟨e1,e2⟩:=lin_mean h;have hp:=dot_self_pos (sub_ne hzw.symm);generalize dotP (subP w z) (subP w z)=n at *;generalize dotP (subP w z) (subP u z)=k at *;refine mul_zero_of hp ?_;unfold det crossP subP at *;simp only at *;grind
theorem line_col {a b z w u:Pt} (hab:a≠b) (hz:det a b z=0) (hw:det a b w=0) (hu:det a b u=0):det z w u=0:=by
 have hp:=dot_self_pos (sub_ne hab.symm);obtain ⟨z1,z2⟩:=lin_mean hz;obtain ⟨w1,w2⟩:=lin_mean hw;obtain ⟨u1,u2⟩:=lin_mean hu;generalize dotP (subP b a) (subP b a)=n at *;generalize dotP (subP b a) (subP z a)=kz at *;generalize dotP (subP b a) (subP w a)=kw at *;generalize dotP (subP b a) (subP u a)=ku at *
 have h1:n*(n*det z w u)=0:=by
  have a1:n*(w.1-z.1)=(kw-kz)*(b.1-a.1):=by grind
  have a2:n*(w.2-z.2)=(kw-kz)*(b.2-a.2):=by grind
  have b1:n*(u.1-z.1)=(ku-kz)*(b.1-a.1):=by grind
  have b2:n*(u.2-z.2)=(ku-kz)*(b.2-a.2):=by grind
  have:n*(n*det z w u)=(n*(w.1-z.1))*(n*(u.2-z.2))-(n*(w.2-z.2))*(n*(u.1-z.1)):=by unfold det crossP subP;grind
  rw [this,a1,a2,b1,b2];grind
 exact mul_zero_of hp (mul_zero_of hp h1)
theorem face_edge {h:List Pt} {f u v:Pt} (hr:Ring h f f h) (hu:Mem h u) (hv:Mem h v) (huv:u≠v) (hl:∀ s∈h,0≤det u v s) :
 ∃ z w,z∈h∧w∈h∧Edge h z w∧det z w u=0∧det z w v=0:=by
 have he:((v.2-u.2,u.1-v.1):Pt)≠(0,0):=by intro e;have e1:=congrArg Prod.fst e;have e2:=congrArg Prod.snd e;simp only at e1 e2;exact huv (Prod.ext (by grind) (by grind))
 have hd:∀ p,det u v p=dotP u (v.2-u.2,u.1-v.1)-dotP p (v.2-u.2,u.1-v.1):=fun p=>by have:=det_dot u v u p;rw [det_self] at this;grind
 have hvu:dotP v (v.2-u.2,u.1-v.1)=dotP u (v.2-u.2,u.1-v.1):=by have:=hd v;rw [det_self'] at this;grind
 generalize ((v.2-u.2,u.1-v.1):Pt)=e at *;have hle:∀ s∈h,dotP s e≤dotP u e:=fun s hs=>by have:=hl s hs;rw [hd] at this;grind
 obtain ⟨s,hs,h1⟩:=hu e;have hse:dotP s e=dotP u e:=Rat.le_antisymm (hle s hs) h1
 obtain ⟨t,ht,hts,hte⟩:∃ t∈h,s≠t∧dotP t e=dotP s e:=by
  refine Classical.byContradiction fun hno=>huv ?_
  have h2:∀ t∈h,t≠s→dotP t e<dotP s e:=fun t ht hne=>by
   have h3:=hle t ht;rcases Classical.em (dotP t e=dotP s e) with h4|h4
   ·exact absurd ⟨t,ht,hne.symm,h4⟩ hno
   ·grind
  rw [hu.only h2 (by rw [hse];exact Rat.le_refl),hv.only h2 (by rw [hse,hvu];exact Rat.le_refl)]
 obtain ⟨z,w,hz,hw,ez,hze,hwe,_,_⟩:=edge_far hr he hs ht hts (fun q hq=>by rw [hse];exact hle q hq) hte;have hD:((-e.2,e.1):Pt)≠(0,0):=by intro e';apply he;have e1:=congrArg Prod.fst e';have e2:=congrArg Prod.snd e';refine Prod.ext ?_ ?_<;>grind
 have hN:=dot_self_pos hD
 have on:∀ q,dotP q e=dotP u e→det z w q=0:=fun q hq=>by
  have e1:dotP (-e.2,e.1) (-e.2,e.1)*det z w q=dotP (subP w z) (-e.2,e.1)*(dotP z e-dotP q e)+dotP (subP q z) (-e.2,e.1)*(dotP w e-dotP z e):=by unfold det crossP dotP subP;grind
  rw [hze,hwe,hse,hq] at e1;exact mul_zero_of hN (by grind)
 exact ⟨z,w,hz,hw,ez,on u rfl,on v hvu⟩
theorem cut_edge {h C:List Pt} {f a b u v:Pt} (hr:Ring h f f h) (hC:∀ p,Mem C p↔Mem h p∧0≤det a b p) (e:Edge C u v) :
 (det a b u=0∧det a b v=0)∨∃ z w,z∈h∧w∈h∧Edge h z w∧det z w u=0∧det z w v=0:=by
 obtain ⟨mu,lu⟩:=(hC u).1 (.of_mem e.ma);obtain ⟨mv,lv⟩:=(hC v).1 (.of_mem e.mb);rcases Classical.em (det a b u=0∧det a b v=0) with h0|h0
 ·exact .inl h0
 ·refine .inr (face_edge hr mu mv e.ne fun s hs=>Rat.not_lt.1 fun hneg => ?_)
  have hsn:det a b s<0:=Rat.not_le.1 fun hge=>by
   have:=((hC s).2 ⟨.of_mem hs,hge⟩).half e.left;grind
  have go:∀ p,Mem h p→det u v p=0→0<det a b p→False:=by
   intro p hp hp0 hpos;have hq:=((hC (crs a b s p)).2 ⟨crs_mem (.of_mem hs) hp hsn hpos,by rw [crs_on (by grind)];exact Rat.le_refl⟩).half e.left;obtain ⟨r,h1,h2⟩:=crs_spec (a:=a) (b:=b) (s:=s) (t:=p) (by grind);rw [h2,det_aff,hp0] at hq
   -- 0 ≤ (1 - r) det u v s, and r < 1
   generalize det a b s=x at *;generalize det a b p=y at *;generalize det u v s=m at *
   have h3:0<(y-x)*((1-r)*m * -1):=by
    have:(y-x)*(1-r)=y:=by grind
    have h4:(y-x)*((1-r)*m * -1)=y * -m:=by grind
    rw [h4];exact Rat.mul_pos hpos (by grind)
   have h5:=mul_pos_of (show 0<y-x by grind) h3;grind
  rcases Classical.em (det a b u=0) with h1|h1
  ·exact go v mv (det_self' _ _) (by grind)
  ·exact go u mu (det_self _ _) (by grind)
def Car (LN:List (Pt×Pt)) (h:List Pt):Prop:=∀ z w,Edge h z w→∃ m∈LN,m.1≠m.2∧det m.1 m.2 z=0∧det m.1 m.2 w=0
theorem Car.mono {LN LM:List (Pt×Pt)} {h:List Pt} (c:Car LN h) (hs:∀ m∈LN,m∈LM):Car LM h:=fun z w e=>by
 obtain ⟨m,hm,k⟩:=c z w e;exact ⟨m,hs m hm,k⟩
theorem car_own {h:List Pt} (hl:wrap h=h):Car (edges h) h:=fun z w e=>by
 have hl0:=wrap_isHull h;rw [hl] at hl0;rcases hl0 with ⟨h3,_⟩|⟨q,h3,h4,h5⟩|⟨f,h3,hr⟩
 ·have:=e.ma;rw [h3] at this;cases this
 ·exact absurd ((h5 _ e.ma).trans (h5 _ e.mb).symm) e.ne
 ·rcases ring_edges hr e.ma e with h|h
  ·exact ⟨_,h,e.ne,det_self _ _,det_self' _ _⟩
  ·exact ⟨_,h,e.ne.symm,det_self' _ _,det_self _ _⟩
theorem car_cut {LN:List (Pt×Pt)} {h:List Pt} {a b:Pt} (hl:wrap h=h) (hab:a≠b) (c:Car LN h) (hm:(a,b)∈LN):Car LN (wrap (cutE h a b)):=fun u v e=>by
 have hC:∀ p,Mem (wrap (cutE h a b)) p↔Mem h p∧0≤det a b p:=fun p=>by rw [wrap_mem,cutE_iff hab hl]
 have hl0:=wrap_isHull h;rw [hl] at hl0;rcases hl0 with ⟨h3,_⟩|⟨q,h3,h4,h5⟩|⟨f,h3,hr⟩
 ·have:=((hC u).1 (.of_mem e.ma)).1;rw [h3] at this;exact absurd this Mem.nil
 ·exact absurd ((((hC u).1 (.of_mem e.ma)).1.all_eq h5).trans (((hC v).1 (.of_mem e.mb)).1.all_eq h5).symm) e.ne
 ·rcases cut_edge hr hC e with ⟨h6,h7⟩|⟨z,w,hz,hw,ez,h6,h7⟩
  ·exact ⟨_,hm,hab,h6,h7⟩
  ·obtain ⟨m,hm,hne,m1,m2⟩:=c z w ez
   exact ⟨m,hm,hne,line_in ez.ne h6 m1 m2,line_in ez.ne h7 m1 m2⟩
theorem crs_sz {i j:Nat} {a b s t:Pt} (ha:SzP i a) (hb:SzP i b) (hs:SzP j s) (ht:SzP j t):SzP (18*i+9*j+18) (crs a b s t):=by
 have hd:∀ p,SzP j p→Sz (6*i+2*j+5) (det a b p):=fun p hp=>Sz.mono ((hb.sub ha).cross (hp.sub ha)) (by omega)
 have hr:=((hd s hs).div ((hd s hs).sub (hd t ht)))
 exact (hs.add ((ht.sub hs).scale hr)).mono (by omega)
theorem crs_line {a b s t:Pt} {m:Pt×Pt} (hm:m.1≠m.2) (h1:det m.1 m.2 s=0) (h2:det m.1 m.2 t=0) (hst:det a b s≠det a b t):crs a b s t=crs a b m.1 m.2:=by
 obtain ⟨x,y⟩:=m;simp only at *;have hp:=dot_self_pos (sub_ne hm.symm)
 have hne:det a b x≠det a b y:=by
  intro he;apply hst
  have k:∀ u,det x y u=0→det a b u=det a b x:=fun u hu=>by
   obtain ⟨e1,e2⟩:=lin_mean hu;generalize dotP (subP y x) (subP y x)=n at *;generalize dotP (subP y x) (subP u x)=k at *;have:n*(det a b u-det a b x)=k*(det a b y-det a b x):=by unfold det crossP subP;simp only;grind
   have:=mul_zero_of hp (b:=det a b u-det a b x) (by rw [this,he];grind);grind
  rw [k s h1,k t h2]
 have c1:=crs_on hst;have c2:=crs_on hne;have l1:det x y (crs a b s t)=0:=by obtain ⟨r,_,h⟩:=crs_spec hst;rw [h,det_aff,h1,h2];grind
 have l2:det x y (crs a b x y)=0:=by obtain ⟨r,_,h⟩:=crs_spec hne;rw [h,det_aff,det_self,det_self'];grind
 generalize crs a b s t=c at *;generalize crs a b x y=d at *;have e1:crossP (subP b a) (subP c d)=0:=by rw [show crossP (subP b a) (subP c d)=det a b c-det a b d by unfold det crossP subP;grind,c1,c2];grind
 have e2:crossP (subP y x) (subP c d)=0:=by rw [show crossP (subP y x) (subP c d)=det x y c-det x y d by unfold det crossP subP;grind,l1,l2];grind
 have e3:crossP (subP b a) (subP y x)≠0:=by rw [show crossP (subP b a) (subP y x)=det a b y-det a b x by unfold det crossP subP;grind];grind
 refine sub_zero ?_;generalize subP c d=q at *;generalize subP b a=g at *;generalize subP y x=k at *;have f1:crossP g k*q.1=k.1*crossP g q-g.1*crossP k q:=by unfold crossP;grind
 have f2:crossP g k*q.2=k.2*crossP g q-g.2*crossP k q:=by unfold crossP;grind
 rw [e1,e2] at f1 f2;refine Prod.ext ?_ ?_
 ·rcases Rat.mul_eq_zero.1 (show crossP g k*q.1=0 by grind) with h|h
  ·exact absurd h e3
  ·exact h
 ·rcases Rat.mul_eq_zero.1 (show crossP g k*q.2=0 by grind) with h|h
  ·exact absurd h e3
  ·exact h
theorem edges_edge {h:List Pt} {f:Pt} (hr:Ring h f f h):∀ s∈edges h,Edge h s.1 s.2:=by
 intro s hs;have h2:=ring_len hr;have E:=ring_edge hr;unfold edges at hs;rw [if_neg (by omega)] at hs
 split at hs
 ·rename_i hl
  rw [List.mem_singleton] at hs;have e1:=E 0 (by omega);have q1:(0+1)%h.length=1:=by rw [hl]
  simp only [q1] at e1;rw [hs,getD_of (List.getElem?_eq_getElem (show 0<h.length by omega)),getD_of (List.getElem?_eq_getElem (show 1<h.length by omega))];exact e1
 ·obtain ⟨i,hi,rfl⟩:=List.mem_map.1 hs
  rw [edge_get (List.mem_range.1 hi)];exact E i (List.mem_range.1 hi)
theorem hull_ring {h:List Pt} (hl:wrap h=h):(∀ z w,¬ Edge h z w)∧h.length≤1∨∃ f,Ring h f f h:=by
 have hl0:=wrap_isHull h;rw [hl] at hl0;rcases hl0 with ⟨h3,_⟩|⟨q,h3,h4,h5⟩|⟨f,h3,hr⟩
 ·exact .inl ⟨fun z w e=>(by have:=e.ma;rw [h3] at this;cases this),by rw [h3];simp⟩
 ·exact .inl ⟨fun z w e=>e.ne ((h5 _ e.ma).trans (h5 _ e.mb).symm),by rw [h3];simp⟩
 ·exact .inr ⟨f,hr⟩
theorem edges_short {h:List Pt} (hl:h.length≤1):edges h=[]:=by unfold edges;rw [if_pos (by omega)]
theorem cutE_sz {LN:List (Pt×Pt)} {S K:Nat} {h:List Pt} {a b:Pt} (hl:wrap h=h) (c:Car LN h) (hS:∀ m∈LN,SzS S m) (hm:SzS S (a,b)) (hK:27*S+18≤K) (hs:∀ q∈h,SzP K q):∀ q∈cutE h a b,SzP K q:=by
 intro q hq;rcases cutE_mem.1 hq with ⟨h1,_⟩|⟨s,h1,h2,rfl⟩
 ·exact hs q h1
 ·rcases hull_ring hl with ⟨_,h3⟩|⟨f,hr⟩
  ·rw [edges_short h3] at h1;cases h1
  ·obtain ⟨m,h4,h5,h6,h7⟩:=c _ _ (edges_edge hr s h1)
   rw [crs_line h5 h6 h7 (by rcases h2 with ⟨x,y⟩|⟨x,y⟩<;>grind)];exact (crs_sz hm.1 hm.2 (hS m h4).1 (hS m h4).2).mono (by omega)
theorem ring_nodup {S:List Pt} {f a:Pt} {l:List Pt} (h:Ring S f a l):∀ i j (hi:i<l.length) (hj:j<l.length),i<j→l[i]=l[j]→False:=by
 induction h with
 | last e=>intro i j hi hj hij;simp at hi hj;omega
 | @step a b l e hn hr ih =>
  intro i j hi hj hij he
  -- walk to the end of the list: the same steps from both
  have E:=(Ring.step e hn hr).edges
  have H:∀ n i j,i<j→j+n+1=(a :: l).length→(hi:i<(a :: l).length)→(hj:j<(a :: l).length)→(a :: l)[i]=(a :: l)[j]→False:=by
   intro n
   induction n with
   | zero =>
    intro i j hij hn0 hi hj he;have e1:=E i hi;have e2:=E j hj;rw [he] at e1;have:=e1.tail_unique e2;rw [List.drop_eq_nil_of_le (by omega:(a :: l).length≤j+1)] at this;simp only [List.headD_nil] at this
    have h3:((a :: l).drop (i+1)).headD f∈l:=by
     rw [List.drop_succ_cons];have:i<l.length:=by simp at hn0;omega
     rw [List.drop_eq_getElem_cons this];exact List.getElem_mem this
    rw [this] at h3;exact (Ring.step e hn hr).rest_ne _ h3 rfl
   | succ n ihn =>
    intro i j hij hn0 hi hj he;have e1:=E i hi;have e2:=E j hj;rw [he] at e1;have h1:=e1.tail_unique e2;have hj1:j+1<(a :: l).length:=by omega
    have hi1:i+1<(a :: l).length:=by omega
    rw [List.drop_eq_getElem_cons hi1,List.drop_eq_getElem_cons hj1] at h1;exact ihn (i+1) (j+1) (by omega) (by omega) hi1 hj1 h1
  exact H ((a :: l).length-j-1) i j hij (by omega) hi hj he
theorem Ring.nodup {S:List Pt} {f a:Pt} {l:List Pt} (h:Ring S f a l):l.Nodup:=by
 rw [List.nodup_iff_pairwise_ne,List.pairwise_iff_getElem];intro i j hi hj hij he;exact ring_nodup h i j hi hj hij he
theorem le_of_inj {α β:Type} (R:α→β→Prop):∀ (h:List α) (T:List β),h.Nodup→(∀ z∈h,∃ y∈T,R z y)→(∀ z∈h,∀ z'∈h,∀ y,R z y→R z' y→z=z')→h.length≤T.length
 | [],_,_,_,_=>Nat.zero_le _
 | z :: h,T,hn,hex,hinj=>by
  obtain ⟨y,hy,hr⟩:=hex z (by simp);obtain ⟨l1,l2,rfl⟩:=List.append_of_mem hy;rw [List.nodup_cons] at hn
  have:=le_of_inj R h (l1++l2) hn.2 (fun z' hz'=>by
   obtain ⟨y',hy',hr'⟩:=hex z' (List.mem_cons_of_mem _ hz');refine ⟨y',?_,hr'⟩
   have hne:y'≠y:=fun e=>by
    subst e;exact hn.1 (hinj z (by simp) z' (List.mem_cons_of_mem _ hz') _ hr hr'▸hz')
   simp only [List.mem_append,List.mem_cons] at hy' ⊢;rcases hy' with h|h|h
   ·exact .inl h
   ·exact absurd h hne
   ·exact .inr h) (fun z1 h1 z2 h2=>hinj z1 (List.mem_cons_of_mem _ h1) z2 (List.mem_cons_of_mem _ h2))
  simp only [List.length_append,List.length_cons] at *;omega
theorem btw_par {s z v:Pt} (h:btwB s z v=true) (hzv:z≠v) (D:Pt):∃ k n:Rat,0<n∧0≤k∧n*(dotP s D-dotP z D)=k*(dotP v D-dotP z D):=by
 obtain ⟨h0,h1⟩:=(btw_iff _ _ _).1 h;have hn:=dot_self_pos (sub_ne hzv.symm);obtain ⟨e1,e2⟩:=lin_mean h0;have k1:dotP (subP v z) (subP v z)*dotP (subP z s) (subP v s)=dotP (subP v z) (subP s z)*(dotP (subP v z) (subP s z)-dotP (subP v z) (subP v z))+det z v s*det z v s:=by unfold det crossP dotP subP;grind
 rw [h0] at k1;have k2:=Rat.mul_nonneg (Rat.le_of_lt hn) (show 0≤- dotP (subP z s) (subP v s) by grind);generalize dotP (subP v z) (subP v z)=N at *;generalize dotP (subP v z) (subP s z)=K at *;refine ⟨K,N,hn,?_,?_⟩
 ·refine Rat.not_lt.1 fun hneg => ?_
  have:=Rat.mul_pos (show 0 < -K by grind) (show 0<N-K by grind);grind
 ·unfold dotP;grind
theorem line_pos {a b z w:Pt} (hab:a≠b) (hz:det a b z=0) (hw:det a b w=0) (h:dotP z (subP b a)=dotP w (subP b a)):z=w:=by
 have hp:=dot_self_pos (sub_ne hab.symm);obtain ⟨z1,z2⟩:=lin_mean hz;obtain ⟨w1,w2⟩:=lin_mean hw
 have e:dotP (subP b a) (subP z a)=dotP (subP b a) (subP w a):=by
  have e1:∀ q,dotP (subP b a) (subP q a)=dotP q (subP b a)-dotP a (subP b a):=fun q=>by unfold dotP subP;grind
  rw [e1,e1,h]
 rw [e] at z1 z2;generalize dotP (subP b a) (subP b a)=n at *;have g1:=mul_zero_of hp (b:=z.1-w.1) (by grind);have g2:=mul_zero_of hp (b:=z.2-w.2) (by grind);exact Prod.ext (by grind) (by grind)
theorem edge_line {h:List Pt} {m:Pt×Pt} (hm:m.1≠m.2) {z w z' w':Pt} (e:Edge h z w) (e':Edge h z' w') (h1:det m.1 m.2 z=0) (h2:det m.1 m.2 w=0) (h3:det m.1 m.2 z'=0) (h4:det m.1 m.2 w'=0)
 (hd:decide (0<dotP (subP w z) (subP m.2 m.1))=decide (0<dotP (subP w' z') (subP m.2 m.1))):z=z':=by
 obtain ⟨a,b⟩:=m;simp only at *;obtain ⟨k,n,hn,hk,p⟩:=btw_par (e.on z' e'.ma (line_col hm h1 h2 h3)) e.ne (subP b a);obtain ⟨k',n',hn',hk',p'⟩:=btw_par (e'.on z e.ma (line_col hm h3 h4 h1)) e'.ne (subP b a);have q:dotP (subP w z) (subP b a)=dotP w (subP b a)-dotP z (subP b a):=by unfold dotP subP;grind
 have q':dotP (subP w' z') (subP b a)=dotP w' (subP b a)-dotP z' (subP b a):=by unfold dotP subP;grind
 have ne:dotP w (subP b a)-dotP z (subP b a)≠0:=fun h0=>e.ne (line_pos hm h1 h2 (by grind))
 have ne':dotP w' (subP b a)-dotP z' (subP b a)≠0:=fun h0=>e'.ne (line_pos hm h3 h4 (by grind))
 rw [q,q'] at hd;refine line_pos hm h1 h3 ?_;generalize dotP z (subP b a)=x at *;generalize dotP z' (subP b a)=x' at *;generalize dotP w (subP b a)-x=y at *;generalize dotP w' (subP b a)-x'=y' at *
 by_cases hy:0<y
 ·rw [decide_eq_true hy] at hd
  have hy':0<y':=by simpa using hd.symm
  have g1:=Rat.mul_nonneg hk (Rat.le_of_lt hy);have g2:=Rat.mul_nonneg hk' (Rat.le_of_lt hy');have g3:=mul_nonneg_of hn (b:=x'-x) (by grind);have g4:=mul_nonneg_of hn' (b:=x-x') (by grind);grind
 ·rw [decide_eq_false hy] at hd
  have hy':¬ 0<y':=by simpa using hd.symm
  have g1:=Rat.mul_nonneg hk (show 0≤-y by grind);have g2:=Rat.mul_nonneg hk' (show 0≤-y' by grind);have g3:=mul_nonneg_of hn (b:=x-x') (by grind);have g4:=mul_nonneg_of hn' (b:=x'-x) (by grind);grind
theorem car_len {LN:List (Pt×Pt)} {h:List Pt} (hl:wrap h=h) (c:Car LN h):h.length≤2*LN.length+1:=by
 rcases hull_ring hl with ⟨_,h3⟩|⟨f,hr⟩
 ·omega
 ·have:=le_of_inj (fun z (y:(Pt×Pt)×Bool)=>∃ w,Edge h z w∧y.1.1≠y.1.2∧det y.1.1 y.1.2 z=0∧det y.1.1 y.1.2 w=0∧decide (0<dotP (subP w z) (subP y.1.2 y.1.1))=y.2)
   h (LN.map (fun m=>(m,true))++LN.map (fun m=>(m,false))) hr.nodup (fun z hz=>by
    obtain ⟨b,eb,_⟩:=hr.out z hz;obtain ⟨m,hm,k1,k2,k3⟩:=c z b eb;refine ⟨(m,decide (0<dotP (subP b z) (subP m.2 m.1))),?_,b,eb,k1,k2,k3,rfl⟩;rw [List.mem_append,List.mem_map,List.mem_map];cases hb:decide (0<dotP (subP b z) (subP m.2 m.1))
    ·exact .inr ⟨m,hm,rfl⟩
    ·exact .inl ⟨m,hm,rfl⟩) (fun z _ z' _ y ⟨w,e,k1,k2,k3,k4⟩ ⟨w',e',_,j2,j3,j4⟩=>edge_line k1 e e' k2 k3 j2 j3 (k4.trans j4.symm))
  rw [List.length_append,List.length_map,List.length_map] at this;omega
end Pl
end Go.Proofs.YtdkkjfnpinckjaaGreatDoor
