/-
 What Compact leaves of sorted points; the hull of any list; a point that is farthest in some direction is a point of the hull's list.
-/
import Derived.Test.YtdkkjfnpinckjaaGreatDoorYMa
set_option maxRecDepth 100000
set_option linter.unusedSimpArgs false
set_option linter.unusedVariables false
namespace Go.Proofs.YtdkkjfnpinckjaaGreatDoor

def sortP (l:List (Rat×Rat)):List (Rat×Rat):=l.mergeSort fun x y => !Pl.lessP y x
def ddGo:Option (Rat×Rat)→List (Rat×Rat)→List (Rat×Rat)
 | _,[]=>[]
 | o,x :: l=>if o=some x then ddGo o l else x :: ddGo (some x) l
def dd (l:List (Rat×Rat)):List (Rat×Rat):=ddGo none l
theorem ddGo_snoc (x:Rat×Rat):∀ (l:List (Rat×Rat)) (o:Option (Rat×Rat)),ddGo o (l++[x])=if (l.getLast?).or o=some x then ddGo o l else ddGo o l++[x]
 | [],o=>by by_cases h:o=some x<;>simp [ddGo,h]
 | y :: l,o=>by
  have ih:=ddGo_snoc x l
  have e:((y :: l).getLast?).or o=(l.getLast?).or (some y):=by
   cases l with
   | nil=>simp
   | cons z l=>simp [List.getLast?_cons_cons,List.getLast?_cons]
  rw [e,List.cons_append,ddGo,ddGo]
  split
  ·rename_i h;rw [ih,h]
  ·rw [ih];split<;>simp
theorem dd_one (x:Rat×Rat):dd [x]=[x]:=by simp [dd,ddGo]
theorem dd_step {l:List (Rat×Rat)} {m:Nat} {x y:Rat×Rat} (hx:l[m]?=some x) (hy:l[m+1]?=some y) :
 dd (l.take (m+1+1))=if x=y then dd (l.take (m+1)) else dd (l.take (m+1))++[y]:=by
 have h1:l.take (m+1+1)=l.take (m+1)++[y]:=by rw [List.take_add_one,hy];rfl
 have h2:(l.take (m+1)).getLast?=some x:=by rw [List.take_add_one,hx];simp
 rw [dd,h1,ddGo_snoc,h2];simp [dd]
theorem ddGo_sub:∀ (l:List (Rat×Rat)) (o:Option (Rat×Rat)),(ddGo o l).Sublist l
 | [],_=>by simp [ddGo]
 | x :: l,o=>by
  rw [ddGo]
  split
  ·exact (ddGo_sub l o).cons _
  ·exact (ddGo_sub l _).cons_cons _
theorem dd_len (l:List (Rat×Rat)):(dd l).length≤l.length:=(ddGo_sub l none).length_le
theorem ddGo_mem (q:Rat×Rat):∀ (l:List (Rat×Rat)) (o:Option (Rat×Rat)),q∈l→q∈ddGo o l∨o=some q
 | x :: l,o,h=>by
  rw [ddGo];rcases List.mem_cons.1 h with rfl|h
  ·split
   ·rename_i h;exact .inr h
   ·exact .inl (by simp)
  ·split
   ·exact ddGo_mem q l o h
   ·rcases ddGo_mem q l (some x) h with h1|h1
    ·exact .inl (List.mem_cons_of_mem _ h1)
    ·cases h1;exact .inl (by simp)
theorem dd_mem (l:List (Rat×Rat)) (q:Rat×Rat):q∈dd l↔q∈l :=
 ⟨fun h=>(ddGo_sub l none).subset h,fun h=>(ddGo_mem q l none h).resolve_right (by simp)⟩
theorem dd_all {l:List (Rat×Rat)} : ∀ {m:Nat},m+1≤l.length→(∀ (k:Nat) x y,k+1≤m→l[k]?=some x→l[k+1]?=some y→x≠y)→dd (l.take (m+1))=l.take (m+1)
 | 0,hm,_=>by
  cases l with
  | nil=>cases hm
  | cons x l=>simp [dd,ddGo]
 | m+1,hm,h=>by
  obtain ⟨x,hx⟩:∃ x,l[m]?=some x:=⟨_,List.getElem?_eq_getElem (by omega)⟩
  obtain ⟨y,hy⟩:∃ y,l[m+1]?=some y:=⟨_,List.getElem?_eq_getElem (by omega)⟩
  rw [dd_step hx hy,if_neg (h m x y (by omega) hx hy),dd_all (by omega) fun k x y hk=>h k x y (by omega),List.take_add_one (i:=m+1),hy];rfl
theorem ddGo_strict:∀ (l:List (Rat×Rat)) (o:Option (Rat×Rat)),l.Pairwise (fun a b=>Pl.lessP b a=false)→(∀ y,o=some y→∀ x∈l,Pl.lessP x y=false) →
 (ddGo o l).Pairwise (fun a b=>Pl.lessP a b=true)∧∀ y,o=some y→∀ x∈ddGo o l,Pl.lessP y x=true
 | [],_,_,_=>by simp [ddGo]
 | x :: l,o,hp,ho=>by
  obtain ⟨h1,h2⟩:=List.pairwise_cons.1 hp;rw [ddGo]
  split
  ·exact ddGo_strict l o h2 fun y hy z hz=>ho y hy z (List.mem_cons_of_mem _ hz)
  ·rename_i hne
   obtain ⟨i1,i2⟩:=ddGo_strict l (some x) h2 fun y hy z hz=>by cases hy;exact h1 z hz
   refine ⟨List.pairwise_cons.2 ⟨i2 x rfl,i1⟩,?_⟩;intro y hy z hz
   have hyx:Pl.lessP y x=true:=by
    rcases Pl.less_total y x with h|h|h
    ·exact h
    ·subst h;exact absurd hy hne
    ·rw [ho y hy x (by simp)] at h;cases h
   rcases List.mem_cons.1 hz with rfl|hz
   ·exact hyx
   ·exact Pl.less_trans hyx (i2 x rfl z hz)
theorem sortP_le (l:List (Rat×Rat)):(sortP l).Pairwise fun a b=>Pl.lessP b a=false:=by
 have h:=List.pairwise_mergeSort (le:=fun x y:Rat×Rat => !Pl.lessP y x) (fun a b c h1 h2=>by
  simp only [Bool.not_eq_true'] at *;rcases h:Pl.lessP c a with _|_
  ·rfl
  ·rcases Pl.less_total a b with h3|h3|h3
   ·have:=Pl.less_trans h h3;rw [h2] at this;cases this
   ·subst h3;rw [h2] at h;cases h
   ·rw [h1] at h3;cases h3) (fun a b=>by
  rcases h:Pl.lessP b a with _|_
  ·simp
  ·simp [Pl.less_asymm h]) l
 exact h.imp fun h=>by simpa using h
theorem dd_sorted (l:List (Rat×Rat)):Pl.Sorted (0,-1) (dd (sortP l)):=by
 rw [Pl.sorted_iff];exact (ddGo_strict _ none (sortP_le l) (fun _ h=>by cases h)).1.imp fun h=>(Pl.less_in _ _).1 h
theorem hullL_wrap (l:List (Rat×Rat)):Pl.hullL (dd (sortP l))=Pl.wrap l :=
 Pl.IsHull.unique ((Pl.hullL_isHull (dd_sorted l)).congr fun s=>(dd_mem _ s).trans List.mem_mergeSort) (Pl.wrap_isHull l)
namespace Pl
theorem In.cr {d u:Pt} (h:In d u):0≤crossP d u:=by
 rcases h with h|⟨h,_⟩
 ·exact Rat.le_of_lt h
 ·rw [h];exact Rat.le_refl
theorem In.dt {d u:Pt} (h:In d u) (e:crossP d u=0):dotP d u<0:=by
 rcases h with h|⟨_,h⟩
 ·rw [e] at h;exact absurd h Rat.lt_irrefl
 ·exact h
theorem mul_le_zero {a b:Rat} (ha:0≤a) (h:0<a→b<0):a*b≤0:=by
 by_cases h0:a=0
 ·subst h0;rw [Rat.zero_mul];exact Rat.le_refl
 ·have h1:0<a:=by grind
  have:=@Rat.mul_pos a (-b) h1 (by have:=h h1;grind);grind
theorem in_span {d A B Q:Pt} {c α β:Rat} (hA:In d A) (hB:In d B) (hQ:In d (-Q.1,-Q.2)) (hc:0<c) (hα:0≤α) (hβ:0≤β) (e1:c*Q.1=α*B.1+β*A.1) (e2:c*Q.2=α*B.2+β*A.2):False:=by
 have x1:c*crossP d Q=α*crossP d B+β*crossP d A:=by unfold crossP;grind
 have x2:c*dotP d Q=α*dotP d B+β*dotP d A:=by unfold dotP;grind
 have x3:crossP d (-Q.1,-Q.2)=- crossP d Q:=by unfold crossP;grind
 have x4:dotP d (-Q.1,-Q.2)=- dotP d Q:=by unfold dotP;grind
 have q1:=hQ.cr;rw [x3] at q1;have y1:=Rat.mul_nonneg hα hB.cr;have y2:=Rat.mul_nonneg hβ hA.cr;have y3:=Rat.mul_nonneg (Rat.le_of_lt hc) q1;have z1:α*crossP d B=0:=by grind
 have z2:β*crossP d A=0:=by grind
 have z3:c*crossP d Q=0:=by grind
 have z4:=mul_zero_of hc z3;have q2:=hQ.dt (by rw [x3,z4];grind);rw [x4] at q2;have w1:=mul_le_zero (b:=dotP d B) hα fun h=>hB.dt (mul_zero_of h z1)
 have w2:=mul_le_zero (b:=dotP d A) hβ fun h=>hA.dt (mul_zero_of h z2)
 have w3:=Rat.mul_pos hc (show 0<dotP d Q by grind);grind
theorem in_null {d A B:Pt} {α β:Rat} (hA:In d A) (hB:In d B) (hα:0≤α) (hβ:0≤β) (e1:0=α*B.1+β*A.1) (e2:0=α*B.2+β*A.2):β=0:=by
 have x1:0=α*crossP d B+β*crossP d A:=by unfold crossP;grind
 have x2:0=α*dotP d B+β*dotP d A:=by unfold dotP;grind
 have y1:=Rat.mul_nonneg hα hB.cr;have y2:=Rat.mul_nonneg hβ hA.cr;have z1:α*crossP d B=0:=by grind
 have z2:β*crossP d A=0:=by grind
 have w1:=mul_le_zero (b:=dotP d B) hα fun h=>hB.dt (mul_zero_of h z1)
 rcases Classical.em (β=0) with h|h
 ·exact h
 ·have hp:0<β:=by grind
  have w2:=Rat.mul_pos hp (show 0 < - dotP d A by have:=hA.dt (mul_zero_of hp z2);grind);grind
theorem no_out {d A B Q:Pt} (hA:In d A) (hB:In d B) (hQ:In d (-Q.1,-Q.2)) (h1:0≤crossP B A) (h2:0≤crossP B Q) (h3:0≤crossP Q A) (h4:crossP B A=0→crossP B Q=0→dotP Q Q≤dotP Q B) (hb:B≠(0,0)):False:=by
 have e1:crossP B A*Q.1=crossP Q A*B.1+crossP B Q*A.1:=by unfold crossP;grind
 have e2:crossP B A*Q.2=crossP Q A*B.2+crossP B Q*A.2:=by unfold crossP;grind
 rcases Classical.em (crossP B A=0) with h0|h0
 ·rw [h0,Rat.zero_mul] at e1 e2
  have hz:=in_null hA hB h3 h2 e1 e2;have h5:=h4 h0 hz;have hp:=dot_self_pos hb;have hq:0≤dotP Q Q:=by unfold dotP;have:=sq_nonneg Q.1;have:=sq_nonneg Q.2;grind
  refine in_span (c:=dotP B B) (α:=dotP Q B) (β:=0) hA hB hQ hp (Rat.le_trans hq h5) Rat.le_refl ?_ ?_<;>(unfold crossP at hz;unfold dotP;grind)
 ·exact in_span hA hB hQ (show 0<crossP B A by grind) h3 h2 e1 e2
theorem In.total {d:Pt} (hd:d≠(0,0)) (u:Pt):u=(0,0)∨In d u∨In d (-u.1,-u.2):=by
 have hp:=dot_self_pos hd;have e1:crossP d (-u.1,-u.2)=- crossP d u:=by unfold crossP;grind
 have e2:dotP d (-u.1,-u.2)=- dotP d u:=by unfold dotP;grind
 unfold In;rw [e1,e2];rcases Classical.em (crossP d u=0) with h|h
 ·rcases Classical.em (dotP d u=0) with h2|h2
  ·left
   have i1:dotP d d*u.1=dotP d u*d.1-crossP d u*d.2:=by unfold dotP crossP;grind
   have i2:dotP d d*u.2=dotP d u*d.2+crossP d u*d.1:=by unfold dotP crossP;grind
   rw [h,h2] at i1 i2;exact Prod.ext (mul_zero_of hp (by grind)) (mul_zero_of hp (by grind))
  ·right;grind
 ·right;grind
theorem In.ne0 {d u:Pt} (h:In d u):d≠(0,0):=by
 rintro rfl;unfold In crossP dotP at h;grind
theorem far_point {d:Pt} (hd:d≠(0,0)):∀ (l:List Pt),l≠[]→∃ v∈l,∀ s∈l,s=v∨In d (subP s v)
 | [],h=>absurd rfl h
 | a :: l,_=>by
  rcases Classical.em (l=[]) with h|h
  ·subst h;exact ⟨a,by simp,fun s hs=>.inl (by simpa using hs)⟩
  ·obtain ⟨v,hv,hall⟩:=far_point hd l h
   rcases In.total hd (subP a v) with h1|h1|h1
   ·refine ⟨v,by simp [hv],fun s hs => ?_⟩
    rcases List.mem_cons.1 hs with rfl|hs
    ·exact .inl (sub_zero h1)
    ·exact hall s hs
   ·refine ⟨v,by simp [hv],fun s hs => ?_⟩
    rcases List.mem_cons.1 hs with rfl|hs
    ·exact .inr h1
    ·exact hall s hs
   ·have e:In d (subP v a):=by
     have:(-(subP a v).1,-(subP a v).2)=subP v a:=by unfold subP;simp only [Prod.mk.injEq];constructor<;>grind
     rwa [this] at h1
    refine ⟨a,by simp,fun s hs => ?_⟩;rcases List.mem_cons.1 hs with rfl|hs
    ·exact .inl rfl
    ·rcases hall s hs with rfl|h2
     ·exact .inr e
     ·exact .inr (h2.eq_add e (by unfold subP addP;simp only [Prod.mk.injEq];constructor<;>grind))
theorem Ring.out {S:List Pt} {f a:Pt} {l:List Pt} (h:Ring S f a l):∀ v∈l,∃ b,Edge S v b∧(b∈l∨b=f):=by
 induction h with
 | last e=>intro v hv;rw [List.mem_singleton] at hv;subst hv;exact ⟨_,e,.inr rfl⟩
 | step e hn hr ih =>
  intro v hv;rcases List.mem_cons.1 hv with rfl|hv
  ·refine ⟨_,e,.inl ?_⟩
   obtain ⟨m,rfl⟩:=hr.head;simp
  ·obtain ⟨b,h1,h2⟩:=ih v hv
   exact ⟨b,h1,h2.imp (List.mem_cons_of_mem _) id⟩
theorem Ring.into {S:List Pt} {f a:Pt} {l:List Pt} (h:Ring S f a l):(∃ z∈l,Edge S z f)∧∀ v∈l,v=a∨∃ z∈l,Edge S z v:=by
 induction h with
 | last e=>exact ⟨⟨_,by simp,e⟩,fun v hv=>.inl (by simpa using hv)⟩
 | step e hn hr ih =>
  obtain ⟨⟨z,hz,h1⟩,h2⟩:=ih;refine ⟨⟨z,List.mem_cons_of_mem _ hz,h1⟩,fun v hv => ?_⟩;rcases List.mem_cons.1 hv with rfl|hv
  ·exact .inl rfl
  ·rcases h2 v hv with rfl|⟨z,hz,h3⟩
   ·exact .inr ⟨_,by simp,e⟩
   ·exact .inr ⟨z,List.mem_cons_of_mem _ hz,h3⟩
theorem IsHull.extreme {S h:List Pt} {d p:Pt} (a:IsHull S h) (hp:p∈S) (hc:Cone S d p):p∈h:=by
 rcases a with ⟨rfl,rfl⟩|⟨q,rfl,hq,hall⟩|⟨f,hl,hr⟩
 ·cases hp
 ·rw [hall p hp];simp
 ·rcases Classical.em (p∈h) with hin|hout
  ·exact hin
  exfalso;obtain ⟨m,hm⟩:=hr.head;have hf:f∈h:=by rw [hm];simp
  have hd:d≠(0,0):=(hc f hl.1 (fun e=>hout (e▸hf))).ne0;obtain ⟨v,hv,hfar⟩:=far_point hd h (by rw [hm];simp);obtain ⟨b,eb,hb⟩:=hr.out v hv;have hb':b∈h:=hb.elim id fun e=>e▸hf
  obtain ⟨z,hz,ez⟩:∃ z∈h,Edge S z v:=by
   rcases hr.into.2 v hv with rfl|h
   ·exact hr.into.1
   ·exact h
  have hB:=(hfar b hb').resolve_left eb.ne.symm;have hA:=(hfar z hz).resolve_left ez.ne;have hQ:=hc v eb.ma fun e=>hout (e▸hv)
  refine no_out (A:=subP z v) (B:=subP b v) (Q:=subP p v) hA hB ?_ (eb.left z ez.ma) (eb.left p hp) ?_ (fun _ h0 => ?_) (sub_ne eb.ne.symm)
  ·have:(-(subP p v).1,-(subP p v).2)=subP v p:=by unfold subP;simp only [Prod.mk.injEq];constructor<;>grind
   rwa [this]
  ·have h1:=ez.left p hp
   have e:crossP (subP p v) (subP z v)=det z v p:=by unfold det crossP subP;grind
   rw [e];exact h1
  ·have h1:=(btw_iff _ _ _).1 (eb.on p hp h0)
   have e:dotP (subP v p) (subP b p)=dotP (subP p v) (subP p v)-dotP (subP p v) (subP b v):=by unfold dotP subP;grind
   have h2:=h1.2;rw [e] at h2;grind
end Pl
end Go.Proofs.YtdkkjfnpinckjaaGreatDoor
