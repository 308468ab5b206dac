/-
 Plain facts on bytes, digits and the guess of a long division. No program in sight.
 Fractions: how many bytes their parts have; signs; what the numerators over a common denominator say.
 The plane in the plain: vectors, turns, directions within a half plane. No program in sight.
 How many bytes the numbers of points have; the lesser and the greater one of two fractions. No program in sight.
 The list of a hull in the plain: what it is, that a set has one only, and that gift wrapping gives it. No program in sight.
 Gift wrapping gives the list of the hull; the edges of that list. No program in sight.
 Two chains over the sorted points give the list of the hull. No program in sight.
 Convex sets in the plain: what the functions of package convex and of its reference compute. No program in sight.
 Places in the plain: the two ways to find a place agree; every point of a set lies in its hull. No program in sight.
-/

set_option maxRecDepth 100000
set_option linter.unusedSimpArgs false
set_option linter.unusedVariables false
namespace Go.Proofs.YtdkkjfnpinckjaaGreatDoor
namespace Pl

def L (n:Nat):Nat:=if n=0 then 0 else Nat.log2 n/8+1

theorem pow256 (k:Nat):256 ^ k=2 ^ (8*k):=by rw [Nat.pow_mul]

theorem lt_L (n:Nat):n<256 ^ L n:=by
 unfold L
 split
 ·subst n;simp
 ·next h =>
  rw [pow256];have h1:n<2 ^ (Nat.log2 n+1):=Nat.lt_log2_self;exact Nat.lt_of_lt_of_le h1 (Nat.pow_le_pow_right (by omega) (by omega))

theorem L_le (n:Nat) (h:n≠0):256 ^ (L n-1)≤n:=by
 unfold L;rw [if_neg h,pow256];have h1:2 ^ (Nat.log2 n)≤n:=Nat.log2_self_le h;exact Nat.le_trans (Nat.pow_le_pow_right (by omega) (by omega)) h1

theorem L_le_iff (n k:Nat):L n≤k↔n<256 ^ k:=by
 constructor
 ·intro h;exact Nat.lt_of_lt_of_le (lt_L n) (Nat.pow_le_pow_right (by omega) h)
 ·intro h
  rcases Nat.lt_or_ge k (L n) with h1|h1
  ·have hn:n≠0:=by rintro rfl;simp [L] at h1
   have:=L_le n hn;have h2:256 ^ k≤256 ^ (L n-1):=Nat.pow_le_pow_right (by omega) (by omega);omega
  ·exact h1

theorem L_zero:L 0=0:=rfl
theorem L_pos {n:Nat} (h:n≠0):0<L n:=by unfold L;rw [if_neg h];omega
theorem L_eq_zero {n:Nat} : L n=0↔n=0:=by
 constructor
 ·intro h;rcases Nat.eq_zero_or_pos n with h1|h1
  ·exact h1
  ·have:=L_pos (n:=n) (by omega);omega
 ·rintro rfl;rfl
theorem L_mono {a b:Nat} (h:a≤b):L a≤L b:=(L_le_iff _ _).2 (Nat.lt_of_le_of_lt h (lt_L b))
theorem L_mul (a b:Nat):L (a*b)≤L a+L b:=by
 rw [L_le_iff,Nat.pow_add];exact Nat.mul_lt_mul'' (lt_L a) (lt_L b)
theorem L_add (a b:Nat):L (a+b)≤max (L a) (L b)+1:=by
 rw [L_le_iff,Nat.pow_add];have h1:=Nat.lt_of_lt_of_le (lt_L a) (Nat.pow_le_pow_right (n:=256) (by omega) (Nat.le_max_left (L a) (L b)));have h2:=Nat.lt_of_lt_of_le (lt_L b) (Nat.pow_le_pow_right (n:=256) (by omega) (Nat.le_max_right (L a) (L b)));omega
def byt (n i:Nat):Nat:=n/256 ^ i%256
def magL (n:Nat):List UInt8:=(List.range (L n)).map fun i=>UInt8.ofNat (byt n (L n-1-i))
theorem magL_length (n:Nat):(magL n).length=L n:=by simp [magL]
def valL (l:List UInt8):Nat:=l.foldl (fun a b=>a*256+b.toNat) 0

theorem valL_snoc (l:List UInt8) (b:UInt8):valL (l++[b])=valL l*256+b.toNat:=by simp [valL]


theorem valL_go (l:List UInt8):∀ a,l.foldl (fun a b=>a*256+b.toNat) a=a*256 ^ l.length+valL l:=by
 induction l with
 | nil=>intro a;simp [valL]
 | cons b l ih =>
  intro a;have h0:valL (b :: l)=b.toNat*256 ^ l.length+valL l:=by show List.foldl _ _ (b :: l)=_;rw [List.foldl_cons,ih];simp
  rw [List.foldl_cons,ih,h0,List.length_cons,Nat.pow_succ,Nat.add_mul,Nat.mul_assoc,Nat.mul_comm 256];omega
theorem valL_cons (b:UInt8) (l:List UInt8):valL (b :: l)=b.toNat*256 ^ l.length+valL l:=by
 show List.foldl _ _ (b :: l)=_;rw [List.foldl_cons,valL_go];simp
theorem valL_lt (l:List UInt8):valL l<256 ^ l.length:=by
 induction l with
 | nil=>simp [valL]
 | cons b l ih =>
  rw [valL_cons,List.length_cons,Nat.pow_succ];have:=b.toNat_lt;have h2:b.toNat*256 ^ l.length+256 ^ l.length≤256 ^ l.length*256:=by have:(b.toNat+1)*256 ^ l.length≤256*256 ^ l.length:=Nat.mul_le_mul_right _ (by omega);rw [Nat.add_mul] at this;omega
  omega
theorem valL_take_succ (l:List UInt8) (k:Nat) (h:k<l.length):valL (l.take (k+1))=valL (l.take k)*256+l[k].toNat:=by
 rw [List.take_succ_eq_append_getElem h,valL_snoc]

theorem valL_get (l:List UInt8) (i:Nat) (h:i<l.length):l[i].toNat=valL l/256 ^ (l.length-1-i)%256:=by
 induction l generalizing i with
 | nil=>simp at h
 | cons b l ih =>
  have hl:=valL_lt l;have hp:0<256 ^ l.length:=Nat.pow_pos (by omega);rw [valL_cons,List.length_cons]
  cases i with
  | zero =>
   simp only [List.getElem_cons_zero,Nat.add_sub_cancel,Nat.sub_zero];rw [Nat.mul_comm,Nat.mul_add_div hp,Nat.div_eq_of_lt hl];have:=b.toNat_lt;omega
  | succ i =>
   simp only [List.getElem_cons_succ,List.length_cons] at h ⊢;rw [ih i (by omega)];have e:l.length+1-1-(i+1)=l.length-1-i:=by omega
   rw [e];have e2:l.length=(l.length-1-i)+(i+1):=by omega
   generalize hv:valL l=v;generalize l.length-1-i=k at *;rw [e2,Nat.pow_add,← Nat.mul_assoc,Nat.mul_right_comm,Nat.mul_comm _ (256 ^ k),Nat.mul_add_div (Nat.pow_pos (by omega)),Nat.pow_succ,← Nat.mul_assoc];omega

theorem valL_inj (l m:List UInt8) (h:l.length=m.length) (hv:valL l=valL m):l=m:=by
 apply List.ext_getElem h;intro i h1 h2;apply UInt8.toNat_inj.1;rw [valL_get l i h1,valL_get m i h2,hv,h]

def canon (l:List UInt8):Prop:=l=[]∨l.head?≠some 0

theorem magL_get (n i:Nat) (h:i<(magL n).length):(magL n)[i].toNat=n/256 ^ (L n-1-i)%256:=by
 simp only [magL,List.getElem_map,List.getElem_range];unfold byt;rw [UInt8.toNat_ofNat'];omega

theorem valL_eq_of_get (l:List UInt8) (n:Nat) (hn:n<256 ^ l.length) (h:∀ i (hi:i<l.length),l[i].toNat=n/256 ^ (l.length-1-i)%256):valL l=n:=by
 suffices H:∀ k≤l.length,valL (l.take k)=n/256 ^ (l.length-k) by
  have:=H l.length (Nat.le_refl _)
  rwa [List.take_length,Nat.sub_self,Nat.pow_zero,Nat.div_one] at this
 intro k
 induction k with
 | zero=>intro _;simp [valL];exact (Nat.div_eq_of_lt hn).symm
 | succ k ih =>
  intro hk;rw [valL_take_succ l k (by omega),ih (by omega),h k (by omega)];have e:l.length-k=(l.length-(k+1))+1:=by omega
  have e3:l.length-1-k=l.length-(k+1):=by omega
  rw [e,e3,Nat.pow_succ,← Nat.div_div_eq_div_mul];omega

theorem valL_magL (n:Nat):valL (magL n)=n:=by
 apply valL_eq_of_get
 ·rw [magL_length];exact lt_L n
 ·intro i hi;rw [magL_get,magL_length]

theorem canon_len {l:List UInt8} (h:canon l):L (valL l)=l.length:=by
 cases l with
 | nil=>rfl
 | cons b l =>
  have hb:b≠0:=by
   rcases h with h|h
   ·cases h
   ·simpa using h
  have hb':0<b.toNat:=by
   rcases Nat.eq_zero_or_pos b.toNat with h0|h0
   ·exact absurd (UInt8.toNat_inj.1 (by simpa using h0)) hb
   ·exact h0
  apply Nat.le_antisymm
  ·exact (L_le_iff _ _).2 (valL_lt _)
  ·rcases Nat.lt_or_ge (L (valL (b :: l))) (b :: l).length with h1|h1
   ·have h2:=lt_L (valL (b :: l))
    have h3:256 ^ L (valL (b :: l))≤256 ^ l.length:=Nat.pow_le_pow_right (by omega) (by simp at h1;omega);rw [valL_cons] at h2;have:1*256 ^ l.length≤b.toNat*256 ^ l.length:=Nat.mul_le_mul_right _ hb';rw [← valL_cons] at h2;rw [valL_cons] at h2;have h4:valL (b :: l)=b.toNat*256 ^ l.length+valL l:=valL_cons b l;rw [← h4] at h2;omega
   ·exact h1

theorem magL_valL {l:List UInt8} (h:canon l):magL (valL l)=l:=by
 apply valL_inj
 ·rw [magL_length,canon_len h]
 ·exact valL_magL _

theorem magL_inj {a b:Nat} (h:magL a=magL b):a=b:=by rw [← valL_magL a,h,valL_magL]

end Pl
namespace Pl
def vB (b:Nat) (l:List Nat):Nat:=l.foldr (fun d a=>d+b*a) 0
def dg (b k n:Nat):List Nat:=(List.range k).map fun i=>n/b ^ i%b
theorem vB_nil (b:Nat):vB b []=0:=rfl
theorem vB_cons (b d:Nat) (l:List Nat):vB b (d :: l)=d+b*vB b l:=rfl
theorem vB_append (b:Nat) (l m:List Nat):vB b (l++m)=vB b l+b ^ l.length*vB b m:=by
 induction l with
 | nil=>simp [vB_nil]
 | cons d l ih=>rw [List.cons_append,vB_cons,vB_cons,ih,List.length_cons,Nat.pow_succ,Nat.mul_add,Nat.add_assoc,Nat.mul_comm _ b,Nat.mul_assoc]
theorem vB_single (b d:Nat):vB b [d]=d:=by simp [vB]
theorem vB_snoc (b d:Nat) (l:List Nat):vB b (l++[d])=vB b l+b ^ l.length*d:=by rw [vB_append,vB_single]
theorem vB_lt {b:Nat} {l:List Nat} (h:∀ d∈l,d<b):vB b l<b ^ l.length:=by
 induction l with
 | nil=>simp [vB_nil]
 | cons d l ih =>
  have h1:=ih (fun x hx=>h x (List.mem_cons_of_mem _ hx));have h2:=h d (List.mem_cons_self ..);rw [vB_cons,List.length_cons,Nat.pow_succ,Nat.mul_comm _ b];have h3:b*(vB b l+1)≤b*b ^ l.length:=Nat.mul_le_mul_left _ h1;rw [Nat.mul_add] at h3;omega
theorem vB_take_drop (b i:Nat) (l:List Nat) (hi:i≤l.length):vB b l=vB b (l.take i)+b ^ i*vB b (l.drop i):=by
 conv=>lhs;rw [← List.take_append_drop i l]
 rw [vB_append,List.length_take,Nat.min_eq_left hi]
theorem vB_drop {b i:Nat} {l:List Nat} (h:∀ d∈l,d<b) (hi:i≤l.length) (hb:0<b):vB b (l.drop i)=vB b l/b ^ i:=by
 have h1:=vB_lt (l:=l.take i) (b:=b) (fun d hd=>h d (List.mem_of_mem_take hd));rw [List.length_take,Nat.min_eq_left hi] at h1;rw [vB_take_drop b i l hi,Nat.add_mul_div_left _ _ (Nat.pow_pos hb),Nat.div_eq_of_lt h1,Nat.zero_add]
theorem vB_get {b i:Nat} {l:List Nat} (h:∀ d∈l,d<b) (hi:i<l.length) (hb:0<b):l[i]=vB b l/b ^ i%b:=by
 rw [← vB_drop h (by omega) hb,List.drop_eq_getElem_cons hi,vB_cons,Nat.add_mul_mod_self_left,Nat.mod_eq_of_lt (h _ (List.getElem_mem hi))]
theorem dg_length (b k n:Nat):(dg b k n).length=k:=by simp [dg]
theorem dg_get (b k n i:Nat) (h:i<(dg b k n).length):(dg b k n)[i]=n/b ^ i%b:=by simp [dg]
theorem dg_lt {b k n:Nat} (hb:0<b):∀ d∈dg b k n,d<b:=by
 intro d hd;simp only [dg,List.mem_map] at hd;obtain ⟨i,_,rfl⟩:=hd;exact Nat.mod_lt _ hb
theorem dg_zero (b n:Nat):dg b 0 n=[]:=rfl
theorem dg_succ (b k n:Nat):dg b (k+1) n=dg b k n++[n/b ^ k%b]:=by simp [dg,List.range_succ]
theorem dg_cons (b k n:Nat):dg b (k+1) n=n%b :: dg b k (n/b):=by
 simp only [dg,List.range_succ_eq_map,List.map_cons,List.map_map,Nat.pow_zero,Nat.div_one];congr 1;apply List.map_congr_left;intro i _;simp only [Function.comp_apply,Nat.succ_eq_add_one,Nat.pow_succ,Nat.mul_comm _ b,← Nat.div_div_eq_div_mul]
theorem vB_dg (b k n:Nat):vB b (dg b k n)=n%b ^ k:=by
 induction k generalizing n with
 | zero=>simp [dg_zero,vB_nil,Nat.mod_one]
 | succ k ih=>rw [dg_cons,vB_cons,ih,Nat.pow_succ,Nat.mul_comm _ b,Nat.mod_mul]
theorem vB_inj {b:Nat} {l m:List Nat} (hl:∀ d∈l,d<b) (hm:∀ d∈m,d<b) (hb:0<b) (h:l.length=m.length) (hv:vB b l=vB b m):l=m:=by
 apply List.ext_getElem h;intro i h1 h2;rw [vB_get hl h1 hb,vB_get hm h2 hb,hv]
theorem dg_vB {b:Nat} {l:List Nat} (hl:∀ d∈l,d<b) (hb:0<b):dg b l.length (vB b l)=l:=by
 apply vB_inj (dg_lt hb) hl hb
 ·rw [dg_length]
 ·rw [vB_dg,Nat.mod_eq_of_lt (vB_lt hl)]
theorem dg_mod (b k n:Nat) (hb:0<b):dg b k (n%b ^ k)=dg b k n:=by
 apply vB_inj (dg_lt hb) (dg_lt hb) hb
 ·rw [dg_length,dg_length]
 ·rw [vB_dg,vB_dg,Nat.mod_mod]
theorem dg_take (b k n i:Nat) (h:i≤k):(dg b k n).take i=dg b i n:=by
 simp only [dg,← List.map_take,List.take_range,Nat.min_eq_left h]
end Pl
namespace Pl
theorem kn_step {B p W Y v1 v2 y0 high u2 w0 g rest:Nat} (hY:Y=(v1*B+v2)*p+y0) (hW:W=(high*B+u2)*p+w0) (hw0:w0<p)
 (hg:g*v1+rest=high) (h:rest*B+u2<g*v2):W<g*Y:=by
 have h1:high*B+u2+1≤g*(v1*B+v2):=by
  have e:g*(v1*B+v2)=g*v1*B+g*v2:=by rw [Nat.mul_add,Nat.mul_assoc]
  rw [e,← hg,Nat.add_mul];omega
 have h2:(high*B+u2+1)*p≤g*(v1*B+v2)*p:=Nat.mul_le_mul_right p h1;have h3:g*(v1*B+v2)*p≤g*Y:=by rw [hY,Nat.mul_assoc];exact Nat.mul_le_mul_left g (Nat.le_add_right _ _)
 rw [Nat.add_mul _ 1 p] at h2;omega
theorem kn_exit {B p W Y v1 v2 y0 high u2 w0 g rest:Nat} (hY:Y=(v1*B+v2)*p+y0) (hy0:y0<p) (hW:W=(high*B+u2)*p+w0)
 (hg:g*v1+rest=high) (h:g*v2≤rest*B+u2) (hgB:g<B) (hv:1≤v1):g*Y<W+Y:=by
 have h1:g*(v1*B+v2)≤high*B+u2:=by
  have e:g*(v1*B+v2)=g*v1*B+g*v2:=by rw [Nat.mul_add,Nat.mul_assoc]
  rw [e,← hg,Nat.add_mul];omega
 have h2:g*(v1*B+v2)*p≤(high*B+u2)*p:=Nat.mul_le_mul_right p h1;have h3:g*Y=g*(v1*B+v2)*p+g*y0:=by rw [hY,Nat.mul_add,Nat.mul_assoc]
 have h4:g*y0≤g*p:=Nat.mul_le_mul_left g (by omega);have h5:g*p<B*p:=Nat.mul_lt_mul_of_pos_right hgB (by omega)
 have h6:B*p≤Y:=by
  rw [hY]
  have:1*B*p≤(v1*B+v2)*p:=Nat.mul_le_mul_right p (by
   have:=Nat.mul_le_mul_right B hv
   omega)
  rw [Nat.one_mul] at this;omega
 omega
theorem kn_high {B p W Y v1 v2 y0 high u2 w0:Nat} (hY:Y=(v1*B+v2)*p+y0) (hy0:y0<p) (hv2:v2<B) (hW:W=(high*B+u2)*p+w0) (hWY:W<Y*B):high<(v1+1)*B:=by
 have h1:Y<(v1+1)*B*p:=by have:(v1*B+v2+1)*p≤(v1+1)*B*p:=Nat.mul_le_mul_right p (by rw [Nat.add_mul v1 1 B];omega);rw [Nat.add_mul _ 1 p] at this;omega
 rcases Nat.lt_or_ge high ((v1+1)*B) with h|h
 ·exact h
 ·exfalso
  have h2:Y*B<(v1+1)*B*p*B:=Nat.mul_lt_mul_of_pos_right h1 (by omega);have h3:(v1+1)*B*p*B≤high*B*p:=by have:=Nat.mul_le_mul_right (p*B) h;grind
  have h4:high*B*p≤(high*B+u2)*p:=Nat.mul_le_mul_right p (by omega);omega

theorem kn_q {B W Y g:Nat} (hY:0<Y) (hWY:W<Y*B) (hlo:W/Y≤g) (hhi:g*Y<W+Y):W/Y<B∧(g=W/Y∨g=W/Y+1):=by
 refine ⟨(Nat.div_lt_iff_lt_mul hY).2 (by rw [Nat.mul_comm];exact hWY),?_⟩
 have h1:g≤W/Y+1:=by
  rcases Nat.eq_zero_or_pos g with h0|h0
  ·rw [h0];exact Nat.zero_le _
  ·have h2:(g-1)*Y≤W:=by
    have:(g-1)*Y+Y=g*Y:=by rw [← Nat.succ_mul];congr 1;omega
    omega
   have:=(Nat.le_div_iff_mul_le hY).2 h2;omega
 omega
end Pl
namespace Pl
theorem mod_step (n k:Nat):n%256 ^ (k+1)=n%256 ^ k+256 ^ k*(n/256 ^ k%256):=by rw [Nat.pow_succ,Nat.mod_mul]
theorem pow_split (k:Nat):256 ^ k=4294967296 ^ (k/4)*256 ^ (k%4):=by
 rw [show (4294967296:Nat)=256 ^ 4 from rfl,← Nat.pow_mul,← Nat.pow_add,Nat.div_add_mod]
theorem dig_low (n k:Nat):n%256 ^ k/4294967296 ^ (k/4)<256 ^ (k%4):=by
 apply Nat.div_lt_of_lt_mul;rw [← pow_split];exact Nat.mod_lt _ (Nat.pow_pos (by omega))
theorem pow_r (k:Nat):256 ^ (k%4)≤16777216:=by
 have:256 ^ (k%4)≤256 ^ 3:=Nat.pow_le_pow_right (by omega) (by omega)
 simpa using this
theorem dig_step (n k:Nat):n%256 ^ (k+1)/4294967296 ^ (k/4)%4294967296=n%256 ^ k/4294967296 ^ (k/4)%4294967296+(n/256 ^ k%256)*256 ^ (k%4):=by
 rw [mod_step];have h1:=dig_low n k;have h2:=pow_r k;have h3:n/256 ^ k%256<256:=Nat.mod_lt _ (by omega);generalize n/256 ^ k%256=b at *
 conv=>lhs;rw [pow_split k]
 rw [← pow_split k];have e:n%256 ^ k+4294967296 ^ (k/4)*256 ^ (k%4)*b=n%256 ^ k+4294967296 ^ (k/4)*(256 ^ (k%4)*b):=by rw [Nat.mul_assoc]
 rw [show 256 ^ k*b=4294967296 ^ (k/4)*(256 ^ (k%4)*b) from by rw [← Nat.mul_assoc,← pow_split],Nat.add_mul_div_left _ _ (Nat.pow_pos (by omega))];generalize n%256 ^ k/4294967296 ^ (k/4)=d at *;have h4:256 ^ (k%4)*b≤256 ^ (k%4)*255:=Nat.mul_le_mul_left _ (by omega);rw [Nat.mul_comm b];generalize 256 ^ (k%4)*b=y at *;omega
theorem dg_step (K n k:Nat):(dg 4294967296 K (n%256 ^ k)).set (k/4) (n%256 ^ (k+1)/4294967296 ^ (k/4)%4294967296)=dg 4294967296 K (n%256 ^ (k+1)):=by
 apply List.ext_getElem
 ·simp [dg_length]
 ·intro i h1 h2
  rw [List.getElem_set,dg_get]
  by_cases hi:k/4=i
  ·subst hi;rw [if_pos rfl,dg_get]
  ·rw [if_neg hi,dg_get]
   rcases Nat.lt_or_ge i (k/4) with h|h
   ·rw [mod_step,show (256:Nat) ^ k=4294967296 ^ i*(4294967296*(4294967296 ^ (k/4-i-1)*256 ^ (k%4))) from by
     rw [← Nat.mul_assoc,← Nat.mul_assoc,← Nat.pow_succ,← Nat.pow_add,show i+1+(k/4-i-1)=k/4 from by omega,← pow_split]]
    rw [Nat.mul_assoc,Nat.add_mul_div_left _ _ (Nat.pow_pos (by omega)),Nat.mul_assoc,Nat.add_mul_mod_self_left]
   ·have h3:256 ^ (k+1)≤4294967296 ^ i:=by
     rw [show (4294967296:Nat)=256 ^ 4 from rfl,← Nat.pow_mul];exact Nat.pow_le_pow_right (by omega) (by omega)
    have h4:n%256 ^ (k+1)<256 ^ (k+1):=Nat.mod_lt _ (Nat.pow_pos (by omega));have h5:n%256 ^ k<256 ^ k:=Nat.mod_lt _ (Nat.pow_pos (by omega));have h6:256 ^ k≤256 ^ (k+1):=Nat.pow_le_pow_right (by omega) (by omega);rw [Nat.div_eq_of_lt (by omega),Nat.div_eq_of_lt (by omega)]
end Pl
namespace Pl
def tlen (l:List Nat):Nat:=(l.reverse.dropWhile (· == 0)).length
theorem tlen_zero (l:List Nat):tlen (l++[0])=tlen l:=by simp [tlen]
theorem tlen_last (l:List Nat) (d:Nat) (h:d≠0):tlen (l++[d])=l.length+1:=by simp [tlen,h]
theorem tlen_le (l:List Nat):tlen l≤l.length:=by
 unfold tlen;have:=(List.dropWhile_sublist (· == 0) (l:=l.reverse)).length_le
 simpa using this
theorem tlen_take_zero (l:List Nat) (k:Nat) (h0:0<k) (hk:k≤l.length) (hz:l[k-1]'(by omega)=0):tlen (l.take k)=tlen (l.take (k-1)):=by
 have e:k=(k-1)+1:=by omega
 conv=>lhs;rw [e,List.take_succ_eq_append_getElem (by omega)]
 rw [hz,tlen_zero]
theorem tlen_take_last (l:List Nat) (k:Nat) (h0:0<k) (hk:k≤l.length) (hz:l[k-1]'(by omega)≠0):tlen (l.take k)=k:=by
 have e:k=(k-1)+1:=by omega
 conv=>lhs;rw [e,List.take_succ_eq_append_getElem (by omega)]
 rw [tlen_last _ _ hz,List.length_take];omega
theorem vB_tlen (b:Nat) (l:List Nat):vB b (l.take (tlen l))=vB b l:=by
 generalize hn:l.length=n
 induction n generalizing l with
 | zero => have : l = [] := List.eq_nil_of_length_eq_zero hn
           subst this;rfl
 | succ n ih =>
  have hne:l≠[]:=by intro h;rw [h] at hn;cases hn
  obtain ⟨l',d,rfl⟩:∃ l' d,l=l'++[d]:=⟨l.dropLast,l.getLast hne,(List.dropLast_concat_getLast hne).symm⟩
  have hl':l'.length=n:=by simpa using hn
  by_cases hd:d=0
  ·subst hd
   rw [tlen_zero,List.take_append_of_le_length (tlen_le _),ih l' hl',vB_snoc];simp
  ·rw [tlen_last _ _ hd,List.take_of_length_le (by simp)]
theorem valL_dropZeros (l:List UInt8):valL (l.dropWhile (· == 0))=valL l:=by
 induction l with
 | nil=>rfl
 | cons b l ih =>
  by_cases hb:b=0
  ·subst hb;rw [List.dropWhile_cons_of_pos (by simp),ih,valL_cons];simp
  ·rw [List.dropWhile_cons_of_neg (by simpa using hb)]
theorem canon_dropZeros (l:List UInt8):canon (l.dropWhile (· == 0)):=by
 induction l with
 | nil=>exact .inl rfl
 | cons b l ih =>
  by_cases hb:b=0
  ·subst hb;rw [List.dropWhile_cons_of_pos (by simp)];exact ih
  ·rw [List.dropWhile_cons_of_neg (by simpa using hb)];exact .inr (by simpa using hb)
theorem magL_dropZeros (l:List UInt8):l.dropWhile (· == 0)=magL (valL l):=by
 rw [← valL_dropZeros,magL_valL (canon_dropZeros l)]
def bytesOf (m v:Nat):List Nat:=(List.range m).map fun j=>v/256 ^ (m-1-j)%256
theorem bytesOf_length (m v:Nat):(bytesOf m v).length=m:=by simp [bytesOf]
theorem valL_bytesOf (m v:Nat) (hv:v<256 ^ m):valL ((bytesOf m v).map UInt8.ofNat)=v:=by
 apply valL_eq_of_get
 ·simpa [bytesOf] using hv
 ·intro i hi
  simp [bytesOf]
def bytesUp (M v t:Nat):List Nat:=(List.range M).map fun j=>if M-t≤j then v/256 ^ (M-1-j)%256 else 0
theorem bytesUp_length (M v t:Nat):(bytesUp M v t).length=M:=by simp [bytesUp]
theorem bytesUp_zero (M v:Nat):bytesUp M v 0=List.replicate M 0:=by
 apply List.ext_getElem
 ·simp [bytesUp]
 ·intro j h1 h2
  simp only [bytesUp,List.getElem_map,List.getElem_range,List.getElem_replicate];rw [if_neg (by simp [bytesUp] at h1;omega)]
theorem bytesUp_succ (M v t:Nat) (ht:t<M):(bytesUp M v t).set (M-1-t) (v/256 ^ t%256)=bytesUp M v (t+1):=by
 apply List.ext_getElem
 ·simp [bytesUp]
 ·intro j h1 h2
  rw [List.getElem_set];simp only [bytesUp,List.getElem_map,List.getElem_range];have hj:j<M:=by simpa [bytesUp] using h2
  by_cases h:M-1-t=j
  ·rw [if_pos h,if_pos (by omega),show M-1-j=t from by omega]
  ·rw [if_neg h]
   by_cases h3:M-t≤j
   ·rw [if_pos h3,if_pos (by omega)]
   ·rw [if_neg h3,if_neg (by omega)]
theorem bytesUp_full (M v:Nat):bytesUp M v M=bytesOf M v:=by
 unfold bytesUp bytesOf;apply List.map_congr_left;intro j _;rw [if_pos (by omega)]
theorem digit_byte (v i k:Nat) (hk:k<4):v/4294967296 ^ i%4294967296/256 ^ k%256=v/256 ^ (4*i+k)%256:=by
 have e:v/256 ^ (4*i+k)=v/4294967296 ^ i/256 ^ k:=by rw [Nat.div_div_eq_div_mul,show (4294967296:Nat)=256 ^ 4 from rfl,← Nat.pow_mul,← Nat.pow_add]
 rw [e];generalize v/4294967296 ^ i=d;rcases (show k=0∨k=1∨k=2∨k=3 from by omega) with rfl|rfl|rfl|rfl<;>simp<;>omega
def carry (b x y i:Nat):Nat:=(x%b ^ i+y%b ^ i)/b ^ i
theorem carry_zero (b x y:Nat):carry b x y 0=0:=by simp [carry,Nat.mod_one]
theorem carry_sum (b x y i:Nat) (hb:0<b):carry b x y i+x/b ^ i%b+y/b ^ i%b=(x%b ^ (i+1)+y%b ^ (i+1))/b ^ i:=by
 rw [Nat.pow_succ,Nat.mod_mul,Nat.mod_mul,carry]
 rw [show x%b ^ i+b ^ i*(x/b ^ i%b)+(y%b ^ i+b ^ i*(y/b ^ i%b))=x%b ^ i+y%b ^ i+b ^ i*(x/b ^ i%b+y/b ^ i%b) from by rw [Nat.mul_add];omega,
  Nat.add_mul_div_left _ _ (Nat.pow_pos hb)]
 omega
theorem carry_succ (b x y i:Nat) (hb:0<b):(carry b x y i+x/b ^ i%b+y/b ^ i%b)/b=carry b x y (i+1):=by
 rw [carry_sum b x y i hb,Nat.div_div_eq_div_mul,← Nat.pow_succ,carry]
theorem carry_digit (b x y i:Nat) (hb:0<b):(carry b x y i+x/b ^ i%b+y/b ^ i%b)%b=(x+y)/b ^ i%b:=by
 rw [carry_sum b x y i hb];have e:∀ z,z%b ^ (i+1)/b ^ i%b=z/b ^ i%b:=by intro z;rw [Nat.pow_succ,Nat.mod_mul,Nat.add_mul_div_left _ _ (Nat.pow_pos hb),Nat.div_eq_of_lt (Nat.mod_lt _ (Nat.pow_pos hb)),Nat.zero_add,Nat.mod_mod]
 rw [← e (x%b ^ (i+1)+y%b ^ (i+1)),← e (x+y),← Nat.add_mod]
theorem carry_le (b x y i:Nat) (hb:0<b):carry b x y i≤1:=by
 unfold carry;have hp:0<b ^ i:=Nat.pow_pos hb;have h1:=Nat.mod_lt x hp;have h2:=Nat.mod_lt y hp;exact Nat.lt_succ_iff.1 ((Nat.div_lt_iff_lt_mul hp).2 (by omega))
def mixD (b n s x i:Nat):List Nat:=dg b i s++(dg b n x).drop i
theorem mixD_zero (b n s x:Nat):mixD b n s x 0=dg b n x:=by simp [mixD,dg_zero]
theorem mixD_full (b n s x:Nat):mixD b n s x n=dg b n s:=by simp [mixD,dg_length]
theorem mixD_get (b n s x i:Nat) (h:i<n):(mixD b n s x i)[i]?=some (x/b ^ i%b):=by
 rw [mixD,List.getElem?_append_right (by rw [dg_length];exact Nat.le_refl _),dg_length,Nat.sub_self,List.getElem?_drop,Nat.add_zero,List.getElem?_eq_getElem (by rw [dg_length];exact h),dg_get]
theorem mixD_set (b n s x i:Nat) (h:i<n):(mixD b n s x i).set i (s/b ^ i%b)=mixD b n s x (i+1):=by
 unfold mixD;rw [List.set_append_right _ _ (by rw [dg_length];exact Nat.le_refl _),dg_length,Nat.sub_self,dg_succ,List.append_assoc,List.drop_eq_getElem_cons (by rw [dg_length];exact h)];rfl
def W (n:Nat):Nat:=(L n+3)/4
theorem lt_W (n:Nat):n<4294967296 ^ W n:=by
 rw [show (4294967296:Nat)=256 ^ 4 from rfl,← Nat.pow_mul];exact Nat.lt_of_lt_of_le (lt_L n) (Nat.pow_le_pow_right (by omega) (by unfold W;omega))
theorem dig_beyond (b n i k:Nat) (hb:0<b) (h:n<b ^ k) (hk:k≤i):n/b ^ i%b=0:=by
 rw [Nat.div_eq_of_lt (Nat.lt_of_lt_of_le h (Nat.pow_le_pow_right hb hk)),Nat.zero_mod]
theorem dg_pad (b n k m:Nat) (hb:0<b) (h:n<b ^ k):dg b k n++(dg b (k+m) 0).drop k=dg b (k+m) n:=by
 apply List.ext_getElem
 ·simp [dg_length]
 ·intro i h1 h2
  rw [dg_get];rcases Nat.lt_or_ge i k with hi|hi
  ·rw [List.getElem_append_left (by rw [dg_length];exact hi),dg_get]
  ·rw [List.getElem_append_right (by rw [dg_length];exact hi),List.getElem_drop,dg_get,dig_beyond b n i k hb h hi];simp
theorem W_mono {a b:Nat} (h:a≤b):W a≤W b:=by unfold W;have:=L_mono h;omega
theorem sum_lt (x y:Nat) (h:W y≤W x):x+y<4294967296 ^ (W x+1):=by
 have h1:=lt_W x;have h2:=Nat.lt_of_lt_of_le (lt_W y) (Nat.pow_le_pow_right (n:=4294967296) (by omega) h);rw [Nat.pow_succ];omega
theorem borrow_step (b x y i:Nat) (hb:0<b) (h:y≤x):∀ d:Int,d=(x/b ^ i%b:Nat)-(carry b (x-y) y i:Nat)-(y/b ^ i%b:Nat) →
 (d<0→d+b=((x-y)/b ^ i%b:Nat)∧carry b (x-y) y (i+1)=1)∧(0≤d→d=((x-y)/b ^ i%b:Nat)∧carry b (x-y) y (i+1)=0):=by
 have h1:=carry_digit b (x-y) y i hb;have h2:=carry_succ b (x-y) y i hb;have h3:=carry_le b (x-y) y i hb;have h4:(x-y)/b ^ i%b<b:=Nat.mod_lt _ hb;have h5:y/b ^ i%b<b:=Nat.mod_lt _ hb;have h6:x/b ^ i%b<b:=Nat.mod_lt _ hb;rw [Nat.sub_add_cancel h] at h1;generalize carry b (x-y) y i=c at *;generalize carry b (x-y) y (i+1)=c' at *;generalize (x-y)/b ^ i%b=z at *;generalize y/b ^ i%b=v at *;generalize x/b ^ i%b=u at *;have h7:b*c'+u=c+z+v:=by rw [← h1,← h2];exact Nat.div_add_mod _ _
 have h8:c'=0∨c'=1:=by
  have:c'<2:=by rw [← h2];exact (Nat.div_lt_iff_lt_mul hb).2 (by omega)
  omega
 intro d hd;rcases h8 with rfl|rfl
 ·simp only [Nat.mul_zero] at h7;omega
 ·simp only [Nat.mul_one] at h7;omega
def mcarry (b p d y k:Nat):Nat:=(p%b ^ k+d*(y%b ^ k))/b ^ k
theorem mcarry_zero (b p d y:Nat):mcarry b p d y 0=0:=by simp [mcarry,Nat.mod_one]
theorem mcarry_sum (b p d y k:Nat) (hb:0<b):mcarry b p d y k+p/b ^ k%b+d*(y/b ^ k%b)=(p%b ^ (k+1)+d*(y%b ^ (k+1)))/b ^ k:=by
 rw [Nat.pow_succ,Nat.mod_mul,Nat.mod_mul,mcarry,Nat.mul_add]
 rw [show p%b ^ k+b ^ k*(p/b ^ k%b)+(d*(y%b ^ k)+d*(b ^ k*(y/b ^ k%b)))=p%b ^ k+d*(y%b ^ k)+b ^ k*(p/b ^ k%b+d*(y/b ^ k%b)) from by
  rw [Nat.mul_add,← Nat.mul_assoc d,Nat.mul_comm d (b ^ k),Nat.mul_assoc];omega,
  Nat.add_mul_div_left _ _ (Nat.pow_pos hb)]
 omega
theorem mcarry_succ (b p d y k:Nat) (hb:0<b):(mcarry b p d y k+p/b ^ k%b+d*(y/b ^ k%b))/b=mcarry b p d y (k+1):=by
 rw [mcarry_sum b p d y k hb,Nat.div_div_eq_div_mul,← Nat.pow_succ,mcarry]
theorem mod_div_mod (b z k:Nat) (hb:0<b):z%b ^ (k+1)/b ^ k%b=z/b ^ k%b:=by
 rw [Nat.pow_succ,Nat.mod_mul,Nat.add_mul_div_left _ _ (Nat.pow_pos hb),Nat.div_eq_of_lt (Nat.mod_lt _ (Nat.pow_pos hb)),Nat.zero_add,Nat.mod_mod]
theorem mcarry_digit (b p d y k:Nat) (hb:0<b):(mcarry b p d y k+p/b ^ k%b+d*(y/b ^ k%b))%b=(p+d*y)/b ^ k%b:=by
 rw [mcarry_sum b p d y k hb,← mod_div_mod b _ k hb,← mod_div_mod b (p+d*y) k hb];congr 2;rw [Nat.add_mod,Nat.mod_mod,Nat.mul_mod,Nat.mod_mod,← Nat.mul_mod,← Nat.add_mod]
theorem mcarry_le (b p d y k:Nat) (hb:0<b):mcarry b p d y k≤d:=by
 unfold mcarry;have hp:0<b ^ k:=Nat.pow_pos hb;have h1:=Nat.mod_lt p hp;have h2:=Nat.mod_lt y hp;have h3:d*(y%b ^ k)≤d*(b ^ k-1):=Nat.mul_le_mul_left _ (by omega);rw [Nat.mul_sub] at h3;have h4:d≤d*b ^ k:=Nat.le_mul_of_pos_right _ hp;refine Nat.lt_succ_iff.1 ((Nat.div_lt_iff_lt_mul hp).2 ?_);rw [Nat.succ_mul];omega
theorem mul_lt_pow {x y i j b:Nat} (hx:x<b ^ i) (hy:y<b ^ j):x*y<b ^ (i+j):=by
 rw [Nat.pow_add];exact Nat.mul_lt_mul'' hx hy
theorem low_digit (b p q i j:Nat) (hb:0<b) (h:j<i):(p+b ^ i*q)/b ^ j%b=p/b ^ j%b:=by
 rw [show b ^ i=b ^ j*(b*b ^ (i-j-1)) from by rw [← Nat.pow_succ',← Nat.pow_add];congr 1;omega,Nat.mul_assoc,Nat.add_mul_div_left _ _ (Nat.pow_pos hb),Nat.mul_assoc,Nat.add_mul_mod_self_left]
theorem dg_low_eq (b i p q:Nat) (hb:0<b):dg b i (p+b ^ i*q)=dg b i p:=by
 apply List.ext_getElem
 ·simp [dg_length]
 ·intro j h1 h2
  rw [dg_get,dg_get,low_digit b p q i j hb (by simpa [dg_length] using h2)]
theorem mixD_start (b n i p q:Nat) (hb:0<b) (h:i≤n):mixD b n (p+b ^ i*q) p i=dg b n p:=by
 unfold mixD;rw [dg_low_eq b i p q hb,← dg_take b n p i h,List.take_append_drop]
theorem mixD_end (b n i t p:Nat) (hb:0<b) (h:i≤n) (ht:t<b ^ i) (hp:p<b ^ i):mixD b n t p i=dg b n t:=by
 unfold mixD;apply List.ext_getElem
 ·simp [dg_length];omega
 ·intro j h1 h2
  rw [dg_get];rcases Nat.lt_or_ge j i with hj|hj
  ·rw [List.getElem_append_left (by rw [dg_length];exact hj),dg_get]
  ·rw [List.getElem_append_right (by rw [dg_length];exact hj),List.getElem_drop,dg_get,dig_beyond b t j i hb ht hj,dg_length,show i+(j-i)=j from by omega,dig_beyond b p j i hb hp hj]
theorem mul_round (b x y i:Nat):(x%b ^ i)*y+b ^ i*((x/b ^ i%b)*y)=(x%b ^ (i+1))*y:=by
 rw [Nat.pow_succ,Nat.mod_mul,Nat.add_mul,Nat.mul_assoc]
theorem shift_digit (b p q i k:Nat) (hb:0<b):(p+b ^ i*q)/b ^ (i+k)%b=(p/b ^ i+q)/b ^ k%b:=by
 rw [Nat.pow_add,← Nat.div_div_eq_div_mul,Nat.add_mul_div_left _ _ (Nat.pow_pos hb)]
theorem mcarry_last (b p d y m:Nat) (hp:p<b ^ m) (hy:y<b ^ m) (hb:0<b) (hd:d<b):mcarry b p d y m=(p+d*y)/b ^ m%b:=by
 have h:=mcarry_le b p d y m hb;unfold mcarry at *;rw [Nat.mod_eq_of_lt hp,Nat.mod_eq_of_lt hy] at *;rw [Nat.mod_eq_of_lt (by omega)]
theorem mixD_getLow (b n s x k:Nat) (h:0<k):(mixD b n s x k)[k-1]?=some (s/b ^ (k-1)%b):=by
 rw [mixD,List.getElem?_append_left (by rw [dg_length];omega),List.getElem?_eq_getElem (by rw [dg_length];omega),dg_get]
theorem mixD_back (b n s x k:Nat) (h:0<k) (hk:k≤n):(mixD b n s x k).set (k-1) (x/b ^ (k-1)%b)=mixD b n s x (k-1):=by
 obtain ⟨j,rfl⟩:∃ j,k=j+1:=⟨k-1,by omega⟩
 simp only [Nat.add_sub_cancel];unfold mixD;rw [List.set_append_left _ _ (by rw [dg_length];omega),dg_succ,List.set_append_right _ _ (by rw [dg_length];exact Nat.le_refl _),dg_length,Nat.sub_self,List.drop_eq_getElem_cons (i:=j) (by rw [dg_length];omega),dg_get];simp
theorem short_step (b V y k:Nat) (hb:0<b) (hy:0<y) (hk:0<k) :
 (V/b ^ k%y*b+V/b ^ (k-1)%b)/y=V/y/b ^ (k-1)%b∧(V/b ^ k%y*b+V/b ^ (k-1)%b)%y=V/b ^ (k-1)%y:=by
 have e1:V/b ^ k=V/b ^ (k-1)/b:=by rw [Nat.div_div_eq_div_mul,← Nat.pow_succ];congr 2;omega
 have e2:V/y/b ^ (k-1)=V/b ^ (k-1)/y:=by rw [Nat.div_div_eq_div_mul,Nat.div_div_eq_div_mul,Nat.mul_comm]
 rw [e1,e2];generalize V/b ^ (k-1)=u;have h1:u=(u/b)*b+u%b:=by rw [Nat.mul_comm];exact (Nat.div_add_mod u b).symm
 have h2:u/b=y*(u/b/y)+u/b%y:=(Nat.div_add_mod _ _).symm;have h3:u/b%y<y:=Nat.mod_lt _ hy;have h4:u%b<b:=Nat.mod_lt _ hb
 have h5:u=y*(u/b/y*b)+(u/b%y*b+u%b):=by
  conv=>lhs;rw [h1,h2]
  rw [Nat.add_mul,Nat.mul_assoc,Nat.add_assoc]
 generalize u/b%y=r at *;generalize u/b/y=q at *;generalize u%b=d at *;have h6:r*b+d<y*b:=by have:(r+1)*b≤y*b:=Nat.mul_le_mul_right b h3;rw [Nat.add_mul] at this;omega
 constructor
 ·rw [h5,Nat.mul_add_div hy,Nat.add_comm (q*b),Nat.add_mul_mod_self_right,Nat.mod_eq_of_lt ((Nat.div_lt_iff_lt_mul hy).2 (by rw [Nat.mul_comm b];exact h6))]
 ·rw [h5,Nat.mul_add_mod]
theorem sh_low (V s i:Nat) (hs:s<32):V%4294967296 ^ i*2 ^ s/4294967296 ^ i<2 ^ s∧2 ^ s≤2147483648:=by
 have hp:0<4294967296 ^ i:=Nat.pow_pos (by omega);refine ⟨(Nat.div_lt_iff_lt_mul hp).2 ?_,?_⟩
 ·rw [Nat.mul_comm];exact Nat.mul_lt_mul_of_pos_left (Nat.mod_lt _ hp) (Nat.two_pow_pos s)
 ·have:2 ^ s≤2 ^ 31:=Nat.pow_le_pow_right (by omega) (by omega)
  simpa using this
theorem sh_word (d s:Nat) (hs:s<32):d*2 ^ s%4294967296%2 ^ s=0∧d*2 ^ s%4294967296+2 ^ s≤4294967296:=by
 have e:(4294967296:Nat)=2 ^ s*2 ^ (32-s):=by rw [← Nat.pow_add,show s+(32-s)=32 from by omega]
 have h:d*2 ^ s%4294967296=2 ^ s*(d%2 ^ (32-s)):=by rw [e,Nat.mul_comm d,Nat.mul_mod_mul_left]
 rw [h];refine ⟨Nat.mul_mod_right _ _,?_⟩;have h1:d%2 ^ (32-s)<2 ^ (32-s):=Nat.mod_lt _ (Nat.two_pow_pos _)
 calc 2 ^ s*(d%2 ^ (32-s))+2 ^ s=2 ^ s*(d%2 ^ (32-s)+1):=by rw [Nat.mul_add,Nat.mul_one]
  _≤2 ^ s*2 ^ (32-s):=Nat.mul_le_mul_left _ h1
  _=4294967296:=e.symm
theorem sh_round (V s i:Nat):V%4294967296 ^ (i+1)*2 ^ s=V%4294967296 ^ i*2 ^ s+4294967296 ^ i*(V/4294967296 ^ i%4294967296*2 ^ s):=by
 rw [Nat.pow_succ,Nat.mod_mul,Nat.add_mul,Nat.mul_assoc]
theorem sh_set (n L d s i T:Nat) (hT:T<4294967296 ^ (i+1)) (hL:T/4294967296 ^ i=L) (hs:s<32) (hLs:L<2 ^ s) (hd:d<4294967296) :
 ((dg 4294967296 (n+1) T).set i (L+d*2 ^ s%4294967296)).set (i+1) (d*2 ^ s/4294967296)=dg 4294967296 (n+1) (T+4294967296 ^ i*(d*2 ^ s)):=by
 obtain ⟨hw1,hw2⟩:=sh_word d s hs
 have hd2:d*2 ^ s<4294967296*2147483648+1:=by
  have h1:2 ^ s≤2147483648:=by
   have:2 ^ s≤2 ^ 31:=Nat.pow_le_pow_right (by omega) (by omega)
   simpa using this
  exact Nat.lt_succ_of_le (Nat.mul_le_mul (by omega) h1)
 have hT':T+4294967296 ^ i*(d*2 ^ s)<4294967296 ^ (i+2):=by
  have h2:T+4294967296 ^ i*(d*2 ^ s)<4294967296 ^ i*4294967296+4294967296 ^ i*(4294967296*2147483648):=by rw [Nat.pow_succ] at hT;exact Nat.add_lt_add_of_lt_of_le hT (Nat.mul_le_mul_left _ (by omega))
  rw [← Nat.mul_add] at h2;refine Nat.lt_of_lt_of_le h2 ?_;rw [Nat.pow_add];exact Nat.mul_le_mul_left _ (by decide)
 apply List.ext_getElem
 ·simp [dg_length]
 ·intro j h1 h2
  rw [List.getElem_set,List.getElem_set,dg_get,dg_get]
  by_cases e1:i+1=j
  ·subst e1
   rw [if_pos rfl,shift_digit 4294967296 T _ i 1 (by omega),hL];generalize d*2 ^ s=q at *;omega
  ·rw [if_neg e1]
   by_cases e2:i=j
   ·subst e2
    have h3:=shift_digit 4294967296 T (d*2 ^ s) i 0 (by omega);rw [Nat.add_zero,Nat.pow_zero,Nat.div_one,hL] at h3;rw [if_pos rfl,h3];generalize d*2 ^ s=q at *;omega
   ·rw [if_neg e2]
    rcases Nat.lt_or_ge j i with h|h
    ·rw [low_digit _ _ _ _ _ (by omega) h]
    ·rw [dig_beyond _ T j (i+1) (by omega) hT (by omega),dig_beyond _ _ j (i+2) (by omega) hT' (by omega)]
end Pl
end Go.Proofs.YtdkkjfnpinckjaaGreatDoor

namespace Go.Proofs.YtdkkjfnpinckjaaGreatDoor
namespace Pl

def Sz (k:Nat) (q:Rat):Prop:=L q.num.natAbs≤k∧L q.den≤k
theorem Sz.mono {i j:Nat} {q:Rat} (h:Sz i q) (hij:i≤j):Sz j q:=⟨Nat.le_trans h.1 hij,Nat.le_trans h.2 hij⟩
theorem Sz.pos {k:Nat} {q:Rat} (h:Sz k q):1≤k:=Nat.le_trans (L_pos q.den_nz) h.2
theorem Sz.neg {k:Nat} {q:Rat} (h:Sz k q):Sz k (-q):=by
 unfold Sz at *;rw [Rat.neg_num,Rat.neg_den,Int.natAbs_neg];exact h
theorem sz_zero:Sz 1 (0:Rat):=⟨by decide,by decide⟩
theorem mkRat_num_le (n:Int) (d:Nat) (_h:d≠0):(mkRat n d).num.natAbs≤n.natAbs:=by
 rw [Rat.num_mkRat]
 split
 ·simp
 ·rw [Int.natAbs_ediv_of_dvd (Int.ofNat_dvd_left.2 (Nat.gcd_dvd_right _ _)),Int.natAbs_natCast];exact Nat.div_le_self _ _
theorem mkRat_den_le (n:Int) (d:Nat) (h:d≠0):(mkRat n d).den≤d:=by
 rw [Rat.den_mkRat,if_neg h];exact Nat.div_le_self _ _
theorem sz_mkRat {n:Int} {d k:Nat} (h:d≠0) (hn:L n.natAbs≤k) (hd:L d≤k):Sz k (mkRat n d) :=
 ⟨Nat.le_trans (L_mono (mkRat_num_le n d h)) hn,Nat.le_trans (L_mono (mkRat_den_le n d h)) hd⟩
theorem L_natAbs_mul (a b:Int):L (a*b).natAbs≤L a.natAbs+L b.natAbs:=by rw [Int.natAbs_mul];exact L_mul _ _
theorem L_natAbs_add (a b:Int):L (a+b).natAbs≤max (L a.natAbs) (L b.natAbs)+1 :=
 Nat.le_trans (L_mono (Int.natAbs_add_le a b)) (L_add _ _)
theorem Sz.add {i j:Nat} {a b:Rat} (ha:Sz i a) (hb:Sz j b):Sz (i+j+1) (a+b):=by
 have h1:=ha.1;have h2:=ha.2;have h3:=hb.1;have h4:=hb.2;rw [Rat.add_def'];refine sz_mkRat (Nat.mul_ne_zero a.den_nz b.den_nz) ?_ ?_
 ·have e1:=L_natAbs_mul a.num b.den
  have e2:=L_natAbs_mul b.num a.den;rw [Int.natAbs_natCast] at e1 e2;have:=L_natAbs_add (a.num*b.den) (b.num*a.den);omega
 ·have:=L_mul a.den b.den;omega
theorem Sz.sub {i j:Nat} {a b:Rat} (ha:Sz i a) (hb:Sz j b):Sz (i+j+1) (a-b):=by
 rw [Rat.sub_eq_add_neg];exact ha.add hb.neg
theorem Sz.mul {i j:Nat} {a b:Rat} (ha:Sz i a) (hb:Sz j b):Sz (i+j) (a*b):=by
 have h1:=ha.1;have h2:=ha.2;have h3:=hb.1;have h4:=hb.2;rw [Rat.mul_def'];refine sz_mkRat (Nat.mul_ne_zero a.den_nz b.den_nz) ?_ ?_
 ·have:=L_natAbs_mul a.num b.num;omega
 ·have:=L_mul a.den b.den;omega
theorem Sz.inv {k:Nat} {q:Rat} (h:Sz k q):Sz k q⁻¹:=by
 unfold Sz;rw [Rat.num_inv,Rat.den_inv];refine ⟨?_,?_⟩
 ·rw [Int.natAbs_mul,Int.natAbs_natCast]
  refine Nat.le_trans (L_mono ?_) h.2;rcases Int.lt_trichotomy q.num 0 with h|h|h
  ·rw [Int.sign_eq_neg_one_of_neg h];simp
  ·rw [h];simp
  ·rw [Int.sign_eq_one_of_pos h];simp
 ·split
  ·exact h.pos
  ·exact h.1
theorem Sz.div {i j:Nat} {a b:Rat} (ha:Sz i a) (hb:Sz j b):Sz (i+j) (a/b):=by
 rw [Rat.div_def];exact ha.mul hb.inv

def sgn (q:Rat):Int:=q.num.sign
def cmpQ (a b:Rat):Int:=sgn (a-b)
theorem num_pos_iff (q:Rat):0<q.num↔0<q:=by
 have h:=@Rat.num_nonneg q;have h2:=@Rat.num_eq_zero q;rw [Rat.lt_iff_le_and_ne,← h];constructor
 ·intro h3;exact ⟨by omega,fun e=>by rw [← e] at h3;simp at h3⟩
 ·rintro ⟨h3,h4⟩
  have:q.num≠0:=fun e=>h4 (h2.1 e).symm
  omega
theorem num_neg_iff (q:Rat):q.num<0↔q<0:=by
 rw [← Rat.not_le,← Rat.num_nonneg];omega
theorem sgn_cases (q:Rat):(q<0∧sgn q=-1)∨(q=0∧sgn q=0)∨(0<q∧sgn q=1):=by
 unfold sgn;rcases Int.lt_trichotomy q.num 0 with h|h|h
 ·exact .inl ⟨(num_neg_iff q).1 h,Int.sign_eq_neg_one_of_neg h⟩
 ·exact .inr (.inl ⟨Rat.num_eq_zero.1 h,by rw [h];rfl⟩)
 ·exact .inr (.inr ⟨(num_pos_iff q).1 h,Int.sign_eq_one_of_pos h⟩)
theorem sgn_neg_iff (q:Rat):sgn q=-1↔q<0:=by rcases sgn_cases q with h|h|h<;>grind
theorem sgn_zero_iff (q:Rat):sgn q=0↔q=0:=by rcases sgn_cases q with h|h|h<;>grind
theorem sgn_pos_iff (q:Rat):sgn q=1↔0<q:=by rcases sgn_cases q with h|h|h<;>grind
theorem sgn_nonneg_iff (q:Rat):0≤sgn q↔0≤q:=by rcases sgn_cases q with h|h|h<;>grind
theorem sgn_nonpos_iff (q:Rat):sgn q≤0↔q≤0:=by rcases sgn_cases q with h|h|h<;>grind
theorem sgn_lt_iff (q:Rat):sgn q<0↔q<0:=by rcases sgn_cases q with h|h|h<;>grind
theorem sgn_bd (q:Rat) : -1≤sgn q∧sgn q≤1:=by rcases sgn_cases q with h|h|h<;>omega
theorem cmp_zero_iff (a b:Rat):cmpQ a b=0↔a=b:=by
 unfold cmpQ;rw [sgn_zero_iff];constructor<;>intro h<;>grind
theorem cmp_lt_iff (a b:Rat):cmpQ a b<0↔a<b:=by
 unfold cmpQ;rw [sgn_lt_iff];constructor<;>intro h<;>grind
theorem cmp_le_iff (a b:Rat):cmpQ a b≤0↔a≤b:=by
 unfold cmpQ;rw [sgn_nonpos_iff];constructor<;>intro h<;>grind
theorem cmp_ge_iff (a b:Rat):0≤cmpQ a b↔b≤a:=by
 unfold cmpQ;rw [sgn_nonneg_iff];constructor<;>intro h<;>grind
theorem cmp_self (a:Rat):cmpQ a a=0:=(cmp_zero_iff a a).2 rfl
theorem cmp_bd (a b:Rat) : -1≤cmpQ a b∧cmpQ a b≤1:=sgn_bd _
def cmpI (a b:Int):Int:=if a<b then -1 else if b<a then 1 else 0
theorem cmp_nums (a b:Rat):cmpI (a.num*b.den) (b.num*a.den)=cmpQ a b:=by
 have h1:=Rat.lt_iff a b;have h2:=Rat.lt_iff b a;unfold cmpI;rcases sgn_cases (a-b) with ⟨h,e⟩|⟨h,e⟩|⟨h,e⟩<;>rw [cmpQ,e]
 ·rw [if_pos (h1.1 (by grind))]
 ·have e2:a=b:=by grind
  subst e2;simp
 ·have:=h2.1 (by grind)
  rw [if_neg (by omega),if_pos this]
theorem cmp_same (a b:Rat) (h:a.den=b.den):cmpI a.num b.num=cmpQ a b:=by
 rw [← cmp_nums,h];have hp:(0:Int)<b.den:=Int.natCast_pos.2 b.den_pos;unfold cmpI;simp only [Int.mul_lt_mul_right hp]
theorem add_same (a b:Rat) (h:a.den=b.den):mkRat (a.num+b.num) a.den=a+b:=by
 rw [Rat.add_def',h,← Int.add_mul,Rat.mkRat_mul_right b.den_nz]
theorem add_nums (a b:Rat):mkRat (a.num*b.den+b.num*a.den) (a.den*b.den)=a+b:=(Rat.add_def' a b).symm
theorem mul_nums (a b:Rat):mkRat (a.num*b.num) (a.den*b.den)=a*b:=(Rat.mul_def' a b).symm
theorem div_nums (a b:Rat):Rat.divInt (a.num*b.den) (a.den*b.num)=a/b:=by
 rw [Rat.div_def,Rat.inv_def,← Rat.divInt_mul_divInt,Rat.num_divInt_den]

end Pl
end Go.Proofs.YtdkkjfnpinckjaaGreatDoor

namespace Go.Proofs.YtdkkjfnpinckjaaGreatDoor
namespace Pl

abbrev Pt:=Rat×Rat
def addP (p q:Pt):Pt:=(p.1+q.1,p.2+q.2)
def subP (p q:Pt):Pt:=(p.1-q.1,p.2-q.2)
def scaleP (p:Pt) (r:Rat):Pt:=(p.1*r,p.2*r)
def crossP (p q:Pt):Rat:=p.1*q.2-p.2*q.1
def dotP (p q:Pt):Rat:=p.1*q.1+p.2*q.2
def det (a b c:Pt):Rat:=crossP (subP b a) (subP c a)
def turn (a b c:Pt):Int:=sgn (det a b c)
def cmpP (p q:Pt):Int:=if cmpQ p.1 q.1=0 then cmpQ p.2 q.2 else cmpQ p.1 q.1
def lessP (p q:Pt):Bool:=decide (cmpP p q<0)
def btwB (p a b:Pt):Bool:=decide (turn a b p=0)&&decide (sgn (dotP (subP a p) (subP b p))≤0)

theorem btw_iff (p a b:Pt):btwB p a b=true↔det a b p=0∧dotP (subP a p) (subP b p)≤0:=by
 unfold btwB turn;simp [sgn_zero_iff,sgn_nonpos_iff]
theorem less_iff (p q:Pt):lessP p q=true↔p.1<q.1∨p.1=q.1∧p.2<q.2:=by
 unfold lessP cmpP;rw [decide_eq_true_iff]
 by_cases h:cmpQ p.1 q.1=0
 ·rw [if_pos h,cmp_lt_iff];rw [cmp_zero_iff] at h;rw [h];constructor
  ·intro h2;exact .inr ⟨rfl,h2⟩
  ·rintro (h2|⟨_,h2⟩)
   ·exact absurd h2 Rat.lt_irrefl
   ·exact h2
 ·rw [if_neg h,cmp_lt_iff];rw [cmp_zero_iff] at h;constructor
  ·intro h2;exact .inl h2
  ·rintro (h2|⟨h2,_⟩)
   ·exact h2
   ·exact absurd h2 h
theorem cmpP_zero (p q:Pt):cmpP p q=0↔p=q:=by
 unfold cmpP
 by_cases h:cmpQ p.1 q.1=0
 ·rw [if_pos h,cmp_zero_iff];rw [cmp_zero_iff] at h
  constructor
  ·intro h2;exact Prod.ext h h2
  ·intro h2;rw [h2]
 ·rw [if_neg h];constructor
  ·intro h2;exact absurd h2 h
  ·intro h2;rw [h2,cmp_self]
theorem less_irrefl (p:Pt):lessP p p=false:=by
 unfold lessP;rw [(cmpP_zero p p).2 rfl];rfl
theorem less_trans {p q r:Pt} (h1:lessP p q=true) (h2:lessP q r=true):lessP p r=true:=by
 rw [less_iff] at *;grind
theorem less_total (p q:Pt):lessP p q=true∨p=q∨lessP q p=true:=by
 simp only [less_iff];have:p=q↔p.1=q.1∧p.2=q.2:=Prod.ext_iff;grind
theorem less_asymm {p q:Pt} (h1:lessP p q=true):lessP q p=false:=by
 rcases h:lessP q p
 ·rfl
 ·have:=less_trans h1 h;rw [less_irrefl] at this;exact this.symm▸rfl

def In (d v:Pt):Prop:=0<crossP d v∨crossP d v=0∧dotP d v<0

theorem mul_pos_of {a b:Rat} (h:0<a) (h2:0<a*b):0<b:=(Rat.mul_pos_iff_of_pos_left h).1 h2
theorem mul_nonneg_of {a b:Rat} (h:0<a) (h2:0≤a*b):0≤b:=by
 have:=@Rat.mul_neg_iff_of_pos_left a b h;rw [← Rat.not_lt];intro h3;have:=this.2 h3;grind
theorem mul_zero_of {a b:Rat} (h:0<a) (h2:a*b=0):b=0:=by
 rcases Rat.mul_eq_zero.1 h2 with h3|h3
 ·grind
 ·exact h3
theorem sq_pos {a:Rat} (h:a≠0):0<a*a:=by
 by_cases h1:0<a
 ·exact Rat.mul_pos h1 h1
 ·have:=Rat.mul_pos (a := -a) (b := -a) (by grind) (by grind);grind
theorem sq_nonneg (a:Rat):0≤a*a:=by
 by_cases h:a=0
 ·subst h;grind
 ·exact Rat.le_of_lt (sq_pos h)

theorem std_trans {x1 y1 x2 y2 x3 y3:Rat} (h1:0<x1∨x1=0∧0<y1) (h2:0<x2∨x2=0∧0<y2) (h3:0<x3∨x3=0∧0<y3)
 (h12:0≤x1*y2-y1*x2) (h23:0≤x2*y3-y2*x3) :
 0≤x1*y3-y1*x3∧((0<x1*y2-y1*x2∨0<x2*y3-y2*x3)→0<x1*y3-y1*x3):=by
 rcases h2 with h2|⟨h2,h2'⟩
 ·have e:x2*(x1*y3-y1*x3)=x1*(x2*y3-y2*x3)+x3*(x1*y2-y1*x2):=by grind
  have x1n:0≤x1:=by grind
  have x3n:0≤x3:=by grind
  have p1:=Rat.mul_nonneg x1n h23;have p2:=Rat.mul_nonneg x3n h12;refine ⟨mul_nonneg_of h2 (by grind),fun hs => ?_⟩;rcases h1 with h1|⟨h1,h1'⟩
  ·rcases h3 with h3|⟨h3,h3'⟩
   ·refine mul_pos_of h2 ?_
    rcases hs with hs|hs
    ·have:=Rat.mul_pos h3 hs;grind
    ·have:=Rat.mul_pos h1 hs;grind
   ·subst h3
    have:=Rat.mul_pos h1 h3';grind
  ·subst h1
   have:=Rat.mul_pos h1' h2;grind
 ·subst h2
  have hx3:x3=0:=by
   rcases h3 with h3|h3
   ·have:=Rat.mul_pos h2' h3;grind
   ·exact h3.1
  subst hx3;have hy3:0<y3:=by rcases h3 with h3|h3;(exact absurd h3 Rat.lt_irrefl);exact h3.2
  have x1n:0≤x1:=by grind
  have:=Rat.mul_nonneg x1n (Rat.le_of_lt hy3);refine ⟨by grind,fun hs => ?_⟩
  have:0<x1:=by
   rcases h1 with h1|h1
   ·exact h1
   ·obtain ⟨h1,h1'⟩:=h1;subst h1;grind
  have:=Rat.mul_pos this hy3;grind

theorem frame_cross (d u v:Pt):crossP u v*dotP d d=crossP d u*(-dotP d v)-(-dotP d u)*crossP d v:=by
 unfold crossP dotP;grind
theorem In.ne {d v:Pt} (h:In d v):0<dotP d d:=by
 unfold In crossP dotP at *
 by_cases h1:d.1=0
 ·by_cases h2:d.2=0
  ·rw [h1,h2] at h;grind
  ·have:=sq_pos h2;have:=sq_nonneg d.1;grind
 ·have:=sq_pos h1;have:=sq_nonneg d.2;grind
theorem In.std {d v:Pt} (h:In d v):0<crossP d v∨crossP d v=0∧0 < -dotP d v:=by
 unfold In at h;grind
theorem in_trans {d u v w:Pt} (hu:In d u) (hv:In d v) (hw:In d w) (h12:0≤crossP u v) (h23:0≤crossP v w) :
 0≤crossP u w∧((0<crossP u v∨0<crossP v w)→0<crossP u w):=by
 have hd:=hu.ne;have e1:=frame_cross d u v;have e2:=frame_cross d v w;have e3:=frame_cross d u w;have p1:=Rat.mul_nonneg h12 (Rat.le_of_lt hd);have p2:=Rat.mul_nonneg h23 (Rat.le_of_lt hd);obtain ⟨r1,r2⟩:=std_trans hu.std hv.std hw.std (by rw [← e1];exact p1) (by rw [← e2];exact p2);refine ⟨mul_nonneg_of hd (by rw [Rat.mul_comm,e3];exact r1),fun hs => ?_⟩;refine mul_pos_of hd ?_;rw [Rat.mul_comm,e3];refine r2 ?_;rcases hs with hs|hs
 ·exact .inl (by rw [← e1];exact Rat.mul_pos hs hd)
 ·exact .inr (by rw [← e2];exact Rat.mul_pos hs hd)
theorem dot_self_pos {v:Pt} (h:v≠(0,0)):0<dotP v v:=by
 unfold dotP
 by_cases h1:v.1=0
 ·have h2:v.2≠0:=fun h2=>h (Prod.ext h1 h2)
  have:=sq_pos h2;have:=sq_nonneg v.1;grind
 ·have:=sq_pos h1;have:=sq_nonneg v.2;grind
theorem dot_self_nonneg (v:Pt):0≤dotP v v:=by
 unfold dotP;have:=sq_nonneg v.1;have:=sq_nonneg v.2;grind
theorem dot_frame (a c u:Pt):dotP a c*dotP u u=dotP a u*dotP c u+crossP a u*crossP c u:=by
 unfold crossP dotP;grind
theorem In.same {d u v:Pt} (hu:In d u) (hv:In d v) (h:crossP u v=0):0<dotP u v:=by
 have hd:=hu.ne;have e:=dot_frame u v d;have ec:=frame_cross d u v;rw [h,Rat.zero_mul] at ec;have c1:crossP u d=- crossP d u:=by unfold crossP;grind
 have c2:crossP v d=- crossP d v:=by unfold crossP;grind
 have c3:dotP u d=dotP d u:=by unfold dotP;grind
 have c4:dotP v d=dotP d v:=by unfold dotP;grind
 rw [c1,c2,c3,c4] at e;refine mul_pos_of hd ?_;rw [Rat.mul_comm,e];have s1:=hu;have s2:=hv;unfold In at s1 s2;generalize crossP d u=X1 at *;generalize crossP d v=X2 at *;generalize dotP d u=Y1 at *;generalize dotP d v=Y2 at *;rcases s1 with s1|⟨s1,s1'⟩
 ·rcases s2 with s2|⟨s2,s2'⟩
  ·refine mul_pos_of s1 ?_
   have q1:=Rat.mul_pos (Rat.mul_pos s1 s1) s2;have q2:=Rat.mul_nonneg (sq_nonneg Y1) (Rat.le_of_lt s2);have q3:X1*Y2=Y1*X2:=by grind
   have q4:X1*(Y1*Y2 + -X1 * -X2)=Y1*(X1*Y2)+X1*X1*X2:=by grind
   rw [q4,q3];grind
  ·subst s2
   have:=Rat.mul_pos s1 (show 0 < -Y2 by grind);grind
 ·subst s1
  have hx:X2=0:=mul_zero_of (a := -Y1) (by grind) (by grind);subst hx;have:Y2<0:=by grind
  have:=Rat.mul_pos (show 0 < -Y1 by grind) (show 0 < -Y2 by grind);grind
end Pl
end Go.Proofs.YtdkkjfnpinckjaaGreatDoor

namespace Go.Proofs.YtdkkjfnpinckjaaGreatDoor
namespace Pl
def maxQ (a b:Rat):Rat:=if 0≤cmpQ a b then a else b
def minQ (a b:Rat):Rat:=if cmpQ a b≤0 then a else b
theorem Sz.maxQ {i j:Nat} {a b:Rat} (ha:Sz i a) (hb:Sz j b):Sz (i+j) (maxQ a b):=by
 unfold Pl.maxQ;split
 ·exact ha.mono (by omega)
 ·exact hb.mono (by omega)
theorem Sz.minQ {i j:Nat} {a b:Rat} (ha:Sz i a) (hb:Sz j b):Sz (i+j) (minQ a b):=by
 unfold Pl.minQ;split
 ·exact ha.mono (by omega)
 ·exact hb.mono (by omega)
def SzP (k:Nat) (p:Pt):Prop:=Sz k p.1∧Sz k p.2
theorem SzP.mono {i j:Nat} {p:Pt} (h:SzP i p) (hij:i≤j):SzP j p:=⟨h.1.mono hij,h.2.mono hij⟩
theorem SzP.add {i j:Nat} {p q:Pt} (h:SzP i p) (k:SzP j q):SzP (i+j+1) (addP p q):=⟨h.1.add k.1,h.2.add k.2⟩
theorem SzP.sub {i j:Nat} {p q:Pt} (h:SzP i p) (k:SzP j q):SzP (i+j+1) (subP p q):=⟨h.1.sub k.1,h.2.sub k.2⟩
theorem SzP.scale {i j:Nat} {p:Pt} {r:Rat} (h:SzP i p) (k:Sz j r):SzP (i+j) (scaleP p r):=⟨h.1.mul k,h.2.mul k⟩
theorem SzP.dot {i j:Nat} {p q:Pt} (h:SzP i p) (k:SzP j q):Sz (i+j+(i+j)+1) (dotP p q):=(h.1.mul k.1).add (h.2.mul k.2)
theorem SzP.cross {i j:Nat} {p q:Pt} (h:SzP i p) (k:SzP j q):Sz (i+j+(i+j)+1) (crossP p q):=(h.1.mul k.2).sub (h.2.mul k.1)
def SzS (k:Nat) (s:Pt×Pt):Prop:=SzP k s.1∧SzP k s.2
theorem SzS.mono {i j:Nat} {s:Pt×Pt} (h:SzS i s) (hij:i≤j):SzS j s:=⟨h.1.mono hij,h.2.mono hij⟩
def onSeg (p a b:Pt):Bool:=decide (turn a b p=0)&&(decide (0≤cmpP a p*cmpP p b)&&(decide (a≠b)||decide (p=a)))
def divide (s:Pt×Pt) (r:Rat):Pt:=addP s.1 (scaleP (subP s.2 s.1) r)
def dist2 (p q:Pt):Rat:=dotP (subP p q) (subP p q)
end Pl
end Go.Proofs.YtdkkjfnpinckjaaGreatDoor

namespace Go.Proofs.YtdkkjfnpinckjaaGreatDoor
namespace Pl

structure Edge (S:List Pt) (a b:Pt):Prop where
 ma:a∈S
 mb:b∈S
 ne:a≠b
 left:∀ s∈S,0≤det a b s
 on:∀ s∈S,det a b s=0→btwB s a b=true

theorem det_swap (a b s:Pt):det b a s=- det a b s:=by unfold det crossP subP;grind
theorem det_rot (a b s:Pt):det a b s=det b s a:=by unfold det crossP subP;grind
theorem det_flip (a b s:Pt):det a s b=- det a b s:=by unfold det crossP subP;grind
theorem det_self (a b:Pt):det a b a=0:=by unfold det crossP subP;grind
theorem det_self' (a b:Pt):det a b b=0:=by unfold det crossP subP;grind
theorem btw_left (a b:Pt):btwB a a b=true:=by
 rw [btw_iff];exact ⟨det_self a b,by unfold dotP subP;grind⟩
theorem btw_right (a b:Pt):btwB b a b=true:=by
 rw [btw_iff];exact ⟨det_self' a b,by unfold dotP subP;grind⟩
theorem sub_zero {p q:Pt} (h:subP p q=(0,0)):p=q:=by
 unfold subP at h;rw [Prod.ext_iff] at h ⊢;grind
theorem sub_ne {p q:Pt} (h:p≠q):subP p q≠(0,0):=fun e=>h (sub_zero e)
theorem btw_comm {s a b:Pt} (h:btwB s a b=true):btwB s b a=true:=by
 rw [btw_iff] at *;rw [det_swap];refine ⟨by rw [h.1];rfl,?_⟩;have:=h.2;unfold dotP subP at *;grind
theorem btw_dots (s a b:Pt):dotP (subP a s) (subP b s)=dotP (subP s a) (subP s a)-dotP (subP s a) (subP b a):=by
 unfold dotP subP;grind
theorem btw_anti {a b c:Pt} (h1:btwB b a c=true) (h2:btwB a b c=true):a=b:=by
 rw [btw_iff] at h1 h2;have k1:=h1.2;have k2:=h2.2;refine sub_zero ?_;rcases Classical.em (subP a b=(0,0)) with h|h
 ·exact h
 ·have:=dot_self_pos h
  unfold dotP subP at *;grind
theorem Edge.tail_unique {S:List Pt} {a b b':Pt} (h:Edge S a b) (h':Edge S a b'):b=b':=by
 have h1:=h.left b' h'.mb;have h2:=h'.left b h.mb;rw [det_flip] at h2;have h3:det a b b'=0:=by grind
 have h4:=h.on b' h'.mb h3;have h5:=h'.on b h.mb (by rw [det_flip,h3];rfl);exact btw_anti (btw_comm h4) (btw_comm h5)
theorem Edge.head_unique {S:List Pt} {a a' c:Pt} (h:Edge S a c) (h':Edge S a' c):a=a':=by
 have h1:=h.left a' h'.ma;have h2:=h'.left a h.ma;have e:det a' c a=- det a c a':=by unfold det crossP subP;grind
 rw [e] at h2;have h3:det a c a'=0:=by grind
 have h4:=h.on a' h'.ma h3;have h5:=h'.on a h.ma (by rw [e,h3];rfl);exact btw_anti h4 h5
theorem sub_det (p a b:Pt):crossP (subP a p) (subP b p)=det p a b:=rfl

def Cone (S:List Pt) (d p:Pt):Prop:=∀ s∈S,s≠p→In d (subP s p)
theorem Edge.cone {S:List Pt} {q p:Pt} (h:Edge S q p):Cone S (subP p q) p:=by
 intro s hs hne;have h1:=h.left s hs;have e:crossP (subP p q) (subP s p)=det q p s:=by unfold det crossP subP;grind
 rcases Classical.em (det q p s=0) with h0|h0
 ·refine .inr ⟨by rw [e,h0],?_⟩
  have h2:=h.on s hs h0;rw [btw_iff] at h2;have h3:=h2.2;have hpos:=dot_self_pos (sub_ne hne);have e2:dotP (subP p q) (subP s p)=dotP (subP q s) (subP p s)-dotP (subP s p) (subP s p):=by unfold dotP subP;grind
  rw [e2];grind
 ·exact .inl (by rw [e];grind)
theorem least_cone {S:List Pt} {p:Pt} (h:∀ s∈S,lessP s p=false):Cone S (0,-1) p:=by
 intro s hs hne;have h1:=h s hs;have h2:=less_total p s;rw [h1] at h2
 have h3:lessP p s=true:=by
  rcases h2 with h2|h2|h2
  ·exact h2
  ·exact absurd h2.symm hne
  ·cases h2
 rw [less_iff] at h3;unfold In crossP dotP subP;grind

def pick (p out x:Pt):Pt:=if x=p then out else if out=p∨turn p out x<0∨turn p out x=0∧btwB out p x=true then x else out
def nxt (l:List Pt) (p:Pt):Pt:=l.foldl (pick p) p

theorem par_far {a u x:Pt} (h1:crossP a u=0) (h2:0<dotP u u) (h3:dotP a a≤dotP a u) (h4:dotP u u≤dotP u x):dotP a a≤dotP a x:=by
 have e:=dot_frame a x u;rw [h1,Rat.zero_mul] at e;have ec:dotP x u=dotP u x:=by unfold dotP;grind
 have ha:=dot_self_nonneg a;have h5:0≤dotP a u*(dotP u x-dotP u u):=Rat.mul_nonneg (by grind) (by grind);have h6:0≤dotP u u*(dotP a x-dotP a u):=by rw [ec] at e;grind
 have:=mul_nonneg_of h2 h6;grind
theorem par_near {u x:Pt} (h1:crossP u x=0) (h2:0<dotP u x) (h3:¬ dotP u u≤dotP u x) (hu:0<dotP u u):dotP x x≤dotP x u:=by
 have e:=dot_frame x x u
 have ec:crossP x u=0:=by
  have:crossP x u=- crossP u x:=by unfold crossP;grind
  rw [this,h1];rfl
 have ed:dotP x u=dotP u x:=by unfold dotP;grind
 rw [ec,Rat.zero_mul,ed] at e;have h4:0≤dotP u x*(dotP u u-dotP u x):=Rat.mul_nonneg (by grind) (by grind);have h5:0≤dotP u u*(dotP u x-dotP x x):=by grind
 have:=mul_nonneg_of hu h5;rw [ed];grind

structure Best (S:List Pt) (p out:Pt):Prop where
 m:out∈S
 ne:out≠p
 left:∀ s∈S,s≠p→0≤det p out s
 on:∀ s∈S,s≠p→det p out s=0→dotP (subP s p) (subP s p)≤dotP (subP s p) (subP out p)
theorem pick_best {S:List Pt} {d p out x:Pt} (hc:Cone (S++[x]) d p) (h:Best S p out):Best (S++[x]) p (pick p out x):=by
 unfold pick
 by_cases hx:x=p
 ·rw [if_pos hx]
  refine ⟨List.mem_append_left _ h.m,h.ne,fun s hs hn => ?_,fun s hs hn => ?_⟩
  ·rcases List.mem_append.1 hs with hs|hs
   ·exact h.left s hs hn
   ·exact absurd ((List.mem_singleton.1 hs).trans hx) hn
  ·rcases List.mem_append.1 hs with hs|hs
   ·exact h.on s hs hn
   ·exact absurd ((List.mem_singleton.1 hs).trans hx) hn
 rw [if_neg hx];have hix:=hc x (by simp) hx;have hio:=hc out (by simp [h.m]) h.ne;have eo:dotP (subP out x) (subP p x)=dotP (subP x p) (subP x p)-dotP (subP x p) (subP out p):=by unfold dotP subP;grind
 by_cases ht:out=p∨turn p out x<0∨turn p out x=0∧btwB out p x=true
 ·rw [if_pos ht]
  have ht':turn p out x<0∨turn p out x=0∧btwB out p x=true:=by
   rcases ht with ht|ht
   ·exact absurd ht h.ne
   ·exact ht
  have ht2:det p out x<0∨det p out x=0∧dotP (subP out p) (subP out p)≤dotP (subP out p) (subP x p):=by
   rcases ht' with ht|⟨ht,hb⟩
   ·unfold turn at ht;rw [sgn_lt_iff] at ht;exact .inl ht
   ·unfold turn at ht;rw [sgn_zero_iff] at ht;rw [btw_iff,btw_dots] at hb;exact .inr ⟨ht,by have:=hb.2;grind⟩
  have hxo:0≤crossP (subP x p) (subP out p):=by rw [sub_det,det_flip];grind
  refine ⟨by simp,hx,fun s hs hn => ?_,fun s hs hn h0 => ?_⟩
  ·rcases List.mem_append.1 hs with hs|hs
   ·exact (in_trans hix hio (hc s (by simp [hs]) hn) hxo (h.left s hs hn)).1
   ·rw [List.mem_singleton.1 hs,det_self'];exact Rat.le_refl
  ·rcases List.mem_append.1 hs with hs|hs
   ·have hi:=in_trans hix hio (hc s (by simp [hs]) hn) hxo (h.left s hs hn)
    rw [sub_det,sub_det,h0] at hi;have hz:¬ (0<det p x out∨0<crossP (subP out p) (subP s p)):=fun hz=>Rat.lt_irrefl (hi.2 hz)
    rcases ht2 with ht2|⟨ht2,hb⟩
    ·exact absurd (.inl (by rw [det_flip];grind)) hz
    ·have hs0:det p out s=0:=by
      have:=h.left s hs hn;rw [sub_det] at hz;grind
     refine par_far ?_ (dot_self_pos (sub_ne h.ne)) (h.on s hs hn hs0) hb;rw [sub_det,det_flip,hs0];rfl
   ·rw [List.mem_singleton.1 hs];exact Rat.le_refl
 ·rw [if_neg ht]
  have ht1:¬ turn p out x<0:=fun h=>ht (.inr (.inl h))
  have hxp:0≤det p out x:=by unfold turn at ht1;rw [sgn_lt_iff] at ht1;grind
  refine ⟨List.mem_append_left _ h.m,h.ne,fun s hs hn => ?_,fun s hs hn h0 => ?_⟩
  ·rcases List.mem_append.1 hs with hs|hs
   ·exact h.left s hs hn
   ·rw [List.mem_singleton.1 hs];exact hxp
  ·rcases List.mem_append.1 hs with hs|hs
   ·exact h.on s hs hn h0
   ·rw [List.mem_singleton.1 hs] at h0 ⊢
    have hb:¬ btwB out p x=true:=fun hb=>ht (.inr (.inr ⟨by unfold turn;rw [sgn_zero_iff];exact h0,hb⟩))
    rw [btw_iff,btw_dots] at hb;refine par_near h0 (In.same hio hix h0) (fun hle=>hb ⟨by rw [det_flip,h0];rfl,by grind⟩) (dot_self_pos (sub_ne h.ne))
theorem best_first {S:List Pt} {p x:Pt} (hS:∀ s∈S,s=p) (hx:x≠p):Best (S++[x]) p (pick p p x):=by
 unfold pick;rw [if_neg hx,if_pos (.inl rfl)];refine ⟨by simp,hx,fun s hs hn => ?_,fun s hs hn _ => ?_⟩
 ·rcases List.mem_append.1 hs with hs|hs
  ·exact absurd (hS s hs) hn
  ·rw [List.mem_singleton.1 hs,det_self'];exact Rat.le_refl
 ·rcases List.mem_append.1 hs with hs|hs
  ·exact absurd (hS s hs) hn
  ·rw [List.mem_singleton.1 hs];exact Rat.le_refl
theorem fold_best {d p:Pt} : ∀ (m l:List Pt) (out:Pt),Cone (l++m) d p→((out=p∧∀ s∈l,s=p)∨Best l p out) →
 (m.foldl (pick p) out=p∧∀ s∈l++m,s=p)∨Best (l++m) p (m.foldl (pick p) out)
 | [],l,out,_,h=>by simpa using h
 | x :: m,l,out,hc,h=>by
  have e:l++x :: m=(l++[x])++m:=by simp
  rw [e] at hc ⊢;rw [List.foldl_cons];have hc1:Cone (l++[x]) d p:=fun s hs=>hc s (List.mem_append_left _ hs)
  refine fold_best m (l++[x]) _ hc ?_;rcases h with ⟨rfl,h⟩|h
  ·by_cases hx:x=out
   ·refine .inl ⟨by unfold pick;rw [if_pos hx],fun s hs => ?_⟩
    rcases List.mem_append.1 hs with hs|hs
    ·exact h s hs
    ·exact (List.mem_singleton.1 hs).trans hx
   ·exact .inr (best_first h hx)
  ·exact .inr (pick_best hc1 h)
theorem Best.edge {S:List Pt} {p out:Pt} (h:Best S p out) (hp:p∈S):Edge S p out:=by
 refine ⟨hp,h.m,fun e=>h.ne e.symm,fun s hs => ?_,fun s hs h0 => ?_⟩
 ·by_cases e:s=p
  ·rw [e,det_self];exact Rat.le_refl
  ·exact h.left s hs e
 ·by_cases e:s=p
  ·rw [e];exact btw_left _ _
  ·have:=h.on s hs e h0
   rw [btw_iff,btw_dots];exact ⟨h0,by grind⟩
theorem nxt_edge {S:List Pt} {d p:Pt} (hc:Cone S d p) (hp:p∈S) (hne:∃ s∈S,s≠p):Edge S p (nxt S p):=by
 rcases fold_best (d:=d) S [] p (by simpa using hc) (.inl ⟨rfl,by simp⟩) with ⟨_,h⟩|h
 ·obtain ⟨s,hs,hn⟩:=hne
  exact absurd (h s (by simpa using hs)) hn
 ·exact Best.edge (by simpa [nxt] using h) hp

inductive Ring (S:List Pt) (first:Pt):Pt→List Pt→Prop
 | last {a:Pt} : Edge S a first→Ring S first a [a]
 | step {a b:Pt} {l:List Pt} : Edge S a b→b≠first→Ring S first b l→Ring S first a (a :: l)
def Least (S:List Pt) (p:Pt):Prop:=p∈S∧∀ s∈S,lessP s p=false
theorem Least.unique {S:List Pt} {p q:Pt} (hp:Least S p) (hq:Least S q):p=q:=by
 have h1:=hp.2 q hq.1;have h2:=hq.2 p hp.1;rcases less_total p q with h|h|h
 ·rw [h2] at h;cases h
 ·exact h
 ·rw [h1] at h;cases h
def IsHull (S h:List Pt):Prop :=
 (S=[]∧h=[])∨(∃ p,h=[p]∧p∈S∧∀ s∈S,s=p)∨∃ p,Least S p∧Ring S p p h
theorem Ring.unique {S:List Pt} {f a:Pt} {l l':List Pt} (h:Ring S f a l) (h':Ring S f a l'):l=l':=by
 induction h generalizing l' with
 | last e =>
  cases h' with
  | last _=>rfl
  | step e2 hn _=>exact absurd (e2.tail_unique e) hn
 | step e hn hr ih =>
  cases h' with
  | last e2=>exact absurd (e.tail_unique e2) hn
  | step e2 hn2 hr2 =>
   have:=e.tail_unique e2;subst this;rw [ih hr2]
theorem Ring.edge {S:List Pt} {f a:Pt} {l:List Pt} (h:Ring S f a l):∃ b,Edge S a b:=by
 cases h with
 | last e=>exact ⟨_,e⟩
 | step e _ _=>exact ⟨_,e⟩
theorem IsHull.unique {S h h':List Pt} (a:IsHull S h) (b:IsHull S h'):h=h':=by
 rcases a with ⟨rfl,rfl⟩|⟨p,rfl,hp,hall⟩|⟨p,hl,hr⟩
 ·rcases b with ⟨_,rfl⟩|⟨q,_,hq,_⟩|⟨q,hq,_⟩
  ·rfl
  ·cases hq
  ·cases hq.1
 ·rcases b with ⟨rfl,_⟩|⟨q,rfl,hq,_⟩|⟨q,hq,hr⟩
  ·cases hp
  ·rw [hall q hq]
  ·obtain ⟨c,e⟩:=hr.edge
   exact absurd ((hall _ e.ma).trans (hall _ e.mb).symm) e.ne
 ·rcases b with ⟨rfl,_⟩|⟨q,rfl,hq,hall⟩|⟨q,hq,hr'⟩
  ·cases hl.1
  ·obtain ⟨c,e⟩:=hr.edge
   exact absurd ((hall _ e.ma).trans (hall _ e.mb).symm) e.ne
  ·have:=hl.unique hq
   subst this;exact hr.unique hr'
theorem Edge.congr {S T:List Pt} (hST:∀ s,s∈S↔s∈T) {a b:Pt} (h:Edge S a b):Edge T a b :=
 ⟨(hST a).1 h.ma,(hST b).1 h.mb,h.ne,fun s hs=>h.left s ((hST s).2 hs),fun s hs=>h.on s ((hST s).2 hs)⟩
theorem Ring.congr {S T:List Pt} (hST:∀ s,s∈S↔s∈T) {f a:Pt} {l:List Pt} (h:Ring S f a l):Ring T f a l:=by
 induction h with
 | last e=>exact .last (e.congr hST)
 | step e hn _ ih=>exact .step (e.congr hST) hn ih
theorem IsHull.congr {S T h:List Pt} (hST:∀ s,s∈S↔s∈T) (a:IsHull S h):IsHull T h:=by
 rcases a with ⟨rfl,rfl⟩|⟨p,rfl,hp,hall⟩|⟨p,hl,hr⟩
 ·refine .inl ⟨?_,rfl⟩
  cases T with
  | nil=>rfl
  | cons t T=>exact absurd ((hST t).2 (by simp)) (by simp)
 ·exact .inr (.inl ⟨p,rfl,(hST p).1 hp,fun s hs=>hall s ((hST s).2 hs)⟩)
 ·exact .inr (.inr ⟨p,⟨(hST p).1 hl.1,fun s hs=>hl.2 s ((hST s).2 hs)⟩,hr.congr hST⟩)
end Pl
end Go.Proofs.YtdkkjfnpinckjaaGreatDoor

namespace Go.Proofs.YtdkkjfnpinckjaaGreatDoor
namespace Pl

theorem length_le_of_nodup:∀ (l S:List Pt),l.Nodup→(∀ x∈l,x∈S)→l.length≤S.length
 | [],S,_,_=>Nat.zero_le _
 | x :: l,S,hn,h=>by
  have hx:=h x (by simp);rw [List.nodup_cons] at hn;have h1:=length_le_of_nodup l (S.erase x) hn.2 (fun y hy=>(List.mem_erase_of_ne (fun e=>by rw [e] at hy;exact hn.1 hy)).2 (h y (by simp [hy])));rw [List.length_erase_of_mem hx] at h1;have:=List.length_pos_of_mem hx;simp only [List.length_cons];omega
def orbit (S:List Pt) (f:Pt):Nat→Pt
 | 0=>f
 | k+1=>nxt S (orbit S f k)
theorem orbit_edge {S:List Pt} {f:Pt} (hl:Least S f) (hne:∃ s∈S,s≠f):∀ k,Edge S (orbit S f k) (orbit S f (k+1))
 | 0=>nxt_edge (least_cone hl.2) hl.1 hne
 | k+1=>by
  have h:=orbit_edge hl hne k;refine nxt_edge h.cone h.mb ?_;exact ⟨_,h.ma,h.ne⟩
theorem orbit_back {S:List Pt} {f:Pt} (hl:Least S f) (hne:∃ s∈S,s≠f):∀ i j,orbit S f i=orbit S f (i+j)→orbit S f 0=orbit S f j
 | 0,j,h=>by rw [Nat.zero_add] at h;exact h
 | i+1,j,h=>by
  refine orbit_back hl hne i j ?_;have h1:=orbit_edge hl hne i;have h2:=orbit_edge hl hne (i+j);rw [show i+1+j=i+j+1 from by omega] at h;rw [h] at h1;exact h1.head_unique h2
theorem orbit_mem {S:List Pt} {f:Pt} (hl:Least S f) (hne:∃ s∈S,s≠f) (k:Nat):orbit S f k∈S:=(orbit_edge hl hne k).ma
theorem orbit_returns {S:List Pt} {f:Pt} (hl:Least S f) (hne:∃ s∈S,s≠f):∃ k,1≤k∧k≤S.length∧orbit S f k=f:=by
 refine Classical.byContradiction fun hno => ?_
 have hinj:∀ i j,i<j→j≤S.length→orbit S f i≠orbit S f j:=by intro i j hij hj he;have:=orbit_back hl hne i (j-i) (by rw [show i+(j-i)=j from by omega];exact he);exact hno ⟨j-i,by omega,by omega,this.symm⟩
 have hnd:((List.range (S.length+1)).map (orbit S f)).Nodup:=by unfold List.Nodup;rw [List.pairwise_map];refine List.Pairwise.imp_of_mem ?_ (List.pairwise_lt_range (n:=S.length+1));intro a b _ hb hab;rw [List.mem_range] at hb;exact hinj a b hab (by omega)
 have:=length_le_of_nodup _ S hnd (fun x hx=>by
  obtain ⟨k,_,rfl⟩:=List.mem_map.1 hx
  exact orbit_mem hl hne k)
 simp at this;omega
def wrapGo (S:List Pt) (f:Pt):Nat→Pt→List Pt
 | 0,_=>[]
 | n+1,p=>p :: if nxt S p=f then [] else wrapGo S f n (nxt S p)
theorem wrap_ring {S:List Pt} {f:Pt} (hl:Least S f) (hne:∃ s∈S,s≠f):∀ (n i k:Nat),i<k→k≤i+n→orbit S f k=f→Ring S f (orbit S f i) (wrapGo S f n (orbit S f i))
 | 0,i,k,h1,h2,_=>by omega
 | n+1,i,k,h1,h2,h3=>by
  have he:=orbit_edge hl hne i;rw [wrapGo];show Ring S f _ (_ :: if orbit S f (i+1)=f then [] else wrapGo S f n (orbit S f (i+1)))
  by_cases hf:orbit S f (i+1)=f
  ·rw [if_pos hf];rw [hf] at he;exact .last he
  ·rw [if_neg hf]
   refine .step he hf (wrap_ring hl hne n (i+1) k ?_ (by omega) h3);rcases Nat.lt_or_ge (i+1) k with h|h
   ·exact h
   ·have:k=i+1:=by omega
    rw [this] at h3;exact absurd h3 hf
def leastP:List Pt→Pt→Pt
 | [],out=>out
 | x :: l,out=>leastP l (if lessP x out then x else out)
theorem leastP_spec:∀ (l m:List Pt) (out:Pt),(out∈m)→(∀ s∈m,lessP s out=false)→leastP l out∈m++l∧∀ s∈m++l,lessP s (leastP l out)=false
 | [],m,out,h1,h2=>by rw [leastP,List.append_nil];exact ⟨h1,h2⟩
 | x :: l,m,out,h1,h2=>by
  rw [leastP,show m++x :: l=(m++[x])++l from by simp];refine leastP_spec l (m++[x]) _ ?_ ?_
  ·split
   ·simp
   ·simp [h1]
  ·intro s hs
   rcases List.mem_append.1 hs with hs|hs
   ·split
    ·rename_i hx
     rcases hsx:lessP s x
     ·rfl
     ·rw [← h2 s hs,less_trans hsx hx]
    ·exact h2 s hs
   ·rw [List.mem_singleton.1 hs]
    split
    ·exact less_irrefl x
    ·rename_i hx;simpa using hx
def wrap (S:List Pt):List Pt:=match S with
 | []=>[]
 | a :: l=>wrapGo S (leastP (a :: l) a) (S.length+1) (leastP (a :: l) a)
theorem leastP_least (a:Pt) (l:List Pt):Least (a :: l) (leastP (a :: l) a):=by
 have h:=leastP_spec (a :: l) [a] a (by simp) (by simp [less_irrefl]);refine ⟨?_,fun s hs=>h.2 s (List.mem_append_right _ hs)⟩;have h1:=h.1;rcases List.mem_append.1 h1 with h1|h1
 ·rw [List.mem_singleton.1 h1];simp
 ·exact h1
theorem nxt_same {S:List Pt} {p:Pt} (h:∀ s∈S,s=p):nxt S p=p:=by
 unfold nxt
 have:∀ (l:List Pt),(∀ s∈l,s=p)→l.foldl (pick p) p=p:=by
  intro l
  induction l with
  | nil=>intro _;rfl
  | cons x l ih =>
   intro hl;rw [List.foldl_cons,show pick p p x=p from by unfold pick;rw [if_pos (hl x (by simp))]];exact ih fun s hs=>hl s (by simp [hs])
 exact this S h
theorem wrap_isHull (S:List Pt):IsHull S (wrap S):=by
 cases S with
 | nil=>exact .inl ⟨rfl,rfl⟩
 | cons a l =>
  have hl:=leastP_least a l;show IsHull _ (wrapGo (a :: l) (leastP (a :: l) a) _ _);generalize leastP (a :: l) a=f at hl ⊢
  by_cases hne:∃ s∈a :: l,s≠f
  ·obtain ⟨k,h1,h2,h3⟩:=orbit_returns hl hne
   exact .inr (.inr ⟨f,hl,wrap_ring hl hne _ 0 k (by omega) (by simp only [List.length_cons] at h2 ⊢;omega) h3⟩)
  ·have hall:∀ s∈a :: l,s=f:=fun s hs=>Classical.byContradiction fun h=>hne ⟨s,hs,h⟩
   refine .inr (.inl ⟨f,?_,hl.1,hall⟩);rw [wrapGo,nxt_same hall,if_pos rfl]
theorem Ring.head {S:List Pt} {f a:Pt} {l:List Pt} (h:Ring S f a l):∃ m,l=a :: m:=by
 cases h with
 | last _=>exact ⟨_,rfl⟩
 | step _ _ _=>exact ⟨_,rfl⟩
theorem Ring.edges {S:List Pt} {f a:Pt} {l:List Pt} (h:Ring S f a l):∀ i (hi:i<l.length),Edge S l[i] ((l.drop (i+1)).headD f):=by
 induction h with
 | last e => intro i hi; have : i = 0 := by simpa using hi
             subst this;simpa using e
 | @step a b l e hn hr ih =>
  intro i hi
  cases i with
  | zero=>obtain ⟨m,rfl⟩:=hr.head;simpa using e
  | succ i=>simpa using ih i (by simpa using hi)
theorem headD_drop (l:List Pt) (f:Pt) (i:Nat) (h0:0<l.length) (hf:l[0]=f) (hi:i<l.length):(l.drop (i+1)).headD f=l[(i+1)%l.length]'(Nat.mod_lt _ h0):=by
 rcases Nat.lt_or_ge (i+1) l.length with h|h
 ·rw [List.drop_eq_getElem_cons h]
  simp only [List.headD_cons];congr 1;exact (Nat.mod_eq_of_lt h).symm
 ·have:i+1=l.length:=by omega
  rw [List.drop_eq_nil_of_le (by omega)];simp only [List.headD_nil];rw [← hf];congr 1;rw [this,Nat.mod_self]
theorem ring_edge {S:List Pt} {p:Pt} {h:List Pt} (hr:Ring S p p h) (i:Nat) (hi:i<h.length):Edge S h[i] (h[(i+1)%h.length]'(Nat.mod_lt _ (by omega))):=by
 have h1:=hr.edges i hi;obtain ⟨m,rfl⟩:=hr.head;rw [headD_drop _ _ _ (by simp) (by simp) hi] at h1;exact h1
theorem IsHull.sub {S h:List Pt} (a:IsHull S h):∀ p∈h,p∈S:=by
 rcases a with ⟨rfl,rfl⟩|⟨p,rfl,hp,_⟩|⟨p,_,hr⟩
 ·simp
 ·simpa using hp
 ·intro q hq
  obtain ⟨i,hi,rfl⟩:=List.getElem_of_mem hq;exact (ring_edge hr i hi).ma
end Pl
end Go.Proofs.YtdkkjfnpinckjaaGreatDoor

namespace Go.Proofs.YtdkkjfnpinckjaaGreatDoor
namespace Pl

theorem In.add {d u v:Pt} (hu:In d u) (hv:In d v):In d (addP u v):=by
 unfold In crossP dotP addP at *;grind
theorem In.eq_add {d u v w:Pt} (hu:In d u) (hv:In d v) (h:w=addP u v):In d w:=h▸hu.add hv
theorem sub_add (a b c:Pt):subP c a=addP (subP b a) (subP c b):=by
 unfold subP addP;rw [Prod.ext_iff];constructor<;>grind
theorem In.anti {d u v:Pt} (hu:In d (subP u v)):¬ In d (subP v u):=by
 unfold In crossP dotP subP at *;grind
theorem In.ne' {d u v:Pt} (hu:In d (subP u v)):u≠v:=by
 rintro rfl;exact hu.anti hu

inductive Stk (D:List Pt) (d:Pt):List Pt→Prop
 | one {a:Pt} : a∈D→(∀ s∈D,s=a∨In d (subP s a))→Stk D d [a]
 | two {a b:Pt} : Edge D a b→In d (subP b a)→Stk D d [a]→Stk D d [b,a]
 | more {a b c:Pt} {r:List Pt} : Edge D a b→In d (subP b a)→0<det c a b→Stk D d (a :: c :: r)→Stk D d (b :: a :: c :: r)
def popTo (p:Pt):List Pt→List Pt
 | b :: a :: r=>if turn a b p≤0 then popTo p (a :: r) else b :: a :: r
 | st=>st
theorem turn_le (a b c:Pt):turn a b c≤0↔det a b c≤0:=by unfold turn;exact sgn_nonpos_iff _
structure Top (D:List Pt) (d p:Pt) (t:Pt) (r:List Pt):Prop where
 stk:Stk D d (t :: r)
 turns:∀ a r',r=a :: r'→0<det a t p
 above:∀ s∈D,In d (subP s t)→0≤det t p s
theorem popTo_spec {D:List Pt} {d p:Pt} (hp:∀ s∈D,In d (subP p s)):∀ (r:List Pt) (t:Pt),Stk D d (t :: r)→(∀ s∈D,In d (subP s t)→0≤det t p s)→∃ t' r',popTo p (t :: r)=t' :: r'∧Top D d p t' r'
 | [],t,hs,ha=>⟨t,[],rfl,hs,by simp,ha⟩
 | a :: r,t,hs,ha=>by
  rw [popTo]
  by_cases ht:turn a t p≤0
  ·rw [if_pos ht]
   rw [turn_le] at ht
   obtain ⟨he,hi,hst⟩:Edge D a t∧In d (subP t a)∧Stk D d (a :: r):=by
    cases hs with
    | two he hi hst=>exact ⟨he,hi,hst⟩
    | more he hi _ hst=>exact ⟨he,hi,hst⟩
   refine popTo_spec hp r a hst fun s hs hsa => ?_
   have h1:=he.left s hs;have h2:=in_trans (hp a he.ma) hi hsa (by rw [sub_det,det_flip];grind) h1;exact h2.1
  ·rw [if_neg ht]
   rw [turn_le] at ht;refine ⟨t,a :: r,rfl,hs,fun a' r' e => ?_,ha⟩;injection e with e1 e2
   subst e1;grind
theorem Stk.mem {D:List Pt} {d:Pt} {t:Pt} {r:List Pt} (h:Stk D d (t :: r)):t∈D:=by
 cases h with
 | one h _=>exact h
 | two h _ _=>exact h.mb
 | more h _ _ _=>exact h.mb
theorem Edge.snoc {D:List Pt} {a b p:Pt} (h:Edge D a b) (hp:0<det a b p):Edge (D++[p]) a b:=by
 refine ⟨by simp [h.ma],by simp [h.mb],h.ne,fun s hs => ?_,fun s hs h0 => ?_⟩
 ·rcases List.mem_append.1 hs with hs|hs
  ·exact h.left s hs
  ·rw [List.mem_singleton.1 hs];exact Rat.le_of_lt hp
 ·rcases List.mem_append.1 hs with hs|hs
  ·exact h.on s hs h0
  ·rw [List.mem_singleton.1 hs] at h0;rw [h0] at hp;exact absurd hp Rat.lt_irrefl
theorem det_vec (c a b:Pt):det c a b=crossP (subP a c) (subP b a):=by unfold det crossP subP;grind
theorem Stk.snoc {D:List Pt} {d p:Pt} (hp:∀ s∈D,In d (subP p s)):∀ (r:List Pt) (t:Pt),Stk D d (t :: r)→(∀ a r',r=a :: r'→0<det a t p)→Stk (D++[p]) d (t :: r)
 | [],t,h,_=>by
  cases h with
  | one h1 h2 =>
   refine .one (by simp [h1]) fun s hs => ?_
   rcases List.mem_append.1 hs with hs|hs
   ·exact h2 s hs
   ·rw [List.mem_singleton.1 hs];exact .inr (hp t h1)
 | [a],t,h,ht=>by
  cases h with
  | two he hi hs =>
   exact .two (he.snoc (ht a [] rfl)) hi (Stk.snoc hp [] a hs (by simp))
 | a :: c :: r,t,h,ht=>by
  cases h with
  | more he hi hd hs =>
   refine .more (he.snoc (ht a (c :: r) rfl)) hi hd (Stk.snoc hp (c :: r) a hs fun a' r' e => ?_);injection e with e1 e2
   subst e1;have h1:=ht a _ rfl
   have hic:In d (subP a c):=by
    cases hs with
    | two _ h _=>exact h
    | more _ h _ _=>exact h
   rw [det_vec] at hd h1 ⊢;have h2:=(in_trans hic hi (hp t he.mb) (Rat.le_of_lt hd) (Rat.le_of_lt h1)).2 (.inl hd);have e:crossP (subP a c) (subP p a)=crossP (subP a c) (subP t a)+crossP (subP a c) (subP p t):=by unfold crossP subP;grind
   rw [e];grind
theorem Top.push {D:List Pt} {d p t:Pt} {r:List Pt} (hp:∀ s∈D,In d (subP p s)) (hord:∀ s∈D,s=t∨In d (subP s t)∨In d (subP t s)) (h:Top D d p t r):Stk (D++[p]) d (p :: t :: r):=by
 have ht:=h.stk.mem;have hip:=hp t ht;have hold:=h.stk.snoc hp r t h.turns
 have hedge:Edge (D++[p]) t p:=by
  have hleft:∀ s∈D,0≤det t p s∧(det t p s=0→btwB s t p=true):=by
   intro s hs;rcases hord s hs with rfl|hs'|hs'
   ·rw [det_self];exact ⟨Rat.le_refl,fun _=>btw_left _ _⟩
   ·refine ⟨h.above s hs hs',fun h0 => ?_⟩
    rw [btw_iff];refine ⟨h0,?_⟩;have hc:crossP (subP s t) (subP p s)=0:=by rw [← det_vec,det_flip,h0];rfl
    have:=In.same hs' (hp s hs) hc;have e:dotP (subP t s) (subP p s)=- dotP (subP s t) (subP p s):=by unfold dotP subP;grind
    rw [e];grind
   ·have hpos:0<det t p s:=by
     cases r with
     | nil =>
      cases h.stk with
      | one _ hmin =>
       rcases hmin s hs with rfl|hm
       ·exact absurd hs' (fun hh=>hh.ne' rfl)
       ·exact absurd hs' hm.anti
     | cons a r =>
      have hturn:=h.turns a r rfl
      obtain ⟨he,hi⟩:Edge D a t∧In d (subP t a):=by
       cases h.stk with
       | two he hi _=>exact ⟨he,hi⟩
       | more he hi _ _=>exact ⟨he,hi⟩
      have h1:=he.left s hs;rw [det_vec] at hturn;have e1:det a t s=crossP (subP t s) (subP t a):=by unfold det crossP subP;grind
      rw [e1] at h1;have h2:=(in_trans hs' hi hip h1 (Rat.le_of_lt hturn)).2 (.inr hturn);have e2:det t p s=crossP (subP t s) (subP p t):=by unfold det crossP subP;grind
      rw [e2];exact h2
    exact ⟨Rat.le_of_lt hpos,fun h0=>by rw [h0] at hpos;exact absurd hpos Rat.lt_irrefl⟩
  refine ⟨by simp [ht],by simp,fun e=>hip.ne' e.symm,fun s hs => ?_,fun s hs h0 => ?_⟩
  ·rcases List.mem_append.1 hs with hs|hs
   ·exact (hleft s hs).1
   ·rw [List.mem_singleton.1 hs,det_self'];exact Rat.le_refl
  ·rcases List.mem_append.1 hs with hs|hs
   ·exact (hleft s hs).2 h0
   ·rw [List.mem_singleton.1 hs];exact btw_right _ _
 cases r with
 | nil=>exact .two hedge hip hold
 | cons a r=>exact .more hedge hip (h.turns a r rfl) hold
def Sorted (d:Pt):List Pt→Prop
 | []=>True
 | a :: l=>(∀ s∈l,In d (subP s a))∧Sorted d l
def chainGo (l st:List Pt):List Pt:=l.foldl (fun st p=>p :: popTo p st) st
theorem chainGo_spec {d:Pt} : ∀ (l D:List Pt) (t:Pt) (r:List Pt),(∀ s∈D,∀ p∈l,In d (subP p s))→Sorted d l→Stk D d (t :: r)→(∀ s∈D,s=t∨In d (subP t s))→(∀ s∈D,∀ s'∈D,s=s'∨In d (subP s s')∨In d (subP s' s)) →
 ∃ t' r',chainGo l (t :: r)=t' :: r'∧Stk (D++l) d (t' :: r')∧(∀ s∈D++l,s=t'∨In d (subP t' s))∧(t' :: r').getLast?=(t :: r).getLast?
 | [],D,t,r,_,_,h,ht,_=>⟨t,r,rfl,by simpa using h,by simpa using ht,rfl⟩
 | p :: l,D,t,r,hD,hl,h,ht,htot=>by
  have hp:∀ s∈D,In d (subP p s):=fun s hs=>hD s hs p (by simp)
  obtain ⟨t1,r1,e1,h1⟩:=popTo_spec hp r t h (fun s hs hi=>by
   rcases ht s hs with rfl|h2
   ·rw [det_self];exact Rat.le_refl
   ·exact absurd hi h2.anti)
  have h2:=h1.push hp (fun s hs=>htot s hs t1 h1.stk.mem)
  have hlast:(p :: t1 :: r1).getLast?=(t :: r).getLast?:=by
   rw [← e1]
   have:∀ (st:List Pt),st≠[]→popTo p st≠[]∧(popTo p st).getLast?=st.getLast?:=by
    intro st
    induction st with
    | nil=>intro h;exact absurd rfl h
    | cons b st ih =>
     intro _
     cases st with
     | nil=>exact ⟨by simp [popTo],rfl⟩
     | cons a st =>
      rw [popTo]
      split
      ·refine ⟨(ih (by simp)).1,?_⟩
       rw [(ih (by simp)).2,List.getLast?_cons_cons]
      ·exact ⟨by simp,rfl⟩
   have h3:=this (t :: r) (by simp);rw [← h3.2,e1,List.getLast?_cons_cons]
  rw [show D++p :: l=(D++[p])++l from by simp];show ∃ t' r',chainGo l (p :: popTo p (t :: r))=_∧_
  rw [e1]
  obtain ⟨t',r',e,k1,k2,k3⟩:=chainGo_spec l (D++[p]) p (t1 :: r1) (fun s hs q hq=>by
   rcases List.mem_append.1 hs with hs|hs
   ·exact hD s hs q (by simp [hq])
   ·rw [List.mem_singleton.1 hs];exact hl.1 q hq) hl.2 h2 (fun s hs=>by
   rcases List.mem_append.1 hs with hs|hs
   ·exact .inr (hp s hs)
   ·exact .inl (List.mem_singleton.1 hs)) (fun s hs s' hs'=>by
   rcases List.mem_append.1 hs with hs|hs<;>rcases List.mem_append.1 hs' with hs'|hs'
   ·exact htot s hs s' hs'
   ·rw [List.mem_singleton.1 hs'];exact .inr (.inr (hp s hs))
   ·rw [List.mem_singleton.1 hs];exact .inr (.inl (hp s' hs'))
   ·rw [List.mem_singleton.1 hs,List.mem_singleton.1 hs'];exact .inl rfl)
  exact ⟨t',r',e,k1,k2,k3.trans hlast⟩
def chain (l:List Pt):List Pt:=(chainGo l []).reverse
inductive Way (S:List Pt):Pt→Pt→List Pt→Prop
 | one {a:Pt} : Way S a a [a]
 | step {a b c:Pt} {l:List Pt} : Edge S a b→Way S b c l→Way S a c (a :: l)
theorem Way.snoc {S:List Pt} {a b c:Pt} {l:List Pt} (h:Way S a b l) (e:Edge S b c):Way S a c (l++[c]):=by
 induction h with
 | one=>exact .step e .one
 | step e2 _ ih=>exact .step e2 (ih e)
theorem Stk.way {D:List Pt} {d:Pt} : ∀ (r:List Pt) (t b:Pt),Stk D d (t :: r)→(t :: r).getLast?=some b→Way D b t (t :: r).reverse∧(t=b∨In d (subP t b))∧(∀ s∈(t :: r).reverse.tail,In d (subP s b))∧(∀ s∈r,In d (subP t s))
 | [],t,b,_,e=>by simp at e;subst e;exact ⟨.one,.inl rfl,by simp,by simp⟩
 | a :: r,t,b,h,e=>by
  rw [List.getLast?_cons_cons] at e
  obtain ⟨he,hi,hs⟩:Edge D a t∧In d (subP t a)∧Stk D d (a :: r):=by
   cases h with
   | two he hi hst=>exact ⟨he,hi,hst⟩
   | more he hi _ hst=>exact ⟨he,hi,hst⟩
  obtain ⟨h1,h2,h3,h5⟩:=Stk.way r a b hs e
  have h4:In d (subP t b):=by
   rcases h2 with rfl|h2
   ·exact hi
   ·exact h2.eq_add hi (sub_add b a t)
  refine ⟨by rw [List.reverse_cons];exact h1.snoc he,.inr h4,fun s hs' => ?_,fun s hs' => ?_⟩
  ·rw [List.reverse_cons,List.tail_append_of_ne_nil (by simp)] at hs'
   rcases List.mem_append.1 hs' with hs'|hs'
   ·exact h3 s hs'
   ·rw [List.mem_singleton.1 hs'];exact h4
  ·rcases List.mem_cons.1 hs' with rfl|hs'
   ·exact hi
   ·exact (h5 s hs').eq_add hi (sub_add s a t)
theorem chain_way {d a:Pt} {l:List Pt} (hs:Sorted d (a :: l)):∃ z,(a :: l).getLast?=some z∧Way (a :: l) a z (chain (a :: l))∧(∀ s∈(chain (a :: l)).tail,In d (subP s a))∧(∀ s∈(chain (a :: l)).dropLast,In d (subP z s)):=by
 obtain ⟨t',r',e,h1,h2,h3⟩:=chainGo_spec (d:=d) l [a] a [] (fun s hs' p hp=>by rw [List.mem_singleton.1 hs'];exact hs.1 p hp) hs.2 (.one (by simp) (by simp)) (by simp) (by simp);have e2:chainGo (a :: l) []=t' :: r':=e;obtain ⟨w1,w2,w3,w4⟩:=Stk.way r' t' a h1 h3
 have hlast:(a :: l).getLast?=some t':=by
  obtain ⟨z,hz⟩:∃ z,(a :: l).getLast?=some z:=⟨_,List.getLast?_cons⟩
  rw [hz];have hzm:z∈[a]++l:=List.mem_of_getLast? hz;rcases h2 z hzm with h4|h4
  ·rw [h4]
  ·have htm:t'∈a :: l:=h1.mem
   have hsort:∀ (m:List Pt),Sorted d m→m.getLast?=some z→∀ s∈m,s=z∨In d (subP z s):=by
    intro m
    induction m with
    | nil=>intro _ h;simp at h
    | cons b m ih =>
     intro hm hg s hs'
     cases m with
     | nil=>simp at hg hs';subst hg;exact .inl hs'
     | cons c m =>
      rw [List.getLast?_cons_cons] at hg;rcases List.mem_cons.1 hs' with rfl|hs'
      ·exact .inr (hm.1 z (List.mem_of_getLast? hg))
      ·exact ih hm.2 hg s hs'
   rcases hsort _ hs hz t' htm with h5|h5
   ·rw [h5]
   ·exact absurd h4 h5.anti
 refine ⟨t',hlast,?_,?_,?_⟩
 ·unfold chain;rw [e2];exact w1
 ·unfold chain;rw [e2];exact w3
 ·unfold chain;rw [e2,List.reverse_cons,List.dropLast_concat]
  exact fun s hs=>w4 s (by simpa using hs)
theorem Way.head {S:List Pt} {a b:Pt} {l:List Pt} (h:Way S a b l):∃ m,l=a :: m:=by
 cases h with
 | one=>exact ⟨_,rfl⟩
 | step _ _=>exact ⟨_,rfl⟩
theorem Way.ring {S:List Pt} {f a z:Pt} {l r:List Pt} (h:Way S a z l) (hr:Ring S f z r) (hn:∀ s∈l.tail,s≠f):Ring S f a (l.dropLast++r):=by
 induction h with
 | one=>exact hr
 | @step a b c l e hw ih =>
  obtain ⟨m,rfl⟩:=hw.head;rw [List.dropLast_cons_cons,List.cons_append];exact .step e (hn b (by simp)) (ih hr (fun s hs=>hn s (by simp at hs ⊢;exact .inr hs)))
theorem Way.close {S:List Pt} {f z:Pt} {l:List Pt} (h:Way S z f l) (hz:z≠f) (hn:∀ s∈l.dropLast,s≠f):Ring S f z l.dropLast:=by
 induction h with
 | one=>exact absurd rfl hz
 | @step a b c l e hw ih =>
  obtain ⟨m,rfl⟩:=hw.head;rw [List.dropLast_cons_cons] at hn ⊢
  by_cases hb:b=c
  ·subst hb
   cases m with
   | nil=>exact .last e
   | cons x m=>exact absurd rfl (hn b (by simp))
  ·exact .step e hb (ih hb (fun s hs=>hn s (by simp [hs])))
theorem in_turned {a s:Pt} (h:In (0,-1) (subP s a)):In (0,1) (subP a s):=by
 unfold In crossP dotP subP at *;grind
theorem sorted_iff (d:Pt):∀ l,Sorted d l↔l.Pairwise fun a s=>In d (subP s a)
 | []=>by simp [Sorted]
 | a :: l=>by rw [Sorted,List.pairwise_cons,sorted_iff d l]
theorem sorted_reverse {l:List Pt} (h:Sorted (0,-1) l):Sorted (0,1) l.reverse:=by
 rw [sorted_iff] at *;rw [List.pairwise_reverse];exact h.imp in_turned
def hullL (l:List Pt):List Pt:=if l.length<3 then l else (chain l).dropLast++(chain l.reverse).dropLast
theorem sorted_least {a:Pt} {l:List Pt} (h:Sorted (0,-1) (a :: l)):Least (a :: l) a:=by
 refine ⟨by simp,fun s hs => ?_⟩;rcases List.mem_cons.1 hs with rfl|hs
 ·exact less_irrefl s
 ·have h1:=h.1 s hs
  refine less_asymm ?_;rw [less_iff];unfold In crossP dotP subP at h1;grind
theorem hullL_isHull {l:List Pt} (h:Sorted (0,-1) l):IsHull l (hullL l):=by
 unfold hullL
 split
 ·rename_i hlt
  match l,hlt with
  | [],_=>exact .inl ⟨rfl,rfl⟩
  | [a],_=>exact .inr (.inl ⟨a,rfl,by simp,by simp⟩)
  | [a,b],_ =>
   have hne:a≠b:=fun e=>(h.1 b (by simp)).ne' e.symm
   have e1:Edge [a,b] a b:=by
    refine ⟨by simp,by simp,hne,fun s hs => ?_,fun s hs _ => ?_⟩
    all_goals simp only [List.mem_cons,List.not_mem_nil,or_false] at hs
    ·rcases hs with rfl|rfl
     ·rw [det_self];exact Rat.le_refl
     ·rw [det_self'];exact Rat.le_refl
    ·rcases hs with rfl|rfl
     ·exact btw_left _ _
     ·exact btw_right _ _
   have e2:Edge [a,b] b a:=by
    refine ⟨by simp,by simp,hne.symm,fun s hs => ?_,fun s hs _ => ?_⟩
    all_goals simp only [List.mem_cons,List.not_mem_nil,or_false] at hs
    ·rcases hs with rfl|rfl
     ·rw [det_self'];exact Rat.le_refl
     ·rw [det_self];exact Rat.le_refl
    ·rcases hs with rfl|rfl
     ·exact btw_right _ _
     ·exact btw_left _ _
   exact .inr (.inr ⟨a,sorted_least h,.step e1 hne.symm (.last e2)⟩)
 ·rename_i hlt
  match l,hlt,h with
  | [],hlt,_=>exact absurd (by simp) hlt
  | [_],hlt,_=>exact absurd (by simp) hlt
  | a :: b :: l,_,h =>
   obtain ⟨z,hz,w,ht,_⟩:=chain_way h;have hr:=sorted_reverse h;have hrev:∃ m,(a :: b :: l).reverse=z :: m:=by rw [← List.head?_reverse] at hz;exact List.head?_eq_some_iff.1 hz
   obtain ⟨m,hm⟩:=hrev;rw [hm] at hr;obtain ⟨f,hf,w2,ht2,hd2⟩:=chain_way hr
   have hfa:f=a:=by
    rw [← hm,List.getLast?_reverse] at hf
    simpa using hf.symm
   subst hfa;have hza:In (0,-1) (subP z f):=by refine h.1 z ?_;rw [List.getLast?_cons_cons] at hz;exact List.mem_of_getLast? hz
   rw [hm];have hmem:∀ s,s∈z :: m↔s∈f :: b :: l:=fun s=>by rw [← hm,List.mem_reverse]
   have hw2:Ring (z :: m) f z (chain (z :: m)).dropLast:=w2.close hza.ne' (fun s hs=>fun e=>(hd2 s hs).ne' e.symm);exact .inr (.inr ⟨f,sorted_least h,w.ring (hw2.congr hmem) (fun s hs=>(ht s hs).ne')⟩)
end Pl
end Go.Proofs.YtdkkjfnpinckjaaGreatDoor

namespace Go.Proofs.YtdkkjfnpinckjaaGreatDoor
namespace Pl

def edge (l:List Pt) (i:Nat):Pt×Pt:=(l.getD i (0,0),l.getD ((i+1)%l.length) (0,0))
def edges (l:List Pt):List (Pt×Pt):=if l.length<2 then [] else if l.length=2 then [(l.getD 0 (0,0),l.getD 1 (0,0))] else (List.range l.length).map (edge l)
def locE (p:Pt):List (Pt×Pt)→Int→Int
 | [],out=>out
 | s :: es,out=>if turn s.1 s.2 p=-1 then -1 else locE p es (if turn s.1 s.2 p=0 then 0 else out)
def locC (l:List Pt) (p:Pt):Int :=
 if l.length=0 then -1 else if l.length<3 then (if onSeg p (l.getD 0 (0,0)) (l.getD (l.length-1) (0,0)) then 0 else -1) else locE p (edges l) 1
def locF (l:List Pt) (p:Pt):Nat→Int
 | 0=>1
 | k+1=>min (locF l p k) (turn (edge l k).1 (edge l k).2 p)
def locR (l:List Pt) (p:Pt):Int :=
 if l.length=0 then -1 else if l.length=1 then (if l.getD 0 (0,0)=p then 0 else -1) else if l.length=2 then (if btwB p (l.getD 0 (0,0)) (l.getD 1 (0,0)) then 0 else -1) else locF l p l.length
theorem turn3 (a b p:Pt):turn a b p=-1∨turn a b p=0∨turn a b p=1:=by
 unfold turn sgn;generalize (det a b p).num=z;rcases Int.lt_trichotomy z 0 with h|h|h
 ·exact .inl (Int.sign_eq_neg_one_of_neg h)
 ·exact .inr (.inl (by rw [h];rfl))
 ·exact .inr (.inr (Int.sign_eq_one_of_pos h))
theorem getD_of {α:Type} {l:List α} {k:Nat} {x d:α} (h:l[k]?=some x):l.getD k d=x:=by
 rw [List.getD_eq_getElem?_getD,h];rfl
theorem drop_of {α:Type} {l:List α} {k:Nat} {x:α} (h:l[k]?=some x):l.drop k=x :: l.drop (k+1):=by
 obtain ⟨h1,h2⟩:=List.getElem?_eq_some_iff.1 h;rw [List.drop_eq_getElem_cons h1,h2]
theorem edges_length (l:List Pt):(edges l).length≤l.length:=by
 unfold edges;split
 ·simp
 ·split
  ·simp;omega
  ·simp
theorem edges_sz {n:Nat} {l:List Pt} (h:∀ q∈l,SzP n q):∀ s∈edges l,SzS n s:=by
 have H:∀ i,i<l.length→SzP n (l.getD i (0,0)):=fun i hi=>by
  rw [getD_of (List.getElem?_eq_getElem hi)];exact h _ (List.getElem_mem hi)
 intro s hs;unfold edges at hs
 split at hs
 ·simp at hs
 ·split at hs
  ·simp only [List.mem_singleton] at hs
   subst hs;exact ⟨H 0 (by omega),H 1 (by omega)⟩
  ·obtain ⟨i,hi,rfl⟩:=List.mem_map.1 hs
   have hi':=List.mem_range.1 hi;exact ⟨H i hi',H _ (Nat.mod_lt _ (by omega))⟩
def sameB:List Pt→List Pt→Bool
 | [],[]=>true
 | x :: a,y :: b=>decide (x=y)&&sameB a b
 | _,_=>false
theorem sameB_iff:∀ (a b:List Pt),sameB a b=decide (a=b)
 | [],[]=>by simp [sameB]
 | x :: a,y :: b=>by rw [sameB,sameB_iff a b];simp [Bool.eq_iff_iff]
 | [],_ :: _=>by simp [sameB]
 | _ :: _,[]=>by simp [sameB]
theorem locR3 (l:List Pt) (p:Pt):locR l p=-1∨locR l p=0∨locR l p=1:=by
 have H:∀ k,locF l p k=-1∨locF l p k=0∨locF l p k=1:=by
  intro k
  induction k with
  | zero=>exact .inr (.inr rfl)
  | succ k ih =>
   rw [locF];rcases ih with h|h|h<;>rcases turn3 (edge l k).1 (edge l k).2 p with h2|h2|h2<;>rw [h,h2]<;>decide
 unfold locR
 split
 ·exact .inl rfl
 ·split
  ·split
   ·exact .inr (.inl rfl)
   ·exact .inl rfl
  ·split
   ·split
    ·exact .inr (.inl rfl)
    ·exact .inl rfl
   ·exact H _
end Pl
end Go.Proofs.YtdkkjfnpinckjaaGreatDoor

namespace Go.Proofs.YtdkkjfnpinckjaaGreatDoor
namespace Pl

theorem less_in (p q:Pt):lessP p q=true↔In (0,-1) (subP q p):=by
 rw [less_iff];unfold In crossP dotP subP;simp only;constructor
 ·rintro (h|⟨h1,h2⟩)
  ·left;grind
  ·right;constructor<;>grind
 ·rintro (h|⟨h1,h2⟩)
  ·left;grind
  ·right;constructor<;>grind
theorem cmpP_lt (p q:Pt):cmpP p q<0↔lessP p q=true:=by unfold lessP;simp
theorem cmpP_cases (p q:Pt):(lessP p q=true∧cmpP p q<0)∨(p=q∧cmpP p q=0)∨(lessP q p=true∧0<cmpP p q):=by
 rcases less_total p q with h|h|h
 ·exact .inl ⟨h,(cmpP_lt p q).2 h⟩
 ·exact .inr (.inl ⟨h,(cmpP_zero p q).2 h⟩)
 ·refine .inr (.inr ⟨h,?_⟩)
  have h1:¬ cmpP p q<0:=fun e=>by rw [cmpP_lt,less_asymm h] at e;cases e
  have h2:cmpP p q≠0:=fun e=>by rw [(cmpP_zero p q).1 e,less_irrefl] at h;cases h
  omega
theorem prod_cases (a p b:Pt):0≤cmpP a p*cmpP p b↔¬ (lessP a p=true∧lessP b p=true)∧¬ (lessP p a=true∧lessP p b=true):=by
 rcases cmpP_cases a p with ⟨h1,h2⟩|⟨h1,h2⟩|⟨h1,h2⟩<;>rcases cmpP_cases p b with ⟨h3,h4⟩|⟨h3,h4⟩|⟨h3,h4⟩
 ·simp [h1,h3,less_asymm h1,less_asymm h3,Int.le_of_lt (Int.mul_pos_of_neg_of_neg h2 h4)]
 ·subst h3;simp [h4,less_irrefl,less_asymm h1]
 ·simp [h1,h3,Int.mul_neg_of_neg_of_pos h2 h4]
 ·subst h1;simp [h2,less_irrefl,less_asymm h3]
 ·subst h1;subst h3;simp [h2,less_irrefl]
 ·subst h1;simp [h2,less_irrefl,less_asymm h3]
 ·simp [h1,h3,Int.mul_neg_of_pos_of_neg h2 h4]
 ·subst h3;simp [h4,less_irrefl,less_asymm h1]
 ·simp [h1,h3,less_asymm h1,less_asymm h3,Int.le_of_lt (Int.mul_pos h2 h4)]
theorem onSeg_btw (p a b:Pt):onSeg p a b=btwB p a b:=by
 rw [Bool.eq_iff_iff,btw_iff];unfold onSeg;simp only [Bool.and_eq_true,Bool.or_eq_true,decide_eq_true_eq,prod_cases];have ht:turn a b p=0↔det a b p=0:=by unfold turn;exact sgn_zero_iff _
 rw [ht]
 by_cases hab:a=b
 ·subst hab
  constructor
  ·rintro ⟨h1,_,h|h⟩
   ·exact absurd rfl h
   ·subst h;refine ⟨h1,?_⟩;unfold dotP subP;grind
  ·rintro ⟨h1,h2⟩
   have hp:p=a:=by
    by_cases e:subP a p=(0,0)
    ·exact (sub_zero e).symm
    ·exact absurd h2 (Rat.not_le.2 (dot_self_pos e))
   subst hp;simp [h1,less_irrefl]
 ·constructor
  ·rintro ⟨h1,⟨h2,h3⟩,_⟩
   refine ⟨h1,?_⟩;have hc:crossP (subP a p) (subP b p)=0:=by have:=det_rot a b p;rw [h1] at this;unfold det crossP subP at *;grind
   rcases less_total a p with h|h|h
   ·rcases less_total b p with k|k|k
    ·exact absurd ⟨h,k⟩ h2
    ·subst k;unfold dotP subP;grind
    ·have i1:=(less_in a p).1 h
     have i2:=(less_in p b).1 k;have:=i1.same i2 (by unfold crossP subP at *;grind);unfold dotP subP at *;grind
   ·subst h;unfold dotP subP;grind
   ·rcases less_total b p with k|k|k
    ·have i1:=(less_in p a).1 h
     have i2:=(less_in b p).1 k;have:=i1.same i2 (by unfold crossP subP at *;grind);unfold dotP subP at *;grind
    ·subst k;unfold dotP subP;grind
    ·exact absurd ⟨h,k⟩ h3
  ·rintro ⟨h1,h2⟩
   have hc:crossP (subP a p) (subP b p)=0:=by have:=det_rot a b p;rw [h1] at this;unfold det crossP subP at *;grind
   refine ⟨h1,⟨?_,?_⟩,.inl hab⟩
   ·rintro ⟨h,k⟩
    have:=((less_in a p).1 h).same ((less_in b p).1 k) (by unfold crossP subP at *;grind);unfold dotP subP at *;grind
   ·rintro ⟨h,k⟩
    have:=((less_in p a).1 h).same ((less_in p b).1 k) hc;unfold dotP subP at *;grind
theorem locF_range (l:List Pt) (p:Pt):∀ k,locF l p k=(((List.range k).map (edge l)).map fun s=>turn s.1 s.2 p).foldl min 1
 | 0=>rfl
 | k+1=>by rw [locF,locF_range l p k,List.range_succ,List.map_append,List.map_append,List.foldl_append];rfl
theorem fold_low:∀ (ts:List Int),(∀ t∈ts,-1≤t)→ts.foldl min (-1)=-1
 | [],_=>rfl
 | t :: ts,h=>by
  rw [List.foldl_cons,show min (-1) t=-1 from by have:=h t (by simp);omega];exact fold_low ts fun x hx=>h x (by simp [hx])
theorem locE_fold (p:Pt):∀ (es:List (Pt×Pt)) (out:Int),out=0∨out=1→locE p es out=(es.map fun s=>turn s.1 s.2 p).foldl min out
 | [],_,_=>rfl
 | s :: es,out,h=>by
  rw [locE,List.map_cons,List.foldl_cons];rcases turn3 s.1 s.2 p with t|t|t
  ·rw [if_pos t,t,show min out (-1)=-1 from by omega,fold_low]
   intro x hx;obtain ⟨y,_,rfl⟩:=List.mem_map.1 hx;rcases turn3 y.1 y.2 p with h|h|h<;>omega
  ·rw [if_neg (by omega),if_pos t,t,locE_fold p es 0 (.inl rfl),show min out 0=0 from by omega]
  ·rw [if_neg (by omega),if_neg (by omega),t,locE_fold p es out h,show min out 1=out from by omega]
theorem locC_locR (l:List Pt) (p:Pt):locC l p=locR l p:=by
 unfold locC locR
 by_cases h0:l.length=0
 ·rw [if_pos h0,if_pos h0]
 rw [if_neg h0,if_neg h0]
 by_cases h1:l.length=1
 ·rw [if_pos (by omega),if_pos h1,h1,onSeg_btw]
  have:(btwB p (l.getD 0 (0,0)) (l.getD (1-1) (0,0))=true)↔l.getD 0 (0,0)=p:=by
   show btwB p (l.getD 0 (0,0)) (l.getD 0 (0,0))=true↔_;generalize l.getD 0 (0,0)=a;constructor
   ·intro h
    have:=((btw_iff _ _ _).1 h).2
    by_cases e:subP a p=(0,0)
    ·exact sub_zero e
    ·exact absurd this (Rat.not_le.2 (dot_self_pos e))
   ·rintro rfl;exact btw_left _ _
  simp only [this]
 rw [if_neg h1]
 by_cases h2:l.length=2
 ·rw [if_pos (by omega),if_pos h2,h2,onSeg_btw]
 ·rw [if_neg (by omega),if_neg h2,locE_fold p _ 1 (.inr rfl),locF_range]
  unfold edges;rw [if_neg (by omega),if_neg h2]
theorem turn_nonneg {a b p:Pt} (h:0≤det a b p):0≤turn a b p:=by
 have e:turn b a p≤0:=(turn_le b a p).2 (by rw [det_swap];grind);have:turn b a p=- turn a b p:=by unfold turn;rw [det_swap];unfold sgn;simp
 omega
theorem locF_nonneg {l:List Pt} {p:Pt} (h:∀ i,i<l.length→0≤turn (edge l i).1 (edge l i).2 p):∀ k,k≤l.length→0≤locF l p k
 | 0,_=>by rw [locF];decide
 | k+1,hk=>by
  rw [locF];have:=locF_nonneg h k (by omega);have:=h k (by omega);omega
theorem edge_get {l:List Pt} {i:Nat} (hi:i<l.length):edge l i=(l[i],l[(i+1)%l.length]'(Nat.mod_lt _ (by omega))):=by
 unfold edge;rw [getD_of (List.getElem?_eq_getElem hi),getD_of (List.getElem?_eq_getElem (Nat.mod_lt _ (by omega)))]
end Pl
end Go.Proofs.YtdkkjfnpinckjaaGreatDoor
