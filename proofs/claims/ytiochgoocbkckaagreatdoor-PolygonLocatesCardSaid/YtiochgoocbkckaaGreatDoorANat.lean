/-
 Plain facts on bytes, digits and the guess of a long division. No program in sight.
-/

set_option maxRecDepth 100000
set_option linter.unusedSimpArgs false
set_option linter.unusedVariables false
namespace Go.Proofs.YtiochgoocbkckaaGreatDoor
namespace Pl

def L (n:Nat):Nat:=if n=0 then 0 else Nat.log2 n/8+1

theorem pow256 (k:Nat):256 ^ k=2 ^ (8*k):=by rw [Nat.pow_mul]

theorem lt_L (n:Nat):n<256 ^ L n:=by
 unfold L
 split
 ·subst n;simp
 ·next h =>
  rw [pow256];have h1:n<2 ^ (Nat.log2 n+1):=Nat.lt_log2_self;exact Nat.lt_of_lt_of_le h1 (Nat.pow_le_pow_right (by omega) (by omega))

theorem L_le (n:Nat) (h:n≠0):256 ^ (L n-1)≤n:=by
 unfold L;rw [if_neg h,pow256];have h1:2 ^ (Nat.log2 n)≤n:=Nat.log2_self_le h;exact Nat.le_trans (Nat.pow_le_pow_right (by omega) (by omega)) h1

theorem L_le_iff (n k:Nat):L n≤k↔n<256 ^ k:=by
 constructor
 ·intro h;exact Nat.lt_of_lt_of_le (lt_L n) (Nat.pow_le_pow_right (by omega) h)
 ·intro h
  rcases Nat.lt_or_ge k (L n) with h1|h1
  ·have hn:n≠0:=by rintro rfl;simp [L] at h1
   have:=L_le n hn;have h2:256 ^ k≤256 ^ (L n-1):=Nat.pow_le_pow_right (by omega) (by omega);omega
  ·exact h1

theorem L_zero:L 0=0:=rfl
theorem L_pos {n:Nat} (h:n≠0):0<L n:=by unfold L;rw [if_neg h];omega
theorem L_eq_zero {n:Nat} : L n=0↔n=0:=by
 constructor
 ·intro h;rcases Nat.eq_zero_or_pos n with h1|h1
  ·exact h1
  ·have:=L_pos (n:=n) (by omega);omega
 ·rintro rfl;rfl
theorem L_mono {a b:Nat} (h:a≤b):L a≤L b:=(L_le_iff _ _).2 (Nat.lt_of_le_of_lt h (lt_L b))
theorem L_mul (a b:Nat):L (a*b)≤L a+L b:=by
 rw [L_le_iff,Nat.pow_add];exact Nat.mul_lt_mul'' (lt_L a) (lt_L b)
theorem L_add (a b:Nat):L (a+b)≤max (L a) (L b)+1:=by
 rw [L_le_iff,Nat.pow_add];have h1:=Nat.lt_of_lt_of_le (lt_L a) (Nat.pow_le_pow_right (n:=256) (by omega) (Nat.le_max_left (L a) (L b)));have h2:=Nat.lt_of_lt_of_le (lt_L b) (Nat.pow_le_pow_right (n:=256) (by omega) (Nat.le_max_right (L a) (L b)));omega
def byt (n i:Nat):Nat:=n/256 ^ i%256
def magL (n:Nat):List UInt8:=(List.range (L n)).map fun i=>UInt8.ofNat (byt n (L n-1-i))
theorem magL_length (n:Nat):(magL n).length=L n:=by simp [magL]
def valL (l:List UInt8):Nat:=l.foldl (fun a b=>a*256+b.toNat) 0

theorem valL_snoc (l:List UInt8) (b:UInt8):valL (l++[b])=valL l*256+b.toNat:=by simp [valL]


theorem valL_go (l:List UInt8):∀ a,l.foldl (fun a b=>a*256+b.toNat) a=a*256 ^ l.length+valL l:=by
 induction l with
 | nil=>intro a;simp [valL]
 | cons b l ih =>
  intro a;have h0:valL (b :: l)=b.toNat*256 ^ l.length+valL l:=by show List.foldl _ _ (b :: l)=_;rw [List.foldl_cons,ih];simp
  rw [List.foldl_cons,ih,h0,List.length_cons,Nat.pow_succ,Nat.add_mul,Nat.mul_assoc,Nat.mul_comm 256];omega
theorem valL_cons (b:UInt8) (l:List UInt8):valL (b :: l)=b.toNat*256 ^ l.length+valL l:=by
 show List.foldl _ _ (b :: l)=_;rw [List.foldl_cons,valL_go];simp
theorem valL_lt (l:List UInt8):valL l<256 ^ l.length:=by
 induction l with
 | nil=>simp [valL]
 | cons b l ih =>
  rw [valL_cons,List.length_cons,Nat.pow_succ];have:=b.toNat_lt;have h2:b.toNat*256 ^ l.length+256 ^ l.length≤256 ^ l.length*256:=by have:(b.toNat+1)*256 ^ l.length≤256*256 ^ l.length:=Nat.mul_le_mul_right _ (by omega);rw [Nat.add_mul] at this;omega
  omega
theorem valL_take_succ (l:List UInt8) (k:Nat) (h:k<l.length):valL (l.take (k+1))=valL (l.take k)*256+l[k].toNat:=by
 rw [List.take_succ_eq_append_getElem h,valL_snoc]

theorem valL_get (l:List UInt8) (i:Nat) (h:i<l.length):l[i].toNat=valL l/256 ^ (l.length-1-i)%256:=by
 induction l generalizing i with
 | nil=>simp at h
 | cons b l ih =>
  have hl:=valL_lt l;have hp:0<256 ^ l.length:=Nat.pow_pos (by omega);rw [valL_cons,List.length_cons]
  cases i with
  | zero =>
   simp only [List.getElem_cons_zero,Nat.add_sub_cancel,Nat.sub_zero];rw [Nat.mul_comm,Nat.mul_add_div hp,Nat.div_eq_of_lt hl];have:=b.toNat_lt;omega
  | succ i =>
   simp only [List.getElem_cons_succ,List.length_cons] at h ⊢;rw [ih i (by omega)];have e:l.length+1-1-(i+1)=l.length-1-i:=by omega
   rw [e];have e2:l.length=(l.length-1-i)+(i+1):=by omega
   generalize hv:valL l=v;generalize l.length-1-i=k at *;rw [e2,Nat.pow_add,← Nat.mul_assoc,Nat.mul_right_comm,Nat.mul_comm _ (256 ^ k),Nat.mul_add_div (Nat.pow_pos (by omega)),Nat.pow_succ,← Nat.mul_assoc];omega

theorem valL_inj (l m:List UInt8) (h:l.length=m.length) (hv:valL l=valL m):l=m:=by
 apply List.ext_getElem h;intro i h1 h2;apply UInt8.toNat_inj.1;rw [valL_get l i h1,valL_get m i h2,hv,h]

def canon (l:List UInt8):Prop:=l=[]∨l.head?≠some 0

theorem magL_get (n i:Nat) (h:i<(magL n).length):(magL n)[i].toNat=n/256 ^ (L n-1-i)%256:=by
 simp only [magL,List.getElem_map,List.getElem_range];unfold byt;rw [UInt8.toNat_ofNat'];omega

theorem valL_eq_of_get (l:List UInt8) (n:Nat) (hn:n<256 ^ l.length) (h:∀ i (hi:i<l.length),l[i].toNat=n/256 ^ (l.length-1-i)%256):valL l=n:=by
 suffices H:∀ k≤l.length,valL (l.take k)=n/256 ^ (l.length-k) by
  have:=H l.length (Nat.le_refl _)
  rwa [List.take_length,Nat.sub_self,Nat.pow_zero,Nat.div_one] at this
 intro k
 induction k with
 | zero=>intro _;simp [valL];exact (Nat.div_eq_of_lt hn).symm
 | succ k ih =>
  intro hk;rw [valL_take_succ l k (by omega),ih (by omega),h k (by omega)];have e:l.length-k=(l.length-(k+1))+1:=by omega
  have e3:l.length-1-k=l.length-(k+1):=by omega
  rw [e,e3,Nat.pow_succ,← Nat.div_div_eq_div_mul];omega

theorem valL_magL (n:Nat):valL (magL n)=n:=by
 apply valL_eq_of_get
 ·rw [magL_length];exact lt_L n
 ·intro i hi;rw [magL_get,magL_length]

theorem canon_len {l:List UInt8} (h:canon l):L (valL l)=l.length:=by
 cases l with
 | nil=>rfl
 | cons b l =>
  have hb:b≠0:=by
   rcases h with h|h
   ·cases h
   ·simpa using h
  have hb':0<b.toNat:=by
   rcases Nat.eq_zero_or_pos b.toNat with h0|h0
   ·exact absurd (UInt8.toNat_inj.1 (by simpa using h0)) hb
   ·exact h0
  apply Nat.le_antisymm
  ·exact (L_le_iff _ _).2 (valL_lt _)
  ·rcases Nat.lt_or_ge (L (valL (b :: l))) (b :: l).length with h1|h1
   ·have h2:=lt_L (valL (b :: l))
    have h3:256 ^ L (valL (b :: l))≤256 ^ l.length:=Nat.pow_le_pow_right (by omega) (by simp at h1;omega);rw [valL_cons] at h2;have:1*256 ^ l.length≤b.toNat*256 ^ l.length:=Nat.mul_le_mul_right _ hb';rw [← valL_cons] at h2;rw [valL_cons] at h2;have h4:valL (b :: l)=b.toNat*256 ^ l.length+valL l:=valL_cons b l;rw [← h4] at h2;omega
   ·exact h1

theorem magL_valL {l:List UInt8} (h:canon l):magL (valL l)=l:=by
 apply valL_inj
 ·rw [magL_length,canon_len h]
 ·exact valL_magL _

theorem magL_inj {a b:Nat} (h:magL a=magL b):a=b:=by rw [← valL_magL a,h,valL_magL]

end Pl
namespace Pl
def vB (b:Nat) (l:List Nat):Nat:=l.foldr (fun d a=>d+b*a) 0
def dg (b k n:Nat):List Nat:=(List.range k).map fun i=>n/b ^ i%b
theorem vB_nil (b:Nat):vB b []=0:=rfl
theorem vB_cons (b d:Nat) (l:List Nat):vB b (d :: l)=d+b*vB b l:=rfl
theorem vB_append (b:Nat) (l m:List Nat):vB b (l++m)=vB b l+b ^ l.length*vB b m:=by
 induction l with
 | nil=>simp [vB_nil]
 | cons d l ih=>rw [List.cons_append,vB_cons,vB_cons,ih,List.length_cons,Nat.pow_succ,Nat.mul_add,Nat.add_assoc,Nat.mul_comm _ b,Nat.mul_assoc]
theorem vB_single (b d:Nat):vB b [d]=d:=by simp [vB]
theorem vB_snoc (b d:Nat) (l:List Nat):vB b (l++[d])=vB b l+b ^ l.length*d:=by rw [vB_append,vB_single]
theorem vB_lt {b:Nat} {l:List Nat} (h:∀ d∈l,d<b):vB b l<b ^ l.length:=by
 induction l with
 | nil=>simp [vB_nil]
 | cons d l ih =>
  have h1:=ih (fun x hx=>h x (List.mem_cons_of_mem _ hx));have h2:=h d (List.mem_cons_self ..);rw [vB_cons,List.length_cons,Nat.pow_succ,Nat.mul_comm _ b];have h3:b*(vB b l+1)≤b*b ^ l.length:=Nat.mul_le_mul_left _ h1;rw [Nat.mul_add] at h3;omega
theorem vB_take_drop (b i:Nat) (l:List Nat) (hi:i≤l.length):vB b l=vB b (l.take i)+b ^ i*vB b (l.drop i):=by
 conv=>lhs;rw [← List.take_append_drop i l]
 rw [vB_append,List.length_take,Nat.min_eq_left hi]
theorem vB_drop {b i:Nat} {l:List Nat} (h:∀ d∈l,d<b) (hi:i≤l.length) (hb:0<b):vB b (l.drop i)=vB b l/b ^ i:=by
 have h1:=vB_lt (l:=l.take i) (b:=b) (fun d hd=>h d (List.mem_of_mem_take hd));rw [List.length_take,Nat.min_eq_left hi] at h1;rw [vB_take_drop b i l hi,Nat.add_mul_div_left _ _ (Nat.pow_pos hb),Nat.div_eq_of_lt h1,Nat.zero_add]
theorem vB_get {b i:Nat} {l:List Nat} (h:∀ d∈l,d<b) (hi:i<l.length) (hb:0<b):l[i]=vB b l/b ^ i%b:=by
 rw [← vB_drop h (by omega) hb,List.drop_eq_getElem_cons hi,vB_cons,Nat.add_mul_mod_self_left,Nat.mod_eq_of_lt (h _ (List.getElem_mem hi))]
theorem dg_length (b k n:Nat):(dg b k n).length=k:=by simp [dg]
theorem dg_get (b k n i:Nat) (h:i<(dg b k n).length):(dg b k n)[i]=n/b ^ i%b:=by simp [dg]
theorem dg_lt {b k n:Nat} (hb:0<b):∀ d∈dg b k n,d<b:=by
 intro d hd;simp only [dg,List.mem_map] at hd;obtain ⟨i,_,rfl⟩:=hd;exact Nat.mod_lt _ hb
theorem dg_zero (b n:Nat):dg b 0 n=[]:=rfl
theorem dg_succ (b k n:Nat):dg b (k+1) n=dg b k n++[n/b ^ k%b]:=by simp [dg,List.range_succ]
theorem dg_cons (b k n:Nat):dg b (k+1) n=n%b :: dg b k (n/b):=by
 simp only [dg,List.range_succ_eq_map,List.map_cons,List.map_map,Nat.pow_zero,Nat.div_one];congr 1;apply List.map_congr_left;intro i _;simp only [Function.comp_apply,Nat.succ_eq_add_one,Nat.pow_succ,Nat.mul_comm _ b,← Nat.div_div_eq_div_mul]
theorem vB_dg (b k n:Nat):vB b (dg b k n)=n%b ^ k:=by
 induction k generalizing n with
 | zero=>simp [dg_zero,vB_nil,Nat.mod_one]
 | succ k ih=>rw [dg_cons,vB_cons,ih,Nat.pow_succ,Nat.mul_comm _ b,Nat.mod_mul]
theorem vB_inj {b:Nat} {l m:List Nat} (hl:∀ d∈l,d<b) (hm:∀ d∈m,d<b) (hb:0<b) (h:l.length=m.length) (hv:vB b l=vB b m):l=m:=by
 apply List.ext_getElem h;intro i h1 h2;rw [vB_get hl h1 hb,vB_get hm h2 hb,hv]
theorem dg_vB {b:Nat} {l:List Nat} (hl:∀ d∈l,d<b) (hb:0<b):dg b l.length (vB b l)=l:=by
 apply vB_inj (dg_lt hb) hl hb
 ·rw [dg_length]
 ·rw [vB_dg,Nat.mod_eq_of_lt (vB_lt hl)]
theorem dg_mod (b k n:Nat) (hb:0<b):dg b k (n%b ^ k)=dg b k n:=by
 apply vB_inj (dg_lt hb) (dg_lt hb) hb
 ·rw [dg_length,dg_length]
 ·rw [vB_dg,vB_dg,Nat.mod_mod]
theorem dg_take (b k n i:Nat) (h:i≤k):(dg b k n).take i=dg b i n:=by
 simp only [dg,← List.map_take,List.take_range,Nat.min_eq_left h]
end Pl
namespace Pl
theorem kn_step {B p W Y v1 v2 y0 high u2 w0 g rest:Nat} (hY:Y=(v1*B+v2)*p+y0) (hW:W=(high*B+u2)*p+w0) (hw0:w0<p)
 (hg:g*v1+rest=high) (h:rest*B+u2<g*v2):W<g*Y:=by
 have h1:high*B+u2+1≤g*(v1*B+v2):=by
  have e:g*(v1*B+v2)=g*v1*B+g*v2:=by rw [Nat.mul_add,Nat.mul_assoc]
  rw [e,← hg,Nat.add_mul];omega
 have h2:(high*B+u2+1)*p≤g*(v1*B+v2)*p:=Nat.mul_le_mul_right p h1;have h3:g*(v1*B+v2)*p≤g*Y:=by rw [hY,Nat.mul_assoc];exact Nat.mul_le_mul_left g (Nat.le_add_right _ _)
 rw [Nat.add_mul _ 1 p] at h2;omega
theorem kn_exit {B p W Y v1 v2 y0 high u2 w0 g rest:Nat} (hY:Y=(v1*B+v2)*p+y0) (hy0:y0<p) (hW:W=(high*B+u2)*p+w0)
 (hg:g*v1+rest=high) (h:g*v2≤rest*B+u2) (hgB:g<B) (hv:1≤v1):g*Y<W+Y:=by
 have h1:g*(v1*B+v2)≤high*B+u2:=by
  have e:g*(v1*B+v2)=g*v1*B+g*v2:=by rw [Nat.mul_add,Nat.mul_assoc]
  rw [e,← hg,Nat.add_mul];omega
 have h2:g*(v1*B+v2)*p≤(high*B+u2)*p:=Nat.mul_le_mul_right p h1;have h3:g*Y=g*(v1*B+v2)*p+g*y0:=by rw [hY,Nat.mul_add,Nat.mul_assoc]
 have h4:g*y0≤g*p:=Nat.mul_le_mul_left g (by omega);have h5:g*p<B*p:=Nat.mul_lt_mul_of_pos_right hgB (by omega)
 have h6:B*p≤Y:=by
  rw [hY]
  have:1*B*p≤(v1*B+v2)*p:=Nat.mul_le_mul_right p (by
   have:=Nat.mul_le_mul_right B hv
   omega)
  rw [Nat.one_mul] at this;omega
 omega
theorem kn_high {B p W Y v1 v2 y0 high u2 w0:Nat} (hY:Y=(v1*B+v2)*p+y0) (hy0:y0<p) (hv2:v2<B) (hW:W=(high*B+u2)*p+w0) (hWY:W<Y*B):high<(v1+1)*B:=by
 have h1:Y<(v1+1)*B*p:=by have:(v1*B+v2+1)*p≤(v1+1)*B*p:=Nat.mul_le_mul_right p (by rw [Nat.add_mul v1 1 B];omega);rw [Nat.add_mul _ 1 p] at this;omega
 rcases Nat.lt_or_ge high ((v1+1)*B) with h|h
 ·exact h
 ·exfalso
  have h2:Y*B<(v1+1)*B*p*B:=Nat.mul_lt_mul_of_pos_right h1 (by omega);have h3:(v1+1)*B*p*B≤high*B*p:=by have:=Nat.mul_le_mul_right (p*B) h;grind
  have h4:high*B*p≤(high*B+u2)*p:=Nat.mul_le_mul_right p (by omega);omega

theorem kn_q {B W Y g:Nat} (hY:0<Y) (hWY:W<Y*B) (hlo:W/Y≤g) (hhi:g*Y<W+Y):W/Y<B∧(g=W/Y∨g=W/Y+1):=by
 refine ⟨(Nat.div_lt_iff_lt_mul hY).2 (by rw [Nat.mul_comm];exact hWY),?_⟩
 have h1:g≤W/Y+1:=by
  rcases Nat.eq_zero_or_pos g with h0|h0
  ·rw [h0];exact Nat.zero_le _
  ·have h2:(g-1)*Y≤W:=by
    have:(g-1)*Y+Y=g*Y:=by rw [← Nat.succ_mul];congr 1;omega
    omega
   have:=(Nat.le_div_iff_mul_le hY).2 h2;omega
 omega
end Pl
namespace Pl
theorem mod_step (n k:Nat):n%256 ^ (k+1)=n%256 ^ k+256 ^ k*(n/256 ^ k%256):=by rw [Nat.pow_succ,Nat.mod_mul]
theorem pow_split (k:Nat):256 ^ k=4294967296 ^ (k/4)*256 ^ (k%4):=by
 rw [show (4294967296:Nat)=256 ^ 4 from rfl,← Nat.pow_mul,← Nat.pow_add,Nat.div_add_mod]
theorem dig_low (n k:Nat):n%256 ^ k/4294967296 ^ (k/4)<256 ^ (k%4):=by
 apply Nat.div_lt_of_lt_mul;rw [← pow_split];exact Nat.mod_lt _ (Nat.pow_pos (by omega))
theorem pow_r (k:Nat):256 ^ (k%4)≤16777216:=by
 have:256 ^ (k%4)≤256 ^ 3:=Nat.pow_le_pow_right (by omega) (by omega)
 simpa using this
theorem dig_step (n k:Nat):n%256 ^ (k+1)/4294967296 ^ (k/4)%4294967296=n%256 ^ k/4294967296 ^ (k/4)%4294967296+(n/256 ^ k%256)*256 ^ (k%4):=by
 rw [mod_step];have h1:=dig_low n k;have h2:=pow_r k;have h3:n/256 ^ k%256<256:=Nat.mod_lt _ (by omega);generalize n/256 ^ k%256=b at *
 conv=>lhs;rw [pow_split k]
 rw [← pow_split k];have e:n%256 ^ k+4294967296 ^ (k/4)*256 ^ (k%4)*b=n%256 ^ k+4294967296 ^ (k/4)*(256 ^ (k%4)*b):=by rw [Nat.mul_assoc]
 rw [show 256 ^ k*b=4294967296 ^ (k/4)*(256 ^ (k%4)*b) from by rw [← Nat.mul_assoc,← pow_split],Nat.add_mul_div_left _ _ (Nat.pow_pos (by omega))];generalize n%256 ^ k/4294967296 ^ (k/4)=d at *;have h4:256 ^ (k%4)*b≤256 ^ (k%4)*255:=Nat.mul_le_mul_left _ (by omega);rw [Nat.mul_comm b];generalize 256 ^ (k%4)*b=y at *;omega
theorem dg_step (K n k:Nat):(dg 4294967296 K (n%256 ^ k)).set (k/4) (n%256 ^ (k+1)/4294967296 ^ (k/4)%4294967296)=dg 4294967296 K (n%256 ^ (k+1)):=by
 apply List.ext_getElem
 ·simp [dg_length]
 ·intro i h1 h2
  rw [List.getElem_set,dg_get]
  by_cases hi:k/4=i
  ·subst hi;rw [if_pos rfl,dg_get]
  ·rw [if_neg hi,dg_get]
   rcases Nat.lt_or_ge i (k/4) with h|h
   ·rw [mod_step,show (256:Nat) ^ k=4294967296 ^ i*(4294967296*(4294967296 ^ (k/4-i-1)*256 ^ (k%4))) from by
     rw [← Nat.mul_assoc,← Nat.mul_assoc,← Nat.pow_succ,← Nat.pow_add,show i+1+(k/4-i-1)=k/4 from by omega,← pow_split]]
    rw [Nat.mul_assoc,Nat.add_mul_div_left _ _ (Nat.pow_pos (by omega)),Nat.mul_assoc,Nat.add_mul_mod_self_left]
   ·have h3:256 ^ (k+1)≤4294967296 ^ i:=by
     rw [show (4294967296:Nat)=256 ^ 4 from rfl,← Nat.pow_mul];exact Nat.pow_le_pow_right (by omega) (by omega)
    have h4:n%256 ^ (k+1)<256 ^ (k+1):=Nat.mod_lt _ (Nat.pow_pos (by omega));have h5:n%256 ^ k<256 ^ k:=Nat.mod_lt _ (Nat.pow_pos (by omega));have h6:256 ^ k≤256 ^ (k+1):=Nat.pow_le_pow_right (by omega) (by omega);rw [Nat.div_eq_of_lt (by omega),Nat.div_eq_of_lt (by omega)]
end Pl
namespace Pl
def tlen (l:List Nat):Nat:=(l.reverse.dropWhile (· == 0)).length
theorem tlen_zero (l:List Nat):tlen (l++[0])=tlen l:=by simp [tlen]
theorem tlen_last (l:List Nat) (d:Nat) (h:d≠0):tlen (l++[d])=l.length+1:=by simp [tlen,h]
theorem tlen_le (l:List Nat):tlen l≤l.length:=by
 unfold tlen;have:=(List.dropWhile_sublist (· == 0) (l:=l.reverse)).length_le
 simpa using this
theorem tlen_take_zero (l:List Nat) (k:Nat) (h0:0<k) (hk:k≤l.length) (hz:l[k-1]'(by omega)=0):tlen (l.take k)=tlen (l.take (k-1)):=by
 have e:k=(k-1)+1:=by omega
 conv=>lhs;rw [e,List.take_succ_eq_append_getElem (by omega)]
 rw [hz,tlen_zero]
theorem tlen_take_last (l:List Nat) (k:Nat) (h0:0<k) (hk:k≤l.length) (hz:l[k-1]'(by omega)≠0):tlen (l.take k)=k:=by
 have e:k=(k-1)+1:=by omega
 conv=>lhs;rw [e,List.take_succ_eq_append_getElem (by omega)]
 rw [tlen_last _ _ hz,List.length_take];omega
theorem vB_tlen (b:Nat) (l:List Nat):vB b (l.take (tlen l))=vB b l:=by
 generalize hn:l.length=n
 induction n generalizing l with
 | zero => have : l = [] := List.eq_nil_of_length_eq_zero hn
           subst this;rfl
 | succ n ih =>
  have hne:l≠[]:=by intro h;rw [h] at hn;cases hn
  obtain ⟨l',d,rfl⟩:∃ l' d,l=l'++[d]:=⟨l.dropLast,l.getLast hne,(List.dropLast_concat_getLast hne).symm⟩
  have hl':l'.length=n:=by simpa using hn
  by_cases hd:d=0
  ·subst hd
   rw [tlen_zero,List.take_append_of_le_length (tlen_le _),ih l' hl',vB_snoc];simp
  ·rw [tlen_last _ _ hd,List.take_of_length_le (by simp)]
theorem valL_dropZeros (l:List UInt8):valL (l.dropWhile (· == 0))=valL l:=by
 induction l with
 | nil=>rfl
 | cons b l ih =>
  by_cases hb:b=0
  ·subst hb;rw [List.dropWhile_cons_of_pos (by simp),ih,valL_cons];simp
  ·rw [List.dropWhile_cons_of_neg (by simpa using hb)]
theorem canon_dropZeros (l:List UInt8):canon (l.dropWhile (· == 0)):=by
 induction l with
 | nil=>exact .inl rfl
 | cons b l ih =>
  by_cases hb:b=0
  ·subst hb;rw [List.dropWhile_cons_of_pos (by simp)];exact ih
  ·rw [List.dropWhile_cons_of_neg (by simpa using hb)];exact .inr (by simpa using hb)
theorem magL_dropZeros (l:List UInt8):l.dropWhile (· == 0)=magL (valL l):=by
 rw [← valL_dropZeros,magL_valL (canon_dropZeros l)]
def bytesOf (m v:Nat):List Nat:=(List.range m).map fun j=>v/256 ^ (m-1-j)%256
theorem bytesOf_length (m v:Nat):(bytesOf m v).length=m:=by simp [bytesOf]
theorem valL_bytesOf (m v:Nat) (hv:v<256 ^ m):valL ((bytesOf m v).map UInt8.ofNat)=v:=by
 apply valL_eq_of_get
 ·simpa [bytesOf] using hv
 ·intro i hi
  simp [bytesOf]
def bytesUp (M v t:Nat):List Nat:=(List.range M).map fun j=>if M-t≤j then v/256 ^ (M-1-j)%256 else 0
theorem bytesUp_length (M v t:Nat):(bytesUp M v t).length=M:=by simp [bytesUp]
theorem bytesUp_zero (M v:Nat):bytesUp M v 0=List.replicate M 0:=by
 apply List.ext_getElem
 ·simp [bytesUp]
 ·intro j h1 h2
  simp only [bytesUp,List.getElem_map,List.getElem_range,List.getElem_replicate];rw [if_neg (by simp [bytesUp] at h1;omega)]
theorem bytesUp_succ (M v t:Nat) (ht:t<M):(bytesUp M v t).set (M-1-t) (v/256 ^ t%256)=bytesUp M v (t+1):=by
 apply List.ext_getElem
 ·simp [bytesUp]
 ·intro j h1 h2
  rw [List.getElem_set];simp only [bytesUp,List.getElem_map,List.getElem_range];have hj:j<M:=by simpa [bytesUp] using h2
  by_cases h:M-1-t=j
  ·rw [if_pos h,if_pos (by omega),show M-1-j=t from by omega]
  ·rw [if_neg h]
   by_cases h3:M-t≤j
   ·rw [if_pos h3,if_pos (by omega)]
   ·rw [if_neg h3,if_neg (by omega)]
theorem bytesUp_full (M v:Nat):bytesUp M v M=bytesOf M v:=by
 unfold bytesUp bytesOf;apply List.map_congr_left;intro j _;rw [if_pos (by omega)]
theorem digit_byte (v i k:Nat) (hk:k<4):v/4294967296 ^ i%4294967296/256 ^ k%256=v/256 ^ (4*i+k)%256:=by
 have e:v/256 ^ (4*i+k)=v/4294967296 ^ i/256 ^ k:=by rw [Nat.div_div_eq_div_mul,show (4294967296:Nat)=256 ^ 4 from rfl,← Nat.pow_mul,← Nat.pow_add]
 rw [e];generalize v/4294967296 ^ i=d;rcases (show k=0∨k=1∨k=2∨k=3 from by omega) with rfl|rfl|rfl|rfl<;>simp<;>omega
def carry (b x y i:Nat):Nat:=(x%b ^ i+y%b ^ i)/b ^ i
theorem carry_zero (b x y:Nat):carry b x y 0=0:=by simp [carry,Nat.mod_one]
theorem carry_sum (b x y i:Nat) (hb:0<b):carry b x y i+x/b ^ i%b+y/b ^ i%b=(x%b ^ (i+1)+y%b ^ (i+1))/b ^ i:=by
 rw [Nat.pow_succ,Nat.mod_mul,Nat.mod_mul,carry]
 rw [show x%b ^ i+b ^ i*(x/b ^ i%b)+(y%b ^ i+b ^ i*(y/b ^ i%b))=x%b ^ i+y%b ^ i+b ^ i*(x/b ^ i%b+y/b ^ i%b) from by rw [Nat.mul_add];omega,
  Nat.add_mul_div_left _ _ (Nat.pow_pos hb)]
 omega
theorem carry_succ (b x y i:Nat) (hb:0<b):(carry b x y i+x/b ^ i%b+y/b ^ i%b)/b=carry b x y (i+1):=by
 rw [carry_sum b x y i hb,Nat.div_div_eq_div_mul,← Nat.pow_succ,carry]
theorem carry_digit (b x y i:Nat) (hb:0<b):(carry b x y i+x/b ^ i%b+y/b ^ i%b)%b=(x+y)/b ^ i%b:=by
 rw [carry_sum b x y i hb];have e:∀ z,z%b ^ (i+1)/b ^ i%b=z/b ^ i%b:=by intro z;rw [Nat.pow_succ,Nat.mod_mul,Nat.add_mul_div_left _ _ (Nat.pow_pos hb),Nat.div_eq_of_lt (Nat.mod_lt _ (Nat.pow_pos hb)),Nat.zero_add,Nat.mod_mod]
 rw [← e (x%b ^ (i+1)+y%b ^ (i+1)),← e (x+y),← Nat.add_mod]
theorem carry_le (b x y i:Nat) (hb:0<b):carry b x y i≤1:=by
 unfold carry;have hp:0<b ^ i:=Nat.pow_pos hb;have h1:=Nat.mod_lt x hp;have h2:=Nat.mod_lt y hp;exact Nat.lt_succ_iff.1 ((Nat.div_lt_iff_lt_mul hp).2 (by omega))
def mixD (b n s x i:Nat):List Nat:=dg b i s++(dg b n x).drop i
theorem mixD_zero (b n s x:Nat):mixD b n s x 0=dg b n x:=by simp [mixD,dg_zero]
theorem mixD_full (b n s x:Nat):mixD b n s x n=dg b n s:=by simp [mixD,dg_length]
theorem mixD_get (b n s x i:Nat) (h:i<n):(mixD b n s x i)[i]?=some (x/b ^ i%b):=by
 rw [mixD,List.getElem?_append_right (by rw [dg_length];exact Nat.le_refl _),dg_length,Nat.sub_self,List.getElem?_drop,Nat.add_zero,List.getElem?_eq_getElem (by rw [dg_length];exact h),dg_get]
theorem mixD_set (b n s x i:Nat) (h:i<n):(mixD b n s x i).set i (s/b ^ i%b)=mixD b n s x (i+1):=by
 unfold mixD;rw [List.set_append_right _ _ (by rw [dg_length];exact Nat.le_refl _),dg_length,Nat.sub_self,dg_succ,List.append_assoc,List.drop_eq_getElem_cons (by rw [dg_length];exact h)];rfl
def W (n:Nat):Nat:=(L n+3)/4
theorem lt_W (n:Nat):n<4294967296 ^ W n:=by
 rw [show (4294967296:Nat)=256 ^ 4 from rfl,← Nat.pow_mul];exact Nat.lt_of_lt_of_le (lt_L n) (Nat.pow_le_pow_right (by omega) (by unfold W;omega))
theorem dig_beyond (b n i k:Nat) (hb:0<b) (h:n<b ^ k) (hk:k≤i):n/b ^ i%b=0:=by
 rw [Nat.div_eq_of_lt (Nat.lt_of_lt_of_le h (Nat.pow_le_pow_right hb hk)),Nat.zero_mod]
theorem dg_pad (b n k m:Nat) (hb:0<b) (h:n<b ^ k):dg b k n++(dg b (k+m) 0).drop k=dg b (k+m) n:=by
 apply List.ext_getElem
 ·simp [dg_length]
 ·intro i h1 h2
  rw [dg_get];rcases Nat.lt_or_ge i k with hi|hi
  ·rw [List.getElem_append_left (by rw [dg_length];exact hi),dg_get]
  ·rw [List.getElem_append_right (by rw [dg_length];exact hi),List.getElem_drop,dg_get,dig_beyond b n i k hb h hi];simp
theorem W_mono {a b:Nat} (h:a≤b):W a≤W b:=by unfold W;have:=L_mono h;omega
theorem sum_lt (x y:Nat) (h:W y≤W x):x+y<4294967296 ^ (W x+1):=by
 have h1:=lt_W x;have h2:=Nat.lt_of_lt_of_le (lt_W y) (Nat.pow_le_pow_right (n:=4294967296) (by omega) h);rw [Nat.pow_succ];omega
theorem borrow_step (b x y i:Nat) (hb:0<b) (h:y≤x):∀ d:Int,d=(x/b ^ i%b:Nat)-(carry b (x-y) y i:Nat)-(y/b ^ i%b:Nat) →
 (d<0→d+b=((x-y)/b ^ i%b:Nat)∧carry b (x-y) y (i+1)=1)∧(0≤d→d=((x-y)/b ^ i%b:Nat)∧carry b (x-y) y (i+1)=0):=by
 have h1:=carry_digit b (x-y) y i hb;have h2:=carry_succ b (x-y) y i hb;have h3:=carry_le b (x-y) y i hb;have h4:(x-y)/b ^ i%b<b:=Nat.mod_lt _ hb;have h5:y/b ^ i%b<b:=Nat.mod_lt _ hb;have h6:x/b ^ i%b<b:=Nat.mod_lt _ hb;rw [Nat.sub_add_cancel h] at h1;generalize carry b (x-y) y i=c at *;generalize carry b (x-y) y (i+1)=c' at *;generalize (x-y)/b ^ i%b=z at *;generalize y/b ^ i%b=v at *;generalize x/b ^ i%b=u at *;have h7:b*c'+u=c+z+v:=by rw [← h1,← h2];exact Nat.div_add_mod _ _
 have h8:c'=0∨c'=1:=by
  have:c'<2:=by rw [← h2];exact (Nat.div_lt_iff_lt_mul hb).2 (by omega)
  omega
 intro d hd;rcases h8 with rfl|rfl
 ·simp only [Nat.mul_zero] at h7;omega
 ·simp only [Nat.mul_one] at h7;omega
def mcarry (b p d y k:Nat):Nat:=(p%b ^ k+d*(y%b ^ k))/b ^ k
theorem mcarry_zero (b p d y:Nat):mcarry b p d y 0=0:=by simp [mcarry,Nat.mod_one]
theorem mcarry_sum (b p d y k:Nat) (hb:0<b):mcarry b p d y k+p/b ^ k%b+d*(y/b ^ k%b)=(p%b ^ (k+1)+d*(y%b ^ (k+1)))/b ^ k:=by
 rw [Nat.pow_succ,Nat.mod_mul,Nat.mod_mul,mcarry,Nat.mul_add]
 rw [show p%b ^ k+b ^ k*(p/b ^ k%b)+(d*(y%b ^ k)+d*(b ^ k*(y/b ^ k%b)))=p%b ^ k+d*(y%b ^ k)+b ^ k*(p/b ^ k%b+d*(y/b ^ k%b)) from by
  rw [Nat.mul_add,← Nat.mul_assoc d,Nat.mul_comm d (b ^ k),Nat.mul_assoc];omega,
  Nat.add_mul_div_left _ _ (Nat.pow_pos hb)]
 omega
theorem mcarry_succ (b p d y k:Nat) (hb:0<b):(mcarry b p d y k+p/b ^ k%b+d*(y/b ^ k%b))/b=mcarry b p d y (k+1):=by
 rw [mcarry_sum b p d y k hb,Nat.div_div_eq_div_mul,← Nat.pow_succ,mcarry]
theorem mod_div_mod (b z k:Nat) (hb:0<b):z%b ^ (k+1)/b ^ k%b=z/b ^ k%b:=by
 rw [Nat.pow_succ,Nat.mod_mul,Nat.add_mul_div_left _ _ (Nat.pow_pos hb),Nat.div_eq_of_lt (Nat.mod_lt _ (Nat.pow_pos hb)),Nat.zero_add,Nat.mod_mod]
theorem mcarry_digit (b p d y k:Nat) (hb:0<b):(mcarry b p d y k+p/b ^ k%b+d*(y/b ^ k%b))%b=(p+d*y)/b ^ k%b:=by
 rw [mcarry_sum b p d y k hb,← mod_div_mod b _ k hb,← mod_div_mod b (p+d*y) k hb];congr 2;rw [Nat.add_mod,Nat.mod_mod,Nat.mul_mod,Nat.mod_mod,← Nat.mul_mod,← Nat.add_mod]
theorem mcarry_le (b p d y k:Nat) (hb:0<b):mcarry b p d y k≤d:=by
 unfold mcarry;have hp:0<b ^ k:=Nat.pow_pos hb;have h1:=Nat.mod_lt p hp;have h2:=Nat.mod_lt y hp;have h3:d*(y%b ^ k)≤d*(b ^ k-1):=Nat.mul_le_mul_left _ (by omega);rw [Nat.mul_sub] at h3;have h4:d≤d*b ^ k:=Nat.le_mul_of_pos_right _ hp;refine Nat.lt_succ_iff.1 ((Nat.div_lt_iff_lt_mul hp).2 ?_);rw [Nat.succ_mul];omega
theorem mul_lt_pow {x y i j b:Nat} (hx:x<b ^ i) (hy:y<b ^ j):x*y<b ^ (i+j):=by
 rw [Nat.pow_add];exact Nat.mul_lt_mul'' hx hy
theorem low_digit (b p q i j:Nat) (hb:0<b) (h:j<i):(p+b ^ i*q)/b ^ j%b=p/b ^ j%b:=by
 rw [show b ^ i=b ^ j*(b*b ^ (i-j-1)) from by rw [← Nat.pow_succ',← Nat.pow_add];congr 1;omega,Nat.mul_assoc,Nat.add_mul_div_left _ _ (Nat.pow_pos hb),Nat.mul_assoc,Nat.add_mul_mod_self_left]
theorem dg_low_eq (b i p q:Nat) (hb:0<b):dg b i (p+b ^ i*q)=dg b i p:=by
 apply List.ext_getElem
 ·simp [dg_length]
 ·intro j h1 h2
  rw [dg_get,dg_get,low_digit b p q i j hb (by simpa [dg_length] using h2)]
theorem mixD_start (b n i p q:Nat) (hb:0<b) (h:i≤n):mixD b n (p+b ^ i*q) p i=dg b n p:=by
 unfold mixD;rw [dg_low_eq b i p q hb,← dg_take b n p i h,List.take_append_drop]
theorem mixD_end (b n i t p:Nat) (hb:0<b) (h:i≤n) (ht:t<b ^ i) (hp:p<b ^ i):mixD b n t p i=dg b n t:=by
 unfold mixD;apply List.ext_getElem
 ·simp [dg_length];omega
 ·intro j h1 h2
  rw [dg_get];rcases Nat.lt_or_ge j i with hj|hj
  ·rw [List.getElem_append_left (by rw [dg_length];exact hj),dg_get]
  ·rw [List.getElem_append_right (by rw [dg_length];exact hj),List.getElem_drop,dg_get,dig_beyond b t j i hb ht hj,dg_length,show i+(j-i)=j from by omega,dig_beyond b p j i hb hp hj]
theorem mul_round (b x y i:Nat):(x%b ^ i)*y+b ^ i*((x/b ^ i%b)*y)=(x%b ^ (i+1))*y:=by
 rw [Nat.pow_succ,Nat.mod_mul,Nat.add_mul,Nat.mul_assoc]
theorem shift_digit (b p q i k:Nat) (hb:0<b):(p+b ^ i*q)/b ^ (i+k)%b=(p/b ^ i+q)/b ^ k%b:=by
 rw [Nat.pow_add,← Nat.div_div_eq_div_mul,Nat.add_mul_div_left _ _ (Nat.pow_pos hb)]
theorem mcarry_last (b p d y m:Nat) (hp:p<b ^ m) (hy:y<b ^ m) (hb:0<b) (hd:d<b):mcarry b p d y m=(p+d*y)/b ^ m%b:=by
 have h:=mcarry_le b p d y m hb;unfold mcarry at *;rw [Nat.mod_eq_of_lt hp,Nat.mod_eq_of_lt hy] at *;rw [Nat.mod_eq_of_lt (by omega)]
theorem mixD_getLow (b n s x k:Nat) (h:0<k):(mixD b n s x k)[k-1]?=some (s/b ^ (k-1)%b):=by
 rw [mixD,List.getElem?_append_left (by rw [dg_length];omega),List.getElem?_eq_getElem (by rw [dg_length];omega),dg_get]
theorem mixD_back (b n s x k:Nat) (h:0<k) (hk:k≤n):(mixD b n s x k).set (k-1) (x/b ^ (k-1)%b)=mixD b n s x (k-1):=by
 obtain ⟨j,rfl⟩:∃ j,k=j+1:=⟨k-1,by omega⟩
 simp only [Nat.add_sub_cancel];unfold mixD;rw [List.set_append_left _ _ (by rw [dg_length];omega),dg_succ,List.set_append_right _ _ (by rw [dg_length];exact Nat.le_refl _),dg_length,Nat.sub_self,List.drop_eq_getElem_cons (i:=j) (by rw [dg_length];omega),dg_get];simp
theorem short_step (b V y k:Nat) (hb:0<b) (hy:0<y) (hk:0<k) :
 (V/b ^ k%y*b+V/b ^ (k-1)%b)/y=V/y/b ^ (k-1)%b∧(V/b ^ k%y*b+V/b ^ (k-1)%b)%y=V/b ^ (k-1)%y:=by
 have e1:V/b ^ k=V/b ^ (k-1)/b:=by rw [Nat.div_div_eq_div_mul,← Nat.pow_succ];congr 2;omega
 have e2:V/y/b ^ (k-1)=V/b ^ (k-1)/y:=by rw [Nat.div_div_eq_div_mul,Nat.div_div_eq_div_mul,Nat.mul_comm]
 rw [e1,e2];generalize V/b ^ (k-1)=u;have h1:u=(u/b)*b+u%b:=by rw [Nat.mul_comm];exact (Nat.div_add_mod u b).symm
 have h2:u/b=y*(u/b/y)+u/b%y:=(Nat.div_add_mod _ _).symm;have h3:u/b%y<y:=Nat.mod_lt _ hy;have h4:u%b<b:=Nat.mod_lt _ hb
 have h5:u=y*(u/b/y*b)+(u/b%y*b+u%b):=by
  conv=>lhs;rw [h1,h2]
  rw [Nat.add_mul,Nat.mul_assoc,Nat.add_assoc]
 generalize u/b%y=r at *;generalize u/b/y=q at *;generalize u%b=d at *;have h6:r*b+d<y*b:=by have:(r+1)*b≤y*b:=Nat.mul_le_mul_right b h3;rw [Nat.add_mul] at this;omega
 constructor
 ·rw [h5,Nat.mul_add_div hy,Nat.add_comm (q*b),Nat.add_mul_mod_self_right,Nat.mod_eq_of_lt ((Nat.div_lt_iff_lt_mul hy).2 (by rw [Nat.mul_comm b];exact h6))]
 ·rw [h5,Nat.mul_add_mod]
theorem sh_low (V s i:Nat) (hs:s<32):V%4294967296 ^ i*2 ^ s/4294967296 ^ i<2 ^ s∧2 ^ s≤2147483648:=by
 have hp:0<4294967296 ^ i:=Nat.pow_pos (by omega);refine ⟨(Nat.div_lt_iff_lt_mul hp).2 ?_,?_⟩
 ·rw [Nat.mul_comm];exact Nat.mul_lt_mul_of_pos_left (Nat.mod_lt _ hp) (Nat.two_pow_pos s)
 ·have:2 ^ s≤2 ^ 31:=Nat.pow_le_pow_right (by omega) (by omega)
  simpa using this
theorem sh_word (d s:Nat) (hs:s<32):d*2 ^ s%4294967296%2 ^ s=0∧d*2 ^ s%4294967296+2 ^ s≤4294967296:=by
 have e:(4294967296:Nat)=2 ^ s*2 ^ (32-s):=by rw [← Nat.pow_add,show s+(32-s)=32 from by omega]
 have h:d*2 ^ s%4294967296=2 ^ s*(d%2 ^ (32-s)):=by rw [e,Nat.mul_comm d,Nat.mul_mod_mul_left]
 rw [h];refine ⟨Nat.mul_mod_right _ _,?_⟩;have h1:d%2 ^ (32-s)<2 ^ (32-s):=Nat.mod_lt _ (Nat.two_pow_pos _)
 calc 2 ^ s*(d%2 ^ (32-s))+2 ^ s=2 ^ s*(d%2 ^ (32-s)+1):=by rw [Nat.mul_add,Nat.mul_one]
  _≤2 ^ s*2 ^ (32-s):=Nat.mul_le_mul_left _ h1
  _=4294967296:=e.symm
theorem sh_round (V s i:Nat):V%4294967296 ^ (i+1)*2 ^ s=V%4294967296 ^ i*2 ^ s+4294967296 ^ i*(V/4294967296 ^ i%4294967296*2 ^ s):=by
 rw [Nat.pow_succ,Nat.mod_mul,Nat.add_mul,Nat.mul_assoc]
theorem sh_set (n L d s i T:Nat) (hT:T<4294967296 ^ (i+1)) (hL:T/4294967296 ^ i=L) (hs:s<32) (hLs:L<2 ^ s) (hd:d<4294967296) :
 ((dg 4294967296 (n+1) T).set i (L+d*2 ^ s%4294967296)).set (i+1) (d*2 ^ s/4294967296)=dg 4294967296 (n+1) (T+4294967296 ^ i*(d*2 ^ s)):=by
 obtain ⟨hw1,hw2⟩:=sh_word d s hs
 have hd2:d*2 ^ s<4294967296*2147483648+1:=by
  have h1:2 ^ s≤2147483648:=by
   have:2 ^ s≤2 ^ 31:=Nat.pow_le_pow_right (by omega) (by omega)
   simpa using this
  exact Nat.lt_succ_of_le (Nat.mul_le_mul (by omega) h1)
 have hT':T+4294967296 ^ i*(d*2 ^ s)<4294967296 ^ (i+2):=by
  have h2:T+4294967296 ^ i*(d*2 ^ s)<4294967296 ^ i*4294967296+4294967296 ^ i*(4294967296*2147483648):=by rw [Nat.pow_succ] at hT;exact Nat.add_lt_add_of_lt_of_le hT (Nat.mul_le_mul_left _ (by omega))
  rw [← Nat.mul_add] at h2;refine Nat.lt_of_lt_of_le h2 ?_;rw [Nat.pow_add];exact Nat.mul_le_mul_left _ (by decide)
 apply List.ext_getElem
 ·simp [dg_length]
 ·intro j h1 h2
  rw [List.getElem_set,List.getElem_set,dg_get,dg_get]
  by_cases e1:i+1=j
  ·subst e1
   rw [if_pos rfl,shift_digit 4294967296 T _ i 1 (by omega),hL];generalize d*2 ^ s=q at *;omega
  ·rw [if_neg e1]
   by_cases e2:i=j
   ·subst e2
    have h3:=shift_digit 4294967296 T (d*2 ^ s) i 0 (by omega);rw [Nat.add_zero,Nat.pow_zero,Nat.div_one,hL] at h3;rw [if_pos rfl,h3];generalize d*2 ^ s=q at *;omega
   ·rw [if_neg e2]
    rcases Nat.lt_or_ge j i with h|h
    ·rw [low_digit _ _ _ _ _ (by omega) h]
    ·rw [dig_beyond _ T j (i+1) (by omega) hT (by omega),dig_beyond _ _ j (i+2) (by omega) hT' (by omega)]
end Pl
end Go.Proofs.YtiochgoocbkckaaGreatDoor
