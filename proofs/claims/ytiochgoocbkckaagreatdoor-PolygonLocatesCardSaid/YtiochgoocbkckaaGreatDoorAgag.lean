/-
 Contracts of package integer: quotient and remainder of two magnitudes, all sizes.
 Fractions: how many bytes their parts have; signs; what the numerators over a common denominator say.
 Contracts of package integer: products and sums of signed integers.
 Contracts of package integer: signed integers from machine integers, and compared.
 Contracts of package integer: the greatest common divisor.
-/
import Derived.Test.YtiochgoocbkckaaGreatDoorADivK
import Derived.Test.YtiochgoocbkckaaGreatDoorANat
import Derived.Test.YtiochgoocbkckaaGreatDoorAgad
set_option maxRecDepth 100000
set_option linter.unusedSimpArgs false
set_option linter.unusedVariables false
namespace Go.Proofs.YtiochgoocbkckaaGreatDoor
open Go Go.RowKit Go.Shelf

theorem div_any (a b:Nat) (w:World) (ha:Pl.L a≤67108864) (hb:Pl.L b≤67108864) (h0:b≠0) :
 Calls Tryz.prog 191 #[.string (mg a),.string (mg b)] w fun e w'=>e=.returned (.tuple #[.string (mg (a/b)),.string (mg (a%b))])∧Below w.heap.size w w':=by
 by_cases h:Pl.L a≤8∧Pl.L b≤8
 ·exact div_small a b w h.1 h.2 h0
 have h':8<Pl.L a∨8<Pl.L b:=by omega
 rcases Nat.lt_or_ge a b with hab|hab
 ·exact div_less a b w h' hab
 have hw:1≤Pl.W b:=by have:=Pl.L_pos h0;unfold Pl.W;omega
 by_cases h1:Pl.W b=1
 ·exact div_digit a b w ha hb h' hab h1
 ·exact div_long a b w ha hb h' hab (by omega)
end Go.Proofs.YtiochgoocbkckaaGreatDoor

namespace Go.Proofs.YtiochgoocbkckaaGreatDoor
namespace Pl

def Sz (k:Nat) (q:Rat):Prop:=L q.num.natAbs≤k∧L q.den≤k
theorem Sz.mono {i j:Nat} {q:Rat} (h:Sz i q) (hij:i≤j):Sz j q:=⟨Nat.le_trans h.1 hij,Nat.le_trans h.2 hij⟩
theorem Sz.pos {k:Nat} {q:Rat} (h:Sz k q):1≤k:=Nat.le_trans (L_pos q.den_nz) h.2
theorem Sz.neg {k:Nat} {q:Rat} (h:Sz k q):Sz k (-q):=by
 unfold Sz at *;rw [Rat.neg_num,Rat.neg_den,Int.natAbs_neg];exact h
theorem sz_int {n:Int} {k:Nat} (h:L n.natAbs≤k) (hk:1≤k):Sz k (n:Rat):=by
 unfold Sz;rw [Rat.num_intCast,Rat.den_intCast];exact ⟨h,hk⟩
theorem sz_zero:Sz 1 (0:Rat):=⟨by decide,by decide⟩
theorem mkRat_num_le (n:Int) (d:Nat) (_h:d≠0):(mkRat n d).num.natAbs≤n.natAbs:=by
 rw [Rat.num_mkRat]
 split
 ·simp
 ·rw [Int.natAbs_ediv_of_dvd (Int.ofNat_dvd_left.2 (Nat.gcd_dvd_right _ _)),Int.natAbs_natCast];exact Nat.div_le_self _ _
theorem mkRat_den_le (n:Int) (d:Nat) (h:d≠0):(mkRat n d).den≤d:=by
 rw [Rat.den_mkRat,if_neg h];exact Nat.div_le_self _ _
theorem sz_mkRat {n:Int} {d k:Nat} (h:d≠0) (hn:L n.natAbs≤k) (hd:L d≤k):Sz k (mkRat n d) :=
 ⟨Nat.le_trans (L_mono (mkRat_num_le n d h)) hn,Nat.le_trans (L_mono (mkRat_den_le n d h)) hd⟩
theorem L_natAbs_mul (a b:Int):L (a*b).natAbs≤L a.natAbs+L b.natAbs:=by rw [Int.natAbs_mul];exact L_mul _ _
theorem L_natAbs_add (a b:Int):L (a+b).natAbs≤max (L a.natAbs) (L b.natAbs)+1 :=
 Nat.le_trans (L_mono (Int.natAbs_add_le a b)) (L_add _ _)
theorem Sz.add {i j:Nat} {a b:Rat} (ha:Sz i a) (hb:Sz j b):Sz (i+j+1) (a+b):=by
 have h1:=ha.1;have h2:=ha.2;have h3:=hb.1;have h4:=hb.2;rw [Rat.add_def'];refine sz_mkRat (Nat.mul_ne_zero a.den_nz b.den_nz) ?_ ?_
 ·have e1:=L_natAbs_mul a.num b.den
  have e2:=L_natAbs_mul b.num a.den;rw [Int.natAbs_natCast] at e1 e2;have:=L_natAbs_add (a.num*b.den) (b.num*a.den);omega
 ·have:=L_mul a.den b.den;omega
theorem Sz.sub {i j:Nat} {a b:Rat} (ha:Sz i a) (hb:Sz j b):Sz (i+j+1) (a-b):=by
 rw [Rat.sub_eq_add_neg];exact ha.add hb.neg
theorem Sz.mul {i j:Nat} {a b:Rat} (ha:Sz i a) (hb:Sz j b):Sz (i+j) (a*b):=by
 have h1:=ha.1;have h2:=ha.2;have h3:=hb.1;have h4:=hb.2;rw [Rat.mul_def'];refine sz_mkRat (Nat.mul_ne_zero a.den_nz b.den_nz) ?_ ?_
 ·have:=L_natAbs_mul a.num b.num;omega
 ·have:=L_mul a.den b.den;omega
theorem Sz.inv {k:Nat} {q:Rat} (h:Sz k q):Sz k q⁻¹:=by
 unfold Sz;rw [Rat.num_inv,Rat.den_inv];refine ⟨?_,?_⟩
 ·rw [Int.natAbs_mul,Int.natAbs_natCast]
  refine Nat.le_trans (L_mono ?_) h.2;rcases Int.lt_trichotomy q.num 0 with h|h|h
  ·rw [Int.sign_eq_neg_one_of_neg h];simp
  ·rw [h];simp
  ·rw [Int.sign_eq_one_of_pos h];simp
 ·split
  ·exact h.pos
  ·exact h.1
theorem Sz.div {i j:Nat} {a b:Rat} (ha:Sz i a) (hb:Sz j b):Sz (i+j) (a/b):=by
 rw [Rat.div_def];exact ha.mul hb.inv

def sgn (q:Rat):Int:=q.num.sign
def cmpQ (a b:Rat):Int:=sgn (a-b)
theorem num_pos_iff (q:Rat):0<q.num↔0<q:=by
 have h:=@Rat.num_nonneg q;have h2:=@Rat.num_eq_zero q;rw [Rat.lt_iff_le_and_ne,← h];constructor
 ·intro h3;exact ⟨by omega,fun e=>by rw [← e] at h3;simp at h3⟩
 ·rintro ⟨h3,h4⟩
  have:q.num≠0:=fun e=>h4 (h2.1 e).symm
  omega
theorem num_neg_iff (q:Rat):q.num<0↔q<0:=by
 rw [← Rat.not_le,← Rat.num_nonneg];omega
theorem sgn_cases (q:Rat):(q<0∧sgn q=-1)∨(q=0∧sgn q=0)∨(0<q∧sgn q=1):=by
 unfold sgn;rcases Int.lt_trichotomy q.num 0 with h|h|h
 ·exact .inl ⟨(num_neg_iff q).1 h,Int.sign_eq_neg_one_of_neg h⟩
 ·exact .inr (.inl ⟨Rat.num_eq_zero.1 h,by rw [h];rfl⟩)
 ·exact .inr (.inr ⟨(num_pos_iff q).1 h,Int.sign_eq_one_of_pos h⟩)
theorem sgn_zero_iff (q:Rat):sgn q=0↔q=0:=by rcases sgn_cases q with h|h|h<;>grind
theorem sgn_nonpos_iff (q:Rat):sgn q≤0↔q≤0:=by rcases sgn_cases q with h|h|h<;>grind
theorem sgn_gt_iff (q:Rat):0<sgn q↔0<q:=by rcases sgn_cases q with h|h|h<;>grind
theorem sgn_lt_iff (q:Rat):sgn q<0↔q<0:=by rcases sgn_cases q with h|h|h<;>grind
theorem sgn_bd (q:Rat) : -1≤sgn q∧sgn q≤1:=by rcases sgn_cases q with h|h|h<;>omega
theorem sgn_neg (q:Rat):sgn (-q)=- sgn q:=by unfold sgn;rw [Rat.neg_num,Int.sign_neg]
theorem cmp_zero_iff (a b:Rat):cmpQ a b=0↔a=b:=by
 unfold cmpQ;rw [sgn_zero_iff];constructor<;>intro h<;>grind
theorem cmp_lt_iff (a b:Rat):cmpQ a b<0↔a<b:=by
 unfold cmpQ;rw [sgn_lt_iff];constructor<;>intro h<;>grind
theorem cmp_self (a:Rat):cmpQ a a=0:=(cmp_zero_iff a a).2 rfl
theorem cmp_bd (a b:Rat) : -1≤cmpQ a b∧cmpQ a b≤1:=sgn_bd _
def cmpI (a b:Int):Int:=if a<b then -1 else if b<a then 1 else 0
theorem cmp_nums (a b:Rat):cmpI (a.num*b.den) (b.num*a.den)=cmpQ a b:=by
 have h1:=Rat.lt_iff a b;have h2:=Rat.lt_iff b a;unfold cmpI;rcases sgn_cases (a-b) with ⟨h,e⟩|⟨h,e⟩|⟨h,e⟩<;>rw [cmpQ,e]
 ·rw [if_pos (h1.1 (by grind))]
 ·have e2:a=b:=by grind
  subst e2;simp
 ·have:=h2.1 (by grind)
  rw [if_neg (by omega),if_pos this]
theorem cmp_same (a b:Rat) (h:a.den=b.den):cmpI a.num b.num=cmpQ a b:=by
 rw [← cmp_nums,h];have hp:(0:Int)<b.den:=Int.natCast_pos.2 b.den_pos;unfold cmpI;simp only [Int.mul_lt_mul_right hp]
theorem add_same (a b:Rat) (h:a.den=b.den):mkRat (a.num+b.num) a.den=a+b:=by
 rw [Rat.add_def',h,← Int.add_mul,Rat.mkRat_mul_right b.den_nz]
theorem add_nums (a b:Rat):mkRat (a.num*b.den+b.num*a.den) (a.den*b.den)=a+b:=(Rat.add_def' a b).symm
theorem mul_nums (a b:Rat):mkRat (a.num*b.num) (a.den*b.den)=a*b:=(Rat.mul_def' a b).symm
theorem div_nums (a b:Rat):Rat.divInt (a.num*b.den) (a.den*b.num)=a/b:=by
 rw [Rat.div_def,Rat.inv_def,← Rat.divInt_mul_divInt,Rat.num_divInt_den]

end Pl
end Go.Proofs.YtiochgoocbkckaaGreatDoor

namespace Go.Proofs.YtiochgoocbkckaaGreatDoor
open Go Go.RowKit

theorem mul_sign (a b:Int):(!(ng a==ng b)&&decide (a.natAbs*b.natAbs≠0))=ng (a*b):=by
 unfold ng;rcases Int.lt_trichotomy a 0 with h|rfl|h<;>rcases Int.lt_trichotomy b 0 with k|rfl|k
 ·have:=Int.mul_pos_of_neg_of_neg h k
  rw [decide_eq_true h,decide_eq_true k,decide_eq_false (by omega:¬ a*b<0)];rfl
 ·simp
 ·have:=Int.mul_neg_of_neg_of_pos h k
  rw [decide_eq_true h,decide_eq_false (by omega:¬ b<0),decide_eq_true this,decide_eq_true (Nat.mul_ne_zero (by omega) (by omega))];rfl
 ·simp
 ·simp
 ·simp
 ·have:=Int.mul_neg_of_pos_of_neg h k
  rw [decide_eq_true k,decide_eq_false (by omega:¬ a<0),decide_eq_true this,decide_eq_true (Nat.mul_ne_zero (by omega) (by omega))];rfl
 ·simp
 ·have:=Int.mul_pos h k
  rw [decide_eq_false (by omega:¬ a<0),decide_eq_false (by omega:¬ b<0),decide_eq_false (by omega:¬ a*b<0)];rfl

theorem add_sign_same {a b:Int} (h:ng a=ng b):(ng a&&decide (a.natAbs+b.natAbs≠0))=ng (a+b)∧(a+b).natAbs=a.natAbs+b.natAbs:=by
 unfold ng at *;rw [Bool.eq_iff_iff] at h ⊢;simp only [decide_eq_true_eq,Bool.and_eq_true] at *;omega
theorem add_sign_far {a b:Int} (h:ng a≠ng b) (hc:b.natAbs≤a.natAbs):(ng a&&decide (a.natAbs-b.natAbs≠0))=ng (a+b)∧(a+b).natAbs=a.natAbs-b.natAbs:=by
 unfold ng at *;rw [Bool.eq_iff_iff];simp only [ne_eq,decide_eq_true_eq,Bool.and_eq_true,decide_eq_decide] at *;omega
theorem add_sign_near {a b:Int} (h:ng a≠ng b) (hc:a.natAbs<b.natAbs):(ng b&&decide (b.natAbs-a.natAbs≠0))=ng (a+b)∧(a+b).natAbs=b.natAbs-a.natAbs:=by
 unfold ng at *;rw [Bool.eq_iff_iff];simp only [ne_eq,decide_eq_true_eq,Bool.and_eq_true,decide_eq_decide] at *;omega

theorem imul_any (a:Int) (b:Int) (w:World) (ha:Pl.L a.natAbs≤67108864) (hb:Pl.L b.natAbs≤67108864) :
 Calls Tryz.prog 144 #[iv a,iv b] w fun e w'=>e=.returned (iv (a*b))∧Below w.heap.size w w':=by
 have H:=Lib.hid (fun W=>mul_any a.natAbs b.natAbs W ha hb);clear ha hb;go_enter Tryz.func144,Tryz.ntmps144;go_wp2_with fail;refine wp_named ?_;intro W1 hW;have c1_0_0:W1.cell? ⟨w.heap.size,0,none⟩=some (.bool (ng (a))):=by rw [hW];simp [go_sem]
 have c1_0_1:W1.cell? ⟨w.heap.size,1,none⟩=some (.string (mg (a).natAbs)):=by rw [hW];simp [go_sem]
 have c1_1_0:W1.cell? ⟨w.heap.size+1,0,none⟩=some (.bool (ng (b))):=by rw [hW];simp [go_sem]
 have c1_1_1:W1.cell? ⟨w.heap.size+1,1,none⟩=some (.string (mg (b).natAbs)):=by rw [hW];simp [go_sem]
 have r1_0_0:W1.cell? ⟨w.heap.size+2,0,none⟩=some (.bool false):=by rw [hW];simp [go_sem]
 have fr1_0_0:W1.frozen? ⟨w.heap.size+2,0,none⟩=false:=by rw [hW];simp [go_sem]
 have r1_0_1:W1.cell? ⟨w.heap.size+2,1,none⟩=some (.string ⟨#[]⟩):=by rw [hW];simp [go_sem]
 have fr1_0_1:W1.frozen? ⟨w.heap.size+2,1,none⟩=false:=by rw [hW];simp [go_sem]
 have hB1:Below w.heap.size w W1:=by rw [hW];exact (by repeat (first|with_reducible exact Below.refl _ _|refine Below.drew ?_|refine Below.alloc ?_ (by first|(simp;done)|(simp;omega)|omega) _|refine Below.setCell ?_ (by first|(simp;done)|(simp;omega)|omega) _))
 clear hW;have dc1_0_0:=Bel.cell c1_0_0;have dc1_0_1:=Bel.cell c1_0_1;have dc1_1_0:=Bel.cell c1_1_0;have dc1_1_1:=Bel.cell c1_1_1;clear c1_0_0 c1_0_1 c1_1_0 c1_1_1;refine wp_region_tail 11 (by kernel_rfl) (by kernel_rfl) ?_;simp only [List.take_succ_cons,List.take_zero,List.drop_succ_cons,List.drop_zero];repeat (go_big_quiet_step ((first|(go_at_call 187;exact Calls.bel (H.out _))|(go_at_call 158;exact Calls.bel (made_any _ _ _)))))
 refine wpQuiet_nil ?_;intro w1 hb1;have er1_0_0:w1.cell? _=_:=Bel.cell r1_0_0 ⟨w1,hb1⟩;have gr1_0_0:w1.frozen? _=_:=Bel.frozen r1_0_0 fr1_0_0 ⟨w1,hb1⟩;have er1_0_1:w1.cell? _=_:=Bel.cell r1_0_1 ⟨w1,hb1⟩;have gr1_0_1:w1.frozen? _=_:=Bel.frozen r1_0_1 fr1_0_1 ⟨w1,hb1⟩;clear dc1_0_0 dc1_0_1 dc1_1_0 dc1_1_1 r1_0_0 r1_0_1 fr1_0_0 fr1_0_1;go_wp2;refine bodyPost_ret (v:=.agg #[.bool (!(ng a==ng b)&&decide (a.natAbs*b.natAbs≠0)),.string (mg (a.natAbs*b.natAbs))]) (by simp [results,Tryz.results144,go_sem,er1_0_0,er1_0_1]) rfl ⟨by rw [iv,← mul_sign,Int.natAbs_mul],?_⟩;repeat (refine Below.setCell ?_ (by first|(simp;done)|(simp;omega)|omega) _)
 exact bel_up hB1 hb1

theorem iadd_same (a:Int) (b:Int) (w:World) (ha:Pl.L a.natAbs≤67108864) (hb:Pl.L b.natAbs≤67108864) (h:ng a=ng b) :
 Calls Tryz.prog 133 #[iv a,iv b] w fun e w'=>e=.returned (iv (a+b))∧Below w.heap.size w w':=by
 have H:=Lib.hid (fun W=>add_any a.natAbs b.natAbs W ha hb);have HS:=Lib.hid (add_sign_same h);have hd:(ng a==ng b)=true:=by rw [h];simp
 clear ha hb h;go_enter Tryz.func133,Tryz.ntmps133;go_wp2_with fail;refine wp_named ?_;intro W1 hW;have c1_0_0:W1.cell? ⟨w.heap.size,0,none⟩=some (.bool (ng (a))):=by rw [hW];simp [go_sem]
 have c1_0_1:W1.cell? ⟨w.heap.size,1,none⟩=some (.string (mg (a).natAbs)):=by rw [hW];simp [go_sem]
 have c1_1_0:W1.cell? ⟨w.heap.size+1,0,none⟩=some (.bool (ng (b))):=by rw [hW];simp [go_sem]
 have c1_1_1:W1.cell? ⟨w.heap.size+1,1,none⟩=some (.string (mg (b).natAbs)):=by rw [hW];simp [go_sem]
 have r1_0_0:W1.cell? ⟨w.heap.size+2,0,none⟩=some (.bool false):=by rw [hW];simp [go_sem]
 have fr1_0_0:W1.frozen? ⟨w.heap.size+2,0,none⟩=false:=by rw [hW];simp [go_sem]
 have r1_0_1:W1.cell? ⟨w.heap.size+2,1,none⟩=some (.string ⟨#[]⟩):=by rw [hW];simp [go_sem]
 have fr1_0_1:W1.frozen? ⟨w.heap.size+2,1,none⟩=false:=by rw [hW];simp [go_sem]
 have hB1:Below w.heap.size w W1:=by rw [hW];exact (by repeat (first|with_reducible exact Below.refl _ _|refine Below.drew ?_|refine Below.alloc ?_ (by first|(simp;done)|(simp;omega)|omega) _|refine Below.setCell ?_ (by first|(simp;done)|(simp;omega)|omega) _))
 clear hW;have dc1_0_0:=Bel.cell c1_0_0;have dc1_0_1:=Bel.cell c1_0_1;have dc1_1_0:=Bel.cell c1_1_0;have dc1_1_1:=Bel.cell c1_1_1;clear c1_0_0 c1_0_1 c1_1_0 c1_1_1;refine wp_region_tail 8 (by kernel_rfl) (by kernel_rfl) ?_;simp only [List.take_succ_cons,List.take_zero,List.drop_succ_cons,List.drop_zero];repeat (go_big_quiet_step ((first|(go_at_call 172;exact Calls.bel (H.out _))|(go_at_call 158;exact Calls.bel (made_any _ _ _)))))
 refine wpQuiet_nil ?_;intro w1 hb1;have er1_0_0:w1.cell? _=_:=Bel.cell r1_0_0 ⟨w1,hb1⟩;have gr1_0_0:w1.frozen? _=_:=Bel.frozen r1_0_0 fr1_0_0 ⟨w1,hb1⟩;have er1_0_1:w1.cell? _=_:=Bel.cell r1_0_1 ⟨w1,hb1⟩;have gr1_0_1:w1.frozen? _=_:=Bel.frozen r1_0_1 fr1_0_1 ⟨w1,hb1⟩;clear dc1_0_0 dc1_0_1 dc1_1_0 dc1_1_1 r1_0_0 r1_0_1 fr1_0_0 fr1_0_1;go_wp2;refine bodyPost_ret (v:=.agg #[.bool (ng a&&decide (a.natAbs+b.natAbs≠0)),.string (mg (a.natAbs+b.natAbs))]) (by simp [results,Tryz.results133,go_sem,er1_0_0,er1_0_1]) rfl ⟨by rw [iv,HS.out.1,HS.out.2],?_⟩;repeat (refine Below.setCell ?_ (by first|(simp;done)|(simp;omega)|omega) _)
 exact bel_up hB1 hb1

theorem iadd_far (a:Int) (b:Int) (w:World) (ha:Pl.L a.natAbs≤67108864) (hb:Pl.L b.natAbs≤67108864) (h:ng a≠ng b) (hab:b.natAbs≤a.natAbs) :
 Calls Tryz.prog 133 #[iv a,iv b] w fun e w'=>e=.returned (iv (a+b))∧Below w.heap.size w w':=by
 have H:=Lib.hid (fun W=>sub_any a.natAbs b.natAbs W ha hab);have HS:=Lib.hid (add_sign_far h hab);have hd:(ng a==ng b)=false:=by simpa using h
 obtain ⟨z,hz,hz0⟩:∃ z:Int,cmpZ (a.natAbs:Nat) (b.natAbs:Nat)=z∧0≤z:=⟨_,rfl,by unfold cmpZ;rw [if_neg (by omega)];split<;>omega⟩
 have hcc:=fun W=>compare_any a.natAbs b.natAbs W
 rw [hz] at hcc;have hC:=Lib.hid hcc;clear ha hb h hab hcc hz;go_enter Tryz.func133,Tryz.ntmps133;go_wp2_with fail;refine (hC.out _).mono ?_;rintro e W0 ⟨rfl,hB0⟩;obtain ⟨hc0,hf0⟩:=bcell hB0;go_wp2_with fail;refine wp_named ?_;intro W1 hW;have c1_0_0:W1.cell? ⟨w.heap.size,0,none⟩=some (.bool (ng (a))):=by rw [hW];simp [go_sem,hc0,hf0]
 have c1_0_1:W1.cell? ⟨w.heap.size,1,none⟩=some (.string (mg (a).natAbs)):=by rw [hW];simp [go_sem,hc0,hf0]
 have c1_1_0:W1.cell? ⟨w.heap.size+1,0,none⟩=some (.bool (ng (b))):=by rw [hW];simp [go_sem,hc0,hf0]
 have c1_1_1:W1.cell? ⟨w.heap.size+1,1,none⟩=some (.string (mg (b).natAbs)):=by rw [hW];simp [go_sem,hc0,hf0]
 have r1_0_0:W1.cell? ⟨w.heap.size+2,0,none⟩=some (.bool false):=by rw [hW];simp [go_sem,hc0,hf0]
 have fr1_0_0:W1.frozen? ⟨w.heap.size+2,0,none⟩=false:=by rw [hW];simp [go_sem,hc0,hf0]
 have r1_0_1:W1.cell? ⟨w.heap.size+2,1,none⟩=some (.string ⟨#[]⟩):=by rw [hW];simp [go_sem,hc0,hf0]
 have fr1_0_1:W1.frozen? ⟨w.heap.size+2,1,none⟩=false:=by rw [hW];simp [go_sem,hc0,hf0]
 have hB1:Below w.heap.size w W1:=by rw [hW];exact bel_up (by repeat (first|with_reducible exact Below.refl _ _|refine Below.drew ?_|refine Below.alloc ?_ (by first|(simp;done)|(simp;omega)|omega) _|refine Below.setCell ?_ (by first|(simp;done)|(simp;omega)|omega) _)) hB0
 clear hW;have dc1_0_0:=Bel.cell c1_0_0;have dc1_0_1:=Bel.cell c1_0_1;have dc1_1_0:=Bel.cell c1_1_0;have dc1_1_1:=Bel.cell c1_1_1;clear c1_0_0 c1_0_1 c1_1_0 c1_1_1;refine wp_region_tail 8 (by kernel_rfl) (by kernel_rfl) ?_;simp only [List.take_succ_cons,List.take_zero,List.drop_succ_cons,List.drop_zero];repeat (go_big_quiet_step ((first|(go_at_call 174;exact Calls.bel (H.out _))|(go_at_call 158;exact Calls.bel (made_any _ _ _)))))
 refine wpQuiet_nil ?_;intro w1 hb1;have er1_0_0:w1.cell? _=_:=Bel.cell r1_0_0 ⟨w1,hb1⟩;have gr1_0_0:w1.frozen? _=_:=Bel.frozen r1_0_0 fr1_0_0 ⟨w1,hb1⟩;have er1_0_1:w1.cell? _=_:=Bel.cell r1_0_1 ⟨w1,hb1⟩;have gr1_0_1:w1.frozen? _=_:=Bel.frozen r1_0_1 fr1_0_1 ⟨w1,hb1⟩;clear dc1_0_0 dc1_0_1 dc1_1_0 dc1_1_1 r1_0_0 r1_0_1 fr1_0_0 fr1_0_1;go_wp2;refine bodyPost_ret (v:=.agg #[.bool (ng a&&decide (a.natAbs-b.natAbs≠0)),.string (mg (a.natAbs-b.natAbs))]) (by simp [results,Tryz.results133,go_sem,er1_0_0,er1_0_1]) rfl ⟨by rw [iv,HS.out.1,HS.out.2],?_⟩;repeat (refine Below.setCell ?_ (by first|(simp;done)|(simp;omega)|omega) _)
 exact bel_up hB1 hb1

theorem iadd_near (a:Int) (b:Int) (w:World) (ha:Pl.L a.natAbs≤67108864) (hb:Pl.L b.natAbs≤67108864) (h:ng a≠ng b) (hab:a.natAbs<b.natAbs) :
 Calls Tryz.prog 133 #[iv a,iv b] w fun e w'=>e=.returned (iv (a+b))∧Below w.heap.size w w':=by
 have H:=Lib.hid (fun W=>sub_any b.natAbs a.natAbs W hb (Nat.le_of_lt hab));have HS:=Lib.hid (add_sign_near h hab);have hd:(ng a==ng b)=false:=by simpa using h
 have hcc:=fun W=>compare_any a.natAbs b.natAbs W
 rw [show cmpZ (a.natAbs:Nat) (b.natAbs:Nat)=-1 from by unfold cmpZ;rw [if_pos (by omega)]] at hcc;have hC:=Lib.hid hcc;clear ha hb h hab hcc;go_enter Tryz.func133,Tryz.ntmps133;go_wp2_with fail;refine (hC.out _).mono ?_;rintro e W0 ⟨rfl,hB0⟩;obtain ⟨hc0,hf0⟩:=bcell hB0;go_wp2_with fail;refine wp_named ?_;intro W1 hW;have c1_0_0:W1.cell? ⟨w.heap.size,0,none⟩=some (.bool (ng (a))):=by rw [hW];simp [go_sem,hc0,hf0]
 have c1_0_1:W1.cell? ⟨w.heap.size,1,none⟩=some (.string (mg (a).natAbs)):=by rw [hW];simp [go_sem,hc0,hf0]
 have c1_1_0:W1.cell? ⟨w.heap.size+1,0,none⟩=some (.bool (ng (b))):=by rw [hW];simp [go_sem,hc0,hf0]
 have c1_1_1:W1.cell? ⟨w.heap.size+1,1,none⟩=some (.string (mg (b).natAbs)):=by rw [hW];simp [go_sem,hc0,hf0]
 have r1_0_0:W1.cell? ⟨w.heap.size+2,0,none⟩=some (.bool false):=by rw [hW];simp [go_sem,hc0,hf0]
 have fr1_0_0:W1.frozen? ⟨w.heap.size+2,0,none⟩=false:=by rw [hW];simp [go_sem,hc0,hf0]
 have r1_0_1:W1.cell? ⟨w.heap.size+2,1,none⟩=some (.string ⟨#[]⟩):=by rw [hW];simp [go_sem,hc0,hf0]
 have fr1_0_1:W1.frozen? ⟨w.heap.size+2,1,none⟩=false:=by rw [hW];simp [go_sem,hc0,hf0]
 have hB1:Below w.heap.size w W1:=by rw [hW];exact bel_up (by repeat (first|with_reducible exact Below.refl _ _|refine Below.drew ?_|refine Below.alloc ?_ (by first|(simp;done)|(simp;omega)|omega) _|refine Below.setCell ?_ (by first|(simp;done)|(simp;omega)|omega) _)) hB0
 clear hW;have dc1_0_0:=Bel.cell c1_0_0;have dc1_0_1:=Bel.cell c1_0_1;have dc1_1_0:=Bel.cell c1_1_0;have dc1_1_1:=Bel.cell c1_1_1;clear c1_0_0 c1_0_1 c1_1_0 c1_1_1;refine wp_region_tail 8 (by kernel_rfl) (by kernel_rfl) ?_;simp only [List.take_succ_cons,List.take_zero,List.drop_succ_cons,List.drop_zero];repeat (go_big_quiet_step ((first|(go_at_call 174;exact Calls.bel (H.out _))|(go_at_call 158;exact Calls.bel (made_any _ _ _)))))
 refine wpQuiet_nil ?_;intro w1 hb1;have er1_0_0:w1.cell? _=_:=Bel.cell r1_0_0 ⟨w1,hb1⟩;have gr1_0_0:w1.frozen? _=_:=Bel.frozen r1_0_0 fr1_0_0 ⟨w1,hb1⟩;have er1_0_1:w1.cell? _=_:=Bel.cell r1_0_1 ⟨w1,hb1⟩;have gr1_0_1:w1.frozen? _=_:=Bel.frozen r1_0_1 fr1_0_1 ⟨w1,hb1⟩;clear dc1_0_0 dc1_0_1 dc1_1_0 dc1_1_1 r1_0_0 r1_0_1 fr1_0_0 fr1_0_1;go_wp2;refine bodyPost_ret (v:=.agg #[.bool (ng b&&decide (b.natAbs-a.natAbs≠0)),.string (mg (b.natAbs-a.natAbs))]) (by simp [results,Tryz.results133,go_sem,er1_0_0,er1_0_1]) rfl ⟨by rw [iv,HS.out.1,HS.out.2],?_⟩;repeat (refine Below.setCell ?_ (by first|(simp;done)|(simp;omega)|omega) _)
 exact bel_up hB1 hb1

theorem iadd_any (a b:Int) (w:World) (ha:Pl.L a.natAbs≤67108864) (hb:Pl.L b.natAbs≤67108864) :
 Calls Tryz.prog 133 #[iv a,iv b] w fun e w'=>e=.returned (iv (a+b))∧Below w.heap.size w w':=by
 by_cases h:ng a=ng b
 ·exact iadd_same a b w ha hb h
 rcases Nat.lt_or_ge a.natAbs b.natAbs with hab|hab
 ·exact iadd_near a b w ha hb h hab
 ·exact iadd_far a b w ha hb h hab
end Go.Proofs.YtiochgoocbkckaaGreatDoor

namespace Go.Proofs.YtiochgoocbkckaaGreatDoor
open Go Go.RowKit

theorem calls_named {P:Program} {f:FuncId} {args:Array Value} {w:World} {Q:Ending→World→Prop} (h:∀ W,W=w→Calls P f args W Q):Calls P f args w Q:=h w rfl
def At (w:World) (b:Nat):Nat→List Value→Prop
 | _,[]=>True
 | i,v :: l=>w.cell? ⟨b,i,none⟩=some v∧At w b (i+1) l
def Own (w:World) (b:Nat):Nat→List Value→Prop
 | _,[]=>True
 | i,v :: l=>(w.cell? ⟨b,i,none⟩=some v∧w.frozen? ⟨b,i,none⟩=false)∧Own w b (i+1) l
theorem At.up {w w1:World} {b:Nat} : ∀ {l:List Value} {i:Nat},At w b i l→Below w.heap.size w w1→At w1 b i l
 | [],_,_,_=>trivial
 | _ :: _,_,h,hb=>⟨(hb.cell (World.block_lt_of_cell? _ _ h.1)).trans h.1,At.up h.2 hb⟩
theorem Own.up {w w1:World} {b:Nat} : ∀ {l:List Value} {i:Nat},Own w b i l→Below w.heap.size w w1→Own w1 b i l
 | [],_,_,_=>trivial
 | _ :: _,_,h,hb=>⟨⟨(hb.cell (World.block_lt_of_cell? _ _ h.1.1)).trans h.1.1,(hb.frozen (World.block_lt_of_cell? _ _ h.1.1)).trans h.1.2⟩,Own.up h.2 hb⟩
theorem At.bel {W:World} {b i:Nat} {l:List Value} (h:At W b i l) (p:Bel W):At p.w1 b i l:=h.up p.h
theorem Own.bel {W:World} {b i:Nat} {l:List Value} (h:Own W b i l) (p:Bel W):Own p.w1 b i l:=h.up p.h
theorem At.lt {w:World} {b i:Nat} {v:Value} {l:List Value} (h:At w b i (v :: l)):b<w.heap.size:=World.block_lt_of_cell? _ _ h.1
theorem Own.lt {w:World} {b i:Nat} {v:Value} {l:List Value} (h:Own w b i (v :: l)):b<w.heap.size:=World.block_lt_of_cell? _ _ h.1.1
theorem wrap_neg (n:Int) (h1 : -9223372036854775808≤n) (h2:n<0):IntKind.u64.wrap (-IntKind.u64.wrap n)=(n.natAbs:Int):=by
 simp [IntKind.wrap,IntKind.bits,IntKind.signed];have e:n%18446744073709551616=n+18446744073709551616:=by omega
 rw [e];have e2:(n.natAbs:Int)=-n:=by omega
 rw [e2];have e3 : -(n+18446744073709551616)=-n+(-1)*18446744073709551616:=by omega
 rw [e3,Int.add_mul_emod_self_right];exact Int.emod_eq_of_lt (by omega) (by omega)

theorem fromInt_neg (n:Int) (w:World) (h1 : -9223372036854775808≤n) (keep:n<0) :
 Calls Tryz.prog 186 #[.int .i64 n] w fun e w'=>e=.returned (iv n)∧Below w.heap.size w w':=by
 have h2:=keep;have E:=Lib.hid (wrap_neg n h1 h2);have E2:Hid ((true&&decide (n.natAbs≠0))=ng n):=Lib.hid (by unfold ng;rw [Bool.eq_iff_iff];simp;omega);have K1:=Lib.hid (fun W=>magnitude_any n.natAbs W (by omega));have K2:=Lib.hid (fun W=>made_any true n.natAbs W);clear h1;go_enter Tryz.func186,Tryz.ntmps186;go_wp2_with fail;rw [E.out];refine calls_named ?_;intro W1 hW1;have c1_0:Own W1 w.heap.size 0 [.bool false,.string ⟨#[]⟩]:=by rw [hW1];simp [Own,go_sem]
 have hB1:Below w.heap.size w W1:=by rw [hW1];exact bB
 clear hW1;have uc1_0:=c1_0;simp only [At,Own,Nat.reduceAdd,and_true] at uc1_0;with_reducible refine (K1.out _).mono ?_
 rintro e w1 ⟨rfl,hb1⟩;have c1_0x:=c1_0.up hb1;have hDw1:Below w.heap.size w w1:=bel_up hB1 hb1;clear uc1_0 c1_0;have uc1_0x:=c1_0x;simp only [At,Own,Nat.reduceAdd,and_true] at uc1_0x
 -- NE
 go_wp2_with fail;refine calls_named ?_;intro W2 hW2;have hL2:Below w1.heap.size w1 W2:=by rw [hW2];exact bB
 have c2_0:=c1_0x.up hL2;have hB2:Below w.heap.size w W2:=by rw [hW2];exact bB
 clear hW2 hL2 uc1_0x c1_0x;have uc2_0:=c2_0;simp only [At,Own,Nat.reduceAdd,and_true] at uc2_0;with_reducible refine (K2.out _).mono ?_
 rintro e w2 ⟨rfl,hb2⟩;have c2_0x:=c2_0.up hb2;have hDw2:Below w.heap.size w w2:=bel_up hB2 hb2;clear uc2_0 c2_0;have uc2_0x:=c2_0x;simp only [At,Own,Nat.reduceAdd,and_true] at uc2_0x
 -- NE
 go_wp2;refine bodyPost_ret (v:=.agg #[.bool (true&&decide (n.natAbs≠0)),.string (mg n.natAbs)]) (by simp [results,Tryz.results186,go_sem,uc2_0x]) rfl ⟨by rw [iv,E2.out],?_⟩;exact bB

theorem fromInt_pos (n:Nat) (w:World) (h1:n≤9223372036854775807) :
 Calls Tryz.prog 186 #[.int .i64 n] w fun e w'=>e=.returned (iv n)∧Below w.heap.size w w':=by
 have E:Hid (IntKind.u64.wrap (n:Int)=n):=Lib.hid (IntWalk.u64_in _ ⟨by omega,by omega⟩);have E2:Hid ((decide ((n:Int)<0)&&decide (n≠0))=ng (n:Int)):=Lib.hid (by unfold ng;rw [Bool.eq_iff_iff];simp;omega);have K1:=Lib.hid (fun W=>magnitude_any n W (by omega));have K2:=Lib.hid (fun W=>made_any (decide ((n:Int)<0)) n W);clear h1;go_enter Tryz.func186,Tryz.ntmps186;go_wp2_with fail;rw [E.out];refine calls_named ?_;intro W1 hW1;have c1_0:Own W1 w.heap.size 0 [.bool false,.string ⟨#[]⟩]:=by rw [hW1];simp [Own,go_sem]
 have hB1:Below w.heap.size w W1:=by rw [hW1];exact bB
 clear hW1;have uc1_0:=c1_0;simp only [At,Own,Nat.reduceAdd,and_true] at uc1_0;with_reducible refine (K1.out _).mono ?_
 rintro e w1 ⟨rfl,hb1⟩;have c1_0x:=c1_0.up hb1;have hDw1:Below w.heap.size w w1:=bel_up hB1 hb1;clear uc1_0 c1_0;have uc1_0x:=c1_0x;simp only [At,Own,Nat.reduceAdd,and_true] at uc1_0x
 -- NE
 go_wp2_with fail;refine calls_named ?_;intro W2 hW2;have hL2:Below w1.heap.size w1 W2:=by rw [hW2];exact bB
 have c2_0:=c1_0x.up hL2;have hB2:Below w.heap.size w W2:=by rw [hW2];exact bB
 clear hW2 hL2 uc1_0x c1_0x;have uc2_0:=c2_0;simp only [At,Own,Nat.reduceAdd,and_true] at uc2_0;with_reducible refine (K2.out _).mono ?_
 rintro e w2 ⟨rfl,hb2⟩;have c2_0x:=c2_0.up hb2;have hDw2:Below w.heap.size w w2:=bel_up hB2 hb2;clear uc2_0 c2_0;have uc2_0x:=c2_0x;simp only [At,Own,Nat.reduceAdd,and_true] at uc2_0x
 -- NE
 go_wp2;refine bodyPost_ret (v:=.agg #[.bool (decide ((n:Int)<0)&&decide (n≠0)),.string (mg n)]) (by simp [results,Tryz.results186,go_sem,uc2_0x]) rfl ⟨by rw [iv,E2.out];rfl,?_⟩;exact bB

theorem fromInt_any (n:Int) (w:World) (h1 : -9223372036854775808≤n) (h2:n≤9223372036854775807) :
 Calls Tryz.prog 186 #[.int .i64 n] w fun e w'=>e=.returned (iv n)∧Below w.heap.size w w':=by
 rcases Int.lt_or_le n 0 with h|h
 ·exact fromInt_neg n w h1 h
 ·obtain ⟨m,rfl⟩:=Int.eq_ofNat_of_zero_le h
  exact fromInt_pos m w (by omega)

theorem calls_same {P:Program} {f:FuncId} {args:Array Value} {w:World} {v:Value} (h:Calls P f args w fun e w'=>e=.returned v∧w=w'):Calls P f args w fun e w'=>e=.returned v∧Below w.heap.size w w' :=
 h.mono fun _ _ ⟨h1,h2⟩=>⟨h1,h2▸Below.refl _ _⟩
theorem cmp_far {a b:Int} (h:ng a≠ng b):cmpZ a.sign b.sign=cmpZ a b:=by
 unfold ng at h
 rcases Int.lt_trichotomy a 0 with h1|rfl|h1<;>rcases Int.lt_trichotomy b 0 with h2|rfl|h2 <;>
  simp_all [cmpZ,Int.sign_eq_one_of_pos,Int.sign_eq_neg_one_of_neg]<;>omega
theorem cmp_pos {a b:Int} (h:ng a=false) (h2:ng b=false):cmpZ a.natAbs b.natAbs=cmpZ a b:=by
 unfold ng at *;simp only [decide_eq_false_iff_not] at *;rw [show (a.natAbs:Int)=a by omega,show (b.natAbs:Int)=b by omega]
theorem cmp_neg {a b:Int} (h:ng a=true) (h2:ng b=true) : -cmpZ a.natAbs b.natAbs=cmpZ a b:=by
 unfold ng at *;simp only [decide_eq_true_eq] at *;unfold cmpZ
 split<;>rename_i h3
 ·rw [if_neg (by omega),if_pos (by omega)];rfl
 ·split<;>rename_i h4
  ·rw [if_pos (by omega)]
  ·rw [if_neg (by omega),if_neg (by omega)];rfl
theorem cmpZ_bd (a b:Int) : -1≤cmpZ a b∧cmpZ a b≤1:=by unfold cmpZ;split<;>(try split)<;>omega

theorem icmp_far (a:Int) (b:Int) (w:World) (h:ng a≠ng b) :
 Calls Tryz.prog 135 #[iv a,iv b] w fun e w'=>e=.returned (.int .i64 (cmpZ a b))∧Below w.heap.size w w':=by
 have hd:(!(ng a==ng b))=true:=by simpa using h
 have E:=Lib.hid (cmp_far h);have K1:=Lib.hid (fun W=>sign_any a W);have K2:=Lib.hid (fun W=>sign_any b W);have K3:=Lib.hid (fun W=>calls_same (cmpInt_any a.sign b.sign W));clear h;go_enter Tryz.func135,Tryz.ntmps135;go_wp2_with fail;refine wp_named ?_;intro W1 hW1;have c1_0:At W1 w.heap.size 0 [.bool (ng a),.string (mg a.natAbs)]:=by rw [hW1];simp [At,go_sem]
 have c1_1:At W1 (w.heap.size+1) 0 [.bool (ng b),.string (mg b.natAbs)]:=by rw [hW1];simp [At,go_sem]
 have hB1:Below w.heap.size w W1:=by rw [hW1];exact bB
 clear hW1;have dc1_0:=fun p:Bel W1=>c1_0.bel p;have dc1_1:=fun p:Bel W1=>c1_1.bel p
 simp only [At,Own,Nat.reduceAdd,and_true] at dc1_0 dc1_1;refine wp_region_tail 5 (by kernel_rfl) (by kernel_rfl) ?_;simp only [List.take_succ_cons,List.take_zero,List.drop_succ_cons,List.drop_zero];repeat (go_big_quiet_step (first|(go_at_call 160;with_reducible exact Calls.bel (K1.out _))|(go_at_call 160;with_reducible exact Calls.bel (K2.out _))|(go_at_call 175;with_reducible exact Calls.bel (K3.out _))))
 refine wpQuiet_nil ?_;intro w1 hb1;have c1_0x:=c1_0.up hb1;have c1_1x:=c1_1.up hb1;clear dc1_0 dc1_1 c1_0 c1_1;have hD1:Below w.heap.size w w1:=bel_up hB1 hb1;have uc1_0x:=c1_0x;have uc1_1x:=c1_1x;simp only [At,Own,Nat.reduceAdd,and_true] at uc1_0x uc1_1x
 -- NE
 go_wp2;go_ret;refine ⟨by rw [← E.out];rfl,?_⟩;exact bB

theorem icmp_pos (a:Int) (b:Int) (w:World) (h:ng a=false) (h2:ng b=false) :
 Calls Tryz.prog 135 #[iv a,iv b] w fun e w'=>e=.returned (.int .i64 (cmpZ a b))∧Below w.heap.size w w':=by
 have hd:(!(ng a==ng b))=false:=by rw [h,h2];rfl
 have E:=Lib.hid (cmp_pos h h2);have hg:=h;have hg2:=h2;obtain ⟨z,hz⟩:∃ z:Int,cmpZ (a.natAbs:Nat) (b.natAbs:Nat)=z:=⟨_,rfl⟩
 have hzb:=cmpZ_bd (a.natAbs:Nat) (b.natAbs:Nat);rw [hz] at hzb;obtain ⟨hz1,hz2⟩:=hzb;have hcc:=fun W=>compare_any a.natAbs b.natAbs W
 rw [hz] at hcc;have K0:=Lib.hid hcc;clear hcc;have E2:=Lib.hid hz;clear hz;have K1:=Lib.hid (fun W=>K0.out W);clear h h2;go_enter Tryz.func135,Tryz.ntmps135;go_wp2_with fail;refine calls_named ?_;intro W1 hW1;have c1_0:At W1 w.heap.size 0 [.bool false,.string (mg a.natAbs)]:=by rw [hW1];simp [At,go_sem]
 have c1_1:At W1 (w.heap.size+1) 0 [.bool false,.string (mg b.natAbs)]:=by rw [hW1];simp [At,go_sem]
 have hB1:Below w.heap.size w W1:=by rw [hW1];exact bB
 clear hW1;have uc1_0:=c1_0;have uc1_1:=c1_1;simp only [At,Own,Nat.reduceAdd,and_true] at uc1_0 uc1_1;with_reducible refine (K1.out _).mono ?_
 rintro e w1 ⟨rfl,hb1⟩;have c1_0x:=c1_0.up hb1;have c1_1x:=c1_1.up hb1;have hDw1:Below w.heap.size w w1:=bel_up hB1 hb1;clear uc1_0 uc1_1 c1_0 c1_1;have uc1_0x:=c1_0x;have uc1_1x:=c1_1x;simp only [At,Own,Nat.reduceAdd,and_true] at uc1_0x uc1_1x
 -- NE
 go_wp2;go_ret;refine ⟨by rw [← E.out,E2.out];rfl,?_⟩;exact bB

theorem icmp_neg (a:Int) (b:Int) (w:World) (h:ng a=true) (h2:ng b=true) :
 Calls Tryz.prog 135 #[iv a,iv b] w fun e w'=>e=.returned (.int .i64 (cmpZ a b))∧Below w.heap.size w w':=by
 have hd:(!(ng a==ng b))=false:=by rw [h,h2];rfl
 have E:=Lib.hid (cmp_neg h h2);have hg:=h;have hg2:=h2;obtain ⟨z,hz⟩:∃ z:Int,cmpZ (a.natAbs:Nat) (b.natAbs:Nat)=z:=⟨_,rfl⟩
 have hzb:=cmpZ_bd (a.natAbs:Nat) (b.natAbs:Nat);rw [hz] at hzb;obtain ⟨hz1,hz2⟩:=hzb;have hcc:=fun W=>compare_any a.natAbs b.natAbs W
 rw [hz] at hcc;have K0:=Lib.hid hcc;clear hcc;have E2:=Lib.hid hz;clear hz;have K1:=Lib.hid (fun W=>K0.out W);clear h h2;go_enter Tryz.func135,Tryz.ntmps135;go_wp2_with fail;refine calls_named ?_;intro W1 hW1;have c1_0:At W1 w.heap.size 0 [.bool true,.string (mg a.natAbs)]:=by rw [hW1];simp [At,go_sem]
 have c1_1:At W1 (w.heap.size+1) 0 [.bool true,.string (mg b.natAbs)]:=by rw [hW1];simp [At,go_sem]
 have hB1:Below w.heap.size w W1:=by rw [hW1];exact bB
 clear hW1;have uc1_0:=c1_0;have uc1_1:=c1_1;simp only [At,Own,Nat.reduceAdd,and_true] at uc1_0 uc1_1;with_reducible refine (K1.out _).mono ?_
 rintro e w1 ⟨rfl,hb1⟩;have c1_0x:=c1_0.up hb1;have c1_1x:=c1_1.up hb1;have hDw1:Below w.heap.size w w1:=bel_up hB1 hb1;clear uc1_0 uc1_1 c1_0 c1_1;have uc1_0x:=c1_0x;have uc1_1x:=c1_1x;simp only [At,Own,Nat.reduceAdd,and_true] at uc1_0x uc1_1x
 -- NE
 go_wp2;go_ret;refine ⟨by rw [← E.out,E2.out];rfl,?_⟩;exact bB

theorem icmp_any (a b:Int) (w:World) :
 Calls Tryz.prog 135 #[iv a,iv b] w fun e w'=>e=.returned (.int .i64 (cmpZ a b))∧Below w.heap.size w w':=by
 by_cases h:ng a=ng b
 ·rcases hb:ng b
  ·exact icmp_pos a b w (h.trans hb) hb
  ·exact icmp_neg a b w (h.trans hb) hb
 ·exact icmp_far a b w h
end Go.Proofs.YtiochgoocbkckaaGreatDoor

namespace Go.Proofs.YtiochgoocbkckaaGreatDoor
open Go Go.RowKit

abbrev nv (n:Nat):Value:=.agg #[.bool false,.string (mg n)]
theorem iv_nat (n:Nat):iv (n:Int)=nv n:=by
 have:ng (n:Int)=false:=by unfold ng;simp
 rw [iv,this];rfl
theorem bel_drewN {B:Nat} {a w:World} (h:Below B a w) (n:Nat):Below B a (w.drewN n):=⟨h.os,h.tape,h.output,h.size,h.block,Nat.le_trans h.drawn (Nat.le_add_right _ _)⟩
def strN (v:Value):Nat:=match v with|.string s=>Pl.valL s.data.toList|_=>0
theorem strN_mg (n:Nat):strN (.string (mg n))=n:=by rw [strN,mg_data,Pl.valL_magL]
def intN (v:Value):Nat:=match v with|.int _ n=>n.toNat|_=>0

structure Res2 (w wr:World) (k:Nat) (x y:Value):Prop where
 c0:wr.cell? ⟨w.heap.size+k,0,none⟩=some x
 c1:wr.cell? ⟨w.heap.size+k,1,none⟩=some y
 f0:wr.frozen? ⟨w.heap.size+k,0,none⟩=false
 f1:wr.frozen? ⟨w.heap.size+k,1,none⟩=false
 b:Below w.heap.size w wr
theorem Res2.up {w wr w1:World} {k:Nat} {x y:Value} (h:Res2 w wr k x y) (hb:Below wr.heap.size wr w1):Res2 w w1 k x y :=
 ⟨Bel.cell h.c0 ⟨w1,hb⟩,Bel.cell h.c1 ⟨w1,hb⟩,Bel.frozen h.c0 h.f0 ⟨w1,hb⟩,Bel.frozen h.c1 h.f1 ⟨w1,hb⟩,bel_up h.b hb⟩

set_option maxHeartbeats 1000000 in
theorem gcd_any (s t:Bool) (a b:Nat) (w:World) (ha:Pl.L a≤67108864) (hb:Pl.L b≤67108864) :
 Calls Tryz.prog 154 #[.agg #[.bool s,.string (mg a)],.agg #[.bool t,.string (mg b)]] w fun e w'=>e=.returned (nv (Nat.gcd a b))∧Below w.heap.size w w':=by
 go_enter Tryz.func154,Tryz.ntmps154;go_wp2_with fail;go_quiet (fail);go_wp2_with fail;go_loopw [5,6] (fun x y wr=>∃ m n:Nat,x=.string (mg m)∧y=.string (mg n)∧Nat.gcd m n=Nat.gcd a b∧Pl.L m≤67108864∧Pl.L n≤67108864∧Res2 w wr 2 (.bool false) (.string ⟨#[]⟩)) (fun _ y _=>strN y)
 case atStart=>exact ⟨a,b,rfl,rfl,rfl,ha,hb,by simp [go_sem],by simp [go_sem],by simp [go_sem],by simp [go_sem],bel_drewN (by repeat (first|with_reducible exact Below.refl _ _|refine Below.drew ?_|refine Below.alloc ?_ (by first|(simp;done)|(simp;omega)|omega) _|refine Below.setCell ?_ (by first|(simp;done)|(simp;omega)|omega) _)) _⟩
 case round =>
  obtain ⟨m,n,rfl,rfl,hg,hm,hn,hr⟩:=hrel;have he:=mg_empty n;have HG:=Lib.hid hg;clear hg
  by_cases h0:n=0
  ·subst h0
   rw [decide_eq_true rfl] at he;have hM:=Lib.hid (fun W=>made_any false m W);have HR:=Lib.hid hr;clear hr;go_wp2_with fail;with_reducible refine (hM.out _).mono ?_
   rintro e w1 ⟨rfl,hb1⟩;obtain ⟨c0,c1,f0,f1,hbl⟩:=HR.out.up hb1;go_wp2;refine bodyPost_ret (v:=.agg #[.bool (false&&decide (m≠0)),.string (mg m)]) (by simp [results,Tryz.results154,go_sem,c0,c1]) rfl ⟨by rw [← HG.out,Nat.gcd_zero_right];rfl,?_⟩;repeat (first|exact hbl|refine Below.setCell ?_ (by first|(simp;done)|(simp;omega)|omega) _)
  ·rw [decide_eq_false h0] at he
   have HR:=Lib.hid hr;clear hr
   by_cases hs:Pl.L m≤8∧Pl.L n≤8
   ·have hW:=Lib.hid (fun W=>words_mg m n W hs.1 hs.2)
    have hm8:=word_of_L hs.1;have hn8:=word_of_L hs.2;clear hs hm hn;go_wp2_with fail;with_reducible refine (hW.out _).mono ?_
    rintro e w1 ⟨rfl,rfl⟩;go_wp2_with fail;go_loopw [7,8] (fun u v wr'=>∃ p q:Nat,u=.int .u64 (p:Int)∧v=.int .u64 (q:Int)∧Nat.gcd p q=Nat.gcd a b∧p<18446744073709551616∧q<18446744073709551616∧Res2 w wr' 2 (.bool false) (.string ⟨#[]⟩)) (fun _ v _=>intN v)
    case atStart=>exact ⟨m,n,rfl,rfl,HG.out,hm8,hn8,HR.out⟩
    case round =>
     obtain ⟨p,q,rfl,rfl,hg,hp,hq,hr⟩:=hrel;have HG2:=Lib.hid hg;have HR2:=Lib.hid hr;clear hg hr
     by_cases hq0:q=0
     ·subst hq0
      have hM:=Lib.hid (fun W=>magnitude_any p W hp);have hD:=Lib.hid (fun W=>made_any false p W);go_wp2_with fail;with_reducible refine (hM.out _).mono ?_
      rintro e w1 ⟨rfl,hb1⟩;have HR3:=Lib.hid (HR2.out.up hb1);go_wp2_with fail;with_reducible refine (hD.out _).mono ?_
      rintro e w2 ⟨rfl,hb2⟩;obtain ⟨c0,c1,f0,f1,hbl⟩:=HR3.out.up hb2;go_wp2;try rw [Exit.noGoto_ret]
      refine bodyPost_ret (v:=.agg #[.bool (false&&decide (p≠0)),.string (mg p)]) (by simp [results,Tryz.results154,go_sem,c0,c1]) rfl ⟨by rw [← HG2.out,Nat.gcd_zero_right];rfl,?_⟩;repeat (first|exact hbl|refine Below.setCell ?_ (by first|(simp;done)|(simp;omega)|omega) _)
     ·have j2:(1:Int)≤q:=by omega
      have j3:((q:Int)==0)=false:=by simp;omega
      have hlt:p%q<q:=Nat.mod_lt _ (Nat.pos_of_ne_zero hq0);have HV:Hid ((p:Int)%q=((p%q:Nat):Int)):=Lib.hid (Int.natCast_emod _ _).symm;go_wp2_with fail;go_quiet (fail);go_wp2;go_roundw
      case rel=>exact ⟨q,p%q,rfl,by rw [HV.out],by rw [← HG2.out,Nat.gcd_comm p q,Nat.gcd_rec q p,Nat.gcd_comm],hq,by omega,HR2.out.c0,HR2.out.c1,HR2.out.f0,HR2.out.f1,bel_drewN HR2.out.b _⟩
      case measure=>simp [intN];omega
   ·have hW:=Lib.hid (fun W=>words_long m n W (by omega))
    have hD:=Lib.hid (fun W=>div_any m n W hm hn h0);clear hs;go_wp2_with fail;with_reducible refine (hW.out _).mono ?_
    rintro e w1 ⟨⟨x,y,rfl⟩,rfl⟩;go_wp2_with fail;with_reducible refine (hD.out _).mono ?_
    rintro e w1 ⟨rfl,hb1⟩;have hlt:m%n<n:=Nat.mod_lt _ (Nat.pos_of_ne_zero h0);have hrm:Pl.L (m%n)≤67108864:=Nat.le_trans (Pl.L_mono (Nat.le_of_lt hlt)) hn;have HR1:=Lib.hid (HR.out.up hb1);clear HR;go_wp2;go_roundw
    case rel=>exact ⟨n,m%n,rfl,rfl,by rw [← HG.out,Nat.gcd_comm m n,Nat.gcd_rec n m,Nat.gcd_comm],hn,hrm,HR1.out⟩
    case measure=>rw [strN_mg,strN_mg];exact hlt
end Go.Proofs.YtiochgoocbkckaaGreatDoor
