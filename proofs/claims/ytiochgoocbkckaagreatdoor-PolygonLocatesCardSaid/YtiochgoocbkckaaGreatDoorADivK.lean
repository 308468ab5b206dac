/-
 Contracts of package integer: the long division.
-/
import Derived.Test.YtiochgoocbkckaaGreatDoorAgad
import Derived.Test.YtiochgoocbkckaaGreatDoorAKnu2
import Derived.Deep.CutBlock
import Derived.Deep.LoopGhost
set_option maxRecDepth 100000
set_option linter.unusedSimpArgs false
set_option linter.unusedVariables false
namespace Go.Proofs.YtiochgoocbkckaaGreatDoor
open Go Go.RowKit Go.Shelf

theorem lz_any (d:Nat) (w:World) (hd:d<4294967296):Calls Tryz.prog 218 #[.int .u32 (d:Int)] w fun e w'=>e=.returned (.int .i64 (32-(Lib.bitLen d:Int)))∧w=w' :=
 (Tryz.bits_LeadingZeros32 d w (by omega) (by omega)).mono fun _ _ ⟨h,k⟩=>⟨h,k.symm⟩

set_option maxHeartbeats 8000000 in
theorem div_long (a b:Nat) (w:World) (ha:Pl.L a≤67108864) (hb:Pl.L b≤67108864) (h:8<Pl.L a∨8<Pl.L b) (hab:b≤a) (h1:2≤Pl.W b) :
 Calls Tryz.prog 191 #[.string (mg a),.string (mg b)] w fun e w'=>e=.returned (.tuple #[.string (mg (a/b)),.string (mg (a%b))])∧Below w.heap.size w w':=by
 have hW:=Lib.hid (fun W=>words_long a b W h);have hc:=fun W=>compare_any a b W
 have hcz:∃ z:Int,cmpZ (a:Int) b=z∧0≤z:=⟨_,rfl,by unfold cmpZ;rw [if_neg (by omega)];split<;>omega⟩
 obtain ⟨z,hz,hz0⟩:=hcz;rw [hz] at hc;have hC:=Lib.hid hc;have hDa:=fun W=>digits_any a W ha
 have hDb:=fun W=>digits_any b W hb
 have hwa:Pl.W a≤16777216:=by unfold Pl.W;omega
 rw [show (Pl.L a+3)/4=Pl.W a from rfl] at hDa;rw [show (Pl.L b+3)/4=Pl.W b from rfl] at hDb;have HDA:=Lib.hid hDa;have HDB:=Lib.hid hDb;have hla:=Pl.lt_W a;have hlb:=Pl.lt_W b;have hlw:=Pl.W_le b (by omega);have hnm:=Pl.W_mono hab;obtain ⟨q1,q2,hs,hY⟩:=Pl.kn_norm b (Pl.W b) (by omega) hlw hlb;generalize Pl.W a=m at *;generalize Pl.W b=n at *;have hdl:b/4294967296 ^ (n-1)%4294967296<4294967296:=Nat.mod_lt _ (by omega);have hlz:=fun W=>lz_any (b/4294967296 ^ (n-1)%4294967296) W hdl
 generalize hs':32-Lib.bitLen (b/4294967296 ^ (n-1)%4294967296)=s at *;have hsz:(32:Int)-(Lib.bitLen (b/4294967296 ^ (n-1)%4294967296):Int)=(s:Int):=by omega
 rw [hsz] at hlz;have HLZ:=Lib.hid hlz;have hsx:=Lib.hid (fun (g:Nat) W hB=>shifted_any g m m a s W hB (Nat.le_refl _) (by omega) hla hs);have hsy:=Lib.hid (fun (g:Nat) W hB=>shifted_any g n n b s W hB (Nat.le_refl _) (by omega) hlb hs);have hst:=Pl.kn_start a b s n m (by omega) hnm hlw hla;have hY1:4294967296 ^ (n-1)≤b*2 ^ s:=Nat.le_trans hlw (Nat.le_mul_of_pos_right _ (Nat.two_pow_pos s));have hb0:0<b:=Nat.lt_of_lt_of_le (Nat.pow_pos (by omega)) hlw;have HQ:Hid (a*2 ^ s/(b*2 ^ s)=a/b):=Lib.hid (Nat.mul_div_mul_right _ _ (Nat.two_pow_pos s));have HR:Hid (a*2 ^ s%(b*2 ^ s)/2 ^ s=a%b):=Lib.hid (by rw [Nat.mul_mod_mul_right,Nat.mul_div_cancel _ (Nat.two_pow_pos s)]);obtain ⟨T,hT⟩:∃ T,T=m+1-n:=⟨_,rfl⟩
 rw [← hT] at hst;have hmk:=make_words ((m:Int)+1-n) T (by omega) (by omega);have t1:n+T≤m+1:=by omega
 have t2:m+1≤n+T:=by omega
 have hd0:∀ (W:World) (g:Nat),Blk W g 165 (u32s (Pl.dg 4294967296 n b))→W.cell? ⟨g,n-1,none⟩=some (.int .u32 ((b/4294967296 ^ (n-1)%4294967296:Nat):Int)):=fun W g hB=>by
  rw [hB.cell];exact u32s_dg _ _ _ (by omega)
 generalize b/4294967296 ^ (n-1)%4294967296=d0 at *;have HD:=Lib.hid hd0;generalize a*2 ^ s=A at *;generalize b*2 ^ s=Y at *;have HA:=Lib.hid hst;have HY:=Lib.hid hY;have HY1:=Lib.hid hY1;have HMK:=Lib.hid hmk;clear hz hc hDa hDb hla hlb hlw q1 q2 hlz hs' hsz hst hY hY1 ha hb h hab hd0 hmk hT;have n1:(n:Int)≠1:=by omega
 have n2:(1:Int)≤n:=by omega
 have n3:(n:Int)-1<n:=by omega
 have n4:((n:Int)-1).toNat=n-1:=by omega
 go_enter Tryz.func191,Tryz.ntmps191;go_wp2_with fail;refine (hW.out _).mono ?_;rintro e w1 ⟨⟨x,y,rfl⟩,rfl⟩;go_wp2_with fail;refine (hC.out _).mono ?_;rintro e w1 ⟨rfl,hb1⟩;go_wp2_with fail;refine (HDB.out _).mono ?_;rintro e w2 ⟨rfl,hB2,hb2⟩;have hb12:Below w.heap.size w w2:=bel_up hb1 hb2;have hg2:=hB2.lt;clear hb1 hb2;generalize w1.heap.size=g1 at *;have hy:=HD.out _ _ hB2;go_wp2_with fail;refine (HLZ.out _).mono ?_;rintro e w3 ⟨rfl,rfl⟩;clear hy;go_wp2_with fail;refine (HDA.out _).mono ?_;rintro e w3 ⟨rfl,hB3,hb3⟩;have hb13:Below w.heap.size w w3:=bel_up hb12 hb3;have hB2':=hB2.up hb3;go_wp2_with fail;refine (hsx.out _ _ hB3).mono ?_;rintro e w4 ⟨rfl,hX,hb4⟩;have hb14:Below w.heap.size w w4:=bel_up hb13 hb4;have hB2'':=hB2'.up hb4;go_wp2_with fail;refine (hsy.out _ _ hB2'').mono ?_;rintro e w5 ⟨rfl,hYB,hb5⟩;have hb15:Below w.heap.size w w5:=bel_up hb14 hb5;have hX5:=hX.up hb5;have hgx:=hX.lt;have hgy:=hYB.lt;have hgw:=hb13.size;generalize w3.heap.size=gx at *;generalize w4.heap.size=gy at *;clear hB2 hB2' hB2'' hB3 hX hb3 hb4 hb5 hb12 hb13 hb14 hg2;have hmk:=HMK.out;have m1:(0:Int)≤(m:Int)+1-n:=by omega
 go_wp2_with fail;clear hmk;clear n1 n3 n4 hb0 hz0 HDA HDB HLZ hsx hsy HD hW hC HMK m1;go_loopg [16] T (fun k j wr=>k≤T∧j=.int .i64 ((k:Int)-1)∧Blk wr gx 165 (u32s (Pl.dg 4294967296 (m+1) (A%(4294967296 ^ k*Y))))∧Blk wr gy 165 (u32s (Pl.dg 4294967296 (n+1) Y))∧Blk wr w5.heap.size 165 (u32s (Pl.mixD 4294967296 T 0 (A/Y) k))∧Below w.heap.size w wr)
 case atStart=>exact ⟨Nat.le_refl _,rfl,by rw [Nat.mod_eq_of_lt HA.out];exact hX5.alloc _,hYB.alloc _,by rw [Pl.mixD_full];exact Blk.new _ _ _,bel_alloc hb15 _⟩
 case round =>
  as_aux_lemma =>
  obtain ⟨hk,rfl,hX,hYc,hO,hbl⟩:=hrel;clear hX5 hYB hb15;generalize w5.heap.size=go at *
  by_cases h0:gk=0
  ·as_aux_lemma =>
   subst h0;rw [Nat.pow_zero,Nat.one_mul] at hX;rw [Pl.mixD_zero] at hO;have hYp:0<Y:=Nat.lt_of_lt_of_le (Nat.pow_pos (by omega)) HY1.out;have hRl:A%Y/2 ^ s<4294967296 ^ n:=Nat.lt_of_le_of_lt (Nat.div_le_self _ _) (Nat.lt_trans (Nat.mod_lt _ hYp) HY.out);have hQl:A/Y<4294967296 ^ T:=(Nat.div_lt_iff_lt_mul hYp).2 HA.out;have HBK:=Lib.hid (fun i=>Pl.kn_back (A%Y) s i hs);rw [HQ.out] at hO hQl;have hbo:=fun (g:Nat) W hB=>bytes_any g T T (Pl.dg 4294967296 T (a/b)) W hB (by rw [Pl.dg_length];omega) (by omega) (by omega) (Pl.dg_lt (by omega))
   rw [List.take_of_length_le (by rw [Pl.dg_length];omega),Pl.vB_dg,Nat.mod_eq_of_lt hQl] at hbo;have HBO:=Lib.hid hbo;have hbr:=fun (g:Nat) W hB=>bytes_any g n n (Pl.dg 4294967296 n (A%Y/2 ^ s)) W hB (by rw [Pl.dg_length];omega) (by omega) (by omega) (Pl.dg_lt (by omega))
   rw [List.take_of_length_le (by rw [Pl.dg_length];omega),Pl.vB_dg,Nat.mod_eq_of_lt hRl,HR.out] at hbr;have HBR:=Lib.hid hbr;have hmk:=make_words (n:Int) n rfl (by omega);clear hYp hQl hRl hbo hbr HQ HA HY HY1 hYc hk;generalize A%Y=R at *;go_wp2_with fail;clear hmk;have hgo:=hO.lt;have hX1:=hX.alloc (.cells (u32s (Pl.dg 4294967296 n 0)).toArray 165);have hO1:=hO.alloc (.cells (u32s (Pl.dg 4294967296 n 0)).toArray 165);have hN1:=Blk.new wr 165 (u32s (Pl.dg 4294967296 n 0));have hb1:=bel_alloc hbl (.cells (u32s (Pl.dg 4294967296 n 0)).toArray 165);have hgr:=hbl.size;have HM0:Hid (Pl.mixD 4294967296 n (R/2 ^ s) 0 0=Pl.dg 4294967296 n 0):=Lib.hid (Pl.mixD_zero _ _ _ _);clear hX hO hbl;generalize wr.heap.size=gr at *;go_loopg [277] n (fun gk i wr=>∃ k:Nat,gk=n-k∧k≤n∧i=.int .i64 k∧Blk wr gr 165 (u32s (Pl.mixD 4294967296 n (R/2 ^ s) 0 k))∧Blk wr gx 165 (u32s (Pl.dg 4294967296 (m+1) R))∧Blk wr go 165 (u32s (Pl.dg 4294967296 T (a/b)))∧Below w.heap.size w wr)
   case atStart=>exact ⟨0,rfl,Nat.zero_le _,rfl,by rw [HM0.out];exact hN1,hX1,hO1,hb1⟩
   case round =>
    as_aux_lemma =>
    obtain ⟨k,rfl,hkn,rfl,hN,hX,hO,hbl⟩:=hrel;clear hX1 hO1 hN1 hb1
    by_cases hkl:k<n
    ·as_aux_lemma =>
     have hx1:=hX.cell (k+1);rw [u32s_dg _ _ _ (by omega)] at hx1;have hx2:=hX.cell k;rw [u32s_dg _ _ _ (by omega)] at hx2;have hset:=Pl.mixD_set 4294967296 n (R/2 ^ s) 0 k hkl;have hbk:=HBK.out k;have l1:R/4294967296 ^ (k+1)%4294967296<4294967296:=Nat.mod_lt _ (by omega);have l2:R/4294967296 ^ k%4294967296<4294967296:=Nat.mod_lt _ (by omega);rw [← hbk] at hset;generalize R/4294967296 ^ (k+1)%4294967296=u1 at *;generalize R/4294967296 ^ k%4294967296=u2 at *;have HSET:=Lib.hid hset;have o1:bits .or .u64 ((u1:Int)*4294967296) u2=((u1*4294967296+u2:Nat):Int):=or_word64 u1 u2 l1 l2;have hVl:u1*4294967296+u2<18446744073709551616:=by omega
     clear hset hbk;generalize u1*4294967296+u2=V at *;have HV:Hid ((V:Int)/2 ^ s%4294967296=((V/2 ^ s%4294967296:Nat):Int)):=Lib.hid (by simp);have s0:(0:Int)≤s:=by omega
     have s1:(s:Int)<64:=by omega
     have k1:(k:Int)+1<(m:Int)+1:=by omega
     have k2:(k:Int)<(m:Int)+1:=by omega
     have k3:(k:Int)<n:=by omega
     have k4:((k:Int)+1).toNat=k+1:=by omega
     go_wp2_with fail;have d1:=Bel.cell hx1;have d2:=Bel.cell hx2;have hNc:=hN.cell k;have hN0:=Pl.mixD_get 4294967296 n (R/2 ^ s) 0 k hkl;rw [u32s_get,hN0] at hNc;simp only [Option.map_some] at hNc;clear hN0;have d3:=Bel.cell hNc;refine wp_region_tail 19 (by kernel_rfl) (by kernel_rfl) ?_;simp only [List.take_succ_cons,List.take_zero,List.drop_succ_cons,List.drop_zero];repeat (go_big_quiet_step (fail))
     refine wpQuiet_nil ?_;intro w9 hb9;have hN9:w9.cell? _=_:=Bel.cell hNc ⟨w9,hb9⟩;have hf9:=(hN.up hb9).free k;clear d1 d2 d3 hx1 hx2 hNc o1;go_wp2;go_roundg (n-(k+1))
     case measure=>omega
     case rel =>
      refine ⟨k+1,rfl,by omega,by go_num,?_,(hX.up hb9).far (show gx≠gr by omega) _,(hO.up hb9).far (show go≠gr by omega) _,(bel_up hbl hb9).setCell hgr _⟩;rw [← HSET.out,← u32s_set,← HV.out];exact (hN.up hb9).put _ _
    ·have hkn':n=k:=by omega
     subst hkn';rw [Pl.mixD_full,HR.out] at hN;clear hkl;go_wp2_with fail;refine (HBO.out _ _ hO).mono ?_;rintro e w9 ⟨rfl,hb9⟩;have hN9:=hN.up hb9;have hb19:=bel_up hbl hb9;clear hX hO hN;go_wp2_with fail;refine (HBR.out _ _ hN9).mono ?_;rintro e w10 ⟨rfl,hb10⟩;have hb20:=bel_up hb19 hb10;clear hN9;go_wp2;go_ret2;exact ⟨rfl,hb20⟩
  ·as_aux_lemma =>
   obtain ⟨j,rfl⟩:∃ j,gk=j+1:=⟨gk-1,by omega⟩
   rw [show ((j+1:Nat):Int)-1=(j:Int) from by omega];have hZY:A%(4294967296 ^ (j+1)*Y)<4294967296 ^ (j+1)*Y:=Nat.mod_lt _ (Nat.mul_pos (Nat.pow_pos (by omega)) (Nat.lt_of_lt_of_le (Nat.pow_pos (by omega)) HY1.out));have hgd:=Pl.gd_of (b:=4294967296) (by omega) h1 HY.out HY1.out hZY;obtain ⟨hcl1,hcl2⟩:=Pl.kn_closed 4294967296 j A Y;have HCL1:=Lib.hid hcl1;have HCL2:=Lib.hid hcl2;clear hcl1 hcl2;generalize A%(4294967296 ^ (j+1)*Y)=Z at *;have hx1:=hX.cell (j+n);rw [u32s_dg _ _ _ (by omega)] at hx1;have hx2:=hX.cell (j+n-1);rw [u32s_dg _ _ _ (by omega)] at hx2;have hy1:=hYc.cell (n-1);rw [u32s_dg _ _ _ (by omega)] at hy1;have hy2:=hYc.cell (n-2);rw [u32s_dg _ _ _ (by omega)] at hy2;have hx3:=hX.cell (j+n-2);rw [u32s_dg _ _ _ (by omega)] at hx3;have l1:Z/4294967296 ^ (j+n)%4294967296<4294967296:=Nat.mod_lt _ (by omega);have l2:Z/4294967296 ^ (j+n-1)%4294967296<4294967296:=Nat.mod_lt _ (by omega);have HZ:=Lib.hid hZY;clear hZY;have HU0:Hid (Z/4294967296 ^ (j+n)%4294967296=Z/4294967296 ^ j/4294967296 ^ n%4294967296):=Lib.hid (by rw [Pl.kn_win]);generalize Z/4294967296 ^ (j+n)%4294967296=u0 at *;generalize Z/4294967296 ^ (j+n-1)%4294967296=u1 at *;generalize Z/4294967296 ^ (j+n-2)%4294967296=u2 at *;generalize Y/4294967296 ^ (n-1)%4294967296=v1 at *;generalize Y/4294967296 ^ (n-2)%4294967296=v2 at *;have HGD:=Lib.hid hgd;have lv:=hgd.v;have lv1:=hgd.v1b;have lv2:=hgd.v2b;have lu2:=hgd.u2b;clear hgd;have o1:bits .or .u64 ((u0:Int)*4294967296) u1=((u0*4294967296+u1:Nat):Int):=or_word64 u0 u1 l1 l2;have hHl:u0*4294967296+u1<18446744073709551616:=by omega
   generalize u0*4294967296+u1=H at *;have i1:(0:Int)≤(j:Int)+n:=by omega
   have i2:(j:Int)+n<(m:Int)+1:=by omega
   have i3:(1:Int)≤(j:Int)+n:=by omega
   have i4:(j:Int)+n-1<(m:Int)+1:=by omega
   have i5:((j:Int)+n-1).toNat=j+n-1:=by omega
   have i6:(n:Int)-1<n:=by omega
   have i7:((n:Int)-1).toNat=n-1:=by omega
   have i8:((j:Int)+n).toNat=j+n:=by omega
   go_wp2_with fail;have d1:=Bel.cell hx1;have d2:=Bel.cell hx2;refine wp_region_all (by kernel_rfl) (by kernel_rfl) ?_;repeat (go_big_quiet_step (fail))
   refine wpQuiet_nil ?_;intro w6 hb6;have y6:w6.cell? _=_:=Bel.cell hy1 ⟨w6,hb6⟩;have z6:w6.cell? _=_:=Bel.cell hy2 ⟨w6,hb6⟩;have x6:w6.cell? _=_:=Bel.cell hx3 ⟨w6,hb6⟩;clear d1 d2 o1 hx1 hx2 hx3 hy1 hy2;have j2:(1:Int)≤v1:=by omega
   have j3:((v1:Int)==0)=false:=by simp;omega
   go_wp2_with fail;have d1:=Bel.cell y6;refine wp_region_all (by kernel_rfl) (by kernel_rfl) ?_;repeat (go_big_quiet_step (fail))
   refine wpQuiet_nil ?_;intro w7 hb7;have y7:w7.cell? _=_:=Bel.cell y6 ⟨w7,hb7⟩;have z7:w7.cell? _=_:=Bel.cell z6 ⟨w7,hb7⟩;have x7:w7.cell? _=_:=Bel.cell x6 ⟨w7,hb7⟩;have hb67:=bel_up hb6 hb7;clear d1 y6 z6 x6 hb6 hb7;have hX7:=hX.up hb67;have hY7:=hYc.up hb67;have hO7:=hO.up hb67;have hbl7:=bel_up hbl hb67;clear hX hYc hO hbl hb67;go_upto_block 2 with fail
   have HG0:Hid (IntKind.u64.wrap ((H:Int)/v1)=((H/v1:Nat):Int)):=Lib.hid (by
    have e:=Nat.div_le_self H v1
    rw [← Int.natCast_ediv];exact IntWalk.u64_in _ ⟨Int.natCast_nonneg _,by generalize H/v1=q at e ⊢;omega⟩)
   have HG1:Hid ((H:Int)%v1=((H%v1:Nat):Int)):=Lib.hid (Int.natCast_emod _ _).symm;generalize hW0:Z/4294967296 ^ j=W0 at *;have HW0:=Lib.hid hW0;generalize hq0:W0/Y=q0 at *;have HQ0:=Lib.hid hq0;clear hW0 hq0;go_cut [18,19] from 94 to 273 (fun g _ wx=>∃ G:Nat,g=.int .u64 G∧G<4294967296∧Hid (G*Y<W0+Y)∧(G=q0∨G=q0+1)∧Below w7.heap.size w7 wx)
   case first =>
    as_aux_lemma =>
    clear hO7 hX7 hY7 hbl7 HCL1 HCL2 HU0 HQ HR HA HY HY1 HZ j2 j3 HW0;go_wp2_with fail;go_loopg [18,19] (H/v1) (fun G g r wx=>∃ R:Nat,g=.int .u64 G∧r=.int .u64 R∧R<4294967296∧Hid (G*v1+R=H)∧Hid (q0≤G)∧Below w7.heap.size w7 wx)
    case atStart=>exact ⟨H%v1,congrArg (Value.int .u64) HG0.out,congrArg (Value.int .u64) HG1.out,by have:=Nat.mod_lt H lv;omega,Lib.hid (by rw [Nat.mul_comm];exact Nat.div_add_mod _ _),Lib.hid (by rw [← HQ0.out];exact HGD.out.start),Below.refl _ _⟩
    case round =>
     as_aux_lemma =>
     obtain ⟨R,rfl,rfl,hR,HGR,HQL,hbx⟩:=hrel;have hGv:gk*v1≤H:=by have:=HGR.out;omega
     have hGl:gk≤H:=Nat.le_trans (Nat.le_mul_of_pos_right _ lv) hGv;clear hGv;have k1:(2:Int)≤n:=by omega
     have k2:(n:Int)-2<n:=by omega
     have k3:((n:Int)-2).toNat=n-2:=by omega
     have k4:(2:Int)≤(j:Int)+n:=by omega
     have k5:(j:Int)+n-2<(m:Int)+1:=by omega
     have k6:((j:Int)+n-2).toNat=j+n-2:=by omega
     have yr:wr.cell? _=_:=Bel.cell y7 ⟨wr,hbx⟩;have zr:wr.cell? _=_:=Bel.cell z7 ⟨wr,hbx⟩;have xr:wr.cell? _=_:=Bel.cell x7 ⟨wr,hbx⟩;clear z7 x7
     by_cases hGB:4294967296≤gk
     ·as_aux_lemma =>
      have g1:(4294967296:Int)≤gk:=by omega
      go_wp2_with fail;refine wp_region_all (by kernel_rfl) (by kernel_rfl) ?_;repeat (go_big_quiet_step (fail))
      refine wpQuiet_nil ?_;intro w8 hb8;clear yr zr xr;have hq1:q0≤gk-1:=HQ0.out▸HGD.out.down1 hGB;have gp:1≤gk:=by omega
      have gp':(1:Int)≤gk:=by omega
      have gl':(gk:Int)-1≤18446744073709551615:=by omega
      have HDEC:=Lib.hid (Pl.gd_dec HGR.out gp);have HQ1:=Lib.hid hq1;clear hq1 gp;have hb78:=bel_up hbx hb8;have y8:w8.cell? _=_:=Bel.cell y7 ⟨w8,hb78⟩
      by_cases hRb:4294967296≤R+v1
      ·have r1:(4294967296:Int)≤(R:Int)+v1:=by omega
       go_wp2;go_meet;obtain ⟨f1,f2,f3⟩:=HGD.out.brk HDEC.out hRb (HQ0.out.symm▸HQ1.out);rw [HQ0.out] at f3;exact ⟨gk-1,congrArg (Value.int .u64) (by omega),f1,Lib.hid f2,f3,hb78⟩
      ·have r1:¬ (4294967296:Int)≤(R:Int)+v1:=by omega
       have HRB:=Lib.hid hRb;clear hRb;go_upto_if 166 with fail
       have r2:¬ (4294967296:Int)≤(R:Int)+v1:=by have:=HRB.out;omega
       clear r1;go_wp2;go_roundg (gk-1)
       case rel=>exact ⟨R+v1,congrArg (Value.int .u64) (by omega),congrArg (Value.int .u64) (by omega),by have:=HRB.out;omega,HDEC,HQ1,hb78⟩
       case measure=>omega
     ·as_aux_lemma =>
      have g1:(gk:Int)<4294967296:=by omega
      have hPl:gk*v2≤4294967295*4294967295:=Nat.mul_le_mul (by omega) (by omega);have w1':IntKind.u64.wrap ((gk:Int)*v2)=((gk*v2:Nat):Int):=by rw [← Int.natCast_mul];exact IntWalk.u64_in _ ⟨by omega,by omega⟩
      have o2:bits .or .u64 ((R:Int)*4294967296) u2=((R*4294967296+u2:Nat):Int):=or_word64 R u2 hR lu2;have HP:Hid (gk*v2=gk*v2):=Lib.hid rfl
      by_cases hl:R*4294967296+u2<gk*v2
      ·as_aux_lemma =>
       have hl2:=Lib.hid hl
       have hgz:1≤gk:=by
        rcases Nat.eq_zero_or_pos gk with h0|h0
        ·rw [h0,Nat.zero_mul] at hl;omega
        ·exact h0
       have HLT:Hid (R*4294967296+u2<gk*v2):=hl2;clear HP hl2;have HGZ:=Lib.hid hgz;generalize hPe:gk*v2=P at w1' hl hPl;generalize hSe:R*4294967296+u2=S at o2 hl;have hPS:(S:Int)<P:=by omega
       clear hPe hSe hgz;have dz:=Bel.cell zr;have dx:=Bel.cell xr;go_wp2_with fail;have g2:¬ (4294967296:Int)≤gk:=by omega
       refine wp_region_all (by kernel_rfl) (by kernel_rfl) ?_;repeat (go_big_quiet_step (fail))
       refine wpQuiet_nil ?_;intro w8 hb8;clear yr zr xr dz dx w1' o2;have hq1:q0≤gk-1:=HQ0.out▸HGD.out.down2 HGR.out HLT.out;have gp:1≤gk:=HGZ.out;have gp':(1:Int)≤gk:=by omega
       have gl':(gk:Int)-1≤18446744073709551615:=by omega
       have HDEC:=Lib.hid (Pl.gd_dec HGR.out gp);have HQ1:=Lib.hid hq1;clear hq1 gp;have hb78:=bel_up hbx hb8;have y8:w8.cell? _=_:=Bel.cell y7 ⟨w8,hb78⟩
       by_cases hRb:4294967296≤R+v1
       ·have r1:(4294967296:Int)≤(R:Int)+v1:=by omega
        go_wp2;go_meet;obtain ⟨f1,f2,f3⟩:=HGD.out.brk HDEC.out hRb (HQ0.out.symm▸HQ1.out);rw [HQ0.out] at f3;exact ⟨gk-1,congrArg (Value.int .u64) (by omega),f1,Lib.hid f2,f3,hb78⟩
       ·have r1:¬ (4294967296:Int)≤(R:Int)+v1:=by omega
        have HRB:=Lib.hid hRb;clear hRb;go_upto_if 166 with fail
        have r2:¬ (4294967296:Int)≤(R:Int)+v1:=by have:=HRB.out;omega
        clear r1;go_wp2;go_roundg (gk-1)
        case rel=>exact ⟨R+v1,congrArg (Value.int .u64) (by omega),congrArg (Value.int .u64) (by omega),by have:=HRB.out;omega,HDEC,HQ1,hb78⟩
        case measure=>omega
      ·have HLT:Hid (gk*v2≤R*4294967296+u2):=Lib.hid (by omega)
       clear HP;generalize hPe:gk*v2=P at w1' hl hPl;generalize hSe:R*4294967296+u2=S at o2 hl;have hPS:(P:Int)≤S:=by omega
       clear hPe hSe;have dz:=Bel.cell zr;have dx:=Bel.cell xr;go_wp2_with fail;have g2:¬ (4294967296:Int)≤gk:=by omega
       refine wp_region_all (by kernel_rfl) (by kernel_rfl) ?_;repeat (go_big_quiet_step (fail))
       refine wpQuiet_nil ?_;intro w8 hb8;clear yr zr xr dz dx w1' o2;go_wp2;go_meet;obtain ⟨f1,f2⟩:=HGD.out.fin HGR.out HLT.out (by omega) (HQ0.out.symm▸HQL.out);rw [HQ0.out] at f2;exact ⟨gk,rfl,by omega,Lib.hid f1,f2,bel_up hbx hb8⟩
   case rest =>
    as_aux_lemma =>
    obtain ⟨G,rfl,hG,HGY,hGq,hbc⟩:=hcut;have hX8:=hX7.up hbc;have hY8:=hY7.up hbc;have hO8:=hO7.up hbc;have hbl8:=bel_up hbl7 hbc;clear hX7 hY7 hO7 hbl7 hbc x7 y7 z7 HG0 HG1 i3 i4 i5 j2 j3;obtain ⟨P,hP⟩:∃ P,P=G*Y:=⟨_,rfl⟩
    obtain ⟨D,hD⟩:∃ D,D=W0+4294967296 ^ (n+1)-P:=⟨_,rfl⟩
    have hle:P≤W0+4294967296 ^ (n+1):=by have h2:=HGY.out;have h3:=HY.out;have h4:4294967296 ^ n≤4294967296 ^ (n+1):=Nat.pow_le_pow_right (by omega) (by omega);rw [hP];omega
    have HP:=Lib.hid hP;have HD:=Lib.hid hD;have HLE:=Lib.hid hle;have hms:=Lib.hid (fun i hi=>Pl.ms_step (b:=4294967296) (n:=n) (N:=m+1) (j:=j) (Z:=Z) i (by omega) hi (by omega) HW0.out hD hle);have hst:Pl.mixD 4294967296 (m+1) (Z%4294967296 ^ j+4294967296 ^ j*D) Z (j+0)=Pl.dg 4294967296 (m+1) Z:=Pl.ms_start (b:=4294967296) (N:=m+1) (j:=j) (Z:=Z) (D:=D) (by omega) (by omega);have HST:=Lib.hid hst;clear hP hD hle hst;go_wp2_with fail;go_loopg [20,21,168] n (fun gk bo c i wr=>∃ k:Nat,gk=n-k∧k≤n∧i=.int .i64 k∧bo=.int .i64 (Pl.carry 4294967296 D P k:Nat)∧c=.int .u64 (Pl.mcarry 4294967296 0 G Y k:Nat)∧Blk wr gx 165 (u32s (Pl.mixD 4294967296 (m+1) (Z%4294967296 ^ j+4294967296 ^ j*D) Z (j+k)))∧Blk wr gy 165 (u32s (Pl.dg 4294967296 (n+1) Y))∧Blk wr go 165 (u32s (Pl.mixD 4294967296 T 0 (A/Y) (j+1)))∧Below w.heap.size w wr)
    case atStart=>exact ⟨0,rfl,Nat.zero_le _,rfl,by rw [Pl.carry_zero];rfl,by rw [Pl.mcarry_zero];rfl,by rw [HST.out];exact hX8,hY8,hO8,hbl8⟩
    case round =>
     as_aux_lemma =>
     obtain ⟨k,rfl,hkn,rfl,rfl,rfl,hX,hYc,hO,hbl⟩:=hrel;clear hX8 hY8 hO8 hbl8
     by_cases hkl:k<n
     ·as_aux_lemma =>
      have hx:=hX.cell (j+k);rw [u32s_get,Pl.mixD_get _ _ _ _ _ (by omega)] at hx;simp only [Option.map_some] at hx;have hf:=hX.free (j+k);have hy:=hYc.cell k;rw [u32s_dg _ _ _ (by omega)] at hy;obtain ⟨hset,hstep⟩:=hms.out k hkn;have ⟨hc1,hc2⟩:=Pl.kn_carry 4294967296 G Y k (by omega);rw [← HP.out] at hc2;have hc3:=Pl.mcarry_le 4294967296 0 G Y k (by omega);have hb3:=Pl.carry_le 4294967296 D P k (by omega);have lx:Z/4294967296 ^ (j+k)%4294967296<4294967296:=Nat.mod_lt _ (by omega);have ly:Y/4294967296 ^ k%4294967296<4294967296:=Nat.mod_lt _ (by omega);have ls:D/4294967296 ^ k%4294967296<4294967296:=Nat.mod_lt _ (by omega);rw [← hc2] at hstep;generalize Z/4294967296 ^ (j+k)%4294967296=X at *;generalize Y/4294967296 ^ k%4294967296=Yd at *;generalize D/4294967296 ^ k%4294967296=Sd at *;generalize Pl.mcarry 4294967296 0 G Y k=C at *;generalize Pl.carry 4294967296 D P k=Bo at *;have hgy:G*Yd≤4294967295*4294967295:=Nat.mul_le_mul (by omega) (by omega);obtain ⟨E,hE⟩:∃ E,E=C+G*Yd:=⟨_,rfl⟩
      rw [← hE] at hc1 hstep;have w1':IntKind.u64.wrap ((G:Int)*Yd)=((G*Yd:Nat):Int):=by rw [← Int.natCast_mul];exact IntWalk.u64_in _ ⟨by omega,by omega⟩
      have w2':IntKind.u64.wrap ((C:Int)+((G*Yd:Nat):Int))=(E:Int):=by rw [IntWalk.u64_in _ ⟨by omega,by omega⟩];omega
      have hEl:E≤18446744073709551615:=by omega
      obtain ⟨hs1,hs2⟩:=hstep _ rfl;have HSET:=Lib.hid hset;have HC1:=Lib.hid hc1;clear hset hc1 hc2 hstep hE;generalize G*Yd=GY at w1' w2' hgy;have k0:(0:Int)≤(k:Int)+j:=by omega
      have k1:(k:Int)+j<(m:Int)+1:=by omega
      have k2:((k:Int)+j).toNat=j+k:=by omega
      have k3:(k:Int)<n:=by omega
      have H1:=Lib.hid hs1;have H2:=Lib.hid hs2;clear hs1 hs2
      by_cases hneg:(X:Int)-Bo-((E%4294967296:Nat):Int)<0
      ·obtain ⟨e1,e2⟩:=H1.out hneg
       rw [Int.natCast_emod] at hneg;have E1:Hid ((X:Int)-Bo-(E:Int)%4294967296+4294967296=Sd):=Lib.hid (by omega);have n9:(X:Int)-Bo-(E:Int)%4294967296<0:=by omega
       clear hneg;have E2:=Lib.hid e2;clear e1 e2 H1 H2;go_wp2;go_roundg (n-(k+1))
       case measure=>omega
       case rel =>
        refine ⟨k+1,rfl,by omega,by go_num,by rw [E2.out];rfl,by rw [← HC1.out,Int.natCast_ediv];rfl,?_,hYc.far (show gy≠gx by omega) _,hO.far (show go≠gx by omega) _,hbl.setCell hgw _⟩;show Blk _ _ _ (u32s (Pl.mixD _ _ _ _ (j+k+1)));rw [← HSET.out,← u32s_set,← E1.out];exact hX.put _ _
      ·obtain ⟨e1,e2⟩:=H2.out (by omega)
       have E1:Hid ((X:Int)-Bo-(E:Int)%4294967296=Sd):=Lib.hid (by omega);have n9:¬ (X:Int)-Bo-(E:Int)%4294967296<0:=by omega
       clear hneg;have E2:=Lib.hid e2;clear e1 e2 H1 H2;go_wp2;go_roundg (n-(k+1))
       case measure=>omega
       case rel =>
        refine ⟨k+1,rfl,by omega,by go_num,by rw [E2.out];rfl,by rw [← HC1.out,Int.natCast_ediv];rfl,?_,hYc.far (show gy≠gx by omega) _,hO.far (show go≠gx by omega) _,hbl.setCell hgw _⟩;show Blk _ _ _ (u32s (Pl.mixD _ _ _ _ (j+k+1)));rw [← HSET.out,← u32s_set,← E1.out];exact hX.put _ _
     ·as_aux_lemma =>
      have hkn':n=k:=by omega
      subst hkn';have hx:=hX.cell (j+n);rw [u32s_get,Pl.mixD_get _ _ _ _ _ (by omega)] at hx;simp only [Option.map_some] at hx;have hf:=hX.free (j+n);have hfo:=hO.free j;have hco:=hO.cell j;have hgl:=Pl.mixD_getLow 4294967296 T 0 (A/Y) (j+1) (by omega);rw [Nat.add_sub_cancel] at hgl;rw [u32s_get,hgl] at hco;simp only [Option.map_some] at hco;clear hgl;have hne1:gx≠go:=by omega
      have hne2:go≠gx:=by omega
      obtain ⟨hset,hstep⟩:=hms.out n (Nat.le_refl _);have ht:=Pl.kn_top 4294967296 G Y n (by omega) HY.out hG;rw [← HP.out] at ht;rw [← ht] at hstep;have hcl:Pl.mcarry 4294967296 0 G Y n<4294967296:=by rw [ht];exact Nat.mod_lt _ (by omega)
      have hb3:=Pl.carry_le 4294967296 D P n (by omega);have lx:Z/4294967296 ^ (j+n)%4294967296<4294967296:=Nat.mod_lt _ (by omega);have ls:D/4294967296 ^ n%4294967296<4294967296:=Nat.mod_lt _ (by omega);have hYp:0<Y:=HGD.out.ypos;have hWl:W0<4294967296 ^ (n+1):=Nat.lt_of_lt_of_le HGD.out.wy (by rw [Nat.pow_succ];exact Nat.mul_le_mul_right _ (Nat.le_of_lt HY.out));have hGY:G*Y<4294967296 ^ (n+1):=by rw [Nat.pow_succ,Nat.mul_comm];exact Nat.mul_lt_mul'' HY.out hG
      have hfit:=Lib.hid (fun h=>Pl.kn_fit (b:=4294967296) (Y:=Y) (W:=W0) (n:=n) (g:=G) hWl (HQ0.out.symm▸hGq) h hYp);have hovr:=Lib.hid (fun h=>Pl.kn_over (b:=4294967296) (Y:=Y) (W:=W0) (n:=n) (g:=G) hWl (HQ0.out.symm▸hGq) h hGY);have hZl:Z<4294967296 ^ (j+n+1):=by have h1:=Nat.mul_lt_mul_of_pos_left HY.out (Nat.pow_pos (n:=j+1) (show 0<4294967296 by omega));rw [← Nat.pow_add,show j+1+n=j+n+1 from by omega] at h1;exact Nat.lt_trans HZ.out h1
      have hrl:Z%4294967296 ^ j<4294967296 ^ j:=Nat.mod_lt _ (Nat.pow_pos (by omega));have hml:W0%Y<4294967296 ^ (n+1):=Nat.lt_of_le_of_lt (Nat.mod_le _ _) hWl;have HDONE:=Lib.hid (fun Z' hZ'=>Pl.kn_done 4294967296 (m+1) j n (Z%4294967296 ^ j) (W0%Y) Z' (by omega) (by omega) hrl hml hZ');have HMID:=Lib.hid (fun hD=>Pl.kn_mid 4294967296 (m+1) j n (Z%4294967296 ^ j) D Z (by omega) (by omega) hrl hD hZl);have hob:(Pl.mixD 4294967296 T 0 (A/Y) (j+1)).set j q0=Pl.mixD 4294967296 T 0 (A/Y) j:=by have h1:=Pl.mixD_back 4294967296 T 0 (A/Y) (j+1) (by omega) (by omega);rw [Nat.add_sub_cancel,← HCL1.out] at h1;exact h1
      have HOB:=Lib.hid hob;have hqB:q0<4294967296:=by rw [← HQ0.out];exact HGD.out.qb
      have HZL:=Lib.hid hZl;have HRL:=Lib.hid hrl;have HML:=Lib.hid hml;clear ht hYp hWl hGY hob hZl hrl hml hGq;generalize hU:Z/4294967296 ^ (j+n)%4294967296=U at *;generalize hSd:D/4294967296 ^ n%4294967296=Sd at *;generalize Pl.mcarry 4294967296 0 G Y n=C at *;generalize hBo:Pl.carry 4294967296 D P n=Bo at *;have HSD:=Lib.hid hSd;obtain ⟨hs1,hs2⟩:=hstep _ rfl;have HSET:=Lib.hid hset;have H1:=Lib.hid hs1;have H2:=Lib.hid hs2;clear hset hstep hs1 hs2 hU hSd hBo hms hkl;have k3:(j:Int)<T:=by omega
      by_cases hneg:(U:Int)-Bo-C<0
      ·as_aux_lemma =>
       obtain ⟨e1,e2⟩:=H1.out hneg
       have hov:W0<G*Y:=by
        rcases Nat.lt_or_ge W0 (G*Y) with h|h
        ·exact h
        ·have:=(hfit.out h).2.2
         rw [← HP.out,← HD.out,e2] at this;omega
       obtain ⟨f1,f2,f3,f4⟩:=hovr.out hov;rw [← HP.out,← HD.out] at f2 f3;rw [HQ0.out] at f1;have E1:Hid (((U:Int)-Bo-C)%4294967296=Sd):=Lib.hid (by omega);clear e1 e2 H1 H2 f4 hov;have F2:=Lib.hid f2;have F3:=Lib.hid f3;have F1:=Lib.hid f1;have gp:(1:Int)≤G:=by omega
       clear f1 f2 f3;obtain ⟨hmid,hmlt⟩:=HMID.out F3.out;have HM:=Lib.hid hmid;have HMLT:=Lib.hid hmlt;clear hmid hmlt;go_wp2_with fail;have hX1:Blk (wr.setCell ⟨gx,j+n,none⟩ (.int .u32 (((U:Int)-Bo-C)%4294967296))) gx 165 (u32s (Pl.dg 4294967296 (m+1) (Z%4294967296 ^ j+4294967296 ^ j*D))):=by rw [← HM.out,← HSET.out,← u32s_set,← E1.out];exact hX.put _ _
       have hY1:=hYc.far (show gy≠gx by omega) (p:=⟨gx,j+n,none⟩) (.int .u32 (((U:Int)-Bo-C)%4294967296));have hO1:=hO.far (show go≠gx by omega) (p:=⟨gx,j+n,none⟩) (.int .u32 (((U:Int)-Bo-C)%4294967296));have hb1:=hbl.setCell (p:=⟨gx,j+n,none⟩) hgw (.int .u32 (((U:Int)-Bo-C)%4294967296));clear hX hYc hO hbl hx hf hfo hco E1 HSET;generalize wr.setCell ⟨gx,j+n,none⟩ (.int .u32 (((U:Int)-Bo-C)%4294967296))=wn at *;have HAB:Hid (Pl.mixD 4294967296 (m+1) (Z%4294967296 ^ j+4294967296 ^ j*(D+Y)) (Z%4294967296 ^ j+4294967296 ^ j*D) (j+0)=Pl.dg 4294967296 (m+1) (Z%4294967296 ^ j+4294967296 ^ j*D)):=Lib.hid (Pl.ab_start (by omega) (by omega));have HABS:=Lib.hid (fun i hi=>Pl.ab_step (b:=4294967296) (N:=m+1) (j:=j) (r:=Z%4294967296 ^ j) (D:=D) (Y:=Y) i (by omega) HRL.out hi);go_loopg [25,231] n (fun gk sm i wr=>∃ k:Nat,gk=n-k∧k≤n∧i=.int .i64 k∧sm=.int .u64 (Pl.carry 4294967296 D Y k:Nat)∧Blk wr gx 165 (u32s (Pl.mixD 4294967296 (m+1) (Z%4294967296 ^ j+4294967296 ^ j*(D+Y)) (Z%4294967296 ^ j+4294967296 ^ j*D) (j+k)))∧Blk wr gy 165 (u32s (Pl.dg 4294967296 (n+1) Y))∧Blk wr go 165 (u32s (Pl.mixD 4294967296 T 0 (A/Y) (j+1)))∧Below w.heap.size w wr)
       case atStart=>exact ⟨0,rfl,Nat.zero_le _,rfl,by rw [Pl.carry_zero];rfl,by rw [HAB.out];exact hX1,hY1,hO1,hb1⟩
       case round =>
        as_aux_lemma =>
        obtain ⟨k,rfl,hkn,rfl,rfl,hX,hYc,hO,hbl⟩:=hrel;clear hX1 hY1 hO1 hb1;obtain ⟨hg,hset⟩:=HABS.out k (by omega);have hx:=hX.cell (j+k);rw [u32s_get,hg] at hx;simp only [Option.map_some] at hx;have hf:=hX.free (j+k);have hc1:=Pl.carry_le 4294967296 D Y k (by omega);have lx:D/4294967296 ^ k%4294967296<4294967296:=Nat.mod_lt _ (by omega);clear hg
        by_cases hkl:k<n
        ·as_aux_lemma =>
         have hy:=hYc.cell k;rw [u32s_dg _ _ _ (by omega)] at hy;have hcar:=Pl.carry_succ 4294967296 D Y k (by omega);have ly:Y/4294967296 ^ k%4294967296<4294967296:=Nat.mod_lt _ (by omega);generalize D/4294967296 ^ k%4294967296=X at *;generalize Y/4294967296 ^ k%4294967296=Yd at *;generalize Pl.carry 4294967296 D Y k=Ca at *;have HSET:=Lib.hid hset;have HCAR:=Lib.hid hcar;clear hset hcar;have k0:(0:Int)≤(k:Int)+j:=by omega
         have k1:(k:Int)+j<(m:Int)+1:=by omega
         have k2:((k:Int)+j).toNat=j+k:=by omega
         have k4:(k:Int)<n:=by omega
         go_wp2_with fail;have d1:=Bel.cell hx;have d2:=Bel.cell hy;refine wp_region_all (by kernel_rfl) (by kernel_rfl) ?_;repeat (go_big_quiet_step (fail))
         refine wpQuiet_nil ?_;intro w9 hb9;have hx9:w9.cell? _=_:=Bel.cell hx ⟨w9,hb9⟩;have hf9:=(hX.up hb9).free (j+k);clear d1 d2 hx hy hf;have HV1:Hid (((Ca:Int)+((X:Int)+Yd))%4294967296=(((Ca+X+Yd)%4294967296:Nat):Int)):=Lib.hid (by omega);have HV2:Hid (((Ca:Int)+((X:Int)+Yd))/4294967296=(((Ca+X+Yd)/4294967296:Nat):Int)):=Lib.hid (by omega);go_wp2;go_roundg (n-(k+1))
         case measure=>omega
         case rel =>
          refine ⟨k+1,rfl,by omega,by go_num,by rw [HV2.out,← HCAR.out],?_,(hYc.up hb9).far (show gy≠gx by omega) _,(hO.up hb9).far (show go≠gx by omega) _,(bel_up hbl hb9).setCell hgw _⟩;show Blk _ _ _ (u32s (Pl.mixD _ _ _ _ (j+k+1)));rw [HV1.out,← HSET.out,← u32s_set];exact (hX.up hb9).put _ _
        ·as_aux_lemma =>
         have hkn':n=k:=by omega
         subst hkn';rw [Pl.dig_beyond 4294967296 Y n n (by omega) HY.out (Nat.le_refl _)] at hset;have hfo:=hO.free j;have hco:=hO.cell j;have hgl:=Pl.mixD_getLow 4294967296 T 0 (A/Y) (j+1) (by omega);rw [Nat.add_sub_cancel] at hgl;rw [u32s_get,hgl] at hco;simp only [Option.map_some] at hco;clear hgl HSD;generalize D/4294967296 ^ n%4294967296=X at *;generalize Pl.carry 4294967296 D Y n=Ca at *;have HSET:=Lib.hid hset;clear hset hkl;have HV1:Hid (((X:Int)+Ca)%4294967296=(((Ca+X+0)%4294967296:Nat):Int)):=Lib.hid (by omega);have HV3:Hid ((G:Int)-1=(q0:Int)):=Lib.hid (by have:=F1.out;omega);go_wp2;go_roundg j
         case measure=>omega
         case rel =>
          refine ⟨by omega,rfl,?_,(hYc.far (show gy≠gx by omega) _).far (show gy≠go by omega) _,?_,(hbl.setCell hgw _).setCell (show w.heap.size≤go by omega) _⟩
          ·rw [HCL2.out,← HDONE.out _ HMLT.out,← F2.out,← HSET.out,← u32s_set,← HV1.out]
           exact (hX.put _ _).far (show gx≠go by omega) _
          ·rw [← HOB.out,← u32s_set,← HV3.out]
           exact (hO.far (show go≠gx by omega) _).put _ _
      ·as_aux_lemma =>
       obtain ⟨e1,e2⟩:=H2.out (by omega)
       have hfi:G*Y≤W0:=by
        rcases Nat.lt_or_ge W0 (G*Y) with h|h
        ·have:=(hovr.out h).2.2.2
         rw [← HP.out,← HD.out,e2] at this;omega
        ·exact h
       obtain ⟨f1,f2,f3⟩:=hfit.out hfi;rw [← HP.out,← HD.out] at f2;rw [HQ0.out] at f1;have E1:Hid ((U:Int)-Bo-C=Sd):=Lib.hid (by omega);clear e1 e2 H1 H2 f3 hfi;have F2:=Lib.hid f2;have F1:=Lib.hid f1;clear f1 f2;go_wp2;go_roundg j
       case measure=>omega
       case rel =>
        refine ⟨by omega,rfl,?_,(hYc.far (show gy≠gx by omega) _).far (show gy≠go by omega) _,?_,(hbl.setCell hgw _).setCell (show w.heap.size≤go by omega) _⟩
        ·rw [HCL2.out,← HDONE.out Z HZL.out,← F2.out,← HSET.out,← u32s_set,← E1.out]
         exact (hX.put _ _).far (show gx≠go by omega) _
        ·rw [← HOB.out,← u32s_set,← F1.out]
         exact (hO.far (show go≠gx by omega) _).put _ _
end Go.Proofs.YtiochgoocbkckaaGreatDoor
