/-
 Contracts of the reference for fractions: subtracting digits.
 Contracts of the reference for fractions: products of digits.
 Contracts of the reference for fractions: digits as machine integers, and back.
 Contracts of the reference for fractions: division of digits.
-/
import Derived.Test.YtiochgoocbkckaaGreatDoorAgao
import Derived.Deep.RegionWith
set_option maxRecDepth 100000
set_option linter.unusedSimpArgs false
set_option linter.unusedVariables false
namespace Go.Proofs.YtiochgoocbkckaaGreatDoor
open Go Go.RowKit

set_option maxHeartbeats 1000000 in
theorem rminus_any (va vb:Value) (a b:Nat) (w:World) (ha:DV w va a) (hb:DV w vb b) (hab:b≤a) (hla:Pl.L a≤67108864) :
 Calls Tryz.prog 89 #[va,vb] w fun e w'=>∃ v,e=.returned v∧DV w' v (a-b)∧Below w.heap.size w w'∧Fresh w.heap.size v:=by
 obtain ⟨A,c,rfl⟩:=dv_form ha;obtain ⟨B,d,rfl⟩:=dv_form hb;have HA:=Lib.hid ha;have HB:=Lib.hid hb;have hlb:Pl.L b≤Pl.L a:=Pl.L_mono hab;clear ha hb;go_enter Tryz.func89,Tryz.ntmps89;go_wp2_with fail;go_loopw [5,6,7,8] (fun v cy i _ wr=>∃ k:Nat,k≤Pl.L a∧i=.int .i64 k∧cy=.int .i64 (Pl.carry 256 (a-b) b k:Nat)∧wr.ownsRow w.heap.size 3 1 v k (ints (Pl.dg 256 k (a-b)))∧Below w.heap.size w wr) (fun _ _ i _ _=>Pl.L a-(intOf i).toNat)
 case atStart=>exact ⟨0,Nat.zero_le _,rfl,by rw [Pl.carry_zero];rfl,World.ownsRow_nil _ _ _ _,Below.refl _ _⟩
 case round =>
  obtain ⟨k,hk,rfl,rfl,hown,hbl⟩:=hrel;have hsz:=hbl.size;have HO:=Lib.hid hown;clear hown
  by_cases h1:k<Pl.L a
  ·have hcl:=Pl.carry_le 256 (a-b) b k (by omega)
   have hst:=Pl.borrow_step 256 a b k (by omega) hab _ rfl;have HSN:=Lib.hid (dg_snoc (a-b) k);have hx:a/256 ^ k%256<256:=Nat.mod_lt _ (by omega);have hy:b/256 ^ k%256<256:=Nat.mod_lt _ (by omega);have hyz:=fun h=>@dig_zero b k h
   have hxa:=@dv_at w A a c _ k HA.out h1;have hxb:=fun h=>@dv_at w B b d _ k HB.out h
   generalize a/256 ^ k%256=x at *;generalize b/256 ^ k%256=y at *;generalize Pl.carry 256 (a-b) b k=q at *;obtain ⟨g,o,rfl,hg,hc⟩:=hxa;have hca:=(hbl.cell (p:=⟨g,o+k,none⟩) (by exact hg)).trans hc;obtain ⟨hs1,hs2⟩:=hst;have HS1:=Lib.hid hs1;have HS2:=Lib.hid hs2;have HYZ:=Lib.hid hyz;have HXB:=Lib.hid hxb;clear hs1 hs2 hyz hxb hc
   by_cases h2:k<Pl.L b
   ·by_cases hn:(x:Int)-q-y<0
    ·obtain ⟨g',o',rfl,hg',hc'⟩:=HXB.out h2
     have hcb:=(hbl.cell (p:=⟨g',o'+k,none⟩) (by exact hg')).trans hc';clear hc';have hd:(x:Int)-q-y<0:=by omega
     obtain ⟨e1,e2⟩:=HS1.out (by omega);have E1:=Lib.hid e1;have E2:=Lib.hid e2;clear e1 e2 HXB HYZ HS1 HS2;go_wp2_with (at_builtin;refine wpList_app1 rfl _ _ _ rfl ti_int HO.out hbl hsz rfl rfl rfl rfl (one_int _) (by omega) (by decide) ?_)
     intro v' w1 hown' hb'
     have HO':Hid (w1.ownsRow w.heap.size 3 1 v' (k+1) (ints (Pl.dg 256 (k+1) (a-b)))):=Lib.hid (by
      rw [HSN.out,ints_snoc,← E1.out]
      first|exact hown'|(simpa using hown'))
     clear hown';go_wp2;go_roundw
     case rel=>exact ⟨k+1,by omega,by go_num,by rw [E2.out];rfl,HO'.out,hb'⟩
     case measure=>simp [intOf];omega
    ·obtain ⟨g',o',rfl,hg',hc'⟩:=HXB.out h2
     have hcb:=(hbl.cell (p:=⟨g',o'+k,none⟩) (by exact hg')).trans hc';clear hc';have hd:0≤(x:Int)-q-y:=by omega
     obtain ⟨e1,e2⟩:=HS2.out (by omega);have E1:=Lib.hid e1;have E2:=Lib.hid e2;clear e1 e2 HXB HYZ HS1 HS2;go_wp2_with (at_builtin;refine wpList_app1 rfl _ _ _ rfl ti_int HO.out hbl hsz rfl rfl rfl rfl (one_int _) (by omega) (by decide) ?_)
     intro v' w1 hown' hb'
     have HO':Hid (w1.ownsRow w.heap.size 3 1 v' (k+1) (ints (Pl.dg 256 (k+1) (a-b)))):=Lib.hid (by
      rw [HSN.out,ints_snoc,← E1.out]
      first|exact hown'|(simpa using hown'))
     clear hown';go_wp2;go_roundw
     case rel=>exact ⟨k+1,by omega,by go_num,by rw [E2.out];rfl,HO'.out,hb'⟩
     case measure=>simp [intOf];omega
   ·have h2':¬ (k:Int)<Pl.L b:=by omega
    by_cases hn:(x:Int)-q<0
    ·have hy0:y=0:=HYZ.out (by omega)
     subst hy0;have hd:(x:Int)-q<0:=by omega
     obtain ⟨e1,e2⟩:=HS1.out (by omega);have E1:=Lib.hid e1;have E2:=Lib.hid e2;clear e1 e2 HXB HYZ HS1 HS2;go_wp2_with (at_builtin;refine wpList_app1 rfl _ _ _ rfl ti_int HO.out hbl hsz rfl rfl rfl rfl (one_int _) (by omega) (by decide) ?_)
     intro v' w1 hown' hb'
     have HO':Hid (w1.ownsRow w.heap.size 3 1 v' (k+1) (ints (Pl.dg 256 (k+1) (a-b)))):=Lib.hid (by
      rw [HSN.out,ints_snoc,← E1.out]
      first|exact hown'|(simpa using hown'))
     clear hown';go_wp2;go_roundw
     case rel=>exact ⟨k+1,by omega,by go_num,by rw [E2.out];rfl,HO'.out,hb'⟩
     case measure=>simp [intOf];omega
    ·have hy0:y=0:=HYZ.out (by omega)
     subst hy0;have hd:0≤(x:Int)-q:=by omega
     obtain ⟨e1,e2⟩:=HS2.out (by omega);have E1:=Lib.hid e1;have E2:=Lib.hid e2;clear e1 e2 HXB HYZ HS1 HS2;go_wp2_with (at_builtin;refine wpList_app1 rfl _ _ _ rfl ti_int HO.out hbl hsz rfl rfl rfl rfl (one_int _) (by omega) (by decide) ?_)
     intro v' w1 hown' hb'
     have HO':Hid (w1.ownsRow w.heap.size 3 1 v' (k+1) (ints (Pl.dg 256 (k+1) (a-b)))):=Lib.hid (by
      rw [HSN.out,ints_snoc,← E1.out]
      first|exact hown'|(simpa using hown'))
     clear hown';go_wp2;go_roundw
     case rel=>exact ⟨k+1,by omega,by go_num,by rw [E2.out];rfl,HO'.out,hb'⟩
     case measure=>simp [intOf];omega
  ·have hkn:k=Pl.L a:=by omega
   subst hkn;have hR:=rtrim_any _ (Pl.L a) (Pl.dg 256 (Pl.L a) (a-b)) wr (Sl.of_own HO.out) (Pl.dg_lt (by omega)) (by omega);rw [Pl.vB_dg,Nat.mod_eq_of_lt (Nat.lt_of_le_of_lt (Nat.sub_le _ _) (Pl.lt_L a))] at hR;have HR:=Lib.hid hR;clear hR;go_wp2_with fail;refine HR.out.mono ?_;rintro e w1 ⟨⟨v',rfl,hv,hfr⟩,rfl⟩;go_wp2;go_ret;exact ⟨_,rfl,hv,hbl,hfr _ (fresh_own HO.out)⟩
end Go.Proofs.YtiochgoocbkckaaGreatDoor

namespace Go.Proofs.YtiochgoocbkckaaGreatDoor
open Go Go.RowKit

theorem make_ints (c:Int) (k:Nat) (hc:c=k) (hk:k≤1073741824) (w:World):(Instr.makeSlice 82 (.int .i64 c) (.int .i64 c)).run Tryz.prog w =
 .ok (.slice (some ⟨w.heap.size,0,none⟩) k k) (w.alloc (.cells (ints (Pl.dg 256 k 0)).toArray 3)):=by
 subst hc;obtain ⟨i,hi,hz,hs,hb⟩:=info_parts (show (Tryz.prog.info? 3).map (fun i=>(i.zero,i.size,i.bytes))=some (some (.int .i64 0),1,8) by kernel_rfl);rw [run_make w _ _ i _ Tryz.underlying82 hi hz .i64 .i64 k k (by omega) (by omega) (by rw [hb];omega) (by omega),hs]
 have e:madeCells (Value.int .i64 0).cells ((k:Int).toNat*1)=(ints (Pl.dg 256 k 0)).toArray:=by
  apply Array.ext
  ·simp [size_madeCells,ints_length,Pl.dg_length]
  ·intro j h1 h2
   simp [madeCells,ints,Pl.dg,Value.cells,Nat.mod_one]
 rw [e];simp
theorem ints_set (l:List Nat) (i d:Nat):(ints l).set i (.int .i64 (d:Int))=ints (l.set i d):=by simp [ints,List.map_set]
theorem times_end {N i k m P d b:Nat} (hb:b<256 ^ m) (hP:P<256 ^ (i+m)) (hm:m≤k) (hc:Pl.mcarry 256 (P/256 ^ i) d b k=0) (hN:i+k≤N) :
 Pl.mixD 256 N (P+256 ^ i*(d*b)) P (i+k)=Pl.dg 256 N (P+256 ^ i*(d*b)):=by
 have hp:0<256 ^ i:=Nat.pow_pos (by omega);have hq:P/256 ^ i<256 ^ m:=by rw [Nat.div_lt_iff_lt_mul hp,← Nat.pow_add,Nat.add_comm m i];exact hP
 have hle:256 ^ m≤256 ^ k:=Nat.pow_le_pow_right (by omega) hm;unfold Pl.mcarry at hc;rw [Nat.mod_eq_of_lt (Nat.lt_of_lt_of_le hq hle),Nat.mod_eq_of_lt (Nat.lt_of_lt_of_le hb hle)] at hc
 have hT:P+256 ^ i*(d*b)<256 ^ (i+k):=by
  have h1:P/256 ^ i+d*b<256 ^ k:=by
   rcases Nat.lt_or_ge (P/256 ^ i+d*b) (256 ^ k) with h|h
   ·exact h
   ·have:=Nat.div_pos h (Nat.pow_pos (by omega));omega
  have h2:(P+256 ^ i*(d*b))/256 ^ i<256 ^ k:=by rw [Nat.add_mul_div_left _ _ hp];exact h1
  rw [Nat.div_lt_iff_lt_mul hp,← Nat.pow_add,Nat.add_comm k i] at h2;exact h2
 exact Pl.mixD_end 256 N (i+k) _ _ (by omega) hN hT (Nat.lt_of_le_of_lt (Nat.le_add_right _ _) hT)
theorem times_stop {i k m P d b:Nat} (hb:b<256 ^ m) (hP:P<256 ^ (i+m)) (hd:d<256) (hm:m+1≤k):Pl.mcarry 256 (P/256 ^ i) d b k=0:=by
 have hp:0<256 ^ i:=Nat.pow_pos (by omega);have hq:P/256 ^ i<256 ^ m:=by rw [Nat.div_lt_iff_lt_mul hp,← Nat.pow_add,Nat.add_comm m i];exact hP
 have hle:256 ^ (m+1)≤256 ^ k:=Nat.pow_le_pow_right (by omega) hm;have hle2:256 ^ m*256=256 ^ (m+1):=(Nat.pow_succ 256 m).symm;unfold Pl.mcarry;rw [Nat.mod_eq_of_lt (show P/256 ^ i<256 ^ k by omega),Nat.mod_eq_of_lt (show b<256 ^ k by omega)];refine Nat.div_eq_of_lt ?_;have h1:d*b≤255*b:=Nat.mul_le_mul_right b (by omega);omega
set_option maxHeartbeats 2000000 in
theorem rtimes_any (va vb:Value) (a b:Nat) (w:World) (ha:DV w va a) (hb:DV w vb b) (hla:Pl.L a≤67108864) (hlb:Pl.L b≤67108864) :
 Calls Tryz.prog 85 #[va,vb] w fun e w'=>∃ v,e=.returned v∧DV w' v (a*b)∧Below w.heap.size w w':=by
 obtain ⟨A,c,rfl⟩:=dv_form ha;obtain ⟨B,cb,rfl⟩:=dv_form hb;have HA:=Lib.hid ha;have HB:=Lib.hid hb;have HAL:=Lib.hid (Pl.lt_L a);have HBL:=Lib.hid (Pl.lt_L b);have HXA:=Lib.hid (fun k h=>@dv_at w A a c _ k ha h);have HXB:=Lib.hid (fun k h=>@dv_at w B b cb _ k hb h);have HXZ:=Lib.hid (fun k h=>@dig_zero b k h);clear ha hb;have hmk:=make_ints ((Pl.L a:Int)+Pl.L b+1) (Pl.L a+Pl.L b+1) (by omega) (by omega);generalize Pl.L a=n at *;generalize Pl.L b=m at *;go_enter Tryz.func85,Tryz.ntmps85;go_wp2_with fail;clear hmk;go_loopw [6] (fun i wr=>∃ k:Nat,k≤n∧i=.int .i64 k∧Blk wr w.heap.size 3 (ints (Pl.dg 256 (n+m+1) ((a%256 ^ k)*b)))∧Below w.heap.size w wr) (fun i _=>n-(intOf i).toNat)
 case atStart=>exact ⟨0,Nat.zero_le _,rfl,by rw [Nat.pow_zero,Nat.mod_one,Nat.zero_mul];exact Blk.new _ _ _,(by repeat (first|with_reducible exact Below.refl _ _|refine Below.drew ?_|refine Below.alloc ?_ (by first|(simp;done)|(simp;omega)|omega) _|refine Below.setCell ?_ (by first|(simp;done)|(simp;omega)|omega) _))⟩
 case round =>
  obtain ⟨i,hi,rfl,hC,hbC⟩:=hrel
  by_cases hil:i<n
  ·obtain ⟨g,o,rfl,hg,hx0⟩:=HXA.out i hil
   have hx:∀ wr,Below w.heap.size w wr→wr.cell? ⟨g,o+i,none⟩=some (.int .i64 ((a/256 ^ i%256:Nat):Int)):=fun wr h=>(h.cell (p:=⟨g,o+i,none⟩) (by exact hg)).trans hx0
   have hP:(a%256 ^ i)*b<256 ^ (i+m):=Pl.mul_lt_pow (Nat.mod_lt _ (Nat.pow_pos (by omega))) HBL.out;have hT:=Pl.mul_round 256 a b i;have hd1:a/256 ^ i%256<256:=Nat.mod_lt _ (by omega);clear hx0;generalize a/256 ^ i%256=d at *;generalize (a%256 ^ i)*b=P at *;have HX:=Lib.hid hx;have HT:=Lib.hid hT;have HP:=Lib.hid hP;clear hT hP hx;go_wp2_with fail;obtain ⟨wo,rfl⟩:∃ wo:World,wo=wr:=⟨_,rfl⟩
   go_loopw [7,8] (fun c j wr=>∃ k:Nat,k≤m+1∧j=.int .i64 k∧c=.int .i64 (Pl.mcarry 256 (P/256 ^ i) d b k:Nat)∧Blk wr w.heap.size 3 (ints (Pl.mixD 256 (n+m+1) (P+256 ^ i*(d*b)) P (i+k)))∧Below w.heap.size w wr) (fun _ j _=>m+1-(intOf j).toNat)
   case atStart=>exact ⟨0,Nat.zero_le _,rfl,by rw [Pl.mcarry_zero];rfl,by have e:=Pl.mixD_start 256 (n+m+1) i P (d*b) (by omega) (by omega);exact (by rw [e];exact hC:Blk wo w.heap.size 3 (ints (Pl.mixD 256 (n+m+1) (P+256 ^ i*(d*b)) P i))),hbC⟩
   case round =>
    obtain ⟨k,hk,rfl,rfl,hC2,hbC2⟩:=hrel;have hstop:=fun h=>@times_stop i k m P d b HBL.out HP.out hd1 h
    have hend:=fun h1 h2 h3=>@times_end (n+m+1) i k m P d b HBL.out HP.out h1 h2 h3
    have hset:=fun h=>Pl.mixD_set 256 (n+m+1) (P+256 ^ i*(d*b)) P (i+k) h
    rw [Pl.shift_digit 256 P (d*b) i k (by omega),← Pl.mcarry_digit 256 (P/256 ^ i) d b k (by omega)] at hset;have hcar:=Pl.mcarry_succ 256 (P/256 ^ i) d b k (by omega);have hc1:=Pl.mcarry_le 256 (P/256 ^ i) d b k (by omega);rw [Nat.div_div_eq_div_mul,← Nat.pow_add] at hset hcar;have hx1:P/256 ^ (i+k)%256<256:=Nat.mod_lt _ (by omega);have hy1:b/256 ^ k%256<256:=Nat.mod_lt _ (by omega);have hy:=fun h=>HXB.out k h
    have hyz:=fun h=>HXZ.out k h
    have hget:=fun h=>Pl.mixD_get 256 (n+m+1) (P+256 ^ i*(d*b)) P (i+k) h
    generalize P/256 ^ (i+k)%256=X at *;generalize b/256 ^ k%256=Y at *;generalize Pl.mcarry 256 (P/256 ^ i) d b k=C at *;have HSET:=Lib.hid hset;have HCAR:=Lib.hid hcar;have HSTOP:=Lib.hid hstop;have HEND:=Lib.hid hend;have HY:=Lib.hid hy;have HYZ:=Lib.hid hyz;have HGET:=Lib.hid hget;clear hset hcar hstop hend hy hyz hget
    by_cases hkl:k<m
    ·obtain ⟨g',o',rfl,hg',hy0⟩:=HY.out hkl
     have hyc:=(hbC2.cell (p:=⟨g',o'+k,none⟩) (by exact hg')).trans hy0;have hxc:=HX.out _ hbC2;have hx2:=hC2.cell (i+k);rw [ints_get,HGET.out (by omega)] at hx2;simp only [Option.map_some] at hx2;have hf:=hC2.free (i+k);have hdy:d*Y≤255*255:=Nat.mul_le_mul (by omega) (by omega);have hcast:(d:Int)*Y=((d*Y:Nat):Int):=by rw [Int.natCast_mul]
     have w1':IntKind.i64.wrap ((d:Int)*Y)=((d*Y:Nat):Int):=by rw [hcast];exact IntWalk.i64_in _ ⟨by omega,by omega⟩
     have w2':IntKind.i64.wrap ((X:Int)+C+((d*Y:Nat):Int))=((C+X+d*Y:Nat):Int):=by rw [IntWalk.i64_in _ ⟨by omega,by omega⟩];omega
     clear hcast hy0;have k0:(0:Int)≤(i:Int)+k:=by omega
     have k1:(i:Int)+k<((n+m+1:Nat):Int):=by omega
     have k2:(k:Int)<(m:Int):=by omega
     go_wp2_with fail;go_quiet (fail);clear w1' w2';have hv1:((X:Int)+C+(d:Int)*Y)%256=(((C+X+d*Y)%256:Nat):Int):=by rw [← Int.natCast_mul];omega
     have hv2:((X:Int)+C+(d:Int)*Y)/256=(((C+X+d*Y)/256:Nat):Int):=by rw [← Int.natCast_mul];omega
     have HV1:=Lib.hid hv1;have HV2:=Lib.hid hv2;clear hv1 hv2;go_wp2;go_roundw
     case rel =>
      refine ⟨k+1,by omega,by go_num,by rw [HV2.out,HCAR.out],?_,(bel_drewN hbC2 _).setCell (Nat.le_refl _) _⟩;rw [HV1.out,← Nat.add_assoc,← HSET.out (by omega),← ints_set];exact (hC2.up (bel_drewN (Below.refl _ _) _)).put _ _
     case measure=>simp [intOf];omega
    ·by_cases hC0:C=0
     ·subst hC0
      have HE:=Lib.hid (HEND.out (by omega) rfl (by omega));rw [HE.out] at hC2;rw [HT.out] at hC2;have hkl':¬ (k:Int)<m:=by omega
      go_wp2;go_roundw
      case rel=>exact ⟨i+1,by omega,by go_num,hC2,hbC2⟩
      case measure=>simp [intOf];omega
     ·have hkm:k=m:=by
       rcases Nat.lt_or_ge k (m+1) with h|h
       ·omega
       ·exact absurd (HSTOP.out h) hC0
      have hk1:k≤m:=by omega
      clear hkm;have hY0:Y=0:=HYZ.out (by omega);subst hY0;have hx2:=hC2.cell (i+k);rw [ints_get,HGET.out (by omega)] at hx2;simp only [Option.map_some] at hx2;have hf:=hC2.free (i+k);have k0:(0:Int)≤(i:Int)+k:=by omega
      have k1:(i:Int)+k<((n+m+1:Nat):Int):=by omega
      have hkl':¬ (k:Int)<m:=by omega
      have hC1:(0:Int)<C:=by omega
      have HV1:Hid (((X:Int)+C)%256=(((C+X+d*0)%256:Nat):Int)):=Lib.hid (by omega);have HV2:Hid (((X:Int)+C)/256=(((C+X+d*0)/256:Nat):Int)):=Lib.hid (by omega);go_wp2;go_roundw
      case rel =>
       refine ⟨k+1,by omega,by go_num,by rw [HV2.out,← HCAR.out],?_,hbC2.setCell (Nat.le_refl _) _⟩;rw [HV1.out,← Nat.add_assoc,← HSET.out (by omega),← ints_set];exact hC2.put _ _
      case measure=>simp [intOf];omega
  ·have hin:i=n:=by omega
   rw [hin,Nat.mod_eq_of_lt HAL.out] at hC;have hS:Sl wr (.slice (some ⟨w.heap.size,0,none⟩) (n+m+1) (n+m+1)) (n+m+1) 1 (ints (Pl.dg 256 (n+m+1) (a*b))):=⟨by rw [ints_length,Pl.dg_length,Nat.mul_one],.inr ⟨_,0,_,rfl,Nat.le_refl _,by unfold maxLen;omega,fun j u hj=>by rw [Nat.zero_add,hC.cell];exact hj⟩⟩
   have hR:=rtrim_any _ (n+m+1) (Pl.dg 256 (n+m+1) (a*b)) wr hS (Pl.dg_lt (by omega)) (by omega);rw [Pl.vB_dg,Nat.mod_eq_of_lt (Nat.lt_of_lt_of_le (Pl.mul_lt_pow HAL.out HBL.out) (Nat.pow_le_pow_right (by omega) (by omega)))] at hR;have HR:=Lib.hid hR;clear hR hS hC hin;go_wp2_with fail;refine HR.out.mono ?_;rintro e w1 ⟨⟨v',rfl,hv,_⟩,rfl⟩;go_wp2;go_ret;exact ⟨_,rfl,hv,hbC⟩
end Go.Proofs.YtiochgoocbkckaaGreatDoor

namespace Go.Proofs.YtiochgoocbkckaaGreatDoor
open Go Go.RowKit

theorem rsmall_long (v:Value) (n:Nat) (w:World) (h:DV w v n) (hl:7<Pl.L n) :
 Calls Tryz.prog 176 #[v] w fun e w'=>e=.returned (.tuple #[.int .i64 0,.bool false])∧w=w':=by
 obtain ⟨A,c,rfl⟩:=dv_form h;have hl':(7:Int)<Pl.L n:=by omega
 clear h;go_enter Tryz.func176,Tryz.ntmps176;go_wp2;go_ret2;exact ⟨rfl,rfl⟩
theorem rsmall_short (v:Value) (n:Nat) (w:World) (h:DV w v n) (hl:Pl.L n≤7) :
 Calls Tryz.prog 176 #[v] w fun e w'=>e=.returned (.tuple #[.int .i64 n,.bool true])∧w=w':=by
 obtain ⟨A,c,rfl⟩:=dv_form h;have hl':¬ (7:Int)<Pl.L n:=by omega
 have HXA:=Lib.hid (fun k h'=>@dv_at w A n c _ k h h');have HL:=Lib.hid (Pl.lt_L n);have hn7:n<72057594037927936:=Nat.lt_of_lt_of_le (Pl.lt_L n) (Nat.pow_le_pow_right (by omega) hl);clear h;generalize Pl.L n=N at *;go_enter Tryz.func176,Tryz.ntmps176;go_wp2_with fail;go_loop [4,5] (fun s i=>∃ k:Nat,k≤N∧i=.int .i64 ((k:Int)-1)∧s=.int .i64 (n/256 ^ k:Nat)) (fun _ i=>(intOf i+1).toNat)
 case atStart=>exact ⟨N,Nat.le_refl _,rfl,by rw [Nat.div_eq_of_lt HL.out];rfl⟩
 case round =>
  obtain ⟨k,hk,rfl,rfl⟩:=hrel
  by_cases hk0:k=0
  ·subst hk0
   have HD:Hid (((n/256 ^ 0:Nat):Int)=n):=Lib.hid (by simp);rw [HD.out];go_wp2;go_ret2;exact ⟨rfl,rfl⟩
  ·obtain ⟨g,o,rfl,hg,hx⟩:=HXA.out (k-1) (by omega)
   have hd:=high_digit n k (by omega);have hx1:n/256 ^ (k-1)%256<256:=Nat.mod_lt _ (by omega);have hbd:n/256 ^ (k-1)≤n:=Nat.div_le_self _ _;generalize n/256 ^ (k-1)%256=x at *;generalize hq:n/256 ^ (k-1)=q at *;generalize n/256 ^ k=H at *;have HQ:=Lib.hid hq;have HD:=Lib.hid hd;have b1:(H:Int)*256≤72057594037927936:=by omega
   have b2:(0:Int)≤(H:Int)*256:=by omega
   clear hq hd;have i1:(0:Int)≤(k:Int)-1:=by omega
   have i2:(k:Int)-1<N:=by omega
   have i3:((k:Int)-1).toNat=k-1:=by omega
   have i4:(1:Int)≤k:=by omega
   go_wp2;go_round
   case rel=>exact ⟨k-1,by omega,congrArg (Value.int .i64) (by omega),by rw [HQ.out];exact congrArg (Value.int .i64) (by have:=HD.out;omega)⟩
   case measure=>simp [intOf];omega
theorem rlarge_any (n:Nat) (w:World) (hn:n≤9223372036854775807) :
 Calls Tryz.prog 177 #[.int .i64 n] w fun e w'=>∃ v,e=.returned v∧DV w' v n∧Below w.heap.size w w':=by
 have hL:Pl.L n≤8:=L_word n (by omega);go_enter Tryz.func177,Tryz.ntmps177;go_wp2_with fail;go_loopw [0,3] (fun s v wr=>∃ k:Nat,k≤Pl.L n∧s=.int .i64 (n/256 ^ k:Nat)∧wr.ownsRow w.heap.size 3 1 v k (ints (Pl.dg 256 k n))∧Below w.heap.size w wr) (fun s _ _=>(intOf s).toNat)
 case atStart=>exact ⟨0,Nat.zero_le _,by simp,World.ownsRow_nil _ _ _ _,Below.refl _ _⟩
 case round =>
  obtain ⟨k,hk,rfl,hown,hbl⟩:=hrel;have hsz:=hbl.size;have HO:=Lib.hid hown;clear hown
  by_cases hk0:k<Pl.L n
  ·have HSN:=Lib.hid (dg_snoc n k)
   have hge:256 ^ k≤n:=by
    rcases Nat.lt_or_ge n (256 ^ k) with h|h
    ·have:=(Pl.L_le_iff n k).2 h;omega
    ·exact h
   have hpos:0<n/256 ^ k:=Nat.div_pos hge (Nat.pow_pos (by omega));have hbd:n/256 ^ k≤n:=Nat.div_le_self _ _;have HN:Hid (n/256 ^ (k+1)=n/256 ^ k/256):=Lib.hid (by rw [Nat.pow_succ,Nat.div_div_eq_div_mul]);generalize n/256 ^ k=q at *;have p1:(0:Int)<q:=by omega
   go_wp2_with (at_builtin;refine wpList_app1 rfl _ _ _ rfl ti_int HO.out hbl hsz rfl rfl rfl rfl (one_int _) (by omega) (by decide) ?_)
   intro v' w1 hown' hb'
   have HO':Hid (w1.ownsRow w.heap.size 3 1 v' (k+1) (ints (Pl.dg 256 (k+1) n))):=Lib.hid (by
    rw [HSN.out,ints_snoc];have e:(q:Int)%256=((q%256:Nat):Int):=by omega
    rw [← e];exact hown')
   clear hown';go_wp2;go_roundw
   case rel=>exact ⟨k+1,by omega,by rw [HN.out];exact congrArg (Value.int .i64) (by omega),HO'.out,hb'⟩
   case measure=>simp [intOf];omega
  ·have hkL:k=Pl.L n:=by omega
   have hz:n/256 ^ k=0:=Nat.div_eq_of_lt ((Pl.L_le_iff n k).1 (by omega));rw [hz];have HD:Hid (DV wr u3 n):=Lib.hid (by rw [hkL] at HO;exact Sl.of_own HO.out);clear hkL hz;go_wp2;go_ret;exact ⟨_,rfl,HD.out,hbl⟩
end Go.Proofs.YtiochgoocbkckaaGreatDoor

namespace Go.Proofs.YtiochgoocbkckaaGreatDoor
open Go Go.RowKit

set_option maxHeartbeats 1000000 in
theorem rdiv_small (va vb:Value) (a b:Nat) (w:World) (ha:DV w va a) (hb:DV w vb b) (h0:b≠0) (hla:Pl.L a≤7) (hlb:Pl.L b≤7) :
 Calls Tryz.prog 138 #[va,vb] w fun e w'=>∃ q r,e=.returned (.tuple #[q,r])∧DV w' q (a/b)∧DV w' r (a%b)∧Below w.heap.size w w':=by
 have K1:=Lib.hid (rsmall_short va a w ha hla);have K2:=Lib.hid (rsmall_short vb b w hb hlb);have ha7:a<72057594037927936:=Nat.lt_of_lt_of_le (Pl.lt_L a) (Nat.pow_le_pow_right (by omega) hla);have hq:a/b≤a:=Nat.div_le_self _ _;have hr:a%b≤a:=Nat.mod_le _ _;have K3:=Lib.hid (fun W=>rlarge_any (a/b) W (by omega));have K4:=Lib.hid (fun W=>rlarge_any (a%b) W (by omega))
 have HV1:Hid (wrap64 ((a:Int)/b)=((a/b:Nat):Int)):=Lib.hid (by
  rw [← Int.natCast_ediv];generalize a/b=q at *;unfold wrap64;omega)
 have HV1b:Hid (IntKind.i64.wrap ((a:Int)/b)=((a/b:Nat):Int)):=Lib.hid (by
  rw [← Int.natCast_ediv];exact IntWalk.i64_in _ ⟨by generalize a/b=q at *;omega,by generalize a/b=q at *;omega⟩)
 have HV2b:Hid ((a:Int)%b=((a%b:Nat):Int)):=Lib.hid (Int.natCast_emod _ _).symm;have HV2:Hid ((a:Int).tmod b=((a%b:Nat):Int)):=Lib.hid rfl;have j1:(0:Int)<b:=by omega
 have j3:((b:Int)==0)=false:=by simp;omega
 clear ha hb h0 hla hlb ha7 hq hr;go_enter Tryz.func138,Tryz.ntmps138;go_wp2_with fail;with_reducible refine K1.out.mono ?_
 rintro e w1 ⟨rfl,rfl⟩;go_wp2_with fail;with_reducible refine K2.out.mono ?_
 rintro e w1 ⟨rfl,rfl⟩;go_wp2_with fail;go_region_with (first|(go_at_call 177;(first|rw [HV1.out]|rw [HV1b.out]);with_reducible refine (K3.out _).mono ?_;rintro e v1 ⟨q,rfl,hq,hbq⟩)|(go_at_call 177;(first|rw [HV2b.out]|rw [HV2.out]);with_reducible refine (K4.out _).mono ?_;rintro e v2 ⟨r,rfl,hr,hbr⟩))
 all_goals
  go_wp2;go_ret2
  first
   | exact ⟨q,r,rfl,hq.up hbr,hr,bel_up (bel_up (Below.refl _ _).drew hbq) hbr⟩
   | exact ⟨q,r,rfl,hq,hr.up hbq,bel_up (bel_up (Below.refl _ _).drew hbr) hbq⟩

theorem rsmall_ex (v:Value) (n:Nat) (w:World) (h:DV w v n) :
 Calls Tryz.prog 176 #[v] w fun e w'=>(∃ (x:Int) (f:Bool),e=.returned (.tuple #[.int .i64 x,.bool f]))∧w=w':=by
 rcases Nat.lt_or_ge 7 (Pl.L n) with hl|hl
 ·exact (rsmall_long v n w h hl).mono fun e w' ⟨he,hw⟩=>⟨⟨_,_,he⟩,hw⟩
 ·exact (rsmall_short v n w h hl).mono fun e w' ⟨he,hw⟩=>⟨⟨_,_,he⟩,hw⟩
theorem dv_nil (w:World):DV w (.slice none 0 0) 0:=Sl.nil w 1

set_option maxHeartbeats 1000000 in
theorem rdiv_less (va vb:Value) (a b:Nat) (w:World) (ha:DV w va a) (hb:DV w vb b) (hl:7<Pl.L a∨7<Pl.L b) (hab:a<b) (hla:Pl.L a≤1073741824) :
 Calls Tryz.prog 138 #[va,vb] w fun e w'=>∃ q r,e=.returned (.tuple #[q,r])∧DV w' q (a/b)∧DV w' r (a%b)∧Below w.heap.size w w':=by
 have K1:=Lib.hid (rsmall_long va a w ha);have K1s:=Lib.hid (rsmall_short va a w ha);have K1e:=Lib.hid (rsmall_ex va a w ha);have K2:=Lib.hid (rsmall_long vb b w hb);have K2e:=Lib.hid (rsmall_ex vb b w hb);have kc:=rcmp_any va vb a b w ha hb hla;rw [cmpZ_lt (Int.ofNat_lt.2 hab)] at kc;have KC:=Lib.hid kc;have HA:=Lib.hid ha;rw [Nat.div_eq_of_lt hab,Nat.mod_eq_of_lt hab];clear kc ha hb hab hla
 by_cases h7:7<Pl.L a
 ·clear hl
  go_enter Tryz.func138,Tryz.ntmps138;go_wp2_with fail;with_reducible refine (K1.out h7).mono ?_
  rintro e w1 ⟨rfl,rfl⟩;go_wp2_with fail;with_reducible refine K2e.out.mono ?_
  rintro e w1 ⟨⟨x,f,rfl⟩,rfl⟩;go_wp2_with fail;with_reducible refine KC.out.mono ?_
  rintro e w1 ⟨rfl,hb1⟩;go_wp2;go_ret2;exact ⟨_,_,rfl,dv_nil _,HA.out.up hb1,hb1⟩
 ·have hb7:7<Pl.L b:=by omega
  have ha7:Pl.L a≤7:=by omega
  clear hl h7;go_enter Tryz.func138,Tryz.ntmps138;go_wp2_with fail;with_reducible refine (K1s.out ha7).mono ?_
  rintro e w1 ⟨rfl,rfl⟩;go_wp2_with fail;with_reducible refine (K2.out hb7).mono ?_
  rintro e w1 ⟨rfl,rfl⟩;go_wp2_with fail;with_reducible refine KC.out.mono ?_
  rintro e w1 ⟨rfl,hb1⟩;go_wp2;go_ret2;exact ⟨_,_,rfl,dv_nil _,HA.out.up hb1,hb1⟩

def qrow (N Q k:Nat):List Nat:=(List.range N).map fun j=>if k≤j then Q/256 ^ j%256 else 0
theorem qrow_length (N Q k:Nat):(qrow N Q k).length=N:=by simp [qrow]
theorem qrow_zero (N Q:Nat):qrow N Q 0=Pl.dg 256 N Q:=by simp [qrow,Pl.dg]
theorem qrow_full (N Q:Nat):qrow N Q N=Pl.dg 256 N 0:=by
 unfold qrow Pl.dg;apply List.map_congr_left;intro j hj;rw [List.mem_range] at hj;rw [if_neg (by omega)];simp
theorem qrow_get (N Q k i:Nat) (hi:i<N):(qrow N Q k)[i]?=some (if k≤i then Q/256 ^ i%256 else 0):=by
 unfold qrow;rw [List.getElem?_map,List.getElem?_range hi];rfl
theorem qrow_set (N Q k:Nat) (h0:0<k) (hk:k≤N):(qrow N Q k).set (k-1) (Q/256 ^ (k-1)%256)=qrow N Q (k-1):=by
 apply List.ext_getElem?;intro j;rcases Nat.lt_or_ge j N with hj|hj
 ·rw [List.getElem?_set,qrow_length,qrow_get _ _ _ _ hj,qrow_get _ _ _ _ hj]
  by_cases h1:k-1=j
  ·rw [if_pos h1,if_pos (by omega),if_pos (by omega),h1]
  ·rw [if_neg h1]
   congr 1
   by_cases h2:k≤j
   ·rw [if_pos h2,if_pos (by omega)]
   ·rw [if_neg h2,if_neg (by omega)]
 ·rw [List.getElem?_eq_none (by rw [List.length_set,qrow_length];exact hj),List.getElem?_eq_none (by rw [qrow_length];exact hj)]
theorem qrow_same (N Q k t:Nat) (h0:0<k) (hk:k≤N):((qrow N Q k).set (k-1) t)[k-1]?=some t:=by
 rw [List.getElem?_set,if_pos rfl,qrow_length,if_pos (by omega)]
theorem quo_digit (a b k:Nat) (hb:0<b) (h0:0<k) (t:Nat) (ht:t*b≤(a/256 ^ k%b)*256+a/256 ^ (k-1)%256) (hend:(a/256 ^ k%b)*256+a/256 ^ (k-1)%256-t*b<b) :
 t=a/b/256 ^ (k-1)%256∧(a/256 ^ k%b)*256+a/256 ^ (k-1)%256-t*b=a/256 ^ (k-1)%b:=by
 obtain ⟨h1,h2⟩:=Pl.short_step 256 a b k (by omega) hb h0;generalize (a/256 ^ k%b)*256+a/256 ^ (k-1)%256=r at *;rw [← h1,← h2];have e:r=(r-t*b)+b*t:=by rw [Nat.mul_comm b t];omega
 have e1:r/b=t:=by rw [e,Nat.add_mul_div_left _ _ hb,Nat.div_eq_of_lt hend,Nat.zero_add]
 have e2:r%b=r-t*b:=by have:=Nat.div_add_mod r b;rw [e1,Nat.mul_comm] at this;omega
 exact ⟨e1.symm,e2.symm⟩
theorem quo_top (a b k:Nat) (hb:0<b):(a/256 ^ k%b)*256+a/256 ^ (k-1)%256<256*b:=by
 have h1:=Nat.mod_lt (a/256 ^ k) hb;have h2:=Nat.mod_lt (a/256 ^ (k-1)) (show 256>0 by omega);generalize a/256 ^ k%b=x at *;omega
end Go.Proofs.YtiochgoocbkckaaGreatDoor
