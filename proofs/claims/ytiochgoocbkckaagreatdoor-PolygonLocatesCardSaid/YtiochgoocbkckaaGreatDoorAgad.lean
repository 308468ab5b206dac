/-
 Contracts of package integer: the product of two magnitudes.
 Contracts of package integer: a row of words divided by one word; a row shifted by less than a word.
 Contracts of package integer: a row of words shifted by less than a word.
 The long division of two rows of digits: the plain part.
 Contracts of package integer: quotient and remainder of two magnitudes.
-/
import Derived.Test.YtiochgoocbkckaaGreatDoorAgac
import Derived.RegionTactic
import Derived.BigRegion
set_option maxRecDepth 100000
set_option linter.unusedSimpArgs false
set_option linter.unusedVariables false
namespace Go.Proofs.YtiochgoocbkckaaGreatDoor
open Go Go.RowKit Go.Shelf

theorem mul64_any (a b:Nat) (w:World) (ha:a<18446744073709551616) (hb:b<18446744073709551616):Calls Tryz.prog 207 #[.int .u64 a,.int .u64 b] w fun e w' =>
 e=.returned (.tuple #[.int .u64 ((a*b/18446744073709551616:Nat):Int),.int .u64 ((a*b%18446744073709551616:Nat):Int)])∧w=w' :=
 (Tryz.bits_Mul64 a b ha hb w).mono fun _ _ ⟨h,k⟩=>⟨h,k.symm⟩

theorem mul_small (a b:Nat) (w:World) (ha:Pl.L a≤8) (hb:Pl.L b≤8) (h:a*b<18446744073709551616) :
 Calls Tryz.prog 187 #[.string (mg a),.string (mg b)] w fun e w'=>e=.returned (.string (mg (a*b)))∧Below w.heap.size w w':=by
 have hW:=Lib.hid (fun W=>words_mg a b W ha hb);have hM:=Lib.hid (fun W=>magnitude_any (a*b) W h);have hX:=fun W=>mul64_any a b W (word_of_L ha) (word_of_L hb)
 rw [Nat.mod_eq_of_lt h,Nat.div_eq_of_lt h] at hX;have HX:=Lib.hid hX;clear hX ha hb h;generalize a*b=p at *;go_enter Tryz.func187,Tryz.ntmps187;go_wp2_with (first|(go_at_call 189;refine (hW.out _).mono ?_;rintro e w1 ⟨rfl,rfl⟩)|(go_at_call 207;refine (HX.out _).mono ?_;rintro e w1 ⟨rfl,rfl⟩)|(go_at_call 190;refine (hM.out _).mono ?_;rintro e w1 ⟨rfl,hb1⟩))
 go_ret;exact ⟨rfl,hb1⟩

-- THE LONG ONE
set_option maxHeartbeats 4000000 in
theorem mul_long (a b:Nat) (w:World) (ha:Pl.L a≤67108864) (hb:Pl.L b≤67108864) (h:8<Pl.L a∨8<Pl.L b) :
 Calls Tryz.prog 187 #[.string (mg a),.string (mg b)] w fun e w'=>e=.returned (.string (mg (a*b)))∧Below w.heap.size w w':=by
 have hW:=Lib.hid (fun W=>words_long a b W h);clear h;have hDa:=Lib.hid (fun W=>digits_any a W ha);have hDb:=Lib.hid (fun W=>digits_any b W hb);have hwa:Pl.W a≤16777216:=by unfold Pl.W;omega
 have hwb:Pl.W b≤16777216:=by unfold Pl.W;omega
 rw [show (Pl.L a+3)/4=Pl.W a from rfl] at hDa;rw [show (Pl.L b+3)/4=Pl.W b from rfl] at hDb;clear ha hb;have hla:=Lib.hid (Pl.lt_W a);have hlb:=Lib.hid (Pl.lt_W b);generalize Pl.W a=n at *;generalize Pl.W b=m at *;have hmk:=make_words ((n:Int)+m+1) (n+m+1) (by omega) (by omega);have HMK:=Lib.hid hmk;clear hmk;go_enter Tryz.func187,Tryz.ntmps187;go_wp2_with fail;refine (hW.out _).mono ?_;rintro e w1 ⟨⟨x,y,rfl⟩,rfl⟩;go_wp2_with fail;refine (hDa.out _).mono ?_;rintro e w1 ⟨rfl,hB1,hb1⟩;go_wp2_with fail;refine (hDb.out _).mono ?_;rintro e w2 ⟨rfl,hB2,hb2⟩;have hB1:=hB1.up hb2;have hb12:Below w.heap.size w w2:=bel_up hb1 hb2;have hmk:=HMK.out;have hg1:=hB1.lt;have hg2:=hB2.lt;go_wp2_with fail;clear hmk HMK;go_loopw [13,14,15,16,48,55] (fun _ _ _ _ i _ wr=>∃ k:Nat,k≤n∧i=.int .i64 k∧Blk wr w2.heap.size 165 (u32s (Pl.dg 4294967296 (n+m+1) ((a%4294967296 ^ k)*b)))∧Below w2.heap.size w2 wr) (fun _ _ _ _ i _ _=>n-(intOf i).toNat)
 case atStart=>exact ⟨0,Nat.zero_le _,rfl,by rw [Nat.pow_zero,Nat.mod_one,Nat.zero_mul];exact Blk.new _ _ _,(by repeat (first|with_reducible exact Below.refl _ _|refine Below.drew ?_|refine Below.alloc ?_ (by first|(simp;done)|(simp;omega)|omega) _|refine Below.setCell ?_ (by first|(simp;done)|(simp;omega)|omega) _))⟩
 case round =>
  obtain ⟨i,hi,rfl,hC,hbC⟩:=hrel
  by_cases hil:i<n
  ·have hx:=(hB1.up hbC).cell i
   rw [u32s_dg _ _ _ hil] at hx;have hP:(a%4294967296 ^ i)*b<4294967296 ^ (i+m):=Pl.mul_lt_pow (Nat.mod_lt _ (Nat.pow_pos (by omega))) hlb.out;have hT:=Pl.mul_round 4294967296 a b i;have hd1:a/4294967296 ^ i%4294967296<4294967296:=Nat.mod_lt _ (by omega);have hTl:(a%4294967296 ^ (i+1))*b<4294967296 ^ (i+1+m):=Pl.mul_lt_pow (Nat.mod_lt _ (Nat.pow_pos (by omega))) hlb.out;generalize a/4294967296 ^ i%4294967296=d at *;generalize (a%4294967296 ^ i)*b=P at *;rw [← hT] at hTl;have HT:=Lib.hid hT;have HP:=Lib.hid hP;have HTL:=Lib.hid hTl;clear hT hP hTl;go_wp2_with fail;obtain ⟨wo,rfl⟩:∃ wo:World,wo=wr:=⟨_,rfl⟩
   go_loopw [15,16,55] (fun c _ j wr=>∃ k:Nat,k≤m∧j=.int .i64 k∧c=.int .u64 (Pl.mcarry 4294967296 (P/4294967296 ^ i) d b k:Nat)∧Blk wr w2.heap.size 165 (u32s (Pl.mixD 4294967296 (n+m+1) (P+4294967296 ^ i*(d*b)) P (i+k)))∧Below w2.heap.size w2 wr) (fun _ _ j _=>m-(intOf j).toNat)
   case atStart=>exact ⟨0,Nat.zero_le _,rfl,by rw [Pl.mcarry_zero];rfl,by have e:=Pl.mixD_start 4294967296 (n+m+1) i P (d*b) (by omega) (by omega);exact (by rw [e];exact hC:Blk wo w2.heap.size 165 (u32s (Pl.mixD 4294967296 (n+m+1) (P+4294967296 ^ i*(d*b)) P i))),hbC⟩
   case round =>
    obtain ⟨k,hk,rfl,rfl,hC2,hbC2⟩:=hrel
    by_cases hkl:k<m
    ·have hx2:=hC2.cell (i+k)
     rw [u32s_get,Pl.mixD_get _ _ _ _ _ (by omega)] at hx2;simp only [Option.map_some] at hx2;have hf:=hC2.free (i+k);have hy:=(hB2.up hbC2).cell k;rw [u32s_dg _ _ _ hkl] at hy;have hset:=Pl.mixD_set 4294967296 (n+m+1) (P+4294967296 ^ i*(d*b)) P (i+k) (by omega);rw [Pl.shift_digit 4294967296 P (d*b) i k (by omega),← Pl.mcarry_digit 4294967296 (P/4294967296 ^ i) d b k (by omega)] at hset;have hcar:=Pl.mcarry_succ 4294967296 (P/4294967296 ^ i) d b k (by omega);have hc1:=Pl.mcarry_le 4294967296 (P/4294967296 ^ i) d b k (by omega);rw [Nat.div_div_eq_div_mul,← Nat.pow_add] at hset hcar;have hx1:P/4294967296 ^ (i+k)%4294967296<4294967296:=Nat.mod_lt _ (by omega);have hy1:b/4294967296 ^ k%4294967296<4294967296:=Nat.mod_lt _ (by omega);generalize P/4294967296 ^ (i+k)%4294967296=X at *;generalize b/4294967296 ^ k%4294967296=Y at *;generalize Pl.mcarry 4294967296 (P/4294967296 ^ i) d b k=C at *;have HSET:=Lib.hid hset;have HCAR:=Lib.hid hcar;clear hset hcar;have hdy:d*Y≤4294967295*4294967295:=Nat.mul_le_mul (by omega) (by omega);have hcast:(d:Int)*Y=((d*Y:Nat):Int):=by rw [Int.natCast_mul]
     have w1':IntKind.u64.wrap ((d:Int)*Y)=((d*Y:Nat):Int):=by rw [hcast];exact IntWalk.u64_in _ ⟨by omega,by omega⟩
     have w2':IntKind.u64.wrap ((X:Int)+((d*Y:Nat):Int))=((X+d*Y:Nat):Int):=by rw [IntWalk.u64_in _ ⟨by omega,by omega⟩];omega
     have w3':IntKind.u64.wrap ((C:Int)+((X+d*Y:Nat):Int))=((C+X+d*Y:Nat):Int):=by rw [IntWalk.u64_in _ ⟨by omega,by omega⟩];omega
     clear hcast;have k0:(0:Int)≤(i:Int)+k:=by omega
     have k1:(i:Int)+k<((n+m+1:Nat):Int):=by omega
     have k2:(k:Int)<(m:Int):=by omega
     go_wp2_with fail;have dx2:=Bel.cell hx2;have dy:=Bel.cell hy;refine wp_region_all (by kernel_rfl) (by kernel_rfl) ?_;repeat (go_big_quiet_step (fail))
     refine wpQuiet_nil ?_;intro w3 hb3;have hx3:=Bel.cell hx2 ⟨w3,hb3⟩;have hf3:=(hC2.up hb3).free (i+k);simp only at hx3;clear dx2 dy hx2 hy hf hx w1' w2' w3';have hv1:((C:Int)+((X:Int)+(d:Int)*(Y:Int)))%4294967296=(((C+X+d*Y)%4294967296:Nat):Int):=by rw [← Int.natCast_mul];omega
     have hv2:((C:Int)+((X:Int)+(d:Int)*(Y:Int)))/4294967296=(((C+X+d*Y)/4294967296:Nat):Int):=by rw [← Int.natCast_mul];omega
     have HV1:=Lib.hid hv1;have HV2:=Lib.hid hv2;clear hv1 hv2;go_wp2;go_roundw
     case rel =>
      refine ⟨k+1,by omega,by go_num,by rw [HV2.out,← HCAR.out],?_,(bel_up hbC2 hb3).setCell (Nat.le_refl _) _⟩;rw [HV1.out,← Nat.add_assoc,← HSET.out,← u32s_set];exact (hC2.up hb3).put _ _
     case measure=>simp [intOf];omega
    ·have hkm:k=m:=by omega
     have hlast:=Pl.mcarry_last 4294967296 (P/4294967296 ^ i) d b m (by rw [Nat.div_lt_iff_lt_mul (Nat.pow_pos (by omega)),← Nat.pow_add,Nat.add_comm m i];exact HP.out) hlb.out (by omega) hd1;rw [← Pl.shift_digit 4294967296 P (d*b) i m (by omega)] at hlast;have hset:=Pl.mixD_set 4294967296 (n+m+1) (P+4294967296 ^ i*(d*b)) P (i+m) (by omega);rw [← hlast,Pl.mixD_end 4294967296 (n+m+1) (i+m+1) _ _ (by omega) (by omega) (by have:=HTL.out;rwa [show i+1+m=i+m+1 from by omega] at this) (Nat.lt_of_lt_of_le HP.out (Nat.pow_le_pow_right (by omega) (by omega)))] at hset;have hc1:=Pl.mcarry_le 4294967296 (P/4294967296 ^ i) d b m (by omega);rw [hkm] at hC2;have hkC:Pl.mcarry 4294967296 (P/4294967296 ^ i) d b k=Pl.mcarry 4294967296 (P/4294967296 ^ i) d b m:=by rw [hkm]
     rw [hkC];generalize Pl.mcarry 4294967296 (P/4294967296 ^ i) d b m=C at *;have hx2:=hC2.cell (i+m);rw [u32s_get,Pl.mixD_get _ _ _ _ _ (by omega)] at hx2;simp only [Option.map_some] at hx2;have hf:=hC2.free (i+m);have HSET:=Lib.hid hset;clear hset hlast hkC hkm hx;generalize P/4294967296 ^ (i+m)%4294967296=X at *;have k0:(0:Int)≤(i:Int)+m:=by omega
     have k1:(i:Int)+m<((n+m+1:Nat):Int):=by omega
     go_wp2;go_roundw
     case rel =>
      refine ⟨i+1,by omega,by go_num,?_,hbC2.setCell (Nat.le_refl _) _⟩;rw [← HT.out,← HSET.out,← u32s_set];exact hC2.put _ _
     case measure=>simp [intOf];omega
  ·have hin:i=n:=by omega
   rw [hin,Nat.mod_eq_of_lt hla.out] at hC;have hby:=Lib.hid (fun W hB=>bytes_any w2.heap.size (n+m+1) (n+m+1) (Pl.dg 4294967296 (n+m+1) (a*b)) W hB (by rw [Pl.dg_length];omega) (by omega) (by omega) (Pl.dg_lt (by omega)));rw [List.take_of_length_le (by rw [Pl.dg_length];omega),Pl.vB_dg,Nat.mod_eq_of_lt (Nat.lt_of_lt_of_le (Pl.mul_lt_pow hla.out hlb.out) (Nat.pow_le_pow_right (by omega) (by omega)))] at hby;clear hin hDa hDb;go_wp2_with (go_at_call 200;refine (hby.out _ hC).mono ?_;rintro e w4 ⟨rfl,hb4⟩)
   go_ret;exact ⟨rfl,bel_up (bel_up hb12 hbC) hb4⟩

set_option maxHeartbeats 4000000 in
theorem mul_over (a b:Nat) (w:World) (ha:Pl.L a≤67108864) (hb:Pl.L b≤67108864) (h1:Pl.L a≤8) (h2:Pl.L b≤8) (h:18446744073709551616≤a*b) :
 Calls Tryz.prog 187 #[.string (mg a),.string (mg b)] w fun e w'=>e=.returned (.string (mg (a*b)))∧Below w.heap.size w w':=by
 have hW:=Lib.hid (fun W=>words_mg a b W h1 h2);have hX:=fun W=>mul64_any a b W (word_of_L h1) (word_of_L h2)
 have hh:((a*b/18446744073709551616:Nat):Int)≠0:=by have:0<a*b/18446744073709551616:=Nat.div_pos h (by omega);omega
 generalize a*b/18446744073709551616=hi at hX hh;generalize a*b%18446744073709551616=lo at hX;have HX:=Lib.hid hX;clear hX h h1 h2;have hDa:=Lib.hid (fun W=>digits_any a W ha);have hDb:=Lib.hid (fun W=>digits_any b W hb);have hwa:Pl.W a≤16777216:=by unfold Pl.W;omega
 have hwb:Pl.W b≤16777216:=by unfold Pl.W;omega
 rw [show (Pl.L a+3)/4=Pl.W a from rfl] at hDa;rw [show (Pl.L b+3)/4=Pl.W b from rfl] at hDb;clear ha hb;have hla:=Lib.hid (Pl.lt_W a);have hlb:=Lib.hid (Pl.lt_W b);generalize Pl.W a=n at *;generalize Pl.W b=m at *;have hmk:=make_words ((n:Int)+m+1) (n+m+1) (by omega) (by omega);have HMK:=Lib.hid hmk;clear hmk;go_enter Tryz.func187,Tryz.ntmps187;go_wp2_with fail;refine (hW.out _).mono ?_;rintro e w1 ⟨rfl,rfl⟩;go_wp2_with fail;refine (HX.out _).mono ?_;rintro e w1 ⟨rfl,rfl⟩;go_wp2_with fail;refine (hDa.out _).mono ?_;rintro e w1 ⟨rfl,hB1,hb1⟩;go_wp2_with fail;refine (hDb.out _).mono ?_;rintro e w2 ⟨rfl,hB2,hb2⟩;have hB1:=hB1.up hb2;have hb12:Below w.heap.size w w2:=bel_up hb1 hb2;have hmk:=HMK.out;have hg1:=hB1.lt;have hg2:=hB2.lt;go_wp2_with fail;clear hmk HMK;go_loopw [13,14,15,16,48,55] (fun _ _ _ _ i _ wr=>∃ k:Nat,k≤n∧i=.int .i64 k∧Blk wr w2.heap.size 165 (u32s (Pl.dg 4294967296 (n+m+1) ((a%4294967296 ^ k)*b)))∧Below w2.heap.size w2 wr) (fun _ _ _ _ i _ _=>n-(intOf i).toNat)
 case atStart=>exact ⟨0,Nat.zero_le _,rfl,by rw [Nat.pow_zero,Nat.mod_one,Nat.zero_mul];exact Blk.new _ _ _,(by repeat (first|with_reducible exact Below.refl _ _|refine Below.drew ?_|refine Below.alloc ?_ (by first|(simp;done)|(simp;omega)|omega) _|refine Below.setCell ?_ (by first|(simp;done)|(simp;omega)|omega) _))⟩
 case round =>
  obtain ⟨i,hi,rfl,hC,hbC⟩:=hrel
  by_cases hil:i<n
  ·have hx:=(hB1.up hbC).cell i
   rw [u32s_dg _ _ _ hil] at hx;have hP:(a%4294967296 ^ i)*b<4294967296 ^ (i+m):=Pl.mul_lt_pow (Nat.mod_lt _ (Nat.pow_pos (by omega))) hlb.out;have hT:=Pl.mul_round 4294967296 a b i;have hd1:a/4294967296 ^ i%4294967296<4294967296:=Nat.mod_lt _ (by omega);have hTl:(a%4294967296 ^ (i+1))*b<4294967296 ^ (i+1+m):=Pl.mul_lt_pow (Nat.mod_lt _ (Nat.pow_pos (by omega))) hlb.out;generalize a/4294967296 ^ i%4294967296=d at *;generalize (a%4294967296 ^ i)*b=P at *;rw [← hT] at hTl;have HT:=Lib.hid hT;have HP:=Lib.hid hP;have HTL:=Lib.hid hTl;clear hT hP hTl;go_wp2_with fail;obtain ⟨wo,rfl⟩:∃ wo:World,wo=wr:=⟨_,rfl⟩
   go_loopw [15,16,55] (fun c _ j wr=>∃ k:Nat,k≤m∧j=.int .i64 k∧c=.int .u64 (Pl.mcarry 4294967296 (P/4294967296 ^ i) d b k:Nat)∧Blk wr w2.heap.size 165 (u32s (Pl.mixD 4294967296 (n+m+1) (P+4294967296 ^ i*(d*b)) P (i+k)))∧Below w2.heap.size w2 wr) (fun _ _ j _=>m-(intOf j).toNat)
   case atStart=>exact ⟨0,Nat.zero_le _,rfl,by rw [Pl.mcarry_zero];rfl,by have e:=Pl.mixD_start 4294967296 (n+m+1) i P (d*b) (by omega) (by omega);exact (by rw [e];exact hC:Blk wo w2.heap.size 165 (u32s (Pl.mixD 4294967296 (n+m+1) (P+4294967296 ^ i*(d*b)) P i))),hbC⟩
   case round =>
    obtain ⟨k,hk,rfl,rfl,hC2,hbC2⟩:=hrel
    by_cases hkl:k<m
    ·have hx2:=hC2.cell (i+k)
     rw [u32s_get,Pl.mixD_get _ _ _ _ _ (by omega)] at hx2;simp only [Option.map_some] at hx2;have hf:=hC2.free (i+k);have hy:=(hB2.up hbC2).cell k;rw [u32s_dg _ _ _ hkl] at hy;have hset:=Pl.mixD_set 4294967296 (n+m+1) (P+4294967296 ^ i*(d*b)) P (i+k) (by omega);rw [Pl.shift_digit 4294967296 P (d*b) i k (by omega),← Pl.mcarry_digit 4294967296 (P/4294967296 ^ i) d b k (by omega)] at hset;have hcar:=Pl.mcarry_succ 4294967296 (P/4294967296 ^ i) d b k (by omega);have hc1:=Pl.mcarry_le 4294967296 (P/4294967296 ^ i) d b k (by omega);rw [Nat.div_div_eq_div_mul,← Nat.pow_add] at hset hcar;have hx1:P/4294967296 ^ (i+k)%4294967296<4294967296:=Nat.mod_lt _ (by omega);have hy1:b/4294967296 ^ k%4294967296<4294967296:=Nat.mod_lt _ (by omega);generalize P/4294967296 ^ (i+k)%4294967296=X at *;generalize b/4294967296 ^ k%4294967296=Y at *;generalize Pl.mcarry 4294967296 (P/4294967296 ^ i) d b k=C at *;have HSET:=Lib.hid hset;have HCAR:=Lib.hid hcar;clear hset hcar;have hdy:d*Y≤4294967295*4294967295:=Nat.mul_le_mul (by omega) (by omega);have hcast:(d:Int)*Y=((d*Y:Nat):Int):=by rw [Int.natCast_mul]
     have w1':IntKind.u64.wrap ((d:Int)*Y)=((d*Y:Nat):Int):=by rw [hcast];exact IntWalk.u64_in _ ⟨by omega,by omega⟩
     have w2':IntKind.u64.wrap ((X:Int)+((d*Y:Nat):Int))=((X+d*Y:Nat):Int):=by rw [IntWalk.u64_in _ ⟨by omega,by omega⟩];omega
     have w3':IntKind.u64.wrap ((C:Int)+((X+d*Y:Nat):Int))=((C+X+d*Y:Nat):Int):=by rw [IntWalk.u64_in _ ⟨by omega,by omega⟩];omega
     clear hcast;have k0:(0:Int)≤(i:Int)+k:=by omega
     have k1:(i:Int)+k<((n+m+1:Nat):Int):=by omega
     have k2:(k:Int)<(m:Int):=by omega
     go_wp2_with fail;have dx2:=Bel.cell hx2;have dy:=Bel.cell hy;refine wp_region_all (by kernel_rfl) (by kernel_rfl) ?_;repeat (go_big_quiet_step (fail))
     refine wpQuiet_nil ?_;intro w3 hb3;have hx3:=Bel.cell hx2 ⟨w3,hb3⟩;have hf3:=(hC2.up hb3).free (i+k);simp only at hx3;clear dx2 dy hx2 hy hf hx w1' w2' w3';have hv1:((C:Int)+((X:Int)+(d:Int)*(Y:Int)))%4294967296=(((C+X+d*Y)%4294967296:Nat):Int):=by rw [← Int.natCast_mul];omega
     have hv2:((C:Int)+((X:Int)+(d:Int)*(Y:Int)))/4294967296=(((C+X+d*Y)/4294967296:Nat):Int):=by rw [← Int.natCast_mul];omega
     have HV1:=Lib.hid hv1;have HV2:=Lib.hid hv2;clear hv1 hv2;go_wp2;go_roundw
     case rel =>
      refine ⟨k+1,by omega,by go_num,by rw [HV2.out,← HCAR.out],?_,(bel_up hbC2 hb3).setCell (Nat.le_refl _) _⟩;rw [HV1.out,← Nat.add_assoc,← HSET.out,← u32s_set];exact (hC2.up hb3).put _ _
     case measure=>simp [intOf];omega
    ·have hkm:k=m:=by omega
     have hlast:=Pl.mcarry_last 4294967296 (P/4294967296 ^ i) d b m (by rw [Nat.div_lt_iff_lt_mul (Nat.pow_pos (by omega)),← Nat.pow_add,Nat.add_comm m i];exact HP.out) hlb.out (by omega) hd1;rw [← Pl.shift_digit 4294967296 P (d*b) i m (by omega)] at hlast;have hset:=Pl.mixD_set 4294967296 (n+m+1) (P+4294967296 ^ i*(d*b)) P (i+m) (by omega);rw [← hlast,Pl.mixD_end 4294967296 (n+m+1) (i+m+1) _ _ (by omega) (by omega) (by have:=HTL.out;rwa [show i+1+m=i+m+1 from by omega] at this) (Nat.lt_of_lt_of_le HP.out (Nat.pow_le_pow_right (by omega) (by omega)))] at hset;have hc1:=Pl.mcarry_le 4294967296 (P/4294967296 ^ i) d b m (by omega);rw [hkm] at hC2;have hkC:Pl.mcarry 4294967296 (P/4294967296 ^ i) d b k=Pl.mcarry 4294967296 (P/4294967296 ^ i) d b m:=by rw [hkm]
     rw [hkC];generalize Pl.mcarry 4294967296 (P/4294967296 ^ i) d b m=C at *;have hx2:=hC2.cell (i+m);rw [u32s_get,Pl.mixD_get _ _ _ _ _ (by omega)] at hx2;simp only [Option.map_some] at hx2;have hf:=hC2.free (i+m);have HSET:=Lib.hid hset;clear hset hlast hkC hkm hx;generalize P/4294967296 ^ (i+m)%4294967296=X at *;have k0:(0:Int)≤(i:Int)+m:=by omega
     have k1:(i:Int)+m<((n+m+1:Nat):Int):=by omega
     go_wp2;go_roundw
     case rel =>
      refine ⟨i+1,by omega,by go_num,?_,hbC2.setCell (Nat.le_refl _) _⟩;rw [← HT.out,← HSET.out,← u32s_set];exact hC2.put _ _
     case measure=>simp [intOf];omega
  ·have hin:i=n:=by omega
   rw [hin,Nat.mod_eq_of_lt hla.out] at hC;have hby:=Lib.hid (fun W hB=>bytes_any w2.heap.size (n+m+1) (n+m+1) (Pl.dg 4294967296 (n+m+1) (a*b)) W hB (by rw [Pl.dg_length];omega) (by omega) (by omega) (Pl.dg_lt (by omega)));rw [List.take_of_length_le (by rw [Pl.dg_length];omega),Pl.vB_dg,Nat.mod_eq_of_lt (Nat.lt_of_lt_of_le (Pl.mul_lt_pow hla.out hlb.out) (Nat.pow_le_pow_right (by omega) (by omega)))] at hby;clear hin hDa hDb;go_wp2_with (go_at_call 200;refine (hby.out _ hC).mono ?_;rintro e w4 ⟨rfl,hb4⟩)
   go_ret;exact ⟨rfl,bel_up (bel_up hb12 hbC) hb4⟩

theorem mul_any (a b:Nat) (w:World) (ha:Pl.L a≤67108864) (hb:Pl.L b≤67108864) :
 Calls Tryz.prog 187 #[.string (mg a),.string (mg b)] w fun e w'=>e=.returned (.string (mg (a*b)))∧Below w.heap.size w w':=by
 rcases Nat.lt_or_ge 8 (Pl.L a) with h1|h1
 ·exact mul_long a b w ha hb (.inl h1)
 rcases Nat.lt_or_ge 8 (Pl.L b) with h2|h2
 ·exact mul_long a b w ha hb (.inr h2)
 rcases Nat.lt_or_ge (a*b) 18446744073709551616 with h|h
 ·exact mul_small a b w h1 h2 h
 ·exact mul_over a b w ha hb h1 h2 h
end Go.Proofs.YtiochgoocbkckaaGreatDoor

namespace Go.Proofs.YtiochgoocbkckaaGreatDoor
open Go Go.RowKit Go.Shelf

set_option maxHeartbeats 1000000 in
theorem short_any (g n cap V y:Nat) (w:World) (hB:Blk w g 165 (u32s (Pl.dg 4294967296 n V))) (hn:n≤cap) (hc:cap≤67108864) (hV:V<4294967296 ^ n) (hy:0<y) (hy2:y<4294967296) :
 Calls Tryz.prog 217 #[.slice (some ⟨g,0,none⟩) n cap,.int .u32 y] w fun e w'=>e=.returned (.int .u32 ((V%y:Nat):Int))∧Blk w' g 165 (u32s (Pl.dg 4294967296 n (V/y)))∧(∀ B w0,B≤g→Below B w0 w→Below B w0 w'):=by
 have HV:=Lib.hid hV;clear hV;go_enter Tryz.func217,Tryz.ntmps217;go_wp2_with fail;go_loopw [5,6] (fun r i wr=>∃ k:Nat,k≤n∧i=.int .i64 ((k:Int)-1)∧r=.int .u64 ((V/4294967296 ^ k%y:Nat):Int)∧Blk wr g 165 (u32s (Pl.mixD 4294967296 n V (V/y) k))∧(∀ B w0,B≤g→Below B w0 w→Below B w0 wr)) (fun _ i _=>(intOf i+1).toNat)
 case atStart=>exact ⟨n,Nat.le_refl _,rfl,by rw [Nat.div_eq_of_lt HV.out,Nat.zero_mod];rfl,by rw [Pl.mixD_full];exact hB,fun _ _ _ h=>h⟩
 case round =>
  obtain ⟨k,hk,rfl,rfl,hC,hfr⟩:=hrel;have HFR:=Lib.hid hfr;clear hfr
  by_cases h0:k=0
  ·subst h0
   rw [Pl.mixD_zero] at hC;have hyv:V%y<4294967296:=Nat.lt_trans (Nat.mod_lt _ hy) hy2;have HY:Hid ((V:Int)%y%4294967296=((V%y:Nat):Int)):=Lib.hid (by rw [← Int.natCast_emod];omega);clear hyv;go_wp2;go_ret;exact ⟨by rw [← HY.out];rfl,hC,HFR.out⟩
  ·have hx:=hC.cell (k-1)
   rw [u32s_get,Pl.mixD_getLow _ _ _ _ _ (by omega)] at hx;simp only [Option.map_some] at hx;have hf:=hC.free (k-1);have hset:=Pl.mixD_back 4294967296 n V (V/y) k (by omega) hk;obtain ⟨hq,hr⟩:=Pl.short_step 4294967296 V y k (by omega) hy (by omega);have hr1:V/4294967296 ^ k%y<y:=Nat.mod_lt _ hy;have hd1:V/4294967296 ^ (k-1)%4294967296<4294967296:=Nat.mod_lt _ (by omega);rw [← hq] at hset;generalize V/4294967296 ^ k%y=R at *;generalize V/4294967296 ^ (k-1)%4294967296=D at *;have hor:=or_word64 R D (by omega) hd1;have hqb:(R*4294967296+D)/y<4294967296:=by rw [hq];exact Nat.mod_lt _ (by omega)
   have HSET:=Lib.hid hset;have HR:=Lib.hid hr;clear hset hr hq;have ek:((k:Int)-1).toNat=k-1:=by omega
   have i1:(1:Int)≤k:=by omega
   have i2:(k:Int)-1<n:=by omega
   go_wp2_with fail;have j1:(0:Int)≤(R:Int)*4294967296+D:=by omega
   have j2:(1:Int)≤y:=by omega
   have j3:((y:Int)==0)=false:=by simp;omega
   have HV1:Hid (((R:Int)*4294967296+D)/y%4294967296=(((R*4294967296+D)/y:Nat):Int)):=Lib.hid (by
    have e:(((R*4294967296+D)/y:Nat):Int)=((R:Int)*4294967296+D)/y:=by simp
    rw [← e];clear e;generalize (R*4294967296+D)/y=q at hqb ⊢;omega)
   have HV2:Hid (((R:Int)*4294967296+D)%y=(((R*4294967296+D)%y:Nat):Int)):=Lib.hid (by simp);have hgl:=hC.lt;go_region
   all_goals
    go_wp2;refine ⟨⟨k-1,by omega,congrArg (Value.int .i64) (by omega),by rw [HV2.out,HR.out],?_,fun B w0 hB0 h=>((HFR.out B w0 hB0 h).drew.setCell hB0 _)⟩,by simp [intOf];omega⟩;rw [HV1.out,← HSET.out,← u32s_set];exact hC.drew.put _ _
end Go.Proofs.YtiochgoocbkckaaGreatDoor

namespace Go.Proofs.YtiochgoocbkckaaGreatDoor
open Go Go.RowKit Go.Shelf

set_option maxHeartbeats 1000000 in
theorem shifted_any (g n cap V s:Nat) (w:World) (hB:Blk w g 165 (u32s (Pl.dg 4294967296 n V))) (hn:n≤cap) (hc:cap≤67108864) (hV:V<4294967296 ^ n) (hs:s<32) :
 Calls Tryz.prog 219 #[.slice (some ⟨g,0,none⟩) n cap,.int .i64 s] w fun e w'=>e=.returned (.slice (some ⟨w.heap.size,0,none⟩) (n+1) (n+1))∧Blk w' w.heap.size 165 (u32s (Pl.dg 4294967296 (n+1) (V*2 ^ s)))∧Below w.heap.size w w':=by
 have HV:=Lib.hid hV;have hgl:=hB.lt;have hmk:=make_words ((n:Int)+1) (n+1) (by omega) (by omega);clear hV;go_enter Tryz.func219,Tryz.ntmps219;go_wp2_with fail;clear hmk;go_loopw [6,7,8,15] (fun _ _ _ i wr=>∃ k:Nat,k≤n∧i=.int .i64 k∧Blk wr w.heap.size 165 (u32s (Pl.dg 4294967296 (n+1) (V%4294967296 ^ k*2 ^ s)))∧Below w.heap.size w wr) (fun _ _ _ i _=>n-(intOf i).toNat)
 case atStart=>exact ⟨0,Nat.zero_le _,rfl,by rw [Nat.pow_zero,Nat.mod_one,Nat.zero_mul];exact Blk.new _ _ _,(by repeat (first|with_reducible exact Below.refl _ _|refine Below.drew ?_|refine Below.alloc ?_ (by first|(simp;done)|(simp;omega)|omega) _|refine Below.setCell ?_ (by first|(simp;done)|(simp;omega)|omega) _))⟩
 case round =>
  obtain ⟨k,hk,rfl,hC,hbC⟩:=hrel
  by_cases hkl:k<n
  ·have hx:=(hB.up hbC).cell k
   rw [u32s_dg _ _ _ hkl] at hx;have ho1:=hC.cell k;rw [u32s_dg _ _ _ (by omega)] at ho1;have ho2:=hC.cell (k+1);rw [u32s_dg _ _ _ (by omega)] at ho2;have hf1:=hC.free k;have hf2:=hC.free (k+1);obtain ⟨hL1,hL2⟩:=Pl.sh_low V s k hs;have hrd:=Pl.sh_round V s k;have hTl:V%4294967296 ^ k*2 ^ s<4294967296 ^ (k+1):=by have h1:V%4294967296 ^ k<4294967296 ^ k:=Nat.mod_lt _ (Nat.pow_pos (by omega));rw [Nat.pow_succ];exact Nat.mul_lt_mul'' h1 (by omega)
   have hd1:V/4294967296 ^ k%4294967296<4294967296:=Nat.mod_lt _ (by omega);have hset:=Pl.sh_set n _ (V/4294967296 ^ k%4294967296) s k _ hTl rfl hs hL1 hd1;rw [← hrd] at hset;have hLm:V%4294967296 ^ k*2 ^ s/4294967296 ^ k%4294967296=V%4294967296 ^ k*2 ^ s/4294967296 ^ k:=Nat.mod_eq_of_lt (by omega);rw [hLm] at ho1;obtain ⟨hw1,hw2⟩:=Pl.sh_word (V/4294967296 ^ k%4294967296) s hs;generalize V%4294967296 ^ k*2 ^ s/4294967296 ^ k=L at *;generalize V%4294967296 ^ k*2 ^ s/4294967296 ^ (k+1)%4294967296=O2 at *;generalize V/4294967296 ^ k%4294967296=d at *;have HSET:=Lib.hid hset;clear hset hrd hLm hTl;have hdq:d*2 ^ s≤4294967295*2147483648:=Nat.mul_le_mul (by omega) hL2
   have hor:bits .or .u32 (L:Int) ((d:Int)*2 ^ s%4294967296)=((L+d*2 ^ s%4294967296:Nat):Int):=by
    have e1:(d:Int)*2 ^ s%4294967296=((d*2 ^ s%4294967296:Nat):Int):=by simp
    rw [e1,u32_or_nat _ _ (by omega) (by omega),Nat.or_comm,nat_join s _ _ hw1 hL1];omega
   have HW:Hid (IntKind.u64.wrap ((d:Int)*2 ^ s)=((d*2 ^ s:Nat):Int)):=Lib.hid (by
    have e:(d:Int)*2 ^ s=((d*2 ^ s:Nat):Int):=by simp
    rw [e];exact IntWalk.u64_in _ ⟨by omega,by omega⟩)
   have HV1:Hid (bits .or .u32 (L:Int) (IntKind.u64.wrap ((d:Int)*2 ^ s)%4294967296)=((L+d*2 ^ s%4294967296:Nat):Int)):=Lib.hid (by
    rw [← hor,HW.out];congr 1)
   have HV2:Hid (IntKind.u64.wrap ((d:Int)*2 ^ s)/4294967296%4294967296=((d*2 ^ s/4294967296:Nat):Int)):=Lib.hid (by
    rw [HW.out];generalize d*2 ^ s=m at hdq ⊢;omega)
   clear hor;have hs0:(0:Int)≤s:=by omega
   have hs1:(s:Int)<32:=by omega
   go_wp2;refine ⟨⟨k+1,by omega,by go_num,?_,(hbC.setCell (Nat.le_refl _) _).setCell (Nat.le_refl _) _⟩,by simp [intOf];omega⟩;rw [HV1.out,HV2.out,← HSET.out,← u32s_set,← u32s_set];exact (hC.put _ _).put _ _
  ·have hkn:k=n:=by omega
   rw [hkn,Nat.mod_eq_of_lt HV.out] at hC;clear hkn;go_wp2;go_ret;exact ⟨rfl,hC,hbC⟩
end Go.Proofs.YtiochgoocbkckaaGreatDoor

namespace Go.Proofs.YtiochgoocbkckaaGreatDoor
open Go Go.RowKit Go.Shelf
namespace Pl
structure Gd (b Y W v1 v2 u2 high:Nat):Prop where
 v:1≤v1
 v1b:v1<b
 v2b:v2<b
 u2b:u2<b
 wy:W<Y*b
 ex:∃ p y0 w0,Y=(v1*b+v2)*p+y0∧y0<p∧W=(high*b+u2)*p+w0∧w0<p
theorem Gd.ypos {b Y W v1 v2 u2 high:Nat} (h:Gd b Y W v1 v2 u2 high):0<Y:=by
 rcases Nat.eq_zero_or_pos Y with h0|h0
 ·have:=h.wy;rw [h0,Nat.zero_mul] at this;omega
 ·exact h0
theorem Gd.qb {b Y W v1 v2 u2 high:Nat} (h:Gd b Y W v1 v2 u2 high):W/Y<b :=
 (Nat.div_lt_iff_lt_mul h.ypos).2 (by rw [Nat.mul_comm];exact h.wy)
theorem Gd.start {b Y W v1 v2 u2 high:Nat} (h:Gd b Y W v1 v2 u2 high):W/Y≤high/v1:=by
 obtain ⟨p,y0,w0,hY,hy0,hW,hw0⟩:=h.ex;have h1:high+1≤(high/v1+1)*v1:=by have:=Nat.div_add_mod high v1;have:=Nat.mod_lt high h.v;rw [Nat.add_mul,Nat.mul_comm (high/v1)];omega
 refine Nat.lt_succ_iff.1 ((Nat.div_lt_iff_lt_mul h.ypos).2 ?_);have h2:(high+1)*(b*p)≤(high/v1+1)*v1*(b*p):=Nat.mul_le_mul_right _ h1;have h3:(high/v1+1)*v1*(b*p)≤(high/v1+1)*Y:=by rw [Nat.mul_assoc];refine Nat.mul_le_mul_left _ ?_;rw [hY,← Nat.mul_assoc,Nat.add_mul];omega
 have h4:W<(high+1)*(b*p):=by have e:(high*b+u2+1)*p≤(high+1)*b*p:=Nat.mul_le_mul_right p (by have:=h.u2b;rw [Nat.add_mul high 1 b];omega);rw [Nat.add_mul _ 1 p,Nat.mul_assoc (high+1)] at e;rw [hW];omega
 exact Nat.lt_of_lt_of_le h4 (Nat.le_trans h2 h3)
theorem Gd.down1 {b Y W v1 v2 u2 high g:Nat} (h:Gd b Y W v1 v2 u2 high) (hg:b≤g):W/Y≤g-1:=by have:=h.qb;omega
theorem Gd.down2 {b Y W v1 v2 u2 high g rest:Nat} (h:Gd b Y W v1 v2 u2 high) (hg:g*v1+rest=high) (hl:rest*b+u2<g*v2):W/Y≤g-1:=by
 obtain ⟨p,y0,w0,hY,hy0,hW,hw0⟩:=h.ex;have h1:=kn_step hY hW hw0 hg hl;have:=(Nat.div_lt_iff_lt_mul h.ypos).2 h1;omega
theorem Gd.fin {b Y W v1 v2 u2 high g rest:Nat} (h:Gd b Y W v1 v2 u2 high) (hg:g*v1+rest=high) (hl:g*v2≤rest*b+u2) (hgb:g<b) (hq:W/Y≤g):g*Y<W+Y∧(g=W/Y∨g=W/Y+1):=by
 obtain ⟨p,y0,w0,hY,hy0,hW,hw0⟩:=h.ex;have h1:=kn_exit hY hy0 hW hg hl hgb h.v;exact ⟨h1,(kn_q h.ypos h.wy hq h1).2⟩
theorem Gd.brk {b Y W v1 v2 u2 high g rest:Nat} (h:Gd b Y W v1 v2 u2 high) (hg:g*v1+rest=high) (hr:b≤rest) (hq:W/Y≤g):g<b∧g*Y<W+Y∧(g=W/Y∨g=W/Y+1):=by
 obtain ⟨p,y0,w0,hY,hy0,hW,hw0⟩:=h.ex;have h1:=kn_high hY hy0 h.v2b hW h.wy
 have h2:g<b:=by
  rcases Nat.lt_or_ge g b with h3|h3
  ·exact h3
  ·have:=Nat.mul_le_mul_right v1 h3
   rw [Nat.add_mul,Nat.mul_comm v1 b] at h1;omega
 refine ⟨h2,h.fin hg ?_ h2 hq⟩;have h3:g*v2≤b*b:=Nat.mul_le_mul (by omega) (Nat.le_of_lt h.v2b);have h4:=Nat.mul_le_mul_right b hr;omega
theorem gd_dec {G v1 R H:Nat} (h:G*v1+R=H) (hG:1≤G):(G-1)*v1+(R+v1)=H:=by
 obtain ⟨g,rfl⟩:∃ g,G=g+1:=⟨G-1,by omega⟩
 rw [Nat.add_mul,Nat.one_mul] at h;simp only [Nat.add_sub_cancel];omega
theorem gd_of {b n j Z Y:Nat} (hb:0<b) (hn:2≤n) (hY:Y<b ^ n) (hY1:b ^ (n-1)≤Y) (hZ:Z<b ^ (j+1)*Y) :
 Gd b Y (Z/b ^ j) (Y/b ^ (n-1)%b) (Y/b ^ (n-2)%b) (Z/b ^ (j+n-2)%b) (Z/b ^ (j+n)%b*b+Z/b ^ (j+n-1)%b):=by
 have hp:∀ k,0<b ^ k:=fun k=>Nat.pow_pos hb
 have hW:Z/b ^ j<Y*b:=(Nat.div_lt_iff_lt_mul (hp j)).2 (by
  rw [Nat.pow_succ] at hZ;have e:Y*b*b ^ j=b ^ j*b*Y:=by rw [Nat.mul_comm (b ^ j*b),Nat.mul_assoc,Nat.mul_comm b]
  rw [e];exact hZ)
 have hWn:Z/b ^ j<b ^ (n+1):=Nat.lt_of_lt_of_le hW (by rw [Nat.pow_succ];exact Nat.mul_le_mul_right b (Nat.le_of_lt hY));have e1:Z/b ^ (j+n)=Z/b ^ j/b ^ n:=by rw [Nat.div_div_eq_div_mul,← Nat.pow_add]
 have e2:Z/b ^ (j+n-1)=Z/b ^ j/b ^ (n-1):=by rw [Nat.div_div_eq_div_mul,← Nat.pow_add];congr 2;omega
 have e3:Z/b ^ (j+n-2)=Z/b ^ j/b ^ (n-2):=by rw [Nat.div_div_eq_div_mul,← Nat.pow_add];congr 2;omega
 rw [e1,e2,e3];generalize Z/b ^ j=W at *;have hs:∀ X k,X/b ^ k=X/b ^ (k+1)*b+X/b ^ k%b:=by intro X k;rw [Nat.pow_succ,← Nat.div_div_eq_div_mul,Nat.mul_comm];exact (Nat.div_add_mod _ b).symm
 have y1:=hs Y (n-2);rw [show n-2+1=n-1 from by omega] at y1;have w1:=hs W (n-2);rw [show n-2+1=n-1 from by omega] at w1;have w2:=hs W (n-1);rw [show n-1+1=n from by omega] at w2;have yt:Y/b ^ (n-1)%b=Y/b ^ (n-1):=Nat.mod_eq_of_lt ((Nat.div_lt_iff_lt_mul (hp _)).2 (by rw [← Nat.pow_succ'];rw [show (n-1).succ=n from by omega];exact hY));have wt:W/b ^ n%b=W/b ^ n:=Nat.mod_eq_of_lt ((Nat.div_lt_iff_lt_mul (hp _)).2 (by rw [← Nat.pow_succ'];exact hWn));refine ⟨?_,Nat.mod_lt _ hb,Nat.mod_lt _ hb,Nat.mod_lt _ hb,hW,b ^ (n-2),Y%b ^ (n-2),W%b ^ (n-2),?_,Nat.mod_lt _ (hp _),?_,Nat.mod_lt _ (hp _)⟩
 ·rw [yt];exact (Nat.le_div_iff_mul_le (hp _)).2 (by rw [Nat.one_mul];exact hY1)
 ·rw [yt,← y1,Nat.mul_comm];exact (Nat.div_add_mod _ _).symm
 ·rw [wt,← w2,← w1,Nat.mul_comm];exact (Nat.div_add_mod _ _).symm
theorem kn_closed (b j X Y:Nat) :
 X%(b ^ (j+1)*Y)/b ^ j/Y=X/Y/b ^ j%b∧X%(b ^ j*Y)=X%(b ^ (j+1)*Y)%b ^ j+b ^ j*(X%(b ^ (j+1)*Y)/b ^ j%Y):=by
 have e:b ^ (j+1)*Y=b ^ j*(Y*b):=by rw [Nat.pow_succ,Nat.mul_assoc,Nat.mul_comm b]
 have e1:X%(b ^ (j+1)*Y)/b ^ j=X/b ^ j%(Y*b):=by rw [e,Nat.mod_mul_right_div_self]
 have e2:X%(b ^ (j+1)*Y)%b ^ j=X%b ^ j:=by rw [e,Nat.mod_mul_right_mod]
 rw [e1,e2,Nat.mod_mul_right_div_self,Nat.mod_mul_right_mod,Nat.mod_mul];refine ⟨?_,rfl⟩;rw [Nat.div_div_eq_div_mul,Nat.div_div_eq_div_mul,Nat.mul_comm]
theorem kn_carry (b g Y i:Nat) (hb:0<b):(mcarry b 0 g Y i+g*(Y/b ^ i%b))/b=mcarry b 0 g Y (i+1)∧(mcarry b 0 g Y i+g*(Y/b ^ i%b))%b=g*Y/b ^ i%b:=by
 have h1:=mcarry_succ b 0 g Y i hb;have h2:=mcarry_digit b 0 g Y i hb;simp only [Nat.zero_div,Nat.zero_mod,Nat.add_zero,Nat.zero_add] at h1 h2;exact ⟨h1,h2⟩
theorem kn_top (b g Y n:Nat) (hb:0<b) (hY:Y<b ^ n) (hg:g<b):mcarry b 0 g Y n=g*Y/b ^ n%b:=by
 have:=mcarry_last b 0 g Y n (Nat.pow_pos hb) hY hb hg
 rwa [Nat.zero_add] at this
theorem kn_up (b W n i:Nat) (hb:0<b) (hi:i≤n):(W+b ^ (n+1))/b ^ i%b=W/b ^ i%b:=by
 have:=low_digit b W 1 (n+1) i hb (by omega)
 rwa [Nat.mul_one] at this
theorem kn_win (b Z j i:Nat):Z/b ^ (j+i)=Z/b ^ j/b ^ i:=by rw [Nat.div_div_eq_div_mul,← Nat.pow_add]
theorem kn_dig (b r j i D:Nat) (hb:0<b) (hr:r<b ^ j):(r+b ^ j*D)/b ^ (j+i)%b=D/b ^ i%b:=by
 rw [shift_digit b r D j i hb,Nat.div_eq_of_lt hr,Nat.zero_add]
theorem kn_fit {b Y W n g:Nat} (hW:W<b ^ (n+1)) (hg:g=W/Y∨g=W/Y+1) (hle:g*Y≤W) (hY:0<Y):g=W/Y∧W+b ^ (n+1)-g*Y=W%Y+b ^ (n+1)∧carry b (W+b ^ (n+1)-g*Y) (g*Y) (n+1)=0:=by
 have hq:g=W/Y:=by have:=(Nat.le_div_iff_mul_le hY).2 hle;omega
 have hm:=Nat.div_add_mod W Y;rw [Nat.mul_comm] at hm;rw [← hq] at hm;have hD:W+b ^ (n+1)-g*Y=W%Y+b ^ (n+1):=by omega
 refine ⟨hq,hD,?_⟩;have hr:W%Y≤W:=Nat.mod_le _ _;rw [carry,hD,Nat.add_mod_right,Nat.mod_eq_of_lt (by omega:W%Y<b ^ (n+1)),Nat.mod_eq_of_lt (by omega:g*Y<b ^ (n+1))];exact Nat.div_eq_of_lt (by omega)
theorem kn_over {b Y W n g:Nat} (hW:W<b ^ (n+1)) (hg:g=W/Y∨g=W/Y+1) (hlt:W<g*Y) (hgB:g*Y<b ^ (n+1)) :
 g=W/Y+1∧W+b ^ (n+1)-g*Y+Y=W%Y+b ^ (n+1)∧W+b ^ (n+1)-g*Y<b ^ (n+1)∧carry b (W+b ^ (n+1)-g*Y) (g*Y) (n+1)=1:=by
 have hm:=Nat.div_add_mod W Y
 have hq:g=W/Y+1:=by
  rcases hg with h|h
  ·have:=Nat.div_mul_le_self W Y
   rw [h] at hlt;omega
  ·exact h
 have hm2:g*Y=Y*(W/Y)+Y:=by rw [hq,Nat.add_mul,Nat.one_mul,Nat.mul_comm]
 refine ⟨hq,by omega,by omega,?_⟩;rw [carry,Nat.mod_eq_of_lt (by omega:W+b ^ (n+1)-g*Y<b ^ (n+1)),Nat.mod_eq_of_lt hgB,Nat.sub_add_cancel (by omega)]
 exact (Nat.div_eq_iff (Nat.pow_pos (by
  rcases Nat.eq_zero_or_pos b with h|h
  ·rw [h,Nat.zero_pow (by omega)] at hW;omega
  ·exact h))).2 (by omega)
theorem kn_done (b N j n r m Z:Nat) (hb:0<b) (hN:j+n+1≤N) (hr:r<b ^ j) (hm:m<b ^ (n+1)) (hZ:Z<b ^ (j+n+1)) :
 mixD b N (r+b ^ j*(m+b ^ (n+1))) Z (j+n+1)=dg b N (r+b ^ j*m):=by
 have e:r+b ^ j*(m+b ^ (n+1))=r+b ^ j*m+b ^ (j+n+1)*1:=by rw [Nat.mul_add,← Nat.pow_add,Nat.mul_one,Nat.add_assoc,Nat.add_assoc]
 have hlt:r+b ^ j*m<b ^ (j+n+1):=by have h1:b ^ j*(m+1)≤b ^ j*b ^ (n+1):=Nat.mul_le_mul_left _ hm;rw [← Nat.pow_add,Nat.mul_add] at h1;rw [Nat.add_assoc j];omega
 rw [e,← mixD_end b N (j+n+1) (r+b ^ j*m) Z hb hN hlt hZ];unfold mixD;rw [dg_low_eq b (j+n+1) _ 1 hb]
theorem kn_mid (b N j n r D Z:Nat) (hb:0<b) (hN:j+n+1≤N) (hr:r<b ^ j) (hD:D<b ^ (n+1)) (hZ:Z<b ^ (j+n+1)) :
 mixD b N (r+b ^ j*D) Z (j+n+1)=dg b N (r+b ^ j*D)∧r+b ^ j*D<b ^ (j+n+1):=by
 have hlt:r+b ^ j*D<b ^ (j+n+1):=by have h1:b ^ j*(D+1)≤b ^ j*b ^ (n+1):=Nat.mul_le_mul_left _ hD;rw [← Nat.pow_add,Nat.mul_add] at h1;rw [Nat.add_assoc j];omega
 exact ⟨mixD_end b N (j+n+1) _ Z hb hN hlt hZ,hlt⟩
theorem kn_back (R s i:Nat) (hs:s<32):(R/4294967296 ^ (i+1)%4294967296*4294967296+R/4294967296 ^ i%4294967296)/2 ^ s%4294967296=R/2 ^ s/4294967296 ^ i%4294967296:=by
 have e:(18446744073709551616:Nat)=2 ^ s*(2 ^ (32-s)*4294967296):=by rw [← Nat.mul_assoc,← Nat.pow_add,show s+(32-s)=32 from by omega]
 have h1:R/4294967296 ^ (i+1)%4294967296*4294967296+R/4294967296 ^ i%4294967296=R/4294967296 ^ i%18446744073709551616:=by rw [Nat.pow_succ,← Nat.div_div_eq_div_mul];generalize R/4294967296 ^ i=m;omega
 rw [h1,Nat.div_div_eq_div_mul R,Nat.mul_comm (2 ^ s),← Nat.div_div_eq_div_mul];generalize R/4294967296 ^ i=m;rw [e,Nat.mod_mul_right_div_self,Nat.mod_mul_left_mod]
theorem kn_norm (b n:Nat) (hn:1≤n) (h1:4294967296 ^ (n-1)≤b) (h2:b<4294967296 ^ n) :
 let s:=32-Lib.bitLen (b/4294967296 ^ (n-1)%4294967296)
 Lib.bitLen (b/4294967296 ^ (n-1)%4294967296)≤32∧1≤Lib.bitLen (b/4294967296 ^ (n-1)%4294967296)∧s<32∧b*2 ^ s<4294967296 ^ n:=by
 have hp:0<4294967296 ^ (n-1):=Nat.pow_pos (by omega);have hd:b/4294967296 ^ (n-1)<4294967296:=(Nat.div_lt_iff_lt_mul hp).2 (by rw [← Nat.pow_succ',show (n-1).succ=n from by omega];exact h2);have h0:1≤b/4294967296 ^ (n-1):=(Nat.le_div_iff_mul_le hp).2 (by rw [Nat.one_mul];exact h1);rw [Nat.mod_eq_of_lt hd,bitLen_log2 _ (by omega) (by omega)];have hl:Nat.log2 (b/4294967296 ^ (n-1))<32:=(Nat.log2_lt (by omega)).2 (by simpa using hd);have hlt:b/4294967296 ^ (n-1)<2 ^ (Nat.log2 (b/4294967296 ^ (n-1))+1):=Nat.lt_log2_self;generalize Nat.log2 (b/4294967296 ^ (n-1))=l at *;refine ⟨by omega,by omega,by omega,?_⟩;have h3:b<2 ^ (l+1)*4294967296 ^ (n-1):=(Nat.div_lt_iff_lt_mul hp).1 hlt;have h4:b*2 ^ (32-(l+1))<2 ^ (l+1)*4294967296 ^ (n-1)*2 ^ (32-(l+1)):=Nat.mul_lt_mul_of_pos_right h3 (Nat.two_pow_pos _);have e:2 ^ (l+1)*4294967296 ^ (n-1)*2 ^ (32-(l+1))=4294967296 ^ n:=by rw [Nat.mul_right_comm,← Nat.pow_add,show l+1+(32-(l+1))=32 from by omega,show (2:Nat) ^ 32=4294967296 from rfl,← Nat.pow_succ',show (n-1).succ=n from by omega]
 rwa [e] at h4
theorem W_le (b:Nat) (h:0<W b):4294967296 ^ (W b-1)≤b:=by
 have h0:b≠0:=by rintro rfl;simp [W,L_zero] at h
 refine Nat.le_trans ?_ (L_le b h0);rw [show (4294967296:Nat)=256 ^ 4 from rfl,← Nat.pow_mul];exact Nat.pow_le_pow_right (by omega) (by have:=L_pos h0;unfold W;omega)
theorem kn_start (a b s n m:Nat) (hn:1≤n) (hnm:n≤m) (hb:4294967296 ^ (n-1)≤b) (ha:a<4294967296 ^ m):a*2 ^ s<4294967296 ^ (m+1-n)*(b*2 ^ s):=by
 have h1:a<4294967296 ^ (m+1-n)*b:=Nat.lt_of_lt_of_le ha (by
  have:=Nat.mul_le_mul_left (4294967296 ^ (m+1-n)) hb;rw [← Nat.pow_add,show m+1-n+(n-1)=m from by omega] at this
  exact this)
 rw [← Nat.mul_assoc];exact Nat.mul_lt_mul_of_pos_right h1 (Nat.two_pow_pos s)
end Pl
end Go.Proofs.YtiochgoocbkckaaGreatDoor

namespace Go.Proofs.YtiochgoocbkckaaGreatDoor
open Go Go.RowKit Go.Shelf

set_option maxHeartbeats 2000000 in
theorem div_small (a b:Nat) (w:World) (ha:Pl.L a≤8) (hb:Pl.L b≤8) (h0:b≠0) :
 Calls Tryz.prog 191 #[.string (mg a),.string (mg b)] w fun e w'=>e=.returned (.tuple #[.string (mg (a/b)),.string (mg (a%b))])∧Below w.heap.size w w':=by
 have hW:=Lib.hid (fun W=>words_mg a b W ha hb);have h1:=word_of_L ha;have h2:a/b≤a:=Nat.div_le_self _ _;have h3:a%b≤a:=Nat.mod_le _ _;have hM1:=Lib.hid (fun W=>magnitude_any (a/b) W (by omega));have hM2:=Lib.hid (fun W=>magnitude_any (a%b) W (by omega))
 have HV1:Hid (IntKind.u64.wrap ((a:Int)/b)=((a/b:Nat):Int)):=Lib.hid (by
  rw [← Int.natCast_ediv];exact IntWalk.u64_in _ ⟨Int.natCast_nonneg _,by generalize a/b=q at h2 ⊢;omega⟩)
 have HV2:Hid ((a:Int)%b=((a%b:Nat):Int)):=Lib.hid (Int.natCast_emod _ _).symm;have j2:(1:Int)≤b:=by omega
 have j3:((b:Int)==0)=false:=by simp;omega
 clear ha hb h0 h1 h2 h3;go_enter Tryz.func191,Tryz.ntmps191;go_wp2_with fail;refine (hW.out _).mono ?_;rintro e w1 ⟨rfl,rfl⟩;go_wp2_with fail;refine wp_region_tail 8 (by kernel_rfl) (by kernel_rfl) ?_;simp only [List.take_succ_cons,List.take_zero,List.drop_succ_cons,List.drop_zero];repeat (go_big_quiet_step ((go_at_call 190;first|(rw [HV1.out];exact Calls.bel (hM1.out _))|(rw [HV2.out];exact Calls.bel (hM2.out _)))))
 refine wpQuiet_nil ?_;intro w1 hb1;go_wp2;go_ret2;exact ⟨rfl,hb1⟩

set_option maxHeartbeats 2000000 in
theorem div_less (a b:Nat) (w:World) (h:8<Pl.L a∨8<Pl.L b) (hab:a<b) :
 Calls Tryz.prog 191 #[.string (mg a),.string (mg b)] w fun e w'=>e=.returned (.tuple #[.string (mg (a/b)),.string (mg (a%b))])∧Below w.heap.size w w':=by
 have hW:=Lib.hid (fun W=>words_long a b W h);have hc:=fun W=>compare_any a b W
 rw [show cmpZ (a:Int) b=-1 from by unfold cmpZ;rw [if_pos (by omega)]] at hc;have hC:=Lib.hid hc;have e1:mg (a/b)=⟨#[]⟩:=by rw [Nat.div_eq_of_lt hab];rfl
 have e2:a%b=a:=Nat.mod_eq_of_lt hab;rw [e1,e2];clear hc hab e1 e2 h;go_enter Tryz.func191,Tryz.ntmps191;go_wp2_with fail;refine (hW.out _).mono ?_;rintro e w1 ⟨⟨x,y,rfl⟩,rfl⟩;go_wp2_with fail;refine (hC.out _).mono ?_;rintro e w1 ⟨rfl,hb1⟩;go_wp2;go_ret2;exact ⟨rfl,hb1⟩

set_option maxHeartbeats 2000000 in
theorem div_digit (a b:Nat) (w:World) (ha:Pl.L a≤67108864) (hb:Pl.L b≤67108864) (h:8<Pl.L a∨8<Pl.L b) (hab:b≤a) (h1:Pl.W b=1) :
 Calls Tryz.prog 191 #[.string (mg a),.string (mg b)] w fun e w'=>e=.returned (.tuple #[.string (mg (a/b)),.string (mg (a%b))])∧Below w.heap.size w w':=by
 have hW:=Lib.hid (fun W=>words_long a b W h);have hc:=fun W=>compare_any a b W
 have hcz:∃ z:Int,cmpZ (a:Int) b=z∧0≤z:=⟨_,rfl,by unfold cmpZ;rw [if_neg (by omega)];split<;>omega⟩
 obtain ⟨z,hz,hz0⟩:=hcz;rw [hz] at hc;have hC:=Lib.hid hc;have hDa:=fun W=>digits_any a W ha
 have hDb:=fun W=>digits_any b W hb
 have hwa:Pl.W a≤16777216:=by unfold Pl.W;omega
 rw [show (Pl.L a+3)/4=Pl.W a from rfl] at hDa;rw [show (Pl.L b+3)/4=Pl.W b from rfl,h1] at hDb;have hla:=Pl.lt_W a;have hlb:=Pl.lt_W b;rw [h1,Nat.pow_one] at hlb
 have hb0:0<b:=by
  rcases Nat.eq_zero_or_pos b with h0|h0
  ·subst h0;simp [Pl.W,Pl.L_zero] at h1
  ·exact h0
 generalize Pl.W a=n at *;have hm2:=Lib.hid (fun W=>magnitude_any (a%b) W (by have:=Nat.mod_lt a hb0;omega));have hsh:=Lib.hid (fun (g:Nat) W hB=>short_any g n n a b W hB (Nat.le_refl _) (by omega) hla hb0 hlb);have hby:=Lib.hid (fun (g:Nat) W hB=>bytes_any g n n (Pl.dg 4294967296 n (a/b)) W hB (by rw [Pl.dg_length];omega) (by omega) (by omega) (Pl.dg_lt (by omega)));have hby2:=hby.out;rw [List.take_of_length_le (by rw [Pl.dg_length];omega),Pl.vB_dg,Nat.mod_eq_of_lt (Nat.lt_of_le_of_lt (Nat.div_le_self _ _) hla)] at hby2;have hBY:=Lib.hid hby2;have HDA:=Lib.hid hDa;have HDB:=Lib.hid hDb;have hbm:b%4294967296=b:=Nat.mod_eq_of_lt hlb;have HBM:=Lib.hid hbm;have hml:a%b<4294967296:=Nat.lt_trans (Nat.mod_lt _ hb0) hlb;have HR:Hid (((a%b:Nat):Int)=(a:Int)%b):=Lib.hid (Int.natCast_emod _ _);clear hc hab h hDa hDb hby hby2 hbm hz ha hb h1 hla;go_enter Tryz.func191,Tryz.ntmps191;go_wp2_with fail;refine (hW.out _).mono ?_;rintro e w1 ⟨⟨x,y,rfl⟩,rfl⟩;go_wp2_with fail;refine (hC.out _).mono ?_;rintro e w1 ⟨rfl,hb1⟩;go_wp2_with fail;refine (HDB.out _).mono ?_;rintro e w2 ⟨rfl,hB2,hb2⟩;go_wp2_with fail;refine (HDA.out _).mono ?_;rintro e w3 ⟨rfl,hB3,hb3⟩;have hy:=(hB2.up hb3).cell 0;rw [u32s_dg _ _ _ (by omega),Nat.pow_zero,Nat.div_one,HBM.out] at hy;go_wp2_with fail;refine (hsh.out _ _ hB3).mono ?_;rintro e w4 ⟨rfl,hB4,hb4⟩;go_wp2_with fail;refine (hBY.out _ _ hB4).mono ?_;rintro e w5 ⟨rfl,hb5⟩;go_wp2_with fail;rw [← HR.out];refine (hm2.out _).mono ?_;rintro e w6 ⟨rfl,hb6⟩;have h12:=bel_up hb1 hb2;have hbA:Below w.heap.size w w5:=bel_up (hb4 _ _ h12.size (bel_up h12 hb3)) hb5;have hbB:Below w.heap.size w w6:=bel_up hbA hb6;go_wp2;go_ret2;exact ⟨rfl,hbB⟩
end Go.Proofs.YtiochgoocbkckaaGreatDoor
