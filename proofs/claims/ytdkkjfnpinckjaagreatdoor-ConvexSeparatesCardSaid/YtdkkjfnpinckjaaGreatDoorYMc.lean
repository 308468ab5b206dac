/-
 Contracts of package integer: the sum of two magnitudes.
 Contracts of package integer: the difference of two magnitudes.
 Contracts of package integer: the product of two magnitudes.
 Contracts of package integer: a row of words divided by one word; a row shifted by less than a word.
 Contracts of package integer: a row of words shifted by less than a word.
-/
import Derived.Test.YtdkkjfnpinckjaaGreatDoorYMb
import Derived.Shelf.Spec.BitsCarry
import Derived.RegionTactic
import Derived.BigRegion
set_option maxRecDepth 100000
set_option linter.unusedSimpArgs false
set_option linter.unusedVariables false
namespace Go.Proofs.YtdkkjfnpinckjaaGreatDoor
open Go Go.RowKit Go.Shelf

def rens25:Go.Shelf.Ren:=⟨fun|25=>165 | n=>n,fun|22=>151 | n=>n,fun n=>n⟩
theorem lays25:Lays7.n25 Tryz.prog rens25 := { mixed:=by kernel_rfl,f25:=Tryz.func165.trans (congrArg some (by kernel_rfl)),t22:=Tryz.underlying151,a22:=Tryz.isAgg151,z22:=Tryz.sizeOf151,v22:=Tryz.zeroValue151,i22:=by kernel_rfl }
theorem add64_0 (x y:Nat) (w:World):(callFunc 165 #[.int .u64 (x:Int),.int .u64 (y:Int),.int .u64 0]).run Tryz.prog w =
 .ok (.value (.tuple #[.int .u64 (((x+y)%18446744073709551616:Nat):Int),.int .u64 (((x+y)/18446744073709551616:Nat):Int)])) w:=by
 refine (Any7.bits_Add64 lays25 x y 0 (by omega) w).trans ?_;simp only [Nat.add_zero]

theorem words_mg (a b:Nat) (w:World) (ha:Pl.L a≤8) (hb:Pl.L b≤8) :
 Calls Tryz.prog 159 #[.string (mg a),.string (mg b)] w fun e w'=>e=.returned (.tuple #[.int .u64 (a:Int),.int .u64 (b:Int),.bool true])∧w=w':=by
 have h:=words_small (mg a) (mg b) w (by rw [mg_size];exact ha) (by rw [mg_size];exact hb);rw [mg_data,mg_data,Pl.valL_magL,Pl.valL_magL] at h;exact h
theorem words_long (a b:Nat) (w:World) (h:8<Pl.L a∨8<Pl.L b) :
 Calls Tryz.prog 159 #[.string (mg a),.string (mg b)] w fun e w'=>(∃ x y:Int,e=.returned (.tuple #[.int .u64 x,.int .u64 y,.bool false]))∧w=w':=by
 have sa:=mg_size a;have sb:=mg_size b;rcases Nat.lt_or_ge 8 (Pl.L a) with h1|h1
 ·have H1:=Lib.hid (fun W=>word_long (mg a) W (by omega))
  rcases Nat.lt_or_ge 8 (Pl.L b) with h2|h2
  ·have H2:=Lib.hid (fun W=>word_long (mg b) W (by omega))
   clear sa sb;go_enter Tryz.func159,Tryz.ntmps159;go_wp2_with fail;refine (H1.out _).mono ?_;rintro e w1 ⟨rfl,rfl⟩;go_wp2_with fail;refine (H2.out _).mono ?_;rintro e w1 ⟨rfl,rfl⟩;go_wp2;go_ret3;exact ⟨⟨_,_,rfl⟩,rfl⟩
  ·have H2:=Lib.hid (fun W=>word_small (mg b) W (by omega))
   clear sa sb;go_enter Tryz.func159,Tryz.ntmps159;go_wp2_with fail;refine (H1.out _).mono ?_;rintro e w1 ⟨rfl,rfl⟩;go_wp2_with fail;refine (H2.out _).mono ?_;rintro e w1 ⟨rfl,rfl⟩;go_wp2;go_ret3;exact ⟨⟨_,_,rfl⟩,rfl⟩
 ·have h2:8<Pl.L b:=by omega
  have H1:=Lib.hid (fun W=>word_small (mg a) W (by omega));have H2:=Lib.hid (fun W=>word_long (mg b) W (by omega));clear sa sb;go_enter Tryz.func159,Tryz.ntmps159;go_wp2_with fail;refine (H1.out _).mono ?_;rintro e w1 ⟨rfl,rfl⟩;go_wp2_with fail;refine (H2.out _).mono ?_;rintro e w1 ⟨rfl,rfl⟩;go_wp2;go_ret3;exact ⟨⟨_,_,rfl⟩,rfl⟩

theorem add_small (a b:Nat) (w:World) (ha:Pl.L a≤8) (hb:Pl.L b≤8) (h:a+b<18446744073709551616) :
 Calls Tryz.prog 141 #[.string (mg a),.string (mg b)] w fun e w'=>e=.returned (.string (mg (a+b)))∧Below w.heap.size w w':=by
 have hA:=Lib.hid (fun W=>add64_0 a b W);have e1:=Nat.mod_eq_of_lt h;have e2:=Nat.div_eq_of_lt h;have hW:=Lib.hid (fun W=>words_mg a b W ha hb);have hM:=Lib.hid (fun W=>magnitude_any (a+b) W h);have hA':∀ W,(callFunc 165 #[.int .u64 (a:Int),.int .u64 (b:Int),.int .u64 0]).run Tryz.prog W=.ok (.value (.tuple #[.int .u64 ((a+b:Nat):Int),.int .u64 0])) W:=by intro W;rw [hA.out W,e1,e2];rfl
 clear e1 e2 hA ha hb h;generalize a+b=s at *;have HA:=Lib.hid hA';clear hA';go_enter Tryz.func141,Tryz.ntmps141;go_wp2_with (first|(go_at_call 159;refine (hW.out _).mono ?_;rintro e w1 ⟨rfl,rfl⟩)|(simp only [HA.out])|(go_at_call 136;refine (hM.out _).mono ?_;rintro e w1 ⟨rfl,hb1⟩))
 go_ret;exact ⟨rfl,hb1⟩

set_option maxHeartbeats 2000000 in
theorem add_long (a b:Nat) (w:World) (ha:Pl.L a≤67108864) (hb:Pl.L b≤67108864) (h:8<Pl.L a∨8<Pl.L b) :
 Calls Tryz.prog 141 #[.string (mg a),.string (mg b)] w fun e w'=>e=.returned (.string (mg (a+b)))∧Below w.heap.size w w':=by
 have hW:=Lib.hid (fun W=>words_long a b W h);clear h;have hDa:=Lib.hid (fun W=>digits_any a W ha);have hDb:=Lib.hid (fun W=>digits_any b W hb);have hwa:Pl.W a≤16777216:=by unfold Pl.W;omega
 have hwb:Pl.W b≤16777216:=by unfold Pl.W;omega
 rw [show (Pl.L a+3)/4=Pl.W a from rfl] at hDa;rw [show (Pl.L b+3)/4=Pl.W b from rfl] at hDb;clear ha hb
 by_cases hlt:Pl.W a<Pl.W b
 ·have hf:True:=trivial
  have hmk:=make_words ((Pl.W b:Int)+1) (Pl.W b+1) (by omega) (by omega);have HMK:=Lib.hid hmk;clear hmk;go_enter Tryz.func141,Tryz.ntmps141;go_wp2_with fail;refine (hW.out _).mono ?_;rintro e w1 ⟨⟨x,y,rfl⟩,rfl⟩;go_wp2_with fail;refine (hDa.out _).mono ?_;rintro e w1 ⟨rfl,hB1,hb1⟩;go_wp2_with fail;refine (hDb.out _).mono ?_;rintro e w2 ⟨rfl,hB2,hb2⟩;have hB1:=hB1.up hb2;have hb12:Below w.heap.size w w2:=bel_up hb1 hb2;have hmk:=HMK.out;obtain ⟨w3,hcp,hB3,hk3⟩:=copy_words (w2.alloc (.cells (u32s (Pl.dg 4294967296 (Pl.W b+1) 0)).toArray 168)) w1.heap.size w2.heap.size (Pl.W b) (Pl.W b+1) (Pl.W b) (Pl.W b+1) 3 _ _ (hB2.alloc _) (Blk.new _ _ _) (Pl.dg_length _ _ _) (Pl.dg_length _ _ _) (by omega);have hb3:Below w2.heap.size w2 w3:=hk3 _ _ (Nat.le_refl _) ((Below.refl _ _).alloc (Nat.le_refl _) _);rw [Pl.dg_pad 4294967296 b (Pl.W b) 1 (by omega) (Pl.lt_W b)] at hB3;clear hk3;have hgs:=hB1.lt;go_wp2_with fail;clear hcp hmk HMK;go_loopw [13,14,53] (fun c _ i wr=>∃ k:Nat,k≤Pl.W b+1∧i=.int .i64 k∧c=.int .u64 (Pl.carry 4294967296 b a k:Nat)∧Blk wr w2.heap.size 168 (u32s (Pl.mixD 4294967296 (Pl.W b+1) (b+a) b k))∧Below w2.heap.size w2 wr) (fun _ _ i _=>Pl.W b+1-(intOf i).toNat)
  case atStart=>exact ⟨0,Nat.zero_le _,rfl,by rw [Pl.carry_zero];rfl,by rw [Pl.mixD_zero];exact hB3,hb3⟩
  case round =>
   obtain ⟨k,hk,rfl,rfl,hC,hbC⟩:=hrel
   by_cases hkl:k<Pl.W b+1
   ·have hx:=hC.cell k
    rw [u32s_get,Pl.mixD_get _ _ _ _ _ hkl] at hx;simp only [Option.map_some] at hx;have hf:=hC.free k;have hset:=Pl.mixD_set 4294967296 (Pl.W b+1) (b+a) b k hkl;have hdig:=Pl.carry_digit 4294967296 b a k (by omega);have hcar:=Pl.carry_succ 4294967296 b a k (by omega);have hc1:=Pl.carry_le 4294967296 b a k (by omega);have hx1:b/4294967296 ^ k%4294967296<4294967296:=Nat.mod_lt _ (by omega);have hy1:a/4294967296 ^ k%4294967296<4294967296:=Nat.mod_lt _ (by omega)
    have hys:k<Pl.W a→wr.cell? ⟨w.heap.size,k,none⟩=some (.int .u32 ((a/4294967296 ^ k%4294967296:Nat):Int)):=fun h=>by
     rw [(hB1.up hbC).cell];exact u32s_dg _ _ _ h
    have hyb:Pl.W a≤k→a/4294967296 ^ k%4294967296=0:=fun h=>Pl.dig_beyond _ _ _ _ (by omega) (Pl.lt_W a) h
    generalize b/4294967296 ^ k%4294967296=X at *;generalize a/4294967296 ^ k%4294967296=Y at *;generalize Pl.carry 4294967296 b a k=C at *;have HSET:=Lib.hid hset;have HDIG:=Lib.hid hdig;have HCAR:=Lib.hid hcar;clear hset hdig hcar
    by_cases hks:k<Pl.W a
    ·have hy:=hys hks
     clear hys hyb;go_wp2;go_roundw
     case rel =>
      refine ⟨k+1,by omega,by go_num,?_,?_,hbC.setCell (Nat.le_refl _) _⟩
      ·rw [← HCAR.out];go_num
      ·rw [← HSET.out,← HDIG.out,← u32s_set];exact hC.put _ _
     case measure=>simp [intOf];omega
    ·have hy0:=hyb (by omega)
     subst hy0;clear hys hyb;have hc2:C<4294967296:=by omega
     go_wp2;go_roundw
     case rel =>
      refine ⟨k+1,by omega,by go_num,?_,?_,hbC.setCell (Nat.le_refl _) _⟩
      ·rw [← HCAR.out];go_num
      ·rw [← HSET.out,← HDIG.out,← u32s_set];exact hC.put _ _
     case measure=>simp [intOf];omega
   ·have hkk:k=Pl.W b+1:=by omega
    rw [hkk,Pl.mixD_full] at hC;have hby:=Lib.hid (fun W hB=>bytes_any w2.heap.size (Pl.W b+1) (Pl.W b+1) (Pl.dg 4294967296 (Pl.W b+1) (b+a)) W hB (by rw [Pl.dg_length];omega) (by omega) (by omega) (Pl.dg_lt (by omega)));rw [List.take_of_length_le (by rw [Pl.dg_length];omega),Pl.vB_dg,Nat.mod_eq_of_lt (Pl.sum_lt b a (by omega))] at hby;clear hkk hf hDa hDb hW;go_wp2_with (go_at_call 164;refine (hby.out _ hC).mono ?_;rintro e w4 ⟨rfl,hb4⟩)
    go_ret;exact ⟨by rw [Nat.add_comm];rfl,bel_up (bel_up hb12 hbC) hb4⟩
 ·have hf:True:=trivial
  have hmk:=make_words ((Pl.W a:Int)+1) (Pl.W a+1) (by omega) (by omega);have HMK:=Lib.hid hmk;clear hmk;go_enter Tryz.func141,Tryz.ntmps141;go_wp2_with fail;refine (hW.out _).mono ?_;rintro e w1 ⟨⟨x,y,rfl⟩,rfl⟩;go_wp2_with fail;refine (hDa.out _).mono ?_;rintro e w1 ⟨rfl,hB1,hb1⟩;go_wp2_with fail;refine (hDb.out _).mono ?_;rintro e w2 ⟨rfl,hB2,hb2⟩;have hB1:=hB1.up hb2;have hb12:Below w.heap.size w w2:=bel_up hb1 hb2;have hmk:=HMK.out;obtain ⟨w3,hcp,hB3,hk3⟩:=copy_words (w2.alloc (.cells (u32s (Pl.dg 4294967296 (Pl.W a+1) 0)).toArray 168)) w.heap.size w2.heap.size (Pl.W a) (Pl.W a+1) (Pl.W a) (Pl.W a+1) 3 _ _ (hB1.alloc _) (Blk.new _ _ _) (Pl.dg_length _ _ _) (Pl.dg_length _ _ _) (by omega);have hb3:Below w2.heap.size w2 w3:=hk3 _ _ (Nat.le_refl _) ((Below.refl _ _).alloc (Nat.le_refl _) _);rw [Pl.dg_pad 4294967296 a (Pl.W a) 1 (by omega) (Pl.lt_W a)] at hB3;clear hk3;have hgs:=hB2.lt;go_wp2_with fail;clear hcp hmk HMK;go_loopw [13,14,53] (fun c _ i wr=>∃ k:Nat,k≤Pl.W a+1∧i=.int .i64 k∧c=.int .u64 (Pl.carry 4294967296 a b k:Nat)∧Blk wr w2.heap.size 168 (u32s (Pl.mixD 4294967296 (Pl.W a+1) (a+b) a k))∧Below w2.heap.size w2 wr) (fun _ _ i _=>Pl.W a+1-(intOf i).toNat)
  case atStart=>exact ⟨0,Nat.zero_le _,rfl,by rw [Pl.carry_zero];rfl,by rw [Pl.mixD_zero];exact hB3,hb3⟩
  case round =>
   obtain ⟨k,hk,rfl,rfl,hC,hbC⟩:=hrel
   by_cases hkl:k<Pl.W a+1
   ·have hx:=hC.cell k
    rw [u32s_get,Pl.mixD_get _ _ _ _ _ hkl] at hx;simp only [Option.map_some] at hx;have hf:=hC.free k;have hset:=Pl.mixD_set 4294967296 (Pl.W a+1) (a+b) a k hkl;have hdig:=Pl.carry_digit 4294967296 a b k (by omega);have hcar:=Pl.carry_succ 4294967296 a b k (by omega);have hc1:=Pl.carry_le 4294967296 a b k (by omega);have hx1:a/4294967296 ^ k%4294967296<4294967296:=Nat.mod_lt _ (by omega);have hy1:b/4294967296 ^ k%4294967296<4294967296:=Nat.mod_lt _ (by omega)
    have hys:k<Pl.W b→wr.cell? ⟨w1.heap.size,k,none⟩=some (.int .u32 ((b/4294967296 ^ k%4294967296:Nat):Int)):=fun h=>by
     rw [(hB2.up hbC).cell];exact u32s_dg _ _ _ h
    have hyb:Pl.W b≤k→b/4294967296 ^ k%4294967296=0:=fun h=>Pl.dig_beyond _ _ _ _ (by omega) (Pl.lt_W b) h
    generalize a/4294967296 ^ k%4294967296=X at *;generalize b/4294967296 ^ k%4294967296=Y at *;generalize Pl.carry 4294967296 a b k=C at *;have HSET:=Lib.hid hset;have HDIG:=Lib.hid hdig;have HCAR:=Lib.hid hcar;clear hset hdig hcar
    by_cases hks:k<Pl.W b
    ·have hy:=hys hks
     clear hys hyb;go_wp2;go_roundw
     case rel =>
      refine ⟨k+1,by omega,by go_num,?_,?_,hbC.setCell (Nat.le_refl _) _⟩
      ·rw [← HCAR.out];go_num
      ·rw [← HSET.out,← HDIG.out,← u32s_set];exact hC.put _ _
     case measure=>simp [intOf];omega
    ·have hy0:=hyb (by omega)
     subst hy0;clear hys hyb;have hc2:C<4294967296:=by omega
     go_wp2;go_roundw
     case rel =>
      refine ⟨k+1,by omega,by go_num,?_,?_,hbC.setCell (Nat.le_refl _) _⟩
      ·rw [← HCAR.out];go_num
      ·rw [← HSET.out,← HDIG.out,← u32s_set];exact hC.put _ _
     case measure=>simp [intOf];omega
   ·have hkk:k=Pl.W a+1:=by omega
    rw [hkk,Pl.mixD_full] at hC;have hby:=Lib.hid (fun W hB=>bytes_any w2.heap.size (Pl.W a+1) (Pl.W a+1) (Pl.dg 4294967296 (Pl.W a+1) (a+b)) W hB (by rw [Pl.dg_length];omega) (by omega) (by omega) (Pl.dg_lt (by omega)));rw [List.take_of_length_le (by rw [Pl.dg_length];omega),Pl.vB_dg,Nat.mod_eq_of_lt (Pl.sum_lt a b (by omega))] at hby;clear hkk hf hDa hDb hW;go_wp2_with (go_at_call 164;refine (hby.out _ hC).mono ?_;rintro e w4 ⟨rfl,hb4⟩)
    go_ret;exact ⟨rfl,bel_up (bel_up hb12 hbC) hb4⟩

set_option maxHeartbeats 2000000 in
theorem add_over (a b:Nat) (w:World) (ha:Pl.L a≤67108864) (hb:Pl.L b≤67108864) (h1:Pl.L a≤8) (h2:Pl.L b≤8) (h:18446744073709551616≤a+b) :
 Calls Tryz.prog 141 #[.string (mg a),.string (mg b)] w fun e w'=>e=.returned (.string (mg (a+b)))∧Below w.heap.size w w':=by
 have hW:=Lib.hid (fun W=>words_mg a b W h1 h2);have k1:=word_of_L h1;have k2:=word_of_L h2;have hA:=fun W=>add64_0 a b W
 rw [show (a+b)/18446744073709551616=1 from by omega] at hA;generalize (a+b)%18446744073709551616=lo at hA;have HA:Hid (∀ W,(callFunc 165 #[.int .u64 (a:Int),.int .u64 (b:Int),.int .u64 0]).run Tryz.prog W=.ok (.value (.tuple #[.int .u64 (lo:Int),.int .u64 1])) W):=Lib.hid hA;clear hA h h1 h2 k1 k2;have hDa:=Lib.hid (fun W=>digits_any a W ha);have hDb:=Lib.hid (fun W=>digits_any b W hb);have hwa:Pl.W a≤16777216:=by unfold Pl.W;omega
 have hwb:Pl.W b≤16777216:=by unfold Pl.W;omega
 rw [show (Pl.L a+3)/4=Pl.W a from rfl] at hDa;rw [show (Pl.L b+3)/4=Pl.W b from rfl] at hDb;clear ha hb
 by_cases hlt:Pl.W a<Pl.W b
 ·have hf:True:=trivial
  have hmk:=make_words ((Pl.W b:Int)+1) (Pl.W b+1) (by omega) (by omega);have HMK:=Lib.hid hmk;clear hmk;go_enter Tryz.func141,Tryz.ntmps141;go_wp2_with (first|(go_at_call 159;refine (hW.out _).mono ?_;rintro e w1 ⟨rfl,rfl⟩)|(simp only [HA.out]))
  go_wp2_with fail;refine (hDa.out _).mono ?_;rintro e w1 ⟨rfl,hB1,hb1⟩;go_wp2_with fail;refine (hDb.out _).mono ?_;rintro e w2 ⟨rfl,hB2,hb2⟩;have hB1:=hB1.up hb2;have hb12:Below w.heap.size w w2:=bel_up hb1 hb2;have hmk:=HMK.out;obtain ⟨w3,hcp,hB3,hk3⟩:=copy_words (w2.alloc (.cells (u32s (Pl.dg 4294967296 (Pl.W b+1) 0)).toArray 168)) w1.heap.size w2.heap.size (Pl.W b) (Pl.W b+1) (Pl.W b) (Pl.W b+1) 3 _ _ (hB2.alloc _) (Blk.new _ _ _) (Pl.dg_length _ _ _) (Pl.dg_length _ _ _) (by omega);have hb3:Below w2.heap.size w2 w3:=hk3 _ _ (Nat.le_refl _) ((Below.refl _ _).alloc (Nat.le_refl _) _);rw [Pl.dg_pad 4294967296 b (Pl.W b) 1 (by omega) (Pl.lt_W b)] at hB3;clear hk3;have hgs:=hB1.lt;go_wp2_with fail;clear hcp hmk HMK;go_loopw [13,14,53] (fun c _ i wr=>∃ k:Nat,k≤Pl.W b+1∧i=.int .i64 k∧c=.int .u64 (Pl.carry 4294967296 b a k:Nat)∧Blk wr w2.heap.size 168 (u32s (Pl.mixD 4294967296 (Pl.W b+1) (b+a) b k))∧Below w2.heap.size w2 wr) (fun _ _ i _=>Pl.W b+1-(intOf i).toNat)
  case atStart=>exact ⟨0,Nat.zero_le _,rfl,by rw [Pl.carry_zero];rfl,by rw [Pl.mixD_zero];exact hB3,hb3⟩
  case round =>
   obtain ⟨k,hk,rfl,rfl,hC,hbC⟩:=hrel
   by_cases hkl:k<Pl.W b+1
   ·have hx:=hC.cell k
    rw [u32s_get,Pl.mixD_get _ _ _ _ _ hkl] at hx;simp only [Option.map_some] at hx;have hf:=hC.free k;have hset:=Pl.mixD_set 4294967296 (Pl.W b+1) (b+a) b k hkl;have hdig:=Pl.carry_digit 4294967296 b a k (by omega);have hcar:=Pl.carry_succ 4294967296 b a k (by omega);have hc1:=Pl.carry_le 4294967296 b a k (by omega);have hx1:b/4294967296 ^ k%4294967296<4294967296:=Nat.mod_lt _ (by omega);have hy1:a/4294967296 ^ k%4294967296<4294967296:=Nat.mod_lt _ (by omega)
    have hys:k<Pl.W a→wr.cell? ⟨w.heap.size,k,none⟩=some (.int .u32 ((a/4294967296 ^ k%4294967296:Nat):Int)):=fun h=>by
     rw [(hB1.up hbC).cell];exact u32s_dg _ _ _ h
    have hyb:Pl.W a≤k→a/4294967296 ^ k%4294967296=0:=fun h=>Pl.dig_beyond _ _ _ _ (by omega) (Pl.lt_W a) h
    generalize b/4294967296 ^ k%4294967296=X at *;generalize a/4294967296 ^ k%4294967296=Y at *;generalize Pl.carry 4294967296 b a k=C at *;have HSET:=Lib.hid hset;have HDIG:=Lib.hid hdig;have HCAR:=Lib.hid hcar;clear hset hdig hcar
    by_cases hks:k<Pl.W a
    ·have hy:=hys hks
     clear hys hyb;go_wp2;go_roundw
     case rel =>
      refine ⟨k+1,by omega,by go_num,?_,?_,hbC.setCell (Nat.le_refl _) _⟩
      ·rw [← HCAR.out];go_num
      ·rw [← HSET.out,← HDIG.out,← u32s_set];exact hC.put _ _
     case measure=>simp [intOf];omega
    ·have hy0:=hyb (by omega)
     subst hy0;clear hys hyb;have hc2:C<4294967296:=by omega
     go_wp2;go_roundw
     case rel =>
      refine ⟨k+1,by omega,by go_num,?_,?_,hbC.setCell (Nat.le_refl _) _⟩
      ·rw [← HCAR.out];go_num
      ·rw [← HSET.out,← HDIG.out,← u32s_set];exact hC.put _ _
     case measure=>simp [intOf];omega
   ·have hkk:k=Pl.W b+1:=by omega
    rw [hkk,Pl.mixD_full] at hC;have hby:=Lib.hid (fun W hB=>bytes_any w2.heap.size (Pl.W b+1) (Pl.W b+1) (Pl.dg 4294967296 (Pl.W b+1) (b+a)) W hB (by rw [Pl.dg_length];omega) (by omega) (by omega) (Pl.dg_lt (by omega)));rw [List.take_of_length_le (by rw [Pl.dg_length];omega),Pl.vB_dg,Nat.mod_eq_of_lt (Pl.sum_lt b a (by omega))] at hby;clear hkk hf hDa hDb hW;go_wp2_with (go_at_call 164;refine (hby.out _ hC).mono ?_;rintro e w4 ⟨rfl,hb4⟩)
    go_ret;exact ⟨by rw [Nat.add_comm];rfl,bel_up (bel_up hb12 hbC) hb4⟩
 ·have hf:True:=trivial
  have hmk:=make_words ((Pl.W a:Int)+1) (Pl.W a+1) (by omega) (by omega);have HMK:=Lib.hid hmk;clear hmk;go_enter Tryz.func141,Tryz.ntmps141;go_wp2_with (first|(go_at_call 159;refine (hW.out _).mono ?_;rintro e w1 ⟨rfl,rfl⟩)|(simp only [HA.out]))
  go_wp2_with fail;refine (hDa.out _).mono ?_;rintro e w1 ⟨rfl,hB1,hb1⟩;go_wp2_with fail;refine (hDb.out _).mono ?_;rintro e w2 ⟨rfl,hB2,hb2⟩;have hB1:=hB1.up hb2;have hb12:Below w.heap.size w w2:=bel_up hb1 hb2;have hmk:=HMK.out;obtain ⟨w3,hcp,hB3,hk3⟩:=copy_words (w2.alloc (.cells (u32s (Pl.dg 4294967296 (Pl.W a+1) 0)).toArray 168)) w.heap.size w2.heap.size (Pl.W a) (Pl.W a+1) (Pl.W a) (Pl.W a+1) 3 _ _ (hB1.alloc _) (Blk.new _ _ _) (Pl.dg_length _ _ _) (Pl.dg_length _ _ _) (by omega);have hb3:Below w2.heap.size w2 w3:=hk3 _ _ (Nat.le_refl _) ((Below.refl _ _).alloc (Nat.le_refl _) _);rw [Pl.dg_pad 4294967296 a (Pl.W a) 1 (by omega) (Pl.lt_W a)] at hB3;clear hk3;have hgs:=hB2.lt;go_wp2_with fail;clear hcp hmk HMK;go_loopw [13,14,53] (fun c _ i wr=>∃ k:Nat,k≤Pl.W a+1∧i=.int .i64 k∧c=.int .u64 (Pl.carry 4294967296 a b k:Nat)∧Blk wr w2.heap.size 168 (u32s (Pl.mixD 4294967296 (Pl.W a+1) (a+b) a k))∧Below w2.heap.size w2 wr) (fun _ _ i _=>Pl.W a+1-(intOf i).toNat)
  case atStart=>exact ⟨0,Nat.zero_le _,rfl,by rw [Pl.carry_zero];rfl,by rw [Pl.mixD_zero];exact hB3,hb3⟩
  case round =>
   obtain ⟨k,hk,rfl,rfl,hC,hbC⟩:=hrel
   by_cases hkl:k<Pl.W a+1
   ·have hx:=hC.cell k
    rw [u32s_get,Pl.mixD_get _ _ _ _ _ hkl] at hx;simp only [Option.map_some] at hx;have hf:=hC.free k;have hset:=Pl.mixD_set 4294967296 (Pl.W a+1) (a+b) a k hkl;have hdig:=Pl.carry_digit 4294967296 a b k (by omega);have hcar:=Pl.carry_succ 4294967296 a b k (by omega);have hc1:=Pl.carry_le 4294967296 a b k (by omega);have hx1:a/4294967296 ^ k%4294967296<4294967296:=Nat.mod_lt _ (by omega);have hy1:b/4294967296 ^ k%4294967296<4294967296:=Nat.mod_lt _ (by omega)
    have hys:k<Pl.W b→wr.cell? ⟨w1.heap.size,k,none⟩=some (.int .u32 ((b/4294967296 ^ k%4294967296:Nat):Int)):=fun h=>by
     rw [(hB2.up hbC).cell];exact u32s_dg _ _ _ h
    have hyb:Pl.W b≤k→b/4294967296 ^ k%4294967296=0:=fun h=>Pl.dig_beyond _ _ _ _ (by omega) (Pl.lt_W b) h
    generalize a/4294967296 ^ k%4294967296=X at *;generalize b/4294967296 ^ k%4294967296=Y at *;generalize Pl.carry 4294967296 a b k=C at *;have HSET:=Lib.hid hset;have HDIG:=Lib.hid hdig;have HCAR:=Lib.hid hcar;clear hset hdig hcar
    by_cases hks:k<Pl.W b
    ·have hy:=hys hks
     clear hys hyb;go_wp2;go_roundw
     case rel =>
      refine ⟨k+1,by omega,by go_num,?_,?_,hbC.setCell (Nat.le_refl _) _⟩
      ·rw [← HCAR.out];go_num
      ·rw [← HSET.out,← HDIG.out,← u32s_set];exact hC.put _ _
     case measure=>simp [intOf];omega
    ·have hy0:=hyb (by omega)
     subst hy0;clear hys hyb;have hc2:C<4294967296:=by omega
     go_wp2;go_roundw
     case rel =>
      refine ⟨k+1,by omega,by go_num,?_,?_,hbC.setCell (Nat.le_refl _) _⟩
      ·rw [← HCAR.out];go_num
      ·rw [← HSET.out,← HDIG.out,← u32s_set];exact hC.put _ _
     case measure=>simp [intOf];omega
   ·have hkk:k=Pl.W a+1:=by omega
    rw [hkk,Pl.mixD_full] at hC;have hby:=Lib.hid (fun W hB=>bytes_any w2.heap.size (Pl.W a+1) (Pl.W a+1) (Pl.dg 4294967296 (Pl.W a+1) (a+b)) W hB (by rw [Pl.dg_length];omega) (by omega) (by omega) (Pl.dg_lt (by omega)));rw [List.take_of_length_le (by rw [Pl.dg_length];omega),Pl.vB_dg,Nat.mod_eq_of_lt (Pl.sum_lt a b (by omega))] at hby;clear hkk hf hDa hDb hW;go_wp2_with (go_at_call 164;refine (hby.out _ hC).mono ?_;rintro e w4 ⟨rfl,hb4⟩)
    go_ret;exact ⟨rfl,bel_up (bel_up hb12 hbC) hb4⟩

theorem add_any (a b:Nat) (w:World) (ha:Pl.L a≤67108864) (hb:Pl.L b≤67108864) :
 Calls Tryz.prog 141 #[.string (mg a),.string (mg b)] w fun e w'=>e=.returned (.string (mg (a+b)))∧Below w.heap.size w w':=by
 rcases Nat.lt_or_ge 8 (Pl.L a) with h1|h1
 ·exact add_long a b w ha hb (.inl h1)
 rcases Nat.lt_or_ge 8 (Pl.L b) with h2|h2
 ·exact add_long a b w ha hb (.inr h2)
 rcases Nat.lt_or_ge (a+b) 18446744073709551616 with h|h
 ·exact add_small a b w h1 h2 h
 ·exact add_over a b w ha hb h1 h2 h
end Go.Proofs.YtdkkjfnpinckjaaGreatDoor

namespace Go.Proofs.YtdkkjfnpinckjaaGreatDoor
open Go Go.RowKit Go.Shelf

theorem sub_small (a b:Nat) (w:World) (ha:Pl.L a≤8) (hab:b≤a) :
 Calls Tryz.prog 142 #[.string (mg a),.string (mg b)] w fun e w'=>e=.returned (.string (mg (a-b)))∧Below w.heap.size w w':=by
 have h:=word_of_L ha;have hb:Pl.L b≤8:=Nat.le_trans (Pl.L_mono hab) ha;have hW:=Lib.hid (fun W=>words_mg a b W ha hb);have hM:=Lib.hid (fun W=>magnitude_any (a-b) W (by omega));have e:(a:Int)-b=((a-b:Nat):Int):=by omega
 clear ha hb;go_enter Tryz.func142,Tryz.ntmps142;go_wp2_with (first|(go_at_call 159;refine (hW.out _).mono ?_;rintro e w1 ⟨rfl,rfl⟩)|(go_at_call 136;refine (hM.out _).mono ?_;rintro e w1 ⟨rfl,hb1⟩))
 go_ret;exact ⟨rfl,hb1⟩

set_option maxHeartbeats 2000000 in
theorem sub_long (a b:Nat) (w:World) (ha:Pl.L a≤67108864) (hab:b≤a) (h:8<Pl.L a) :
 Calls Tryz.prog 142 #[.string (mg a),.string (mg b)] w fun e w'=>e=.returned (.string (mg (a-b)))∧Below w.heap.size w w':=by
 have hb:Pl.L b≤67108864:=Nat.le_trans (Pl.L_mono hab) ha;have hwba:Pl.W b≤Pl.W a:=Pl.W_mono hab;have hW:=Lib.hid (fun W=>words_long a b W (.inl h));have hDa:=Lib.hid (fun W=>digits_any a W ha);have hDb:=Lib.hid (fun W=>digits_any b W hb);have hwa:Pl.W a≤16777216:=by unfold Pl.W;omega
 rw [show (Pl.L a+3)/4=Pl.W a from rfl] at hDa;rw [show (Pl.L b+3)/4=Pl.W b from rfl] at hDb;have HAB:=Lib.hid hab;clear ha hb h hab;have hmk:=make_words (Pl.W a:Int) (Pl.W a) (by omega) (by omega);have HMK:=Lib.hid hmk;clear hmk;go_enter Tryz.func142,Tryz.ntmps142;go_wp2_with fail;refine (hW.out _).mono ?_;rintro e w1 ⟨⟨x,y,rfl⟩,rfl⟩;go_wp2_with fail;refine (hDa.out _).mono ?_;rintro e w1 ⟨rfl,hB1,hb1⟩;go_wp2_with fail;refine (hDb.out _).mono ?_;rintro e w2 ⟨rfl,hB2,hb2⟩;have hB1:=hB1.up hb2;have hb12:Below w.heap.size w w2:=bel_up hb1 hb2;have hmk:=HMK.out;obtain ⟨w3,hcp,hB3,hk3⟩:=copy_words (w2.alloc (.cells (u32s (Pl.dg 4294967296 (Pl.W a) 0)).toArray 168)) w.heap.size w2.heap.size (Pl.W a) (Pl.W a) (Pl.W a) (Pl.W a) 3 _ _ (hB1.alloc _) (Blk.new _ _ _) (Pl.dg_length _ _ _) (Pl.dg_length _ _ _) (by omega);have hb3:Below w2.heap.size w2 w3:=hk3 _ _ (Nat.le_refl _) ((Below.refl _ _).alloc (Nat.le_refl _) _);rw [List.drop_of_length_le (by rw [Pl.dg_length];omega),List.append_nil] at hB3;clear hk3;have hgs:=hB2.lt;go_wp2_with fail;clear hcp hmk HMK;go_loopw [11,12,13,38] (fun c _ _ i wr=>∃ k:Nat,k≤Pl.W a∧i=.int .i64 k∧c=.int .i64 (Pl.carry 4294967296 (a-b) b k:Nat)∧Blk wr w2.heap.size 168 (u32s (Pl.mixD 4294967296 (Pl.W a) (a-b) a k))∧Below w2.heap.size w2 wr) (fun _ _ _ i _=>Pl.W a-(intOf i).toNat)
 case atStart=>exact ⟨0,Nat.zero_le _,rfl,by rw [Pl.carry_zero];rfl,by rw [Pl.mixD_zero];exact hB3,hb3⟩
 case round =>
  obtain ⟨k,hk,rfl,rfl,hC,hbC⟩:=hrel
  by_cases hkl:k<Pl.W a
  ·have hx:=hC.cell k
   rw [u32s_get,Pl.mixD_get _ _ _ _ _ hkl] at hx;simp only [Option.map_some] at hx;have hf:=hC.free k;have hset:=Pl.mixD_set 4294967296 (Pl.W a) (a-b) a k hkl;have hstep:=Pl.borrow_step 4294967296 a b k (by omega) HAB.out;have hc1:=Pl.carry_le 4294967296 (a-b) b k (by omega);have hx1:a/4294967296 ^ k%4294967296<4294967296:=Nat.mod_lt _ (by omega);have hy1:b/4294967296 ^ k%4294967296<4294967296:=Nat.mod_lt _ (by omega)
   have hys:k<Pl.W b→wr.cell? ⟨w1.heap.size,k,none⟩=some (.int .u32 ((b/4294967296 ^ k%4294967296:Nat):Int)):=fun h=>by
    rw [(hB2.up hbC).cell];exact u32s_dg _ _ _ h
   have hyb:Pl.W b≤k→b/4294967296 ^ k%4294967296=0:=fun h=>Pl.dig_beyond _ _ _ _ (by omega) (Pl.lt_W b) h
   have hz1:(a-b)/4294967296 ^ k%4294967296<4294967296:=Nat.mod_lt _ (by omega);generalize a/4294967296 ^ k%4294967296=X at *;generalize b/4294967296 ^ k%4294967296=Y at *;generalize hZ:(a-b)/4294967296 ^ k%4294967296=Z at *;generalize Pl.carry 4294967296 (a-b) b k=C at *;obtain ⟨hs1,hs2⟩:=hstep _ rfl;have HSET:=Lib.hid hset;have H1:=Lib.hid hs1;have H2:=Lib.hid hs2;clear hset hs1 hs2 hstep hZ
   by_cases hks:k<Pl.W b
   ·have hy:=hys hks
    clear hys hyb
    by_cases hneg:(X:Int)-C-Y<0
    ·obtain ⟨e1,e2⟩:=H1.out hneg
     have E1:=Lib.hid e1;have E2:=Lib.hid e2;clear e1 e2 H1 H2;go_wp2;go_roundw
     case rel =>
      refine ⟨k+1,by omega,by go_num,by rw [E2.out];rfl,?_,hbC.setCell (Nat.le_refl _) _⟩;rw [← HSET.out,← u32s_set,← E1.out];exact hC.put _ _
     case measure=>simp [intOf];omega
    ·obtain ⟨e1,e2⟩:=H2.out (by omega)
     have E1:=Lib.hid e1;have E2:=Lib.hid e2;clear e1 e2 H1 H2;go_wp2;go_roundw
     case rel =>
      refine ⟨k+1,by omega,by go_num,by rw [E2.out];rfl,?_,hbC.setCell (Nat.le_refl _) _⟩;rw [← HSET.out,← u32s_set,← E1.out];exact hC.put _ _
     case measure=>simp [intOf];omega
   ·have hy0:=hyb (by omega)
    subst hy0;clear hys hyb
    by_cases hneg:(X:Int)-C<0
    ·obtain ⟨e1,e2⟩:=H1.out (by omega)
     have E1:Hid ((X:Int)-C+4294967296=Z):=Lib.hid (by omega);have E2:=Lib.hid e2;clear e1 e2 H1 H2;go_wp2;go_roundw
     case rel =>
      refine ⟨k+1,by omega,by go_num,by rw [E2.out];rfl,?_,hbC.setCell (Nat.le_refl _) _⟩;rw [← HSET.out,← u32s_set,← E1.out];exact hC.put _ _
     case measure=>simp [intOf];omega
    ·obtain ⟨e1,e2⟩:=H2.out (by omega)
     have E1:Hid ((X:Int)-C=Z):=Lib.hid (by omega);have E2:=Lib.hid e2;clear e1 e2 H1 H2;go_wp2;go_roundw
     case rel =>
      refine ⟨k+1,by omega,by go_num,by rw [E2.out];rfl,?_,hbC.setCell (Nat.le_refl _) _⟩;rw [← HSET.out,← u32s_set,← E1.out];exact hC.put _ _
     case measure=>simp [intOf];omega
  ·have hkk:k=Pl.W a:=by omega
   rw [hkk,Pl.mixD_full] at hC;have hby:=Lib.hid (fun W hB=>bytes_any w2.heap.size (Pl.W a) (Pl.W a) (Pl.dg 4294967296 (Pl.W a) (a-b)) W hB (by rw [Pl.dg_length];omega) (by omega) (by omega) (Pl.dg_lt (by omega)));rw [List.take_of_length_le (by rw [Pl.dg_length];omega),Pl.vB_dg,Nat.mod_eq_of_lt (Nat.lt_of_le_of_lt (Nat.sub_le a b) (Pl.lt_W a))] at hby;clear hkk hDa hDb hW;go_wp2_with (go_at_call 164;refine (hby.out _ hC).mono ?_;rintro e w4 ⟨rfl,hb4⟩)
   go_ret;exact ⟨rfl,bel_up (bel_up hb12 hbC) hb4⟩
theorem sub_any (a b:Nat) (w:World) (ha:Pl.L a≤67108864) (hab:b≤a) :
 Calls Tryz.prog 142 #[.string (mg a),.string (mg b)] w fun e w'=>e=.returned (.string (mg (a-b)))∧Below w.heap.size w w':=by
 rcases Nat.lt_or_ge 8 (Pl.L a) with h|h
 ·exact sub_long a b w ha hab h
 ·exact sub_small a b w h hab
end Go.Proofs.YtdkkjfnpinckjaaGreatDoor

namespace Go.Proofs.YtdkkjfnpinckjaaGreatDoor
open Go Go.RowKit Go.Shelf

theorem mul64_any (a b:Nat) (w:World) (ha:a<18446744073709551616) (hb:b<18446744073709551616):Calls Tryz.prog 162 #[.int .u64 a,.int .u64 b] w fun e w' =>
 e=.returned (.tuple #[.int .u64 ((a*b/18446744073709551616:Nat):Int),.int .u64 ((a*b%18446744073709551616:Nat):Int)])∧w=w' :=
 (Tryz.bits_Mul64 a b ha hb w).mono fun _ _ ⟨h,k⟩=>⟨h,k.symm⟩

theorem mul_small (a b:Nat) (w:World) (ha:Pl.L a≤8) (hb:Pl.L b≤8) (h:a*b<18446744073709551616) :
 Calls Tryz.prog 140 #[.string (mg a),.string (mg b)] w fun e w'=>e=.returned (.string (mg (a*b)))∧Below w.heap.size w w':=by
 have hW:=Lib.hid (fun W=>words_mg a b W ha hb);have hM:=Lib.hid (fun W=>magnitude_any (a*b) W h);have hX:=fun W=>mul64_any a b W (word_of_L ha) (word_of_L hb)
 rw [Nat.mod_eq_of_lt h,Nat.div_eq_of_lt h] at hX;have HX:=Lib.hid hX;clear hX ha hb h;generalize a*b=p at *;go_enter Tryz.func140,Tryz.ntmps140;go_wp2_with (first|(go_at_call 159;refine (hW.out _).mono ?_;rintro e w1 ⟨rfl,rfl⟩)|(go_at_call 162;refine (HX.out _).mono ?_;rintro e w1 ⟨rfl,rfl⟩)|(go_at_call 136;refine (hM.out _).mono ?_;rintro e w1 ⟨rfl,hb1⟩))
 go_ret;exact ⟨rfl,hb1⟩

-- THE LONG ONE
set_option maxHeartbeats 4000000 in
theorem mul_long (a b:Nat) (w:World) (ha:Pl.L a≤67108864) (hb:Pl.L b≤67108864) (h:8<Pl.L a∨8<Pl.L b) :
 Calls Tryz.prog 140 #[.string (mg a),.string (mg b)] w fun e w'=>e=.returned (.string (mg (a*b)))∧Below w.heap.size w w':=by
 have hW:=Lib.hid (fun W=>words_long a b W h);clear h;have hDa:=Lib.hid (fun W=>digits_any a W ha);have hDb:=Lib.hid (fun W=>digits_any b W hb);have hwa:Pl.W a≤16777216:=by unfold Pl.W;omega
 have hwb:Pl.W b≤16777216:=by unfold Pl.W;omega
 rw [show (Pl.L a+3)/4=Pl.W a from rfl] at hDa;rw [show (Pl.L b+3)/4=Pl.W b from rfl] at hDb;clear ha hb;have hla:=Lib.hid (Pl.lt_W a);have hlb:=Lib.hid (Pl.lt_W b);generalize Pl.W a=n at *;generalize Pl.W b=m at *;have hmk:=make_words ((n:Int)+m+1) (n+m+1) (by omega) (by omega);have HMK:=Lib.hid hmk;clear hmk;go_enter Tryz.func140,Tryz.ntmps140;go_wp2_with fail;refine (hW.out _).mono ?_;rintro e w1 ⟨⟨x,y,rfl⟩,rfl⟩;go_wp2_with fail;refine (hDa.out _).mono ?_;rintro e w1 ⟨rfl,hB1,hb1⟩;go_wp2_with fail;refine (hDb.out _).mono ?_;rintro e w2 ⟨rfl,hB2,hb2⟩;have hB1:=hB1.up hb2;have hb12:Below w.heap.size w w2:=bel_up hb1 hb2;have hmk:=HMK.out;have hg1:=hB1.lt;have hg2:=hB2.lt;go_wp2_with fail;clear hmk HMK;go_loopw [13,14,15,16,48,55] (fun _ _ _ _ i _ wr=>∃ k:Nat,k≤n∧i=.int .i64 k∧Blk wr w2.heap.size 168 (u32s (Pl.dg 4294967296 (n+m+1) ((a%4294967296 ^ k)*b)))∧Below w2.heap.size w2 wr) (fun _ _ _ _ i _ _=>n-(intOf i).toNat)
 case atStart=>exact ⟨0,Nat.zero_le _,rfl,by rw [Nat.pow_zero,Nat.mod_one,Nat.zero_mul];exact Blk.new _ _ _,(by repeat (first|with_reducible exact Below.refl _ _|refine Below.drew ?_|refine Below.alloc ?_ (by first|(simp;done)|(simp;omega)|omega) _|refine Below.setCell ?_ (by first|(simp;done)|(simp;omega)|omega) _))⟩
 case round =>
  obtain ⟨i,hi,rfl,hC,hbC⟩:=hrel
  by_cases hil:i<n
  ·have hx:=(hB1.up hbC).cell i
   rw [u32s_dg _ _ _ hil] at hx;have hP:(a%4294967296 ^ i)*b<4294967296 ^ (i+m):=Pl.mul_lt_pow (Nat.mod_lt _ (Nat.pow_pos (by omega))) hlb.out;have hT:=Pl.mul_round 4294967296 a b i;have hd1:a/4294967296 ^ i%4294967296<4294967296:=Nat.mod_lt _ (by omega);have hTl:(a%4294967296 ^ (i+1))*b<4294967296 ^ (i+1+m):=Pl.mul_lt_pow (Nat.mod_lt _ (Nat.pow_pos (by omega))) hlb.out;generalize a/4294967296 ^ i%4294967296=d at *;generalize (a%4294967296 ^ i)*b=P at *;rw [← hT] at hTl;have HT:=Lib.hid hT;have HP:=Lib.hid hP;have HTL:=Lib.hid hTl;clear hT hP hTl;go_wp2_with fail;obtain ⟨wo,rfl⟩:∃ wo:World,wo=wr:=⟨_,rfl⟩
   go_loopw [15,16,55] (fun c _ j wr=>∃ k:Nat,k≤m∧j=.int .i64 k∧c=.int .u64 (Pl.mcarry 4294967296 (P/4294967296 ^ i) d b k:Nat)∧Blk wr w2.heap.size 168 (u32s (Pl.mixD 4294967296 (n+m+1) (P+4294967296 ^ i*(d*b)) P (i+k)))∧Below w2.heap.size w2 wr) (fun _ _ j _=>m-(intOf j).toNat)
   case atStart=>exact ⟨0,Nat.zero_le _,rfl,by rw [Pl.mcarry_zero];rfl,by have e:=Pl.mixD_start 4294967296 (n+m+1) i P (d*b) (by omega) (by omega);exact (by rw [e];exact hC:Blk wo w2.heap.size 168 (u32s (Pl.mixD 4294967296 (n+m+1) (P+4294967296 ^ i*(d*b)) P i))),hbC⟩
   case round =>
    obtain ⟨k,hk,rfl,rfl,hC2,hbC2⟩:=hrel
    by_cases hkl:k<m
    ·have hx2:=hC2.cell (i+k)
     rw [u32s_get,Pl.mixD_get _ _ _ _ _ (by omega)] at hx2;simp only [Option.map_some] at hx2;have hf:=hC2.free (i+k);have hy:=(hB2.up hbC2).cell k;rw [u32s_dg _ _ _ hkl] at hy;have hset:=Pl.mixD_set 4294967296 (n+m+1) (P+4294967296 ^ i*(d*b)) P (i+k) (by omega);rw [Pl.shift_digit 4294967296 P (d*b) i k (by omega),← Pl.mcarry_digit 4294967296 (P/4294967296 ^ i) d b k (by omega)] at hset;have hcar:=Pl.mcarry_succ 4294967296 (P/4294967296 ^ i) d b k (by omega);have hc1:=Pl.mcarry_le 4294967296 (P/4294967296 ^ i) d b k (by omega);rw [Nat.div_div_eq_div_mul,← Nat.pow_add] at hset hcar;have hx1:P/4294967296 ^ (i+k)%4294967296<4294967296:=Nat.mod_lt _ (by omega);have hy1:b/4294967296 ^ k%4294967296<4294967296:=Nat.mod_lt _ (by omega);generalize P/4294967296 ^ (i+k)%4294967296=X at *;generalize b/4294967296 ^ k%4294967296=Y at *;generalize Pl.mcarry 4294967296 (P/4294967296 ^ i) d b k=C at *;have HSET:=Lib.hid hset;have HCAR:=Lib.hid hcar;clear hset hcar;have hdy:d*Y≤4294967295*4294967295:=Nat.mul_le_mul (by omega) (by omega);have hcast:(d:Int)*Y=((d*Y:Nat):Int):=by rw [Int.natCast_mul]
     have w1':IntKind.u64.wrap ((d:Int)*Y)=((d*Y:Nat):Int):=by rw [hcast];exact IntWalk.u64_in _ ⟨by omega,by omega⟩
     have w2':IntKind.u64.wrap ((X:Int)+((d*Y:Nat):Int))=((X+d*Y:Nat):Int):=by rw [IntWalk.u64_in _ ⟨by omega,by omega⟩];omega
     have w3':IntKind.u64.wrap ((C:Int)+((X+d*Y:Nat):Int))=((C+X+d*Y:Nat):Int):=by rw [IntWalk.u64_in _ ⟨by omega,by omega⟩];omega
     clear hcast;have k0:(0:Int)≤(i:Int)+k:=by omega
     have k1:(i:Int)+k<((n+m+1:Nat):Int):=by omega
     have k2:(k:Int)<(m:Int):=by omega
     go_wp2_with fail;have dx2:=Bel.cell hx2;have dy:=Bel.cell hy;refine wp_region_all (by kernel_rfl) (by kernel_rfl) ?_;repeat (go_big_quiet_step (fail))
     refine wpQuiet_nil ?_;intro w3 hb3;have hx3:=Bel.cell hx2 ⟨w3,hb3⟩;have hf3:=(hC2.up hb3).free (i+k);simp only at hx3;clear dx2 dy hx2 hy hf hx w1' w2' w3';have hv1:((C:Int)+((X:Int)+(d:Int)*(Y:Int)))%4294967296=(((C+X+d*Y)%4294967296:Nat):Int):=by rw [← Int.natCast_mul];omega
     have hv2:((C:Int)+((X:Int)+(d:Int)*(Y:Int)))/4294967296=(((C+X+d*Y)/4294967296:Nat):Int):=by rw [← Int.natCast_mul];omega
     have HV1:=Lib.hid hv1;have HV2:=Lib.hid hv2;clear hv1 hv2;go_wp2;go_roundw
     case rel =>
      refine ⟨k+1,by omega,by go_num,by rw [HV2.out,← HCAR.out],?_,(bel_up hbC2 hb3).setCell (Nat.le_refl _) _⟩;rw [HV1.out,← Nat.add_assoc,← HSET.out,← u32s_set];exact (hC2.up hb3).put _ _
     case measure=>simp [intOf];omega
    ·have hkm:k=m:=by omega
     have hlast:=Pl.mcarry_last 4294967296 (P/4294967296 ^ i) d b m (by rw [Nat.div_lt_iff_lt_mul (Nat.pow_pos (by omega)),← Nat.pow_add,Nat.add_comm m i];exact HP.out) hlb.out (by omega) hd1;rw [← Pl.shift_digit 4294967296 P (d*b) i m (by omega)] at hlast;have hset:=Pl.mixD_set 4294967296 (n+m+1) (P+4294967296 ^ i*(d*b)) P (i+m) (by omega);rw [← hlast,Pl.mixD_end 4294967296 (n+m+1) (i+m+1) _ _ (by omega) (by omega) (by have:=HTL.out;rwa [show i+1+m=i+m+1 from by omega] at this) (Nat.lt_of_lt_of_le HP.out (Nat.pow_le_pow_right (by omega) (by omega)))] at hset;have hc1:=Pl.mcarry_le 4294967296 (P/4294967296 ^ i) d b m (by omega);rw [hkm] at hC2;have hkC:Pl.mcarry 4294967296 (P/4294967296 ^ i) d b k=Pl.mcarry 4294967296 (P/4294967296 ^ i) d b m:=by rw [hkm]
     rw [hkC];generalize Pl.mcarry 4294967296 (P/4294967296 ^ i) d b m=C at *;have hx2:=hC2.cell (i+m);rw [u32s_get,Pl.mixD_get _ _ _ _ _ (by omega)] at hx2;simp only [Option.map_some] at hx2;have hf:=hC2.free (i+m);have HSET:=Lib.hid hset;clear hset hlast hkC hkm hx;generalize P/4294967296 ^ (i+m)%4294967296=X at *;have k0:(0:Int)≤(i:Int)+m:=by omega
     have k1:(i:Int)+m<((n+m+1:Nat):Int):=by omega
     go_wp2;go_roundw
     case rel =>
      refine ⟨i+1,by omega,by go_num,?_,hbC2.setCell (Nat.le_refl _) _⟩;rw [← HT.out,← HSET.out,← u32s_set];exact hC2.put _ _
     case measure=>simp [intOf];omega
  ·have hin:i=n:=by omega
   rw [hin,Nat.mod_eq_of_lt hla.out] at hC;have hby:=Lib.hid (fun W hB=>bytes_any w2.heap.size (n+m+1) (n+m+1) (Pl.dg 4294967296 (n+m+1) (a*b)) W hB (by rw [Pl.dg_length];omega) (by omega) (by omega) (Pl.dg_lt (by omega)));rw [List.take_of_length_le (by rw [Pl.dg_length];omega),Pl.vB_dg,Nat.mod_eq_of_lt (Nat.lt_of_lt_of_le (Pl.mul_lt_pow hla.out hlb.out) (Nat.pow_le_pow_right (by omega) (by omega)))] at hby;clear hin hDa hDb;go_wp2_with (go_at_call 164;refine (hby.out _ hC).mono ?_;rintro e w4 ⟨rfl,hb4⟩)
   go_ret;exact ⟨rfl,bel_up (bel_up hb12 hbC) hb4⟩

set_option maxHeartbeats 4000000 in
theorem mul_over (a b:Nat) (w:World) (ha:Pl.L a≤67108864) (hb:Pl.L b≤67108864) (h1:Pl.L a≤8) (h2:Pl.L b≤8) (h:18446744073709551616≤a*b) :
 Calls Tryz.prog 140 #[.string (mg a),.string (mg b)] w fun e w'=>e=.returned (.string (mg (a*b)))∧Below w.heap.size w w':=by
 have hW:=Lib.hid (fun W=>words_mg a b W h1 h2);have hX:=fun W=>mul64_any a b W (word_of_L h1) (word_of_L h2)
 have hh:((a*b/18446744073709551616:Nat):Int)≠0:=by have:0<a*b/18446744073709551616:=Nat.div_pos h (by omega);omega
 generalize a*b/18446744073709551616=hi at hX hh;generalize a*b%18446744073709551616=lo at hX;have HX:=Lib.hid hX;clear hX h h1 h2;have hDa:=Lib.hid (fun W=>digits_any a W ha);have hDb:=Lib.hid (fun W=>digits_any b W hb);have hwa:Pl.W a≤16777216:=by unfold Pl.W;omega
 have hwb:Pl.W b≤16777216:=by unfold Pl.W;omega
 rw [show (Pl.L a+3)/4=Pl.W a from rfl] at hDa;rw [show (Pl.L b+3)/4=Pl.W b from rfl] at hDb;clear ha hb;have hla:=Lib.hid (Pl.lt_W a);have hlb:=Lib.hid (Pl.lt_W b);generalize Pl.W a=n at *;generalize Pl.W b=m at *;have hmk:=make_words ((n:Int)+m+1) (n+m+1) (by omega) (by omega);have HMK:=Lib.hid hmk;clear hmk;go_enter Tryz.func140,Tryz.ntmps140;go_wp2_with fail;refine (hW.out _).mono ?_;rintro e w1 ⟨rfl,rfl⟩;go_wp2_with fail;refine (HX.out _).mono ?_;rintro e w1 ⟨rfl,rfl⟩;go_wp2_with fail;refine (hDa.out _).mono ?_;rintro e w1 ⟨rfl,hB1,hb1⟩;go_wp2_with fail;refine (hDb.out _).mono ?_;rintro e w2 ⟨rfl,hB2,hb2⟩;have hB1:=hB1.up hb2;have hb12:Below w.heap.size w w2:=bel_up hb1 hb2;have hmk:=HMK.out;have hg1:=hB1.lt;have hg2:=hB2.lt;go_wp2_with fail;clear hmk HMK;go_loopw [13,14,15,16,48,55] (fun _ _ _ _ i _ wr=>∃ k:Nat,k≤n∧i=.int .i64 k∧Blk wr w2.heap.size 168 (u32s (Pl.dg 4294967296 (n+m+1) ((a%4294967296 ^ k)*b)))∧Below w2.heap.size w2 wr) (fun _ _ _ _ i _ _=>n-(intOf i).toNat)
 case atStart=>exact ⟨0,Nat.zero_le _,rfl,by rw [Nat.pow_zero,Nat.mod_one,Nat.zero_mul];exact Blk.new _ _ _,(by repeat (first|with_reducible exact Below.refl _ _|refine Below.drew ?_|refine Below.alloc ?_ (by first|(simp;done)|(simp;omega)|omega) _|refine Below.setCell ?_ (by first|(simp;done)|(simp;omega)|omega) _))⟩
 case round =>
  obtain ⟨i,hi,rfl,hC,hbC⟩:=hrel
  by_cases hil:i<n
  ·have hx:=(hB1.up hbC).cell i
   rw [u32s_dg _ _ _ hil] at hx;have hP:(a%4294967296 ^ i)*b<4294967296 ^ (i+m):=Pl.mul_lt_pow (Nat.mod_lt _ (Nat.pow_pos (by omega))) hlb.out;have hT:=Pl.mul_round 4294967296 a b i;have hd1:a/4294967296 ^ i%4294967296<4294967296:=Nat.mod_lt _ (by omega);have hTl:(a%4294967296 ^ (i+1))*b<4294967296 ^ (i+1+m):=Pl.mul_lt_pow (Nat.mod_lt _ (Nat.pow_pos (by omega))) hlb.out;generalize a/4294967296 ^ i%4294967296=d at *;generalize (a%4294967296 ^ i)*b=P at *;rw [← hT] at hTl;have HT:=Lib.hid hT;have HP:=Lib.hid hP;have HTL:=Lib.hid hTl;clear hT hP hTl;go_wp2_with fail;obtain ⟨wo,rfl⟩:∃ wo:World,wo=wr:=⟨_,rfl⟩
   go_loopw [15,16,55] (fun c _ j wr=>∃ k:Nat,k≤m∧j=.int .i64 k∧c=.int .u64 (Pl.mcarry 4294967296 (P/4294967296 ^ i) d b k:Nat)∧Blk wr w2.heap.size 168 (u32s (Pl.mixD 4294967296 (n+m+1) (P+4294967296 ^ i*(d*b)) P (i+k)))∧Below w2.heap.size w2 wr) (fun _ _ j _=>m-(intOf j).toNat)
   case atStart=>exact ⟨0,Nat.zero_le _,rfl,by rw [Pl.mcarry_zero];rfl,by have e:=Pl.mixD_start 4294967296 (n+m+1) i P (d*b) (by omega) (by omega);exact (by rw [e];exact hC:Blk wo w2.heap.size 168 (u32s (Pl.mixD 4294967296 (n+m+1) (P+4294967296 ^ i*(d*b)) P i))),hbC⟩
   case round =>
    obtain ⟨k,hk,rfl,rfl,hC2,hbC2⟩:=hrel
    by_cases hkl:k<m
    ·have hx2:=hC2.cell (i+k)
     rw [u32s_get,Pl.mixD_get _ _ _ _ _ (by omega)] at hx2;simp only [Option.map_some] at hx2;have hf:=hC2.free (i+k);have hy:=(hB2.up hbC2).cell k;rw [u32s_dg _ _ _ hkl] at hy;have hset:=Pl.mixD_set 4294967296 (n+m+1) (P+4294967296 ^ i*(d*b)) P (i+k) (by omega);rw [Pl.shift_digit 4294967296 P (d*b) i k (by omega),← Pl.mcarry_digit 4294967296 (P/4294967296 ^ i) d b k (by omega)] at hset;have hcar:=Pl.mcarry_succ 4294967296 (P/4294967296 ^ i) d b k (by omega);have hc1:=Pl.mcarry_le 4294967296 (P/4294967296 ^ i) d b k (by omega);rw [Nat.div_div_eq_div_mul,← Nat.pow_add] at hset hcar;have hx1:P/4294967296 ^ (i+k)%4294967296<4294967296:=Nat.mod_lt _ (by omega);have hy1:b/4294967296 ^ k%4294967296<4294967296:=Nat.mod_lt _ (by omega);generalize P/4294967296 ^ (i+k)%4294967296=X at *;generalize b/4294967296 ^ k%4294967296=Y at *;generalize Pl.mcarry 4294967296 (P/4294967296 ^ i) d b k=C at *;have HSET:=Lib.hid hset;have HCAR:=Lib.hid hcar;clear hset hcar;have hdy:d*Y≤4294967295*4294967295:=Nat.mul_le_mul (by omega) (by omega);have hcast:(d:Int)*Y=((d*Y:Nat):Int):=by rw [Int.natCast_mul]
     have w1':IntKind.u64.wrap ((d:Int)*Y)=((d*Y:Nat):Int):=by rw [hcast];exact IntWalk.u64_in _ ⟨by omega,by omega⟩
     have w2':IntKind.u64.wrap ((X:Int)+((d*Y:Nat):Int))=((X+d*Y:Nat):Int):=by rw [IntWalk.u64_in _ ⟨by omega,by omega⟩];omega
     have w3':IntKind.u64.wrap ((C:Int)+((X+d*Y:Nat):Int))=((C+X+d*Y:Nat):Int):=by rw [IntWalk.u64_in _ ⟨by omega,by omega⟩];omega
     clear hcast;have k0:(0:Int)≤(i:Int)+k:=by omega
     have k1:(i:Int)+k<((n+m+1:Nat):Int):=by omega
     have k2:(k:Int)<(m:Int):=by omega
     go_wp2_with fail;have dx2:=Bel.cell hx2;have dy:=Bel.cell hy;refine wp_region_all (by kernel_rfl) (by kernel_rfl) ?_;repeat (go_big_quiet_step (fail))
     refine wpQuiet_nil ?_;intro w3 hb3;have hx3:=Bel.cell hx2 ⟨w3,hb3⟩;have hf3:=(hC2.up hb3).free (i+k);simp only at hx3;clear dx2 dy hx2 hy hf hx w1' w2' w3';have hv1:((C:Int)+((X:Int)+(d:Int)*(Y:Int)))%4294967296=(((C+X+d*Y)%4294967296:Nat):Int):=by rw [← Int.natCast_mul];omega
     have hv2:((C:Int)+((X:Int)+(d:Int)*(Y:Int)))/4294967296=(((C+X+d*Y)/4294967296:Nat):Int):=by rw [← Int.natCast_mul];omega
     have HV1:=Lib.hid hv1;have HV2:=Lib.hid hv2;clear hv1 hv2;go_wp2;go_roundw
     case rel =>
      refine ⟨k+1,by omega,by go_num,by rw [HV2.out,← HCAR.out],?_,(bel_up hbC2 hb3).setCell (Nat.le_refl _) _⟩;rw [HV1.out,← Nat.add_assoc,← HSET.out,← u32s_set];exact (hC2.up hb3).put _ _
     case measure=>simp [intOf];omega
    ·have hkm:k=m:=by omega
     have hlast:=Pl.mcarry_last 4294967296 (P/4294967296 ^ i) d b m (by rw [Nat.div_lt_iff_lt_mul (Nat.pow_pos (by omega)),← Nat.pow_add,Nat.add_comm m i];exact HP.out) hlb.out (by omega) hd1;rw [← Pl.shift_digit 4294967296 P (d*b) i m (by omega)] at hlast;have hset:=Pl.mixD_set 4294967296 (n+m+1) (P+4294967296 ^ i*(d*b)) P (i+m) (by omega);rw [← hlast,Pl.mixD_end 4294967296 (n+m+1) (i+m+1) _ _ (by omega) (by omega) (by have:=HTL.out;rwa [show i+1+m=i+m+1 from by omega] at this) (Nat.lt_of_lt_of_le HP.out (Nat.pow_le_pow_right (by omega) (by omega)))] at hset;have hc1:=Pl.mcarry_le 4294967296 (P/4294967296 ^ i) d b m (by omega);rw [hkm] at hC2;have hkC:Pl.mcarry 4294967296 (P/4294967296 ^ i) d b k=Pl.mcarry 4294967296 (P/4294967296 ^ i) d b m:=by rw [hkm]
     rw [hkC];generalize Pl.mcarry 4294967296 (P/4294967296 ^ i) d b m=C at *;have hx2:=hC2.cell (i+m);rw [u32s_get,Pl.mixD_get _ _ _ _ _ (by omega)] at hx2;simp only [Option.map_some] at hx2;have hf:=hC2.free (i+m);have HSET:=Lib.hid hset;clear hset hlast hkC hkm hx;generalize P/4294967296 ^ (i+m)%4294967296=X at *;have k0:(0:Int)≤(i:Int)+m:=by omega
     have k1:(i:Int)+m<((n+m+1:Nat):Int):=by omega
     go_wp2;go_roundw
     case rel =>
      refine ⟨i+1,by omega,by go_num,?_,hbC2.setCell (Nat.le_refl _) _⟩;rw [← HT.out,← HSET.out,← u32s_set];exact hC2.put _ _
     case measure=>simp [intOf];omega
  ·have hin:i=n:=by omega
   rw [hin,Nat.mod_eq_of_lt hla.out] at hC;have hby:=Lib.hid (fun W hB=>bytes_any w2.heap.size (n+m+1) (n+m+1) (Pl.dg 4294967296 (n+m+1) (a*b)) W hB (by rw [Pl.dg_length];omega) (by omega) (by omega) (Pl.dg_lt (by omega)));rw [List.take_of_length_le (by rw [Pl.dg_length];omega),Pl.vB_dg,Nat.mod_eq_of_lt (Nat.lt_of_lt_of_le (Pl.mul_lt_pow hla.out hlb.out) (Nat.pow_le_pow_right (by omega) (by omega)))] at hby;clear hin hDa hDb;go_wp2_with (go_at_call 164;refine (hby.out _ hC).mono ?_;rintro e w4 ⟨rfl,hb4⟩)
   go_ret;exact ⟨rfl,bel_up (bel_up hb12 hbC) hb4⟩

theorem mul_any (a b:Nat) (w:World) (ha:Pl.L a≤67108864) (hb:Pl.L b≤67108864) :
 Calls Tryz.prog 140 #[.string (mg a),.string (mg b)] w fun e w'=>e=.returned (.string (mg (a*b)))∧Below w.heap.size w w':=by
 rcases Nat.lt_or_ge 8 (Pl.L a) with h1|h1
 ·exact mul_long a b w ha hb (.inl h1)
 rcases Nat.lt_or_ge 8 (Pl.L b) with h2|h2
 ·exact mul_long a b w ha hb (.inr h2)
 rcases Nat.lt_or_ge (a*b) 18446744073709551616 with h|h
 ·exact mul_small a b w h1 h2 h
 ·exact mul_over a b w ha hb h1 h2 h
end Go.Proofs.YtdkkjfnpinckjaaGreatDoor

namespace Go.Proofs.YtdkkjfnpinckjaaGreatDoor
open Go Go.RowKit Go.Shelf

set_option maxHeartbeats 1000000 in
theorem short_any (g n cap V y:Nat) (w:World) (hB:Blk w g 168 (u32s (Pl.dg 4294967296 n V))) (hn:n≤cap) (hc:cap≤67108864) (hV:V<4294967296 ^ n) (hy:0<y) (hy2:y<4294967296) :
 Calls Tryz.prog 173 #[.slice (some ⟨g,0,none⟩) n cap,.int .u32 y] w fun e w'=>e=.returned (.int .u32 ((V%y:Nat):Int))∧Blk w' g 168 (u32s (Pl.dg 4294967296 n (V/y)))∧(∀ B w0,B≤g→Below B w0 w→Below B w0 w'):=by
 have HV:=Lib.hid hV;clear hV;go_enter Tryz.func173,Tryz.ntmps173;go_wp2_with fail;go_loopw [5,6] (fun r i wr=>∃ k:Nat,k≤n∧i=.int .i64 ((k:Int)-1)∧r=.int .u64 ((V/4294967296 ^ k%y:Nat):Int)∧Blk wr g 168 (u32s (Pl.mixD 4294967296 n V (V/y) k))∧(∀ B w0,B≤g→Below B w0 w→Below B w0 wr)) (fun _ i _=>(intOf i+1).toNat)
 case atStart=>exact ⟨n,Nat.le_refl _,rfl,by rw [Nat.div_eq_of_lt HV.out,Nat.zero_mod];rfl,by rw [Pl.mixD_full];exact hB,fun _ _ _ h=>h⟩
 case round =>
  obtain ⟨k,hk,rfl,rfl,hC,hfr⟩:=hrel;have HFR:=Lib.hid hfr;clear hfr
  by_cases h0:k=0
  ·subst h0
   rw [Pl.mixD_zero] at hC;have hyv:V%y<4294967296:=Nat.lt_trans (Nat.mod_lt _ hy) hy2;have HY:Hid ((V:Int)%y%4294967296=((V%y:Nat):Int)):=Lib.hid (by rw [← Int.natCast_emod];omega);clear hyv;go_wp2;go_ret;exact ⟨by rw [← HY.out];rfl,hC,HFR.out⟩
  ·have hx:=hC.cell (k-1)
   rw [u32s_get,Pl.mixD_getLow _ _ _ _ _ (by omega)] at hx;simp only [Option.map_some] at hx;have hf:=hC.free (k-1);have hset:=Pl.mixD_back 4294967296 n V (V/y) k (by omega) hk;obtain ⟨hq,hr⟩:=Pl.short_step 4294967296 V y k (by omega) hy (by omega);have hr1:V/4294967296 ^ k%y<y:=Nat.mod_lt _ hy;have hd1:V/4294967296 ^ (k-1)%4294967296<4294967296:=Nat.mod_lt _ (by omega);rw [← hq] at hset;generalize V/4294967296 ^ k%y=R at *;generalize V/4294967296 ^ (k-1)%4294967296=D at *;have hor:=or_word64 R D (by omega) hd1;have hqb:(R*4294967296+D)/y<4294967296:=by rw [hq];exact Nat.mod_lt _ (by omega)
   have HSET:=Lib.hid hset;have HR:=Lib.hid hr;clear hset hr hq;have ek:((k:Int)-1).toNat=k-1:=by omega
   have i1:(1:Int)≤k:=by omega
   have i2:(k:Int)-1<n:=by omega
   go_wp2_with fail;have j1:(0:Int)≤(R:Int)*4294967296+D:=by omega
   have j2:(1:Int)≤y:=by omega
   have j3:((y:Int)==0)=false:=by simp;omega
   have HV1:Hid (((R:Int)*4294967296+D)/y%4294967296=(((R*4294967296+D)/y:Nat):Int)):=Lib.hid (by
    have e:(((R*4294967296+D)/y:Nat):Int)=((R:Int)*4294967296+D)/y:=by simp
    rw [← e];clear e;generalize (R*4294967296+D)/y=q at hqb ⊢;omega)
   have HV2:Hid (((R:Int)*4294967296+D)%y=(((R*4294967296+D)%y:Nat):Int)):=Lib.hid (by simp);have hgl:=hC.lt;go_region
   all_goals
    go_wp2;refine ⟨⟨k-1,by omega,congrArg (Value.int .i64) (by omega),by rw [HV2.out,HR.out],?_,fun B w0 hB0 h=>((HFR.out B w0 hB0 h).drew.setCell hB0 _)⟩,by simp [intOf];omega⟩;rw [HV1.out,← HSET.out,← u32s_set];exact hC.drew.put _ _
end Go.Proofs.YtdkkjfnpinckjaaGreatDoor

namespace Go.Proofs.YtdkkjfnpinckjaaGreatDoor
open Go Go.RowKit Go.Shelf

set_option maxHeartbeats 1000000 in
theorem shifted_any (g n cap V s:Nat) (w:World) (hB:Blk w g 168 (u32s (Pl.dg 4294967296 n V))) (hn:n≤cap) (hc:cap≤67108864) (hV:V<4294967296 ^ n) (hs:s<32) :
 Calls Tryz.prog 175 #[.slice (some ⟨g,0,none⟩) n cap,.int .i64 s] w fun e w'=>e=.returned (.slice (some ⟨w.heap.size,0,none⟩) (n+1) (n+1))∧Blk w' w.heap.size 168 (u32s (Pl.dg 4294967296 (n+1) (V*2 ^ s)))∧Below w.heap.size w w':=by
 have HV:=Lib.hid hV;have hgl:=hB.lt;have hmk:=make_words ((n:Int)+1) (n+1) (by omega) (by omega);clear hV;go_enter Tryz.func175,Tryz.ntmps175;go_wp2_with fail;clear hmk;go_loopw [6,7,8,15] (fun _ _ _ i wr=>∃ k:Nat,k≤n∧i=.int .i64 k∧Blk wr w.heap.size 168 (u32s (Pl.dg 4294967296 (n+1) (V%4294967296 ^ k*2 ^ s)))∧Below w.heap.size w wr) (fun _ _ _ i _=>n-(intOf i).toNat)
 case atStart=>exact ⟨0,Nat.zero_le _,rfl,by rw [Nat.pow_zero,Nat.mod_one,Nat.zero_mul];exact Blk.new _ _ _,(by repeat (first|with_reducible exact Below.refl _ _|refine Below.drew ?_|refine Below.alloc ?_ (by first|(simp;done)|(simp;omega)|omega) _|refine Below.setCell ?_ (by first|(simp;done)|(simp;omega)|omega) _))⟩
 case round =>
  obtain ⟨k,hk,rfl,hC,hbC⟩:=hrel
  by_cases hkl:k<n
  ·have hx:=(hB.up hbC).cell k
   rw [u32s_dg _ _ _ hkl] at hx;have ho1:=hC.cell k;rw [u32s_dg _ _ _ (by omega)] at ho1;have ho2:=hC.cell (k+1);rw [u32s_dg _ _ _ (by omega)] at ho2;have hf1:=hC.free k;have hf2:=hC.free (k+1);obtain ⟨hL1,hL2⟩:=Pl.sh_low V s k hs;have hrd:=Pl.sh_round V s k;have hTl:V%4294967296 ^ k*2 ^ s<4294967296 ^ (k+1):=by have h1:V%4294967296 ^ k<4294967296 ^ k:=Nat.mod_lt _ (Nat.pow_pos (by omega));rw [Nat.pow_succ];exact Nat.mul_lt_mul'' h1 (by omega)
   have hd1:V/4294967296 ^ k%4294967296<4294967296:=Nat.mod_lt _ (by omega);have hset:=Pl.sh_set n _ (V/4294967296 ^ k%4294967296) s k _ hTl rfl hs hL1 hd1;rw [← hrd] at hset;have hLm:V%4294967296 ^ k*2 ^ s/4294967296 ^ k%4294967296=V%4294967296 ^ k*2 ^ s/4294967296 ^ k:=Nat.mod_eq_of_lt (by omega);rw [hLm] at ho1;obtain ⟨hw1,hw2⟩:=Pl.sh_word (V/4294967296 ^ k%4294967296) s hs;generalize V%4294967296 ^ k*2 ^ s/4294967296 ^ k=L at *;generalize V%4294967296 ^ k*2 ^ s/4294967296 ^ (k+1)%4294967296=O2 at *;generalize V/4294967296 ^ k%4294967296=d at *;have HSET:=Lib.hid hset;clear hset hrd hLm hTl;have hdq:d*2 ^ s≤4294967295*2147483648:=Nat.mul_le_mul (by omega) hL2
   have hor:bits .or .u32 (L:Int) ((d:Int)*2 ^ s%4294967296)=((L+d*2 ^ s%4294967296:Nat):Int):=by
    have e1:(d:Int)*2 ^ s%4294967296=((d*2 ^ s%4294967296:Nat):Int):=by simp
    rw [e1,u32_or_nat _ _ (by omega) (by omega),Nat.or_comm,nat_join s _ _ hw1 hL1];omega
   have HW:Hid (IntKind.u64.wrap ((d:Int)*2 ^ s)=((d*2 ^ s:Nat):Int)):=Lib.hid (by
    have e:(d:Int)*2 ^ s=((d*2 ^ s:Nat):Int):=by simp
    rw [e];exact IntWalk.u64_in _ ⟨by omega,by omega⟩)
   have HV1:Hid (bits .or .u32 (L:Int) (IntKind.u64.wrap ((d:Int)*2 ^ s)%4294967296)=((L+d*2 ^ s%4294967296:Nat):Int)):=Lib.hid (by
    rw [← hor,HW.out];congr 1)
   have HV2:Hid (IntKind.u64.wrap ((d:Int)*2 ^ s)/4294967296%4294967296=((d*2 ^ s/4294967296:Nat):Int)):=Lib.hid (by
    rw [HW.out];generalize d*2 ^ s=m at hdq ⊢;omega)
   clear hor;have hs0:(0:Int)≤s:=by omega
   have hs1:(s:Int)<32:=by omega
   go_wp2;refine ⟨⟨k+1,by omega,by go_num,?_,(hbC.setCell (Nat.le_refl _) _).setCell (Nat.le_refl _) _⟩,by simp [intOf];omega⟩;rw [HV1.out,HV2.out,← HSET.out,← u32s_set,← u32s_set];exact (hC.put _ _).put _ _
  ·have hkn:k=n:=by omega
   rw [hkn,Nat.mod_eq_of_lt HV.out] at hC;clear hkn;go_wp2;go_ret;exact ⟨rfl,hC,hbC⟩
end Go.Proofs.YtdkkjfnpinckjaaGreatDoor
