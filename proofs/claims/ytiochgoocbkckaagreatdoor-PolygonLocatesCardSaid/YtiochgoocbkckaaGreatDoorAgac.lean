/-
 Contracts of package integer: a row of words as bytes.
 Contracts of package integer: the sum of two magnitudes.
 Contracts of package integer: the difference of two magnitudes.
-/
import Derived.Test.YtiochgoocbkckaaGreatDoorAgab
import Derived.Shelf.Spec.BitsCarry
set_option maxRecDepth 100000
set_option linter.unusedSimpArgs false
set_option linter.unusedVariables false
namespace Go.Proofs.YtiochgoocbkckaaGreatDoor
open Go Go.RowKit

theorem trimLeft_any (s:ByteArray) (w:World):Calls Tryz.prog 222 #[.string s,.string ⟨#[0]⟩] w fun e w'=>e=.returned (.string ⟨(s.data.toList.dropWhile (· == 0)).toArray⟩)∧w=w' :=
 (Tryz.strings_TrimLeft_one s 0 (by decide) w).mono fun _ _ ⟨h,k⟩=>⟨h,k.symm⟩
theorem str_of_bytes (M v:Nat) (hv:v<256 ^ M):(⟨((strOfNums ((Pl.bytesOf M v).map fun (d:Nat)=>(d:Int))).data.toList.dropWhile (· == 0)).toArray⟩:ByteArray)=mg v:=by
 rw [strOfNums_data,List.map_map,show (fun n:Int=>UInt8.ofNat n.toNat) ∘ (fun d:Nat=>(d:Int))=UInt8.ofNat from by funext d;simp,Pl.magL_dropZeros,Pl.valL_bytesOf M v hv];rfl

set_option maxHeartbeats 1000000 in
theorem bytes_any (g len cap:Nat) (l:List Nat) (w:World) (hB:Blk w g 165 (u32s l)) (hl:len≤l.length) (hc:len≤cap) (hbig:cap≤67108864) (hd:∀ d∈l,d<4294967296) :
 Calls Tryz.prog 200 #[.slice (some ⟨g,0,none⟩) len cap] w fun e w'=>e=.returned (.string (mg (Pl.vB 4294967296 (l.take len))))∧Below w.heap.size w w':=by
 have hT:=Lib.hid (fun W=>trim_any g len cap l W);have hm1:=Pl.tlen_le (l.take len);have hm2:=Pl.vB_tlen 4294967296 (l.take len);rw [List.length_take] at hm1;rw [List.take_take] at hm2;generalize Pl.tlen (l.take len)=m at *;rw [Nat.min_eq_left (by omega)] at hm2;rw [← hm2];clear hm2
 have hv:Pl.vB 4294967296 (l.take m)<256 ^ (4*m):=by
  have:=Pl.vB_lt (b:=4294967296) (l:=l.take m) (fun d h=>hd d (List.mem_of_mem_take h));rw [List.length_take,Nat.min_eq_left (by omega)] at this
  rwa [Nat.pow_mul]
 have hget:∀ i (h:i<m),l[i]'(by omega)=Pl.vB 4294967296 (l.take m)/4294967296 ^ i%4294967296:=by intro i h;have:=Pl.vB_get (b:=4294967296) (l:=l.take m) (fun d h=>hd d (List.mem_of_mem_take h)) (i:=i) (by simp;omega) (by omega);rw [← this];simp
 generalize Pl.vB 4294967296 (l.take m)=v at *;have HS:=Lib.hid (str_of_bytes (4*m) v hv);have HG:=Lib.hid hget;have HV:=Lib.hid hv;clear hget hv
 by_cases h0:m=0
 ·subst h0
  go_enter Tryz.func200,Tryz.ntmps200;go_wp2_with (go_at_call 221;refine (hT.out _ hB hl hc (by omega)).mono ?_;rintro e w1 ⟨rfl,rfl⟩)
  go_ret;have:v=0:=by have:=HV.out;simpa using this
  subst this;exact ⟨rfl,Below.refl _ _⟩
 ·have hmk:=make_bytes (4*m) (4*m) (by omega) (by omega)
  have hz:((m:Int)==0)=false:=by simpa using h0
  go_enter Tryz.func200,Tryz.ntmps200;go_wp2_with (go_at_call 221;refine (hT.out _ hB hl hc (by omega)).mono ?_;rintro e w1 ⟨rfl,rfl⟩)
  have hgw:=hB.lt;clear hmk;go_loopw [4,5,6,18,23] (fun _ _ _ i _ wr=>∃ k:Nat,k≤m∧i=.int .i64 k∧Blk wr w.heap.size 5 (u8s (Pl.bytesUp (4*m) v (4*k)))∧Below w.heap.size w wr) (fun _ _ _ i _ _=>m-(intOf i).toNat)
  case atStart=>exact ⟨0,Nat.zero_le _,rfl,by rw [Nat.mul_zero,Pl.bytesUp_zero];exact Blk.new _ _ _,(by repeat (first|with_reducible exact Below.refl _ _|refine Below.drew ?_|refine Below.alloc ?_ (by first|(simp;done)|(simp;omega)|omega) _|refine Below.setCell ?_ (by first|(simp;done)|(simp;omega)|omega) _))⟩
  case round =>
   obtain ⟨k,hk,rfl,hb,hbl⟩:=hrel
   by_cases hlt:k<m
   ·have hx:=(hB.up hbl).cell k
    rw [u32s_get,List.getElem?_eq_getElem (by omega:k<l.length),HG.out k hlt] at hx;simp only [Option.map_some] at hx;have hD:v/4294967296 ^ k%4294967296<4294967296:=Nat.mod_lt _ (by omega);have hby:=Lib.hid (fun j=>Pl.digit_byte v k j);generalize v/4294967296 ^ k%4294967296=D at *;go_wp2_with fail;obtain ⟨wo,rfl⟩:∃ wo:World,wo=wr:=⟨_,rfl⟩
    go_loopw [6,23] (fun _ i wr=>∃ j:Nat,j≤4∧i=.int .i64 j∧Blk wr w.heap.size 5 (u8s (Pl.bytesUp (4*m) v (4*k+j)))∧Below w.heap.size w wr) (fun _ i _=>4-(intOf i).toNat)
    case atStart=>exact ⟨0,by omega,rfl,hb,hbl⟩
    case round =>
     obtain ⟨j,hj,rfl,hb2,hbl2⟩:=hrel
     by_cases hj4:j<4
     ·have hc:=hb2.cellAt (i:=4*m-1-4*k-j) (by rw [u8s_length,Pl.bytesUp_length];omega)
      have hf:=hb2.free (4*m-1-4*k-j);generalize (u8s (Pl.bytesUp (4*m) v (4*k+j)))[4*m-1-4*k-j]'(by rw [u8s_length,Pl.bytesUp_length];omega)=old at hc;have HU:=Lib.hid (Pl.bytesUp_succ (4*m) v (4*k+j) (by omega));go_wp2;go_roundw
      case rel =>
       refine ⟨j+1,by omega,by go_num,?_,hbl2.setCell (Nat.le_refl _) _⟩;rw [shr_byte,hby.out j hj4,← Nat.add_assoc,← HU.out,← u8s_set,show 4*m-1-(4*k+j)=4*m-1-4*k-j from by omega];exact hb2.put _ _
      case measure=>simp [intOf];omega
     ·have HJ:Hid (4*k+j=4*(k+1)):=Lib.hid (by omega)
      go_wp2;go_roundw
      case rel=>exact ⟨k+1,by omega,by go_num,by rw [← HJ.out];exact hb2,hbl2⟩
      case measure=>simp [intOf];omega
   ·have hkm:k=m:=by omega
    have hcv:=run_convert_bytes_arg (P:=Tryz.prog) wr 173 5 Tryz.underlying173 Tryz.underlying5 w.heap.size 0 (4*m) (4*m) ((Pl.bytesOf (4*m) v).map fun (d:Nat)=>(d:Int)) (by simp [Pl.bytesOf_length]) (fun i hi=>by
     rw [hb.cell,Nat.zero_add,hkm,Pl.bytesUp_full,u8s_get,List.getD_eq_getElem?_getD,List.getElem?_map,List.getElem?_eq_getElem (by rw [Pl.bytesOf_length];exact hi)]
     rfl) 9 Tryz.underlying9
    have hts:=fun W=>trimLeft_any (strOfNums ((Pl.bytesOf (4*m) v).map fun (d:Nat)=>(d:Int))) W
    rw [HS.out] at hts;generalize strOfNums ((Pl.bytesOf (4*m) v).map fun (d:Nat)=>(d:Int))=sx at hcv hts;have HTS:=Lib.hid hts;clear hts HS HG HV hT hkm;go_wp2_with (go_at_call 222;refine (HTS.out _).mono ?_;rintro e w1 ⟨rfl,rfl⟩)
    go_ret;exact ⟨rfl,hbl⟩
end Go.Proofs.YtiochgoocbkckaaGreatDoor

namespace Go.Proofs.YtiochgoocbkckaaGreatDoor
open Go Go.RowKit Go.Shelf

def rens25:Go.Shelf.Ren:=⟨fun|25=>198 | n=>n,fun|22=>167 | n=>n,fun n=>n⟩
theorem lays25:Lays7.n25 Tryz.prog rens25 := { mixed:=by kernel_rfl,f25:=Tryz.func198.trans (congrArg some (by kernel_rfl)),t22:=Tryz.underlying167,a22:=Tryz.isAgg167,z22:=Tryz.sizeOf167,v22:=Tryz.zeroValue167,i22:=by kernel_rfl }
theorem add64_0 (x y:Nat) (w:World):(callFunc 198 #[.int .u64 (x:Int),.int .u64 (y:Int),.int .u64 0]).run Tryz.prog w =
 .ok (.value (.tuple #[.int .u64 (((x+y)%18446744073709551616:Nat):Int),.int .u64 (((x+y)/18446744073709551616:Nat):Int)])) w:=by
 refine (Any7.bits_Add64 lays25 x y 0 (by omega) w).trans ?_;simp only [Nat.add_zero]

theorem words_mg (a b:Nat) (w:World) (ha:Pl.L a≤8) (hb:Pl.L b≤8) :
 Calls Tryz.prog 189 #[.string (mg a),.string (mg b)] w fun e w'=>e=.returned (.tuple #[.int .u64 (a:Int),.int .u64 (b:Int),.bool true])∧w=w':=by
 have h:=words_small (mg a) (mg b) w (by rw [mg_size];exact ha) (by rw [mg_size];exact hb);rw [mg_data,mg_data,Pl.valL_magL,Pl.valL_magL] at h;exact h
theorem words_long (a b:Nat) (w:World) (h:8<Pl.L a∨8<Pl.L b) :
 Calls Tryz.prog 189 #[.string (mg a),.string (mg b)] w fun e w'=>(∃ x y:Int,e=.returned (.tuple #[.int .u64 x,.int .u64 y,.bool false]))∧w=w':=by
 have sa:=mg_size a;have sb:=mg_size b;rcases Nat.lt_or_ge 8 (Pl.L a) with h1|h1
 ·have H1:=Lib.hid (fun W=>word_long (mg a) W (by omega))
  rcases Nat.lt_or_ge 8 (Pl.L b) with h2|h2
  ·have H2:=Lib.hid (fun W=>word_long (mg b) W (by omega))
   clear sa sb;go_enter Tryz.func189,Tryz.ntmps189;go_wp2_with fail;refine (H1.out _).mono ?_;rintro e w1 ⟨rfl,rfl⟩;go_wp2_with fail;refine (H2.out _).mono ?_;rintro e w1 ⟨rfl,rfl⟩;go_wp2;go_ret3;exact ⟨⟨_,_,rfl⟩,rfl⟩
  ·have H2:=Lib.hid (fun W=>word_small (mg b) W (by omega))
   clear sa sb;go_enter Tryz.func189,Tryz.ntmps189;go_wp2_with fail;refine (H1.out _).mono ?_;rintro e w1 ⟨rfl,rfl⟩;go_wp2_with fail;refine (H2.out _).mono ?_;rintro e w1 ⟨rfl,rfl⟩;go_wp2;go_ret3;exact ⟨⟨_,_,rfl⟩,rfl⟩
 ·have h2:8<Pl.L b:=by omega
  have H1:=Lib.hid (fun W=>word_small (mg a) W (by omega));have H2:=Lib.hid (fun W=>word_long (mg b) W (by omega));clear sa sb;go_enter Tryz.func189,Tryz.ntmps189;go_wp2_with fail;refine (H1.out _).mono ?_;rintro e w1 ⟨rfl,rfl⟩;go_wp2_with fail;refine (H2.out _).mono ?_;rintro e w1 ⟨rfl,rfl⟩;go_wp2;go_ret3;exact ⟨⟨_,_,rfl⟩,rfl⟩

theorem add_small (a b:Nat) (w:World) (ha:Pl.L a≤8) (hb:Pl.L b≤8) (h:a+b<18446744073709551616) :
 Calls Tryz.prog 172 #[.string (mg a),.string (mg b)] w fun e w'=>e=.returned (.string (mg (a+b)))∧Below w.heap.size w w':=by
 have hA:=Lib.hid (fun W=>add64_0 a b W);have e1:=Nat.mod_eq_of_lt h;have e2:=Nat.div_eq_of_lt h;have hW:=Lib.hid (fun W=>words_mg a b W ha hb);have hM:=Lib.hid (fun W=>magnitude_any (a+b) W h);have hA':∀ W,(callFunc 198 #[.int .u64 (a:Int),.int .u64 (b:Int),.int .u64 0]).run Tryz.prog W=.ok (.value (.tuple #[.int .u64 ((a+b:Nat):Int),.int .u64 0])) W:=by intro W;rw [hA.out W,e1,e2];rfl
 clear e1 e2 hA ha hb h;generalize a+b=s at *;have HA:=Lib.hid hA';clear hA';go_enter Tryz.func172,Tryz.ntmps172;go_wp2_with (first|(go_at_call 189;refine (hW.out _).mono ?_;rintro e w1 ⟨rfl,rfl⟩)|(simp only [HA.out])|(go_at_call 190;refine (hM.out _).mono ?_;rintro e w1 ⟨rfl,hb1⟩))
 go_ret;exact ⟨rfl,hb1⟩

set_option maxHeartbeats 2000000 in
theorem add_long (a b:Nat) (w:World) (ha:Pl.L a≤67108864) (hb:Pl.L b≤67108864) (h:8<Pl.L a∨8<Pl.L b) :
 Calls Tryz.prog 172 #[.string (mg a),.string (mg b)] w fun e w'=>e=.returned (.string (mg (a+b)))∧Below w.heap.size w w':=by
 have hW:=Lib.hid (fun W=>words_long a b W h);clear h;have hDa:=Lib.hid (fun W=>digits_any a W ha);have hDb:=Lib.hid (fun W=>digits_any b W hb);have hwa:Pl.W a≤16777216:=by unfold Pl.W;omega
 have hwb:Pl.W b≤16777216:=by unfold Pl.W;omega
 rw [show (Pl.L a+3)/4=Pl.W a from rfl] at hDa;rw [show (Pl.L b+3)/4=Pl.W b from rfl] at hDb;clear ha hb
 by_cases hlt:Pl.W a<Pl.W b
 ·have hf:True:=trivial
  have hmk:=make_words ((Pl.W b:Int)+1) (Pl.W b+1) (by omega) (by omega);have HMK:=Lib.hid hmk;clear hmk;go_enter Tryz.func172,Tryz.ntmps172;go_wp2_with fail;refine (hW.out _).mono ?_;rintro e w1 ⟨⟨x,y,rfl⟩,rfl⟩;go_wp2_with fail;refine (hDa.out _).mono ?_;rintro e w1 ⟨rfl,hB1,hb1⟩;go_wp2_with fail;refine (hDb.out _).mono ?_;rintro e w2 ⟨rfl,hB2,hb2⟩;have hB1:=hB1.up hb2;have hb12:Below w.heap.size w w2:=bel_up hb1 hb2;have hmk:=HMK.out;obtain ⟨w3,hcp,hB3,hk3⟩:=copy_words (w2.alloc (.cells (u32s (Pl.dg 4294967296 (Pl.W b+1) 0)).toArray 165)) w1.heap.size w2.heap.size (Pl.W b) (Pl.W b+1) (Pl.W b) (Pl.W b+1) 3 _ _ (hB2.alloc _) (Blk.new _ _ _) (Pl.dg_length _ _ _) (Pl.dg_length _ _ _) (by omega);have hb3:Below w2.heap.size w2 w3:=hk3 _ _ (Nat.le_refl _) ((Below.refl _ _).alloc (Nat.le_refl _) _);rw [Pl.dg_pad 4294967296 b (Pl.W b) 1 (by omega) (Pl.lt_W b)] at hB3;clear hk3;have hgs:=hB1.lt;go_wp2_with fail;clear hcp hmk HMK;go_loopw [13,14,53] (fun c _ i wr=>∃ k:Nat,k≤Pl.W b+1∧i=.int .i64 k∧c=.int .u64 (Pl.carry 4294967296 b a k:Nat)∧Blk wr w2.heap.size 165 (u32s (Pl.mixD 4294967296 (Pl.W b+1) (b+a) b k))∧Below w2.heap.size w2 wr) (fun _ _ i _=>Pl.W b+1-(intOf i).toNat)
  case atStart=>exact ⟨0,Nat.zero_le _,rfl,by rw [Pl.carry_zero];rfl,by rw [Pl.mixD_zero];exact hB3,hb3⟩
  case round =>
   obtain ⟨k,hk,rfl,rfl,hC,hbC⟩:=hrel
   by_cases hkl:k<Pl.W b+1
   ·have hx:=hC.cell k
    rw [u32s_get,Pl.mixD_get _ _ _ _ _ hkl] at hx;simp only [Option.map_some] at hx;have hf:=hC.free k;have hset:=Pl.mixD_set 4294967296 (Pl.W b+1) (b+a) b k hkl;have hdig:=Pl.carry_digit 4294967296 b a k (by omega);have hcar:=Pl.carry_succ 4294967296 b a k (by omega);have hc1:=Pl.carry_le 4294967296 b a k (by omega);have hx1:b/4294967296 ^ k%4294967296<4294967296:=Nat.mod_lt _ (by omega);have hy1:a/4294967296 ^ k%4294967296<4294967296:=Nat.mod_lt _ (by omega)
    have hys:k<Pl.W a→wr.cell? ⟨w.heap.size,k,none⟩=some (.int .u32 ((a/4294967296 ^ k%4294967296:Nat):Int)):=fun h=>by
     rw [(hB1.up hbC).cell];exact u32s_dg _ _ _ h
    have hyb:Pl.W a≤k→a/4294967296 ^ k%4294967296=0:=fun h=>Pl.dig_beyond _ _ _ _ (by omega) (Pl.lt_W a) h
    generalize b/4294967296 ^ k%4294967296=X at *;generalize a/4294967296 ^ k%4294967296=Y at *;generalize Pl.carry 4294967296 b a k=C at *;have HSET:=Lib.hid hset;have HDIG:=Lib.hid hdig;have HCAR:=Lib.hid hcar;clear hset hdig hcar
    by_cases hks:k<Pl.W a
    ·have hy:=hys hks
     clear hys hyb;go_wp2;go_roundw
     case rel =>
      refine ⟨k+1,by omega,by go_num,?_,?_,hbC.setCell (Nat.le_refl _) _⟩
      ·rw [← HCAR.out];go_num
      ·rw [← HSET.out,← HDIG.out,← u32s_set];exact hC.put _ _
     case measure=>simp [intOf];omega
    ·have hy0:=hyb (by omega)
     subst hy0;clear hys hyb;have hc2:C<4294967296:=by omega
     go_wp2;go_roundw
     case rel =>
      refine ⟨k+1,by omega,by go_num,?_,?_,hbC.setCell (Nat.le_refl _) _⟩
      ·rw [← HCAR.out];go_num
      ·rw [← HSET.out,← HDIG.out,← u32s_set];exact hC.put _ _
     case measure=>simp [intOf];omega
   ·have hkk:k=Pl.W b+1:=by omega
    rw [hkk,Pl.mixD_full] at hC;have hby:=Lib.hid (fun W hB=>bytes_any w2.heap.size (Pl.W b+1) (Pl.W b+1) (Pl.dg 4294967296 (Pl.W b+1) (b+a)) W hB (by rw [Pl.dg_length];omega) (by omega) (by omega) (Pl.dg_lt (by omega)));rw [List.take_of_length_le (by rw [Pl.dg_length];omega),Pl.vB_dg,Nat.mod_eq_of_lt (Pl.sum_lt b a (by omega))] at hby;clear hkk hf hDa hDb hW;go_wp2_with (go_at_call 200;refine (hby.out _ hC).mono ?_;rintro e w4 ⟨rfl,hb4⟩)
    go_ret;exact ⟨by rw [Nat.add_comm];rfl,bel_up (bel_up hb12 hbC) hb4⟩
 ·have hf:True:=trivial
  have hmk:=make_words ((Pl.W a:Int)+1) (Pl.W a+1) (by omega) (by omega);have HMK:=Lib.hid hmk;clear hmk;go_enter Tryz.func172,Tryz.ntmps172;go_wp2_with fail;refine (hW.out _).mono ?_;rintro e w1 ⟨⟨x,y,rfl⟩,rfl⟩;go_wp2_with fail;refine (hDa.out _).mono ?_;rintro e w1 ⟨rfl,hB1,hb1⟩;go_wp2_with fail;refine (hDb.out _).mono ?_;rintro e w2 ⟨rfl,hB2,hb2⟩;have hB1:=hB1.up hb2;have hb12:Below w.heap.size w w2:=bel_up hb1 hb2;have hmk:=HMK.out;obtain ⟨w3,hcp,hB3,hk3⟩:=copy_words (w2.alloc (.cells (u32s (Pl.dg 4294967296 (Pl.W a+1) 0)).toArray 165)) w.heap.size w2.heap.size (Pl.W a) (Pl.W a+1) (Pl.W a) (Pl.W a+1) 3 _ _ (hB1.alloc _) (Blk.new _ _ _) (Pl.dg_length _ _ _) (Pl.dg_length _ _ _) (by omega);have hb3:Below w2.heap.size w2 w3:=hk3 _ _ (Nat.le_refl _) ((Below.refl _ _).alloc (Nat.le_refl _) _);rw [Pl.dg_pad 4294967296 a (Pl.W a) 1 (by omega) (Pl.lt_W a)] at hB3;clear hk3;have hgs:=hB2.lt;go_wp2_with fail;clear hcp hmk HMK;go_loopw [13,14,53] (fun c _ i wr=>∃ k:Nat,k≤Pl.W a+1∧i=.int .i64 k∧c=.int .u64 (Pl.carry 4294967296 a b k:Nat)∧Blk wr w2.heap.size 165 (u32s (Pl.mixD 4294967296 (Pl.W a+1) (a+b) a k))∧Below w2.heap.size w2 wr) (fun _ _ i _=>Pl.W a+1-(intOf i).toNat)
  case atStart=>exact ⟨0,Nat.zero_le _,rfl,by rw [Pl.carry_zero];rfl,by rw [Pl.mixD_zero];exact hB3,hb3⟩
  case round =>
   obtain ⟨k,hk,rfl,rfl,hC,hbC⟩:=hrel
   by_cases hkl:k<Pl.W a+1
   ·have hx:=hC.cell k
    rw [u32s_get,Pl.mixD_get _ _ _ _ _ hkl] at hx;simp only [Option.map_some] at hx;have hf:=hC.free k;have hset:=Pl.mixD_set 4294967296 (Pl.W a+1) (a+b) a k hkl;have hdig:=Pl.carry_digit 4294967296 a b k (by omega);have hcar:=Pl.carry_succ 4294967296 a b k (by omega);have hc1:=Pl.carry_le 4294967296 a b k (by omega);have hx1:a/4294967296 ^ k%4294967296<4294967296:=Nat.mod_lt _ (by omega);have hy1:b/4294967296 ^ k%4294967296<4294967296:=Nat.mod_lt _ (by omega)
    have hys:k<Pl.W b→wr.cell? ⟨w1.heap.size,k,none⟩=some (.int .u32 ((b/4294967296 ^ k%4294967296:Nat):Int)):=fun h=>by
     rw [(hB2.up hbC).cell];exact u32s_dg _ _ _ h
    have hyb:Pl.W b≤k→b/4294967296 ^ k%4294967296=0:=fun h=>Pl.dig_beyond _ _ _ _ (by omega) (Pl.lt_W b) h
    generalize a/4294967296 ^ k%4294967296=X at *;generalize b/4294967296 ^ k%4294967296=Y at *;generalize Pl.carry 4294967296 a b k=C at *;have HSET:=Lib.hid hset;have HDIG:=Lib.hid hdig;have HCAR:=Lib.hid hcar;clear hset hdig hcar
    by_cases hks:k<Pl.W b
    ·have hy:=hys hks
     clear hys hyb;go_wp2;go_roundw
     case rel =>
      refine ⟨k+1,by omega,by go_num,?_,?_,hbC.setCell (Nat.le_refl _) _⟩
      ·rw [← HCAR.out];go_num
      ·rw [← HSET.out,← HDIG.out,← u32s_set];exact hC.put _ _
     case measure=>simp [intOf];omega
    ·have hy0:=hyb (by omega)
     subst hy0;clear hys hyb;have hc2:C<4294967296:=by omega
     go_wp2;go_roundw
     case rel =>
      refine ⟨k+1,by omega,by go_num,?_,?_,hbC.setCell (Nat.le_refl _) _⟩
      ·rw [← HCAR.out];go_num
      ·rw [← HSET.out,← HDIG.out,← u32s_set];exact hC.put _ _
     case measure=>simp [intOf];omega
   ·have hkk:k=Pl.W a+1:=by omega
    rw [hkk,Pl.mixD_full] at hC;have hby:=Lib.hid (fun W hB=>bytes_any w2.heap.size (Pl.W a+1) (Pl.W a+1) (Pl.dg 4294967296 (Pl.W a+1) (a+b)) W hB (by rw [Pl.dg_length];omega) (by omega) (by omega) (Pl.dg_lt (by omega)));rw [List.take_of_length_le (by rw [Pl.dg_length];omega),Pl.vB_dg,Nat.mod_eq_of_lt (Pl.sum_lt a b (by omega))] at hby;clear hkk hf hDa hDb hW;go_wp2_with (go_at_call 200;refine (hby.out _ hC).mono ?_;rintro e w4 ⟨rfl,hb4⟩)
    go_ret;exact ⟨rfl,bel_up (bel_up hb12 hbC) hb4⟩

set_option maxHeartbeats 2000000 in
theorem add_over (a b:Nat) (w:World) (ha:Pl.L a≤67108864) (hb:Pl.L b≤67108864) (h1:Pl.L a≤8) (h2:Pl.L b≤8) (h:18446744073709551616≤a+b) :
 Calls Tryz.prog 172 #[.string (mg a),.string (mg b)] w fun e w'=>e=.returned (.string (mg (a+b)))∧Below w.heap.size w w':=by
 have hW:=Lib.hid (fun W=>words_mg a b W h1 h2);have k1:=word_of_L h1;have k2:=word_of_L h2;have hA:=fun W=>add64_0 a b W
 rw [show (a+b)/18446744073709551616=1 from by omega] at hA;generalize (a+b)%18446744073709551616=lo at hA;have HA:Hid (∀ W,(callFunc 198 #[.int .u64 (a:Int),.int .u64 (b:Int),.int .u64 0]).run Tryz.prog W=.ok (.value (.tuple #[.int .u64 (lo:Int),.int .u64 1])) W):=Lib.hid hA;clear hA h h1 h2 k1 k2;have hDa:=Lib.hid (fun W=>digits_any a W ha);have hDb:=Lib.hid (fun W=>digits_any b W hb);have hwa:Pl.W a≤16777216:=by unfold Pl.W;omega
 have hwb:Pl.W b≤16777216:=by unfold Pl.W;omega
 rw [show (Pl.L a+3)/4=Pl.W a from rfl] at hDa;rw [show (Pl.L b+3)/4=Pl.W b from rfl] at hDb;clear ha hb
 by_cases hlt:Pl.W a<Pl.W b
 ·have hf:True:=trivial
  have hmk:=make_words ((Pl.W b:Int)+1) (Pl.W b+1) (by omega) (by omega);have HMK:=Lib.hid hmk;clear hmk;go_enter Tryz.func172,Tryz.ntmps172;go_wp2_with (first|(go_at_call 189;refine (hW.out _).mono ?_;rintro e w1 ⟨rfl,rfl⟩)|(simp only [HA.out]))
  go_wp2_with fail;refine (hDa.out _).mono ?_;rintro e w1 ⟨rfl,hB1,hb1⟩;go_wp2_with fail;refine (hDb.out _).mono ?_;rintro e w2 ⟨rfl,hB2,hb2⟩;have hB1:=hB1.up hb2;have hb12:Below w.heap.size w w2:=bel_up hb1 hb2;have hmk:=HMK.out;obtain ⟨w3,hcp,hB3,hk3⟩:=copy_words (w2.alloc (.cells (u32s (Pl.dg 4294967296 (Pl.W b+1) 0)).toArray 165)) w1.heap.size w2.heap.size (Pl.W b) (Pl.W b+1) (Pl.W b) (Pl.W b+1) 3 _ _ (hB2.alloc _) (Blk.new _ _ _) (Pl.dg_length _ _ _) (Pl.dg_length _ _ _) (by omega);have hb3:Below w2.heap.size w2 w3:=hk3 _ _ (Nat.le_refl _) ((Below.refl _ _).alloc (Nat.le_refl _) _);rw [Pl.dg_pad 4294967296 b (Pl.W b) 1 (by omega) (Pl.lt_W b)] at hB3;clear hk3;have hgs:=hB1.lt;go_wp2_with fail;clear hcp hmk HMK;go_loopw [13,14,53] (fun c _ i wr=>∃ k:Nat,k≤Pl.W b+1∧i=.int .i64 k∧c=.int .u64 (Pl.carry 4294967296 b a k:Nat)∧Blk wr w2.heap.size 165 (u32s (Pl.mixD 4294967296 (Pl.W b+1) (b+a) b k))∧Below w2.heap.size w2 wr) (fun _ _ i _=>Pl.W b+1-(intOf i).toNat)
  case atStart=>exact ⟨0,Nat.zero_le _,rfl,by rw [Pl.carry_zero];rfl,by rw [Pl.mixD_zero];exact hB3,hb3⟩
  case round =>
   obtain ⟨k,hk,rfl,rfl,hC,hbC⟩:=hrel
   by_cases hkl:k<Pl.W b+1
   ·have hx:=hC.cell k
    rw [u32s_get,Pl.mixD_get _ _ _ _ _ hkl] at hx;simp only [Option.map_some] at hx;have hf:=hC.free k;have hset:=Pl.mixD_set 4294967296 (Pl.W b+1) (b+a) b k hkl;have hdig:=Pl.carry_digit 4294967296 b a k (by omega);have hcar:=Pl.carry_succ 4294967296 b a k (by omega);have hc1:=Pl.carry_le 4294967296 b a k (by omega);have hx1:b/4294967296 ^ k%4294967296<4294967296:=Nat.mod_lt _ (by omega);have hy1:a/4294967296 ^ k%4294967296<4294967296:=Nat.mod_lt _ (by omega)
    have hys:k<Pl.W a→wr.cell? ⟨w.heap.size,k,none⟩=some (.int .u32 ((a/4294967296 ^ k%4294967296:Nat):Int)):=fun h=>by
     rw [(hB1.up hbC).cell];exact u32s_dg _ _ _ h
    have hyb:Pl.W a≤k→a/4294967296 ^ k%4294967296=0:=fun h=>Pl.dig_beyond _ _ _ _ (by omega) (Pl.lt_W a) h
    generalize b/4294967296 ^ k%4294967296=X at *;generalize a/4294967296 ^ k%4294967296=Y at *;generalize Pl.carry 4294967296 b a k=C at *;have HSET:=Lib.hid hset;have HDIG:=Lib.hid hdig;have HCAR:=Lib.hid hcar;clear hset hdig hcar
    by_cases hks:k<Pl.W a
    ·have hy:=hys hks
     clear hys hyb;go_wp2;go_roundw
     case rel =>
      refine ⟨k+1,by omega,by go_num,?_,?_,hbC.setCell (Nat.le_refl _) _⟩
      ·rw [← HCAR.out];go_num
      ·rw [← HSET.out,← HDIG.out,← u32s_set];exact hC.put _ _
     case measure=>simp [intOf];omega
    ·have hy0:=hyb (by omega)
     subst hy0;clear hys hyb;have hc2:C<4294967296:=by omega
     go_wp2;go_roundw
     case rel =>
      refine ⟨k+1,by omega,by go_num,?_,?_,hbC.setCell (Nat.le_refl _) _⟩
      ·rw [← HCAR.out];go_num
      ·rw [← HSET.out,← HDIG.out,← u32s_set];exact hC.put _ _
     case measure=>simp [intOf];omega
   ·have hkk:k=Pl.W b+1:=by omega
    rw [hkk,Pl.mixD_full] at hC;have hby:=Lib.hid (fun W hB=>bytes_any w2.heap.size (Pl.W b+1) (Pl.W b+1) (Pl.dg 4294967296 (Pl.W b+1) (b+a)) W hB (by rw [Pl.dg_length];omega) (by omega) (by omega) (Pl.dg_lt (by omega)));rw [List.take_of_length_le (by rw [Pl.dg_length];omega),Pl.vB_dg,Nat.mod_eq_of_lt (Pl.sum_lt b a (by omega))] at hby;clear hkk hf hDa hDb hW;go_wp2_with (go_at_call 200;refine (hby.out _ hC).mono ?_;rintro e w4 ⟨rfl,hb4⟩)
    go_ret;exact ⟨by rw [Nat.add_comm];rfl,bel_up (bel_up hb12 hbC) hb4⟩
 ·have hf:True:=trivial
  have hmk:=make_words ((Pl.W a:Int)+1) (Pl.W a+1) (by omega) (by omega);have HMK:=Lib.hid hmk;clear hmk;go_enter Tryz.func172,Tryz.ntmps172;go_wp2_with (first|(go_at_call 189;refine (hW.out _).mono ?_;rintro e w1 ⟨rfl,rfl⟩)|(simp only [HA.out]))
  go_wp2_with fail;refine (hDa.out _).mono ?_;rintro e w1 ⟨rfl,hB1,hb1⟩;go_wp2_with fail;refine (hDb.out _).mono ?_;rintro e w2 ⟨rfl,hB2,hb2⟩;have hB1:=hB1.up hb2;have hb12:Below w.heap.size w w2:=bel_up hb1 hb2;have hmk:=HMK.out;obtain ⟨w3,hcp,hB3,hk3⟩:=copy_words (w2.alloc (.cells (u32s (Pl.dg 4294967296 (Pl.W a+1) 0)).toArray 165)) w.heap.size w2.heap.size (Pl.W a) (Pl.W a+1) (Pl.W a) (Pl.W a+1) 3 _ _ (hB1.alloc _) (Blk.new _ _ _) (Pl.dg_length _ _ _) (Pl.dg_length _ _ _) (by omega);have hb3:Below w2.heap.size w2 w3:=hk3 _ _ (Nat.le_refl _) ((Below.refl _ _).alloc (Nat.le_refl _) _);rw [Pl.dg_pad 4294967296 a (Pl.W a) 1 (by omega) (Pl.lt_W a)] at hB3;clear hk3;have hgs:=hB2.lt;go_wp2_with fail;clear hcp hmk HMK;go_loopw [13,14,53] (fun c _ i wr=>∃ k:Nat,k≤Pl.W a+1∧i=.int .i64 k∧c=.int .u64 (Pl.carry 4294967296 a b k:Nat)∧Blk wr w2.heap.size 165 (u32s (Pl.mixD 4294967296 (Pl.W a+1) (a+b) a k))∧Below w2.heap.size w2 wr) (fun _ _ i _=>Pl.W a+1-(intOf i).toNat)
  case atStart=>exact ⟨0,Nat.zero_le _,rfl,by rw [Pl.carry_zero];rfl,by rw [Pl.mixD_zero];exact hB3,hb3⟩
  case round =>
   obtain ⟨k,hk,rfl,rfl,hC,hbC⟩:=hrel
   by_cases hkl:k<Pl.W a+1
   ·have hx:=hC.cell k
    rw [u32s_get,Pl.mixD_get _ _ _ _ _ hkl] at hx;simp only [Option.map_some] at hx;have hf:=hC.free k;have hset:=Pl.mixD_set 4294967296 (Pl.W a+1) (a+b) a k hkl;have hdig:=Pl.carry_digit 4294967296 a b k (by omega);have hcar:=Pl.carry_succ 4294967296 a b k (by omega);have hc1:=Pl.carry_le 4294967296 a b k (by omega);have hx1:a/4294967296 ^ k%4294967296<4294967296:=Nat.mod_lt _ (by omega);have hy1:b/4294967296 ^ k%4294967296<4294967296:=Nat.mod_lt _ (by omega)
    have hys:k<Pl.W b→wr.cell? ⟨w1.heap.size,k,none⟩=some (.int .u32 ((b/4294967296 ^ k%4294967296:Nat):Int)):=fun h=>by
     rw [(hB2.up hbC).cell];exact u32s_dg _ _ _ h
    have hyb:Pl.W b≤k→b/4294967296 ^ k%4294967296=0:=fun h=>Pl.dig_beyond _ _ _ _ (by omega) (Pl.lt_W b) h
    generalize a/4294967296 ^ k%4294967296=X at *;generalize b/4294967296 ^ k%4294967296=Y at *;generalize Pl.carry 4294967296 a b k=C at *;have HSET:=Lib.hid hset;have HDIG:=Lib.hid hdig;have HCAR:=Lib.hid hcar;clear hset hdig hcar
    by_cases hks:k<Pl.W b
    ·have hy:=hys hks
     clear hys hyb;go_wp2;go_roundw
     case rel =>
      refine ⟨k+1,by omega,by go_num,?_,?_,hbC.setCell (Nat.le_refl _) _⟩
      ·rw [← HCAR.out];go_num
      ·rw [← HSET.out,← HDIG.out,← u32s_set];exact hC.put _ _
     case measure=>simp [intOf];omega
    ·have hy0:=hyb (by omega)
     subst hy0;clear hys hyb;have hc2:C<4294967296:=by omega
     go_wp2;go_roundw
     case rel =>
      refine ⟨k+1,by omega,by go_num,?_,?_,hbC.setCell (Nat.le_refl _) _⟩
      ·rw [← HCAR.out];go_num
      ·rw [← HSET.out,← HDIG.out,← u32s_set];exact hC.put _ _
     case measure=>simp [intOf];omega
   ·have hkk:k=Pl.W a+1:=by omega
    rw [hkk,Pl.mixD_full] at hC;have hby:=Lib.hid (fun W hB=>bytes_any w2.heap.size (Pl.W a+1) (Pl.W a+1) (Pl.dg 4294967296 (Pl.W a+1) (a+b)) W hB (by rw [Pl.dg_length];omega) (by omega) (by omega) (Pl.dg_lt (by omega)));rw [List.take_of_length_le (by rw [Pl.dg_length];omega),Pl.vB_dg,Nat.mod_eq_of_lt (Pl.sum_lt a b (by omega))] at hby;clear hkk hf hDa hDb hW;go_wp2_with (go_at_call 200;refine (hby.out _ hC).mono ?_;rintro e w4 ⟨rfl,hb4⟩)
    go_ret;exact ⟨rfl,bel_up (bel_up hb12 hbC) hb4⟩

theorem add_any (a b:Nat) (w:World) (ha:Pl.L a≤67108864) (hb:Pl.L b≤67108864) :
 Calls Tryz.prog 172 #[.string (mg a),.string (mg b)] w fun e w'=>e=.returned (.string (mg (a+b)))∧Below w.heap.size w w':=by
 rcases Nat.lt_or_ge 8 (Pl.L a) with h1|h1
 ·exact add_long a b w ha hb (.inl h1)
 rcases Nat.lt_or_ge 8 (Pl.L b) with h2|h2
 ·exact add_long a b w ha hb (.inr h2)
 rcases Nat.lt_or_ge (a+b) 18446744073709551616 with h|h
 ·exact add_small a b w h1 h2 h
 ·exact add_over a b w ha hb h1 h2 h
end Go.Proofs.YtiochgoocbkckaaGreatDoor

namespace Go.Proofs.YtiochgoocbkckaaGreatDoor
open Go Go.RowKit Go.Shelf

theorem sub_small (a b:Nat) (w:World) (ha:Pl.L a≤8) (hab:b≤a) :
 Calls Tryz.prog 174 #[.string (mg a),.string (mg b)] w fun e w'=>e=.returned (.string (mg (a-b)))∧Below w.heap.size w w':=by
 have h:=word_of_L ha;have hb:Pl.L b≤8:=Nat.le_trans (Pl.L_mono hab) ha;have hW:=Lib.hid (fun W=>words_mg a b W ha hb);have hM:=Lib.hid (fun W=>magnitude_any (a-b) W (by omega));have e:(a:Int)-b=((a-b:Nat):Int):=by omega
 clear ha hb;go_enter Tryz.func174,Tryz.ntmps174;go_wp2_with (first|(go_at_call 189;refine (hW.out _).mono ?_;rintro e w1 ⟨rfl,rfl⟩)|(go_at_call 190;refine (hM.out _).mono ?_;rintro e w1 ⟨rfl,hb1⟩))
 go_ret;exact ⟨rfl,hb1⟩

set_option maxHeartbeats 2000000 in
theorem sub_long (a b:Nat) (w:World) (ha:Pl.L a≤67108864) (hab:b≤a) (h:8<Pl.L a) :
 Calls Tryz.prog 174 #[.string (mg a),.string (mg b)] w fun e w'=>e=.returned (.string (mg (a-b)))∧Below w.heap.size w w':=by
 have hb:Pl.L b≤67108864:=Nat.le_trans (Pl.L_mono hab) ha;have hwba:Pl.W b≤Pl.W a:=Pl.W_mono hab;have hW:=Lib.hid (fun W=>words_long a b W (.inl h));have hDa:=Lib.hid (fun W=>digits_any a W ha);have hDb:=Lib.hid (fun W=>digits_any b W hb);have hwa:Pl.W a≤16777216:=by unfold Pl.W;omega
 rw [show (Pl.L a+3)/4=Pl.W a from rfl] at hDa;rw [show (Pl.L b+3)/4=Pl.W b from rfl] at hDb;have HAB:=Lib.hid hab;clear ha hb h hab;have hmk:=make_words (Pl.W a:Int) (Pl.W a) (by omega) (by omega);have HMK:=Lib.hid hmk;clear hmk;go_enter Tryz.func174,Tryz.ntmps174;go_wp2_with fail;refine (hW.out _).mono ?_;rintro e w1 ⟨⟨x,y,rfl⟩,rfl⟩;go_wp2_with fail;refine (hDa.out _).mono ?_;rintro e w1 ⟨rfl,hB1,hb1⟩;go_wp2_with fail;refine (hDb.out _).mono ?_;rintro e w2 ⟨rfl,hB2,hb2⟩;have hB1:=hB1.up hb2;have hb12:Below w.heap.size w w2:=bel_up hb1 hb2;have hmk:=HMK.out;obtain ⟨w3,hcp,hB3,hk3⟩:=copy_words (w2.alloc (.cells (u32s (Pl.dg 4294967296 (Pl.W a) 0)).toArray 165)) w.heap.size w2.heap.size (Pl.W a) (Pl.W a) (Pl.W a) (Pl.W a) 3 _ _ (hB1.alloc _) (Blk.new _ _ _) (Pl.dg_length _ _ _) (Pl.dg_length _ _ _) (by omega);have hb3:Below w2.heap.size w2 w3:=hk3 _ _ (Nat.le_refl _) ((Below.refl _ _).alloc (Nat.le_refl _) _);rw [List.drop_of_length_le (by rw [Pl.dg_length];omega),List.append_nil] at hB3;clear hk3;have hgs:=hB2.lt;go_wp2_with fail;clear hcp hmk HMK;go_loopw [11,12,13,38] (fun c _ _ i wr=>∃ k:Nat,k≤Pl.W a∧i=.int .i64 k∧c=.int .i64 (Pl.carry 4294967296 (a-b) b k:Nat)∧Blk wr w2.heap.size 165 (u32s (Pl.mixD 4294967296 (Pl.W a) (a-b) a k))∧Below w2.heap.size w2 wr) (fun _ _ _ i _=>Pl.W a-(intOf i).toNat)
 case atStart=>exact ⟨0,Nat.zero_le _,rfl,by rw [Pl.carry_zero];rfl,by rw [Pl.mixD_zero];exact hB3,hb3⟩
 case round =>
  obtain ⟨k,hk,rfl,rfl,hC,hbC⟩:=hrel
  by_cases hkl:k<Pl.W a
  ·have hx:=hC.cell k
   rw [u32s_get,Pl.mixD_get _ _ _ _ _ hkl] at hx;simp only [Option.map_some] at hx;have hf:=hC.free k;have hset:=Pl.mixD_set 4294967296 (Pl.W a) (a-b) a k hkl;have hstep:=Pl.borrow_step 4294967296 a b k (by omega) HAB.out;have hc1:=Pl.carry_le 4294967296 (a-b) b k (by omega);have hx1:a/4294967296 ^ k%4294967296<4294967296:=Nat.mod_lt _ (by omega);have hy1:b/4294967296 ^ k%4294967296<4294967296:=Nat.mod_lt _ (by omega)
   have hys:k<Pl.W b→wr.cell? ⟨w1.heap.size,k,none⟩=some (.int .u32 ((b/4294967296 ^ k%4294967296:Nat):Int)):=fun h=>by
    rw [(hB2.up hbC).cell];exact u32s_dg _ _ _ h
   have hyb:Pl.W b≤k→b/4294967296 ^ k%4294967296=0:=fun h=>Pl.dig_beyond _ _ _ _ (by omega) (Pl.lt_W b) h
   have hz1:(a-b)/4294967296 ^ k%4294967296<4294967296:=Nat.mod_lt _ (by omega);generalize a/4294967296 ^ k%4294967296=X at *;generalize b/4294967296 ^ k%4294967296=Y at *;generalize hZ:(a-b)/4294967296 ^ k%4294967296=Z at *;generalize Pl.carry 4294967296 (a-b) b k=C at *;obtain ⟨hs1,hs2⟩:=hstep _ rfl;have HSET:=Lib.hid hset;have H1:=Lib.hid hs1;have H2:=Lib.hid hs2;clear hset hs1 hs2 hstep hZ
   by_cases hks:k<Pl.W b
   ·have hy:=hys hks
    clear hys hyb
    by_cases hneg:(X:Int)-C-Y<0
    ·obtain ⟨e1,e2⟩:=H1.out hneg
     have E1:=Lib.hid e1;have E2:=Lib.hid e2;clear e1 e2 H1 H2;go_wp2;go_roundw
     case rel =>
      refine ⟨k+1,by omega,by go_num,by rw [E2.out];rfl,?_,hbC.setCell (Nat.le_refl _) _⟩;rw [← HSET.out,← u32s_set,← E1.out];exact hC.put _ _
     case measure=>simp [intOf];omega
    ·obtain ⟨e1,e2⟩:=H2.out (by omega)
     have E1:=Lib.hid e1;have E2:=Lib.hid e2;clear e1 e2 H1 H2;go_wp2;go_roundw
     case rel =>
      refine ⟨k+1,by omega,by go_num,by rw [E2.out];rfl,?_,hbC.setCell (Nat.le_refl _) _⟩;rw [← HSET.out,← u32s_set,← E1.out];exact hC.put _ _
     case measure=>simp [intOf];omega
   ·have hy0:=hyb (by omega)
    subst hy0;clear hys hyb
    by_cases hneg:(X:Int)-C<0
    ·obtain ⟨e1,e2⟩:=H1.out (by omega)
     have E1:Hid ((X:Int)-C+4294967296=Z):=Lib.hid (by omega);have E2:=Lib.hid e2;clear e1 e2 H1 H2;go_wp2;go_roundw
     case rel =>
      refine ⟨k+1,by omega,by go_num,by rw [E2.out];rfl,?_,hbC.setCell (Nat.le_refl _) _⟩;rw [← HSET.out,← u32s_set,← E1.out];exact hC.put _ _
     case measure=>simp [intOf];omega
    ·obtain ⟨e1,e2⟩:=H2.out (by omega)
     have E1:Hid ((X:Int)-C=Z):=Lib.hid (by omega);have E2:=Lib.hid e2;clear e1 e2 H1 H2;go_wp2;go_roundw
     case rel =>
      refine ⟨k+1,by omega,by go_num,by rw [E2.out];rfl,?_,hbC.setCell (Nat.le_refl _) _⟩;rw [← HSET.out,← u32s_set,← E1.out];exact hC.put _ _
     case measure=>simp [intOf];omega
  ·have hkk:k=Pl.W a:=by omega
   rw [hkk,Pl.mixD_full] at hC;have hby:=Lib.hid (fun W hB=>bytes_any w2.heap.size (Pl.W a) (Pl.W a) (Pl.dg 4294967296 (Pl.W a) (a-b)) W hB (by rw [Pl.dg_length];omega) (by omega) (by omega) (Pl.dg_lt (by omega)));rw [List.take_of_length_le (by rw [Pl.dg_length];omega),Pl.vB_dg,Nat.mod_eq_of_lt (Nat.lt_of_le_of_lt (Nat.sub_le a b) (Pl.lt_W a))] at hby;clear hkk hDa hDb hW;go_wp2_with (go_at_call 200;refine (hby.out _ hC).mono ?_;rintro e w4 ⟨rfl,hb4⟩)
   go_ret;exact ⟨rfl,bel_up (bel_up hb12 hbC) hb4⟩
theorem sub_any (a b:Nat) (w:World) (ha:Pl.L a≤67108864) (hab:b≤a) :
 Calls Tryz.prog 174 #[.string (mg a),.string (mg b)] w fun e w'=>e=.returned (.string (mg (a-b)))∧Below w.heap.size w w':=by
 rcases Nat.lt_or_ge 8 (Pl.L a) with h|h
 ·exact sub_long a b w ha hab h
 ·exact sub_small a b w h hab
end Go.Proofs.YtiochgoocbkckaaGreatDoor
