/-
 Contracts of the reference for fractions: digits to the base 256.
 Contracts of the reference for fractions: an integer of digits; machine integers and digits.
 Contracts of the reference for fractions: comparing, adding and subtracting digits.
 Contracts of the reference for fractions: subtracting digits.
 Contracts of the reference for fractions: products of digits.
 Contracts of the reference for fractions: digits as machine integers, and back.
 Contracts of the reference for fractions: division of digits.
-/
import Derived.Test.YtdkkjfnpinckjaaGreatDoorYMh
import Derived.Deep.RegionWith
set_option maxRecDepth 100000
set_option linter.unusedSimpArgs false
set_option linter.unusedVariables false
namespace Go.Proofs.YtdkkjfnpinckjaaGreatDoor
open Go Go.RowKit

theorem rtrim_some (g o n c:Nat) (l:List Nat) (w:World) (hl:l.length=n) (hc:n≤c) (hbig:n≤1073741824) (hx:∀ j u,(ints l)[j]?=some u→w.cell? ⟨g,o+j,none⟩=some u) :
 Calls Tryz.prog 111 #[.slice (some ⟨g,o,none⟩) n c] w fun e w'=>e=.returned (.slice (some ⟨g,o,none⟩) (Pl.tlen l) c)∧w=w':=by
 have HX:=Lib.hid hx;clear hx;go_enter Tryz.func111,Tryz.ntmps111;go_wp2_with fail;go_loop [3] (fun s=>∃ k:Nat,k≤n∧s=.int .i64 k∧Pl.tlen (l.take k)=Pl.tlen l) (fun s=>(intOf s).toNat)
 case atStart=>exact ⟨n,Nat.le_refl _,rfl,by rw [List.take_of_length_le (by omega)]⟩
 case round =>
  obtain ⟨k,hk,rfl,hrel⟩:=hrel;have HR:=Lib.hid hrel;clear hrel
  by_cases h0:k=0
  ·subst h0
   have HT:Hid (Pl.tlen l=0):=Lib.hid (by rw [← HR.out];rfl);go_wp2;go_ret;exact ⟨by rw [HT.out];rfl,rfl⟩
  ·have hcell:=HX.out (k-1) (.int .i64 (l[k-1]'(by omega))) (by rw [ints_get,List.getElem?_eq_getElem (by omega)];rfl)
   have i1:(0:Int)<k:=by omega
   have i2:(1:Int)≤k:=by omega
   have i3:(k:Int)-1<n:=by omega
   have i4:((k:Int)-1).toNat=k-1:=by omega
   by_cases hz:l[k-1]'(by omega)=0
   ·rw [hz] at hcell
    have HT:=Lib.hid (Pl.tlen_take_zero l k (by omega) (by omega) hz);clear hz;go_wp2;go_round
    case rel=>exact ⟨k-1,by omega,congrArg (Value.int .i64) (by omega),by rw [← HT.out,HR.out]⟩
    case measure=>simp [intOf];omega
   ·have hz':((l[k-1]'(by omega):Nat):Int)≠0:=Int.natCast_ne_zero.2 hz
    have HT:=Lib.hid (Pl.tlen_take_last l k (by omega) (by omega) hz);have HK:Hid (Pl.tlen l=k):=Lib.hid (by rw [← HR.out,HT.out]);clear HT;generalize l[k-1]'(by omega)=d at hcell hz';clear hz;go_wp2;go_ret;exact ⟨by rw [HK.out];rfl,rfl⟩

theorem rtrim_nil (w:World):Calls Tryz.prog 111 #[.slice none 0 0] w fun e w'=>e=.returned (.slice none 0 0)∧w=w':=by
 go_enter Tryz.func111,Tryz.ntmps111;go_wp2;go_rounds 1;go_ret;exact ⟨rfl,rfl⟩
theorem ints_take (l:List Nat) (k:Nat):(ints l).take k=ints (l.take k):=by simp [ints,List.map_take]
theorem rtrim_any (v:Value) (n:Nat) (l:List Nat) (w:World) (h:Sl w v n 1 (ints l)) (hd:∀ d∈l,d<256) (hbig:n≤1073741824) :
 Calls Tryz.prog 111 #[v] w fun e w'=>(∃ v',e=.returned v'∧DV w v' (Pl.vB 256 l)∧∀ B,Fresh B v→Fresh B v')∧w=w':=by
 have hl:l.length=n:=by have:=h.1;rw [ints_length] at this;omega
 obtain ⟨t1,t2⟩:=trim_dL n hl hd;rcases h.2 with ⟨rfl,h0⟩|⟨g,o,c,rfl,hc,hm,hx⟩
 ·subst h0
  have:l=[]:=List.eq_nil_of_length_eq_zero hl;subst this;exact (rtrim_nil w).mono fun e w' ⟨he,hw⟩=>⟨⟨_,he,by exact Sl.nil w 1,fun _ h=>h⟩,hw⟩
 ·refine (rtrim_some g o n c l w hl hc hbig hx).mono fun e w' ⟨he,hw⟩=>⟨⟨_,he,?_,fun B hF a m c' hv => ?_⟩,hw⟩
  ·have:=h.take (Pl.tlen l) (by have:=Pl.tlen_le l;omega)
   rw [Nat.mul_one,ints_take,t1,t2] at this;rw [DV,t2];exact this
  ·injection hv with e1 e2 e3
   injection e1 with e1
   rw [← e1];exact hF _ _ _ rfl

theorem ti_int:TI Tryz.prog 98 3 1 8:=⟨Tryz.underlying98,by kernel_rfl,by decide⟩
theorem dg_snoc (n k:Nat):Pl.dg 256 (k+1) n=Pl.dg 256 k n++[n/256 ^ k%256]:=Pl.dg_succ 256 k n
theorem ints_snoc (l:List Nat) (d:Nat):ints (l++[d])=ints l++[.int .i64 (d:Int)]:=by simp [ints]
theorem one_int (d:Int):∀ u∈[Value.int .i64 d],u.oneCell'=true:=by intro u hu;rw [List.mem_singleton.1 hu];rfl
theorem rdigits_any (s:Bool) (n:Nat) (w:World) (hn:Pl.L n≤67108864) :
 Calls Tryz.prog 101 #[.agg #[.bool s,.string (mg n)]] w fun e w'=>∃ v,e=.returned v∧DV w' v n∧Below w.heap.size w w':=by
 have hs:=mg_size n;have H0:Hid (Own (w.alloc (.cells #[.bool s,.string (mg n)] 31)) w.heap.size 0 [.bool s,.string (mg n)]):=Lib.hid (by simp [Own,go_sem]);go_enter Tryz.func101,Tryz.ntmps101;go_wp2_with fail;go_loopw [3,4] (fun v i wr=>∃ k:Nat,k≤Pl.L n∧i=.int .i64 ((Pl.L n:Int)-1-k)∧wr.ownsRow (w.heap.size+1) 3 1 v k (ints (Pl.dg 256 k n))∧Below (w.heap.size+1) (w.alloc (.cells #[.bool s,.string (mg n)] 31)) wr) (fun _ i _=>(intOf i+1).toNat)
 case atStart=>exact ⟨0,Nat.zero_le _,congrArg (Value.int .i64) (by omega),World.ownsRow_nil _ _ _ _,Below.refl _ _⟩
 case round =>
  obtain ⟨k,hk,rfl,hown,hb⟩:=hrel;have hbox:=H0.out.below (by omega) hb;have hb2:Below w.heap.size w wr:=bel_up ((Below.refl _ _).alloc (Nat.le_refl _) _) (hb.mono (by simp));have hsz:w.heap.size+1≤wr.heap.size:=by have:=hb.size;simpa using this
  have hbx:=hbox;simp only [Own,Nat.reduceAdd,and_true] at hbx
  by_cases hlt:k<Pl.L n
  ·have i1:(0:Int)≤(Pl.L n:Int)-1-k:=by omega
   have i2:(Pl.L n:Int)-1-k<Pl.L n:=by omega
   have i3:((Pl.L n:Int)-1-k).toNat=Pl.L n-1-k:=by omega
   have hlen:Pl.L n-1-k<(mg n).size:=by omega
   have hbt:((mg n)[Pl.L n-1-k]'hlen).toNat=n/256 ^ k%256:=mg_get n k hlt hlen;have hd:n/256 ^ k%256<256:=Nat.mod_lt _ (by omega);have HSN:=Lib.hid (dg_snoc n k);have HO:=Lib.hid hown;generalize n/256 ^ k%256=d at *;clear hown;go_wp2_with (at_builtin;refine wpList_app1 rfl _ _ _ rfl ti_int HO.out hb hsz rfl rfl rfl rfl (one_int _) (by omega) (by decide) ?_)
   intro v' w1 hown' hb';rw [← ints_snoc,← HSN.out] at hown';have hbx':=H0.out.below (by omega) hb';simp only [Own,Nat.reduceAdd,and_true] at hbx';clear hbx;have HO':=Lib.hid hown';clear hown' HO;go_wp2;go_roundw
   case rel=>exact ⟨k+1,by omega,congrArg (Value.int .i64) (by omega),HO'.out,hb'⟩
   case measure=>simp [intOf];omega
  ·have hk':k=Pl.L n:=by omega
   subst hk';have hR:=rtrim_any _ (Pl.L n) (Pl.dg 256 (Pl.L n) n) wr (Sl.of_own hown) (Pl.dg_lt (by omega)) (by omega);rw [Pl.vB_dg,Nat.mod_eq_of_lt (Pl.lt_L n)] at hR;have HR:=Lib.hid hR;clear hR hown;go_wp2_with fail;refine HR.out.mono ?_;rintro e w1 ⟨⟨v',rfl,hv,_⟩,rfl⟩;go_wp2;go_ret;exact ⟨_,rfl,hv,hb2⟩
end Go.Proofs.YtdkkjfnpinckjaaGreatDoor

namespace Go.Proofs.YtdkkjfnpinckjaaGreatDoor
open Go Go.RowKit

theorem dL_lt (n:Nat):∀ d∈dL n,d<256:=Pl.dg_lt (by omega)
theorem vB_dL (n:Nat):Pl.vB 256 (dL n)=n:=by rw [dL,Pl.vB_dg,Nat.mod_eq_of_lt (Pl.lt_L n)]
theorem dL_get (n i:Nat) (h:i<Pl.L n):(ints (dL n))[i]?=some (.int .i64 ((n/256 ^ i%256:Nat):Int)):=by
 rw [ints_get,List.getElem?_eq_getElem (by rw [dL_length];exact h)];simp only [dL,Pl.dg_get,Option.map_some]
theorem rtrim_dv (v:Value) (n:Nat) (w:World) (h:DV w v n) (hn:Pl.L n≤67108864) :
 Calls Tryz.prog 111 #[v] w fun e w'=>(∃ v',e=.returned v'∧DV w v' n)∧w=w':=by
 have:=rtrim_any v (Pl.L n) (dL n) w h (dL_lt n) (by omega);rw [vB_dL] at this;exact this.mono fun e w' ⟨⟨v',h1,h2,_⟩,h3⟩=>⟨⟨v',h1,h2⟩,h3⟩
theorem dv_some {w:World} {v:Value} {n:Nat} (h:DV w v n) (h0:n≠0):∃ g o c,v=.slice (some ⟨g,o,none⟩) (Pl.L n) c∧Pl.L n≤c∧c≤maxLen∧g<w.heap.size∧∀ i,i<Pl.L n→w.cell? ⟨g,o+i,none⟩=some (.int .i64 ((n/256 ^ i%256:Nat):Int)):=by
 have hL:=Pl.L_pos h0;rcases h.2 with ⟨_,h2⟩|⟨g,o,c,hv,hc,hm,hx⟩
 ·omega
 ·refine ⟨g,o,c,hv,hc,hm,?_,fun i hi=>hx i _ (dL_get n i hi)⟩
  exact World.block_lt_of_cell? _ _ (hx 0 _ (dL_get n 0 hL))
theorem dv_zero {w:World} {v:Value} (h:DV w v 0):v=.slice none 0 0∨∃ g o c,v=.slice (some ⟨g,o,none⟩) 0 c∧c≤maxLen:=by
 rcases h.2 with ⟨h1,_⟩|⟨g,o,c,hv,hc,hm,hx⟩
 ·exact .inl h1
 ·exact .inr ⟨g,o,c,hv,hm⟩
theorem mg_of_bytes (n:Nat):strOfNums ((Pl.bytesOf (Pl.L n) n).map fun (d:Nat)=>(d:Int))=mg n:=by
 rw [← mg_of_nums];unfold Pl.bytesOf;rw [List.map_map];rfl

theorem rwhole_zero (v:Value) (s:Bool) (w:World) (h:DV w v 0) :
 Calls Tryz.prog 102 #[v,.bool s] w fun e w'=>e=.returned (nv 0)∧Below w.heap.size w w':=by
 have hT:=Lib.hid (fun W hW=>rtrim_dv v 0 W hW (by decide));have hmk:=make_bytes 0 0 rfl (by omega);have hcv:=fun W g=>run_convert_bytes_arg (P:=Tryz.prog) W 140 5 Tryz.underlying140 Tryz.underlying5 g 0 0 0 [] rfl (fun i hi=>by omega) 9 Tryz.underlying9
 have HZ:Hid (strOfNums []=mg 0):=Lib.hid rfl;have hd:=h.up ((Below.refl _ w).alloc (Nat.le_refl _) (.cells #[.bool false,.string ⟨#[]⟩] 31));have HD:=Lib.hid hd;clear hd h;rw [HZ.out] at hcv;obtain ⟨z,hz⟩:∃ z,mg 0=z:=⟨_,rfl⟩
 rw [hz] at hcv;have HZ2:=Lib.hid hz;clear HZ hz;go_enter Tryz.func102,Tryz.ntmps102;go_wp2_with fail;refine (hT.out _ HD.out).mono ?_;rintro e w1 ⟨⟨v',rfl,hv⟩,rfl⟩;rcases dv_zero hv with rfl|⟨g,o,c,rfl,hm⟩
 all_goals
  cases s
  all_goals
   clear hv;go_wp2;go_rounds 1;refine bodyPost_ret (v:=.agg #[.bool false,.string z]) (by simp [results,Tryz.results102,go_sem]) rfl ⟨by rw [nv,HZ2.out],?_⟩;exact bB

theorem blk_new {w:World} {g:Nat} {t:TypeId} {cs:List Value} (h:g=w.heap.size):Blk (w.alloc (.cells cs.toArray t)) g t cs:=h▸Blk.new w t cs
set_option maxHeartbeats 1000000 in
theorem rwhole_pos (v:Value) (s:Bool) (n:Nat) (w:World) (h:DV w v n) (h0:n≠0) (hn:Pl.L n≤67108864) :
 Calls Tryz.prog 102 #[v,.bool s] w fun e w'=>e=.returned (.agg #[.bool s,.string (mg n)])∧Below w.heap.size w w':=by
 have hT:=Lib.hid (fun W hW=>rtrim_dv v n W hW hn);have hmk:=make_bytes (Pl.L n) (Pl.L n) rfl (by omega);have hL:=Pl.L_pos h0;have hd:=h.up ((Below.refl _ w).alloc (Nat.le_refl _) (.cells #[.bool false,.string ⟨#[]⟩] 31));have HD:=Lib.hid hd;have HSTR:=Lib.hid (mg_of_bytes n);have H0:Hid (Own (w.alloc (.cells #[.bool false,.string ⟨#[]⟩] 31)) w.heap.size 0 [.bool false,.string ⟨#[]⟩]):=Lib.hid (by simp [Own,go_sem]);clear hd h h0;go_enter Tryz.func102,Tryz.ntmps102;go_wp2_with fail;refine (hT.out _ HD.out).mono ?_;rintro e w1 ⟨⟨v',rfl,hv⟩,rfl⟩;obtain ⟨g,o,c,rfl,hc,hm,hgl,hx⟩:=dv_some hv (fun e=>by subst e;simp [Pl.L_zero] at hL);have HX:=Lib.hid hx;clear hx hv;have hgl:g<w.heap.size+1:=by simpa using hgl
 generalize hN:Pl.L n=N at *;have HN:=Lib.hid hN;clear hN;go_wp2_with fail;clear hmk;go_loopw [6] (fun i wr=>∃ k:Nat,k≤N∧i=.int .i64 k∧Blk wr (w.heap.size+1) 5 (u8s (Pl.bytesUp N n k))∧Below (w.heap.size+1) (w.alloc (.cells #[.bool false,.string ⟨#[]⟩] 31)) wr) (fun i _=>N-(intOf i).toNat)
 case atStart=>exact ⟨0,Nat.zero_le _,rfl,by rw [Pl.bytesUp_zero];exact blk_new (by simp),(Below.refl _ _).alloc (by simp) _⟩
 case round =>
  obtain ⟨k,hk,rfl,hb,hbl⟩:=hrel
  by_cases hlt:k<N
  ·have hx:=(hbl.cell (p:=⟨g,o+k,none⟩) (by exact hgl)).trans (HX.out k hlt)
   have hD:n/256 ^ k%256<256:=Nat.mod_lt _ (by omega);have hcl:=hb.cellAt (i:=N-1-k) (by rw [u8s_length,Pl.bytesUp_length];omega);have hf:=hb.free (N-1-k);generalize (u8s (Pl.bytesUp N n k))[N-1-k]'(by rw [u8s_length,Pl.bytesUp_length];omega)=old at hcl;have HU:=Lib.hid (Pl.bytesUp_succ N n k hlt);generalize n/256 ^ k%256=d at *;have hne:w.heap.size+1≠g:=by omega
   go_wp2;go_roundw
   case rel=>exact ⟨k+1,by omega,by go_num,by rw [← HU.out,← u8s_set];exact hb.put _ _,hbl.setCell (Nat.le_refl _) _⟩
   case measure=>simp [intOf];omega
  ·have hkm:k=N:=by omega
   have hcv:=run_convert_bytes_arg (P:=Tryz.prog) wr 140 5 Tryz.underlying140 Tryz.underlying5 (w.heap.size+1) 0 N N ((Pl.bytesOf N n).map fun (d:Nat)=>(d:Int)) (by simp [Pl.bytesOf_length]) (fun i hi=>by
    rw [hb.cell,Nat.zero_add,hkm,Pl.bytesUp_full,u8s_get,List.getD_eq_getElem?_getD,List.getElem?_map,List.getElem?_eq_getElem (by rw [Pl.bytesOf_length];exact hi)]
    rfl) 9 Tryz.underlying9
   have hbx:=H0.out.below (by omega) hbl;simp only [Own,Nat.reduceAdd,and_true] at hbx;rw [HSTR.out] at hcv;have i1:(0:Int)<N:=by omega
   have hB:Below w.heap.size w wr:=bel_up ((Below.refl _ _).alloc (Nat.le_refl _) _) (hbl.mono (by simp));clear HSTR hkm hb;cases s
   all_goals
    go_wp2;refine bodyPost_ret (v:=.agg #[.bool _,.string (mg n)]) (by simp [results,Tryz.results102,go_sem,hbx]) rfl ⟨rfl,?_⟩;repeat (first|with_reducible exact hB|refine Below.setCell ?_ (by first|(simp;done)|(simp;omega)|omega) _)
theorem rwhole_any (v:Value) (s:Bool) (n:Nat) (w:World) (h:DV w v n) (hn:Pl.L n≤67108864) :
 Calls Tryz.prog 102 #[v,.bool s] w fun e w'=>e=.returned (.agg #[.bool (s&&decide (n≠0)),.string (mg n)])∧Below w.heap.size w w':=by
 by_cases h0:n=0
 ·subst h0
  have:=rwhole_zero v s w h;rw [show (s&&decide ((0:Nat)≠0))=false by simp];exact this
 ·rw [decide_eq_true h0,Bool.and_true]
  exact rwhole_pos v s n w h h0 hn
end Go.Proofs.YtdkkjfnpinckjaaGreatDoor

namespace Go.Proofs.YtdkkjfnpinckjaaGreatDoor
open Go Go.RowKit

theorem dv_form {w:World} {v:Value} {n:Nat} (h:DV w v n):∃ A c,v=.slice A (Pl.L n) c:=by
 rcases h.2 with ⟨h1,h2⟩|⟨g,o,c,hv,_⟩
 ·exact ⟨none,0,by rw [h1,h2]⟩
 ·exact ⟨_,c,hv⟩
theorem len_lt {a b:Nat} (h:Pl.L a<Pl.L b):a<b:=by
 rcases Nat.lt_or_ge a b with h1|h1
 ·exact h1
 ·have:=Pl.L_mono h1;omega
theorem cmpZ_lt {a b:Int} (h:a<b):cmpZ a b=-1:=by unfold cmpZ;rw [if_pos h]
theorem cmpZ_gt {a b:Int} (h:b<a):cmpZ a b=1:=by unfold cmpZ;rw [if_neg (by omega),if_pos h]
theorem cmpZ_eq {a b:Int} (h:a=b):cmpZ a b=0:=by unfold cmpZ;rw [if_neg (by omega),if_neg (by omega)]
theorem high_digit (n k:Nat) (h:0<k):n/256 ^ (k-1)=256*(n/256 ^ k)+n/256 ^ (k-1)%256:=by
 obtain ⟨j,rfl⟩:∃ j,k=j+1:=⟨k-1,by omega⟩
 rw [Nat.add_sub_cancel,Nat.pow_succ,← Nat.div_div_eq_div_mul];exact (Nat.div_add_mod _ _).symm
theorem lt_of_high {a b k:Nat} (h:a/256 ^ k<b/256 ^ k):a<b:=by
 rcases Nat.lt_or_ge a b with h1|h1
 ·exact h1
 ·have:=Nat.div_le_div_right (c:=256 ^ k) h1;omega

theorem rcmp_len (va vb:Value) (a b:Nat) (w:World) (ha:DV w va a) (hb:DV w vb b) (h:Pl.L a≠Pl.L b) :
 Calls Tryz.prog 73 #[va,vb] w fun e w'=>e=.returned (.int .i64 (cmpZ a b))∧w=w':=by
 obtain ⟨A,c,rfl⟩:=dv_form ha;obtain ⟨B,d,rfl⟩:=dv_form hb;have hne:((Pl.L a:Int) != (Pl.L b:Int))=true:=by simpa using (fun e=>h (Int.ofNat_inj.1 e))
 rcases Nat.lt_or_ge (Pl.L a) (Pl.L b) with hl|hl
 ·have HC:=Lib.hid (cmpZ_lt (Int.ofNat_lt.2 (len_lt hl)))
  clear ha hb;go_enter Tryz.func73,Tryz.ntmps73;go_wp2;go_ret;exact ⟨by rw [HC.out];rfl,rfl⟩
 ·have hl':¬ Pl.L a<Pl.L b:=by omega
  have HC:=Lib.hid (cmpZ_gt (Int.ofNat_lt.2 (len_lt (show Pl.L b<Pl.L a by omega))));clear ha hb;go_enter Tryz.func73,Tryz.ntmps73;go_wp2;go_ret;exact ⟨by rw [HC.out];rfl,rfl⟩
theorem rcmp_zero (va vb:Value) (w:World) (ha:DV w va 0) (hb:DV w vb 0) :
 Calls Tryz.prog 73 #[va,vb] w fun e w'=>e=.returned (.int .i64 0)∧w=w':=by
 obtain ⟨A,c,rfl⟩:=dv_form ha;obtain ⟨B,d,rfl⟩:=dv_form hb;rw [Pl.L_zero];clear ha hb;go_enter Tryz.func73,Tryz.ntmps73;go_wp2;go_rounds 1;go_ret;exact ⟨rfl,rfl⟩
theorem rcmp_same (va vb:Value) (a b:Nat) (w:World) (ha:DV w va a) (hb:DV w vb b) (h:Pl.L b=Pl.L a) (h0:a≠0) (hbig:Pl.L a≤1073741824) :
 Calls Tryz.prog 73 #[va,vb] w fun e w'=>e=.returned (.int .i64 (cmpZ a b))∧Below w.heap.size w w':=by
 have hL:=Pl.L_pos h0;have h0':b≠0:=fun e=>by subst e;simp [Pl.L_zero] at h;omega
 obtain ⟨g,o,c,rfl,hc,hm,hgl,hx⟩:=dv_some ha h0;obtain ⟨g',o',c',rfl,hc',hm',hgl',hx'⟩:=dv_some hb h0';have ea:a/256 ^ Pl.L a=b/256 ^ Pl.L a:=by rw [Nat.div_eq_of_lt (Pl.lt_L a),Nat.div_eq_of_lt (by rw [← h];exact Pl.lt_L b)]
 rw [h] at hx' hc' ⊢;have HX:=Lib.hid hx;have HX':=Lib.hid hx';have HE:=Lib.hid ea;clear hx hx' ha hb h ea h0 h0';generalize Pl.L a=N at *;go_enter Tryz.func73,Tryz.ntmps73;go_wp2_with fail;go_loopw [5] (fun i wr=>∃ k:Nat,k≤N∧i=.int .i64 ((k:Int)-1)∧a/256 ^ k=b/256 ^ k∧∃ q,wr=w.drewN q) (fun i _=>(intOf i+1).toNat)
 case atStart=>exact ⟨N,Nat.le_refl _,rfl,HE.out,0,rfl⟩
 case round =>
  obtain ⟨k,hk,rfl,he,q,rfl⟩:=hrel;have HK:=Lib.hid he;clear he
  by_cases hk0:k=0
  ·subst hk0
   have HC:Hid (cmpZ a b=0):=Lib.hid (cmpZ_eq (by have:=HK.out;simp at this;omega));go_wp2;go_ret;exact ⟨by rw [HC.out];rfl,bel_drewN (Below.refl _ _) _⟩
  ·have hxa:=HX.out (k-1) (by omega)
   have hxb:=HX'.out (k-1) (by omega);have ha':=high_digit a k (by omega);have hb':=high_digit b k (by omega);rw [← HK.out] at hb';have hA:=fun h=>@lt_of_high a b (k-1) h
   have hB:=fun h=>@lt_of_high b a (k-1) h
   have da:=Nat.mod_lt (a/256 ^ (k-1)) (show 256>0 by omega);have db:=Nat.mod_lt (b/256 ^ (k-1)) (show 256>0 by omega);generalize a/256 ^ k=H at *;generalize hra:a/256 ^ (k-1)=ra at *;generalize hrb:b/256 ^ (k-1)=rb at *;generalize ra%256=x at *;generalize rb%256=y at *;have i1:(0:Int)≤(k:Int)-1:=by omega
   have i2:(k:Int)-1<N:=by omega
   have i3:((k:Int)-1).toNat=k-1:=by omega
   have i4:(1:Int)≤k:=by omega
   have HRA:=Lib.hid hra;have HRB:=Lib.hid hrb;have HHA:=Lib.hid ha';have HHB:=Lib.hid hb';have HAA:=Lib.hid hA;have HBB:=Lib.hid hB;clear hra hrb ha' hb' hA hB;rcases Nat.lt_trichotomy x y with hxy|hxy|hxy
   ·have HC:Hid (cmpZ a b=-1):=Lib.hid (cmpZ_lt (Int.ofNat_lt.2 (HAA.out (by have:=HHA.out;have:=HHB.out;omega))))
    go_wp2_with fail;go_quiet (fail);go_wp2;go_ret;exact ⟨by rw [HC.out];rfl,by repeat (first|exact Below.refl _ _|refine bel_drewN ?_ _)⟩
   ·subst hxy
    have HK1:Hid (ra=rb):=Lib.hid (by have:=HHA.out;have:=HHB.out;omega);go_wp2_with fail;go_quiet (fail);go_wp2_with fail;go_quiet (fail);go_wp2;go_roundw
    case rel=>exact ⟨k-1,by omega,congrArg (Value.int .i64) (by omega),by rw [HRA.out,HRB.out,HK1.out],_,rfl⟩
    case measure=>simp [intOf];omega
   ·have HC:Hid (cmpZ a b=1):=Lib.hid (cmpZ_gt (Int.ofNat_lt.2 (HBB.out (by have:=HHA.out;have:=HHB.out;omega))))
    have hxy':¬ x<y:=by omega
    go_wp2_with fail;go_quiet (fail);go_wp2_with fail;go_quiet (fail);go_wp2;go_ret;exact ⟨by rw [HC.out];rfl,by repeat (first|exact Below.refl _ _|refine bel_drewN ?_ _)⟩
theorem dv_at {w:World} {A:Option Addr} {n c N k:Nat} (h:DV w (.slice A N c) n) (hk:k<Pl.L n):∃ g o,A=some ⟨g,o,none⟩∧g<w.heap.size∧w.cell? ⟨g,o+k,none⟩=some (.int .i64 ((n/256 ^ k%256:Nat):Int)):=by
 have h0:n≠0:=fun e=>by subst e;simp [Pl.L_zero] at hk
 obtain ⟨g,o,c',hv,_,_,hg,hx⟩:=dv_some h h0;injection hv with e1 e2 e3
 exact ⟨g,o,e1,hg,hx k hk⟩
theorem dig_zero {n k:Nat} (h:Pl.L n≤k):n/256 ^ k%256=0:=by
 rw [Nat.div_eq_of_lt ((Pl.L_le_iff n k).1 h)]
theorem rcmp_any (va vb:Value) (a b:Nat) (w:World) (ha:DV w va a) (hb:DV w vb b) (hbig:Pl.L a≤1073741824) :
 Calls Tryz.prog 73 #[va,vb] w fun e w'=>e=.returned (.int .i64 (cmpZ a b))∧Below w.heap.size w w':=by
 by_cases h:Pl.L a=Pl.L b
 ·by_cases h0:a=0
  ·subst h0
   have hb0:b=0:=Pl.L_eq_zero.1 (by rw [← h];rfl);subst hb0;exact calls_same (rcmp_zero va vb w ha hb)
  ·exact rcmp_same va vb a b w ha hb h.symm h0 hbig
 ·exact calls_same (rcmp_len va vb a b w ha hb h)

theorem plus_round (a b k:Nat):(Pl.carry 256 a b k+a/256 ^ k%256+b/256 ^ k%256)%256=(a+b)/256 ^ k%256∧(Pl.carry 256 a b k+a/256 ^ k%256+b/256 ^ k%256)/256=Pl.carry 256 a b (k+1) :=
 ⟨Pl.carry_digit 256 a b k (by omega),Pl.carry_succ 256 a b k (by omega)⟩
theorem plus_end {a b k:Nat} (h1:Pl.L a≤k) (h2:Pl.L b≤k) (h:Pl.carry 256 a b k=0):(a+b)%256 ^ k=a+b:=by
 have ha:=(Pl.L_le_iff a k).1 h1;have hb:=(Pl.L_le_iff b k).1 h2;unfold Pl.carry at h;rw [Nat.mod_eq_of_lt ha,Nat.mod_eq_of_lt hb] at h;exact Nat.mod_eq_of_lt (by rcases Nat.lt_or_ge (a+b) (256 ^ k) with h3|h3;(exact h3);have:=Nat.div_pos h3 (Nat.pow_pos (by omega));omega)
theorem plus_len {a b k:Nat} (h:k<Pl.L a∨k<Pl.L b∨0<Pl.carry 256 a b k):k≤max (Pl.L a) (Pl.L b):=by
 rcases h with h|h|h
 ·omega
 ·omega
 ·rcases Nat.lt_or_ge (max (Pl.L a) (Pl.L b)) k with h1|h1
  ·exfalso
   have ha:=(Pl.L_le_iff a (k-1)).1 (by omega);have hb:=(Pl.L_le_iff b (k-1)).1 (by omega);unfold Pl.carry at h;obtain ⟨j,rfl⟩:∃ j,k=j+1:=⟨k-1,by omega⟩
   rw [Nat.add_sub_cancel] at ha hb;have hp:256 ^ (j+1)=256 ^ j*256:=Nat.pow_succ 256 j;rw [Nat.mod_eq_of_lt (by omega),Nat.mod_eq_of_lt (by omega),Nat.div_eq_of_lt (by omega)] at h;omega
  ·exact h1

set_option maxHeartbeats 1000000 in
theorem rplus_any (va vb:Value) (a b:Nat) (w:World) (ha:DV w va a) (hb:DV w vb b) (hla:Pl.L a≤67108864) (hlb:Pl.L b≤67108864) :
 Calls Tryz.prog 72 #[va,vb] w fun e w'=>∃ v,e=.returned v∧DV w' v (a+b)∧Below w.heap.size w w'∧Fresh w.heap.size v:=by
 obtain ⟨A,c,rfl⟩:=dv_form ha;obtain ⟨B,d,rfl⟩:=dv_form hb;have HA:=Lib.hid ha;have HB:=Lib.hid hb;clear ha hb;go_enter Tryz.func72,Tryz.ntmps72;go_wp2_with fail;go_loopw [5,6,7] (fun v cy i wr=>∃ k:Nat,k≤max (Pl.L a) (Pl.L b)+1∧i=.int .i64 k∧cy=.int .i64 (Pl.carry 256 a b k:Nat)∧wr.ownsRow w.heap.size 3 1 v k (ints (Pl.dg 256 k (a+b)))∧Below w.heap.size w wr) (fun _ _ i _=>max (Pl.L a) (Pl.L b)+1-(intOf i).toNat)
 case atStart=>exact ⟨0,Nat.zero_le _,rfl,by rw [Pl.carry_zero];rfl,World.ownsRow_nil _ _ _ _,Below.refl _ _⟩
 case round =>
  obtain ⟨k,hk,rfl,rfl,hown,hbl⟩:=hrel;have hsz:=hbl.size;have hcl:=Pl.carry_le 256 a b k (by omega);obtain ⟨hr1,hr2⟩:=plus_round a b k;have HSN:=Lib.hid (dg_snoc (a+b) k);have HO:=Lib.hid hown;have HPE:=Lib.hid (fun h1 h2 h3=>@plus_end a b k h1 h2 h3);have HPL:=Lib.hid (@plus_len a b k);clear hown;have hx:a/256 ^ k%256<256:=Nat.mod_lt _ (by omega);have hy:b/256 ^ k%256<256:=Nat.mod_lt _ (by omega);have hxz:=fun h=>@dig_zero a k h
  have hyz:=fun h=>@dig_zero b k h
  have hxa:=fun h=>@dv_at w A a c _ k HA.out h
  have hxb:=fun h=>@dv_at w B b d _ k HB.out h
  generalize a/256 ^ k%256=x at *;generalize b/256 ^ k%256=y at *;generalize Pl.carry 256 a b k=q at *;have HR1:=Lib.hid hr1;have HR2:=Lib.hid hr2;have HXZ:=Lib.hid hxz;have HYZ:=Lib.hid hyz;have HXA:=Lib.hid hxa;have HXB:=Lib.hid hxb;clear hr1 hr2 hxz hyz hxa hxb
  by_cases h1:k<Pl.L a
  ·by_cases h2:k<Pl.L b
   ·obtain ⟨g,o,rfl,hg,hc⟩:=HXA.out h1
    have hca:=(hbl.cell (p:=⟨g,o+k,none⟩) (by exact hg)).trans hc;obtain ⟨g',o',rfl,hg',hc'⟩:=HXB.out h2;have hcb:=(hbl.cell (p:=⟨g',o'+k,none⟩) (by exact hg')).trans hc';have hkm:k≤max (Pl.L a) (Pl.L b):=HPL.out (by omega);clear HXA HXB HXZ HYZ HPE HPL;go_wp2_with (at_builtin;refine wpList_app1 rfl _ _ _ rfl ti_int HO.out hbl hsz rfl rfl rfl rfl (one_int _) (by omega) (by decide) ?_)
    intro v' w1 hown' hb'
    have HO':Hid (w1.ownsRow w.heap.size 3 1 v' (k+1) (ints (Pl.dg 256 (k+1) (a+b)))):=Lib.hid (by
     rw [HSN.out,ints_snoc,← HR1.out];have e:((q:Int)+x+y)%256=(((q+x+y)%256:Nat):Int):=by omega
     rw [← e];exact hown')
    clear hown';go_wp2;go_roundw
    case rel=>exact ⟨k+1,by omega,by go_num,by rw [← HR2.out];go_num,HO'.out,hb'⟩
    case measure=>simp [intOf];omega
   ·obtain ⟨g,o,rfl,hg,hc⟩:=HXA.out h1
    have hca:=(hbl.cell (p:=⟨g,o+k,none⟩) (by exact hg)).trans hc;have hy0:y=0:=HYZ.out (by omega);subst hy0;have hkm:k≤max (Pl.L a) (Pl.L b):=HPL.out (by omega);clear HXA HXB HXZ HYZ HPE HPL;go_wp2_with (at_builtin;refine wpList_app1 rfl _ _ _ rfl ti_int HO.out hbl hsz rfl rfl rfl rfl (one_int _) (by omega) (by decide) ?_)
    intro v' w1 hown' hb'
    have HO':Hid (w1.ownsRow w.heap.size 3 1 v' (k+1) (ints (Pl.dg 256 (k+1) (a+b)))):=Lib.hid (by
     rw [HSN.out,ints_snoc,← HR1.out];have e:((q:Int)+x)%256=(((q+x+0)%256:Nat):Int):=by omega
     rw [← e];exact hown')
    clear hown';go_wp2;go_roundw
    case rel=>exact ⟨k+1,by omega,by go_num,by rw [← HR2.out];go_num,HO'.out,hb'⟩
    case measure=>simp [intOf];omega
  ·by_cases h2:k<Pl.L b
   ·have hx0:x=0:=HXZ.out (by omega)
    subst hx0;obtain ⟨g',o',rfl,hg',hc'⟩:=HXB.out h2;have hcb:=(hbl.cell (p:=⟨g',o'+k,none⟩) (by exact hg')).trans hc';have hkm:k≤max (Pl.L a) (Pl.L b):=HPL.out (by omega);clear HXA HXB HXZ HYZ HPE HPL;go_wp2_with (at_builtin;refine wpList_app1 rfl _ _ _ rfl ti_int HO.out hbl hsz rfl rfl rfl rfl (one_int _) (by omega) (by decide) ?_)
    intro v' w1 hown' hb'
    have HO':Hid (w1.ownsRow w.heap.size 3 1 v' (k+1) (ints (Pl.dg 256 (k+1) (a+b)))):=Lib.hid (by
     rw [HSN.out,ints_snoc,← HR1.out];have e:((q:Int)+y)%256=(((q+0+y)%256:Nat):Int):=by omega
     rw [← e];exact hown')
    clear hown';go_wp2;go_roundw
    case rel=>exact ⟨k+1,by omega,by go_num,by rw [← HR2.out];go_num,HO'.out,hb'⟩
    case measure=>simp [intOf];omega
   ·by_cases hq:q=0
    ·subst hq
     have hkn:k≤67108865:=by omega
     have hR:=rtrim_any _ k (Pl.dg 256 k (a+b)) wr (Sl.of_own HO.out) (Pl.dg_lt (by omega)) (by omega);rw [Pl.vB_dg,HPE.out (by omega) (by omega) rfl] at hR;have HR:=Lib.hid hR;clear hR HXA HXB HXZ HYZ HPE HPL HR1 HR2;go_wp2_with fail;refine HR.out.mono ?_;rintro e w1 ⟨⟨v',rfl,hv,hfr⟩,rfl⟩;go_wp2;go_ret;exact ⟨_,rfl,hv,hbl,hfr _ (fresh_own HO.out)⟩
    ·have hq1:(0:Int)<q:=by omega
     have hx0:x=0:=HXZ.out (by omega);subst hx0;have hy0:y=0:=HYZ.out (by omega);subst hy0;have hkm:k≤max (Pl.L a) (Pl.L b):=HPL.out (by omega);clear HXA HXB HXZ HYZ HPE HPL;go_wp2_with (at_builtin;refine wpList_app1 rfl _ _ _ rfl ti_int HO.out hbl hsz rfl rfl rfl rfl (one_int _) (by omega) (by decide) ?_)
     intro v' w1 hown' hb'
     have HO':Hid (w1.ownsRow w.heap.size 3 1 v' (k+1) (ints (Pl.dg 256 (k+1) (a+b)))):=Lib.hid (by
      rw [HSN.out,ints_snoc,← HR1.out];have e:(q:Int)%256=(((q+0+0)%256:Nat):Int):=by omega
      rw [← e];exact hown')
     clear hown';go_wp2;go_roundw
     case rel=>exact ⟨k+1,by omega,by go_num,by rw [← HR2.out];go_num,HO'.out,hb'⟩
     case measure=>simp [intOf];omega
end Go.Proofs.YtdkkjfnpinckjaaGreatDoor

namespace Go.Proofs.YtdkkjfnpinckjaaGreatDoor
open Go Go.RowKit

set_option maxHeartbeats 1000000 in
theorem rminus_any (va vb:Value) (a b:Nat) (w:World) (ha:DV w va a) (hb:DV w vb b) (hab:b≤a) (hla:Pl.L a≤67108864) :
 Calls Tryz.prog 74 #[va,vb] w fun e w'=>∃ v,e=.returned v∧DV w' v (a-b)∧Below w.heap.size w w'∧Fresh w.heap.size v:=by
 obtain ⟨A,c,rfl⟩:=dv_form ha;obtain ⟨B,d,rfl⟩:=dv_form hb;have HA:=Lib.hid ha;have HB:=Lib.hid hb;have hlb:Pl.L b≤Pl.L a:=Pl.L_mono hab;clear ha hb;go_enter Tryz.func74,Tryz.ntmps74;go_wp2_with fail;go_loopw [5,6,7,8] (fun v cy i _ wr=>∃ k:Nat,k≤Pl.L a∧i=.int .i64 k∧cy=.int .i64 (Pl.carry 256 (a-b) b k:Nat)∧wr.ownsRow w.heap.size 3 1 v k (ints (Pl.dg 256 k (a-b)))∧Below w.heap.size w wr) (fun _ _ i _ _=>Pl.L a-(intOf i).toNat)
 case atStart=>exact ⟨0,Nat.zero_le _,rfl,by rw [Pl.carry_zero];rfl,World.ownsRow_nil _ _ _ _,Below.refl _ _⟩
 case round =>
  obtain ⟨k,hk,rfl,rfl,hown,hbl⟩:=hrel;have hsz:=hbl.size;have HO:=Lib.hid hown;clear hown
  by_cases h1:k<Pl.L a
  ·have hcl:=Pl.carry_le 256 (a-b) b k (by omega)
   have hst:=Pl.borrow_step 256 a b k (by omega) hab _ rfl;have HSN:=Lib.hid (dg_snoc (a-b) k);have hx:a/256 ^ k%256<256:=Nat.mod_lt _ (by omega);have hy:b/256 ^ k%256<256:=Nat.mod_lt _ (by omega);have hyz:=fun h=>@dig_zero b k h
   have hxa:=@dv_at w A a c _ k HA.out h1;have hxb:=fun h=>@dv_at w B b d _ k HB.out h
   generalize a/256 ^ k%256=x at *;generalize b/256 ^ k%256=y at *;generalize Pl.carry 256 (a-b) b k=q at *;obtain ⟨g,o,rfl,hg,hc⟩:=hxa;have hca:=(hbl.cell (p:=⟨g,o+k,none⟩) (by exact hg)).trans hc;obtain ⟨hs1,hs2⟩:=hst;have HS1:=Lib.hid hs1;have HS2:=Lib.hid hs2;have HYZ:=Lib.hid hyz;have HXB:=Lib.hid hxb;clear hs1 hs2 hyz hxb hc
   by_cases h2:k<Pl.L b
   ·by_cases hn:(x:Int)-q-y<0
    ·obtain ⟨g',o',rfl,hg',hc'⟩:=HXB.out h2
     have hcb:=(hbl.cell (p:=⟨g',o'+k,none⟩) (by exact hg')).trans hc';clear hc';have hd:(x:Int)-q-y<0:=by omega
     obtain ⟨e1,e2⟩:=HS1.out (by omega);have E1:=Lib.hid e1;have E2:=Lib.hid e2;clear e1 e2 HXB HYZ HS1 HS2;go_wp2_with (at_builtin;refine wpList_app1 rfl _ _ _ rfl ti_int HO.out hbl hsz rfl rfl rfl rfl (one_int _) (by omega) (by decide) ?_)
     intro v' w1 hown' hb'
     have HO':Hid (w1.ownsRow w.heap.size 3 1 v' (k+1) (ints (Pl.dg 256 (k+1) (a-b)))):=Lib.hid (by
      rw [HSN.out,ints_snoc,← E1.out]
      first|exact hown'|(simpa using hown'))
     clear hown';go_wp2;go_roundw
     case rel=>exact ⟨k+1,by omega,by go_num,by rw [E2.out];rfl,HO'.out,hb'⟩
     case measure=>simp [intOf];omega
    ·obtain ⟨g',o',rfl,hg',hc'⟩:=HXB.out h2
     have hcb:=(hbl.cell (p:=⟨g',o'+k,none⟩) (by exact hg')).trans hc';clear hc';have hd:0≤(x:Int)-q-y:=by omega
     obtain ⟨e1,e2⟩:=HS2.out (by omega);have E1:=Lib.hid e1;have E2:=Lib.hid e2;clear e1 e2 HXB HYZ HS1 HS2;go_wp2_with (at_builtin;refine wpList_app1 rfl _ _ _ rfl ti_int HO.out hbl hsz rfl rfl rfl rfl (one_int _) (by omega) (by decide) ?_)
     intro v' w1 hown' hb'
     have HO':Hid (w1.ownsRow w.heap.size 3 1 v' (k+1) (ints (Pl.dg 256 (k+1) (a-b)))):=Lib.hid (by
      rw [HSN.out,ints_snoc,← E1.out]
      first|exact hown'|(simpa using hown'))
     clear hown';go_wp2;go_roundw
     case rel=>exact ⟨k+1,by omega,by go_num,by rw [E2.out];rfl,HO'.out,hb'⟩
     case measure=>simp [intOf];omega
   ·have h2':¬ (k:Int)<Pl.L b:=by omega
    by_cases hn:(x:Int)-q<0
    ·have hy0:y=0:=HYZ.out (by omega)
     subst hy0;have hd:(x:Int)-q<0:=by omega
     obtain ⟨e1,e2⟩:=HS1.out (by omega);have E1:=Lib.hid e1;have E2:=Lib.hid e2;clear e1 e2 HXB HYZ HS1 HS2;go_wp2_with (at_builtin;refine wpList_app1 rfl _ _ _ rfl ti_int HO.out hbl hsz rfl rfl rfl rfl (one_int _) (by omega) (by decide) ?_)
     intro v' w1 hown' hb'
     have HO':Hid (w1.ownsRow w.heap.size 3 1 v' (k+1) (ints (Pl.dg 256 (k+1) (a-b)))):=Lib.hid (by
      rw [HSN.out,ints_snoc,← E1.out]
      first|exact hown'|(simpa using hown'))
     clear hown';go_wp2;go_roundw
     case rel=>exact ⟨k+1,by omega,by go_num,by rw [E2.out];rfl,HO'.out,hb'⟩
     case measure=>simp [intOf];omega
    ·have hy0:y=0:=HYZ.out (by omega)
     subst hy0;have hd:0≤(x:Int)-q:=by omega
     obtain ⟨e1,e2⟩:=HS2.out (by omega);have E1:=Lib.hid e1;have E2:=Lib.hid e2;clear e1 e2 HXB HYZ HS1 HS2;go_wp2_with (at_builtin;refine wpList_app1 rfl _ _ _ rfl ti_int HO.out hbl hsz rfl rfl rfl rfl (one_int _) (by omega) (by decide) ?_)
     intro v' w1 hown' hb'
     have HO':Hid (w1.ownsRow w.heap.size 3 1 v' (k+1) (ints (Pl.dg 256 (k+1) (a-b)))):=Lib.hid (by
      rw [HSN.out,ints_snoc,← E1.out]
      first|exact hown'|(simpa using hown'))
     clear hown';go_wp2;go_roundw
     case rel=>exact ⟨k+1,by omega,by go_num,by rw [E2.out];rfl,HO'.out,hb'⟩
     case measure=>simp [intOf];omega
  ·have hkn:k=Pl.L a:=by omega
   subst hkn;have hR:=rtrim_any _ (Pl.L a) (Pl.dg 256 (Pl.L a) (a-b)) wr (Sl.of_own HO.out) (Pl.dg_lt (by omega)) (by omega);rw [Pl.vB_dg,Nat.mod_eq_of_lt (Nat.lt_of_le_of_lt (Nat.sub_le _ _) (Pl.lt_L a))] at hR;have HR:=Lib.hid hR;clear hR;go_wp2_with fail;refine HR.out.mono ?_;rintro e w1 ⟨⟨v',rfl,hv,hfr⟩,rfl⟩;go_wp2;go_ret;exact ⟨_,rfl,hv,hbl,hfr _ (fresh_own HO.out)⟩
end Go.Proofs.YtdkkjfnpinckjaaGreatDoor

namespace Go.Proofs.YtdkkjfnpinckjaaGreatDoor
open Go Go.RowKit

theorem make_ints (c:Int) (k:Nat) (hc:c=k) (hk:k≤1073741824) (w:World):(Instr.makeSlice 98 (.int .i64 c) (.int .i64 c)).run Tryz.prog w =
 .ok (.slice (some ⟨w.heap.size,0,none⟩) k k) (w.alloc (.cells (ints (Pl.dg 256 k 0)).toArray 3)):=by
 subst hc;obtain ⟨i,hi,hz,hs,hb⟩:=info_parts (show (Tryz.prog.info? 3).map (fun i=>(i.zero,i.size,i.bytes))=some (some (.int .i64 0),1,8) by kernel_rfl);rw [run_make w _ _ i _ Tryz.underlying98 hi hz .i64 .i64 k k (by omega) (by omega) (by rw [hb];omega) (by omega),hs]
 have e:madeCells (Value.int .i64 0).cells ((k:Int).toNat*1)=(ints (Pl.dg 256 k 0)).toArray:=by
  apply Array.ext
  ·simp [size_madeCells,ints_length,Pl.dg_length]
  ·intro j h1 h2
   simp [madeCells,ints,Pl.dg,Value.cells,Nat.mod_one]
 rw [e];simp
theorem ints_set (l:List Nat) (i d:Nat):(ints l).set i (.int .i64 (d:Int))=ints (l.set i d):=by simp [ints,List.map_set]
theorem times_end {N i k m P d b:Nat} (hb:b<256 ^ m) (hP:P<256 ^ (i+m)) (hm:m≤k) (hc:Pl.mcarry 256 (P/256 ^ i) d b k=0) (hN:i+k≤N) :
 Pl.mixD 256 N (P+256 ^ i*(d*b)) P (i+k)=Pl.dg 256 N (P+256 ^ i*(d*b)):=by
 have hp:0<256 ^ i:=Nat.pow_pos (by omega);have hq:P/256 ^ i<256 ^ m:=by rw [Nat.div_lt_iff_lt_mul hp,← Nat.pow_add,Nat.add_comm m i];exact hP
 have hle:256 ^ m≤256 ^ k:=Nat.pow_le_pow_right (by omega) hm;unfold Pl.mcarry at hc;rw [Nat.mod_eq_of_lt (Nat.lt_of_lt_of_le hq hle),Nat.mod_eq_of_lt (Nat.lt_of_lt_of_le hb hle)] at hc
 have hT:P+256 ^ i*(d*b)<256 ^ (i+k):=by
  have h1:P/256 ^ i+d*b<256 ^ k:=by
   rcases Nat.lt_or_ge (P/256 ^ i+d*b) (256 ^ k) with h|h
   ·exact h
   ·have:=Nat.div_pos h (Nat.pow_pos (by omega));omega
  have h2:(P+256 ^ i*(d*b))/256 ^ i<256 ^ k:=by rw [Nat.add_mul_div_left _ _ hp];exact h1
  rw [Nat.div_lt_iff_lt_mul hp,← Nat.pow_add,Nat.add_comm k i] at h2;exact h2
 exact Pl.mixD_end 256 N (i+k) _ _ (by omega) hN hT (Nat.lt_of_le_of_lt (Nat.le_add_right _ _) hT)
theorem times_stop {i k m P d b:Nat} (hb:b<256 ^ m) (hP:P<256 ^ (i+m)) (hd:d<256) (hm:m+1≤k):Pl.mcarry 256 (P/256 ^ i) d b k=0:=by
 have hp:0<256 ^ i:=Nat.pow_pos (by omega);have hq:P/256 ^ i<256 ^ m:=by rw [Nat.div_lt_iff_lt_mul hp,← Nat.pow_add,Nat.add_comm m i];exact hP
 have hle:256 ^ (m+1)≤256 ^ k:=Nat.pow_le_pow_right (by omega) hm;have hle2:256 ^ m*256=256 ^ (m+1):=(Nat.pow_succ 256 m).symm;unfold Pl.mcarry;rw [Nat.mod_eq_of_lt (show P/256 ^ i<256 ^ k by omega),Nat.mod_eq_of_lt (show b<256 ^ k by omega)];refine Nat.div_eq_of_lt ?_;have h1:d*b≤255*b:=Nat.mul_le_mul_right b (by omega);omega
set_option maxHeartbeats 2000000 in
theorem rtimes_any (va vb:Value) (a b:Nat) (w:World) (ha:DV w va a) (hb:DV w vb b) (hla:Pl.L a≤67108864) (hlb:Pl.L b≤67108864) :
 Calls Tryz.prog 70 #[va,vb] w fun e w'=>∃ v,e=.returned v∧DV w' v (a*b)∧Below w.heap.size w w':=by
 obtain ⟨A,c,rfl⟩:=dv_form ha;obtain ⟨B,cb,rfl⟩:=dv_form hb;have HA:=Lib.hid ha;have HB:=Lib.hid hb;have HAL:=Lib.hid (Pl.lt_L a);have HBL:=Lib.hid (Pl.lt_L b);have HXA:=Lib.hid (fun k h=>@dv_at w A a c _ k ha h);have HXB:=Lib.hid (fun k h=>@dv_at w B b cb _ k hb h);have HXZ:=Lib.hid (fun k h=>@dig_zero b k h);clear ha hb;have hmk:=make_ints ((Pl.L a:Int)+Pl.L b+1) (Pl.L a+Pl.L b+1) (by omega) (by omega);generalize Pl.L a=n at *;generalize Pl.L b=m at *;go_enter Tryz.func70,Tryz.ntmps70;go_wp2_with fail;clear hmk;go_loopw [6] (fun i wr=>∃ k:Nat,k≤n∧i=.int .i64 k∧Blk wr w.heap.size 3 (ints (Pl.dg 256 (n+m+1) ((a%256 ^ k)*b)))∧Below w.heap.size w wr) (fun i _=>n-(intOf i).toNat)
 case atStart=>exact ⟨0,Nat.zero_le _,rfl,by rw [Nat.pow_zero,Nat.mod_one,Nat.zero_mul];exact Blk.new _ _ _,(by repeat (first|with_reducible exact Below.refl _ _|refine Below.drew ?_|refine Below.alloc ?_ (by first|(simp;done)|(simp;omega)|omega) _|refine Below.setCell ?_ (by first|(simp;done)|(simp;omega)|omega) _))⟩
 case round =>
  obtain ⟨i,hi,rfl,hC,hbC⟩:=hrel
  by_cases hil:i<n
  ·obtain ⟨g,o,rfl,hg,hx0⟩:=HXA.out i hil
   have hx:∀ wr,Below w.heap.size w wr→wr.cell? ⟨g,o+i,none⟩=some (.int .i64 ((a/256 ^ i%256:Nat):Int)):=fun wr h=>(h.cell (p:=⟨g,o+i,none⟩) (by exact hg)).trans hx0
   have hP:(a%256 ^ i)*b<256 ^ (i+m):=Pl.mul_lt_pow (Nat.mod_lt _ (Nat.pow_pos (by omega))) HBL.out;have hT:=Pl.mul_round 256 a b i;have hd1:a/256 ^ i%256<256:=Nat.mod_lt _ (by omega);clear hx0;generalize a/256 ^ i%256=d at *;generalize (a%256 ^ i)*b=P at *;have HX:=Lib.hid hx;have HT:=Lib.hid hT;have HP:=Lib.hid hP;clear hT hP hx;go_wp2_with fail;obtain ⟨wo,rfl⟩:∃ wo:World,wo=wr:=⟨_,rfl⟩
   go_loopw [7,8] (fun c j wr=>∃ k:Nat,k≤m+1∧j=.int .i64 k∧c=.int .i64 (Pl.mcarry 256 (P/256 ^ i) d b k:Nat)∧Blk wr w.heap.size 3 (ints (Pl.mixD 256 (n+m+1) (P+256 ^ i*(d*b)) P (i+k)))∧Below w.heap.size w wr) (fun _ j _=>m+1-(intOf j).toNat)
   case atStart=>exact ⟨0,Nat.zero_le _,rfl,by rw [Pl.mcarry_zero];rfl,by have e:=Pl.mixD_start 256 (n+m+1) i P (d*b) (by omega) (by omega);exact (by rw [e];exact hC:Blk wo w.heap.size 3 (ints (Pl.mixD 256 (n+m+1) (P+256 ^ i*(d*b)) P i))),hbC⟩
   case round =>
    obtain ⟨k,hk,rfl,rfl,hC2,hbC2⟩:=hrel;have hstop:=fun h=>@times_stop i k m P d b HBL.out HP.out hd1 h
    have hend:=fun h1 h2 h3=>@times_end (n+m+1) i k m P d b HBL.out HP.out h1 h2 h3
    have hset:=fun h=>Pl.mixD_set 256 (n+m+1) (P+256 ^ i*(d*b)) P (i+k) h
    rw [Pl.shift_digit 256 P (d*b) i k (by omega),← Pl.mcarry_digit 256 (P/256 ^ i) d b k (by omega)] at hset;have hcar:=Pl.mcarry_succ 256 (P/256 ^ i) d b k (by omega);have hc1:=Pl.mcarry_le 256 (P/256 ^ i) d b k (by omega);rw [Nat.div_div_eq_div_mul,← Nat.pow_add] at hset hcar;have hx1:P/256 ^ (i+k)%256<256:=Nat.mod_lt _ (by omega);have hy1:b/256 ^ k%256<256:=Nat.mod_lt _ (by omega);have hy:=fun h=>HXB.out k h
    have hyz:=fun h=>HXZ.out k h
    have hget:=fun h=>Pl.mixD_get 256 (n+m+1) (P+256 ^ i*(d*b)) P (i+k) h
    generalize P/256 ^ (i+k)%256=X at *;generalize b/256 ^ k%256=Y at *;generalize Pl.mcarry 256 (P/256 ^ i) d b k=C at *;have HSET:=Lib.hid hset;have HCAR:=Lib.hid hcar;have HSTOP:=Lib.hid hstop;have HEND:=Lib.hid hend;have HY:=Lib.hid hy;have HYZ:=Lib.hid hyz;have HGET:=Lib.hid hget;clear hset hcar hstop hend hy hyz hget
    by_cases hkl:k<m
    ·obtain ⟨g',o',rfl,hg',hy0⟩:=HY.out hkl
     have hyc:=(hbC2.cell (p:=⟨g',o'+k,none⟩) (by exact hg')).trans hy0;have hxc:=HX.out _ hbC2;have hx2:=hC2.cell (i+k);rw [ints_get,HGET.out (by omega)] at hx2;simp only [Option.map_some] at hx2;have hf:=hC2.free (i+k);have hdy:d*Y≤255*255:=Nat.mul_le_mul (by omega) (by omega);have hcast:(d:Int)*Y=((d*Y:Nat):Int):=by rw [Int.natCast_mul]
     have w1':IntKind.i64.wrap ((d:Int)*Y)=((d*Y:Nat):Int):=by rw [hcast];exact IntWalk.i64_in _ ⟨by omega,by omega⟩
     have w2':IntKind.i64.wrap ((X:Int)+C+((d*Y:Nat):Int))=((C+X+d*Y:Nat):Int):=by rw [IntWalk.i64_in _ ⟨by omega,by omega⟩];omega
     clear hcast hy0;have k0:(0:Int)≤(i:Int)+k:=by omega
     have k1:(i:Int)+k<((n+m+1:Nat):Int):=by omega
     have k2:(k:Int)<(m:Int):=by omega
     go_wp2_with fail;go_quiet (fail);clear w1' w2';have hv1:((X:Int)+C+(d:Int)*Y)%256=(((C+X+d*Y)%256:Nat):Int):=by rw [← Int.natCast_mul];omega
     have hv2:((X:Int)+C+(d:Int)*Y)/256=(((C+X+d*Y)/256:Nat):Int):=by rw [← Int.natCast_mul];omega
     have HV1:=Lib.hid hv1;have HV2:=Lib.hid hv2;clear hv1 hv2;go_wp2;go_roundw
     case rel =>
      refine ⟨k+1,by omega,by go_num,by rw [HV2.out,HCAR.out],?_,(bel_drewN hbC2 _).setCell (Nat.le_refl _) _⟩;rw [HV1.out,← Nat.add_assoc,← HSET.out (by omega),← ints_set];exact (hC2.up (bel_drewN (Below.refl _ _) _)).put _ _
     case measure=>simp [intOf];omega
    ·by_cases hC0:C=0
     ·subst hC0
      have HE:=Lib.hid (HEND.out (by omega) rfl (by omega));rw [HE.out] at hC2;rw [HT.out] at hC2;have hkl':¬ (k:Int)<m:=by omega
      go_wp2;go_roundw
      case rel=>exact ⟨i+1,by omega,by go_num,hC2,hbC2⟩
      case measure=>simp [intOf];omega
     ·have hkm:k=m:=by
       rcases Nat.lt_or_ge k (m+1) with h|h
       ·omega
       ·exact absurd (HSTOP.out h) hC0
      have hk1:k≤m:=by omega
      clear hkm;have hY0:Y=0:=HYZ.out (by omega);subst hY0;have hx2:=hC2.cell (i+k);rw [ints_get,HGET.out (by omega)] at hx2;simp only [Option.map_some] at hx2;have hf:=hC2.free (i+k);have k0:(0:Int)≤(i:Int)+k:=by omega
      have k1:(i:Int)+k<((n+m+1:Nat):Int):=by omega
      have hkl':¬ (k:Int)<m:=by omega
      have hC1:(0:Int)<C:=by omega
      have HV1:Hid (((X:Int)+C)%256=(((C+X+d*0)%256:Nat):Int)):=Lib.hid (by omega);have HV2:Hid (((X:Int)+C)/256=(((C+X+d*0)/256:Nat):Int)):=Lib.hid (by omega);go_wp2;go_roundw
      case rel =>
       refine ⟨k+1,by omega,by go_num,by rw [HV2.out,← HCAR.out],?_,hbC2.setCell (Nat.le_refl _) _⟩;rw [HV1.out,← Nat.add_assoc,← HSET.out (by omega),← ints_set];exact hC2.put _ _
      case measure=>simp [intOf];omega
  ·have hin:i=n:=by omega
   rw [hin,Nat.mod_eq_of_lt HAL.out] at hC;have hS:Sl wr (.slice (some ⟨w.heap.size,0,none⟩) (n+m+1) (n+m+1)) (n+m+1) 1 (ints (Pl.dg 256 (n+m+1) (a*b))):=⟨by rw [ints_length,Pl.dg_length,Nat.mul_one],.inr ⟨_,0,_,rfl,Nat.le_refl _,by unfold maxLen;omega,fun j u hj=>by rw [Nat.zero_add,hC.cell];exact hj⟩⟩
   have hR:=rtrim_any _ (n+m+1) (Pl.dg 256 (n+m+1) (a*b)) wr hS (Pl.dg_lt (by omega)) (by omega);rw [Pl.vB_dg,Nat.mod_eq_of_lt (Nat.lt_of_lt_of_le (Pl.mul_lt_pow HAL.out HBL.out) (Nat.pow_le_pow_right (by omega) (by omega)))] at hR;have HR:=Lib.hid hR;clear hR hS hC hin;go_wp2_with fail;refine HR.out.mono ?_;rintro e w1 ⟨⟨v',rfl,hv,_⟩,rfl⟩;go_wp2;go_ret;exact ⟨_,rfl,hv,hbC⟩
end Go.Proofs.YtdkkjfnpinckjaaGreatDoor

namespace Go.Proofs.YtdkkjfnpinckjaaGreatDoor
open Go Go.RowKit

theorem rsmall_long (v:Value) (n:Nat) (w:World) (h:DV w v n) (hl:7<Pl.L n) :
 Calls Tryz.prog 133 #[v] w fun e w'=>e=.returned (.tuple #[.int .i64 0,.bool false])∧w=w':=by
 obtain ⟨A,c,rfl⟩:=dv_form h;have hl':(7:Int)<Pl.L n:=by omega
 clear h;go_enter Tryz.func133,Tryz.ntmps133;go_wp2;go_ret2;exact ⟨rfl,rfl⟩
theorem rsmall_short (v:Value) (n:Nat) (w:World) (h:DV w v n) (hl:Pl.L n≤7) :
 Calls Tryz.prog 133 #[v] w fun e w'=>e=.returned (.tuple #[.int .i64 n,.bool true])∧w=w':=by
 obtain ⟨A,c,rfl⟩:=dv_form h;have hl':¬ (7:Int)<Pl.L n:=by omega
 have HXA:=Lib.hid (fun k h'=>@dv_at w A n c _ k h h');have HL:=Lib.hid (Pl.lt_L n);have hn7:n<72057594037927936:=Nat.lt_of_lt_of_le (Pl.lt_L n) (Nat.pow_le_pow_right (by omega) hl);clear h;generalize Pl.L n=N at *;go_enter Tryz.func133,Tryz.ntmps133;go_wp2_with fail;go_loop [4,5] (fun s i=>∃ k:Nat,k≤N∧i=.int .i64 ((k:Int)-1)∧s=.int .i64 (n/256 ^ k:Nat)) (fun _ i=>(intOf i+1).toNat)
 case atStart=>exact ⟨N,Nat.le_refl _,rfl,by rw [Nat.div_eq_of_lt HL.out];rfl⟩
 case round =>
  obtain ⟨k,hk,rfl,rfl⟩:=hrel
  by_cases hk0:k=0
  ·subst hk0
   have HD:Hid (((n/256 ^ 0:Nat):Int)=n):=Lib.hid (by simp);rw [HD.out];go_wp2;go_ret2;exact ⟨rfl,rfl⟩
  ·obtain ⟨g,o,rfl,hg,hx⟩:=HXA.out (k-1) (by omega)
   have hd:=high_digit n k (by omega);have hx1:n/256 ^ (k-1)%256<256:=Nat.mod_lt _ (by omega);have hbd:n/256 ^ (k-1)≤n:=Nat.div_le_self _ _;generalize n/256 ^ (k-1)%256=x at *;generalize hq:n/256 ^ (k-1)=q at *;generalize n/256 ^ k=H at *;have HQ:=Lib.hid hq;have HD:=Lib.hid hd;have b1:(H:Int)*256≤72057594037927936:=by omega
   have b2:(0:Int)≤(H:Int)*256:=by omega
   clear hq hd;have i1:(0:Int)≤(k:Int)-1:=by omega
   have i2:(k:Int)-1<N:=by omega
   have i3:((k:Int)-1).toNat=k-1:=by omega
   have i4:(1:Int)≤k:=by omega
   go_wp2;go_round
   case rel=>exact ⟨k-1,by omega,congrArg (Value.int .i64) (by omega),by rw [HQ.out];exact congrArg (Value.int .i64) (by have:=HD.out;omega)⟩
   case measure=>simp [intOf];omega
theorem rlarge_any (n:Nat) (w:World) (hn:n≤9223372036854775807) :
 Calls Tryz.prog 134 #[.int .i64 n] w fun e w'=>∃ v,e=.returned v∧DV w' v n∧Below w.heap.size w w':=by
 have hL:Pl.L n≤8:=L_word n (by omega);go_enter Tryz.func134,Tryz.ntmps134;go_wp2_with fail;go_loopw [0,3] (fun s v wr=>∃ k:Nat,k≤Pl.L n∧s=.int .i64 (n/256 ^ k:Nat)∧wr.ownsRow w.heap.size 3 1 v k (ints (Pl.dg 256 k n))∧Below w.heap.size w wr) (fun s _ _=>(intOf s).toNat)
 case atStart=>exact ⟨0,Nat.zero_le _,by simp,World.ownsRow_nil _ _ _ _,Below.refl _ _⟩
 case round =>
  obtain ⟨k,hk,rfl,hown,hbl⟩:=hrel;have hsz:=hbl.size;have HO:=Lib.hid hown;clear hown
  by_cases hk0:k<Pl.L n
  ·have HSN:=Lib.hid (dg_snoc n k)
   have hge:256 ^ k≤n:=by
    rcases Nat.lt_or_ge n (256 ^ k) with h|h
    ·have:=(Pl.L_le_iff n k).2 h;omega
    ·exact h
   have hpos:0<n/256 ^ k:=Nat.div_pos hge (Nat.pow_pos (by omega));have hbd:n/256 ^ k≤n:=Nat.div_le_self _ _;have HN:Hid (n/256 ^ (k+1)=n/256 ^ k/256):=Lib.hid (by rw [Nat.pow_succ,Nat.div_div_eq_div_mul]);generalize n/256 ^ k=q at *;have p1:(0:Int)<q:=by omega
   go_wp2_with (at_builtin;refine wpList_app1 rfl _ _ _ rfl ti_int HO.out hbl hsz rfl rfl rfl rfl (one_int _) (by omega) (by decide) ?_)
   intro v' w1 hown' hb'
   have HO':Hid (w1.ownsRow w.heap.size 3 1 v' (k+1) (ints (Pl.dg 256 (k+1) n))):=Lib.hid (by
    rw [HSN.out,ints_snoc];have e:(q:Int)%256=((q%256:Nat):Int):=by omega
    rw [← e];exact hown')
   clear hown';go_wp2;go_roundw
   case rel=>exact ⟨k+1,by omega,by rw [HN.out];exact congrArg (Value.int .i64) (by omega),HO'.out,hb'⟩
   case measure=>simp [intOf];omega
  ·have hkL:k=Pl.L n:=by omega
   have hz:n/256 ^ k=0:=Nat.div_eq_of_lt ((Pl.L_le_iff n k).1 (by omega));rw [hz];have HD:Hid (DV wr u3 n):=Lib.hid (by rw [hkL] at HO;exact Sl.of_own HO.out);clear hkL hz;go_wp2;go_ret;exact ⟨_,rfl,HD.out,hbl⟩
end Go.Proofs.YtdkkjfnpinckjaaGreatDoor

namespace Go.Proofs.YtdkkjfnpinckjaaGreatDoor
open Go Go.RowKit

set_option maxHeartbeats 1000000 in
theorem rdiv_small (va vb:Value) (a b:Nat) (w:World) (ha:DV w va a) (hb:DV w vb b) (h0:b≠0) (hla:Pl.L a≤7) (hlb:Pl.L b≤7) :
 Calls Tryz.prog 113 #[va,vb] w fun e w'=>∃ q r,e=.returned (.tuple #[q,r])∧DV w' q (a/b)∧DV w' r (a%b)∧Below w.heap.size w w':=by
 have K1:=Lib.hid (rsmall_short va a w ha hla);have K2:=Lib.hid (rsmall_short vb b w hb hlb);have ha7:a<72057594037927936:=Nat.lt_of_lt_of_le (Pl.lt_L a) (Nat.pow_le_pow_right (by omega) hla);have hq:a/b≤a:=Nat.div_le_self _ _;have hr:a%b≤a:=Nat.mod_le _ _;have K3:=Lib.hid (fun W=>rlarge_any (a/b) W (by omega));have K4:=Lib.hid (fun W=>rlarge_any (a%b) W (by omega))
 have HV1:Hid (wrap64 ((a:Int)/b)=((a/b:Nat):Int)):=Lib.hid (by
  rw [← Int.natCast_ediv];generalize a/b=q at *;unfold wrap64;omega)
 have HV1b:Hid (IntKind.i64.wrap ((a:Int)/b)=((a/b:Nat):Int)):=Lib.hid (by
  rw [← Int.natCast_ediv];exact IntWalk.i64_in _ ⟨by generalize a/b=q at *;omega,by generalize a/b=q at *;omega⟩)
 have HV2b:Hid ((a:Int)%b=((a%b:Nat):Int)):=Lib.hid (Int.natCast_emod _ _).symm;have HV2:Hid ((a:Int).tmod b=((a%b:Nat):Int)):=Lib.hid rfl;have j1:(0:Int)<b:=by omega
 have j3:((b:Int)==0)=false:=by simp;omega
 clear ha hb h0 hla hlb ha7 hq hr;go_enter Tryz.func113,Tryz.ntmps113;go_wp2_with fail;with_reducible refine K1.out.mono ?_
 rintro e w1 ⟨rfl,rfl⟩;go_wp2_with fail;with_reducible refine K2.out.mono ?_
 rintro e w1 ⟨rfl,rfl⟩;go_wp2_with fail;go_region_with (first|(go_at_call 134;(first|rw [HV1.out]|rw [HV1b.out]);with_reducible refine (K3.out _).mono ?_;rintro e v1 ⟨q,rfl,hq,hbq⟩)|(go_at_call 134;(first|rw [HV2b.out]|rw [HV2.out]);with_reducible refine (K4.out _).mono ?_;rintro e v2 ⟨r,rfl,hr,hbr⟩))
 all_goals
  go_wp2;go_ret2
  first
   | exact ⟨q,r,rfl,hq.up hbr,hr,bel_up (bel_up (Below.refl _ _).drew hbq) hbr⟩
   | exact ⟨q,r,rfl,hq,hr.up hbq,bel_up (bel_up (Below.refl _ _).drew hbr) hbq⟩

theorem rsmall_ex (v:Value) (n:Nat) (w:World) (h:DV w v n) :
 Calls Tryz.prog 133 #[v] w fun e w'=>(∃ (x:Int) (f:Bool),e=.returned (.tuple #[.int .i64 x,.bool f]))∧w=w':=by
 rcases Nat.lt_or_ge 7 (Pl.L n) with hl|hl
 ·exact (rsmall_long v n w h hl).mono fun e w' ⟨he,hw⟩=>⟨⟨_,_,he⟩,hw⟩
 ·exact (rsmall_short v n w h hl).mono fun e w' ⟨he,hw⟩=>⟨⟨_,_,he⟩,hw⟩
theorem dv_nil (w:World):DV w (.slice none 0 0) 0:=Sl.nil w 1

set_option maxHeartbeats 1000000 in
theorem rdiv_less (va vb:Value) (a b:Nat) (w:World) (ha:DV w va a) (hb:DV w vb b) (hl:7<Pl.L a∨7<Pl.L b) (hab:a<b) (hla:Pl.L a≤1073741824) :
 Calls Tryz.prog 113 #[va,vb] w fun e w'=>∃ q r,e=.returned (.tuple #[q,r])∧DV w' q (a/b)∧DV w' r (a%b)∧Below w.heap.size w w':=by
 have K1:=Lib.hid (rsmall_long va a w ha);have K1s:=Lib.hid (rsmall_short va a w ha);have K1e:=Lib.hid (rsmall_ex va a w ha);have K2:=Lib.hid (rsmall_long vb b w hb);have K2e:=Lib.hid (rsmall_ex vb b w hb);have kc:=rcmp_any va vb a b w ha hb hla;rw [cmpZ_lt (Int.ofNat_lt.2 hab)] at kc;have KC:=Lib.hid kc;have HA:=Lib.hid ha;rw [Nat.div_eq_of_lt hab,Nat.mod_eq_of_lt hab];clear kc ha hb hab hla
 by_cases h7:7<Pl.L a
 ·clear hl
  go_enter Tryz.func113,Tryz.ntmps113;go_wp2_with fail;with_reducible refine (K1.out h7).mono ?_
  rintro e w1 ⟨rfl,rfl⟩;go_wp2_with fail;with_reducible refine K2e.out.mono ?_
  rintro e w1 ⟨⟨x,f,rfl⟩,rfl⟩;go_wp2_with fail;with_reducible refine KC.out.mono ?_
  rintro e w1 ⟨rfl,hb1⟩;go_wp2;go_ret2;exact ⟨_,_,rfl,dv_nil _,HA.out.up hb1,hb1⟩
 ·have hb7:7<Pl.L b:=by omega
  have ha7:Pl.L a≤7:=by omega
  clear hl h7;go_enter Tryz.func113,Tryz.ntmps113;go_wp2_with fail;with_reducible refine (K1s.out ha7).mono ?_
  rintro e w1 ⟨rfl,rfl⟩;go_wp2_with fail;with_reducible refine (K2.out hb7).mono ?_
  rintro e w1 ⟨rfl,rfl⟩;go_wp2_with fail;with_reducible refine KC.out.mono ?_
  rintro e w1 ⟨rfl,hb1⟩;go_wp2;go_ret2;exact ⟨_,_,rfl,dv_nil _,HA.out.up hb1,hb1⟩

def qrow (N Q k:Nat):List Nat:=(List.range N).map fun j=>if k≤j then Q/256 ^ j%256 else 0
theorem qrow_length (N Q k:Nat):(qrow N Q k).length=N:=by simp [qrow]
theorem qrow_zero (N Q:Nat):qrow N Q 0=Pl.dg 256 N Q:=by simp [qrow,Pl.dg]
theorem qrow_full (N Q:Nat):qrow N Q N=Pl.dg 256 N 0:=by
 unfold qrow Pl.dg;apply List.map_congr_left;intro j hj;rw [List.mem_range] at hj;rw [if_neg (by omega)];simp
theorem qrow_get (N Q k i:Nat) (hi:i<N):(qrow N Q k)[i]?=some (if k≤i then Q/256 ^ i%256 else 0):=by
 unfold qrow;rw [List.getElem?_map,List.getElem?_range hi];rfl
theorem qrow_set (N Q k:Nat) (h0:0<k) (hk:k≤N):(qrow N Q k).set (k-1) (Q/256 ^ (k-1)%256)=qrow N Q (k-1):=by
 apply List.ext_getElem?;intro j;rcases Nat.lt_or_ge j N with hj|hj
 ·rw [List.getElem?_set,qrow_length,qrow_get _ _ _ _ hj,qrow_get _ _ _ _ hj]
  by_cases h1:k-1=j
  ·rw [if_pos h1,if_pos (by omega),if_pos (by omega),h1]
  ·rw [if_neg h1]
   congr 1
   by_cases h2:k≤j
   ·rw [if_pos h2,if_pos (by omega)]
   ·rw [if_neg h2,if_neg (by omega)]
 ·rw [List.getElem?_eq_none (by rw [List.length_set,qrow_length];exact hj),List.getElem?_eq_none (by rw [qrow_length];exact hj)]
theorem qrow_same (N Q k t:Nat) (h0:0<k) (hk:k≤N):((qrow N Q k).set (k-1) t)[k-1]?=some t:=by
 rw [List.getElem?_set,if_pos rfl,qrow_length,if_pos (by omega)]
theorem quo_digit (a b k:Nat) (hb:0<b) (h0:0<k) (t:Nat) (ht:t*b≤(a/256 ^ k%b)*256+a/256 ^ (k-1)%256) (hend:(a/256 ^ k%b)*256+a/256 ^ (k-1)%256-t*b<b) :
 t=a/b/256 ^ (k-1)%256∧(a/256 ^ k%b)*256+a/256 ^ (k-1)%256-t*b=a/256 ^ (k-1)%b:=by
 obtain ⟨h1,h2⟩:=Pl.short_step 256 a b k (by omega) hb h0;generalize (a/256 ^ k%b)*256+a/256 ^ (k-1)%256=r at *;rw [← h1,← h2];have e:r=(r-t*b)+b*t:=by rw [Nat.mul_comm b t];omega
 have e1:r/b=t:=by rw [e,Nat.add_mul_div_left _ _ hb,Nat.div_eq_of_lt hend,Nat.zero_add]
 have e2:r%b=r-t*b:=by have:=Nat.div_add_mod r b;rw [e1,Nat.mul_comm] at this;omega
 exact ⟨e1.symm,e2.symm⟩
theorem quo_top (a b k:Nat) (hb:0<b):(a/256 ^ k%b)*256+a/256 ^ (k-1)%256<256*b:=by
 have h1:=Nat.mod_lt (a/256 ^ k) hb;have h2:=Nat.mod_lt (a/256 ^ (k-1)) (show 256>0 by omega);generalize a/256 ^ k%b=x at *;omega
end Go.Proofs.YtdkkjfnpinckjaaGreatDoor
