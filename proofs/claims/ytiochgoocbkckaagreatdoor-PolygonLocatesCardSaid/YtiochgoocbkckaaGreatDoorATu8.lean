/-
 The law's turned rings.
-/
import Derived.Test.YtiochgoocbkckaaGreatDoorAgao
import Derived.Test.YtiochgoocbkckaaGreatDoorAgaw
set_option maxRecDepth 100000
set_option linter.unusedSimpArgs false
set_option linter.unusedVariables false
namespace Go.Proofs.YtiochgoocbkckaaGreatDoor
open Go Go.RowKit

theorem remU (s k N m:Nat) (h:m=(s+k)%N) (hs:s≤1000000) (hN:N≤1000000) (hk:k≤1000000):((s:Int)+k).tmod N=m∧((s:Int)+k)%N=m∧IntKind.i64.wrap ((s:Int)+k)=s+k∧wrap64 ((s:Int)+k)=s+k∧IntKind.i64.wrap (m:Int)=m∧wrap64 (m:Int)=m:=by
 have h1:((s:Int)+k).tmod N=m:=by rw [h];rfl
 have h2:((s:Int)+k)%N=m:=by rw [h];rfl
 have hm:m≤2000000:=by rw [h];exact Nat.le_trans (Nat.mod_le _ _) (by omega)
 refine ⟨h1,h2,?_,?_,?_,?_⟩
 ·simp [IntKind.wrap,IntKind.bits,IntKind.signed];omega
 ·unfold wrap64;omega
 ·simp [IntKind.wrap,IntKind.bits,IntKind.signed];omega
 ·unfold wrap64;omega
theorem subU (N m m2:Nat) (h:m2=N-1-m) (hm:m<N) (hN:N≤1000000):(N:Int)-1-m=m2∧IntKind.i64.wrap ((N:Int)-1)=N-1∧wrap64 ((N:Int)-1)=N-1∧IntKind.i64.wrap (m2:Int)=m2∧wrap64 (m2:Int)=m2:=by
 refine ⟨by omega,?_,?_,?_,?_⟩
 ·simp [IntKind.wrap,IntKind.bits,IntKind.signed];omega
 ·unfold wrap64;omega
 ·simp [IntKind.wrap,IntKind.bits,IntKind.signed];omega
 ·unfold wrap64;omega
def tuI (n start:Nat) (back:Bool) (i:Nat):Nat:=if back then n-1-(start+i)%n else (start+i)%n
theorem turned_tuI (l:List (Rat×Rat)) (start:Nat) (back:Bool):Pg.turned l start back=(List.range l.length).map fun i=>Pg.vx l (tuI l.length start back i):=rfl
theorem tu_step {l:List (Rat×Rat)} {n start k j:Nat} {back:Bool} {x:Rat×Rat} {L:List (Rat×Rat)} (hL:L=(List.range k).map fun i=>Pg.vx l (tuI n start back i)) (hj:tuI n start back k=j) (hx:Pg.vx l j=x):L++[x]=(List.range (k+1)).map fun i=>Pg.vx l (tuI n start back i):=by
 rw [List.range_succ,List.map_append,← hL,List.map_cons,List.map_nil,hj,hx]

set_option maxHeartbeats 2000000 in
theorem turned_any {S:Nat} (v:Value) (l:List (Rat×Rat)) (start:Nat) (back:Bool) (w:World) (h:PV w v l) (hs:∀ q∈l,Pl.SzP S q) (hn:l.length≤1000) (hst:start≤1000) :
 Calls Tryz.prog 57 #[v,.int .i64 start,.bool back] w fun e w'=>∃ v',e=.returned v'∧PV w' v' (Pg.turned l start back)∧Below w.heap.size w w':=by
 obtain ⟨A,c,rfl,hc,hm,hx⟩:=h.open_;have HV:=Lib.hid h;have HX:=Lib.hid hx;have HS:=Lib.hid hs;have HR:Hid (Pg.turned l start back=(List.range l.length).map fun i=>Pg.vx l (tuI l.length start back i)):=Lib.hid rfl;have HF:Hid (l.take l.length=l):=Lib.hid List.take_length;generalize hN:l.length=N at *;have HN:=Lib.hid hN;clear h hx hs hN;go_enter Tryz.func57,Tryz.ntmps57;go_wp2_with fail;go_loopw [7,8] (fun s7 s8 wr=>∃ (k:Nat) (L:List (Rat×Rat)),s8=.int .i64 k∧wr.ownsRow w.heap.size 45 8 s7 k (pts L)∧Below w.heap.size w wr∧k≤N∧Hid (L=(List.range k).map fun i=>Pg.vx l (tuI N start back i))) (fun _ s8 _=>N-(intOf s8).toNat)
 case atStart=>exact ⟨0,([]),rfl,World.ownsRow_nil _ _ _ _,Below.refl _ _,(by omega),Lib.hid rfl⟩
 case round =>
  obtain ⟨k,L,rfl,o1,hB2,hk,HE⟩:=hrel;obtain ⟨wr3,hwr3⟩:∃ W_,W_=wr:=⟨_,rfl⟩
  subst hwr3;have O4:=Lib.hid o1;clear o1
  by_cases hltk:k<N
  ·skip
   have i1k:(k:Int)<N:=by omega
   have j0:¬ (N:Int)=0:=by omega
   have j1:((N:Int)==0)=false:=by simpa using j0
   obtain ⟨m,hm1⟩:∃ m,m=(start+k)%N:=⟨_,rfl⟩
   have hm2:m<N:=hm1▸Nat.mod_lt _ (by omega);have i2:(m:Int)<N:=Int.ofNat_lt.2 hm2;obtain ⟨m2,hm3⟩:∃ m2,m2=N-1-m:=⟨_,rfl⟩
   have hm4:m2<N:=by rw [hm3];exact Nat.lt_of_le_of_lt (Nat.sub_le _ _) (Nat.sub_lt (Nat.lt_of_le_of_lt (Nat.zero_le _) hm2) Nat.one_pos)
   have i3:(m2:Int)<N:=Int.ofNat_lt.2 hm4;have HM:=Lib.hid hm1;have HM2:=Lib.hid hm3;obtain ⟨x5,hx6⟩:∃ x,l[m]?=some x:=⟨_,List.getElem?_eq_getElem (by rw [HN.out];omega)⟩
   have Hhx6:=Lib.hid hx6;have Zhx6:=Lib.hid (HS.out _ (List.mem_of_getElem? hx6));clear hx6;obtain ⟨x7,hx8⟩:∃ x,l[m2]?=some x:=⟨_,List.getElem?_eq_getElem (by rw [HN.out];omega)⟩
   have Hhx8:=Lib.hid hx8;have Zhx8:=Lib.hid (HS.out _ (List.mem_of_getElem? hx8));clear hx8;have hk6:k≤1000000:=by clear hm1 hm3 i2 i3 hm4;omega
   have hN6:N≤1000000:=by clear hm1 hm3 i2 i3 hm4;omega
   have hs6:start≤1000000:=by clear hm1 hm3 i2 i3 hm4;omega
   obtain ⟨r1,r2,r3,r4,r5,r6⟩:=remU start k N m hm1 hs6 hN6 hk6;obtain ⟨p1,p2,p3,p4,p5⟩:=subU N m m2 hm3 hm2 hN6;clear hm1 hm3 r2 r4 r5 r6 p3 p5 j0;cases back
   ·skip
    obtain ⟨g10,o11,ha12,-⟩:=(HX.out).up kpP hB2 _ _ Hhx6.out;subst ha12;have ce9:=LX.at_ ((HX.out).up kpP hB2) Hhx6.out;have ce9_:g10<wr3.heap.size:=World.block_lt_of_cell? _ _ ce9.1;have uce9:=ce9;simp only [CE,Nat.reduceMul] at uce9;go_wp2_with (at_builtin;refine wpList_appF rfl _ _ _ rfl ti_pt O4.out (hB2).size rfl rfl rfl rfl (pcells_one x5) (by omega) (by decide) ?_)
    intro v13 w_v13 hown_v13 hst_v13;have O15:Hid (w_v13.ownsRow w.heap.size 45 8 v13 ((k+1)) (pts (L++[x5]))):=Lib.hid (by rw [pts_snoc];exact hown_v13);have hB16:Below w.heap.size w w_v13:=hst_v13.below hB2 (hB2).size (fun r hr=>(O4.out.lt r hr).1);clear uce9 hown_v13;go_wp2;go_roundw
    case rel=>exact ⟨(k+1),(L++[x5]),(by first|rfl|exact congrArg (Value.int .i64) (by omega)|simp [*]),(by repeat (first|with_reducible exact O15.out|refine owns_far ?_ _ (by omega) _|with_reducible refine World.ownsRow.alloc ?_ _)),(by exact bB),(by omega),Lib.hid (tu_step (j:=m) HE.out (by unfold tuI;rw [if_neg (by decide),← HM.out]) (Pg.vx_some (by rw [HN.out,Nat.mod_eq_of_lt (by omega)];exact Hhx6.out)))⟩
    case measure=>simp [intOf]<;>omega
   ·skip
    obtain ⟨g18,o19,ha20,-⟩:=(HX.out).up kpP hB2 _ _ Hhx8.out;subst ha20;have ce17:=LX.at_ ((HX.out).up kpP hB2) Hhx8.out;have ce17_:g18<wr3.heap.size:=World.block_lt_of_cell? _ _ ce17.1;have uce17:=ce17;simp only [CE,Nat.reduceMul] at uce17;go_wp2_with (at_builtin;refine wpList_appF rfl _ _ _ rfl ti_pt O4.out (hB2).size rfl rfl rfl rfl (pcells_one x7) (by omega) (by decide) ?_)
    intro v21 w_v21 hown_v21 hst_v21;have O23:Hid (w_v21.ownsRow w.heap.size 45 8 v21 ((k+1)) (pts (L++[x7]))):=Lib.hid (by rw [pts_snoc];exact hown_v21);have hB24:Below w.heap.size w w_v21:=hst_v21.below hB2 (hB2).size (fun r hr=>(O4.out.lt r hr).1);clear uce17 hown_v21;go_wp2;go_roundw
    case rel=>exact ⟨(k+1),(L++[x7]),(by first|rfl|exact congrArg (Value.int .i64) (by omega)|simp [*]),(by repeat (first|with_reducible exact O23.out|refine owns_far ?_ _ (by omega) _|with_reducible refine World.ownsRow.alloc ?_ _)),(by exact bB),(by omega),Lib.hid (tu_step (j:=m2) HE.out (by unfold tuI;rw [if_pos rfl,← HM.out,← HM2.out]) (Pg.vx_some (by rw [HN.out,Nat.mod_eq_of_lt (by omega)];exact Hhx8.out)))⟩
    case measure=>simp [intOf]<;>omega
  ·skip
   have hkN:N=k:=by omega
   subst hkN;go_wp2;go_ret;exact ⟨_,rfl,(by rw [HR.out,← HE.out];exact pv_own O4.out),(by exact bB)⟩

theorem tu_len (l:List (Rat×Rat)) (s:Nat) (b:Bool):(Pg.turned l s b).length=l.length:=by unfold Pg.turned;simp
theorem sz_ex:∀ l:List (Rat×Rat),∃ S,∀ q∈l,Pl.SzP S q
 | []=>⟨0,fun _ h=>by cases h⟩
 | p :: l=>by
  obtain ⟨S,h⟩:=sz_ex l;refine ⟨S+(Pl.L p.1.num.natAbs+Pl.L p.1.den+Pl.L p.2.num.natAbs+Pl.L p.2.den),fun q hq => ?_⟩;rcases List.mem_cons.1 hq with rfl|hq
  ·exact ⟨⟨by omega,by omega⟩,⟨by omega,by omega⟩⟩
  ·exact (h q hq).mono (by omega)
theorem turned_all (v:Value) (l:List (Rat×Rat)) (start:Nat) (back:Bool) (w:World) (h:PV w v l) (hn:l.length≤1000) (hst:start≤1000) :
 Calls Tryz.prog 57 #[v,.int .i64 start,.bool back] w fun e w'=>∃ v',e=.returned v'∧PV w' v' (Pg.turned l start back)∧Below w.heap.size w w':=by
 obtain ⟨S,hs⟩:=sz_ex l;exact turned_any v l start back w h hs hn hst
end Go.Proofs.YtiochgoocbkckaaGreatDoor
