/-
 Contracts for convex sets: a separation of two of them.
-/
import Derived.Test.YtdkkjfnpinckjaaGreatDoorYNst
import Derived.Test.YtdkkjfnpinckjaaGreatDoorYCutI
import Derived.Test.YtdkkjfnpinckjaaGreatDoorYFit
set_option maxRecDepth 100000
set_option linter.unusedSimpArgs false
set_option linter.unusedVariables false
namespace Go.Proofs.YtdkkjfnpinckjaaGreatDoor
open Go Go.RowKit

theorem results_cell_tmp {P:Program} {fn:Func} {c t:Tmp} {ty:TypeId} {b:Nat} {cs:List Value} {d:TypeDesc} (h:fn.results = #[.cell c ty,.tmp t]) (tmps:Array Value) (w:World) (ha:tmps.getD c undef=.pointer (some ⟨b,0,none⟩))
 (hO:Own w b 0 cs) (hu:P.underlying ty=some d) (hd:d.isRow=true) (hi:(P.info? ty).map (·.size)=some cs.length):(results fn tmps).run P w=.ok (.tuple #[.agg cs.toArray,tmps.getD t undef]) w:=by
 have k:=run_loadVar_mid (P:=P) w b 0 ty cs d (own_range hO) hu hd hi;have ha2:tmps[c]?.getD undef=.pointer (some ⟨b,0,none⟩):=by simpa using ha
 simp [results,h,ha2,asAddr,k]
theorem half_any (w:World):Calls Tryz.prog 84 #[.int .i64 1,.int .i64 2] w fun e w'=>e=.returned (.tuple #[qv (1/2:Rat),.int .i64 0])∧Below w.heap.size w w':=by
 have h:=fromInts_any 1 2 w (by decide) (by decide) (by decide) (by decide) (by decide)
 rwa [show Rat.divInt 1 2=(1/2:Rat) from by rw [Rat.divInt_eq_div];rfl] at h
theorem half_sz:Pl.Sz 1 (1/2:Rat):=by
 rw [show (1/2:Rat)=mkRat 1 2 by rw [Rat.mkRat_eq_div];rfl];exact Pl.sz_mkRat (by decide) (by decide) (by decide)
theorem near2_sz {a b:List (Rat×Rat)} (ha:∀ q∈a,Pl.SzP 1 q) (hb:∀ q∈b,Pl.SzP 1 q):Pl.SzP 33 (Pl.nearest2 a b).1∧Pl.SzP 33 (Pl.nearest2 a b).2:=by
 by_cases h:Pl.cands a b=[]
 ·unfold Pl.nearest2
  rw [h];exact ⟨zero_sz.2.1,zero_sz.2.1⟩
 ·have hc:=(Pl.nearest2_spec h).1
  generalize Pl.nearest2 a b=c at hc;unfold Pl.cands at hc;simp only [List.mem_append,List.mem_flatMap,List.mem_map] at hc;rcases hc with ⟨x,hx,⟨y,hy,rfl⟩|⟨s,hs,rfl⟩⟩|⟨y,hy,s,hs,rfl⟩
  ·exact ⟨(ha x hx).mono (by decide),(hb y hy).mono (by decide)⟩
  ·exact ⟨(ha x hx).mono (by decide),nearP_sz (ha x hx) (Pl.edges_sz hb s hs)⟩
  ·exact ⟨nearP_sz (hb y hy) (Pl.edges_sz ha s hs),(hb y hy).mono (by decide)⟩

theorem csepar_none1 (A:Option Addr) (c:Nat) (vb:Value) (w:World) :
 Calls Tryz.prog 51 #[.slice A 0 c,vb] w fun e w'=>e=.returned (.tuple #[.agg #[.bool false,.bool false,.string ⟨#[]⟩,.bool false,.string ⟨#[]⟩,.bool false,.string ⟨#[]⟩,.bool false,.string ⟨#[]⟩,.bool false,.string ⟨#[]⟩,.bool false,.string ⟨#[]⟩,.bool false,.string ⟨#[]⟩,.bool false,.string ⟨#[]⟩,.bool false,.string ⟨#[]⟩,.bool false,.string ⟨#[]⟩],.int .i64 10])∧Below w.heap.size w w':=by
 go_enter Tryz.func51,Tryz.ntmps51;go_upto_region 2 with fail
 refine wp_named ?_;intro W1 hW1;have hL1:Below w.heap.size w W1:=by rw [hW1];exact bB
 have c1:Own W1 w.heap.size 0 [.bool false,.bool false,.string ⟨#[]⟩,.bool false,.string ⟨#[]⟩,.bool false,.string ⟨#[]⟩,.bool false,.string ⟨#[]⟩,.bool false,.string ⟨#[]⟩,.bool false,.string ⟨#[]⟩,.bool false,.string ⟨#[]⟩,.bool false,.string ⟨#[]⟩,.bool false,.string ⟨#[]⟩,.bool false,.string ⟨#[]⟩]:=by
  rw [hW1]
  first
  | (repeat (first|(with_reducible refine own_new (l:=[.bool false,.bool false,.string ⟨#[]⟩,.bool false,.string ⟨#[]⟩,.bool false,.string ⟨#[]⟩,.bool false,.string ⟨#[]⟩,.bool false,.string ⟨#[]⟩,.bool false,.string ⟨#[]⟩,.bool false,.string ⟨#[]⟩,.bool false,.string ⟨#[]⟩,.bool false,.string ⟨#[]⟩,.bool false,.string ⟨#[]⟩]) ?_;(simp;done))|with_reducible refine Own.alloc ?_ _|refine Own.far _ _ (by first|(simp;done)|(simp [*];done)|(simp;omega)) ?_));done
  | simp [Own,go_sem]
 have hB2:Below w.heap.size w W1:=by rw [hW1];exact bB
 clear hW1 hL1;have uc1:=c1;simp only [At,Own,Nat.reduceAdd,and_true] at uc1;go_wp2_with (refine wpList_store_cells (cs:=[.bool false,.bool false,.string ⟨#[]⟩,.bool false,.string ⟨#[]⟩,.bool false,.string ⟨#[]⟩,.bool false,.string ⟨#[]⟩,.bool false,.string ⟨#[]⟩,.bool false,.string ⟨#[]⟩,.bool false,.string ⟨#[]⟩,.bool false,.string ⟨#[]⟩,.bool false,.string ⟨#[]⟩,.bool false,.string ⟨#[]⟩]) rfl rfl _ _ _ rfl rfl rfl c1 rfl (by kernel_rfl) (by simp [Value.oneCell']) ?_;obtain ⟨WG,hWG⟩:∃ W_,W_=World.setCells W1 w.heap.size 0 [.bool false,.bool false,.string ⟨#[]⟩,.bool false,.string ⟨#[]⟩,.bool false,.string ⟨#[]⟩,.bool false,.string ⟨#[]⟩,.bool false,.string ⟨#[]⟩,.bool false,.string ⟨#[]⟩,.bool false,.string ⟨#[]⟩,.bool false,.string ⟨#[]⟩,.bool false,.string ⟨#[]⟩,.bool false,.string ⟨#[]⟩]:=⟨_,rfl⟩;rw [← hWG])
 have uo_:Own WG w.heap.size 0 [.bool false,.bool false,.string ⟨#[]⟩,.bool false,.string ⟨#[]⟩,.bool false,.string ⟨#[]⟩,.bool false,.string ⟨#[]⟩,.bool false,.string ⟨#[]⟩,.bool false,.string ⟨#[]⟩,.bool false,.string ⟨#[]⟩,.bool false,.string ⟨#[]⟩,.bool false,.string ⟨#[]⟩,.bool false,.string ⟨#[]⟩]:=by rw [hWG];exact c1.set rfl
 have hBG:Below w.heap.size w WG:=by rw [hWG];exact Below.sets (Nat.le_refl _) _ _ _ hB2
 clear hWG;refine bodyPost_ret (results_cell_tmp Tryz.results51 _ _ rfl uo_ Tryz.underlying42 rfl (by kernel_rfl)) rfl ⟨rfl,hBG⟩

theorem csepar_none2 (A B:Option Addr) (N c d:Nat) (w:World) (hN:0<N) :
 Calls Tryz.prog 51 #[.slice A N c,.slice B 0 d] w fun e w'=>e=.returned (.tuple #[.agg #[.bool false,.bool false,.string ⟨#[]⟩,.bool false,.string ⟨#[]⟩,.bool false,.string ⟨#[]⟩,.bool false,.string ⟨#[]⟩,.bool false,.string ⟨#[]⟩,.bool false,.string ⟨#[]⟩,.bool false,.string ⟨#[]⟩,.bool false,.string ⟨#[]⟩,.bool false,.string ⟨#[]⟩,.bool false,.string ⟨#[]⟩],.int .i64 10])∧Below w.heap.size w w':=by
 have j1:((N:Int)==0)=false:=by simp;omega
 have j3:¬ (N:Int)=0:=by omega
 go_enter Tryz.func51,Tryz.ntmps51;go_upto_region 2 with fail
 refine wp_named ?_;intro W1 hW1;have hL1:Below w.heap.size w W1:=by rw [hW1];exact bB
 have c1:Own W1 w.heap.size 0 [.bool false,.bool false,.string ⟨#[]⟩,.bool false,.string ⟨#[]⟩,.bool false,.string ⟨#[]⟩,.bool false,.string ⟨#[]⟩,.bool false,.string ⟨#[]⟩,.bool false,.string ⟨#[]⟩,.bool false,.string ⟨#[]⟩,.bool false,.string ⟨#[]⟩,.bool false,.string ⟨#[]⟩,.bool false,.string ⟨#[]⟩]:=by
  rw [hW1]
  first
  | (repeat (first|(with_reducible refine own_new (l:=[.bool false,.bool false,.string ⟨#[]⟩,.bool false,.string ⟨#[]⟩,.bool false,.string ⟨#[]⟩,.bool false,.string ⟨#[]⟩,.bool false,.string ⟨#[]⟩,.bool false,.string ⟨#[]⟩,.bool false,.string ⟨#[]⟩,.bool false,.string ⟨#[]⟩,.bool false,.string ⟨#[]⟩,.bool false,.string ⟨#[]⟩]) ?_;(simp;done))|with_reducible refine Own.alloc ?_ _|refine Own.far _ _ (by first|(simp;done)|(simp [*];done)|(simp;omega)) ?_));done
  | simp [Own,go_sem]
 have hB2:Below w.heap.size w W1:=by rw [hW1];exact bB
 clear hW1 hL1;have uc1:=c1;simp only [At,Own,Nat.reduceAdd,and_true] at uc1;go_wp2_with (refine wpList_store_cells (cs:=[.bool false,.bool false,.string ⟨#[]⟩,.bool false,.string ⟨#[]⟩,.bool false,.string ⟨#[]⟩,.bool false,.string ⟨#[]⟩,.bool false,.string ⟨#[]⟩,.bool false,.string ⟨#[]⟩,.bool false,.string ⟨#[]⟩,.bool false,.string ⟨#[]⟩,.bool false,.string ⟨#[]⟩,.bool false,.string ⟨#[]⟩]) rfl rfl _ _ _ rfl rfl rfl c1 rfl (by kernel_rfl) (by simp [Value.oneCell']) ?_;obtain ⟨WG,hWG⟩:∃ W_,W_=World.setCells W1 w.heap.size 0 [.bool false,.bool false,.string ⟨#[]⟩,.bool false,.string ⟨#[]⟩,.bool false,.string ⟨#[]⟩,.bool false,.string ⟨#[]⟩,.bool false,.string ⟨#[]⟩,.bool false,.string ⟨#[]⟩,.bool false,.string ⟨#[]⟩,.bool false,.string ⟨#[]⟩,.bool false,.string ⟨#[]⟩,.bool false,.string ⟨#[]⟩]:=⟨_,rfl⟩;rw [← hWG])
 have uo_:Own WG w.heap.size 0 [.bool false,.bool false,.string ⟨#[]⟩,.bool false,.string ⟨#[]⟩,.bool false,.string ⟨#[]⟩,.bool false,.string ⟨#[]⟩,.bool false,.string ⟨#[]⟩,.bool false,.string ⟨#[]⟩,.bool false,.string ⟨#[]⟩,.bool false,.string ⟨#[]⟩,.bool false,.string ⟨#[]⟩,.bool false,.string ⟨#[]⟩]:=by rw [hWG];exact c1.set rfl
 have hBG:Below w.heap.size w WG:=by rw [hWG];exact Below.sets (Nat.le_refl _) _ _ _ hB2
 clear hWG;refine bodyPost_ret (results_cell_tmp Tryz.results51 _ _ rfl uo_ Tryz.underlying42 rfl (by kernel_rfl)) rfl ⟨rfl,hBG⟩

theorem csepar_none (va vb:Value) (a b:List (Rat×Rat)) (w:World) (ha:PV w va a) (hb:PV w vb b) (h:a.length=0∨b.length=0) :
 Calls Tryz.prog 51 #[va,vb] w fun e w'=>e=.returned (.tuple #[.agg #[.bool false,.bool false,.string ⟨#[]⟩,.bool false,.string ⟨#[]⟩,.bool false,.string ⟨#[]⟩,.bool false,.string ⟨#[]⟩,.bool false,.string ⟨#[]⟩,.bool false,.string ⟨#[]⟩,.bool false,.string ⟨#[]⟩,.bool false,.string ⟨#[]⟩,.bool false,.string ⟨#[]⟩,.bool false,.string ⟨#[]⟩],.int .i64 10])∧Below w.heap.size w w':=by
 obtain ⟨A,c,rfl,_⟩:=ha.open_
 by_cases h1:a.length=0
 ·rw [h1];exact csepar_none1 A c vb w
 ·obtain ⟨B,d,rfl,_⟩:=hb.open_
  rw [h.resolve_left h1];exact csepar_none2 A B _ c d w (by omega)

set_option maxHeartbeats 1000000 in
theorem csepar_meet (va vb:Value) (a b L:List (Rat×Rat)) (w:World) (ha:PV w va a) (hb:PV w vb b) (hka:Small a) (hkb:Small b) (h0a:0<a.length) (h0b:0<b.length) (hL:Pl.interC a b=L) (cm:Rat×Rat) (hcm:L[0]?=some cm) :
 Calls Tryz.prog 51 #[va,vb] w fun e w'=>e=.returned (.tuple #[.agg #[.bool false,.bool (ng cm.1.num),.string (mg cm.1.num.natAbs),.bool false,.string (mg (dn cm.1)),.bool (ng cm.2.num),.string (mg cm.2.num.natAbs),.bool false,.string (mg (dn cm.2)),.bool false,.string ⟨#[]⟩,.bool false,.string ⟨#[]⟩,.bool false,.string ⟨#[]⟩,.bool false,.string ⟨#[]⟩,.bool false,.string ⟨#[]⟩,.bool false,.string ⟨#[]⟩],.int .i64 0])∧Below w.heap.size w w':=by
 have HKA:=Lib.hid hka;have HKB:=Lib.hid hkb;have HL:=Lib.hid hL;have HSA:=Lib.hid hka.sz;have HSB:=Lib.hid hkb.sz;have hlA:=hka.len;have hlB:=hkb.len;clear hL hka hkb;obtain ⟨Aa,ca,rfl,hca,hma,hxa⟩:=ha.open_;obtain ⟨Ab,cb,rfl,hcb,hmb,hxb⟩:=hb.open_;have HVA:=Lib.hid ha;have HVB:=Lib.hid hb;clear ha hb hxa hxb;generalize hNa:a.length=Na at *;generalize hNb:b.length=Nb at *;have HNA:=Lib.hid hNa;have HNB:=Lib.hid hNb;clear hNa hNb;have j1:((Na:Int)==0)=false:=by simp;omega
 have j2:¬ (Na:Int)=0:=by omega
 have j3:((Nb:Int)==0)=false:=by simp;omega
 have j4:¬ (Nb:Int)=0:=by omega
 have HCM:=Lib.hid hcm;obtain ⟨NL,hNL⟩:∃ n,L.length=n:=⟨_,rfl⟩
 have hnl:0<NL:=by rw [← hNL];exact (List.getElem?_eq_some_iff.1 hcm).1
 have HNL:=Lib.hid hNL;clear hcm hNL;have hnl1:(0:Int)<NL:=by omega
 go_enter Tryz.func51,Tryz.ntmps51;have K1:=Lib.hid (fun W va vb (ha:PV W va a) (hb:PV W vb b)=>HL.out▸inter_small va vb a b W ha hb HKA.out HKB.out);go_wp2_with (fail)
 refine calls_named ?_;intro W1 hW1;have hL1:Below w.heap.size w W1:=by rw [hW1];exact bB
 have c2:Own W1 w.heap.size 0 [.bool false,.bool false,.string ⟨#[]⟩,.bool false,.string ⟨#[]⟩,.bool false,.string ⟨#[]⟩,.bool false,.string ⟨#[]⟩,.bool false,.string ⟨#[]⟩,.bool false,.string ⟨#[]⟩,.bool false,.string ⟨#[]⟩,.bool false,.string ⟨#[]⟩,.bool false,.string ⟨#[]⟩,.bool false,.string ⟨#[]⟩]:=by
  rw [hW1]
  first
  | (repeat (first|(with_reducible refine own_new (l:=[.bool false,.bool false,.string ⟨#[]⟩,.bool false,.string ⟨#[]⟩,.bool false,.string ⟨#[]⟩,.bool false,.string ⟨#[]⟩,.bool false,.string ⟨#[]⟩,.bool false,.string ⟨#[]⟩,.bool false,.string ⟨#[]⟩,.bool false,.string ⟨#[]⟩,.bool false,.string ⟨#[]⟩,.bool false,.string ⟨#[]⟩]) ?_;(simp;done))|with_reducible refine Own.alloc ?_ _|refine Own.far _ _ (by first|(simp;done)|(simp [*];done)|(simp;omega)) ?_));done
  | simp [Own,go_sem]
 have hB3:Below w.heap.size w W1:=by rw [hW1];exact bB
 clear hW1 hL1;with_reducible refine (K1.out _ _ _ (HVA.out.up hB3) (HVB.out.up hB3)).mono ?_
 rintro e w1 ⟨v1,rfl,hv1,hb1⟩;have c4:=c2.up hb1;have hB5:Below w.heap.size w w1:=bel_up hB3 hb1;clear c2;have PW1:=Lib.hid hv1;clear hv1;obtain ⟨AL,cL,hvL,hcL,hmL,hxL⟩:=PW1.out.open_;rw [HNL.out] at hvL hcL;have XXL:=Lib.hid hxL;clear hxL;subst hvL;go_upto_region 5 with fail
 refine wp_named ?_;intro W2 hW2;have hL2:Below w1.heap.size w1 W2:=by rw [hW2];exact bB
 have c6:=c4.up hL2;have hA7:=hL2;have hB8:Below w.heap.size w W2:=by rw [hW2];exact bB
 clear hW2 hL2 c4;obtain ⟨g10,o11,ha12,-⟩:=(LX.up XXL.out kpP hA7) _ _ HCM.out;subst ha12;have ce9:=LX.at_ ((LX.up XXL.out kpP hA7)) HCM.out;have ce9_:g10<W2.heap.size:=World.block_lt_of_cell? _ _ ce9.1;have uce9:=ce9;simp only [CE,Nat.reduceMul,Nat.zero_mul,Nat.add_zero,Nat.add_assoc,Nat.reduceAdd] at uce9;have uc6:=c6;simp only [At,Own,Nat.reduceAdd,and_true] at uc6;go_wp2_with (refine wpList_store_cells (cs:=[.bool false,.bool (ng cm.1.num),.string (mg cm.1.num.natAbs),.bool false,.string (mg (dn cm.1)),.bool (ng cm.2.num),.string (mg cm.2.num.natAbs),.bool false,.string (mg (dn cm.2)),.bool false,.string ⟨#[]⟩,.bool false,.string ⟨#[]⟩,.bool false,.string ⟨#[]⟩,.bool false,.string ⟨#[]⟩,.bool false,.string ⟨#[]⟩,.bool false,.string ⟨#[]⟩]) rfl rfl _ _ _ rfl rfl rfl c6 rfl (by kernel_rfl) (by simp [Value.oneCell']) ?_;obtain ⟨WG,hWG⟩:∃ W_,W_=World.setCells W2 w.heap.size 0 [.bool false,.bool (ng cm.1.num),.string (mg cm.1.num.natAbs),.bool false,.string (mg (dn cm.1)),.bool (ng cm.2.num),.string (mg cm.2.num.natAbs),.bool false,.string (mg (dn cm.2)),.bool false,.string ⟨#[]⟩,.bool false,.string ⟨#[]⟩,.bool false,.string ⟨#[]⟩,.bool false,.string ⟨#[]⟩,.bool false,.string ⟨#[]⟩,.bool false,.string ⟨#[]⟩]:=⟨_,rfl⟩;rw [← hWG])
 have uo_:Own WG w.heap.size 0 [.bool false,.bool (ng cm.1.num),.string (mg cm.1.num.natAbs),.bool false,.string (mg (dn cm.1)),.bool (ng cm.2.num),.string (mg cm.2.num.natAbs),.bool false,.string (mg (dn cm.2)),.bool false,.string ⟨#[]⟩,.bool false,.string ⟨#[]⟩,.bool false,.string ⟨#[]⟩,.bool false,.string ⟨#[]⟩,.bool false,.string ⟨#[]⟩,.bool false,.string ⟨#[]⟩]:=by rw [hWG];exact c6.set rfl
 have hBG:Below w.heap.size w WG:=by rw [hWG];exact Below.sets (Nat.le_refl _) _ _ _ hB8
 clear hWG;refine bodyPost_ret (results_cell_tmp Tryz.results51 _ _ rfl uo_ Tryz.underlying42 rfl (by kernel_rfl)) rfl ⟨rfl,hBG⟩
set_option maxHeartbeats 1000000 in
theorem csepar_apart (va vb:Value) (a b:List (Rat×Rat)) (w:World) (ha:PV w va a) (hb:PV w vb b) (hka:Small a) (hkb:Small b) (h0a:0<a.length) (h0b:0<b.length) (hL:Pl.interC a b=[]) (p q d:Rat×Rat) (lv:Rat) (hp:(Pl.nearest2 a b).1=p) (hq:(Pl.nearest2 a b).2=q) (hd:Pl.subP q p=d) (hlv:Pl.midL p q=lv) :
 Calls Tryz.prog 51 #[va,vb] w fun e w'=>e=.returned (.tuple #[.agg #[.bool true,.bool false,.string ⟨#[]⟩,.bool false,.string ⟨#[]⟩,.bool false,.string ⟨#[]⟩,.bool false,.string ⟨#[]⟩,.bool (ng d.1.num),.string (mg d.1.num.natAbs),.bool false,.string (mg (dn d.1)),.bool (ng d.2.num),.string (mg d.2.num.natAbs),.bool false,.string (mg (dn d.2)),.bool (ng lv.num),.string (mg lv.num.natAbs),.bool false,.string (mg (dn lv))],.int .i64 0])∧Below w.heap.size w w':=by
 have HZ:Hid (Pl.SzP 33 p∧Pl.SzP 33 q):=Lib.hid (by rw [← hp,← hq];exact near2_sz hka.sz hkb.sz);have HZd:Hid (Pl.SzP 67 d):=Lib.hid (by rw [← hd];exact HZ.out.2.sub HZ.out.1);unfold Pl.midL at hlv;rw [hd] at hlv;have HZlv:Hid (Pl.Sz 1000 lv):=Lib.hid (by rw [← hlv];exact (((HZd.out.dot HZ.out.1).add (HZd.out.dot HZ.out.2)).mul half_sz).mono (by omega));have Hp:=Lib.hid hp;have Hq:=Lib.hid hq;have Hd:=Lib.hid hd;have Hlv:=Lib.hid hlv;clear hp hq hd hlv;have HKA:=Lib.hid hka;have HKB:=Lib.hid hkb;have HL:=Lib.hid hL;have HSA:=Lib.hid hka.sz;have HSB:=Lib.hid hkb.sz;have hlA:=hka.len;have hlB:=hkb.len;clear hL hka hkb;obtain ⟨Aa,ca,rfl,hca,hma,hxa⟩:=ha.open_;obtain ⟨Ab,cb,rfl,hcb,hmb,hxb⟩:=hb.open_;have HVA:=Lib.hid ha;have HVB:=Lib.hid hb;clear ha hb hxa hxb;generalize hNa:a.length=Na at *;generalize hNb:b.length=Nb at *;have HNA:=Lib.hid hNa;have HNB:=Lib.hid hNb;clear hNa hNb;have j1:((Na:Int)==0)=false:=by simp;omega
 have j2:¬ (Na:Int)=0:=by omega
 have j3:((Nb:Int)==0)=false:=by simp;omega
 have j4:¬ (Nb:Int)=0:=by omega
 go_enter Tryz.func51,Tryz.ntmps51;have K1:=Lib.hid (fun W va vb (ha:PV W va a) (hb:PV W vb b)=>HL.out▸inter_small va vb a b W ha hb HKA.out HKB.out);go_wp2_with (fail)
 refine calls_named ?_;intro W1 hW1;have hL1:Below w.heap.size w W1:=by rw [hW1];exact bB
 have c2:Own W1 w.heap.size 0 [.bool false,.bool false,.string ⟨#[]⟩,.bool false,.string ⟨#[]⟩,.bool false,.string ⟨#[]⟩,.bool false,.string ⟨#[]⟩,.bool false,.string ⟨#[]⟩,.bool false,.string ⟨#[]⟩,.bool false,.string ⟨#[]⟩,.bool false,.string ⟨#[]⟩,.bool false,.string ⟨#[]⟩,.bool false,.string ⟨#[]⟩]:=by
  rw [hW1]
  first
  | (repeat (first|(with_reducible refine own_new (l:=[.bool false,.bool false,.string ⟨#[]⟩,.bool false,.string ⟨#[]⟩,.bool false,.string ⟨#[]⟩,.bool false,.string ⟨#[]⟩,.bool false,.string ⟨#[]⟩,.bool false,.string ⟨#[]⟩,.bool false,.string ⟨#[]⟩,.bool false,.string ⟨#[]⟩,.bool false,.string ⟨#[]⟩,.bool false,.string ⟨#[]⟩]) ?_;(simp;done))|with_reducible refine Own.alloc ?_ _|refine Own.far _ _ (by first|(simp;done)|(simp [*];done)|(simp;omega)) ?_));done
  | simp [Own,go_sem]
 have hB3:Below w.heap.size w W1:=by rw [hW1];exact bB
 clear hW1 hL1;with_reducible refine (K1.out _ _ _ (HVA.out.up hB3) (HVB.out.up hB3)).mono ?_
 rintro e w1 ⟨v1,rfl,hv1,hb1⟩;have c4:=c2.up hb1;have hB5:Below w.heap.size w w1:=bel_up hB3 hb1;clear c2;have PW1:=Lib.hid hv1;clear hv1;obtain ⟨AL,cL,hvL⟩:∃ A c,v1=.slice A 0 c:=by obtain ⟨A,c,h,_⟩:=(PW1.out).open_;exact ⟨A,c,h⟩
 subst hvL;have K6:=Lib.hid (fun W va vb (ha:PV W va a) (hb:PV W vb b)=>Hp.out▸Hq.out▸cnear_any va vb a b W ha hb HSA.out HSB.out (by rw [HNA.out];omega) (by rw [HNB.out];omega) HKA.out.wrap HKB.out.wrap);have uc4:=c4;simp only [At,Own,Nat.reduceAdd,and_true] at uc4;go_wp2_with (fail)
 refine calls_named ?_;intro W2 hW2;have hL2:Below w1.heap.size w1 W2:=by rw [hW2];exact bB
 have c7:=c4.up hL2;have hA8:=hL2;have hB9:Below w.heap.size w W2:=by rw [hW2];exact bB
 clear hW2 hL2 uc4 c4;with_reducible refine (K6.out _ _ _ (HVA.out.up hB9) (HVB.out.up hB9)).mono ?_
 rintro e w2 ⟨rfl,hb2⟩;have c10:=c7.up hb2;have hA11:=bel_up hA8 hb2;have hB12:Below w.heap.size w w2:=bel_up hB9 hb2;clear c7 hA8;have an13:w1.heap.size≤w2.heap.size:=by have:=hA11.size;omega
 have ne14_:w.heap.size<w2.heap.size:=by have:=c10.lt;omega
 have ne14:=Nat.ne_of_lt ne14_;have ne14':=ne14.symm;have an15:w1.heap.size≤w2.heap.size+1:=by have:=hA11.size;omega
 have ne16_:w.heap.size<w2.heap.size+1:=by have:=c10.lt;omega
 have ne16:=Nat.ne_of_lt ne16_;have ne16':=ne16.symm;have uc10:=c10;simp only [At,Own,Nat.reduceAdd,and_true] at uc10;have K17:=Lib.hid (fun W=>Hd.out▸psub_any q p W HZ.out.2 HZ.out.1 (by omega) (by omega));go_wp2_with (fail)
 refine calls_named ?_;intro W3 hW3;have hL3:Below w2.heap.size w2 W3:=by rw [hW3];exact bB
 have c18:=c10.up hL3
 have c19:Own W3 w2.heap.size 0 [.bool (ng p.1.num),.string (mg p.1.num.natAbs),.bool false,.string (mg (dn p.1)),.bool (ng p.2.num),.string (mg p.2.num.natAbs),.bool false,.string (mg (dn p.2))]:=by
  rw [hW3]
  first
  | (repeat (first|(with_reducible refine own_new (l:=[.bool (ng p.1.num),.string (mg p.1.num.natAbs),.bool false,.string (mg (dn p.1)),.bool (ng p.2.num),.string (mg p.2.num.natAbs),.bool false,.string (mg (dn p.2))]) ?_;(simp;done))|with_reducible refine Own.alloc ?_ _|refine Own.far _ _ (by first|(simp;done)|(simp [*];done)|(simp;omega)) ?_));done
  | simp [Own,go_sem,uc10,ne14,ne14',ne14_,ne16,ne16',ne16_]
 have c20:Own W3 (w2.heap.size+1) 0 [.bool (ng q.1.num),.string (mg q.1.num.natAbs),.bool false,.string (mg (dn q.1)),.bool (ng q.2.num),.string (mg q.2.num.natAbs),.bool false,.string (mg (dn q.2))]:=by
  rw [hW3]
  first
  | (repeat (first|(with_reducible refine own_new (l:=[.bool (ng q.1.num),.string (mg q.1.num.natAbs),.bool false,.string (mg (dn q.1)),.bool (ng q.2.num),.string (mg q.2.num.natAbs),.bool false,.string (mg (dn q.2))]) ?_;(simp;done))|with_reducible refine Own.alloc ?_ _|refine Own.far _ _ (by first|(simp;done)|(simp [*];done)|(simp;omega)) ?_));done
  | simp [Own,go_sem,uc10,ne14,ne14',ne14_,ne16,ne16',ne16_]
 have hA21:=bel_up hA11 hL3;have hB22:Below w.heap.size w W3:=by rw [hW3];exact bB
 clear hW3 hL3 uc10 c10 hA11;with_reducible refine (K17.out _).mono ?_
 rintro e w3 ⟨rfl,hb3⟩;have c23:=c18.up hb3;have c24:=c19.up hb3;have c25:=c20.up hb3;have hA26:=bel_up hA21 hb3;have hB27:Below w.heap.size w w3:=bel_up hB22 hb3;clear c18 c19 c20 hA21;have an28:w1.heap.size≤w3.heap.size:=by have:=hA26.size;omega
 have ne29_:w.heap.size<w3.heap.size:=by have:=c23.lt;omega
 have ne29:=Nat.ne_of_lt ne29_;have ne29':=ne29.symm;have ne30_:w2.heap.size<w3.heap.size:=by have:=c24.lt;omega
 have ne30:=Nat.ne_of_lt ne30_;have ne30':=ne30.symm;have ne31_:w2.heap.size+1<w3.heap.size:=by have:=c25.lt;omega
 have ne31:=Nat.ne_of_lt ne31_;have ne31':=ne31.symm;have uc23:=c23;have uc24:=c24;have uc25:=c25;simp only [At,Own,Nat.reduceAdd,and_true] at uc23 uc24 uc25;have K32:=Lib.hid (fun W=>half_any W);go_wp2_with (fail)
 refine calls_named ?_;intro W4 hW4;have hL4:Below w3.heap.size w3 W4:=by rw [hW4];exact bB
 have c33:=c23.up hL4;have c34:=c24.up hL4;have c35:=c25.up hL4
 have c36:Own W4 w3.heap.size 0 [.bool (ng d.1.num),.string (mg d.1.num.natAbs),.bool false,.string (mg (dn d.1)),.bool (ng d.2.num),.string (mg d.2.num.natAbs),.bool false,.string (mg (dn d.2))]:=by
  rw [hW4]
  first
  | (repeat (first|(with_reducible refine own_new (l:=[.bool (ng d.1.num),.string (mg d.1.num.natAbs),.bool false,.string (mg (dn d.1)),.bool (ng d.2.num),.string (mg d.2.num.natAbs),.bool false,.string (mg (dn d.2))]) ?_;(simp;done))|with_reducible refine Own.alloc ?_ _|refine Own.far _ _ (by first|(simp;done)|(simp [*];done)|(simp;omega)) ?_));done
  | simp [Own,go_sem,uc23,uc24,uc25,ne29,ne29',ne29_,ne30,ne30',ne30_,ne31,ne31',ne31_]
 have hA37:=bel_up hA26 hL4;have hB38:Below w.heap.size w W4:=by rw [hW4];exact bB
 clear hW4 hL4 uc23 uc24 uc25 c23 c24 c25 hA26;with_reducible refine (K32.out _).mono ?_
 rintro e w4 ⟨rfl,hb4⟩;have c39:=c33.up hb4;have c40:=c34.up hb4;have c41:=c35.up hb4;have c42:=c36.up hb4;have hA43:=bel_up hA37 hb4;have hB44:Below w.heap.size w w4:=bel_up hB38 hb4;clear c33 c34 c35 c36 hA37;have an45:w1.heap.size≤w4.heap.size:=by have:=hA43.size;omega
 have ne46_:w.heap.size<w4.heap.size:=by have:=c39.lt;omega
 have ne46:=Nat.ne_of_lt ne46_;have ne46':=ne46.symm;have ne47_:w2.heap.size<w4.heap.size:=by have:=c40.lt;omega
 have ne47:=Nat.ne_of_lt ne47_;have ne47':=ne47.symm;have ne48_:w2.heap.size+1<w4.heap.size:=by have:=c41.lt;omega
 have ne48:=Nat.ne_of_lt ne48_;have ne48':=ne48.symm;have ne49_:w3.heap.size<w4.heap.size:=by have:=c42.lt;omega
 have ne49:=Nat.ne_of_lt ne49_;have ne49':=ne49.symm;have uc39:=c39;have uc40:=c40;have uc41:=c41;have uc42:=c42;simp only [At,Own,Nat.reduceAdd,and_true] at uc39 uc40 uc41 uc42;go_upto_region 9 with fail
 refine wp_named ?_;intro W5 hW5;have hL5:Below w4.heap.size w4 W5:=by rw [hW5];exact bB
 have c50:=c39.up hL5;have c51:=c40.up hL5;have c52:=c41.up hL5;have c53:=c42.up hL5
 have c54:Own W5 w4.heap.size 0 [.bool (ng ((1/2:Rat).num)),.string (mg ((1/2:Rat).num).natAbs),.bool false,.string (mg (dn (1/2:Rat)))]:=by
  rw [hW5]
  first
  | (repeat (first|(with_reducible refine own_new (l:=[.bool (ng ((1/2:Rat).num)),.string (mg ((1/2:Rat).num).natAbs),.bool false,.string (mg (dn (1/2:Rat)))]) ?_;(simp;done))|with_reducible refine Own.alloc ?_ _|refine Own.far _ _ (by first|(simp;done)|(simp [*];done)|(simp;omega)) ?_));done
  | simp [Own,go_sem,uc39,uc40,uc41,uc42,ne46,ne46',ne46_,ne47,ne47',ne47_,ne48,ne48',ne48_,ne49,ne49',ne49_]
 have hA55:=bel_up hA43 hL5;have hB56:Below w.heap.size w W5:=by rw [hW5];exact bB
 clear hW5 hL5 uc39 uc40 uc41 uc42 c39 c40 c41 c42 hA43;have K58:=Lib.hid (fun W=>pdot_any d p W HZd.out HZ.out.1 (by omega) (by omega));have K59:=Lib.hid (fun W=>pdot_any d q W HZd.out HZ.out.2 (by omega) (by omega));have K60:=Lib.hid (fun W=>qadd_any (Pl.dotP d p) (Pl.dotP d q) W ((HZd.out.dot HZ.out.1).mono (by omega)) ((HZd.out.dot HZ.out.2).mono (by omega)));have K61:=Lib.hid (fun W=>Hlv.out▸qmul_any ((Pl.dotP d p)+(Pl.dotP d q)) (1/2) W (((HZd.out.dot HZ.out.1).add (HZd.out.dot HZ.out.2)).mono (by omega)) (half_sz.mono (by omega)));refine wp_region_new1 10 9 12 [.bool false,.string ⟨#[]⟩,.bool false,.string ⟨#[]⟩] 33 (by kernel_rfl) (by kernel_rfl) rfl rfl rfl rfl (by intro h_;cases h_) (by simp) (run_alloc_zero Tryz.zeroValue33 rfl) (by kernel_rfl) ?_;intro V_57 hV_57;have vc50:=c50.up hV_57;have dc50:=fun p:Bel V_57=>vc50.bel p
 have vc51:=c51.up hV_57;have dc51:=fun p:Bel V_57=>vc51.bel p
 have vc52:=c52.up hV_57;have dc52:=fun p:Bel V_57=>vc52.bel p
 have vc53:=c53.up hV_57;have dc53:=fun p:Bel V_57=>vc53.bel p
 have vc54:=c54.up hV_57;have dc54:=fun p:Bel V_57=>vc54.bel p
 simp only [At,Own,Nat.reduceAdd,and_true] at dc50 dc51 dc52 dc53 dc54;have hBV_57:=bel_up hB56 hV_57;have hA63:=bel_up hA55 hV_57;simp only [List.map_cons,List.map_nil,maskOp,List.take_succ_cons,List.take_zero];repeat (go_big_quiet_step (first|(go_at_call 63;with_reducible exact Calls.bel (K58.out _))|(go_at_call 63;with_reducible exact Calls.bel (K59.out _))|(go_at_call 88;with_reducible exact Calls.bel (K60.out _))|(go_at_call 85;with_reducible exact Calls.bel (K61.out _))))
 refine wpQuiet_nil ?_;refine ⟨[.bool (ng lv.num),.string (mg lv.num.natAbs),.bool false,.string (mg (dn lv))],rfl,rfl,by simp [Value.oneCell'],?_⟩;intro bq62 wn_57 hbn_57 lbq62 mbq62 c64;simp only [Act.put,List.setIfInBounds_toArray,List.set_cons_zero,List.set_cons_succ];have ne65:w.heap.size≠bq62:=by have:=c50.lt;omega
 have ne65':=ne65.symm;have ne66:w2.heap.size≠bq62:=by have:=c51.lt;omega
 have ne66':=ne66.symm;have ne67:w2.heap.size+1≠bq62:=by have:=c52.lt;omega
 have ne67':=ne67.symm;have ne68:w3.heap.size≠bq62:=by have:=c53.lt;omega
 have ne68':=ne68.symm;have ne69:w4.heap.size≠bq62:=by have:=c54.lt;omega
 have ne69':=ne69.symm;have wbq62:=Nat.le_trans hB56.size lbq62;have an70:w1.heap.size≤bq62:=Nat.le_trans hA55.size lbq62;clear hA63 hBV_57 dc54 vc54 dc53 vc53 dc52 vc52 dc51 vc51 dc50 vc50 hV_57 V_57;have c71:=c50.up hbn_57;have c72:=c51.up hbn_57;have c73:=c52.up hbn_57;have c74:=c53.up hbn_57;have c75:=c54.up hbn_57;have hA76:=bel_up hA55 hbn_57;have hB77:Below w.heap.size w wn_57:=bel_up hB56 hbn_57;clear c50 c51 c52 c53 c54 hA55;go_upto_region 10 with fail
 refine wp_named ?_;intro W6 hW6;have hL6:Below wn_57.heap.size wn_57 W6:=by rw [hW6];exact bB
 have c78:=c71.up hL6;have c79:=c72.up hL6;have c80:=c73.up hL6;have c81:=c74.up hL6;have c82:=c75.up hL6;have c83:=c64.up hL6;have hA84:=bel_up hA76 hL6;have hB85:Below w.heap.size w W6:=by rw [hW6];exact bB
 clear hW6 hL6 c71 c72 c73 c74 c75 c64 hA76;have uc78:=c78;have uc79:=c79;have uc80:=c80;have uc81:=c81;have uc82:=c82;have uc83:=c83;simp only [At,Own,Nat.reduceAdd,and_true] at uc78 uc79 uc80 uc81 uc82 uc83;go_wp2_with (refine wpList_store_cells (cs:=[.bool true,.bool false,.string ⟨#[]⟩,.bool false,.string ⟨#[]⟩,.bool false,.string ⟨#[]⟩,.bool false,.string ⟨#[]⟩,.bool (ng d.1.num),.string (mg d.1.num.natAbs),.bool false,.string (mg (dn d.1)),.bool (ng d.2.num),.string (mg d.2.num.natAbs),.bool false,.string (mg (dn d.2)),.bool (ng lv.num),.string (mg lv.num.natAbs),.bool false,.string (mg (dn lv))]) rfl rfl _ _ _ rfl rfl rfl c78 rfl (by kernel_rfl) (by simp [Value.oneCell']) ?_;obtain ⟨WG,hWG⟩:∃ W_,W_=World.setCells W6 w.heap.size 0 [.bool true,.bool false,.string ⟨#[]⟩,.bool false,.string ⟨#[]⟩,.bool false,.string ⟨#[]⟩,.bool false,.string ⟨#[]⟩,.bool (ng d.1.num),.string (mg d.1.num.natAbs),.bool false,.string (mg (dn d.1)),.bool (ng d.2.num),.string (mg d.2.num.natAbs),.bool false,.string (mg (dn d.2)),.bool (ng lv.num),.string (mg lv.num.natAbs),.bool false,.string (mg (dn lv))]:=⟨_,rfl⟩;rw [← hWG])
 have uo_:Own WG w.heap.size 0 [.bool true,.bool false,.string ⟨#[]⟩,.bool false,.string ⟨#[]⟩,.bool false,.string ⟨#[]⟩,.bool false,.string ⟨#[]⟩,.bool (ng d.1.num),.string (mg d.1.num.natAbs),.bool false,.string (mg (dn d.1)),.bool (ng d.2.num),.string (mg d.2.num.natAbs),.bool false,.string (mg (dn d.2)),.bool (ng lv.num),.string (mg lv.num.natAbs),.bool false,.string (mg (dn lv))]:=by rw [hWG];exact c78.set rfl
 have hBG:Below w.heap.size w WG:=by rw [hWG];exact Below.sets (Nat.le_refl _) _ _ _ hB85
 clear hWG;refine bodyPost_ret (results_cell_tmp Tryz.results51 _ _ rfl uo_ Tryz.underlying42 rfl (by kernel_rfl)) rfl ⟨rfl,hBG⟩
end Go.Proofs.YtdkkjfnpinckjaaGreatDoor
