/-
 Contracts of the reference for convex sets: the part to the left of a line.
-/
import Derived.Test.YtdkkjfnpinckjaaGreatDoorYCcu
import Derived.Test.YtdkkjfnpinckjaaGreatDoorYCutS
import Derived.Test.YtdkkjfnpinckjaaGreatDoorYMl
set_option maxRecDepth 100000
set_option linter.unusedSimpArgs false
set_option linter.unusedVariables false
namespace Go.Proofs.YtdkkjfnpinckjaaGreatDoor
open Go Go.RowKit

def pairL (a b x q:Rat×Rat):List (Rat×Rat):=if Pl.turn a b x<0∧0<Pl.turn a b q then [Pl.crs a b x q] else []
def selfL (a b x:Rat×Rat):List (Rat×Rat):=if 0≤Pl.turn a b x then [x] else []
def rowL (l:List (Rat×Rat)) (a b x:Rat×Rat):List (Rat×Rat):=selfL a b x++l.flatMap (pairL a b x)
theorem cutR_rows (l:List (Rat×Rat)) (a b:Rat×Rat):Pl.cutR l a b=l.flatMap (rowL l a b):=rfl
theorem pairL_yes {a b x q:Rat×Rat} {s t:Int} (h1:Pl.turn a b x=s) (h2:Pl.turn a b q=t) (hs:s<0) (ht:0<t):pairL a b x q=[Pl.crs a b x q]:=by
 rw [pairL,if_pos (by rw [h1,h2];exact ⟨hs,ht⟩)]
theorem pairL_no {a b x q:Rat×Rat} {s:Int} (h1:Pl.turn a b x=s) (hs:¬ s<0):pairL a b x q=[]:=by
 rw [pairL,if_neg (by rw [h1];exact fun h=>hs h.1)]
theorem pairL_no2 {a b x q:Rat×Rat} {t:Int} (h1:Pl.turn a b q=t) (hs:¬ 0<t):pairL a b x q=[]:=by
 rw [pairL,if_neg (by rw [h1];exact fun h=>hs h.2)]
theorem selfL_yes {a b x:Rat×Rat} {s:Int} (h1:Pl.turn a b x=s) (hs:¬ s<0):selfL a b x=[x]:=by
 rw [selfL,if_pos (by rw [h1];omega)]
theorem selfL_no {a b x:Rat×Rat} {s:Int} (h1:Pl.turn a b x=s) (hs:s<0):selfL a b x=[]:=by
 rw [selfL,if_neg (by rw [h1];omega)]
theorem cutR_len (l:List (Rat×Rat)) (a b:Rat×Rat):(Pl.cutR l a b).length≤l.length*(1+l.length):=by
 rw [cutR_rows]
 have h1:∀ x (E:List (Rat×Rat)),(E.flatMap (pairL a b x)).length≤E.length:=by
  intro x E
  induction E with
  | nil=>simp
  | cons e E ih =>
   rw [List.flatMap_cons,List.length_append,List.length_cons];have:(pairL a b x e).length≤1:=by unfold pairL;split<;>simp
   omega
 have h2:∀ E:List (Rat×Rat),(E.flatMap (rowL l a b)).length≤E.length*(1+l.length):=by
  intro E
  induction E with
  | nil=>simp
  | cons e E ih =>
   rw [List.flatMap_cons,List.length_append,List.length_cons,Nat.add_mul]
   have:(rowL l a b e).length≤1+l.length:=by
    rw [rowL,List.length_append];have:=h1 e l;have:(selfL a b e).length≤1:=by unfold selfL;split<;>simp
    omega
   omega
 exact h2 l
theorem turn_ne {a b x y:Rat×Rat} {s t:Int} (h1:Pl.turn a b x=s) (h2:Pl.turn a b y=t) (hs:s<0) (ht:0<t):Pl.crossP (Pl.subP b a) (Pl.subP x a)-Pl.crossP (Pl.subP b a) (Pl.subP y a)≠0:=by
 have h3:=Pl.turn_neg.1 (show Pl.turn a b x<0 by omega);have h4:=Pl.turn_pos.1 (show 0<Pl.turn a b y by omega);show Pl.det a b x-Pl.det a b y≠0;grind
theorem haddC {j k:Nat} (a b s t:Rat×Rat) (w:World) (hp:Pl.SzP j s) (hq:Pl.SzP k (Pl.scaleP (Pl.subP t s) (Pl.crossP (Pl.subP b a) (Pl.subP s a)/(Pl.crossP (Pl.subP b a) (Pl.subP s a)-Pl.crossP (Pl.subP b a) (Pl.subP t a))))) (hj:j≤1000000) (hk:k≤1000000) :
 Calls Tryz.prog 67 #[pv s,pv (Pl.scaleP (Pl.subP t s) (Pl.crossP (Pl.subP b a) (Pl.subP s a)/(Pl.crossP (Pl.subP b a) (Pl.subP s a)-Pl.crossP (Pl.subP b a) (Pl.subP t a))))] w fun e w'=>e=.returned (pv (Pl.crs a b s t))∧Below w.heap.size w w' :=
 hadd_any s _ w hp hq hj hk
theorem sgnS {q:Rat} {t:Int} (h:Pl.sgn q=t):t=-1∨t=0∨t=1:=h▸sgn_three _
theorem cutR_sz {I J:Nat} {l:List (Rat×Rat)} {a b:Rat×Rat} (ha:Pl.SzP I a) (hb:Pl.SzP I b) (hs:∀ q∈l,Pl.SzP J q):∀ q∈Pl.cutR l a b,Pl.SzP (18*I+9*J+18) q:=by
 intro q hq;rcases Pl.cutR_mem.1 hq with ⟨h,_⟩|⟨s,h1,t,h2,_,_,rfl⟩
 ·exact (hs q h).mono (by omega)
 ·exact Pl.crs_sz ha hb (hs s h1) (hs t h2)

set_option maxHeartbeats 4000000 in
theorem hcut_any {I J:Nat} (v:Value) (l:List (Rat×Rat)) (a b:Rat×Rat) (w:World) (h:PV w v l) (hs:∀ q∈l,Pl.SzP J q) (hn:l.length≤900) (ha:Pl.SzP I a) (hb:Pl.SzP I b) (hIJ:18*I+9*J+18≤100000) :
 Calls Tryz.prog 35 #[v,.agg #[.bool (ng a.1.num),.string (mg a.1.num.natAbs),.bool false,.string (mg (dn a.1)),.bool (ng a.2.num),.string (mg a.2.num.natAbs),.bool false,.string (mg (dn a.2)),.bool (ng b.1.num),.string (mg b.1.num.natAbs),.bool false,.string (mg (dn b.1)),.bool (ng b.2.num),.string (mg b.2.num.natAbs),.bool false,.string (mg (dn b.2))]] w fun e w'=>∃ v',e=.returned v'∧PV w' v' (Pl.wrap (Pl.cutR l a b))∧Below w.heap.size w w':=by
 obtain ⟨A,c,rfl,hc,hm,hx⟩:=h.open_;have HV:=Lib.hid h;have HX:=Lib.hid hx;have HS:=Lib.hid hs;have HC:=Lib.hid (cutR_sz (l:=l) ha hb hs);have HLEN:Hid ((Pl.cutR l a b).length≤1000000):=Lib.hid (by have h1:=cutR_len l a b;have h2:l.length*(1+l.length)≤900*901:=Nat.mul_le_mul hn (by omega);omega);have HF:Hid (l.take l.length=l):=Lib.hid List.take_length;generalize hN:l.length=N at *;have HN:=Lib.hid hN;clear h hx hs hN;go_enter Tryz.func35,Tryz.ntmps35;go_wp2_with fail;refine wp_named ?_;intro W1 hW1;have hL1:Below w.heap.size w W1:=by rw [hW1];exact bB
 have c1:Own W1 w.heap.size 0 [.bool (ng a.1.num),.string (mg a.1.num.natAbs),.bool false,.string (mg (dn a.1)),.bool (ng a.2.num),.string (mg a.2.num.natAbs),.bool false,.string (mg (dn a.2)),.bool (ng b.1.num),.string (mg b.1.num.natAbs),.bool false,.string (mg (dn b.1)),.bool (ng b.2.num),.string (mg b.2.num.natAbs),.bool false,.string (mg (dn b.2))]:=by
  rw [hW1]
  first
  | (repeat (first|(with_reducible refine own_new (l:=[.bool (ng a.1.num),.string (mg a.1.num.natAbs),.bool false,.string (mg (dn a.1)),.bool (ng a.2.num),.string (mg a.2.num.natAbs),.bool false,.string (mg (dn a.2)),.bool (ng b.1.num),.string (mg b.1.num.natAbs),.bool false,.string (mg (dn b.1)),.bool (ng b.2.num),.string (mg b.2.num.natAbs),.bool false,.string (mg (dn b.2))]) ?_;(simp;done))|with_reducible refine Own.alloc ?_ _|refine Own.far _ _ (by first|(simp;done)|(simp [*];done)|(simp;omega)) ?_));done
  | simp [Own,go_sem]
 have hB2:Below w.heap.size w W1:=by rw [hW1];exact bB
 clear hW1 hL1;go_loopw [5,6] (fun s5 s6 wr=>∃ (k:Nat) (n:Nat) (L:List (Rat×Rat)),s6=.int .i64 k∧Own wr w.heap.size 0 [.bool (ng a.1.num),.string (mg a.1.num.natAbs),.bool false,.string (mg (dn a.1)),.bool (ng a.2.num),.string (mg a.2.num.natAbs),.bool false,.string (mg (dn a.2)),.bool (ng b.1.num),.string (mg b.1.num.natAbs),.bool false,.string (mg (dn b.1)),.bool (ng b.2.num),.string (mg b.2.num.natAbs),.bool false,.string (mg (dn b.2))]∧wr.ownsRow w.heap.size 35 8 s5 n (pts L)∧Value.ownBlock s5≠some w.heap.size∧Below w.heap.size w wr∧k≤N∧n≤1000*k∧Hid (L=(l.take k).flatMap (rowL l a b))) (fun _ s6 _=>N-(intOf s6).toNat)
 case atStart=>exact ⟨0,0,([]),rfl,c1,World.ownsRow_nil _ _ _ _,by simp [Value.ownBlock],hB2,(by omega),(by omega),Lib.hid rfl⟩
 case round =>
  clear c1 hB2;obtain ⟨k,n,L,rfl,b3,o4,f5,hB6,hk,hnk,HE⟩:=hrel;obtain ⟨wr7,hwr7⟩:∃ W_,W_=wr:=⟨_,rfl⟩
  subst hwr7;have O8:=Lib.hid o4;clear o4
  by_cases hltk:k<N
  ·skip
   have i1k:(k:Int)<N:=by omega
   obtain ⟨x9,hx10⟩:∃ x,l[k]?=some x:=⟨_,List.getElem?_eq_getElem (by rw [HN.out];omega)⟩
   have Hhx10:=Lib.hid hx10;have Zhx10:=Lib.hid (HS.out _ (List.mem_of_getElem? hx10));clear hx10;obtain ⟨g12,o13,ha14,-⟩:=(HX.out).up kpP hB6 _ _ Hhx10.out;subst ha14;have ce11:=LX.at_ ((HX.out).up kpP hB6) Hhx10.out;have ce11_:g12<wr7.heap.size:=World.block_lt_of_cell? _ _ ce11.1;have uce11:=ce11;simp only [CE,Nat.reduceMul] at uce11;have f15:=owns_new0 O8.out;have ne16_:w.heap.size<wr7.heap.size:=by have:=b3.lt;omega
   have ne16:=Nat.ne_of_lt ne16_;have ne16':=ne16.symm;have ne17_:g12<wr7.heap.size:=by omega
   have ne17:=Nat.ne_of_lt ne17_;have ne17':=ne17.symm;have ub3:=b3;simp only [At,Own,Nat.reduceAdd,and_true] at ub3;go_upto_region 6 with fail
   refine wp_named ?_;intro W2 hW2;have hL2:Below wr7.heap.size wr7 W2:=by rw [hW2];exact bB
   have c18:=b3.up hL2
   have c19:Own W2 wr7.heap.size 0 [.bool (ng x9.1.num),.string (mg x9.1.num.natAbs),.bool false,.string (mg (dn x9.1)),.bool (ng x9.2.num),.string (mg x9.2.num.natAbs),.bool false,.string (mg (dn x9.2))]:=by
    rw [hW2]
    first
    | (repeat (first|(with_reducible refine own_new (l:=[.bool (ng x9.1.num),.string (mg x9.1.num.natAbs),.bool false,.string (mg (dn x9.1)),.bool (ng x9.2.num),.string (mg x9.2.num.natAbs),.bool false,.string (mg (dn x9.2))]) ?_;(simp;done))|with_reducible refine Own.alloc ?_ _|refine Own.far _ _ (by first|(simp;done)|(simp [*];done)|(simp;omega)) ?_));done
    | simp [Own,go_sem,uce11,ub3,ne16,ne16',ne16_,ne17,ne17',ne17_]
   have O20:=Lib.hid (owns_up O8.out hL2);have hB21:Below w.heap.size w W2:=by rw [hW2];exact bB
   clear hW2 hL2 uce11 ub3 b3;have K23:=Lib.hid (fun W=>hsub_any b a W hb ha (by omega) (by omega));have K24:=Lib.hid (fun W=>hsub_any x9 a W Zhx10.out ha (by omega) (by omega));have K25:=Lib.hid (fun W=>hcross_any (Pl.subP b a) (Pl.subP x9 a) W (hb.sub ha) (Zhx10.out.sub ha) (by omega) (by omega));refine wp_region_new1 11 10 8 [.bool false,.string ⟨#[]⟩,.bool false,.string ⟨#[]⟩] 33 (by kernel_rfl) (by kernel_rfl) rfl rfl rfl rfl (by intro h_;cases h_) (by simp) (run_alloc_zero Tryz.zeroValue33 rfl) (by kernel_rfl) ?_;intro V_22 hV_22;have vc18:=c18.up hV_22;have dc18:=fun p:Bel V_22=>vc18.bel p
   have vc19:=c19.up hV_22;have dc19:=fun p:Bel V_22=>vc19.bel p
   simp only [At,Own,Nat.reduceAdd,and_true] at dc18 dc19;have hBV_22:=bel_up hB21 hV_22;simp only [List.map_cons,List.map_nil,maskOp,List.take_succ_cons,List.take_zero];repeat (go_big_quiet_step (first|(go_at_call 30;with_reducible exact Calls.bel (K23.out _))|(go_at_call 30;with_reducible exact Calls.bel (K24.out _))|(go_at_call 81;with_reducible exact Calls.bel (K25.out _))))
   refine wpQuiet_nil ?_;refine ⟨[.bool (ng ((Pl.crossP (Pl.subP b a) (Pl.subP x9 a)).num)),.string (mg ((Pl.crossP (Pl.subP b a) (Pl.subP x9 a)).num).natAbs),.bool false,.string (mg (dn (Pl.crossP (Pl.subP b a) (Pl.subP x9 a))))],rfl,rfl,by simp [Value.oneCell'],?_⟩;intro bq26 wn_22 hbn_22 lbq26 mbq26 c27;simp only [Act.put,List.setIfInBounds_toArray,List.set_cons_zero,List.set_cons_succ];have ne28:w.heap.size≠bq26:=by have:=c18.lt;omega
   have ne28':=ne28.symm;have ne29:wr7.heap.size≠bq26:=by have:=c19.lt;omega
   have ne29':=ne29.symm;have wbq26:=Nat.le_trans hB21.size lbq26;have f30:Value.ownBlock u5≠some bq26:=fun e_=>by have:=(O20.out.lt _ e_).2;omega
   clear hBV_22 dc19 vc19 dc18 vc18 hV_22 V_22;have c31:=c18.up hbn_22;have c32:=c19.up hbn_22;have O33:=Lib.hid (owns_up O20.out hbn_22);have hB34:Below w.heap.size w wn_22:=bel_up hB21 hbn_22;clear c18 c19 O20;have uc31:=c31;have uc32:=c32;have uc27:=c27;simp only [At,Own,Nat.reduceAdd,and_true] at uc31 uc32 uc27;have kK35:=fun W=>rsign_any (Pl.crossP (Pl.subP b a) (Pl.subP x9 a)) W
   generalize hT37:Pl.sgn (Pl.crossP (Pl.subP b a) (Pl.subP x9 a))=t36 at kK35;have K35:=Lib.hid kK35;clear kK35;have T38:=Lib.hid (sgnS hT37);have HhT37:=Lib.hid hT37;clear hT37;go_wp2_with (fail)
   refine calls_named ?_;intro W3 hW3;have hL3:Below wn_22.heap.size wn_22 W3:=by rw [hW3];exact bB
   have c39:=c31.up hL3;have c40:=c32.up hL3;have c41:=c27.up hL3;have O42:=Lib.hid (owns_up O33.out hL3);have hB43:Below w.heap.size w W3:=by rw [hW3];exact bB
   clear hW3 hL3 uc31 uc32 uc27 c31 c32 c27;with_reducible refine (K35.out _).mono ?_
   rintro e w3 ⟨rfl,hb3⟩;have c44:=c39.up hb3;have c45:=c40.up hb3;have c46:=c41.up hb3;have O47:=Lib.hid (owns_up O42.out hb3);have hB48:Below w.heap.size w w3:=bel_up hB43 hb3;clear c39 c40 c41 O42
   by_cases hc49:(t36:Int)<0
   ·skip
    have hc49_:¬ ((0:Int)≤t36):=by omega
    go_wp2_with fail;go_loopw [5,9] (fun s5 s9 wr=>∃ (i:Nat) (n2:Nat) (M:List (Rat×Rat)),s9=.int .i64 i∧Own wr w.heap.size 0 [.bool (ng a.1.num),.string (mg a.1.num.natAbs),.bool false,.string (mg (dn a.1)),.bool (ng a.2.num),.string (mg a.2.num.natAbs),.bool false,.string (mg (dn a.2)),.bool (ng b.1.num),.string (mg b.1.num.natAbs),.bool false,.string (mg (dn b.1)),.bool (ng b.2.num),.string (mg b.2.num.natAbs),.bool false,.string (mg (dn b.2))]∧Own wr wr7.heap.size 0 [.bool (ng x9.1.num),.string (mg x9.1.num.natAbs),.bool false,.string (mg (dn x9.1)),.bool (ng x9.2.num),.string (mg x9.2.num.natAbs),.bool false,.string (mg (dn x9.2))]∧Own wr (bq26) 0 [.bool (ng ((Pl.crossP (Pl.subP b a) (Pl.subP x9 a)).num)),.string (mg ((Pl.crossP (Pl.subP b a) (Pl.subP x9 a)).num).natAbs),.bool false,.string (mg (dn (Pl.crossP (Pl.subP b a) (Pl.subP x9 a))))]∧wr.ownsRow w.heap.size 35 8 s5 n2 (pts M)∧Value.ownBlock s5≠some w.heap.size∧Value.ownBlock s5≠some wr7.heap.size∧Value.ownBlock s5≠some (bq26)∧Below w.heap.size w wr∧i≤N∧n2≤n+1+i∧Hid (M=L++(selfL a b x9++(l.take i).flatMap (pairL a b x9)))) (fun _ s9 _=>N-(intOf s9).toNat)
    case atStart=>exact ⟨0,n,L,rfl,c44,c45,c46,O47.out,f5,f15,f30,hB48,(by omega),(by omega),Lib.hid (by rw [selfL_no HhT37.out (by omega)]<;>simp)⟩
    case round =>
     clear c44 c45 c46 hB48 O47;obtain ⟨i,n2,M,rfl,b50,b51,b52,o53,f54,f55,f56,hB57,hi,hn2,HM⟩:=hrel;obtain ⟨wr58,hwr58⟩:∃ W_,W_=wr:=⟨_,rfl⟩
     subst hwr58;have O59:=Lib.hid o53;clear o53
     by_cases hlti:i<N
     ·skip
      have i1i:(i:Int)<N:=by omega
      obtain ⟨x60,hx61⟩:∃ x,l[i]?=some x:=⟨_,List.getElem?_eq_getElem (by rw [HN.out];omega)⟩
      have Hhx61:=Lib.hid hx61;have Zhx61:=Lib.hid (HS.out _ (List.mem_of_getElem? hx61));clear hx61;go_upto_region 12 with fail
      refine wp_named ?_;intro W4 hW4;have hL4:Below wr58.heap.size wr58 W4:=by rw [hW4];exact bB
      have c62:=b50.up hL4;have c63:=b51.up hL4;have c64:=b52.up hL4;have O65:=Lib.hid (owns_up O59.out hL4);have hB66:Below w.heap.size w W4:=by rw [hW4];exact bB
      clear hW4 hL4 b50 b51 b52;have K68:=Lib.hid (fun W=>hsub_any b a W hb ha (by omega) (by omega));have K69:=Lib.hid (fun W=>hsub_any x60 a W Zhx61.out ha (by omega) (by omega));have K70:=Lib.hid (fun W=>hcross_any (Pl.subP b a) (Pl.subP x60 a) W (hb.sub ha) (Zhx61.out.sub ha) (by omega) (by omega));have ce72:=LX.at_ ((HX.out).up kpP hB66) Hhx61.out;have ce72_:g12<W4.heap.size:=World.block_lt_of_cell? _ _ ce72.1;refine wp_region_new1 14 13 10 [.bool false,.string ⟨#[]⟩,.bool false,.string ⟨#[]⟩] 33 (by kernel_rfl) (by kernel_rfl) rfl rfl rfl rfl (by intro h_;cases h_) (by simp) (run_alloc_zero Tryz.zeroValue33 rfl) (by kernel_rfl) ?_;intro V_67 hV_67;have vc62:=c62.up hV_67;have dc62:=fun p:Bel V_67=>vc62.bel p
      have vc63:=c63.up hV_67;have dc63:=fun p:Bel V_67=>vc63.bel p
      have vc64:=c64.up hV_67;have dc64:=fun p:Bel V_67=>vc64.bel p
      simp only [At,Own,Nat.reduceAdd,and_true] at dc62 dc63 dc64;have vce72:=ce72.up hV_67;have dce72:=fun b:Bel V_67=>vce72.bel b
      simp only [CE,Nat.reduceMul] at dce72;have hBV_67:=bel_up hB66 hV_67;simp only [List.map_cons,List.map_nil,maskOp,List.take_succ_cons,List.take_zero];repeat (go_big_quiet_step (first|(go_at_call 30;with_reducible exact Calls.bel (K68.out _))|(go_at_call 30;with_reducible exact Calls.bel (K69.out _))|(go_at_call 81;with_reducible exact Calls.bel (K70.out _))))
      refine wpQuiet_nil ?_;refine ⟨[.bool (ng ((Pl.crossP (Pl.subP b a) (Pl.subP x60 a)).num)),.string (mg ((Pl.crossP (Pl.subP b a) (Pl.subP x60 a)).num).natAbs),.bool false,.string (mg (dn (Pl.crossP (Pl.subP b a) (Pl.subP x60 a))))],rfl,rfl,by simp [Value.oneCell'],?_⟩;intro bq71 wn_67 hbn_67 lbq71 mbq71 c73;simp only [Act.put,List.setIfInBounds_toArray,List.set_cons_zero,List.set_cons_succ];have ne74:w.heap.size≠bq71:=by have:=c62.lt;omega
      have ne74':=ne74.symm;have ne75:wr7.heap.size≠bq71:=by have:=c63.lt;omega
      have ne75':=ne75.symm;have ne76:bq26≠bq71:=by have:=c64.lt;omega
      have ne76':=ne76.symm;have ne77:g12≠bq71:=by omega
      have ne77':=ne77.symm;have wbq71:=Nat.le_trans hB66.size lbq71;have f78:Value.ownBlock u5≠some bq71:=fun e_=>by have:=(O65.out.lt _ e_).2;omega
      clear hBV_67 dce72 vce72 dc64 vc64 dc63 vc63 dc62 vc62 hV_67 V_67;have c79:=c62.up hbn_67;have c80:=c63.up hbn_67;have c81:=c64.up hbn_67;have O82:=Lib.hid (owns_up O65.out hbn_67);have hB83:Below w.heap.size w wn_67:=bel_up hB66 hbn_67;clear c62 c63 c64 O65;have uc79:=c79;have uc80:=c80;have uc81:=c81;have uc73:=c73;simp only [At,Own,Nat.reduceAdd,and_true] at uc79 uc80 uc81 uc73;go_wp2_with (fail)
      refine calls_named ?_;intro W5 hW5;have hL5:Below wn_67.heap.size wn_67 W5:=by rw [hW5];exact bB
      have c84:=c79.up hL5;have c85:=c80.up hL5;have c86:=c81.up hL5;have c87:=c73.up hL5;have O88:=Lib.hid (owns_up O82.out hL5);have hB89:Below w.heap.size w W5:=by rw [hW5];exact bB
      clear hW5 hL5 uc79 uc80 uc81 uc73 c79 c80 c81 c73;with_reducible refine (K35.out _).mono ?_
      rintro e w5 ⟨rfl,hb5⟩;have c90:=c84.up hb5;have c91:=c85.up hb5;have c92:=c86.up hb5;have c93:=c87.up hb5;have O94:=Lib.hid (owns_up O88.out hb5);have hB95:Below w.heap.size w w5:=bel_up hB89 hb5;clear c84 c85 c86 c87 O88;have uc90:=c90;have uc91:=c91;have uc92:=c92;have uc93:=c93;simp only [At,Own,Nat.reduceAdd,and_true] at uc90 uc91 uc92 uc93;have kK96:=fun W=>rsign_any (Pl.crossP (Pl.subP b a) (Pl.subP x60 a)) W
      generalize hT98:Pl.sgn (Pl.crossP (Pl.subP b a) (Pl.subP x60 a))=t97 at kK96;have K96:=Lib.hid kK96;clear kK96;have T99:=Lib.hid (sgnS hT98);have HhT98:=Lib.hid hT98;clear hT98;go_wp2_with (fail)
      refine calls_named ?_;intro W6 hW6;have hL6:Below w5.heap.size w5 W6:=by rw [hW6];exact bB
      have c100:=c90.up hL6;have c101:=c91.up hL6;have c102:=c92.up hL6;have c103:=c93.up hL6;have O104:=Lib.hid (owns_up O94.out hL6);have hB105:Below w.heap.size w W6:=by rw [hW6];exact bB
      clear hW6 hL6 uc90 uc91 uc92 uc93 c90 c91 c92 c93;with_reducible refine (K96.out _).mono ?_
      rintro e w6 ⟨rfl,hb6⟩;have c106:=c100.up hb6;have c107:=c101.up hb6;have c108:=c102.up hb6;have c109:=c103.up hb6;have O110:=Lib.hid (owns_up O104.out hb6);have hB111:Below w.heap.size w w6:=bel_up hB105 hb6;clear c100 c101 c102 c103 O104
      by_cases hc112:(0:Int)<t97
      ·skip
       have hc112_:¬ ((t97:Int)≤0):=by omega
       have HNE:=Lib.hid (turn_ne HhT37.out HhT98.out (by omega) (by omega));have K113:=Lib.hid (fun W=>hsub_any x60 x9 W Zhx61.out Zhx10.out (by omega) (by omega));have K114:=Lib.hid (fun W=>rsub_any (Pl.crossP (Pl.subP b a) (Pl.subP x9 a)) (Pl.crossP (Pl.subP b a) (Pl.subP x60 a)) W (((hb.sub ha).cross (Zhx10.out.sub ha)).mono (by omega)) (((hb.sub ha).cross (Zhx61.out.sub ha)).mono (by omega)));have K115:=Lib.hid (fun W=>rdiv_any (Pl.crossP (Pl.subP b a) (Pl.subP x9 a)) ((Pl.crossP (Pl.subP b a) (Pl.subP x9 a))-(Pl.crossP (Pl.subP b a) (Pl.subP x60 a))) W HNE.out (((hb.sub ha).cross (Zhx10.out.sub ha)).mono (by omega)) ((((hb.sub ha).cross (Zhx10.out.sub ha)).sub ((hb.sub ha).cross (Zhx61.out.sub ha))).mono (by omega)));have K116:=Lib.hid (fun W=>hscale_any (Pl.subP x60 x9) ((Pl.crossP (Pl.subP b a) (Pl.subP x9 a))/((Pl.crossP (Pl.subP b a) (Pl.subP x9 a))-(Pl.crossP (Pl.subP b a) (Pl.subP x60 a)))) W (Zhx61.out.sub Zhx10.out) (((hb.sub ha).cross (Zhx10.out.sub ha)).div (((hb.sub ha).cross (Zhx10.out.sub ha)).sub ((hb.sub ha).cross (Zhx61.out.sub ha)))) (by omega) (by omega));have K117:=Lib.hid (fun W=>haddC a b x9 x60 W Zhx10.out (by exact ((Zhx61.out.sub Zhx10.out).scale (((hb.sub ha).cross (Zhx10.out.sub ha)).div (((hb.sub ha).cross (Zhx10.out.sub ha)).sub ((hb.sub ha).cross (Zhx61.out.sub ha)))))) (by omega) (by omega));go_wp2_with fail;refine wp_named ?_;intro W7 hW7;have hL7:Below w6.heap.size w6 W7:=by rw [hW7];exact bB
       have c118:=c106.up hL7;have c119:=c107.up hL7;have c120:=c108.up hL7;have c121:=c109.up hL7;have O122:=Lib.hid (owns_up O110.out hL7);have hB123:Below w.heap.size w W7:=by rw [hW7];exact bB
       clear hW7 hL7 c106 c107 c108 c109;have dc118:=fun p:Bel W7=>c118.bel p;have dc119:=fun p:Bel W7=>c119.bel p;have dc120:=fun p:Bel W7=>c120.bel p;have dc121:=fun p:Bel W7=>c121.bel p
       simp only [At,Own,Nat.reduceAdd,and_true] at dc118 dc119 dc120 dc121;have ce124:=LX.at_ ((HX.out).up kpP hB123) Hhx61.out;have ce124_:g12<W7.heap.size:=World.block_lt_of_cell? _ _ ce124.1;have dce124:=fun b:Bel W7=>ce124.bel b
       simp only [CE,Nat.reduceMul] at dce124;refine wp_region_tail1 15 (.tmp 5) (by kernel_rfl) (by kernel_rfl) rfl rfl (fun _ _ _ h=>h) ?_;simp only [List.take_succ_cons,List.take_zero,List.drop_succ_cons,List.drop_zero];go_simp;repeat (go_big_quiet_step (first|(go_at_call 30;with_reducible exact Calls.bel (K113.out _))|(go_at_call 75;with_reducible exact Calls.bel (K114.out _))|(go_at_call 42;with_reducible exact Calls.bel (K115.out _))|(go_at_call 82;with_reducible exact Calls.bel (K116.out _))|(go_at_call 67;with_reducible exact Calls.bel (K117.out _))))
       refine wpQuiet_nil ?_;intro w7 hb7;have c125:=c118.up hb7;have c126:=c119.up hb7;have c127:=c120.up hb7;have c128:=c121.up hb7;have O129:=Lib.hid (owns_up O122.out hb7);have hB130:Below w.heap.size w w7:=bel_up hB123 hb7;clear dc118 dc119 dc120 dc121 dce124 c118 c119 c120 c121 O122;have uc125:=c125;have uc126:=c126;have uc127:=c127;have uc128:=c128;simp only [At,Own,Nat.reduceAdd,and_true] at uc125 uc126 uc127 uc128;go_wp2_with (at_builtin;refine wpList_appF rfl _ _ _ rfl ti_pt O129.out (hB130).size rfl rfl rfl rfl (pcells_one (Pl.crs a b x9 x60)) (by omega) (by decide) ?_)
       intro v131 w_v131 hown_v131 hst_v131;have O133:Hid (w_v131.ownsRow w.heap.size 35 8 v131 ((n2+1)) (pts (M++[(Pl.crs a b x9 x60)]))):=Lib.hid (by rw [pts_snoc];exact hown_v131);have c134:=Own.step hst_v131 f54 c125;have f135:=hst_v131.far _ c125.lt f54;have c136:=Own.step hst_v131 f55 c126;have f137:=hst_v131.far _ c126.lt f55;have c138:=Own.step hst_v131 f56 c127;have f139:=hst_v131.far _ c127.lt f56;have c140:=Own.step hst_v131 f78 c128;have f141:=hst_v131.far _ c128.lt f78;have hB142:Below w.heap.size w w_v131:=hst_v131.below hB130 (hB130).size (fun r hr=>(O129.out.lt r hr).1);clear uc125 uc126 uc127 uc128 hown_v131 c125 c126 c127 c128;have uc134:=c134;have uc136:=c136;have uc138:=c138;have uc140:=c140;simp only [At,Own,Nat.reduceAdd,and_true] at uc134 uc136 uc138 uc140;go_wp2;go_roundw
       case rel=>exact ⟨(i+1),(n2+1),(M++[Pl.crs a b x9 x60]),(by first|rfl|exact congrArg (Value.int .i64) (by omega)|simp [*]),(by repeat (first|with_reducible exact c134|refine Own.far _ _ (by simp<;>omega) ?_|with_reducible refine Own.alloc ?_ _)),(by repeat (first|with_reducible exact c136|refine Own.far _ _ (by simp<;>omega) ?_|with_reducible refine Own.alloc ?_ _)),(by repeat (first|with_reducible exact c138|refine Own.far _ _ (by simp<;>omega) ?_|with_reducible refine Own.alloc ?_ _)),(by repeat (first|with_reducible exact O133.out|refine owns_far ?_ _ (by first|exact f135|exact f137|exact f139|exact f141) _|with_reducible refine World.ownsRow.alloc ?_ _)),f135,f137,f139,(by exact bB),(by omega),(by omega),Lib.hid (by rw [flat_snocS Hhx61.out,pairL_yes HhT37.out HhT98.out (by omega) (by omega),HM.out];simp)⟩
       case measure=>simp [intOf]<;>omega
      ·skip
       have hc112_:((t97:Int)≤0):=by omega
       have uc106:=c106;have uc107:=c107;have uc108:=c108;have uc109:=c109;simp only [At,Own,Nat.reduceAdd,and_true] at uc106 uc107 uc108 uc109;go_wp2;go_roundw
       case rel=>exact ⟨(i+1),n2,M,(by first|rfl|exact congrArg (Value.int .i64) (by omega)|simp [*]),(by repeat (first|with_reducible exact c106|refine Own.far _ _ (by simp<;>omega) ?_|with_reducible refine Own.alloc ?_ _)),(by repeat (first|with_reducible exact c107|refine Own.far _ _ (by simp<;>omega) ?_|with_reducible refine Own.alloc ?_ _)),(by repeat (first|with_reducible exact c108|refine Own.far _ _ (by simp<;>omega) ?_|with_reducible refine Own.alloc ?_ _)),(by repeat (first|with_reducible exact O110.out|refine owns_far ?_ _ (by first|exact f54|exact f55|exact f56|exact f78) _|with_reducible refine World.ownsRow.alloc ?_ _)),f54,f55,f56,(by exact bB),(by omega),(by omega),Lib.hid (by rw [flat_snocS Hhx61.out,pairL_no2 HhT98.out (by omega),HM.out];simp)⟩
       case measure=>simp [intOf]<;>omega
     ·skip
      have hkN:N=i:=by omega
      subst hkN;have ub50:=b50;have ub51:=b51;have ub52:=b52;simp only [At,Own,Nat.reduceAdd,and_true] at ub50 ub51 ub52;go_wp2;go_roundw
      case rel=>exact ⟨(k+1),n2,M,(by first|rfl|exact congrArg (Value.int .i64) (by omega)|simp [*]),(by repeat (first|with_reducible exact b50|refine Own.far _ _ (by simp<;>omega) ?_|with_reducible refine Own.alloc ?_ _)),(by repeat (first|with_reducible exact O59.out|refine owns_far ?_ _ (by first|exact f54|exact f55|exact f56) _|with_reducible refine World.ownsRow.alloc ?_ _)),f54,(by exact bB),(by omega),(by omega),Lib.hid (by rw [flat_snocS Hhx10.out,HM.out,HE.out,rowL,HF.out])⟩
      case measure=>simp [intOf]<;>omega
   ·skip
    have hc49_:((0:Int)≤t36):=by omega
    have uc44:=c44;have uc45:=c45;have uc46:=c46;simp only [At,Own,Nat.reduceAdd,and_true] at uc44 uc45 uc46;go_wp2_with (at_builtin;refine wpList_appF rfl _ _ _ rfl ti_pt O47.out (hB48).size rfl rfl rfl rfl (pcells_one x9) (by omega) (by decide) ?_)
    intro v143 w_v143 hown_v143 hst_v143;have O145:Hid (w_v143.ownsRow w.heap.size 35 8 v143 ((n+1)) (pts (L++[x9]))):=Lib.hid (by rw [pts_snoc];exact hown_v143);have c146:=Own.step hst_v143 f5 c44;have f147:=hst_v143.far _ c44.lt f5;have c148:=Own.step hst_v143 f15 c45;have f149:=hst_v143.far _ c45.lt f15;have c150:=Own.step hst_v143 f30 c46;have f151:=hst_v143.far _ c46.lt f30;have hB152:Below w.heap.size w w_v143:=hst_v143.below hB48 (hB48).size (fun r hr=>(O47.out.lt r hr).1);clear uc44 uc45 uc46 hown_v143 c44 c45 c46;go_wp2_with fail;go_loopw [5,9] (fun s5 s9 wr=>∃ (i:Nat) (n2:Nat) (M:List (Rat×Rat)),s9=.int .i64 i∧Own wr w.heap.size 0 [.bool (ng a.1.num),.string (mg a.1.num.natAbs),.bool false,.string (mg (dn a.1)),.bool (ng a.2.num),.string (mg a.2.num.natAbs),.bool false,.string (mg (dn a.2)),.bool (ng b.1.num),.string (mg b.1.num.natAbs),.bool false,.string (mg (dn b.1)),.bool (ng b.2.num),.string (mg b.2.num.natAbs),.bool false,.string (mg (dn b.2))]∧Own wr wr7.heap.size 0 [.bool (ng x9.1.num),.string (mg x9.1.num.natAbs),.bool false,.string (mg (dn x9.1)),.bool (ng x9.2.num),.string (mg x9.2.num.natAbs),.bool false,.string (mg (dn x9.2))]∧Own wr (bq26) 0 [.bool (ng ((Pl.crossP (Pl.subP b a) (Pl.subP x9 a)).num)),.string (mg ((Pl.crossP (Pl.subP b a) (Pl.subP x9 a)).num).natAbs),.bool false,.string (mg (dn (Pl.crossP (Pl.subP b a) (Pl.subP x9 a))))]∧wr.ownsRow w.heap.size 35 8 s5 n2 (pts M)∧Value.ownBlock s5≠some w.heap.size∧Value.ownBlock s5≠some wr7.heap.size∧Value.ownBlock s5≠some (bq26)∧Below w.heap.size w wr∧i≤N∧n2≤n+1+i∧Hid (M=L++(selfL a b x9++(l.take i).flatMap (pairL a b x9)))) (fun _ s9 _=>N-(intOf s9).toNat)
    case atStart=>exact ⟨0,(n+1),(L++[x9]),rfl,c146,c148,c150,O145.out,f147,f149,f151,hB152,(by omega),(by omega),Lib.hid (by rw [selfL_yes HhT37.out (by omega)]<;>simp)⟩
    case round =>
     clear c146 c148 c150 hB152 O145;obtain ⟨i,n2,M,rfl,b153,b154,b155,o156,f157,f158,f159,hB160,hi,hn2,HM⟩:=hrel;obtain ⟨wr161,hwr161⟩:∃ W_,W_=wr:=⟨_,rfl⟩
     subst hwr161;have O162:=Lib.hid o156;clear o156
     by_cases hlti:i<N
     ·skip
      have i1i:(i:Int)<N:=by omega
      obtain ⟨x163,hx164⟩:∃ x,l[i]?=some x:=⟨_,List.getElem?_eq_getElem (by rw [HN.out];omega)⟩
      have Hhx164:=Lib.hid hx164;have Zhx164:=Lib.hid (HS.out _ (List.mem_of_getElem? hx164));clear hx164;go_upto_region 12 with fail
      refine wp_named ?_;intro W8 hW8;have hL8:Below wr161.heap.size wr161 W8:=by rw [hW8];exact bB
      have c165:=b153.up hL8;have c166:=b154.up hL8;have c167:=b155.up hL8;have O168:=Lib.hid (owns_up O162.out hL8);have hB169:Below w.heap.size w W8:=by rw [hW8];exact bB
      clear hW8 hL8 b153 b154 b155;have K171:=Lib.hid (fun W=>hsub_any b a W hb ha (by omega) (by omega));have K172:=Lib.hid (fun W=>hsub_any x163 a W Zhx164.out ha (by omega) (by omega));have K173:=Lib.hid (fun W=>hcross_any (Pl.subP b a) (Pl.subP x163 a) W (hb.sub ha) (Zhx164.out.sub ha) (by omega) (by omega));have ce175:=LX.at_ ((HX.out).up kpP hB169) Hhx164.out;have ce175_:g12<W8.heap.size:=World.block_lt_of_cell? _ _ ce175.1;refine wp_region_new1 14 13 10 [.bool false,.string ⟨#[]⟩,.bool false,.string ⟨#[]⟩] 33 (by kernel_rfl) (by kernel_rfl) rfl rfl rfl rfl (by intro h_;cases h_) (by simp) (run_alloc_zero Tryz.zeroValue33 rfl) (by kernel_rfl) ?_;intro V_170 hV_170;have vc165:=c165.up hV_170;have dc165:=fun p:Bel V_170=>vc165.bel p
      have vc166:=c166.up hV_170;have dc166:=fun p:Bel V_170=>vc166.bel p
      have vc167:=c167.up hV_170;have dc167:=fun p:Bel V_170=>vc167.bel p
      simp only [At,Own,Nat.reduceAdd,and_true] at dc165 dc166 dc167;have vce175:=ce175.up hV_170;have dce175:=fun b:Bel V_170=>vce175.bel b
      simp only [CE,Nat.reduceMul] at dce175;have hBV_170:=bel_up hB169 hV_170;simp only [List.map_cons,List.map_nil,maskOp,List.take_succ_cons,List.take_zero];repeat (go_big_quiet_step (first|(go_at_call 30;with_reducible exact Calls.bel (K171.out _))|(go_at_call 30;with_reducible exact Calls.bel (K172.out _))|(go_at_call 81;with_reducible exact Calls.bel (K173.out _))))
      refine wpQuiet_nil ?_;refine ⟨[.bool (ng ((Pl.crossP (Pl.subP b a) (Pl.subP x163 a)).num)),.string (mg ((Pl.crossP (Pl.subP b a) (Pl.subP x163 a)).num).natAbs),.bool false,.string (mg (dn (Pl.crossP (Pl.subP b a) (Pl.subP x163 a))))],rfl,rfl,by simp [Value.oneCell'],?_⟩;intro bq174 wn_170 hbn_170 lbq174 mbq174 c176;simp only [Act.put,List.setIfInBounds_toArray,List.set_cons_zero,List.set_cons_succ];have ne177:w.heap.size≠bq174:=by have:=c165.lt;omega
      have ne177':=ne177.symm;have ne178:wr7.heap.size≠bq174:=by have:=c166.lt;omega
      have ne178':=ne178.symm;have ne179:bq26≠bq174:=by have:=c167.lt;omega
      have ne179':=ne179.symm;have ne180:g12≠bq174:=by omega
      have ne180':=ne180.symm;have wbq174:=Nat.le_trans hB169.size lbq174;have f181:Value.ownBlock u5≠some bq174:=fun e_=>by have:=(O168.out.lt _ e_).2;omega
      clear hBV_170 dce175 vce175 dc167 vc167 dc166 vc166 dc165 vc165 hV_170 V_170;have c182:=c165.up hbn_170;have c183:=c166.up hbn_170;have c184:=c167.up hbn_170;have O185:=Lib.hid (owns_up O168.out hbn_170);have hB186:Below w.heap.size w wn_170:=bel_up hB169 hbn_170;clear c165 c166 c167 O168;have uc182:=c182;have uc183:=c183;have uc184:=c184;have uc176:=c176;simp only [At,Own,Nat.reduceAdd,and_true] at uc182 uc183 uc184 uc176;go_wp2_with (fail)
      refine calls_named ?_;intro W9 hW9;have hL9:Below wn_170.heap.size wn_170 W9:=by rw [hW9];exact bB
      have c187:=c182.up hL9;have c188:=c183.up hL9;have c189:=c184.up hL9;have c190:=c176.up hL9;have O191:=Lib.hid (owns_up O185.out hL9);have hB192:Below w.heap.size w W9:=by rw [hW9];exact bB
      clear hW9 hL9 uc182 uc183 uc184 uc176 c182 c183 c184 c176;with_reducible refine (K35.out _).mono ?_
      rintro e w9 ⟨rfl,hb9⟩;have c193:=c187.up hb9;have c194:=c188.up hb9;have c195:=c189.up hb9;have c196:=c190.up hb9;have O197:=Lib.hid (owns_up O191.out hb9);have hB198:Below w.heap.size w w9:=bel_up hB192 hb9;clear c187 c188 c189 c190 O191;have uc193:=c193;have uc194:=c194;have uc195:=c195;have uc196:=c196;simp only [At,Own,Nat.reduceAdd,and_true] at uc193 uc194 uc195 uc196;go_wp2;go_roundw
      case rel=>exact ⟨(i+1),n2,M,(by first|rfl|exact congrArg (Value.int .i64) (by omega)|simp [*]),(by repeat (first|with_reducible exact c193|refine Own.far _ _ (by simp<;>omega) ?_|with_reducible refine Own.alloc ?_ _)),(by repeat (first|with_reducible exact c194|refine Own.far _ _ (by simp<;>omega) ?_|with_reducible refine Own.alloc ?_ _)),(by repeat (first|with_reducible exact c195|refine Own.far _ _ (by simp<;>omega) ?_|with_reducible refine Own.alloc ?_ _)),(by repeat (first|with_reducible exact O197.out|refine owns_far ?_ _ (by first|exact f157|exact f158|exact f159|exact f181) _|with_reducible refine World.ownsRow.alloc ?_ _)),f157,f158,f159,(by exact bB),(by omega),(by omega),Lib.hid (by rw [flat_snocS Hhx164.out,pairL_no HhT37.out (by omega),HM.out];simp)⟩
      case measure=>simp [intOf]<;>omega
     ·skip
      have hkN:N=i:=by omega
      subst hkN;have ub153:=b153;have ub154:=b154;have ub155:=b155;simp only [At,Own,Nat.reduceAdd,and_true] at ub153 ub154 ub155;go_wp2;go_roundw
      case rel=>exact ⟨(k+1),n2,M,(by first|rfl|exact congrArg (Value.int .i64) (by omega)|simp [*]),(by repeat (first|with_reducible exact b153|refine Own.far _ _ (by simp<;>omega) ?_|with_reducible refine Own.alloc ?_ _)),(by repeat (first|with_reducible exact O162.out|refine owns_far ?_ _ (by first|exact f157|exact f158|exact f159) _|with_reducible refine World.ownsRow.alloc ?_ _)),f157,(by exact bB),(by omega),(by omega),Lib.hid (by rw [flat_snocS Hhx10.out,HM.out,HE.out,rowL,HF.out])⟩
      case measure=>simp [intOf]<;>omega
  ·skip
   have hkN:N=k:=by omega
   subst hkN;have HFIN:Hid (L=Pl.cutR l a b):=Lib.hid (by rw [HE.out,HF.out,cutR_rows]);have K199:=Lib.hid (fun v W hW=>hHull_any v (Pl.cutR l a b) W hW HC.out HLEN.out (by omega:18*I+9*J+18≤100000));have ub3:=b3;simp only [At,Own,Nat.reduceAdd,and_true] at ub3;go_wp2_with (fail)
   refine calls_named ?_;intro W10 hW10;have hL10:Below wr7.heap.size wr7 W10:=by rw [hW10];exact bB
   have c200:=b3.up hL10;have O201:=Lib.hid (owns_up O8.out hL10);have hB202:Below w.heap.size w W10:=by rw [hW10];exact bB
   clear hW10 hL10 ub3 b3;with_reducible refine (K199.out _ _ (HFIN.out▸pv_own O201.out)).mono ?_
   rintro e w10 ⟨v10,rfl,hv10,hb10⟩;have c203:=c200.up hb10;have O204:=Lib.hid (owns_up O201.out hb10);have hB205:Below w.heap.size w w10:=bel_up hB202 hb10;clear c200 O201;have PW10:=Lib.hid hv10;clear hv10;have uc203:=c203;simp only [At,Own,Nat.reduceAdd,and_true] at uc203;go_wp2;go_ret;exact ⟨_,rfl,(by skip;exact PW10.out),(by exact bB)⟩
end Go.Proofs.YtdkkjfnpinckjaaGreatDoor
