/-
 Contracts for polygons: places in rings, areas of rings.
-/
import Derived.Test.YtiochgoocbkckaaGreatDoorAgax
import Derived.Deep.RegionHeld3
import Derived.Deep.DeepCutAuto
set_option maxRecDepth 100000
set_option linter.unusedSimpArgs false
set_option linter.unusedVariables false
namespace Go.Proofs.YtiochgoocbkckaaGreatDoor
open Go Go.RowKit

theorem vx_sz {S:Nat} {l:List (Rat×Rat)} (h:∀ q∈l,Pl.SzP S q) (h0:0<l.length) (i:Nat):Pl.SzP S (Pg.vx l i):=by
 have hm:=Nat.mod_lt i h0;rw [Pg.vx_some (List.getElem?_eq_getElem hm)];exact h _ (List.getElem_mem hm)
theorem locW_on {p:Rat×Rat} {e:(Rat×Rat)×(Rat×Rat)} {es:List ((Rat×Rat)×(Rat×Rat))} {t:Int} (h:Pl.onSeg p e.1 e.2=true):Pg.locW p (e :: es) t=0:=by rw [Pg.locW,if_pos h]
theorem locW_to {p:Rat×Rat} {e:(Rat×Rat)×(Rat×Rat)} {es:List ((Rat×Rat)×(Rat×Rat))} {t u z:Int} (h:Pl.onSeg p e.1 e.2=false) (hz:Pg.wnd p e=z) (hu:t+z=u):Pg.locW p (e :: es) t=Pg.locW p es u:=by
 rw [Pg.locW,if_neg (by rw [h];decide),hz,hu]
theorem wnd_a {p:Rat×Rat} {e:(Rat×Rat)×(Rat×Rat)} {u v:Int} (h1:Pl.cmpQ e.1.2 p.2=u) (h2:Pl.cmpQ e.2.2 p.2=v) (h:u≤0↔v≤0):Pg.wnd p e=0:=by
 unfold Pg.wnd;rw [h1,h2,if_pos (by rw [decide_eq_decide];exact h)]
theorem wnd_b {p:Rat×Rat} {e:(Rat×Rat)×(Rat×Rat)} {u v o z:Int} (h1:Pl.cmpQ e.1.2 p.2=u) (h2:Pl.cmpQ e.2.2 p.2=v) (h3:Pl.turn e.1 e.2 p=o) (hu:u≤0) (hv:0<v) (hz:z=if 0<o then 1 else 0):Pg.wnd p e=z:=by
 unfold Pg.wnd;have e1:decide (u≤0)=true:=by simpa using hu
 have e2:decide (v≤0)=false:=by simp;omega
 rw [h1,h2,h3,e1,e2,if_neg (by decide),hz]
 by_cases h:0<o
 ·rw [if_pos ⟨hu,h⟩,if_pos h]
 ·rw [if_neg (fun c=>h c.2),if_neg (fun c=>c.1 hu),if_neg h]
theorem wnd_c {p:Rat×Rat} {e:(Rat×Rat)×(Rat×Rat)} {u v o z:Int} (h1:Pl.cmpQ e.1.2 p.2=u) (h2:Pl.cmpQ e.2.2 p.2=v) (h3:Pl.turn e.1 e.2 p=o) (hu:0<u) (hv:v≤0) (hz:z=if o<0 then -1 else 0):Pg.wnd p e=z:=by
 unfold Pg.wnd;have e1:decide (u≤0)=false:=by simp;omega
 have e2:decide (v≤0)=true:=by simpa using hv
 rw [h1,h2,h3,e1,e2,if_neg (by decide),hz]
 by_cases h:o<0
 ·rw [if_neg (fun c=>by omega),if_pos ⟨by omega,h⟩,if_pos h]
 ·rw [if_neg (fun c=>by omega),if_neg (fun c=>h c.2),if_neg h]
theorem loc_fin {p:Rat×Rat} {l:List (Rat×Rat)} {N:Nat} {t z:Int} (hN:l.length=N) (h:Pg.locW p (Pg.ringE l) 0=Pg.locW p ((Pg.ringE l).drop N) t) (hz:z=if t=0 then -1 else 1):Pg.locW p (Pg.ringE l) 0=z:=by
 rw [h,List.drop_eq_nil_of_le (by rw [Pg.ringE_len,hN];exact Nat.le_refl _),Pg.locW,hz]

set_option maxHeartbeats 2000000 in
theorem ploc_any {S:Nat} (v:Value) (l:List (Rat×Rat)) (p:Rat×Rat) (w:World) (h:PV w v l) (hs:∀ q∈l,Pl.SzP S q) (hn:l.length≤1000) (hS:S≤1000) (hp:Pl.SzP S p) :
 Calls Tryz.prog 31 #[v,pv p] w fun e w'=>e=.returned (.int .i64 (Pg.locW p (Pg.ringE l) 0))∧Below w.heap.size w w':=by
 obtain ⟨A,c,rfl,hc,hm,hx⟩:=h.open_;have HV:=Lib.hid h;have HX:=Lib.hid hx;have HS:=Lib.hid hs;have HF:Hid (l.take l.length=l):=Lib.hid List.take_length;generalize hN:l.length=N at *;have HN:=Lib.hid hN;clear h hx hs hN;go_enter Tryz.func31,Tryz.ntmps31;go_wp2_with fail;refine wp_named ?_;intro W1 hW1;have hL1:Below w.heap.size w W1:=by rw [hW1];exact bB
 have c1:Own W1 w.heap.size 0 [.bool (ng p.1.num),.string (mg p.1.num.natAbs),.bool false,.string (mg (dn p.1)),.bool (ng p.2.num),.string (mg p.2.num.natAbs),.bool false,.string (mg (dn p.2))]:=by
  rw [hW1]
  first
  | (repeat (first|(with_reducible refine own_new (l:=[.bool (ng p.1.num),.string (mg p.1.num.natAbs),.bool false,.string (mg (dn p.1)),.bool (ng p.2.num),.string (mg p.2.num.natAbs),.bool false,.string (mg (dn p.2))]) ?_;(simp;done))|with_reducible refine Own.alloc ?_ _|refine Own.far _ _ (by first|(simp;done)|(simp [*];done)|(simp;omega)) ?_));done
  | simp [Own,go_sem]
 have hB2:Below w.heap.size w W1:=by rw [hW1];exact bB
 clear hW1 hL1;go_loopw [5,12] (fun s5 s12 wr=>∃ (k:Nat) (t:Int),s5=.int .i64 t∧s12=.int .i64 k∧Own wr w.heap.size 0 [.bool (ng p.1.num),.string (mg p.1.num.natAbs),.bool false,.string (mg (dn p.1)),.bool (ng p.2.num),.string (mg p.2.num.natAbs),.bool false,.string (mg (dn p.2))]∧Below w.heap.size w wr∧k≤N∧(-(k:Int)≤t∧t≤k)∧Hid (Pg.locW p (Pg.ringE l) 0=Pg.locW p ((Pg.ringE l).drop k) t)) (fun _ s12 _=>N-(intOf s12).toNat)
 case atStart=>exact ⟨0,0,rfl,rfl,c1,hB2,(by omega),⟨by omega,by omega⟩,Lib.hid rfl⟩
 case round =>
  clear c1 hB2;obtain ⟨k,t,rfl,rfl,b3,hB4,hk,hb,HE⟩:=hrel;obtain ⟨wr5,hwr5⟩:∃ W_,W_=wr:=⟨_,rfl⟩
  subst hwr5
  by_cases hltk:k<N
  ·skip
   have i1k:(k:Int)<N:=by omega
   obtain ⟨g,hg⟩:∃ g,(Pg.vx l k,Pg.vx l (k+1))=g:=⟨_,rfl⟩
   have HG:=Lib.hid hg;have HZG:Hid (Pl.SzS S g):=Lib.hid (hg▸⟨vx_sz HS.out (by rw [HN.out];omega) _,vx_sz HS.out (by rw [HN.out];omega) _⟩);have HDR:Hid ((Pg.ringE l).drop k=g :: (Pg.ringE l).drop (k+1)):=Lib.hid (by rw [← hg];exact Pl.drop_of (Pg.ringE_get l (by rw [HN.out];omega)));clear hg;have K6:=Lib.hid (fun W (hW:PV W (.slice A N c) l)=>HG.out▸pedge_any _ l k W hW HS.out (by rw [HN.out];omega) (by omega) (by rw [HN.out];omega));have ub3:=b3;simp only [At,Own,Nat.reduceAdd,and_true] at ub3;go_wp2_with (fail)
   refine calls_named ?_;intro W2 hW2;have hL2:Below wr5.heap.size wr5 W2:=by rw [hW2];exact bB
   have c7:=b3.up hL2;have hB8:Below w.heap.size w W2:=by rw [hW2];exact bB
   clear hW2 hL2 ub3 b3;with_reducible refine (K6.out _ (HV.out.up hB8)).mono ?_
   rintro e w2 ⟨rfl,hb2⟩;have c9:=c7.up hb2;have hB10:Below w.heap.size w w2:=bel_up hB8 hb2;clear c7;have ne11_:w.heap.size<w2.heap.size:=by have:=c9.lt;omega
   have ne11:=Nat.ne_of_lt ne11_;have ne11':=ne11.symm;have uc9:=c9;simp only [At,Own,Nat.reduceAdd,and_true] at uc9;have kK12:=fun W=>on2_any p g.1 g.2 W HZG.out hp (by omega) (by omega)
   generalize hT14:Pl.onSeg p g.1 g.2=b13 at kK12;have K12:=Lib.hid kK12;clear kK12;have HhT14:=Lib.hid hT14;clear hT14;go_wp2_with (fail)
   refine calls_named ?_;intro W3 hW3;have hL3:Below w2.heap.size w2 W3:=by rw [hW3];exact bB
   have c15:=c9.up hL3
   have c16:Own W3 w2.heap.size 0 [.bool (ng g.1.1.num),.string (mg g.1.1.num.natAbs),.bool false,.string (mg (dn g.1.1)),.bool (ng g.1.2.num),.string (mg g.1.2.num.natAbs),.bool false,.string (mg (dn g.1.2)),.bool (ng g.2.1.num),.string (mg g.2.1.num.natAbs),.bool false,.string (mg (dn g.2.1)),.bool (ng g.2.2.num),.string (mg g.2.2.num.natAbs),.bool false,.string (mg (dn g.2.2))]:=by
    rw [hW3]
    first
    | (repeat (first|(with_reducible refine own_new (l:=[.bool (ng g.1.1.num),.string (mg g.1.1.num.natAbs),.bool false,.string (mg (dn g.1.1)),.bool (ng g.1.2.num),.string (mg g.1.2.num.natAbs),.bool false,.string (mg (dn g.1.2)),.bool (ng g.2.1.num),.string (mg g.2.1.num.natAbs),.bool false,.string (mg (dn g.2.1)),.bool (ng g.2.2.num),.string (mg g.2.2.num.natAbs),.bool false,.string (mg (dn g.2.2))]) ?_;(simp;done))|with_reducible refine Own.alloc ?_ _|refine Own.far _ _ (by first|(simp;done)|(simp [*];done)|(simp;omega)) ?_));done
    | simp [Own,go_sem,uc9,ne11,ne11',ne11_]
   have hB17:Below w.heap.size w W3:=by rw [hW3];exact bB
   clear hW3 hL3 uc9 c9;with_reducible refine (K12.out _).mono ?_
   rintro e w3 ⟨rfl,hb3⟩;have c18:=c15.up hb3;have c19:=c16.up hb3;have hB20:Below w.heap.size w w3:=bel_up hB17 hb3;clear c15 c16;cases b13
   ·skip
    have uc18:=c18;have uc19:=c19;simp only [At,Own,Nat.reduceAdd,and_true] at uc18 uc19;have kK21:=fun W=>qcmp_any g.1.2 p.2 W (HZG.out.1.2.mono (by omega)) (hp.2.mono (by omega))
    generalize hT23:Pl.cmpQ g.1.2 p.2=u22 at kK21;have K21:=Lib.hid kK21;clear kK21;have HhT23:=Lib.hid hT23;clear hT23;go_wp2_with (fail)
    refine calls_named ?_;intro W4 hW4;have hL4:Below w3.heap.size w3 W4:=by rw [hW4];exact bB
    have c24:=c18.up hL4;have c25:=c19.up hL4;have hB26:Below w.heap.size w W4:=by rw [hW4];exact bB
    clear hW4 hL4 uc18 uc19 c18 c19;with_reducible refine (K21.out _).mono ?_
    rintro e w4 ⟨rfl,hb4⟩;have c27:=c24.up hb4;have c28:=c25.up hb4;have hB29:Below w.heap.size w w4:=bel_up hB26 hb4;clear c24 c25;have kK30:=fun W=>qcmp_any g.2.2 p.2 W (HZG.out.2.2.mono (by omega)) (hp.2.mono (by omega))
    generalize hT32:Pl.cmpQ g.2.2 p.2=u31 at kK30;have K30:=Lib.hid kK30;clear kK30;have HhT32:=Lib.hid hT32;clear hT32
    by_cases hc39:(0:Int)<u22
    ·skip
     have hc39_:¬ ((u22:Int)≤0):=by omega
     by_cases hc46:(0:Int)<u31
     ·skip
      have hc46_:¬ ((u31:Int)≤0):=by omega
      have uc27:=c27;have uc28:=c28;simp only [At,Own,Nat.reduceAdd,and_true] at uc27 uc28;go_wp2_with (fail)
      refine calls_named ?_;intro W7 hW7;have hL7:Below w4.heap.size w4 W7:=by rw [hW7];exact bB
      have c47:=c27.up hL7;have c48:=c28.up hL7;have hB49:Below w.heap.size w W7:=by rw [hW7];exact bB
      clear hW7 hL7 uc27 uc28 c27 c28;with_reducible refine (K30.out _).mono ?_
      rintro e w7 ⟨rfl,hb7⟩;have c50:=c47.up hb7;have c51:=c48.up hb7;have hB52:Below w.heap.size w w7:=bel_up hB49 hb7;clear c47 c48;have hEB53:(decide ((u22:Int)≤0)==decide ((u31:Int)≤0))=true:=by rw [decide_eq_false (show ¬ ((u22:Int)≤0) by omega),decide_eq_false (show ¬ ((u31:Int)≤0) by omega)]<;>rfl
      have uc50:=c50;have uc51:=c51;simp only [At,Own,Nat.reduceAdd,and_true] at uc50 uc51;go_wp2;go_roundw
      case rel=>exact ⟨(k+1),t,(by first|rfl|exact congrArg (Value.int .i64) (by omega)|simp [*]),(by first|rfl|exact congrArg (Value.int .i64) (by omega)|simp [*]),(by repeat (first|with_reducible exact c50|refine Own.far _ _ (by simp<;>omega) ?_|with_reducible refine Own.alloc ?_ _)),(by exact bB),(by omega),⟨by omega,by omega⟩,Lib.hid (by rw [HE.out,HDR.out,locW_to (z:=0) (u:=t) HhT14.out (wnd_a HhT23.out HhT32.out (by omega)) (by omega)])⟩
      case measure=>simp [intOf]<;>omega
     ·skip
      have hc46_:((u31:Int)≤0):=by omega
      have uc27:=c27;have uc28:=c28;simp only [At,Own,Nat.reduceAdd,and_true] at uc27 uc28;go_wp2_with (fail)
      refine calls_named ?_;intro W8 hW8;have hL8:Below w4.heap.size w4 W8:=by rw [hW8];exact bB
      have c54:=c27.up hL8;have c55:=c28.up hL8;have hB56:Below w.heap.size w W8:=by rw [hW8];exact bB
      clear hW8 hL8 uc27 uc28 c27 c28;with_reducible refine (K30.out _).mono ?_
      rintro e w8 ⟨rfl,hb8⟩;have c57:=c54.up hb8;have c58:=c55.up hb8;have hB59:Below w.heap.size w w8:=bel_up hB56 hb8;clear c54 c55;have hEB60:(decide ((u22:Int)≤0)==decide ((u31:Int)≤0))=false:=by rw [decide_eq_false (show ¬ ((u22:Int)≤0) by omega),decide_eq_true (show (u31:Int)≤0 by omega)]<;>rfl
      have uc57:=c57;have uc58:=c58;simp only [At,Own,Nat.reduceAdd,and_true] at uc57 uc58;have kK61:=fun W=>orient_any g.1 g.2 p W HZG.out.1 HZG.out.2 hp (by omega) (by omega) (by omega)
      generalize hT63:Pl.turn g.1 g.2 p=o62 at kK61;have K61:=Lib.hid kK61;clear kK61;have HhT63:=Lib.hid hT63;clear hT63;go_wp2_with (fail)
      refine calls_named ?_;intro W9 hW9;have hL9:Below w8.heap.size w8 W9:=by rw [hW9];exact bB
      have c64:=c57.up hL9;have c65:=c58.up hL9;have hB66:Below w.heap.size w W9:=by rw [hW9];exact bB
      clear hW9 hL9 uc57 uc58 c57 c58;with_reducible refine (K61.out _).mono ?_
      rintro e w9 ⟨rfl,hb9⟩;have c67:=c64.up hb9;have c68:=c65.up hb9;have hB69:Below w.heap.size w w9:=bel_up hB66 hb9;clear c64 c65
      by_cases hc70:(o62:Int)<0
      ·skip
       have hc70_:¬ ((0:Int)≤o62):=by omega
       have uc67:=c67;have uc68:=c68;simp only [At,Own,Nat.reduceAdd,and_true] at uc67 uc68;go_wp2;go_roundw
       case rel=>exact ⟨(k+1),(t-1),(by first|rfl|exact congrArg (Value.int .i64) (by omega)|simp [*]),(by first|rfl|exact congrArg (Value.int .i64) (by omega)|simp [*]),(by repeat (first|with_reducible exact c67|refine Own.far _ _ (by simp<;>omega) ?_|with_reducible refine Own.alloc ?_ _)),(by exact bB),(by omega),⟨by omega,by omega⟩,Lib.hid (by rw [HE.out,HDR.out,locW_to (z:=(-1)) (u:=(t-1)) HhT14.out (wnd_c HhT23.out HhT32.out HhT63.out (by omega) (by omega) (by rw [if_pos (by omega)])) (by omega)])⟩
       case measure=>simp [intOf]<;>omega
      ·skip
       have hc70_:((0:Int)≤o62):=by omega
       have uc67:=c67;have uc68:=c68;simp only [At,Own,Nat.reduceAdd,and_true] at uc67 uc68;go_wp2;go_roundw
       case rel=>exact ⟨(k+1),t,(by first|rfl|exact congrArg (Value.int .i64) (by omega)|simp [*]),(by first|rfl|exact congrArg (Value.int .i64) (by omega)|simp [*]),(by repeat (first|with_reducible exact c67|refine Own.far _ _ (by simp<;>omega) ?_|with_reducible refine Own.alloc ?_ _)),(by exact bB),(by omega),⟨by omega,by omega⟩,Lib.hid (by rw [HE.out,HDR.out,locW_to (z:=0) (u:=t) HhT14.out (wnd_c HhT23.out HhT32.out HhT63.out (by omega) (by omega) (by rw [if_neg (by omega)])) (by omega)])⟩
       case measure=>simp [intOf]<;>omega
    ·skip
     have hc39_:((u22:Int)≤0):=by omega
     by_cases hc77:(0:Int)<u31
     ·skip
      have hc77_:¬ ((u31:Int)≤0):=by omega
      have uc27:=c27;have uc28:=c28;simp only [At,Own,Nat.reduceAdd,and_true] at uc27 uc28;go_wp2_with (fail)
      refine calls_named ?_;intro W11 hW11;have hL11:Below w4.heap.size w4 W11:=by rw [hW11];exact bB
      have c78:=c27.up hL11;have c79:=c28.up hL11;have hB80:Below w.heap.size w W11:=by rw [hW11];exact bB
      clear hW11 hL11 uc27 uc28 c27 c28;with_reducible refine (K30.out _).mono ?_
      rintro e w11 ⟨rfl,hb11⟩;have c81:=c78.up hb11;have c82:=c79.up hb11;have hB83:Below w.heap.size w w11:=bel_up hB80 hb11;clear c78 c79;have hEB84:(decide ((u22:Int)≤0)==decide ((u31:Int)≤0))=false:=by rw [decide_eq_true (show (u22:Int)≤0 by omega),decide_eq_false (show ¬ ((u31:Int)≤0) by omega)]<;>rfl
      have uc81:=c81;have uc82:=c82;simp only [At,Own,Nat.reduceAdd,and_true] at uc81 uc82;have kK85:=fun W=>orient_any g.1 g.2 p W HZG.out.1 HZG.out.2 hp (by omega) (by omega) (by omega)
      generalize hT87:Pl.turn g.1 g.2 p=o86 at kK85;have K85:=Lib.hid kK85;clear kK85;have HhT87:=Lib.hid hT87;clear hT87;go_wp2_with (fail)
      refine calls_named ?_;intro W12 hW12;have hL12:Below w11.heap.size w11 W12:=by rw [hW12];exact bB
      have c88:=c81.up hL12;have c89:=c82.up hL12;have hB90:Below w.heap.size w W12:=by rw [hW12];exact bB
      clear hW12 hL12 uc81 uc82 c81 c82;with_reducible refine (K85.out _).mono ?_
      rintro e w12 ⟨rfl,hb12⟩;have c91:=c88.up hb12;have c92:=c89.up hb12;have hB93:Below w.heap.size w w12:=bel_up hB90 hb12;clear c88 c89
      by_cases hc94:(0:Int)<o86
      ·skip
       have hc94_:¬ ((o86:Int)≤0):=by omega
       have uc91:=c91;have uc92:=c92;simp only [At,Own,Nat.reduceAdd,and_true] at uc91 uc92;go_wp2;go_roundw
       case rel=>exact ⟨(k+1),(t+1),(by first|rfl|exact congrArg (Value.int .i64) (by omega)|simp [*]),(by first|rfl|exact congrArg (Value.int .i64) (by omega)|simp [*]),(by repeat (first|with_reducible exact c91|refine Own.far _ _ (by simp<;>omega) ?_|with_reducible refine Own.alloc ?_ _)),(by exact bB),(by omega),⟨by omega,by omega⟩,Lib.hid (by rw [HE.out,HDR.out,locW_to (z:=1) (u:=(t+1)) HhT14.out (wnd_b HhT23.out HhT32.out HhT87.out (by omega) (by omega) (by rw [if_pos (by omega)])) (by omega)])⟩
       case measure=>simp [intOf]<;>omega
      ·skip
       have hc94_:((o86:Int)≤0):=by omega
       have uc91:=c91;have uc92:=c92;simp only [At,Own,Nat.reduceAdd,and_true] at uc91 uc92;go_wp2;go_roundw
       case rel=>exact ⟨(k+1),t,(by first|rfl|exact congrArg (Value.int .i64) (by omega)|simp [*]),(by first|rfl|exact congrArg (Value.int .i64) (by omega)|simp [*]),(by repeat (first|with_reducible exact c91|refine Own.far _ _ (by simp<;>omega) ?_|with_reducible refine Own.alloc ?_ _)),(by exact bB),(by omega),⟨by omega,by omega⟩,Lib.hid (by rw [HE.out,HDR.out,locW_to (z:=0) (u:=t) HhT14.out (wnd_b HhT23.out HhT32.out HhT87.out (by omega) (by omega) (by rw [if_neg (by omega)])) (by omega)])⟩
       case measure=>simp [intOf]<;>omega
     ·skip
      have hc77_:((u31:Int)≤0):=by omega
      have uc27:=c27;have uc28:=c28;simp only [At,Own,Nat.reduceAdd,and_true] at uc27 uc28;go_wp2_with (fail)
      refine calls_named ?_;intro W13 hW13;have hL13:Below w4.heap.size w4 W13:=by rw [hW13];exact bB
      have c95:=c27.up hL13;have c96:=c28.up hL13;have hB97:Below w.heap.size w W13:=by rw [hW13];exact bB
      clear hW13 hL13 uc27 uc28 c27 c28;with_reducible refine (K30.out _).mono ?_
      rintro e w13 ⟨rfl,hb13⟩;have c98:=c95.up hb13;have c99:=c96.up hb13;have hB100:Below w.heap.size w w13:=bel_up hB97 hb13;clear c95 c96;have hEB101:(decide ((u22:Int)≤0)==decide ((u31:Int)≤0))=true:=by rw [decide_eq_true (show (u22:Int)≤0 by omega),decide_eq_true (show (u31:Int)≤0 by omega)]<;>rfl
      have uc98:=c98;have uc99:=c99;simp only [At,Own,Nat.reduceAdd,and_true] at uc98 uc99;go_wp2;go_roundw
      case rel=>exact ⟨(k+1),t,(by first|rfl|exact congrArg (Value.int .i64) (by omega)|simp [*]),(by first|rfl|exact congrArg (Value.int .i64) (by omega)|simp [*]),(by repeat (first|with_reducible exact c98|refine Own.far _ _ (by simp<;>omega) ?_|with_reducible refine Own.alloc ?_ _)),(by exact bB),(by omega),⟨by omega,by omega⟩,Lib.hid (by rw [HE.out,HDR.out,locW_to (z:=0) (u:=t) HhT14.out (wnd_a HhT23.out HhT32.out (by omega)) (by omega)])⟩
      case measure=>simp [intOf]<;>omega
   ·skip
    have uc18:=c18;have uc19:=c19;simp only [At,Own,Nat.reduceAdd,and_true] at uc18 uc19;go_wp2;go_ret;refine ⟨(by rw [HE.out,HDR.out,locW_on HhT14.out]<;>rfl),?_⟩;exact bB
  ·skip
   have hkN:N=k:=by omega
   subst hkN
   by_cases hc102:(t:Int)=0
   ·skip
    have hc102_:(((t:Int))==0)=true:=by simpa using hc102
    have Hhc102:=Lib.hid hc102;clear hc102;have ub3:=b3;simp only [At,Own,Nat.reduceAdd,and_true] at ub3;go_wp2;go_ret;refine ⟨(by rw [loc_fin HN.out HE.out (z := -1) (by rw [if_pos Hhc102.out])]<;>rfl),?_⟩;exact bB
   ·skip
    have hc102_:(((t:Int))==0)=false:=by simpa using hc102
    have ub3:=b3;simp only [At,Own,Nat.reduceAdd,and_true] at ub3;go_wp2;go_ret;refine ⟨(by rw [loc_fin HN.out HE.out (z:=1) (by rw [if_neg hc102])]<;>rfl),?_⟩;exact bB

theorem areaS_to {e:(Rat×Rat)×(Rat×Rat)} {es:List ((Rat×Rat)×(Rat×Rat))} {s:Rat} : Pg.areaS (e :: es) s=Pg.areaS es (s+Pl.crossP e.1 e.2):=rfl
theorem area_fin {l:List (Rat×Rat)} {N:Nat} {s:Rat} (hN:l.length=N) (h:Pg.ringA l=Pg.areaS ((Pg.ringE l).drop N) s):Pg.ringA l=s:=by
 rw [h,List.drop_eq_nil_of_le (by rw [Pg.ringE_len,hN];exact Nat.le_refl _),Pg.areaS]

set_option maxHeartbeats 2000000 in
theorem parea_any {S:Nat} (v:Value) (l:List (Rat×Rat)) (w:World) (h:PV w v l) (hs:∀ q∈l,Pl.SzP S q) (hn:l.length≤1000) (hS:S≤1000) :
 Calls Tryz.prog 26 #[v] w fun e w'=>e=.returned (qv (Pg.ringA l))∧Below w.heap.size w w':=by
 obtain ⟨A,c,rfl,hc,hm,hx⟩:=h.open_;have HV:=Lib.hid h;have HX:=Lib.hid hx;have HS:=Lib.hid hs;have HF:Hid (l.take l.length=l):=Lib.hid List.take_length;generalize hN:l.length=N at *;have HN:=Lib.hid hN;clear h hx hs hN;go_enter Tryz.func26,Tryz.ntmps26;go_wp2_with fail;refine wp_named ?_;intro W1 hW1;have hL1:Below w.heap.size w W1:=by rw [hW1];exact bB
 have c1:Own W1 w.heap.size 0 [.bool false,.string ⟨#[]⟩,.bool false,.string ⟨#[]⟩]:=by
  rw [hW1]
  first
  | (repeat (first|(with_reducible refine own_new (l:=[.bool false,.string ⟨#[]⟩,.bool false,.string ⟨#[]⟩]) ?_;(simp;done))|with_reducible refine Own.alloc ?_ _|refine Own.far _ _ (by first|(simp;done)|(simp [*];done)|(simp;omega)) ?_));done
  | simp [Own,go_sem]
 have c2:Own W1 (w.heap.size+1) 0 [.bool false,.string ⟨#[]⟩,.bool false,.string ⟨#[]⟩]:=by
  rw [hW1]
  first
  | (repeat (first|(with_reducible refine own_new (l:=[.bool false,.string ⟨#[]⟩,.bool false,.string ⟨#[]⟩]) ?_;(simp;done))|with_reducible refine Own.alloc ?_ _|refine Own.far _ _ (by first|(simp;done)|(simp [*];done)|(simp;omega)) ?_));done
  | simp [Own,go_sem]
 have hB3:Below w.heap.size w W1:=by rw [hW1];exact bB
 clear hW1 hL1;go_loopw [9] (fun s9 wr=>∃ (k:Nat) (out:Rat),s9=.int .i64 k∧Own wr w.heap.size 0 [.bool false,.string ⟨#[]⟩,.bool false,.string ⟨#[]⟩]∧Own wr (w.heap.size+1) 0 [.bool (ng out.num),.string (mg out.num.natAbs),.bool false,.string (mg (dn out))]∧Below w.heap.size w wr∧k≤N∧Hid (Pl.Sz (1+4010*k) out)∧Hid (Pg.ringA l=Pg.areaS ((Pg.ringE l).drop k) out)) (fun s9 _=>N-(intOf s9).toNat)
 case atStart=>exact ⟨0,0,rfl,c1,c2,hB3,(by omega),Lib.hid (Pl.sz_zero.mono (by omega)),Lib.hid rfl⟩
 case round =>
  clear c1 c2 hB3;obtain ⟨k,out,rfl,b4,b5,hB6,hk,HOUT,HE⟩:=hrel;obtain ⟨wr7,hwr7⟩:∃ W_,W_=wr:=⟨_,rfl⟩
  subst hwr7
  by_cases hltk:k<N
  ·skip
   have i1k:(k:Int)<N:=by omega
   obtain ⟨g,hg⟩:∃ g,(Pg.vx l k,Pg.vx l (k+1))=g:=⟨_,rfl⟩
   have HG:=Lib.hid hg;have HZG:Hid (Pl.SzS S g):=Lib.hid (hg▸⟨vx_sz HS.out (by rw [HN.out];omega) _,vx_sz HS.out (by rw [HN.out];omega) _⟩);have HDR:Hid ((Pg.ringE l).drop k=g :: (Pg.ringE l).drop (k+1)):=Lib.hid (by rw [← hg];exact Pl.drop_of (Pg.ringE_get l (by rw [HN.out];omega)));clear hg;have K8:=Lib.hid (fun W (hW:PV W (.slice A N c) l)=>HG.out▸pedge_any _ l k W hW HS.out (by rw [HN.out];omega) (by omega) (by rw [HN.out];omega));have ub4:=b4;have ub5:=b5;simp only [At,Own,Nat.reduceAdd,and_true] at ub4 ub5;go_wp2_with (fail)
   refine calls_named ?_;intro W2 hW2;have hL2:Below wr7.heap.size wr7 W2:=by rw [hW2];exact bB
   have c9:=b4.up hL2;have c10:=b5.up hL2;have hB11:Below w.heap.size w W2:=by rw [hW2];exact bB
   clear hW2 hL2 ub4 ub5 b4 b5;with_reducible refine (K8.out _ (HV.out.up hB11)).mono ?_
   rintro e w2 ⟨rfl,hb2⟩;have c12:=c9.up hb2;have c13:=c10.up hb2;have hB14:Below w.heap.size w w2:=bel_up hB11 hb2;clear c9 c10;have ne15_:w.heap.size<w2.heap.size:=by have:=c12.lt;omega
   have ne15:=Nat.ne_of_lt ne15_;have ne15':=ne15.symm;have ne16_:w.heap.size+1<w2.heap.size:=by have:=c13.lt;omega
   have ne16:=Nat.ne_of_lt ne16_;have ne16':=ne16.symm;have uc12:=c12;have uc13:=c13;simp only [At,Own,Nat.reduceAdd,and_true] at uc12 uc13;have K17:=Lib.hid (fun W=>pcross_any g.1 g.2 W HZG.out.1 HZG.out.2 (by omega) (by omega));have K18:=Lib.hid (fun W=>qadd_any out (Pl.crossP g.1 g.2) W (HOUT.out.mono (by omega)) ((HZG.out.1.cross HZG.out.2).mono (by omega)));go_wp2_with fail;refine wp_named ?_;intro W3 hW3;have hL3:Below w2.heap.size w2 W3:=by rw [hW3];exact bB
   have c19:=c12.up hL3;have c20:=c13.up hL3
   have c21:Own W3 w2.heap.size 0 [.bool (ng g.1.1.num),.string (mg g.1.1.num.natAbs),.bool false,.string (mg (dn g.1.1)),.bool (ng g.1.2.num),.string (mg g.1.2.num.natAbs),.bool false,.string (mg (dn g.1.2)),.bool (ng g.2.1.num),.string (mg g.2.1.num.natAbs),.bool false,.string (mg (dn g.2.1)),.bool (ng g.2.2.num),.string (mg g.2.2.num.natAbs),.bool false,.string (mg (dn g.2.2))]:=by
    rw [hW3]
    first
    | (repeat (first|(with_reducible refine own_new (l:=[.bool (ng g.1.1.num),.string (mg g.1.1.num.natAbs),.bool false,.string (mg (dn g.1.1)),.bool (ng g.1.2.num),.string (mg g.1.2.num.natAbs),.bool false,.string (mg (dn g.1.2)),.bool (ng g.2.1.num),.string (mg g.2.1.num.natAbs),.bool false,.string (mg (dn g.2.1)),.bool (ng g.2.2.num),.string (mg g.2.2.num.natAbs),.bool false,.string (mg (dn g.2.2))]) ?_;(simp;done))|with_reducible refine Own.alloc ?_ _|refine Own.far _ _ (by first|(simp;done)|(simp [*];done)|(simp;omega)) ?_));done
    | simp [Own,go_sem,uc12,uc13,ne15,ne15',ne15_,ne16,ne16',ne16_]
   have hB22:Below w.heap.size w W3:=by rw [hW3];exact bB
   clear hW3 hL3 uc12 uc13 c12 c13;have dc19:=fun p:Bel W3=>c19.bel p;have dc20:=fun p:Bel W3=>c20.bel p;have dc21:=fun p:Bel W3=>c21.bel p
   simp only [At,Own,Nat.reduceAdd,and_true] at dc19 dc20 dc21;refine wp_region_tail 7 (by kernel_rfl) (by kernel_rfl) ?_;simp only [List.take_succ_cons,List.take_zero,List.drop_succ_cons,List.drop_zero];repeat (go_big_quiet_step (first|(go_at_call 73;with_reducible exact Calls.bel (K17.out _))|(go_at_call 72;with_reducible exact Calls.bel (K18.out _))))
   refine wpQuiet_nil ?_;intro w3 hb3;have c23:=c19.up hb3;have c24:=c20.up hb3;have c25:=c21.up hb3;have hB26:Below w.heap.size w w3:=bel_up hB22 hb3;clear dc19 dc20 dc21 c19 c20 c21;have uc23:=c23;have uc24:=c24;have uc25:=c25;simp only [At,Own,Nat.reduceAdd,and_true] at uc23 uc24 uc25;go_wp2;go_roundw
   case rel=>exact ⟨(k+1),(out+(Pl.crossP g.1 g.2)),(by first|rfl|exact congrArg (Value.int .i64) (by omega)|simp [*]),(by repeat (first|with_reducible exact c23|refine Own.far _ _ (by simp<;>omega) ?_|with_reducible refine Own.alloc ?_ _)),(by simp [Own,go_sem,uc23,uc24,uc25]),(by exact bB),(by omega),Lib.hid ((HOUT.out.add (HZG.out.1.cross HZG.out.2)).mono (by omega)),Lib.hid (by rw [HE.out,HDR.out,areaS_to])⟩
   case measure=>simp [intOf]<;>omega
  ·skip
   have hkN:N=k:=by omega
   subst hkN;have ub4:=b4;have ub5:=b5;simp only [At,Own,Nat.reduceAdd,and_true] at ub4 ub5;go_wp2;refine bodyPost_ret (v:=.agg #[.bool (ng out.num),.string (mg out.num.natAbs),.bool false,.string (mg (dn out))]) (by simp [results,Tryz.results26,go_sem,ub4,ub5]) rfl ⟨(by rw [area_fin HN.out HE.out]),?_⟩;exact bB
end Go.Proofs.YtiochgoocbkckaaGreatDoor
