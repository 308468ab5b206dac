/-
 Contracts of the reference for fractions: division, the greatest common divisor, the canonical form.
 Contracts of the reference for fractions: a fraction as digits, the canonical form.
 Contracts of the reference for fractions: the canonical form.
 Contracts of the reference for fractions: machine integers.
 Contracts of the reference for fractions: Make, Of.
-/
import Derived.Test.YtiochgoocbkckaaGreatDoorAR8
set_option maxRecDepth 100000
set_option linter.unusedSimpArgs false
set_option linter.unusedVariables false
namespace Go.Proofs.YtiochgoocbkckaaGreatDoor
open Go Go.RowKit

theorem rdivide_any (va vb:Value) (a b:Nat) (w:World) (ha:DV w va a) (hb:DV w vb b) (h0:b≠0) (hla:Pl.L a≤67108000) :
 Calls Tryz.prog 138 #[va,vb] w fun e w'=>∃ q r,e=.returned (.tuple #[q,r])∧DV w' q (a/b)∧DV w' r (a%b)∧Below w.heap.size w w':=by
 by_cases h:Pl.L a≤7∧Pl.L b≤7
 ·exact rdiv_small va vb a b w ha hb h0 h.1 h.2
 rcases Nat.lt_or_ge a b with hab|hab
 ·exact rdiv_less va vb a b w ha hb (by omega) hab (by omega)
 ·exact rdiv_long va vb a b w ha hb (by omega) hab h0 hla

set_option maxHeartbeats 1000000 in
theorem rcommon_any (va vb:Value) (a b:Nat) (w:World) (ha:DV w va a) (hb:DV w vb b) (hla:Pl.L a≤67108000) (hlb:Pl.L b≤67108000) :
 Calls Tryz.prog 107 #[va,vb] w fun e w'=>∃ v,e=.returned v∧DV w' v (Nat.gcd a b)∧Below w.heap.size w w':=by
 go_enter Tryz.func107,Tryz.ntmps107;go_wp2_with fail;go_loopg [0,1] b (fun n x y wr=>∃ m:Nat,DV wr x m∧DV wr y n∧Nat.gcd m n=Nat.gcd a b∧Pl.L m≤67108000∧Pl.L n≤67108000∧Below w.heap.size w wr)
 case atStart=>exact ⟨a,ha,hb,rfl,hla,hlb,Below.refl _ _⟩
 case round =>
  obtain ⟨m,hx,hy,hg,hm,hn,hbl⟩:=hrel;have HG:=Lib.hid hg;have HX:=Lib.hid hx;have HY:=Lib.hid hy;obtain ⟨B,cb,hBv⟩:=dv_form hy;subst hBv;clear hg hx hy ha hb
  by_cases h0:gk=0
  ·subst h0
   rw [Pl.L_zero];go_wp2;go_ret;exact ⟨_,rfl,by rw [← HG.out,Nat.gcd_zero_right];exact HX.out,hbl⟩
  ·have hL:=Pl.L_pos h0
   have hL':(0:Int)<Pl.L gk:=by omega
   have HD:=Lib.hid (rdivide_any u0 _ m gk wr HX.out HY.out h0 hm);have hlt:m%gk<gk:=Nat.mod_lt _ (Nat.pos_of_ne_zero h0);have hlr:Pl.L (m%gk)≤67108000:=Nat.le_trans (Pl.L_mono (Nat.le_of_lt hlt)) hn;have HGN:Hid (Nat.gcd gk (m%gk)=Nat.gcd a b):=Lib.hid (by rw [← HG.out,Nat.gcd_comm m gk,Nat.gcd_rec gk m,Nat.gcd_comm]);go_wp2_with fail;refine HD.out.mono ?_;rintro e w1 ⟨q,r,rfl,hq,hr,hb1⟩;go_wp2;go_roundg (m%gk)
   case measure=>exact hlt
   case rel=>exact ⟨gk,HY.out.up hb1,hr,HGN.out,hn,hlr,bel_up hbl hb1⟩

def sgnZ (s:Bool) (n:Nat):Int:=if s then -(n:Int) else n
theorem canon_ref (s:Bool) (n d:Nat) (hd:d≠0):qv (mkRat (sgnZ s n) d)=.agg #[.bool (s&&decide (n/Nat.gcd n d≠0)),.string (mg (n/Nat.gcd n d)),.bool false,.string (mg (if d/Nat.gcd n d=1 then 0 else d/Nat.gcd n d))]:=by
 obtain ⟨h1,h2⟩:=canon_parts (sgnZ s n) d hd;have hn:(sgnZ s n).natAbs=n:=by unfold sgnZ;split<;>omega
 rw [hn] at h1 h2;have hdv:(Nat.gcd n d) ∣ n:=Nat.gcd_dvd_left _ _;have hg:0<Nat.gcd n d:=Nat.gcd_pos_of_pos_right _ (Nat.pos_of_ne_zero hd)
 have hz:sgnZ s n/(Nat.gcd n d:Nat)=sgnZ s (n/Nat.gcd n d):=by
  generalize Nat.gcd n d=g at *;obtain ⟨c,rfl⟩:=hdv;rw [Nat.mul_div_cancel_left _ hg];unfold sgnZ
  split
  ·rw [Int.natCast_mul,← Int.mul_neg];exact Int.mul_ediv_cancel_left _ (by omega)
  ·rw [Int.natCast_mul];exact Int.mul_ediv_cancel_left _ (by omega)
 rw [hz] at h1;rw [qv,dn,h1,h2];generalize n/Nat.gcd n d=k;have e1:(sgnZ s k).natAbs=k:=by unfold sgnZ;split<;>omega
 have e2:ng (sgnZ s k)=(s&&decide (k≠0)):=by
  unfold sgnZ ng;cases s
  ·simp only [Bool.false_eq_true,if_false,Bool.false_and,decide_eq_false_iff_not];omega
  ·simp only [if_true,Bool.true_and,decide_eq_decide];omega
 rw [e1,e2]
end Go.Proofs.YtiochgoocbkckaaGreatDoor

namespace Go.Proofs.YtiochgoocbkckaaGreatDoor
open Go Go.RowKit

theorem Own.drew {w:World} {b:Nat} : ∀ {l:List Value} {i:Nat},Own w b i l→Own w.drew b i l
 | [],_,_=>trivial
 | _ :: _,_,h=>⟨h.1,Own.drew h.2⟩
theorem dv_one (w:World):DV (w.alloc (.cells #[.int .i64 1] 3)) (.slice (some ⟨w.heap.size,0,none⟩) 1 1) 1:=by
 refine ⟨rfl,.inr ⟨_,_,_,rfl,Nat.le_refl _,by decide,fun j u hj => ?_⟩⟩;rw [World.cell?_alloc_at _ _ _ _ rfl,Nat.zero_add];rw [show ints (dL 1)=[Value.int .i64 1] from rfl] at hj
 simpa using hj

def IK (w w':World):Prop:=∀ p z,w.cell? p=some (.int .i64 z)→w'.cell? p=some (.int .i64 z)
theorem IK.refl (w:World):IK w w:=fun _ _ h=>h
theorem IK.trans {w w1 w2:World} (h:IK w w1) (h2:IK w1 w2):IK w w2:=fun p z hp=>h2 p z (h p z hp)
theorem IK.up {w w1 w2:World} (h:IK w w1) (hb:Below w1.heap.size w1 w2):IK w w2:=fun p z hp=>(hb.cell (World.block_lt_of_cell? _ _ (h p z hp))).trans (h p z hp)
theorem IK.drew {w w1:World} (h:IK w w1):IK w w1.drew:=h
theorem IK.alloc {w w1:World} (h:IK w w1) (o:Obj):IK w (w1.alloc o):=h.up ((Below.refl _ _).alloc (Nat.le_refl _) o)
theorem IK.setCell {w w1:World} (h:IK w w1) {p:Addr} (hne:∀ z,w1.cell? p≠some (.int .i64 z)) (v:Value):IK w (w1.setCell p v):=fun q z hq=>by
 have h1:=h q z hq;refine (World.cell?_setCell_other w1 _ _ _ ?_).trans h1;intro e
 first|exact hne z (by rw [e];exact h1)|exact hne z (by rw [← e];exact h1)
theorem DV.ik {w w1:World} {v:Value} {n:Nat} (h:DV w v n) (hk:IK w w1):DV w1 v n:=by
 refine ⟨h.1,?_⟩;rcases h.2 with h2|⟨g,o,c,hv,hc,hm,hx⟩
 ·exact .inl h2
 ·refine .inr ⟨g,o,c,hv,hc,hm,fun j u hj => ?_⟩
  have h1:=hx j u hj;rw [ints_get] at hj;obtain ⟨d,_,rfl⟩:=Option.map_eq_some_iff.1 hj;exact hk _ _ h1

set_option maxHeartbeats 1000000 in
theorem rof_int (s:Bool) (n:Nat) (w:World) (hn:Pl.L n≤67108864) :
 Calls Tryz.prog 84 #[.agg #[.bool s,.string (mg n),.bool false,.string (mg 0)]] w fun e w'=>∃ vn vd,e=.returned (.agg #[.bool s,vn,vd])∧DV w' vn n∧DV w' vd 1∧Below w.heap.size w w':=by
 have KN:=Lib.hid (fun W=>rdigits_any s n W hn);have KM:=Lib.hid (fun W=>rdigits_any false 0 W (by decide));have H0:Hid (Own ((w.alloc (.cells #[.bool s,.string (mg n),.bool false,.string (mg 0)] 43)).alloc (.cells #[.bool false,.slice none 0 0,.slice none 0 0] 101)) w.heap.size 0 [.bool s,.string (mg n),.bool false,.string (mg 0)]):=Lib.hid (by simp [Own,go_sem]);have H1:Hid (Own ((w.alloc (.cells #[.bool s,.string (mg n),.bool false,.string (mg 0)] 43)).alloc (.cells #[.bool false,.slice none 0 0,.slice none 0 0] 101)) (w.heap.size+1) 0 [.bool false,.slice none 0 0,.slice none 0 0]):=Lib.hid (by simp [Own,go_sem]);have HB:Hid (Below w.heap.size w ((w.alloc (.cells #[.bool s,.string (mg n),.bool false,.string (mg 0)] 43)).alloc (.cells #[.bool false,.slice none 0 0,.slice none 0 0] 101))):=Lib.hid (bel_alloc (bel_alloc (Below.refl _ _) _) _);go_enter Tryz.func84,Tryz.ntmps84;go_wp2_with fail;with_reducible refine (KM.out _).mono ?_
 rintro e w1 ⟨vd,rfl,hd,hb1⟩;have h0:=H0.out.up hb1;have h1:=H1.out.up hb1;have hB1:=bel_up HB.out hb1;clear KM H0 H1 HB hb1;rcases dv_zero hd with rfl|⟨g,o,c,rfl,hcm⟩
 all_goals
  clear hd;go_wp2_with fail;refine wp_named ?_;intro Wx hWx;have hx0:Own Wx w.heap.size 0 [.bool s,.string (mg n),.bool false,.string (mg 0)]:=by rw [hWx];exact h0.up ((Below.refl _ _).alloc (Nat.le_refl _) _)
  have hx1:Own Wx (w.heap.size+1) 0 [.bool false,.slice none 0 0,.slice none 0 0]:=by rw [hWx];exact h1.up ((Below.refl _ _).alloc (Nat.le_refl _) _)
  have hBx:Below w.heap.size w Wx:=by rw [hWx];exact bel_alloc hB1 _
  have hDx:DV Wx (.slice (some ⟨w1.heap.size,0,none⟩) 1 1) 1:=by rw [hWx];exact dv_one w1
  clear hWx h0 h1 hB1;have hu0:=hx0;have hu1:=hx1;simp only [Own,Nat.reduceAdd,and_true] at hu0 hu1;go_region_with (go_at_call 108;with_reducible refine (KN.out _).mono ?_;rintro e w2 ⟨vn,rfl,hvn,hb2⟩;obtain ⟨An,cn,rfl⟩:=dv_form hvn;have hv0:=hx0.drew.up hb2;have hv1:=hx1.drew.up hb2;simp only [Own,Nat.reduceAdd,and_true] at hv0 hv1)
  all_goals
   have hlt:=hx1.lt;have hsz:=hb2.size;go_wp2;refine bodyPost_ret (v:=.agg #[.bool s,.slice An (Pl.L n) cn,.slice (some ⟨w1.heap.size,0,none⟩) 1 1]) (by simp [results,Tryz.results84,go_sem,hv1]) rfl ⟨_,_,rfl,?_,?_,?_⟩
   ·refine hvn.ik ?_
    repeat (first|exact IK.refl _|refine IK.setCell ?_ (fun z=>by simp [go_sem,hv1]) _)
   ·refine (DV.up (w:=Wx.drew) hDx hb2).ik ?_
    repeat (first|exact IK.refl _|refine IK.setCell ?_ (fun z=>by simp [go_sem,hv1]) _)
   ·repeat (first|with_reducible exact bel_up hBx.drew hb2|refine Below.setCell ?_ (by first|(simp;done)|(simp;omega)|omega) _)

set_option maxHeartbeats 1000000 in
theorem rof_frac (s:Bool) (n m:Nat) (w:World) (hn:Pl.L n≤67108864) (hm:Pl.L m≤67108864) (h0:m≠0) :
 Calls Tryz.prog 84 #[.agg #[.bool s,.string (mg n),.bool false,.string (mg m)]] w fun e w'=>∃ vn vd,e=.returned (.agg #[.bool s,vn,vd])∧DV w' vn n∧DV w' vd m∧Below w.heap.size w w':=by
 have KN:=Lib.hid (fun W=>rdigits_any s n W hn);have KM:=Lib.hid (fun W=>rdigits_any false m W hm);have H0:Hid (Own ((w.alloc (.cells #[.bool s,.string (mg n),.bool false,.string (mg m)] 43)).alloc (.cells #[.bool false,.slice none 0 0,.slice none 0 0] 101)) w.heap.size 0 [.bool s,.string (mg n),.bool false,.string (mg m)]):=Lib.hid (by simp [Own,go_sem]);have H1:Hid (Own ((w.alloc (.cells #[.bool s,.string (mg n),.bool false,.string (mg m)] 43)).alloc (.cells #[.bool false,.slice none 0 0,.slice none 0 0] 101)) (w.heap.size+1) 0 [.bool false,.slice none 0 0,.slice none 0 0]):=Lib.hid (by simp [Own,go_sem]);have HB:Hid (Below w.heap.size w ((w.alloc (.cells #[.bool s,.string (mg n),.bool false,.string (mg m)] 43)).alloc (.cells #[.bool false,.slice none 0 0,.slice none 0 0] 101))):=Lib.hid (bel_alloc (bel_alloc (Below.refl _ _) _) _);have HZ:=Lib.hid h0;clear h0;go_enter Tryz.func84,Tryz.ntmps84;go_wp2_with fail;with_reducible refine (KM.out _).mono ?_
 rintro e w1 ⟨vd,rfl,hd,hb1⟩;have h0:=H0.out.up hb1;have h1:=H1.out.up hb1;have hB1:=bel_up HB.out hb1;clear KM H0 H1 HB hb1;have HD:=Lib.hid hd;obtain ⟨g,o,c,rfl,_⟩:=dv_some hd HZ.out;clear hd;have hL:=Pl.L_pos HZ.out;have hL':((Pl.L m:Int)==0)=false:=by simp;omega
 have hL2:¬ (Pl.L m:Int)=0:=by omega
 have hL3:¬ Pl.L m=0:=by omega
 all_goals
  go_wp2_with fail;refine wp_named ?_;intro Wx hWx;have hx0:Own Wx w.heap.size 0 [.bool s,.string (mg n),.bool false,.string (mg m)]:=by rw [hWx];exact h0
  have hx1:Own Wx (w.heap.size+1) 0 [.bool false,.slice none 0 0,.slice none 0 0]:=by rw [hWx];exact h1
  have hBx:Below w.heap.size w Wx:=by rw [hWx];exact hB1
  have hDx:DV Wx (.slice (some ⟨g,o,none⟩) (Pl.L m) c) m:=by rw [hWx];exact HD.out
  clear hWx h0 h1 hB1 HD hL hL' hL2 hL3;have hu0:=hx0;have hu1:=hx1;simp only [Own,Nat.reduceAdd,and_true] at hu0 hu1;go_region_with (go_at_call 108;with_reducible refine (KN.out _).mono ?_;rintro e w2 ⟨vn,rfl,hvn,hb2⟩;obtain ⟨An,cn,rfl⟩:=dv_form hvn;have hv0:=hx0.drew.up hb2;have hv1:=hx1.drew.up hb2;simp only [Own,Nat.reduceAdd,and_true] at hv0 hv1)
  all_goals
   have hlt:=hx1.lt;have hsz:=hb2.size;go_wp2;refine bodyPost_ret (v:=.agg #[.bool s,.slice An (Pl.L n) cn,.slice (some ⟨g,o,none⟩) (Pl.L m) c]) (by simp [results,Tryz.results84,go_sem,hv1]) rfl ⟨_,_,rfl,?_,?_,?_⟩
   ·refine hvn.ik ?_
    repeat (first|exact IK.refl _|refine IK.setCell ?_ (fun z=>by simp [go_sem,hv1]) _)
   ·refine (DV.up (w:=Wx.drew) hDx hb2).ik ?_
    repeat (first|exact IK.refl _|refine IK.setCell ?_ (fun z=>by simp [go_sem,hv1]) _)
   ·repeat (first|with_reducible exact bel_up hBx.drew hb2|refine Below.setCell ?_ (by first|(simp;done)|(simp;omega)|omega) _)

theorem rof_any (s:Bool) (n m:Nat) (w:World) (hn:Pl.L n≤67108864) (hm:Pl.L m≤67108864) :
 Calls Tryz.prog 84 #[.agg #[.bool s,.string (mg n),.bool false,.string (mg m)]] w fun e w'=>∃ vn vd,e=.returned (.agg #[.bool s,vn,vd])∧DV w' vn n∧DV w' vd (if m=0 then 1 else m)∧Below w.heap.size w w':=by
 by_cases h0:m=0
 ·subst h0
  exact rof_int s n w hn
 ·rw [if_neg h0]
  exact rof_frac s n m w hn hm h0
end Go.Proofs.YtiochgoocbkckaaGreatDoor

namespace Go.Proofs.YtiochgoocbkckaaGreatDoor
open Go Go.RowKit

theorem L_one':Pl.L 1=1:=by decide
set_option maxHeartbeats 2000000 in
theorem rcanon_any (s:Bool) (vn vd:Value) (n d:Nat) (w:World) (hn:DV w vn n) (hd:DV w vd d) (h0:d≠0) (hln:Pl.L n≤67108000) (hld:Pl.L d≤67108000) :
 Calls Tryz.prog 86 #[.agg #[.bool s,vn,vd]] w fun e w'=>e=.returned (qv (mkRat (sgnZ s n) d))∧Below w.heap.size w w':=by
 rw [canon_ref s n d h0];obtain ⟨A,ca,rfl⟩:=dv_form hn;obtain ⟨B,cb,rfl⟩:=dv_form hd;have hg0:Nat.gcd n d≠0:=Nat.ne_of_gt (Nat.gcd_pos_of_pos_right _ (Nat.pos_of_ne_zero h0));have hq0:d/Nat.gcd n d≠0:=Nat.ne_of_gt (Nat.div_pos (Nat.le_of_dvd (Nat.pos_of_ne_zero h0) (Nat.gcd_dvd_right n d)) (Nat.pos_of_ne_zero hg0));have hqn:Pl.L (n/Nat.gcd n d)≤67108864:=Nat.le_trans (Pl.L_mono (Nat.div_le_self _ _)) (by omega);have hqd:Pl.L (d/Nat.gcd n d)≤67108864:=Nat.le_trans (Pl.L_mono (Nat.div_le_self _ _)) (by omega);have KC:=Lib.hid (fun W ha hb=>rcommon_any (.slice A (Pl.L n) ca) (.slice B (Pl.L d) cb) n d W ha hb hln hld);have K1:=Lib.hid (fun vg W ha hb=>rdivide_any (.slice A (Pl.L n) ca) vg n (Nat.gcd n d) W ha hb hg0 (by omega));have K2:=Lib.hid (fun vg W ha hb=>rdivide_any (.slice B (Pl.L d) cb) vg d (Nat.gcd n d) W ha hb hg0 (by omega));generalize Nat.gcd n d=g at *;generalize n/g=p at *;generalize d/g=q at *;have KP:=Lib.hid (fun v W h=>rwhole_any v s p W h hqn);have KQ:=Lib.hid (fun v W h=>rwhole_any v false q W h hqd);have KZ:=Lib.hid (fun v W h=>rwhole_any v false 0 W h (by decide));have HN:=Lib.hid hn;have HD:=Lib.hid hd;have HQ0:=Lib.hid hq0;have H0:Hid (Own ((w.alloc (.cells #[.bool s,.slice A (Pl.L n) ca,.slice B (Pl.L d) cb] 101)).alloc (.cells #[.bool false,.string ⟨#[]⟩,.bool false,.string ⟨#[]⟩] 43)) w.heap.size 0 [.bool s,.slice A (Pl.L n) ca,.slice B (Pl.L d) cb]):=Lib.hid (by simp [Own,go_sem]);have H1:Hid (Own ((w.alloc (.cells #[.bool s,.slice A (Pl.L n) ca,.slice B (Pl.L d) cb] 101)).alloc (.cells #[.bool false,.string ⟨#[]⟩,.bool false,.string ⟨#[]⟩] 43)) (w.heap.size+1) 0 [.bool false,.string ⟨#[]⟩,.bool false,.string ⟨#[]⟩]):=Lib.hid (by simp [Own,go_sem]);have HB:Hid (Below w.heap.size w ((w.alloc (.cells #[.bool s,.slice A (Pl.L n) ca,.slice B (Pl.L d) cb] 101)).alloc (.cells #[.bool false,.string ⟨#[]⟩,.bool false,.string ⟨#[]⟩] 43))):=Lib.hid (bel_alloc (bel_alloc (Below.refl _ _) _) _);clear hn hd h0 hln hld hg0 hq0;go_enter Tryz.func86,Tryz.ntmps86;go_wp2_with fail;with_reducible refine (KC.out _ (HN.out.up HB.out) (HD.out.up HB.out)).mono ?_
 rintro e w1 ⟨vg,rfl,hg,hb1⟩;have h0:=H0.out.up hb1;have h1:=H1.out.up hb1;have hB:=bel_up HB.out hb1;have hu0:=h0;simp only [Own,Nat.reduceAdd,and_true] at hu0;clear KC H0 H1 HB hb1;go_wp2_with fail;with_reducible refine (K1.out _ _ (HN.out.up hB) hg).mono ?_
 rintro e w2 ⟨vp,r1,rfl,hp,_,hb2⟩;have h0:=h0.up hb2;have h1:=h1.up hb2;have hB:=bel_up hB hb2;have hg:=hg.up hb2;clear hu0;have hu0:=h0;simp only [Own,Nat.reduceAdd,and_true] at hu0;clear hb2;go_wp2_with fail;with_reducible refine (K2.out _ _ (HD.out.up hB) hg).mono ?_
 rintro e w3 ⟨vq,r2,rfl,hq,_,hb3⟩;have h0:=h0.up hb3;have h1:=h1.up hb3;have hB:=bel_up hB hb3;have hp:=hp.up hb3;clear hu0 hg;have hu0:=h0;simp only [Own,Nat.reduceAdd,and_true] at hu0;clear hb3;have HPV:=Lib.hid hp;clear hp
 by_cases hq1:q=1
 ·subst hq1
  obtain ⟨g',o',c',rfl,_,_,_,hcell⟩:=dv_some hq (by decide);have hc0:=hcell 0 (by decide);simp only [Nat.pow_zero,Nat.div_one,Nat.add_zero,Nat.reduceMod] at hc0;rw [L_one'] at *;clear hcell hq;go_wp2_with fail;with_reducible refine (KP.out _ _ HPV.out).mono ?_
  rintro e w4 ⟨rfl,hb4⟩;have h1:=h1.up hb4;have hB:=bel_up hB hb4;go_wp2_with fail;with_reducible refine (KZ.out _ _ (dv_nil _)).mono ?_
  rintro e w5 ⟨rfl,hb5⟩;have h1:=h1.up hb5;have hB:=bel_up hB hb5;have hu1:=h1;simp only [Own,Nat.reduceAdd,and_true] at hu1;go_wp2;refine bodyPost_ret (v:=.agg #[.bool (s&&decide (p≠0)),.string (mg p),.bool false,.string (mg 0)]) (by simp [results,Tryz.results86,go_sem,hu1]) rfl ⟨by simp,?_⟩;repeat (first|with_reducible exact hB|refine Below.setCell ?_ (by first|(simp;done)|(simp;omega)|omega) _)
 ·have HQ1:=Lib.hid hq1
  obtain ⟨g',o',c',rfl,_,_,_,hcell⟩:=dv_some hq HQ0.out
  by_cases hl:Pl.L q=1
  ·have hlt:=Pl.lt_L q
   rw [hl] at hlt;have hc0:=hcell 0 (by omega);rw [Nat.pow_zero,Nat.div_one,Nat.mod_eq_of_lt (by simpa using hlt),Nat.add_zero] at hc0;rw [hl] at hq;rw [hl];have hq1':¬ (q:Int)=1:=by omega
   have HQV:=Lib.hid hq;clear hl hlt hq1;clear hcell hq;go_wp2_with fail;with_reducible refine (KP.out _ _ HPV.out).mono ?_
   rintro e w4 ⟨rfl,hb4⟩;have h1:=h1.up hb4;have hB:=bel_up hB hb4;have HQV4:=Lib.hid (HQV.out.up hb4);go_wp2_with fail;with_reducible refine (KQ.out _ _ HQV4.out).mono ?_
   rintro e w5 ⟨rfl,hb5⟩;have h1:=h1.up hb5;have hB:=bel_up hB hb5;have hu1:=h1;simp only [Own,Nat.reduceAdd,and_true] at hu1;go_wp2;refine bodyPost_ret (v:=.agg #[.bool (s&&decide (p≠0)),.string (mg p),.bool false,.string (mg q)]) (by simp [results,Tryz.results86,go_sem,hu1]) rfl ⟨by simp,?_⟩;repeat (first|with_reducible exact hB|refine Below.setCell ?_ (by first|(simp;done)|(simp;omega)|omega) _)
  ·have hl':¬ (Pl.L q:Int)=1:=by omega
   have HQV:=Lib.hid hq;clear hq1 hl;clear hcell hq;go_wp2_with fail;with_reducible refine (KP.out _ _ HPV.out).mono ?_
   rintro e w4 ⟨rfl,hb4⟩;have h1:=h1.up hb4;have hB:=bel_up hB hb4;have HQV4:=Lib.hid (HQV.out.up hb4);go_wp2_with fail;with_reducible refine (KQ.out _ _ HQV4.out).mono ?_
   rintro e w5 ⟨rfl,hb5⟩;have h1:=h1.up hb5;have hB:=bel_up hB hb5;have hu1:=h1;simp only [Own,Nat.reduceAdd,and_true] at hu1;go_wp2;refine bodyPost_ret (v:=.agg #[.bool (s&&decide (p≠0)),.string (mg p),.bool false,.string (mg q)]) (by simp [results,Tryz.results86,go_sem,hu1]) rfl ⟨by simp,?_⟩;repeat (first|with_reducible exact hB|refine Below.setCell ?_ (by first|(simp;done)|(simp;omega)|omega) _)
end Go.Proofs.YtiochgoocbkckaaGreatDoor

namespace Go.Proofs.YtiochgoocbkckaaGreatDoor
open Go Go.RowKit

set_option maxHeartbeats 1000000 in
theorem rint_nat (N:Nat) (w:World) (hN:N≤9223372036854775807) :
 Calls Tryz.prog 96 #[.int .i64 (N:Int)] w fun e w'=>e=.returned (.agg #[.bool false,.string (mg N)])∧Below w.heap.size w w':=by
 have hL:Pl.L N≤8:=L_word N (by omega);have H1:Hid (Own (w.alloc (.cells #[.bool false,.string ⟨#[]⟩] 41)) w.heap.size 0 [.bool false,.string ⟨#[]⟩]):=Lib.hid (by simp [Own,go_sem]);have HB:Hid (Below w.heap.size w (w.alloc (.cells #[.bool false,.string ⟨#[]⟩] 41))):=Lib.hid (bel_alloc (Below.refl _ _) _);have KW:=Lib.hid (fun v b W h=>rwhole_any v b N W h (by omega));go_enter Tryz.func96,Tryz.ntmps96;go_wp2_with fail;go_loopw [3,4] (fun v m wr=>∃ k:Nat,k≤Pl.L N∧m=.int .i64 ((N/256 ^ k:Nat):Int)∧wr.ownsRow (w.heap.size+1) 3 1 v k (ints (Pl.dg 256 k N))∧Below (w.heap.size+1) (w.alloc (.cells #[.bool false,.string ⟨#[]⟩] 41)) wr) (fun _ m _=>(intOf m).natAbs)
 case atStart=>exact ⟨0,Nat.zero_le _,by simp,World.ownsRow_nil _ _ _ _,Below.refl _ _⟩
 case round =>
  obtain ⟨k,hk,rfl,hown,hbl⟩:=hrel;have hsz:=hbl.size;have hsz':w.heap.size+1≤wr.heap.size:=by simpa using hsz
  have h1:=H1.out.below (by omega) hbl;have hB:Below w.heap.size w wr:=bel_up HB.out (hbl.mono (by simp));have HO:=Lib.hid hown;clear hown hsz
  by_cases hk0:k<Pl.L N
  ·have HSN:=Lib.hid (dg_snoc N k)
   have hge:256 ^ k≤N:=by
    rcases Nat.lt_or_ge N (256 ^ k) with h|h
    ·have:=(Pl.L_le_iff N k).2 h;omega
    ·exact h
   have hpos:0<N/256 ^ k:=Nat.div_pos hge (Nat.pow_pos (by omega));have hbd:N/256 ^ k≤N:=Nat.div_le_self _ _;have HN:Hid (N/256 ^ (k+1)=N/256 ^ k/256):=Lib.hid (by rw [Nat.pow_succ,Nat.div_div_eq_div_mul]);generalize N/256 ^ k=q at *;have hrl:q%256<256:=Nat.mod_lt _ (by omega);have hml:q/256<q:=Nat.div_lt_self hpos (by omega);have e1:(q:Int)%256=((q%256:Nat):Int):=(Int.natCast_emod q 256).symm;have e2:(q:Int).tmod 256=((q%256:Nat):Int):=rfl;have e3:(q:Int)/256=((q/256:Nat):Int):=(Int.natCast_ediv q 256).symm;have e4:(q:Int).tdiv 256=((q/256:Nat):Int):=rfl;generalize q%256=r at *;generalize q/256=q' at *;have p1:¬ (q:Int)=0:=by omega
   have p2:¬ ((r:Int)<0):=by omega
   clear hge hpos
   all_goals
    go_wp2_with (at_builtin;refine wpList_app1 rfl _ _ _ rfl ti_int HO.out hbl hsz' rfl rfl rfl rfl (one_int _) (by omega) (by decide) ?_)
    intro v' w1 hown' hb'
    have HO':Hid (w1.ownsRow (w.heap.size+1) 3 1 v' (k+1) (ints (Pl.dg 256 (k+1) N))):=Lib.hid (by
     rw [HSN.out,ints_snoc]
     exact hown')
    clear hown';go_wp2;go_roundw
    case rel=>exact ⟨k+1,by omega,by rw [HN.out],HO'.out,hb'⟩
    case measure=>simp only [intOf];omega
  ·have hkL:k=Pl.L N:=by omega
   have hz:N/256 ^ k=0:=Nat.div_eq_of_lt ((Pl.L_le_iff N k).1 (by omega));rw [hz];have HD:Hid (DV wr u3 N):=Lib.hid (by rw [hkL] at HO;exact Sl.of_own HO.out);clear hkL hz HO hbl;go_wp2_with fail;with_reducible refine (KW.out _ _ _ HD.out).mono ?_
   rintro e w2 ⟨rfl,hb2⟩;have h1:=h1.up hb2;have hB:=bel_up hB hb2;have hu1:=h1;simp only [Own,Nat.reduceAdd,and_true] at hu1;go_wp2;refine bodyPost_ret (v:=.agg #[.bool _,.string (mg N)]) (by simp [results,Tryz.results96,go_sem,hu1];rfl) rfl ⟨?_,?_⟩
   ·simp;omega
   ·repeat (first|with_reducible exact hB|refine Below.setCell ?_ (by first|(simp;done)|(simp;omega)|omega) _)

set_option maxHeartbeats 1000000 in
theorem rint_neg (N:Nat) (w:World) (hN:N≤9223372036854775808) (h0:N≠0) :
 Calls Tryz.prog 96 #[.int .i64 (-(N:Int))] w fun e w'=>e=.returned (.agg #[.bool true,.string (mg N)])∧Below w.heap.size w w':=by
 have hL:Pl.L N≤8:=L_word N (by omega);have H1:Hid (Own (w.alloc (.cells #[.bool false,.string ⟨#[]⟩] 41)) w.heap.size 0 [.bool false,.string ⟨#[]⟩]):=Lib.hid (by simp [Own,go_sem]);have HB:Hid (Below w.heap.size w (w.alloc (.cells #[.bool false,.string ⟨#[]⟩] 41))):=Lib.hid (bel_alloc (Below.refl _ _) _);have KW:=Lib.hid (fun v b W h=>rwhole_any v b N W h (by omega));go_enter Tryz.func96,Tryz.ntmps96;go_wp2_with fail;go_loopw [3,4] (fun v m wr=>∃ k:Nat,k≤Pl.L N∧m=.int .i64 (-((N/256 ^ k:Nat):Int))∧wr.ownsRow (w.heap.size+1) 3 1 v k (ints (Pl.dg 256 k N))∧Below (w.heap.size+1) (w.alloc (.cells #[.bool false,.string ⟨#[]⟩] 41)) wr) (fun _ m _=>(intOf m).natAbs)
 case atStart=>exact ⟨0,Nat.zero_le _,by simp,World.ownsRow_nil _ _ _ _,Below.refl _ _⟩
 case round =>
  obtain ⟨k,hk,rfl,hown,hbl⟩:=hrel;have hsz:=hbl.size;have hsz':w.heap.size+1≤wr.heap.size:=by simpa using hsz
  have h1:=H1.out.below (by omega) hbl;have hB:Below w.heap.size w wr:=bel_up HB.out (hbl.mono (by simp));have HO:=Lib.hid hown;clear hown hsz
  by_cases hk0:k<Pl.L N
  ·have HSN:=Lib.hid (dg_snoc N k)
   have hge:256 ^ k≤N:=by
    rcases Nat.lt_or_ge N (256 ^ k) with h|h
    ·have:=(Pl.L_le_iff N k).2 h;omega
    ·exact h
   have hpos:0<N/256 ^ k:=Nat.div_pos hge (Nat.pow_pos (by omega));have hbd:N/256 ^ k≤N:=Nat.div_le_self _ _;have HN:Hid (N/256 ^ (k+1)=N/256 ^ k/256):=Lib.hid (by rw [Nat.pow_succ,Nat.div_div_eq_div_mul]);generalize N/256 ^ k=q at *;have hrl:q%256<256:=Nat.mod_lt _ (by omega);have hml:q/256<q:=Nat.div_lt_self hpos (by omega);have e2:(-(q:Int)).tmod 256=-((q%256:Nat):Int):=by rw [Int.neg_tmod];rfl
   have e2b:(q:Int).tmod 256=((q%256:Nat):Int):=rfl;have e4:(-(q:Int)).tdiv 256=-((q/256:Nat):Int):=by rw [Int.neg_tdiv];rfl
   have e4b:(q:Int).tdiv 256=((q/256:Nat):Int):=rfl;generalize q%256=r at *;generalize q/256=q' at *;have p1:¬ (q:Int)=0:=by omega
   clear hge hpos;rcases (show r=0∨(0:Int)<r by omega) with rfl|hr1
   all_goals
    go_wp2_with (at_builtin;refine wpList_app1 rfl _ _ _ rfl ti_int HO.out hbl hsz' rfl rfl rfl rfl (one_int _) (by omega) (by decide) ?_)
    intro v' w1 hown' hb'
    have HO':Hid (w1.ownsRow (w.heap.size+1) 3 1 v' (k+1) (ints (Pl.dg 256 (k+1) N))):=Lib.hid (by
     rw [HSN.out,ints_snoc]
     exact hown')
    clear hown';go_wp2;go_roundw
    case rel=>exact ⟨k+1,by omega,by rw [HN.out],HO'.out,hb'⟩
    case measure=>simp only [intOf];omega
  ·have hkL:k=Pl.L N:=by omega
   have hz:N/256 ^ k=0:=Nat.div_eq_of_lt ((Pl.L_le_iff N k).1 (by omega));rw [hz];have HD:Hid (DV wr u3 N):=Lib.hid (by rw [hkL] at HO;exact Sl.of_own HO.out);clear hkL hz HO hbl;go_wp2_with fail;with_reducible refine (KW.out _ _ _ HD.out).mono ?_
   rintro e w2 ⟨rfl,hb2⟩;have h1:=h1.up hb2;have hB:=bel_up hB hb2;have hu1:=h1;simp only [Own,Nat.reduceAdd,and_true] at hu1;go_wp2;refine bodyPost_ret (v:=.agg #[.bool _,.string (mg N)]) (by simp [results,Tryz.results96,go_sem,hu1];rfl) rfl ⟨?_,?_⟩
   ·simp;omega
   ·repeat (first|with_reducible exact hB|refine Below.setCell ?_ (by first|(simp;done)|(simp;omega)|omega) _)

end Go.Proofs.YtiochgoocbkckaaGreatDoor

namespace Go.Proofs.YtiochgoocbkckaaGreatDoor
open Go Go.RowKit

set_option maxHeartbeats 2000000 in
theorem rmake_any (s1 s2:Bool) (n d:Nat) (w:World) (h0:d≠0) (hn:Pl.L n≤67108000) (hd:Pl.L d≤67108000) :
 Calls Tryz.prog 95 #[.agg #[.bool s1,.string (mg n)],.agg #[.bool s2,.string (mg d)]] w fun e w'=>e=.returned (qv (mkRat (sgnZ (!(s1==s2)) n) d))∧Below w.heap.size w w':=by
 have K1:=Lib.hid (fun W=>rdigits_any s1 n W (by omega));have K2:=Lib.hid (fun W=>rdigits_any s2 d W (by omega));have kc:=fun v1 v2 W h1 h2=>rcanon_any (!(s1==s2)) v1 v2 n d W h1 h2 h0 hn hd
 obtain ⟨rb,rt,ru,hres⟩:∃ b t u,qv (mkRat (sgnZ (!(s1==s2)) n) d)=.agg #[.bool b,.string t,.bool false,.string u]:=⟨_,_,_,rfl⟩
 rw [hres];simp only [hres] at kc;have KC:=Lib.hid kc;clear kc hres h0 hn hd;go_enter Tryz.func95,Tryz.ntmps95;go_wp2_with fail;refine wp_named ?_;intro Wx hWx;have hx0:Own Wx w.heap.size 0 [.bool s1,.string (mg n)]:=by rw [hWx];simp [Own,go_sem]
 have hx1:Own Wx (w.heap.size+1) 0 [.bool s2,.string (mg d)]:=by rw [hWx];simp [Own,go_sem]
 have hx2:Own Wx (w.heap.size+2) 0 [.bool false,.string ⟨#[]⟩,.bool false,.string ⟨#[]⟩]:=by rw [hWx];simp [Own,go_sem]
 have hBx:Below w.heap.size w Wx:=by rw [hWx];exact bel_alloc (bel_alloc (bel_alloc (Below.refl _ _) _) _) _
 clear hWx;have hu:=And.intro hx0 hx1;simp only [Own,Nat.reduceAdd,and_true] at hu;obtain ⟨⟨⟨_,_⟩,_,_⟩,⟨_,_⟩,_,_⟩:=hu
 go_region_held3 (fun w'=>w'.cell? ⟨w.heap.size,0,none⟩=some (.bool s1)∧w'.cell? ⟨w.heap.size,1,none⟩=some (.string (mg n))∧w'.cell? ⟨w.heap.size+1,0,none⟩=some (.bool s2)∧w'.cell? ⟨w.heap.size+1,1,none⟩=some (.string (mg d))) ((repeat' apply And.intro)<;>(first|with_reducible assumption|go_keep|(simp [go_sem, *];done))) (first
  | (go_at_call 108;with_reducible refine (K1.out _).mono ?_;rintro e v1 ⟨vn,rfl,hvn,hbn⟩;obtain ⟨An,cn,rfl⟩:=dv_form hvn;(first|(have hz0:=hy0.up hbn;have hz1:=hy1.up hbn;have hz2:=hy2.up hbn;have hzu:=And.intro hz0 hz1;simp only [Own,Nat.reduceAdd,and_true] at hzu;obtain ⟨⟨⟨_,_⟩,_,_⟩,⟨_,_⟩,_,_⟩:=hzu)|(have hy0:=hx0.drew.up hbn;have hy1:=hx1.drew.up hbn;have hy2:=hx2.drew.up hbn;have hyu:=And.intro hy0 hy1;simp only [Own,Nat.reduceAdd,and_true] at hyu;obtain ⟨⟨⟨_,_⟩,_,_⟩,⟨_,_⟩,_,_⟩:=hyu)))
  | (go_at_call 108;with_reducible refine (K2.out _).mono ?_;rintro e v2 ⟨vd,rfl,hvd,hbd⟩;obtain ⟨Ad,cd,rfl⟩:=dv_form hvd;(first|(have hz0:=hy0.up hbd;have hz1:=hy1.up hbd;have hz2:=hy2.up hbd;have hzu:=And.intro hz0 hz1;simp only [Own,Nat.reduceAdd,and_true] at hzu;obtain ⟨⟨⟨_,_⟩,_,_⟩,⟨_,_⟩,_,_⟩:=hzu)|(have hy0:=hx0.drew.up hbd;have hy1:=hx1.drew.up hbd;have hy2:=hx2.drew.up hbd;have hyu:=And.intro hy0 hy1;simp only [Own,Nat.reduceAdd,and_true] at hyu;obtain ⟨⟨⟨_,_⟩,_,_⟩,⟨_,_⟩,_,_⟩:=hyu)))
  | (go_at_call 86;with_reducible refine (KC.out _ _ _ (by first|with_reducible exact hvn|with_reducible exact hvn.up hbd) (by first|with_reducible exact hvd|with_reducible exact hvd.up hbn)).mono ?_;rintro e v3 ⟨rfl,hbc⟩;have hc2:=hz2.up hbc;have hcu:=And.intro (hz0.up hbc) (hz1.up hbc);simp only [Own,Nat.reduceAdd,and_true] at hc2 hcu;obtain ⟨⟨⟨_,_⟩,_,_⟩,⟨_,_⟩,_,_⟩:=hcu))
 all_goals
  go_wp2;refine bodyPost_ret (v:=.agg #[.bool rb,.string rt,.bool false,.string ru]) (by simp [results,Tryz.results95,go_sem,hc2]) rfl ⟨rfl,?_⟩;repeat (first|with_reducible exact bel_up (bel_up (bel_up hBx.drew hbn) hbd) hbc|with_reducible exact bel_up (bel_up (bel_up hBx.drew hbd) hbn) hbc|refine Below.setCell ?_ (by first|(simp;done)|(simp;omega)|omega) _)
end Go.Proofs.YtiochgoocbkckaaGreatDoor
