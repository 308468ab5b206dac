/-
  Contracts of the reference for fractions: Div.
  Contracts of the reference for fractions: Add.
  Contracts of the reference for fractions: sums, products, quotients, of fractions; integers. Contracts of the reference for fractions: negatives, signs, differences, comparisons, fractions of machine integers.
-/
import Derived.Test.YtdkkjfnpinckjaaGreatDoorYR15
import Derived.Deep.DeepCutAuto
import Derived.Test.YtdkkjfnpinckjaaGreatDoorYQ3
import Derived.Deep.RegionHeld3
set_option linter.unusedSimpArgs false
set_option linter.unusedVariables false
set_option maxRecDepth 100000
namespace Go.Proofs.YtdkkjfnpinckjaaGreatDoor
open Go Go.RowKit

set_option maxHeartbeats 20000000 in
theorem rdiv_raw (s1 s2:Bool) (n1 m1 n2 m2:Nat) (w:World) (ha:Pl.L n1≤16777216) (hb:Pl.L m1≤16777216) (hc:Pl.L n2≤16777216) (hd:Pl.L m2≤16777216) (hz:n2≠0) :
 Calls Tryz.prog 42 #[.agg #[.bool s1,.string (mg n1),.bool false,.string (mg m1)],.agg #[.bool s2,.string (mg n2),.bool false,.string (mg m2)]] w fun e w'=>e=.returned (qv (mkRat (sgnZ (!(s1==s2)) (n1*(if m2=0 then 1 else m2))) ((if m1=0 then 1 else m1)*n2)))∧Below w.heap.size w w':=by
 have K1:=Lib.hid (fun W=>rof_any s1 n1 m1 W (by omega) (by omega));have K2:=Lib.hid (fun W=>rof_any s2 n2 m2 W (by omega) (by omega));have hd10:(if m1=0 then 1 else m1)≠0:=by split<;>omega
 have hd20:(if m2=0 then 1 else m2)≠0:=by split<;>omega
 have hd11:Pl.L (if m1=0 then 1 else m1)≤16777216:=by split;(decide);exact hb
 have hd21:Pl.L (if m2=0 then 1 else m2)≤16777216:=by split;(decide);exact hd
 generalize (if m1=0 then 1 else m1)=d1 at *;generalize (if m2=0 then 1 else m2)=d2 at *;have kc:=fun v1 v2 W h1 h2=>rcanon_any (!(s1==s2)) v1 v2 (n1*d2) (d1*n2) W h1 h2 (Nat.mul_ne_zero hd10 hz) (by have:=Pl.L_mul n1 d2;omega) (by have:=Pl.L_mul d1 n2;omega)
 obtain ⟨rb,rt,ru,hres⟩:∃ b t u,qv (mkRat (sgnZ (!(s1==s2)) (n1*d2)) (d1*n2))=.agg #[.bool b,.string t,.bool false,.string u]:=⟨_,_,_,rfl⟩
 rw [hres];simp only [hres] at kc;have KC:=Lib.hid kc;clear kc hres hd10 hd20;go_enter Tryz.func42,Tryz.ntmps42;go_upto_region 1 with fail
 refine wp_named ?_;intro Wx hWx;have hx0:Own Wx w.heap.size 0 [.bool s1,.string (mg n1),.bool false,.string (mg m1)]:=by rw [hWx];simp [Own,go_sem]
 have hx1:Own Wx (w.heap.size+1) 0 [.bool s2,.string (mg n2),.bool false,.string (mg m2)]:=by rw [hWx];simp [Own,go_sem]
 have hx2:Own Wx (w.heap.size+2) 0 [.bool false,.string ⟨#[]⟩,.bool false,.string ⟨#[]⟩]:=by rw [hWx];simp [Own,go_sem]
 have hBx:Below w.heap.size w Wx:=by rw [hWx];exact bel_alloc (bel_alloc (bel_alloc (Below.refl _ _) _) _) _
 have hsz:w.heap.size+3≤Wx.heap.size:=by rw [hWx];simp
 clear hWx;go_cut [5,6] (fun x y wx=>∃ b5 b6 A1 a1 B1 c1 A2 a2 B2 c2,x=.pointer (some ⟨b5,0,none⟩)∧y=.pointer (some ⟨b6,0,none⟩)∧b5≠w.heap.size+2∧b6≠w.heap.size+2∧Own wx b5 0 [.bool s1,.slice A1 (Pl.L n1) a1,.slice B1 (Pl.L d1) c1]∧Own wx b6 0 [.bool s2,.slice A2 (Pl.L n2) a2,.slice B2 (Pl.L d2) c2]∧DV wx (.slice A1 (Pl.L n1) a1) n1∧DV wx (.slice B1 (Pl.L d1) c1) d1∧DV wx (.slice A2 (Pl.L n2) a2) n2∧DV wx (.slice B2 (Pl.L d2) c2) d2∧Own wx (w.heap.size+2) 0 [.bool false,.string ⟨#[]⟩,.bool false,.string ⟨#[]⟩]∧Below w.heap.size w wx)
 case first =>
  have hu:=hold8 hx0 hx1
  go_region_held3 (fun w'=>w'.cell? ⟨w.heap.size,0,none⟩=some (.bool s1)∧w'.cell? ⟨w.heap.size,1,none⟩=some (.string (mg n1))∧w'.cell? ⟨w.heap.size,2,none⟩=some (.bool false)∧w'.cell? ⟨w.heap.size,3,none⟩=some (.string (mg m1))∧w'.cell? ⟨w.heap.size+1,0,none⟩=some (.bool s2)∧w'.cell? ⟨w.heap.size+1,1,none⟩=some (.string (mg n2))∧w'.cell? ⟨w.heap.size+1,2,none⟩=some (.bool false)∧w'.cell? ⟨w.heap.size+1,3,none⟩=some (.string (mg m2))) (refine hold8 ?_ ?_<;>(exact ow)) (first
   | (go_at_call 69;with_reducible refine (K1.out _).mono ?_;rintro e v1 ⟨vn1,vd1,rfl,hn1,hd1,hb1⟩;obtain ⟨A1,a1,rfl⟩:=dv_form hn1;obtain ⟨B1,c1,rfl⟩:=dv_form hd1;refine (have p2:Own v1 (w.heap.size+2) 0 [.bool false,.string ⟨#[]⟩,.bool false,.string ⟨#[]⟩] := ?_;?_);(focus (exact ow));have p3:w.heap.size+2<v1.heap.size:=p2.lt;(try (refine (have q:Own v1 (Wx.heap.size) 0 [.bool false,.slice none 0 0,.slice none 0 0] := ?_;?_);(focus ((exact ow);(fail_if_success (focus skip))));have ql:Wx.heap.size<v1.heap.size:=q.lt;refine (have qm:Wx.heap.size≠v1.heap.size := ?_;?_);(focus omega);refine (have qn:Wx.heap.size≠v1.heap.size+1 := ?_;?_);(focus omega);simp only [Own,Nat.reduceAdd,and_true] at q;obtain ⟨⟨_,_⟩,⟨_,_⟩,_,_⟩:=q));(try (refine (have q:Own v1 (Wx.heap.size+1) 0 [.bool false,.slice none 0 0,.slice none 0 0] := ?_;?_);(focus ((exact ow);(fail_if_success (focus skip))));have ql:Wx.heap.size+1<v1.heap.size:=q.lt;refine (have qm:Wx.heap.size+1≠v1.heap.size := ?_;?_);(focus omega);refine (have qn:Wx.heap.size+1≠v1.heap.size+1 := ?_;?_);(focus omega);simp only [Own,Nat.reduceAdd,and_true] at q;obtain ⟨⟨_,_⟩,⟨_,_⟩,_,_⟩:=q));(try (refine (have q:Own v1 v2.heap.size 0 [.bool false,.slice none 0 0,.slice none 0 0] := ?_;?_);(focus ((exact ow);(fail_if_success (focus skip))));have ql:v2.heap.size<v1.heap.size:=q.lt;refine (have qm:v2.heap.size≠v1.heap.size := ?_;?_);(focus omega);refine (have qn:v2.heap.size≠v1.heap.size+1 := ?_;?_);(focus omega);simp only [Own,Nat.reduceAdd,and_true] at q;obtain ⟨⟨_,_⟩,⟨_,_⟩,_,_⟩:=q));(try (refine (have q:Own v1 (v2.heap.size+1) 0 [.bool false,.slice none 0 0,.slice none 0 0] := ?_;?_);(focus ((exact ow);(fail_if_success (focus skip))));have ql:v2.heap.size+1<v1.heap.size:=q.lt;refine (have qm:v2.heap.size+1≠v1.heap.size := ?_;?_);(focus omega);refine (have qn:v2.heap.size+1≠v1.heap.size+1 := ?_;?_);(focus omega);simp only [Own,Nat.reduceAdd,and_true] at q;obtain ⟨⟨_,_⟩,⟨_,_⟩,_,_⟩:=q)))
   | (go_at_call 69;with_reducible refine (K2.out _).mono ?_;rintro e v2 ⟨vn2,vd2,rfl,hn2,hd2,hb2⟩;obtain ⟨A2,a2,rfl⟩:=dv_form hn2;obtain ⟨B2,c2,rfl⟩:=dv_form hd2;refine (have p2:Own v2 (w.heap.size+2) 0 [.bool false,.string ⟨#[]⟩,.bool false,.string ⟨#[]⟩] := ?_;?_);(focus (exact ow));have p3:w.heap.size+2<v2.heap.size:=p2.lt;(try (refine (have q:Own v2 (Wx.heap.size) 0 [.bool false,.slice none 0 0,.slice none 0 0] := ?_;?_);(focus ((exact ow);(fail_if_success (focus skip))));have ql:Wx.heap.size<v2.heap.size:=q.lt;refine (have qm:Wx.heap.size≠v2.heap.size := ?_;?_);(focus omega);refine (have qn:Wx.heap.size≠v2.heap.size+1 := ?_;?_);(focus omega);simp only [Own,Nat.reduceAdd,and_true] at q;obtain ⟨⟨_,_⟩,⟨_,_⟩,_,_⟩:=q));(try (refine (have q:Own v2 (Wx.heap.size+1) 0 [.bool false,.slice none 0 0,.slice none 0 0] := ?_;?_);(focus ((exact ow);(fail_if_success (focus skip))));have ql:Wx.heap.size+1<v2.heap.size:=q.lt;refine (have qm:Wx.heap.size+1≠v2.heap.size := ?_;?_);(focus omega);refine (have qn:Wx.heap.size+1≠v2.heap.size+1 := ?_;?_);(focus omega);simp only [Own,Nat.reduceAdd,and_true] at q;obtain ⟨⟨_,_⟩,⟨_,_⟩,_,_⟩:=q));(try (refine (have q:Own v2 v1.heap.size 0 [.bool false,.slice none 0 0,.slice none 0 0] := ?_;?_);(focus ((exact ow);(fail_if_success (focus skip))));have ql:v1.heap.size<v2.heap.size:=q.lt;refine (have qm:v1.heap.size≠v2.heap.size := ?_;?_);(focus omega);refine (have qn:v1.heap.size≠v2.heap.size+1 := ?_;?_);(focus omega);simp only [Own,Nat.reduceAdd,and_true] at q;obtain ⟨⟨_,_⟩,⟨_,_⟩,_,_⟩:=q));(try (refine (have q:Own v2 (v1.heap.size+1) 0 [.bool false,.slice none 0 0,.slice none 0 0] := ?_;?_);(focus ((exact ow);(fail_if_success (focus skip))));have ql:v1.heap.size+1<v2.heap.size:=q.lt;refine (have qm:v1.heap.size+1≠v2.heap.size := ?_;?_);(focus omega);refine (have qn:v1.heap.size+1≠v2.heap.size+1 := ?_;?_);(focus omega);simp only [Own,Nat.reduceAdd,and_true] at q;obtain ⟨⟨_,_⟩,⟨_,_⟩,_,_⟩:=q))))
  all_goals
   go_wp2_with fail;go_meet;refine ⟨_,_,A1,a1,B1,c1,A2,a2,B2,c2,rfl,rfl,by omega,by omega,?_,?_,?_,?_,?_,?_,?_,?_⟩
   ·(exact ow)
   ·(exact ow)
   ·refine hn1.ik ?_
    (exact oik)
   ·refine hd1.ik ?_
    (exact oik)
   ·refine hn2.ik ?_
    (exact oik)
   ·refine hd2.ik ?_
    (exact oik)
   ·(exact ow)
   ·(repeat (first|with_reducible exact hBx.drew|with_reducible exact hBx|(focus (with_reducible refine Below.setCell ?_ ?_ _;rotate_left;focus (first|omega|(simp;(fail_if_success (focus skip)))|(simp;omega))))|with_reducible refine bel_alloc ?_ _|with_reducible refine Below.drew ?_|with_reducible refine bel_up ?_ (by with_reducible assumption)|fail))
 case rest =>
  obtain ⟨b5,b6,A1,a1,B1,c1,A2,a2,B2,c2,rfl,rfl,hn5,hn6,h5,h6,dn1,dd1,dn2,dd2,hr,hB⟩:=hcut;have KT:=Lib.hid (fun W h1 h2=>rtimes_any (.slice A1 (Pl.L n1) a1) (.slice B2 (Pl.L d2) c2) n1 d2 W h1 h2 (by omega) (by omega));have KD:=Lib.hid (fun W h1 h2=>rtimes_any (.slice B1 (Pl.L d1) c1) (.slice A2 (Pl.L n2) a2) d1 n2 W h1 h2 (by omega) (by omega));have hu:=hold6 h5 h6;go_upto_region 2 with fail
  go_region_held3 (fun w'=>w'.cell? ⟨b5,0,none⟩=some (.bool s1)∧w'.cell? ⟨b5,1,none⟩=some (.slice A1 (Pl.L n1) a1)∧w'.cell? ⟨b5,2,none⟩=some (.slice B1 (Pl.L d1) c1)∧w'.cell? ⟨b6,0,none⟩=some (.bool s2)∧w'.cell? ⟨b6,1,none⟩=some (.slice A2 (Pl.L n2) a2)∧w'.cell? ⟨b6,2,none⟩=some (.slice B2 (Pl.L d2) c2)) (refine hold6 ?_ ?_<;>(exact ow)) (first
   | (go_at_call 70;with_reducible refine (KT.out _ (by first|with_reducible exact dn1.drew|with_reducible exact dn1.drew.up hb1|with_reducible exact dn1.drew.up hb2) (by first|with_reducible exact dd2.drew|with_reducible exact dd2.drew.up hb1|with_reducible exact dd2.drew.up hb2)).mono ?_;rintro e v1 ⟨vp,rfl,hp,hb1⟩;obtain ⟨Ap,ap,rfl⟩:=dv_form hp)
   | (go_at_call 70;with_reducible refine (KD.out _ (by first|with_reducible exact dd1.drew|with_reducible exact dd1.drew.up hb1|with_reducible exact dd1.drew.up hb2) (by first|with_reducible exact dn2.drew|with_reducible exact dn2.drew.up hb1|with_reducible exact dn2.drew.up hb2)).mono ?_;rintro e v2 ⟨vq,rfl,hq,hb2⟩;obtain ⟨Aq,aq,rfl⟩:=dv_form hq)
   | (go_at_call 71;with_reducible refine (KC.out _ _ _ (by first|with_reducible exact hp|with_reducible exact hp.up hb2) (by first|with_reducible exact hq|with_reducible exact hq.up hb1)).mono ?_;rintro e v3 ⟨rfl,hb3⟩;refine (have r3:Own v3 (w.heap.size+2) 0 [.bool false,.string ⟨#[]⟩,.bool false,.string ⟨#[]⟩] := ?_;?_);(focus (exact ow));simp only [Own,Nat.reduceAdd,and_true] at r3))
  all_goals
   go_wp2;refine bodyPost_ret (v:=.agg #[.bool rb,.string rt,.bool false,.string ru]) (by simp [results,Tryz.results42,go_sem,r3]) rfl ⟨rfl,?_⟩;repeat (first|with_reducible exact bel_up (bel_up (bel_up hB.drew hb1) hb2) hb3|with_reducible exact bel_up (bel_up (bel_up hB.drew hb2) hb1) hb3|refine Below.setCell ?_ (by first|(simp;done)|(simp;omega)|omega) _)

end Go.Proofs.YtdkkjfnpinckjaaGreatDoor
set_option maxRecDepth 100000
namespace Go.Proofs.YtdkkjfnpinckjaaGreatDoor
open Go Go.RowKit

theorem hold1 {w:World} {b:Nat} {x0 x1 x2:Value} (h:Own w b 0 [x0,x1,x2]):w.cell? ⟨b,0,none⟩=some x0:=h.1.1
set_option maxHeartbeats 20000000 in
theorem radd_raw (s1 s2:Bool) (n1 m1 n2 m2:Nat) (w:World) (ha:Pl.L n1≤16777216) (hb:Pl.L m1≤16777216) (hc:Pl.L n2≤16777216) (hd:Pl.L m2≤16777216) :
 Calls Tryz.prog 29 #[.agg #[.bool s1,.string (mg n1),.bool false,.string (mg m1)],.agg #[.bool s2,.string (mg n2),.bool false,.string (mg m2)]] w fun e w'=>e=.returned (qv (mkRat (sgnZ s1 (n1*(if m2=0 then 1 else m2))+sgnZ s2 (n2*(if m1=0 then 1 else m1))) ((if m1=0 then 1 else m1)*(if m2=0 then 1 else m2))))∧Below w.heap.size w w':=by
 have K1:=Lib.hid (fun W=>rof_any s1 n1 m1 W (by omega) (by omega));have K2:=Lib.hid (fun W=>rof_any s2 n2 m2 W (by omega) (by omega));have hd10:(if m1=0 then 1 else m1)≠0:=by split<;>omega
 have hd20:(if m2=0 then 1 else m2)≠0:=by split<;>omega
 have hd11:Pl.L (if m1=0 then 1 else m1)≤16777216:=by split;(decide);exact hb
 have hd21:Pl.L (if m2=0 then 1 else m2)≤16777216:=by split;(decide);exact hd
 generalize (if m1=0 then 1 else m1)=d1 at *;generalize (if m2=0 then 1 else m2)=d2 at *;have kc:=fun (s:Bool) (m:Nat) v1 v2 W (hm:sgnZ s m=sgnZ s1 (n1*d2)+sgnZ s2 (n2*d1)) (hl:Pl.L m≤67108000) h1 h2=>hm▸rcanon_any s v1 v2 m (d1*d2) W h1 h2 (Nat.mul_ne_zero hd10 hd20) hl (by have:=Pl.L_mul d1 d2;omega)
 obtain ⟨rb,rt,ru,hres⟩:∃ b t u,qv (mkRat (sgnZ s1 (n1*d2)+sgnZ s2 (n2*d1)) (d1*d2))=.agg #[.bool b,.string t,.bool false,.string u]:=⟨_,_,_,rfl⟩
 rw [hres];simp only [hres] at kc;have KC:=Lib.hid kc;have hLP:Pl.L (n1*d2)≤33554432:=by have:=Pl.L_mul n1 d2;omega
 have hLQ:Pl.L (n2*d1)≤33554432:=by have:=Pl.L_mul n2 d1;omega
 clear kc hres hd10 hd20;go_enter Tryz.func29,Tryz.ntmps29;go_upto_region 1 with fail
 refine wp_named ?_;intro Wx hWx;have hx0:Own Wx w.heap.size 0 [.bool s1,.string (mg n1),.bool false,.string (mg m1)]:=by rw [hWx];simp [Own,go_sem]
 have hx1:Own Wx (w.heap.size+1) 0 [.bool s2,.string (mg n2),.bool false,.string (mg m2)]:=by rw [hWx];simp [Own,go_sem]
 have hx2:Own Wx (w.heap.size+2) 0 [.bool false,.string ⟨#[]⟩,.bool false,.string ⟨#[]⟩]:=by rw [hWx];simp [Own,go_sem]
 have hBx:Below w.heap.size w Wx:=by rw [hWx];exact bel_alloc (bel_alloc (bel_alloc (Below.refl _ _) _) _) _
 have hsz:w.heap.size+3≤Wx.heap.size:=by rw [hWx];simp
 clear hWx;go_cut [5,6] (fun x y wx=>∃ b5 b6 A1 a1 B1 c1 A2 a2 B2 c2,x=.pointer (some ⟨b5,0,none⟩)∧y=.pointer (some ⟨b6,0,none⟩)∧b5≠w.heap.size+2∧b6≠w.heap.size+2∧Own wx b5 0 [.bool s1,.slice A1 (Pl.L n1) a1,.slice B1 (Pl.L d1) c1]∧Own wx b6 0 [.bool s2,.slice A2 (Pl.L n2) a2,.slice B2 (Pl.L d2) c2]∧DV wx (.slice A1 (Pl.L n1) a1) n1∧DV wx (.slice B1 (Pl.L d1) c1) d1∧DV wx (.slice A2 (Pl.L n2) a2) n2∧DV wx (.slice B2 (Pl.L d2) c2) d2∧Own wx (w.heap.size+2) 0 [.bool false,.string ⟨#[]⟩,.bool false,.string ⟨#[]⟩]∧Below w.heap.size w wx)
 case first =>
  have hu:=hold8 hx0 hx1
  go_region_held3 (fun w'=>w'.cell? ⟨w.heap.size,0,none⟩=some (.bool s1)∧w'.cell? ⟨w.heap.size,1,none⟩=some (.string (mg n1))∧w'.cell? ⟨w.heap.size,2,none⟩=some (.bool false)∧w'.cell? ⟨w.heap.size,3,none⟩=some (.string (mg m1))∧w'.cell? ⟨w.heap.size+1,0,none⟩=some (.bool s2)∧w'.cell? ⟨w.heap.size+1,1,none⟩=some (.string (mg n2))∧w'.cell? ⟨w.heap.size+1,2,none⟩=some (.bool false)∧w'.cell? ⟨w.heap.size+1,3,none⟩=some (.string (mg m2))) (refine hold8 ?_ ?_<;>(exact ow)) (first
   | (go_at_call 69;with_reducible refine (K1.out _).mono ?_;rintro e v1 ⟨vn1,vd1,rfl,hn1,hd1,hb1⟩;obtain ⟨A1,a1,rfl⟩:=dv_form hn1;obtain ⟨B1,c1,rfl⟩:=dv_form hd1;refine (have p2:Own v1 (w.heap.size+2) 0 [.bool false,.string ⟨#[]⟩,.bool false,.string ⟨#[]⟩] := ?_;?_);(focus (exact ow));have p3:w.heap.size+2<v1.heap.size:=p2.lt;(try (refine (have q:Own v1 (Wx.heap.size) 0 [.bool false,.slice none 0 0,.slice none 0 0] := ?_;?_);(focus ((exact ow);(fail_if_success (focus skip))));have ql:Wx.heap.size<v1.heap.size:=q.lt;refine (have qm:Wx.heap.size≠v1.heap.size := ?_;?_);(focus omega);refine (have qn:Wx.heap.size≠v1.heap.size+1 := ?_;?_);(focus omega);simp only [Own,Nat.reduceAdd,and_true] at q;obtain ⟨⟨_,_⟩,⟨_,_⟩,_,_⟩:=q));(try (refine (have q:Own v1 (Wx.heap.size+1) 0 [.bool false,.slice none 0 0,.slice none 0 0] := ?_;?_);(focus ((exact ow);(fail_if_success (focus skip))));have ql:Wx.heap.size+1<v1.heap.size:=q.lt;refine (have qm:Wx.heap.size+1≠v1.heap.size := ?_;?_);(focus omega);refine (have qn:Wx.heap.size+1≠v1.heap.size+1 := ?_;?_);(focus omega);simp only [Own,Nat.reduceAdd,and_true] at q;obtain ⟨⟨_,_⟩,⟨_,_⟩,_,_⟩:=q));(try (refine (have q:Own v1 v2.heap.size 0 [.bool false,.slice none 0 0,.slice none 0 0] := ?_;?_);(focus ((exact ow);(fail_if_success (focus skip))));have ql:v2.heap.size<v1.heap.size:=q.lt;refine (have qm:v2.heap.size≠v1.heap.size := ?_;?_);(focus omega);refine (have qn:v2.heap.size≠v1.heap.size+1 := ?_;?_);(focus omega);simp only [Own,Nat.reduceAdd,and_true] at q;obtain ⟨⟨_,_⟩,⟨_,_⟩,_,_⟩:=q));(try (refine (have q:Own v1 (v2.heap.size+1) 0 [.bool false,.slice none 0 0,.slice none 0 0] := ?_;?_);(focus ((exact ow);(fail_if_success (focus skip))));have ql:v2.heap.size+1<v1.heap.size:=q.lt;refine (have qm:v2.heap.size+1≠v1.heap.size := ?_;?_);(focus omega);refine (have qn:v2.heap.size+1≠v1.heap.size+1 := ?_;?_);(focus omega);simp only [Own,Nat.reduceAdd,and_true] at q;obtain ⟨⟨_,_⟩,⟨_,_⟩,_,_⟩:=q)))
   | (go_at_call 69;with_reducible refine (K2.out _).mono ?_;rintro e v2 ⟨vn2,vd2,rfl,hn2,hd2,hb2⟩;obtain ⟨A2,a2,rfl⟩:=dv_form hn2;obtain ⟨B2,c2,rfl⟩:=dv_form hd2;refine (have p2:Own v2 (w.heap.size+2) 0 [.bool false,.string ⟨#[]⟩,.bool false,.string ⟨#[]⟩] := ?_;?_);(focus (exact ow));have p3:w.heap.size+2<v2.heap.size:=p2.lt;(try (refine (have q:Own v2 (Wx.heap.size) 0 [.bool false,.slice none 0 0,.slice none 0 0] := ?_;?_);(focus ((exact ow);(fail_if_success (focus skip))));have ql:Wx.heap.size<v2.heap.size:=q.lt;refine (have qm:Wx.heap.size≠v2.heap.size := ?_;?_);(focus omega);refine (have qn:Wx.heap.size≠v2.heap.size+1 := ?_;?_);(focus omega);simp only [Own,Nat.reduceAdd,and_true] at q;obtain ⟨⟨_,_⟩,⟨_,_⟩,_,_⟩:=q));(try (refine (have q:Own v2 (Wx.heap.size+1) 0 [.bool false,.slice none 0 0,.slice none 0 0] := ?_;?_);(focus ((exact ow);(fail_if_success (focus skip))));have ql:Wx.heap.size+1<v2.heap.size:=q.lt;refine (have qm:Wx.heap.size+1≠v2.heap.size := ?_;?_);(focus omega);refine (have qn:Wx.heap.size+1≠v2.heap.size+1 := ?_;?_);(focus omega);simp only [Own,Nat.reduceAdd,and_true] at q;obtain ⟨⟨_,_⟩,⟨_,_⟩,_,_⟩:=q));(try (refine (have q:Own v2 v1.heap.size 0 [.bool false,.slice none 0 0,.slice none 0 0] := ?_;?_);(focus ((exact ow);(fail_if_success (focus skip))));have ql:v1.heap.size<v2.heap.size:=q.lt;refine (have qm:v1.heap.size≠v2.heap.size := ?_;?_);(focus omega);refine (have qn:v1.heap.size≠v2.heap.size+1 := ?_;?_);(focus omega);simp only [Own,Nat.reduceAdd,and_true] at q;obtain ⟨⟨_,_⟩,⟨_,_⟩,_,_⟩:=q));(try (refine (have q:Own v2 (v1.heap.size+1) 0 [.bool false,.slice none 0 0,.slice none 0 0] := ?_;?_);(focus ((exact ow);(fail_if_success (focus skip))));have ql:v1.heap.size+1<v2.heap.size:=q.lt;refine (have qm:v1.heap.size+1≠v2.heap.size := ?_;?_);(focus omega);refine (have qn:v1.heap.size+1≠v2.heap.size+1 := ?_;?_);(focus omega);simp only [Own,Nat.reduceAdd,and_true] at q;obtain ⟨⟨_,_⟩,⟨_,_⟩,_,_⟩:=q))))
  all_goals
   go_wp2_with fail;go_meet;refine ⟨_,_,A1,a1,B1,c1,A2,a2,B2,c2,rfl,rfl,by omega,by omega,?_,?_,?_,?_,?_,?_,?_,?_⟩
   ·(exact ow)
   ·(exact ow)
   ·refine hn1.ik ?_
    (exact oik)
   ·refine hd1.ik ?_
    (exact oik)
   ·refine hn2.ik ?_
    (exact oik)
   ·refine hd2.ik ?_
    (exact oik)
   ·(exact ow)
   ·(repeat (first|with_reducible exact hBx.drew|with_reducible exact hBx|(focus (with_reducible refine Below.setCell ?_ ?_ _;rotate_left;focus (first|omega|(simp;(fail_if_success (focus skip)))|(simp;omega))))|with_reducible refine bel_alloc ?_ _|with_reducible refine Below.drew ?_|with_reducible refine bel_up ?_ (by with_reducible assumption)|fail))
 case rest =>
  obtain ⟨b5,b6,A1,a1,B1,c1,A2,a2,B2,c2,rfl,rfl,hn5,hn6,h5,h6,dn1,dd1,dn2,dd2,hr,hB⟩:=hcut
  rename World=>w1
  have KT:=Lib.hid (fun W h1 h2=>rtimes_any (.slice A1 (Pl.L n1) a1) (.slice B2 (Pl.L d2) c2) n1 d2 W h1 h2 (by omega) (by omega));have KD:=Lib.hid (fun W h1 h2=>rtimes_any (.slice A2 (Pl.L n2) a2) (.slice B1 (Pl.L d1) c1) n2 d1 W h1 h2 (by omega) (by omega));have KE:=Lib.hid (fun W h1 h2=>rtimes_any (.slice B1 (Pl.L d1) c1) (.slice B2 (Pl.L d2) c2) d1 d2 W h1 h2 (by omega) (by omega));generalize n1*d2=P at *;generalize n2*d1=Q at *;have hu:=hold6 h5 h6;go_upto_region 2 with fail
  go_cut [7,8] (fun p q wx=>∃ Ap ap Aq aq,p=.slice Ap (Pl.L P) ap∧q=.slice Aq (Pl.L Q) aq∧DV wx (.slice Ap (Pl.L P) ap) P∧DV wx (.slice Aq (Pl.L Q) aq) Q∧Below w1.heap.size w1 wx)
  case first =>
   go_region_held3 (fun w'=>w'.cell? ⟨b5,0,none⟩=some (.bool s1)∧w'.cell? ⟨b5,1,none⟩=some (.slice A1 (Pl.L n1) a1)∧w'.cell? ⟨b5,2,none⟩=some (.slice B1 (Pl.L d1) c1)∧w'.cell? ⟨b6,0,none⟩=some (.bool s2)∧w'.cell? ⟨b6,1,none⟩=some (.slice A2 (Pl.L n2) a2)∧w'.cell? ⟨b6,2,none⟩=some (.slice B2 (Pl.L d2) c2)) (refine hold6 ?_ ?_<;>(exact ow)) (first
    | (go_at_call 70;with_reducible refine (KT.out _ (by first|with_reducible exact dn1.drew|with_reducible exact dn1.drew.up hb1|with_reducible exact dn1.drew.up hb2) (by first|with_reducible exact dd2.drew|with_reducible exact dd2.drew.up hb1|with_reducible exact dd2.drew.up hb2)).mono ?_;rintro e v1 ⟨vp,rfl,hp,hb1⟩;obtain ⟨Ap,ap,rfl⟩:=dv_form hp)
    | (go_at_call 70;with_reducible refine (KD.out _ (by first|with_reducible exact dn2.drew|with_reducible exact dn2.drew.up hb1|with_reducible exact dn2.drew.up hb2) (by first|with_reducible exact dd1.drew|with_reducible exact dd1.drew.up hb1|with_reducible exact dd1.drew.up hb2)).mono ?_;rintro e v2 ⟨vq,rfl,hq,hb2⟩;obtain ⟨Aq,aq,rfl⟩:=dv_form hq))
   all_goals
    go_wp2_with fail;go_meet;refine ⟨Ap,ap,Aq,aq,rfl,rfl,(by first|with_reducible exact hp|with_reducible exact hp.up hb2),(by first|with_reducible exact hq|with_reducible exact hq.up hb1),?_⟩
    first|with_reducible exact bel_up (bel_up (Below.refl _ _).drew hb1) hb2|with_reducible exact bel_up (bel_up (Below.refl _ _).drew hb2) hb1
  case rest =>
   obtain ⟨Ap,ap,Aq,aq,rfl,rfl,hp,hq,hbc⟩:=hcut;have g5:=h5.up hbc;have g6:=h6.up hbc;have gr:=hr.up hbc;have hB:=bel_up hB hbc;have hu:=hold6 g5 g6;have dd1:=dd1.up hbc;have dd2:=dd2.up hbc;clear hbc h5 h6 hr KT KD dn1 dn2;go_wp2_with fail;with_reducible refine (KE.out _ dd1 dd2).mono ?_
   rintro e w3 ⟨vd,rfl,hd,hb3⟩;obtain ⟨Ad,ad,rfl⟩:=dv_form hd;have g5:=g5.up hb3;have g6:=g6.up hb3;have gr:=gr.up hb3;have hB:=bel_up hB hb3;have hp:=hp.up hb3;have hq:=hq.up hb3;have hu:=hold6 g5 g6;clear hb3 dd1 dd2 KE
   by_cases hs:s1=s2
   ·subst hs
    have KP:=Lib.hid (fun W h1 h2=>rplus_any (.slice Ap (Pl.L P) ap) (.slice Aq (Pl.L Q) aq) P Q W h1 h2 (by omega) (by omega));have HS:Hid (sgnZ s1 (P+Q)=sgnZ s1 P+sgnZ s1 Q):=Lib.hid (by unfold sgnZ;split<;>omega);have HL:Hid (Pl.L (P+Q)≤67108000):=Lib.hid (by have:=Pl.L_add P Q;omega);go_wp2_with fail
    go_region_held3 (fun w'=>w'.cell? ⟨b5,0,none⟩=some (.bool s1)) (refine hold1 (x1:=.slice A1 (Pl.L n1) a1) (x2:=.slice B1 (Pl.L d1) c1) ?_<;>(exact ow)) (first
     | (go_at_call 72;with_reducible refine (KP.out _ (by with_reducible exact hp.drew) (by with_reducible exact hq.drew)).mono ?_;rintro e v1 ⟨vs,rfl,hv,hb5,_⟩;obtain ⟨As,ks,rfl⟩:=dv_form hv)
     | (go_at_call 71;with_reducible refine (KC.out _ _ _ _ _ HS.out HL.out hv (by with_reducible exact hd.drew.up hb5)).mono ?_;rintro e v2 ⟨rfl,hb6⟩;refine (have r3:Own v2 (w.heap.size+2) 0 [.bool false,.string ⟨#[]⟩,.bool false,.string ⟨#[]⟩] := ?_;?_);(focus (exact ow));simp only [Own,Nat.reduceAdd,and_true] at r3))
    all_goals
     go_wp2;refine bodyPost_ret (v:=.agg #[.bool rb,.string rt,.bool false,.string ru]) (by simp [results,Tryz.results29,go_sem,r3]) rfl ⟨rfl,?_⟩;repeat (first|with_reducible exact bel_up (bel_up hB.drew hb5) hb6|refine Below.setCell ?_ (by first|(simp;done)|(simp;omega)|omega) _)
   ·have hs':(s1==s2)=false:=by simpa using hs
    have hs2:s2 = !s1:=by cases s1<;>cases s2<;>simp_all
    by_cases hle:Q≤P
    ·obtain ⟨z,hz,hz0⟩:∃ z:Int,cmpZ (P:Int) (Q:Int)=z∧0≤z:=⟨_,rfl,by unfold cmpZ;rw [if_neg (by omega)];split<;>omega⟩
     have kk:=fun W h1 h2=>rcmp_any (.slice Ap (Pl.L P) ap) (.slice Aq (Pl.L Q) aq) P Q W h1 h2 (by omega)
     simp only [hz] at kk;have KK:=Lib.hid kk;have KP:=Lib.hid (fun W h1 h2=>rminus_any (.slice Ap (Pl.L P) ap) (.slice Aq (Pl.L Q) aq) P Q W h1 h2 hle (by omega));have HS:Hid (sgnZ s1 (P-Q)=sgnZ s1 P+sgnZ s2 Q):=Lib.hid (by rw [hs2];unfold sgnZ;cases s1<;>simp<;>omega);have HL:Hid (Pl.L (P-Q)≤67108000):=Lib.hid (by have:=Pl.L_mono (Nat.sub_le P Q);omega);clear hs hs2 kk hz;go_wp2_with fail;with_reducible refine (KK.out _ hp hq).mono ?_
     rintro e w4 ⟨rfl,hb4⟩;have g5:=g5.up hb4;have g6:=g6.up hb4;have gr:=gr.up hb4;have hB:=bel_up hB hb4;have hp:=hp.up hb4;have hq:=hq.up hb4;have hd:=hd.up hb4;have hu:=hold6 g5 g6;clear hb4;go_wp2_with fail
     go_region_held3 (fun w'=>w'.cell? ⟨b5,0,none⟩=some (.bool s1)) (refine hold1 (x1:=.slice A1 (Pl.L n1) a1) (x2:=.slice B1 (Pl.L d1) c1) ?_<;>(exact ow)) (first
      | (go_at_call 74;with_reducible refine (KP.out _ (by with_reducible exact hp.drew) (by with_reducible exact hq.drew)).mono ?_;rintro e v1 ⟨vs,rfl,hv,hb5,_⟩;obtain ⟨As,ks,rfl⟩:=dv_form hv)
      | (go_at_call 71;with_reducible refine (KC.out _ _ _ _ _ HS.out HL.out hv (by with_reducible exact hd.drew.up hb5)).mono ?_;rintro e v2 ⟨rfl,hb6⟩;refine (have r3:Own v2 (w.heap.size+2) 0 [.bool false,.string ⟨#[]⟩,.bool false,.string ⟨#[]⟩] := ?_;?_);(focus (exact ow));simp only [Own,Nat.reduceAdd,and_true] at r3))
     all_goals
      go_wp2;refine bodyPost_ret (v:=.agg #[.bool rb,.string rt,.bool false,.string ru]) (by simp [results,Tryz.results29,go_sem,r3]) rfl ⟨rfl,?_⟩;repeat (first|with_reducible exact bel_up (bel_up hB.drew hb5) hb6|refine Below.setCell ?_ (by first|(simp;done)|(simp;omega)|omega) _)
    ·obtain ⟨z,hz,hz0⟩:∃ z:Int,cmpZ (P:Int) (Q:Int)=z∧¬ 0≤z:=⟨_,rfl,by unfold cmpZ;rw [if_pos (by omega)];omega⟩
     have kk:=fun W h1 h2=>rcmp_any (.slice Ap (Pl.L P) ap) (.slice Aq (Pl.L Q) aq) P Q W h1 h2 (by omega)
     simp only [hz] at kk;have KK:=Lib.hid kk;have KP:=Lib.hid (fun W h1 h2=>rminus_any (.slice Aq (Pl.L Q) aq) (.slice Ap (Pl.L P) ap) Q P W h1 h2 (by omega) (by omega));have HS:Hid (sgnZ s2 (Q-P)=sgnZ s1 P+sgnZ s2 Q):=Lib.hid (by rw [hs2];unfold sgnZ;cases s1<;>simp<;>omega);have HL:Hid (Pl.L (Q-P)≤67108000):=Lib.hid (by have:=Pl.L_mono (Nat.sub_le Q P);omega);clear hs hs2 kk hz;go_wp2_with fail;with_reducible refine (KK.out _ hp hq).mono ?_
     rintro e w4 ⟨rfl,hb4⟩;have g5:=g5.up hb4;have g6:=g6.up hb4;have gr:=gr.up hb4;have hB:=bel_up hB hb4;have hp:=hp.up hb4;have hq:=hq.up hb4;have hd:=hd.up hb4;have hu:=hold6 g5 g6;clear hb4;go_wp2_with fail
     go_region_held3 (fun w'=>w'.cell? ⟨b6,0,none⟩=some (.bool s2)) (refine hold1 (x1:=.slice A2 (Pl.L n2) a2) (x2:=.slice B2 (Pl.L d2) c2) ?_<;>(exact ow)) (first
      | (go_at_call 74;with_reducible refine (KP.out _ (by with_reducible exact hq.drew) (by with_reducible exact hp.drew)).mono ?_;rintro e v1 ⟨vs,rfl,hv,hb5,_⟩;obtain ⟨As,ks,rfl⟩:=dv_form hv)
      | (go_at_call 71;with_reducible refine (KC.out _ _ _ _ _ HS.out HL.out hv (by with_reducible exact hd.drew.up hb5)).mono ?_;rintro e v2 ⟨rfl,hb6⟩;refine (have r3:Own v2 (w.heap.size+2) 0 [.bool false,.string ⟨#[]⟩,.bool false,.string ⟨#[]⟩] := ?_;?_);(focus (exact ow));simp only [Own,Nat.reduceAdd,and_true] at r3))
     all_goals
      go_wp2;refine bodyPost_ret (v:=.agg #[.bool rb,.string rt,.bool false,.string ru]) (by simp [results,Tryz.results29,go_sem,r3]) rfl ⟨rfl,?_⟩;repeat (first|with_reducible exact bel_up (bel_up hB.drew hb5) hb6|refine Below.setCell ?_ (by first|(simp;done)|(simp;omega)|omega) _)
end Go.Proofs.YtdkkjfnpinckjaaGreatDoor
set_option maxRecDepth 100000
namespace Go.Proofs.YtdkkjfnpinckjaaGreatDoor
open Go Go.RowKit

theorem sgn_ng (z:Int):sgnZ (ng z) z.natAbs=z:=by
 unfold sgnZ ng
 by_cases h:z<0
 ·simp only [h,decide_true,if_true];omega
 ·simp only [h,decide_false,Bool.false_eq_true,if_false];omega
theorem den_dn (q:Rat):(if dn q=0 then 1 else dn q)=q.den:=by
 have:=q.den_nz;unfold dn
 split<;>simp_all
theorem sgn_mul_nat (s:Bool) (n d:Nat):sgnZ s (n*d)=sgnZ s n*d:=by
 unfold sgnZ
 split
 ·rw [Int.natCast_mul,Int.neg_mul]
 ·rw [Int.natCast_mul]
theorem sgn_mul_sgn (s t:Bool) (n d:Nat):sgnZ (!(s==t)) (n*d)=sgnZ s n*sgnZ t d:=by
 unfold sgnZ;cases s<;>cases t<;>simp [Int.natCast_mul,Int.neg_mul,Int.mul_neg]
theorem L_dn (q:Rat):Pl.L (dn q)≤Pl.L q.den:=by
 unfold dn
 split
 ·rw [Pl.L_zero];exact Nat.zero_le _
 ·exact Nat.le_refl _
theorem mk_sgn (n d:Int) (hd:d≠0):mkRat (sgnZ (!(ng n==ng d)) n.natAbs) d.natAbs=Rat.divInt n d:=by
 rcases Int.lt_or_le d 0 with h|h
 ·obtain ⟨k,rfl⟩:∃ k:Nat,d=-(k:Int):=⟨d.natAbs,by omega⟩
  rw [Rat.divInt_neg',Rat.divInt_ofNat,Int.natAbs_neg,Int.natAbs_natCast];congr 1;have e:ng (-(k:Int))=true:=decide_eq_true h;rw [e];unfold sgnZ ng
  by_cases hn:n<0<;>simp [hn]<;>omega
 ·obtain ⟨k,rfl⟩:∃ k:Nat,d=(k:Int):=⟨d.natAbs,by omega⟩
  rw [Rat.divInt_ofNat,Int.natAbs_natCast];congr 1;have e:ng (k:Int)=false:=decide_eq_false (by omega);rw [e];unfold sgnZ ng
  by_cases hn:n<0<;>simp [hn]<;>omega
theorem ng_mul_nat (z:Int) (d:Nat) (h:d≠0):ng (z*d)=ng z:=by
 unfold ng;rw [decide_eq_decide];have hd:(0:Int)<d:=by omega
 constructor
 ·intro h1
  rcases Int.lt_or_le z 0 with h2|h2
  ·exact h2
  ·have:=Int.mul_nonneg h2 (Int.le_of_lt hd);omega
 ·exact fun h1=>Int.mul_neg_of_neg_of_pos h1 hd
theorem radd_any (a b:Rat) (w:World) (ha:Pl.Sz 16777216 a) (hb:Pl.Sz 16777216 b) :
 Calls Tryz.prog 29 #[qv a,qv b] w fun e w'=>e=.returned (qv (a+b))∧Below w.heap.size w w':=by
 have h:=radd_raw (ng a.num) (ng b.num) a.num.natAbs (dn a) b.num.natAbs (dn b) w ha.1 (Nat.le_trans (L_dn a) ha.2) hb.1 (Nat.le_trans (L_dn b) hb.2);rw [den_dn,den_dn,sgn_mul_nat,sgn_mul_nat,sgn_ng,sgn_ng,Pl.add_nums] at h;exact h
theorem rmul_any (a b:Rat) (w:World) (ha:Pl.Sz 16777216 a) (hb:Pl.Sz 16777216 b) :
 Calls Tryz.prog 41 #[qv a,qv b] w fun e w'=>e=.returned (qv (a*b))∧Below w.heap.size w w':=by
 have h:=rmul_raw (ng a.num) (ng b.num) a.num.natAbs (dn a) b.num.natAbs (dn b) w ha.1 (Nat.le_trans (L_dn a) ha.2) hb.1 (Nat.le_trans (L_dn b) hb.2);rw [den_dn,den_dn,sgn_mul_sgn,sgn_ng,sgn_ng,Pl.mul_nums] at h;exact h
theorem rdiv_any (a b:Rat) (w:World) (h0:b≠0) (ha:Pl.Sz 16777216 a) (hb:Pl.Sz 16777216 b) :
 Calls Tryz.prog 42 #[qv a,qv b] w fun e w'=>e=.returned (qv (a/b))∧Below w.heap.size w w':=by
 have hn:b.num≠0:=fun e=>h0 (Rat.num_eq_zero.1 e)
 have h:=rdiv_raw (ng a.num) (ng b.num) a.num.natAbs (dn a) b.num.natAbs (dn b) w ha.1 (Nat.le_trans (L_dn a) ha.2) hb.1 (Nat.le_trans (L_dn b) hb.2) (by omega);rw [den_dn,den_dn] at h;have e:mkRat (sgnZ (!(ng a.num==ng b.num)) (a.num.natAbs*b.den)) (a.den*b.num.natAbs)=a/b:=by rw [← Pl.div_nums,← mk_sgn (a.num*b.den) (a.den*b.num) (Int.mul_ne_zero (by have:=a.den_nz;omega) hn),Int.natAbs_mul,Int.natAbs_mul,Int.natAbs_natCast,Int.natAbs_natCast,ng_mul_nat _ _ b.den_nz,Int.mul_comm (a.den:Int),ng_mul_nat _ _ a.den_nz]
 rw [e] at h;exact h
theorem rmakeZ_any (n d:Int) (w:World) (hd:d≠0) (ha:Pl.L n.natAbs≤67108000) (hb:Pl.L d.natAbs≤67108000) :
 Calls Tryz.prog 58 #[iv n,iv d] w fun e w'=>e=.returned (qv (Rat.divInt n d))∧Below w.heap.size w w':=by
 have h:=rmake_any (ng n) (ng d) n.natAbs d.natAbs w (by omega) ha hb;rw [mk_sgn n d hd] at h;exact h
theorem rint_any (n:Int) (w:World) (h1 : -9223372036854775808≤n) (h2:n≤9223372036854775807) :
 Calls Tryz.prog 59 #[.int .i64 n] w fun e w'=>e=.returned (iv n)∧Below w.heap.size w w':=by
 rcases Int.lt_or_le n 0 with h|h
 ·obtain ⟨k,rfl⟩:∃ k:Nat,n=-(k:Int):=⟨n.natAbs,by omega⟩
  have h':=rint_neg k w (by omega) (by omega);have e:iv (-(k:Int))=.agg #[.bool true,.string (mg k)]:=by simp [iv,ng];omega
  rw [e];exact h'
 ·obtain ⟨k,rfl⟩:∃ k:Nat,n=(k:Int):=⟨n.natAbs,by omega⟩
  have h':=rint_nat k w (by omega);have e:iv (k:Int)=.agg #[.bool false,.string (mg k)]:=by simp [iv,ng];try omega
  rw [e];exact h'
end Go.Proofs.YtdkkjfnpinckjaaGreatDoor

namespace Go.Proofs.YtdkkjfnpinckjaaGreatDoor
open Go Go.RowKit

theorem mg_some {n:Nat} (h:n≠0):(mg n).toList.isEmpty=false:=(mg_empty n).trans (decide_eq_false h)
theorem rneg_raw (s:Bool) (n m:Nat) (w:World) :
 Calls Tryz.prog 97 #[.agg #[.bool s,.string (mg n),.bool false,.string (mg m)]] w fun e w'=>e=.returned (.agg #[.bool (!s&&decide (n≠0)),.string (mg n),.bool false,.string (mg m)])∧Below w.heap.size w w':=by
 by_cases h0:n=0
 ·subst h0
  rw [mg_zero];cases s
  all_goals
   go_enter Tryz.func97,Tryz.ntmps97;go_wp2;refine bodyPost_ret (v:=.agg #[.bool _,.string ⟨#[]⟩,.bool false,.string (mg m)]) (by simp [results,Tryz.results97,go_sem];rfl) rfl ⟨by simp,?_⟩;exact bB
 ·have hm:=mg_some h0
  cases s
  all_goals
   go_enter Tryz.func97,Tryz.ntmps97;go_wp2;refine bodyPost_ret (v:=.agg #[.bool _,.string (mg n),.bool false,.string (mg m)]) (by simp [results,Tryz.results97,go_sem];rfl) rfl ⟨by simp [h0],?_⟩;exact bB
theorem rneg_any (a:Rat) (w:World) :
 Calls Tryz.prog 97 #[qv a] w fun e w'=>e=.returned (qv (-a))∧Below w.heap.size w w':=by
 have h:=rneg_raw (ng a.num) a.num.natAbs (dn a) w
 have e:ng (-a).num=(!ng a.num&&decide (a.num.natAbs≠0)):=by
  rw [Rat.neg_num];unfold ng
  by_cases h1:a.num<0<;>by_cases h2:a.num=0<;>simp [h1,h2]<;>omega
 have e2:dn (-a)=dn a:=rfl;rw [← e] at h;have e3:(-a).num.natAbs=a.num.natAbs:=by rw [Rat.neg_num,Int.natAbs_neg]
 have e4:qv (-a)=.agg #[.bool (ng (-a).num),.string (mg a.num.natAbs),.bool false,.string (mg (dn a))]:=by rw [qv,e2,e3]
 rw [e4];exact h
theorem rsign_any (a:Rat) (w:World) :
 Calls Tryz.prog 76 #[qv a] w fun e w'=>e=.returned (.int .i64 (Pl.sgn a))∧Below w.heap.size w w':=by
 have hS:Pl.sgn a=if a.num.natAbs=0 then 0 else if ng a.num then -1 else 1:=by
  unfold Pl.sgn ng;rcases Int.lt_trichotomy a.num 0 with h|h|h
  ·rw [Int.sign_eq_neg_one_of_neg h,if_neg (by omega),decide_eq_true h];rfl
  ·rw [h];rfl
  ·rw [Int.sign_eq_one_of_pos h,if_neg (by omega),decide_eq_false (by omega)];rfl
 rw [hS];show Calls Tryz.prog 76 #[.agg #[.bool (ng a.num),.string (mg a.num.natAbs),.bool false,.string (mg (dn a))]] w _;clear hS;generalize ng a.num=s;generalize dn a=m
 by_cases h0:a.num.natAbs=0
 ·rw [if_pos h0,h0,mg_zero]
  clear h0;go_enter Tryz.func76,Tryz.ntmps76;go_wp2;go_ret;refine ⟨rfl,?_⟩;repeat (first|with_reducible exact Below.refl _ _|with_reducible refine bel_alloc ?_ _)
 ·have hm:=mg_some h0
  rw [if_neg h0];generalize a.num.natAbs=n at hm;clear h0;cases s
  all_goals
   go_enter Tryz.func76,Tryz.ntmps76;go_wp2;go_ret;refine ⟨rfl,?_⟩;repeat (first|with_reducible exact Below.refl _ _|with_reducible refine bel_alloc ?_ _)

theorem rsub_any (a:Rat) (b:Rat) (w:World) (ha:Pl.Sz 16777216 a) (hb:Pl.Sz 16777216 b) :
 Calls Tryz.prog 75 #[qv a,qv b] w fun e w'=>e=.returned (qv (a-b))∧Below w.heap.size w w':=by
 have ka:=fun W=>radd_any a (-b) W ha hb.neg
 simp only [← Rat.sub_eq_add_neg] at ka;have KA:=Lib.hid ka;clear ka;have K1:=Lib.hid (fun W=>rneg_any b W);have K2:=Lib.hid (fun W=>KA.out W);clear ha hb;go_enter Tryz.func75,Tryz.ntmps75;go_wp2_with fail;refine wp_named ?_;intro W1 hW1;have c1_0:At W1 w.heap.size 0 [.bool (ng a.num),.string (mg a.num.natAbs),.bool false,.string (mg (dn a))]:=by rw [hW1];simp [At,go_sem]
 have c1_1:At W1 (w.heap.size+1) 0 [.bool (ng b.num),.string (mg b.num.natAbs),.bool false,.string (mg (dn b))]:=by rw [hW1];simp [At,go_sem]
 have c1_2:Own W1 (w.heap.size+2) 0 [.bool false,.string ⟨#[]⟩,.bool false,.string ⟨#[]⟩]:=by rw [hW1];simp [Own,go_sem]
 have hB1:Below w.heap.size w W1:=by rw [hW1];exact bB
 clear hW1;have dc1_0:=fun p:Bel W1=>c1_0.bel p;have dc1_1:=fun p:Bel W1=>c1_1.bel p;have dc1_2:=fun p:Bel W1=>c1_2.bel p
 simp only [At,Own,Nat.reduceAdd,and_true] at dc1_0 dc1_1 dc1_2;refine wp_region_tail 4 (by kernel_rfl) (by kernel_rfl) ?_;simp only [List.take_succ_cons,List.take_zero,List.drop_succ_cons,List.drop_zero];repeat (go_big_quiet_step (first|(go_at_call 97;with_reducible exact Calls.bel (K1.out _))|(go_at_call 29;with_reducible exact Calls.bel (K2.out _))))
 refine wpQuiet_nil ?_;intro w1 hb1;have c1_0x:=c1_0.up hb1;have c1_1x:=c1_1.up hb1;have c1_2x:=c1_2.up hb1;clear dc1_0 dc1_1 dc1_2 c1_0 c1_1 c1_2;have hD1:Below w.heap.size w w1:=bel_up hB1 hb1;have uc1_0x:=c1_0x;have uc1_1x:=c1_1x;have uc1_2x:=c1_2x;simp only [At,Own,Nat.reduceAdd,and_true] at uc1_0x uc1_1x uc1_2x
 -- NE
 go_wp2;refine bodyPost_ret (v:=.agg #[.bool (ng ((a-b).num)),.string (mg ((a-b).num).natAbs),.bool false,.string (mg (dn (a-b)))]) (by simp [results,Tryz.results75,go_sem,uc1_2x]) rfl ⟨rfl,?_⟩;exact bB

theorem rcompare_any (a:Rat) (b:Rat) (w:World) (ha:Pl.Sz 16777216 a) (hb:Pl.Sz 16777216 b) :
 Calls Tryz.prog 31 #[qv a,qv b] w fun e w'=>e=.returned (.int .i64 (Pl.cmpQ a b))∧Below w.heap.size w w':=by
 have ks:=fun W=>rsign_any (a-b) W
 rw [show Pl.sgn (a-b)=Pl.cmpQ a b from rfl] at ks;generalize Pl.cmpQ a b=z at ks ⊢;have KS:=Lib.hid ks;clear ks;have K1:=Lib.hid (fun W=>rsub_any a b W ha hb);have K2:=Lib.hid (fun W=>KS.out W);clear ha hb;go_enter Tryz.func31,Tryz.ntmps31;go_wp2_with fail;refine calls_named ?_;intro W1 hW1;have c1_0:At W1 w.heap.size 0 [.bool (ng a.num),.string (mg a.num.natAbs),.bool false,.string (mg (dn a))]:=by rw [hW1];simp [At,go_sem]
 have c1_1:At W1 (w.heap.size+1) 0 [.bool (ng b.num),.string (mg b.num.natAbs),.bool false,.string (mg (dn b))]:=by rw [hW1];simp [At,go_sem]
 have hB1:Below w.heap.size w W1:=by rw [hW1];exact bB
 clear hW1;have uc1_0:=c1_0;have uc1_1:=c1_1;simp only [At,Own,Nat.reduceAdd,and_true] at uc1_0 uc1_1;with_reducible refine (K1.out _).mono ?_
 rintro e w1 ⟨rfl,hb1⟩;have c1_0x:=c1_0.up hb1;have c1_1x:=c1_1.up hb1;have hDw1:Below w.heap.size w w1:=bel_up hB1 hb1;clear uc1_0 uc1_1 c1_0 c1_1;have uc1_0x:=c1_0x;have uc1_1x:=c1_1x;simp only [At,Own,Nat.reduceAdd,and_true] at uc1_0x uc1_1x
 -- NE
 go_wp2_with fail;refine calls_named ?_;intro W2 hW2;have hL2:Below w1.heap.size w1 W2:=by rw [hW2];exact bB
 have c2_0:=c1_0x.up hL2;have c2_1:=c1_1x.up hL2;have hB2:Below w.heap.size w W2:=by rw [hW2];exact bB
 clear hW2 hL2 uc1_0x uc1_1x c1_0x c1_1x;have uc2_0:=c2_0;have uc2_1:=c2_1;simp only [At,Own,Nat.reduceAdd,and_true] at uc2_0 uc2_1;with_reducible refine (K2.out _).mono ?_
 rintro e w2 ⟨rfl,hb2⟩;have c2_0x:=c2_0.up hb2;have c2_1x:=c2_1.up hb2;have hDw2:Below w.heap.size w w2:=bel_up hB2 hb2;clear uc2_0 uc2_1 c2_0 c2_1;have uc2_0x:=c2_0x;have uc2_1x:=c2_1x;simp only [At,Own,Nat.reduceAdd,and_true] at uc2_0x uc2_1x
 -- NE
 go_wp2;go_ret;refine ⟨rfl,?_⟩;exact bB

theorem wordL8 {n:Int} (h1 : -9223372036854775808≤n) (h2:n≤9223372036854775807):Pl.L n.natAbs≤67108000:=by
 have:=L_word n.natAbs (by omega);omega

theorem rOf_any (n:Int) (d:Int) (w:World) (hd:d≠0) (h1 : -9223372036854775808≤n) (h2:n≤9223372036854775807) (h3 : -9223372036854775808≤d) (h4:d≤9223372036854775807) :
 Calls Tryz.prog 21 #[.int .i64 n,.int .i64 d] w fun e w'=>e=.returned (qv (Rat.divInt n d))∧Below w.heap.size w w':=by
 have K1:=Lib.hid (fun W=>rint_any n W h1 h2);have K2:=Lib.hid (fun W=>rint_any d W h3 h4);have K3:=Lib.hid (fun W=>rmakeZ_any n d W hd (wordL8 h1 h2) (wordL8 h3 h4));clear hd h1 h2 h3 h4;go_enter Tryz.func21,Tryz.ntmps21;go_wp2_with fail;refine calls_named ?_;intro W1 hW1;have c1_0:Own W1 w.heap.size 0 [.bool false,.string ⟨#[]⟩,.bool false,.string ⟨#[]⟩]:=by rw [hW1];simp [Own,go_sem]
 have hB1:Below w.heap.size w W1:=by rw [hW1];exact bB
 clear hW1;have uc1_0:=c1_0;simp only [At,Own,Nat.reduceAdd,and_true] at uc1_0;with_reducible refine (K1.out _).mono ?_
 rintro e w1 ⟨rfl,hb1⟩;have c1_0x:=c1_0.up hb1;have hDw1:Below w.heap.size w w1:=bel_up hB1 hb1;clear uc1_0 c1_0;have uc1_0x:=c1_0x;simp only [At,Own,Nat.reduceAdd,and_true] at uc1_0x
 -- NE
 go_wp2_with fail;refine calls_named ?_;intro W2 hW2;have hL2:Below w1.heap.size w1 W2:=by rw [hW2];exact bB
 have c2_0:=c1_0x.up hL2;have hB2:Below w.heap.size w W2:=by rw [hW2];exact bB
 clear hW2 hL2 uc1_0x c1_0x;have uc2_0:=c2_0;simp only [At,Own,Nat.reduceAdd,and_true] at uc2_0;with_reducible refine (K2.out _).mono ?_
 rintro e w2 ⟨rfl,hb2⟩;have c2_0x:=c2_0.up hb2;have hDw2:Below w.heap.size w w2:=bel_up hB2 hb2;clear uc2_0 c2_0;have uc2_0x:=c2_0x;simp only [At,Own,Nat.reduceAdd,and_true] at uc2_0x
 -- NE
 go_wp2_with fail;refine calls_named ?_;intro W3 hW3;have hL3:Below w2.heap.size w2 W3:=by rw [hW3];exact bB
 have c3_0:=c2_0x.up hL3;have hB3:Below w.heap.size w W3:=by rw [hW3];exact bB
 clear hW3 hL3 uc2_0x c2_0x;have uc3_0:=c3_0;simp only [At,Own,Nat.reduceAdd,and_true] at uc3_0;with_reducible refine (K3.out _).mono ?_
 rintro e w3 ⟨rfl,hb3⟩;have c3_0x:=c3_0.up hb3;have hDw3:Below w.heap.size w w3:=bel_up hB3 hb3;clear uc3_0 c3_0;have uc3_0x:=c3_0x;simp only [At,Own,Nat.reduceAdd,and_true] at uc3_0x
 -- NE
 go_wp2;refine bodyPost_ret (v:=.agg #[.bool (ng ((Rat.divInt n d).num)),.string (mg ((Rat.divInt n d).num).natAbs),.bool false,.string (mg (dn (Rat.divInt n d)))]) (by simp [results,Tryz.results21,go_sem,uc3_0x]) rfl ⟨rfl,?_⟩;exact bB

end Go.Proofs.YtdkkjfnpinckjaaGreatDoor
