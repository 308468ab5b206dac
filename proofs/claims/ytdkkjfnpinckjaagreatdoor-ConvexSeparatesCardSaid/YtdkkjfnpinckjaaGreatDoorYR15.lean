/-
 Contracts of the reference for fractions: Mul.
-/
import Derived.Test.YtdkkjfnpinckjaaGreatDoorYMj
import Derived.Test.YtdkkjfnpinckjaaGreatDoorYMf
import Derived.Deep.DeepCutAuto
set_option maxRecDepth 100000
set_option linter.unusedSimpArgs false
set_option linter.unusedVariables false
namespace Go.Proofs.YtdkkjfnpinckjaaGreatDoor
open Go Go.RowKit

theorem own_new3 {w:World} {b:Nat} {x y z:Value} {t:TypeId} (h:b=w.heap.size):Own (w.alloc (.cells #[x,y,z] t)) b 0 [x,y,z]:=by
 subst h;simp [Own,go_sem]
theorem own_put3 {w:World} {b:Nat} {x' y' z':Value} (h:Own w b 0 [.bool false,.slice none 0 0,.slice none 0 0]):Own (((w.setCell ⟨b,0,none⟩ x').setCell ⟨b,1,none⟩ y').setCell ⟨b,2,none⟩ z') b 0 [x',y',z']:=by
 simp only [Own,Nat.reduceAdd,and_true] at h;simp [Own,go_sem,h]
theorem ow {p:Prop} (h:p:=by (repeat (first|with_reducible assumption|with_reducible refine Own.drew ?_|with_reducible refine own_put3 ?_|(focus (with_reducible refine own_new3 ?_;first|with_reducible rfl|(simp;(fail_if_success (focus skip)))))|(focus (with_reducible refine Own.far _ _ ?_ ?_;focus ((first|omega|(simp;(fail_if_success (focus skip)))|(simp;omega)))))|with_reducible refine Own.alloc ?_ _|with_reducible refine Own.up ?_ (by with_reducible assumption)|fail));(fail_if_success (focus skip))):p:=h
theorem IK.put3 {w w1:World} {b:Nat} (h:IK w w1) (ho:Own w1 b 0 [.bool false,.slice none 0 0,.slice none 0 0]) (x y z:Value):IK w (((w1.setCell ⟨b,0,none⟩ x).setCell ⟨b,1,none⟩ y).setCell ⟨b,2,none⟩ z):=by
 simp only [Own,Nat.reduceAdd,and_true] at ho;exact ((h.setCell (fun z=>by simp [go_sem,ho]) x).setCell (fun z=>by simp [go_sem,ho]) y).setCell (fun z=>by simp [go_sem,ho]) z
theorem oik {p:Prop} (h:p:=by (repeat (first|with_reducible exact IK.refl _|(focus (with_reducible refine IK.put3 ?_ ?_ _ _ _;rotate_left;focus ((exact ow))))|with_reducible refine IK.alloc ?_ _|with_reducible refine IK.drew ?_|with_reducible refine IK.up ?_ (by with_reducible assumption)|fail));(fail_if_success (focus skip))):p:=h
theorem DV.drew {w:World} {v:Value} {n:Nat} (h:DV w v n):DV w.drew v n:=h
theorem hold6 {w:World} {b c:Nat} {x0 x1 x2 y0 y1 y2:Value} (h:Own w b 0 [x0,x1,x2]) (h':Own w c 0 [y0,y1,y2]) :
 w.cell? ⟨b,0,none⟩=some x0∧w.cell? ⟨b,1,none⟩=some x1∧w.cell? ⟨b,2,none⟩=some x2∧w.cell? ⟨c,0,none⟩=some y0∧w.cell? ⟨c,1,none⟩=some y1∧w.cell? ⟨c,2,none⟩=some y2 :=
 ⟨h.1.1,h.2.1.1,h.2.2.1.1,h'.1.1,h'.2.1.1,h'.2.2.1.1⟩
theorem hold8 {w:World} {b c:Nat} {x0 x1 x2 x3 y0 y1 y2 y3:Value} (h:Own w b 0 [x0,x1,x2,x3]) (h':Own w c 0 [y0,y1,y2,y3]) :
 w.cell? ⟨b,0,none⟩=some x0∧w.cell? ⟨b,1,none⟩=some x1∧w.cell? ⟨b,2,none⟩=some x2∧w.cell? ⟨b,3,none⟩=some x3∧w.cell? ⟨c,0,none⟩=some y0∧w.cell? ⟨c,1,none⟩=some y1∧w.cell? ⟨c,2,none⟩=some y2∧w.cell? ⟨c,3,none⟩=some y3 :=
 ⟨h.1.1,h.2.1.1,h.2.2.1.1,h.2.2.2.1.1,h'.1.1,h'.2.1.1,h'.2.2.1.1,h'.2.2.2.1.1⟩

set_option maxHeartbeats 20000000 in
theorem rmul_raw (s1 s2:Bool) (n1 m1 n2 m2:Nat) (w:World) (ha:Pl.L n1≤16777216) (hb:Pl.L m1≤16777216) (hc:Pl.L n2≤16777216) (hd:Pl.L m2≤16777216) :
 Calls Tryz.prog 41 #[.agg #[.bool s1,.string (mg n1),.bool false,.string (mg m1)],.agg #[.bool s2,.string (mg n2),.bool false,.string (mg m2)]] w fun e w'=>e=.returned (qv (mkRat (sgnZ (!(s1==s2)) (n1*n2)) ((if m1=0 then 1 else m1)*(if m2=0 then 1 else m2))))∧Below w.heap.size w w':=by
 have K1:=Lib.hid (fun W=>rof_any s1 n1 m1 W (by omega) (by omega));have K2:=Lib.hid (fun W=>rof_any s2 n2 m2 W (by omega) (by omega));have hd10:(if m1=0 then 1 else m1)≠0:=by split<;>omega
 have hd20:(if m2=0 then 1 else m2)≠0:=by split<;>omega
 have hd11:Pl.L (if m1=0 then 1 else m1)≤16777216:=by split;(decide);exact hb
 have hd21:Pl.L (if m2=0 then 1 else m2)≤16777216:=by split;(decide);exact hd
 generalize (if m1=0 then 1 else m1)=d1 at *;generalize (if m2=0 then 1 else m2)=d2 at *;have kc:=fun v1 v2 W h1 h2=>rcanon_any (!(s1==s2)) v1 v2 (n1*n2) (d1*d2) W h1 h2 (Nat.mul_ne_zero hd10 hd20) (by have:=Pl.L_mul n1 n2;omega) (by have:=Pl.L_mul d1 d2;omega)
 obtain ⟨rb,rt,ru,hres⟩:∃ b t u,qv (mkRat (sgnZ (!(s1==s2)) (n1*n2)) (d1*d2))=.agg #[.bool b,.string t,.bool false,.string u]:=⟨_,_,_,rfl⟩
 rw [hres];simp only [hres] at kc;have KC:=Lib.hid kc;clear kc hres hd10 hd20;go_enter Tryz.func41,Tryz.ntmps41;go_upto_region 1 with fail
 refine wp_named ?_;intro Wx hWx;have hx0:Own Wx w.heap.size 0 [.bool s1,.string (mg n1),.bool false,.string (mg m1)]:=by rw [hWx];simp [Own,go_sem]
 have hx1:Own Wx (w.heap.size+1) 0 [.bool s2,.string (mg n2),.bool false,.string (mg m2)]:=by rw [hWx];simp [Own,go_sem]
 have hx2:Own Wx (w.heap.size+2) 0 [.bool false,.string ⟨#[]⟩,.bool false,.string ⟨#[]⟩]:=by rw [hWx];simp [Own,go_sem]
 have hBx:Below w.heap.size w Wx:=by rw [hWx];exact bel_alloc (bel_alloc (bel_alloc (Below.refl _ _) _) _) _
 have hsz:w.heap.size+3≤Wx.heap.size:=by rw [hWx];simp
 clear hWx;go_cut [5,6] (fun x y wx=>∃ b5 b6 A1 a1 B1 c1 A2 a2 B2 c2,x=.pointer (some ⟨b5,0,none⟩)∧y=.pointer (some ⟨b6,0,none⟩)∧b5≠w.heap.size+2∧b6≠w.heap.size+2∧Own wx b5 0 [.bool s1,.slice A1 (Pl.L n1) a1,.slice B1 (Pl.L d1) c1]∧Own wx b6 0 [.bool s2,.slice A2 (Pl.L n2) a2,.slice B2 (Pl.L d2) c2]∧DV wx (.slice A1 (Pl.L n1) a1) n1∧DV wx (.slice B1 (Pl.L d1) c1) d1∧DV wx (.slice A2 (Pl.L n2) a2) n2∧DV wx (.slice B2 (Pl.L d2) c2) d2∧Own wx (w.heap.size+2) 0 [.bool false,.string ⟨#[]⟩,.bool false,.string ⟨#[]⟩]∧Below w.heap.size w wx)
 case first =>
  have hu:=hold8 hx0 hx1
  go_region_held3 (fun w'=>w'.cell? ⟨w.heap.size,0,none⟩=some (.bool s1)∧w'.cell? ⟨w.heap.size,1,none⟩=some (.string (mg n1))∧w'.cell? ⟨w.heap.size,2,none⟩=some (.bool false)∧w'.cell? ⟨w.heap.size,3,none⟩=some (.string (mg m1))∧w'.cell? ⟨w.heap.size+1,0,none⟩=some (.bool s2)∧w'.cell? ⟨w.heap.size+1,1,none⟩=some (.string (mg n2))∧w'.cell? ⟨w.heap.size+1,2,none⟩=some (.bool false)∧w'.cell? ⟨w.heap.size+1,3,none⟩=some (.string (mg m2))) (refine hold8 ?_ ?_<;>(exact ow)) (first
   | (go_at_call 69;with_reducible refine (K1.out _).mono ?_;rintro e v1 ⟨vn1,vd1,rfl,hn1,hd1,hb1⟩;obtain ⟨A1,a1,rfl⟩:=dv_form hn1;obtain ⟨B1,c1,rfl⟩:=dv_form hd1;refine (have p2:Own v1 (w.heap.size+2) 0 [.bool false,.string ⟨#[]⟩,.bool false,.string ⟨#[]⟩] := ?_;?_);(focus (exact ow));have p3:w.heap.size+2<v1.heap.size:=p2.lt;(try (refine (have q:Own v1 (Wx.heap.size) 0 [.bool false,.slice none 0 0,.slice none 0 0] := ?_;?_);(focus ((exact ow);(fail_if_success (focus skip))));have ql:Wx.heap.size<v1.heap.size:=q.lt;refine (have qm:Wx.heap.size≠v1.heap.size := ?_;?_);(focus omega);refine (have qn:Wx.heap.size≠v1.heap.size+1 := ?_;?_);(focus omega);simp only [Own,Nat.reduceAdd,and_true] at q;obtain ⟨⟨_,_⟩,⟨_,_⟩,_,_⟩:=q));(try (refine (have q:Own v1 (Wx.heap.size+1) 0 [.bool false,.slice none 0 0,.slice none 0 0] := ?_;?_);(focus ((exact ow);(fail_if_success (focus skip))));have ql:Wx.heap.size+1<v1.heap.size:=q.lt;refine (have qm:Wx.heap.size+1≠v1.heap.size := ?_;?_);(focus omega);refine (have qn:Wx.heap.size+1≠v1.heap.size+1 := ?_;?_);(focus omega);simp only [Own,Nat.reduceAdd,and_true] at q;obtain ⟨⟨_,_⟩,⟨_,_⟩,_,_⟩:=q));(try (refine (have q:Own v1 v2.heap.size 0 [.bool false,.slice none 0 0,.slice none 0 0] := ?_;?_);(focus ((exact ow);(fail_if_success (focus skip))));have ql:v2.heap.size<v1.heap.size:=q.lt;refine (have qm:v2.heap.size≠v1.heap.size := ?_;?_);(focus omega);refine (have qn:v2.heap.size≠v1.heap.size+1 := ?_;?_);(focus omega);simp only [Own,Nat.reduceAdd,and_true] at q;obtain ⟨⟨_,_⟩,⟨_,_⟩,_,_⟩:=q));(try (refine (have q:Own v1 (v2.heap.size+1) 0 [.bool false,.slice none 0 0,.slice none 0 0] := ?_;?_);(focus ((exact ow);(fail_if_success (focus skip))));have ql:v2.heap.size+1<v1.heap.size:=q.lt;refine (have qm:v2.heap.size+1≠v1.heap.size := ?_;?_);(focus omega);refine (have qn:v2.heap.size+1≠v1.heap.size+1 := ?_;?_);(focus omega);simp only [Own,Nat.reduceAdd,and_true] at q;obtain ⟨⟨_,_⟩,⟨_,_⟩,_,_⟩:=q)))
   | (go_at_call 69;with_reducible refine (K2.out _).mono ?_;rintro e v2 ⟨vn2,vd2,rfl,hn2,hd2,hb2⟩;obtain ⟨A2,a2,rfl⟩:=dv_form hn2;obtain ⟨B2,c2,rfl⟩:=dv_form hd2;refine (have p2:Own v2 (w.heap.size+2) 0 [.bool false,.string ⟨#[]⟩,.bool false,.string ⟨#[]⟩] := ?_;?_);(focus (exact ow));have p3:w.heap.size+2<v2.heap.size:=p2.lt;(try (refine (have q:Own v2 (Wx.heap.size) 0 [.bool false,.slice none 0 0,.slice none 0 0] := ?_;?_);(focus ((exact ow);(fail_if_success (focus skip))));have ql:Wx.heap.size<v2.heap.size:=q.lt;refine (have qm:Wx.heap.size≠v2.heap.size := ?_;?_);(focus omega);refine (have qn:Wx.heap.size≠v2.heap.size+1 := ?_;?_);(focus omega);simp only [Own,Nat.reduceAdd,and_true] at q;obtain ⟨⟨_,_⟩,⟨_,_⟩,_,_⟩:=q));(try (refine (have q:Own v2 (Wx.heap.size+1) 0 [.bool false,.slice none 0 0,.slice none 0 0] := ?_;?_);(focus ((exact ow);(fail_if_success (focus skip))));have ql:Wx.heap.size+1<v2.heap.size:=q.lt;refine (have qm:Wx.heap.size+1≠v2.heap.size := ?_;?_);(focus omega);refine (have qn:Wx.heap.size+1≠v2.heap.size+1 := ?_;?_);(focus omega);simp only [Own,Nat.reduceAdd,and_true] at q;obtain ⟨⟨_,_⟩,⟨_,_⟩,_,_⟩:=q));(try (refine (have q:Own v2 v1.heap.size 0 [.bool false,.slice none 0 0,.slice none 0 0] := ?_;?_);(focus ((exact ow);(fail_if_success (focus skip))));have ql:v1.heap.size<v2.heap.size:=q.lt;refine (have qm:v1.heap.size≠v2.heap.size := ?_;?_);(focus omega);refine (have qn:v1.heap.size≠v2.heap.size+1 := ?_;?_);(focus omega);simp only [Own,Nat.reduceAdd,and_true] at q;obtain ⟨⟨_,_⟩,⟨_,_⟩,_,_⟩:=q));(try (refine (have q:Own v2 (v1.heap.size+1) 0 [.bool false,.slice none 0 0,.slice none 0 0] := ?_;?_);(focus ((exact ow);(fail_if_success (focus skip))));have ql:v1.heap.size+1<v2.heap.size:=q.lt;refine (have qm:v1.heap.size+1≠v2.heap.size := ?_;?_);(focus omega);refine (have qn:v1.heap.size+1≠v2.heap.size+1 := ?_;?_);(focus omega);simp only [Own,Nat.reduceAdd,and_true] at q;obtain ⟨⟨_,_⟩,⟨_,_⟩,_,_⟩:=q))))
  all_goals
   go_wp2_with fail;go_meet;refine ⟨_,_,A1,a1,B1,c1,A2,a2,B2,c2,rfl,rfl,by omega,by omega,?_,?_,?_,?_,?_,?_,?_,?_⟩
   ·(exact ow)
   ·(exact ow)
   ·refine hn1.ik ?_
    (exact oik)
   ·refine hd1.ik ?_
    (exact oik)
   ·refine hn2.ik ?_
    (exact oik)
   ·refine hd2.ik ?_
    (exact oik)
   ·(exact ow)
   ·(repeat (first|with_reducible exact hBx.drew|with_reducible exact hBx|(focus (with_reducible refine Below.setCell ?_ ?_ _;rotate_left;focus (first|omega|(simp;(fail_if_success (focus skip)))|(simp;omega))))|with_reducible refine bel_alloc ?_ _|with_reducible refine Below.drew ?_|with_reducible refine bel_up ?_ (by with_reducible assumption)|fail))
 case rest =>
  obtain ⟨b5,b6,A1,a1,B1,c1,A2,a2,B2,c2,rfl,rfl,hn5,hn6,h5,h6,dn1,dd1,dn2,dd2,hr,hB⟩:=hcut;have KT:=Lib.hid (fun W h1 h2=>rtimes_any (.slice A1 (Pl.L n1) a1) (.slice A2 (Pl.L n2) a2) n1 n2 W h1 h2 (by omega) (by omega));have KD:=Lib.hid (fun W h1 h2=>rtimes_any (.slice B1 (Pl.L d1) c1) (.slice B2 (Pl.L d2) c2) d1 d2 W h1 h2 (by omega) (by omega));have hu:=hold6 h5 h6;go_upto_region 2 with fail
  go_region_held3 (fun w'=>w'.cell? ⟨b5,0,none⟩=some (.bool s1)∧w'.cell? ⟨b5,1,none⟩=some (.slice A1 (Pl.L n1) a1)∧w'.cell? ⟨b5,2,none⟩=some (.slice B1 (Pl.L d1) c1)∧w'.cell? ⟨b6,0,none⟩=some (.bool s2)∧w'.cell? ⟨b6,1,none⟩=some (.slice A2 (Pl.L n2) a2)∧w'.cell? ⟨b6,2,none⟩=some (.slice B2 (Pl.L d2) c2)) (refine hold6 ?_ ?_<;>(exact ow)) (first
   | (go_at_call 70;with_reducible refine (KT.out _ (by first|with_reducible exact dn1.drew|with_reducible exact dn1.drew.up hb1|with_reducible exact dn1.drew.up hb2) (by first|with_reducible exact dn2.drew|with_reducible exact dn2.drew.up hb1|with_reducible exact dn2.drew.up hb2)).mono ?_;rintro e v1 ⟨vp,rfl,hp,hb1⟩;obtain ⟨Ap,ap,rfl⟩:=dv_form hp)
   | (go_at_call 70;with_reducible refine (KD.out _ (by first|with_reducible exact dd1.drew|with_reducible exact dd1.drew.up hb1|with_reducible exact dd1.drew.up hb2) (by first|with_reducible exact dd2.drew|with_reducible exact dd2.drew.up hb1|with_reducible exact dd2.drew.up hb2)).mono ?_;rintro e v2 ⟨vq,rfl,hq,hb2⟩;obtain ⟨Aq,aq,rfl⟩:=dv_form hq)
   | (go_at_call 71;with_reducible refine (KC.out _ _ _ (by first|with_reducible exact hp|with_reducible exact hp.up hb2) (by first|with_reducible exact hq|with_reducible exact hq.up hb1)).mono ?_;rintro e v3 ⟨rfl,hb3⟩;refine (have r3:Own v3 (w.heap.size+2) 0 [.bool false,.string ⟨#[]⟩,.bool false,.string ⟨#[]⟩] := ?_;?_);(focus (exact ow));simp only [Own,Nat.reduceAdd,and_true] at r3))
  all_goals
   go_wp2;refine bodyPost_ret (v:=.agg #[.bool rb,.string rt,.bool false,.string ru]) (by simp [results,Tryz.results41,go_sem,r3]) rfl ⟨rfl,?_⟩;repeat (first|with_reducible exact bel_up (bel_up (bel_up hB.drew hb1) hb2) hb3|with_reducible exact bel_up (bel_up (bel_up hB.drew hb2) hb1) hb3|refine Below.setCell ?_ (by first|(simp;done)|(simp;omega)|omega) _)

end Go.Proofs.YtdkkjfnpinckjaaGreatDoor
