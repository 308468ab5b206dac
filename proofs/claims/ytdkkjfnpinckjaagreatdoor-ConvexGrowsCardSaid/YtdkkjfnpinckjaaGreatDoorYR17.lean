/-
 Contracts of the reference for fractions: Add.
-/
import Derived.Test.YtdkkjfnpinckjaaGreatDoorYR15
import Derived.Deep.DeepCutAuto
set_option maxRecDepth 100000
set_option linter.unusedSimpArgs false
set_option linter.unusedVariables false
namespace Go.Proofs.YtdkkjfnpinckjaaGreatDoor
open Go Go.RowKit

theorem hold1 {w : World} {b : Nat} {x0 x1 x2 : Value} (h : Own w b 0 [x0, x1, x2]) : w.cell? ⟨b, 0, none⟩ = some x0 := h.1.1
set_option maxHeartbeats 20000000 in
theorem radd_raw (s1 s2 : Bool) (n1 m1 n2 m2 : Nat) (w : World) (ha : Pl.L n1 ≤ 16777216) (hb : Pl.L m1 ≤ 16777216) (hc : Pl.L n2 ≤ 16777216) (hd : Pl.L m2 ≤ 16777216) :
 Calls Tryz.prog 29 #[.agg #[.bool s1, .string (mg n1), .bool false, .string (mg m1)], .agg #[.bool s2, .string (mg n2), .bool false, .string (mg m2)]] w fun e w' => e = .returned (qv (mkRat (sgnZ s1 (n1 * (if m2 = 0 then 1 else m2)) + sgnZ s2 (n2 * (if m1 = 0 then 1 else m1))) ((if m1 = 0 then 1 else m1) * (if m2 = 0 then 1 else m2)))) ∧ Below w.heap.size w w' := by
 have K1 := Lib.hid (fun W => rof_any s1 n1 m1 W (by omega) (by omega))
 have K2 := Lib.hid (fun W => rof_any s2 n2 m2 W (by omega) (by omega))
 have hd10 : (if m1 = 0 then 1 else m1) ≠ 0 := by split <;> omega
 have hd20 : (if m2 = 0 then 1 else m2) ≠ 0 := by split <;> omega
 have hd11 : Pl.L (if m1 = 0 then 1 else m1) ≤ 16777216 := by split; (decide); exact hb
 have hd21 : Pl.L (if m2 = 0 then 1 else m2) ≤ 16777216 := by split; (decide); exact hd
 generalize (if m1 = 0 then 1 else m1) = d1 at *
 generalize (if m2 = 0 then 1 else m2) = d2 at *
 have kc := fun (s : Bool) (m : Nat) v1 v2 W (hm : sgnZ s m = sgnZ s1 (n1 * d2) + sgnZ s2 (n2 * d1)) (hl : Pl.L m ≤ 67108000) h1 h2 => hm ▸ rcanon_any s v1 v2 m (d1 * d2) W h1 h2 (Nat.mul_ne_zero hd10 hd20) hl (by have := Pl.L_mul d1 d2; omega)
 obtain ⟨rb, rt, ru, hres⟩ : ∃ b t u, qv (mkRat (sgnZ s1 (n1 * d2) + sgnZ s2 (n2 * d1)) (d1 * d2)) = .agg #[.bool b, .string t, .bool false, .string u] := ⟨_, _, _, rfl⟩
 rw [hres]
 simp only [hres] at kc
 have KC := Lib.hid kc
 have hLP : Pl.L (n1 * d2) ≤ 33554432 := by have := Pl.L_mul n1 d2; omega
 have hLQ : Pl.L (n2 * d1) ≤ 33554432 := by have := Pl.L_mul n2 d1; omega
 clear kc hres hd10 hd20
 go_enter Tryz.func29, Tryz.ntmps29
 go_upto_region 1 with fail
 refine wp_named ?_
 intro Wx hWx
 have hx0 : Own Wx w.heap.size 0 [.bool s1, .string (mg n1), .bool false, .string (mg m1)] := by rw [hWx]; simp [Own, go_sem]
 have hx1 : Own Wx (w.heap.size + 1) 0 [.bool s2, .string (mg n2), .bool false, .string (mg m2)] := by rw [hWx]; simp [Own, go_sem]
 have hx2 : Own Wx (w.heap.size + 2) 0 [.bool false, .string ⟨#[]⟩, .bool false, .string ⟨#[]⟩] := by rw [hWx]; simp [Own, go_sem]
 have hBx : Below w.heap.size w Wx := by rw [hWx]; exact bel_alloc (bel_alloc (bel_alloc (Below.refl _ _) _) _) _
 have hsz : w.heap.size + 3 ≤ Wx.heap.size := by rw [hWx]; simp
 clear hWx
 go_cut [5, 6] (fun x y wx => ∃ b5 b6 A1 a1 B1 c1 A2 a2 B2 c2, x = .pointer (some ⟨b5, 0, none⟩) ∧ y = .pointer (some ⟨b6, 0, none⟩) ∧ b5 ≠ w.heap.size + 2 ∧ b6 ≠ w.heap.size + 2 ∧ Own wx b5 0 [.bool s1, .slice A1 (Pl.L n1) a1, .slice B1 (Pl.L d1) c1] ∧ Own wx b6 0 [.bool s2, .slice A2 (Pl.L n2) a2, .slice B2 (Pl.L d2) c2] ∧ DV wx (.slice A1 (Pl.L n1) a1) n1 ∧ DV wx (.slice B1 (Pl.L d1) c1) d1 ∧ DV wx (.slice A2 (Pl.L n2) a2) n2 ∧ DV wx (.slice B2 (Pl.L d2) c2) d2 ∧ Own wx (w.heap.size + 2) 0 [.bool false, .string ⟨#[]⟩, .bool false, .string ⟨#[]⟩] ∧ Below w.heap.size w wx)
 case first =>
  have hu := hold8 hx0 hx1
  go_region_held3 (fun w' => w'.cell? ⟨w.heap.size, 0, none⟩ = some (.bool s1) ∧ w'.cell? ⟨w.heap.size, 1, none⟩ = some (.string (mg n1)) ∧ w'.cell? ⟨w.heap.size, 2, none⟩ = some (.bool false) ∧ w'.cell? ⟨w.heap.size, 3, none⟩ = some (.string (mg m1)) ∧ w'.cell? ⟨w.heap.size + 1, 0, none⟩ = some (.bool s2) ∧ w'.cell? ⟨w.heap.size + 1, 1, none⟩ = some (.string (mg n2)) ∧ w'.cell? ⟨w.heap.size + 1, 2, none⟩ = some (.bool false) ∧ w'.cell? ⟨w.heap.size + 1, 3, none⟩ = some (.string (mg m2))) (refine hold8 ?_ ?_ <;> (repeat (first | with_reducible exact hx0.drew | with_reducible exact hx1.drew | with_reducible exact hx2.drew | with_reducible exact hx0 | with_reducible exact hx1 | with_reducible exact hx2 | with_reducible refine Own.drew ?_ | with_reducible refine own_put3 ?_ | (focus (with_reducible refine own_new3 ?_; first | with_reducible rfl | (simp; (fail_if_success (focus skip))))) | (focus (with_reducible refine Own.far _ _ ?_ ?_; focus ((first | omega | (simp; (fail_if_success (focus skip))) | (simp; omega))))) | with_reducible refine Own.alloc ?_ _ | with_reducible refine Own.up ?_ (by with_reducible assumption) | fail))) (first
   | (go_at_call 69; with_reducible refine (K1.out _).mono ?_; rintro e v1 ⟨vn1, vd1, rfl, hn1, hd1, hb1⟩; obtain ⟨A1, a1, rfl⟩ := dv_form hn1; obtain ⟨B1, c1, rfl⟩ := dv_form hd1; refine (have p2 : Own v1 (w.heap.size + 2) 0 [.bool false, .string ⟨#[]⟩, .bool false, .string ⟨#[]⟩] := ?_; ?_); (focus (repeat (first | with_reducible exact hx0.drew | with_reducible exact hx1.drew | with_reducible exact hx2.drew | with_reducible exact hx0 | with_reducible exact hx1 | with_reducible exact hx2 | with_reducible refine Own.drew ?_ | with_reducible refine own_put3 ?_ | (focus (with_reducible refine own_new3 ?_; first | with_reducible rfl | (simp; (fail_if_success (focus skip))))) | (focus (with_reducible refine Own.far _ _ ?_ ?_; focus ((first | omega | (simp; (fail_if_success (focus skip))) | (simp; omega))))) | with_reducible refine Own.alloc ?_ _ | with_reducible refine Own.up ?_ (by with_reducible assumption) | fail))); have p3 : w.heap.size + 2 < v1.heap.size := p2.lt; (try (refine (have q : Own v1 (Wx.heap.size) 0 [.bool false, .slice none 0 0, .slice none 0 0] := ?_; ?_); (focus ((repeat (first | with_reducible exact hx0.drew | with_reducible exact hx1.drew | with_reducible exact hx2.drew | with_reducible exact hx0 | with_reducible exact hx1 | with_reducible exact hx2 | with_reducible refine Own.drew ?_ | with_reducible refine own_put3 ?_ | (focus (with_reducible refine own_new3 ?_; first | with_reducible rfl | (simp; (fail_if_success (focus skip))))) | (focus (with_reducible refine Own.far _ _ ?_ ?_; focus ((first | omega | (simp; (fail_if_success (focus skip))) | (simp; omega))))) | with_reducible refine Own.alloc ?_ _ | with_reducible refine Own.up ?_ (by with_reducible assumption) | fail)); (fail_if_success (focus skip)))); have ql : Wx.heap.size < v1.heap.size := q.lt; refine (have qm : Wx.heap.size ≠ v1.heap.size := ?_; ?_); (focus omega); refine (have qn : Wx.heap.size ≠ v1.heap.size + 1 := ?_; ?_); (focus omega); simp only [Own, Nat.reduceAdd, and_true] at q; obtain ⟨⟨_, _⟩, ⟨_, _⟩, _, _⟩ := q)); (try (refine (have q : Own v1 (Wx.heap.size + 1) 0 [.bool false, .slice none 0 0, .slice none 0 0] := ?_; ?_); (focus ((repeat (first | with_reducible exact hx0.drew | with_reducible exact hx1.drew | with_reducible exact hx2.drew | with_reducible exact hx0 | with_reducible exact hx1 | with_reducible exact hx2 | with_reducible refine Own.drew ?_ | with_reducible refine own_put3 ?_ | (focus (with_reducible refine own_new3 ?_; first | with_reducible rfl | (simp; (fail_if_success (focus skip))))) | (focus (with_reducible refine Own.far _ _ ?_ ?_; focus ((first | omega | (simp; (fail_if_success (focus skip))) | (simp; omega))))) | with_reducible refine Own.alloc ?_ _ | with_reducible refine Own.up ?_ (by with_reducible assumption) | fail)); (fail_if_success (focus skip)))); have ql : Wx.heap.size + 1 < v1.heap.size := q.lt; refine (have qm : Wx.heap.size + 1 ≠ v1.heap.size := ?_; ?_); (focus omega); refine (have qn : Wx.heap.size + 1 ≠ v1.heap.size + 1 := ?_; ?_); (focus omega); simp only [Own, Nat.reduceAdd, and_true] at q; obtain ⟨⟨_, _⟩, ⟨_, _⟩, _, _⟩ := q)); (try (refine (have q : Own v1 (v2.heap.size) 0 [.bool false, .slice none 0 0, .slice none 0 0] := ?_; ?_); (focus ((repeat (first | with_reducible exact hx0.drew | with_reducible exact hx1.drew | with_reducible exact hx2.drew | with_reducible exact hx0 | with_reducible exact hx1 | with_reducible exact hx2 | with_reducible refine Own.drew ?_ | with_reducible refine own_put3 ?_ | (focus (with_reducible refine own_new3 ?_; first | with_reducible rfl | (simp; (fail_if_success (focus skip))))) | (focus (with_reducible refine Own.far _ _ ?_ ?_; focus ((first | omega | (simp; (fail_if_success (focus skip))) | (simp; omega))))) | with_reducible refine Own.alloc ?_ _ | with_reducible refine Own.up ?_ (by with_reducible assumption) | fail)); (fail_if_success (focus skip)))); have ql : v2.heap.size < v1.heap.size := q.lt; refine (have qm : v2.heap.size ≠ v1.heap.size := ?_; ?_); (focus omega); refine (have qn : v2.heap.size ≠ v1.heap.size + 1 := ?_; ?_); (focus omega); simp only [Own, Nat.reduceAdd, and_true] at q; obtain ⟨⟨_, _⟩, ⟨_, _⟩, _, _⟩ := q)); (try (refine (have q : Own v1 (v2.heap.size + 1) 0 [.bool false, .slice none 0 0, .slice none 0 0] := ?_; ?_); (focus ((repeat (first | with_reducible exact hx0.drew | with_reducible exact hx1.drew | with_reducible exact hx2.drew | with_reducible exact hx0 | with_reducible exact hx1 | with_reducible exact hx2 | with_reducible refine Own.drew ?_ | with_reducible refine own_put3 ?_ | (focus (with_reducible refine own_new3 ?_; first | with_reducible rfl | (simp; (fail_if_success (focus skip))))) | (focus (with_reducible refine Own.far _ _ ?_ ?_; focus ((first | omega | (simp; (fail_if_success (focus skip))) | (simp; omega))))) | with_reducible refine Own.alloc ?_ _ | with_reducible refine Own.up ?_ (by with_reducible assumption) | fail)); (fail_if_success (focus skip)))); have ql : v2.heap.size + 1 < v1.heap.size := q.lt; refine (have qm : v2.heap.size + 1 ≠ v1.heap.size := ?_; ?_); (focus omega); refine (have qn : v2.heap.size + 1 ≠ v1.heap.size + 1 := ?_; ?_); (focus omega); simp only [Own, Nat.reduceAdd, and_true] at q; obtain ⟨⟨_, _⟩, ⟨_, _⟩, _, _⟩ := q)))
   | (go_at_call 69; with_reducible refine (K2.out _).mono ?_; rintro e v2 ⟨vn2, vd2, rfl, hn2, hd2, hb2⟩; obtain ⟨A2, a2, rfl⟩ := dv_form hn2; obtain ⟨B2, c2, rfl⟩ := dv_form hd2; refine (have p2 : Own v2 (w.heap.size + 2) 0 [.bool false, .string ⟨#[]⟩, .bool false, .string ⟨#[]⟩] := ?_; ?_); (focus (repeat (first | with_reducible exact hx0.drew | with_reducible exact hx1.drew | with_reducible exact hx2.drew | with_reducible exact hx0 | with_reducible exact hx1 | with_reducible exact hx2 | with_reducible refine Own.drew ?_ | with_reducible refine own_put3 ?_ | (focus (with_reducible refine own_new3 ?_; first | with_reducible rfl | (simp; (fail_if_success (focus skip))))) | (focus (with_reducible refine Own.far _ _ ?_ ?_; focus ((first | omega | (simp; (fail_if_success (focus skip))) | (simp; omega))))) | with_reducible refine Own.alloc ?_ _ | with_reducible refine Own.up ?_ (by with_reducible assumption) | fail))); have p3 : w.heap.size + 2 < v2.heap.size := p2.lt; (try (refine (have q : Own v2 (Wx.heap.size) 0 [.bool false, .slice none 0 0, .slice none 0 0] := ?_; ?_); (focus ((repeat (first | with_reducible exact hx0.drew | with_reducible exact hx1.drew | with_reducible exact hx2.drew | with_reducible exact hx0 | with_reducible exact hx1 | with_reducible exact hx2 | with_reducible refine Own.drew ?_ | with_reducible refine own_put3 ?_ | (focus (with_reducible refine own_new3 ?_; first | with_reducible rfl | (simp; (fail_if_success (focus skip))))) | (focus (with_reducible refine Own.far _ _ ?_ ?_; focus ((first | omega | (simp; (fail_if_success (focus skip))) | (simp; omega))))) | with_reducible refine Own.alloc ?_ _ | with_reducible refine Own.up ?_ (by with_reducible assumption) | fail)); (fail_if_success (focus skip)))); have ql : Wx.heap.size < v2.heap.size := q.lt; refine (have qm : Wx.heap.size ≠ v2.heap.size := ?_; ?_); (focus omega); refine (have qn : Wx.heap.size ≠ v2.heap.size + 1 := ?_; ?_); (focus omega); simp only [Own, Nat.reduceAdd, and_true] at q; obtain ⟨⟨_, _⟩, ⟨_, _⟩, _, _⟩ := q)); (try (refine (have q : Own v2 (Wx.heap.size + 1) 0 [.bool false, .slice none 0 0, .slice none 0 0] := ?_; ?_); (focus ((repeat (first | with_reducible exact hx0.drew | with_reducible exact hx1.drew | with_reducible exact hx2.drew | with_reducible exact hx0 | with_reducible exact hx1 | with_reducible exact hx2 | with_reducible refine Own.drew ?_ | with_reducible refine own_put3 ?_ | (focus (with_reducible refine own_new3 ?_; first | with_reducible rfl | (simp; (fail_if_success (focus skip))))) | (focus (with_reducible refine Own.far _ _ ?_ ?_; focus ((first | omega | (simp; (fail_if_success (focus skip))) | (simp; omega))))) | with_reducible refine Own.alloc ?_ _ | with_reducible refine Own.up ?_ (by with_reducible assumption) | fail)); (fail_if_success (focus skip)))); have ql : Wx.heap.size + 1 < v2.heap.size := q.lt; refine (have qm : Wx.heap.size + 1 ≠ v2.heap.size := ?_; ?_); (focus omega); refine (have qn : Wx.heap.size + 1 ≠ v2.heap.size + 1 := ?_; ?_); (focus omega); simp only [Own, Nat.reduceAdd, and_true] at q; obtain ⟨⟨_, _⟩, ⟨_, _⟩, _, _⟩ := q)); (try (refine (have q : Own v2 (v1.heap.size) 0 [.bool false, .slice none 0 0, .slice none 0 0] := ?_; ?_); (focus ((repeat (first | with_reducible exact hx0.drew | with_reducible exact hx1.drew | with_reducible exact hx2.drew | with_reducible exact hx0 | with_reducible exact hx1 | with_reducible exact hx2 | with_reducible refine Own.drew ?_ | with_reducible refine own_put3 ?_ | (focus (with_reducible refine own_new3 ?_; first | with_reducible rfl | (simp; (fail_if_success (focus skip))))) | (focus (with_reducible refine Own.far _ _ ?_ ?_; focus ((first | omega | (simp; (fail_if_success (focus skip))) | (simp; omega))))) | with_reducible refine Own.alloc ?_ _ | with_reducible refine Own.up ?_ (by with_reducible assumption) | fail)); (fail_if_success (focus skip)))); have ql : v1.heap.size < v2.heap.size := q.lt; refine (have qm : v1.heap.size ≠ v2.heap.size := ?_; ?_); (focus omega); refine (have qn : v1.heap.size ≠ v2.heap.size + 1 := ?_; ?_); (focus omega); simp only [Own, Nat.reduceAdd, and_true] at q; obtain ⟨⟨_, _⟩, ⟨_, _⟩, _, _⟩ := q)); (try (refine (have q : Own v2 (v1.heap.size + 1) 0 [.bool false, .slice none 0 0, .slice none 0 0] := ?_; ?_); (focus ((repeat (first | with_reducible exact hx0.drew | with_reducible exact hx1.drew | with_reducible exact hx2.drew | with_reducible exact hx0 | with_reducible exact hx1 | with_reducible exact hx2 | with_reducible refine Own.drew ?_ | with_reducible refine own_put3 ?_ | (focus (with_reducible refine own_new3 ?_; first | with_reducible rfl | (simp; (fail_if_success (focus skip))))) | (focus (with_reducible refine Own.far _ _ ?_ ?_; focus ((first | omega | (simp; (fail_if_success (focus skip))) | (simp; omega))))) | with_reducible refine Own.alloc ?_ _ | with_reducible refine Own.up ?_ (by with_reducible assumption) | fail)); (fail_if_success (focus skip)))); have ql : v1.heap.size + 1 < v2.heap.size := q.lt; refine (have qm : v1.heap.size + 1 ≠ v2.heap.size := ?_; ?_); (focus omega); refine (have qn : v1.heap.size + 1 ≠ v2.heap.size + 1 := ?_; ?_); (focus omega); simp only [Own, Nat.reduceAdd, and_true] at q; obtain ⟨⟨_, _⟩, ⟨_, _⟩, _, _⟩ := q))))
  all_goals
   go_wp2_with fail
   go_meet
   refine ⟨_, _, A1, a1, B1, c1, A2, a2, B2, c2, rfl, rfl, by omega, by omega, ?_, ?_, ?_, ?_, ?_, ?_, ?_, ?_⟩
   ·(repeat (first | with_reducible exact hx0.drew | with_reducible exact hx1.drew | with_reducible exact hx2.drew | with_reducible exact hx0 | with_reducible exact hx1 | with_reducible exact hx2 | with_reducible refine Own.drew ?_ | with_reducible refine own_put3 ?_ | (focus (with_reducible refine own_new3 ?_; first | with_reducible rfl | (simp; (fail_if_success (focus skip))))) | (focus (with_reducible refine Own.far _ _ ?_ ?_; focus ((first | omega | (simp; (fail_if_success (focus skip))) | (simp; omega))))) | with_reducible refine Own.alloc ?_ _ | with_reducible refine Own.up ?_ (by with_reducible assumption) | fail))
   ·(repeat (first | with_reducible exact hx0.drew | with_reducible exact hx1.drew | with_reducible exact hx2.drew | with_reducible exact hx0 | with_reducible exact hx1 | with_reducible exact hx2 | with_reducible refine Own.drew ?_ | with_reducible refine own_put3 ?_ | (focus (with_reducible refine own_new3 ?_; first | with_reducible rfl | (simp; (fail_if_success (focus skip))))) | (focus (with_reducible refine Own.far _ _ ?_ ?_; focus ((first | omega | (simp; (fail_if_success (focus skip))) | (simp; omega))))) | with_reducible refine Own.alloc ?_ _ | with_reducible refine Own.up ?_ (by with_reducible assumption) | fail))
   ·refine hn1.ik ?_
    (repeat (first | with_reducible exact IK.refl _ | (focus (with_reducible refine IK.put3 ?_ ?_ _ _ _; rotate_left; focus ((repeat (first | with_reducible exact hx0.drew | with_reducible exact hx1.drew | with_reducible exact hx2.drew | with_reducible exact hx0 | with_reducible exact hx1 | with_reducible exact hx2 | with_reducible refine Own.drew ?_ | with_reducible refine own_put3 ?_ | (focus (with_reducible refine own_new3 ?_; first | with_reducible rfl | (simp; (fail_if_success (focus skip))))) | (focus (with_reducible refine Own.far _ _ ?_ ?_; focus ((first | omega | (simp; (fail_if_success (focus skip))) | (simp; omega))))) | with_reducible refine Own.alloc ?_ _ | with_reducible refine Own.up ?_ (by with_reducible assumption) | fail))))) | with_reducible refine IK.alloc ?_ _ | with_reducible refine IK.drew ?_ | with_reducible refine IK.up ?_ (by with_reducible assumption) | fail))
   ·refine hd1.ik ?_
    (repeat (first | with_reducible exact IK.refl _ | (focus (with_reducible refine IK.put3 ?_ ?_ _ _ _; rotate_left; focus ((repeat (first | with_reducible exact hx0.drew | with_reducible exact hx1.drew | with_reducible exact hx2.drew | with_reducible exact hx0 | with_reducible exact hx1 | with_reducible exact hx2 | with_reducible refine Own.drew ?_ | with_reducible refine own_put3 ?_ | (focus (with_reducible refine own_new3 ?_; first | with_reducible rfl | (simp; (fail_if_success (focus skip))))) | (focus (with_reducible refine Own.far _ _ ?_ ?_; focus ((first | omega | (simp; (fail_if_success (focus skip))) | (simp; omega))))) | with_reducible refine Own.alloc ?_ _ | with_reducible refine Own.up ?_ (by with_reducible assumption) | fail))))) | with_reducible refine IK.alloc ?_ _ | with_reducible refine IK.drew ?_ | with_reducible refine IK.up ?_ (by with_reducible assumption) | fail))
   ·refine hn2.ik ?_
    (repeat (first | with_reducible exact IK.refl _ | (focus (with_reducible refine IK.put3 ?_ ?_ _ _ _; rotate_left; focus ((repeat (first | with_reducible exact hx0.drew | with_reducible exact hx1.drew | with_reducible exact hx2.drew | with_reducible exact hx0 | with_reducible exact hx1 | with_reducible exact hx2 | with_reducible refine Own.drew ?_ | with_reducible refine own_put3 ?_ | (focus (with_reducible refine own_new3 ?_; first | with_reducible rfl | (simp; (fail_if_success (focus skip))))) | (focus (with_reducible refine Own.far _ _ ?_ ?_; focus ((first | omega | (simp; (fail_if_success (focus skip))) | (simp; omega))))) | with_reducible refine Own.alloc ?_ _ | with_reducible refine Own.up ?_ (by with_reducible assumption) | fail))))) | with_reducible refine IK.alloc ?_ _ | with_reducible refine IK.drew ?_ | with_reducible refine IK.up ?_ (by with_reducible assumption) | fail))
   ·refine hd2.ik ?_
    (repeat (first | with_reducible exact IK.refl _ | (focus (with_reducible refine IK.put3 ?_ ?_ _ _ _; rotate_left; focus ((repeat (first | with_reducible exact hx0.drew | with_reducible exact hx1.drew | with_reducible exact hx2.drew | with_reducible exact hx0 | with_reducible exact hx1 | with_reducible exact hx2 | with_reducible refine Own.drew ?_ | with_reducible refine own_put3 ?_ | (focus (with_reducible refine own_new3 ?_; first | with_reducible rfl | (simp; (fail_if_success (focus skip))))) | (focus (with_reducible refine Own.far _ _ ?_ ?_; focus ((first | omega | (simp; (fail_if_success (focus skip))) | (simp; omega))))) | with_reducible refine Own.alloc ?_ _ | with_reducible refine Own.up ?_ (by with_reducible assumption) | fail))))) | with_reducible refine IK.alloc ?_ _ | with_reducible refine IK.drew ?_ | with_reducible refine IK.up ?_ (by with_reducible assumption) | fail))
   ·(repeat (first | with_reducible exact hx0.drew | with_reducible exact hx1.drew | with_reducible exact hx2.drew | with_reducible exact hx0 | with_reducible exact hx1 | with_reducible exact hx2 | with_reducible refine Own.drew ?_ | with_reducible refine own_put3 ?_ | (focus (with_reducible refine own_new3 ?_; first | with_reducible rfl | (simp; (fail_if_success (focus skip))))) | (focus (with_reducible refine Own.far _ _ ?_ ?_; focus ((first | omega | (simp; (fail_if_success (focus skip))) | (simp; omega))))) | with_reducible refine Own.alloc ?_ _ | with_reducible refine Own.up ?_ (by with_reducible assumption) | fail))
   ·(repeat (first | with_reducible exact hBx.drew | with_reducible exact hBx | (focus (with_reducible refine Below.setCell ?_ ?_ _; rotate_left; focus (first | omega | (simp; (fail_if_success (focus skip))) | (simp; omega)))) | with_reducible refine bel_alloc ?_ _ | with_reducible refine Below.drew ?_ | with_reducible refine bel_up ?_ (by with_reducible assumption) | fail))
 case rest =>
  obtain ⟨b5, b6, A1, a1, B1, c1, A2, a2, B2, c2, rfl, rfl, hn5, hn6, h5, h6, dn1, dd1, dn2, dd2, hr, hB⟩ := hcut
  rename World => w1
  have KT := Lib.hid (fun W h1 h2 => rtimes_any (.slice A1 (Pl.L n1) a1) (.slice B2 (Pl.L d2) c2) n1 d2 W h1 h2 (by omega) (by omega))
  have KD := Lib.hid (fun W h1 h2 => rtimes_any (.slice A2 (Pl.L n2) a2) (.slice B1 (Pl.L d1) c1) n2 d1 W h1 h2 (by omega) (by omega))
  have KE := Lib.hid (fun W h1 h2 => rtimes_any (.slice B1 (Pl.L d1) c1) (.slice B2 (Pl.L d2) c2) d1 d2 W h1 h2 (by omega) (by omega))
  generalize n1 * d2 = P at *
  generalize n2 * d1 = Q at *
  have hu := hold6 h5 h6
  go_upto_region 2 with fail
  go_cut [7, 8] (fun p q wx => ∃ Ap ap Aq aq, p = .slice Ap (Pl.L P) ap ∧ q = .slice Aq (Pl.L Q) aq ∧ DV wx (.slice Ap (Pl.L P) ap) P ∧ DV wx (.slice Aq (Pl.L Q) aq) Q ∧ Below w1.heap.size w1 wx)
  case first =>
   go_region_held3 (fun w' => w'.cell? ⟨b5, 0, none⟩ = some (.bool s1) ∧ w'.cell? ⟨b5, 1, none⟩ = some (.slice A1 (Pl.L n1) a1) ∧ w'.cell? ⟨b5, 2, none⟩ = some (.slice B1 (Pl.L d1) c1) ∧ w'.cell? ⟨b6, 0, none⟩ = some (.bool s2) ∧ w'.cell? ⟨b6, 1, none⟩ = some (.slice A2 (Pl.L n2) a2) ∧ w'.cell? ⟨b6, 2, none⟩ = some (.slice B2 (Pl.L d2) c2)) (refine hold6 ?_ ?_ <;> (repeat (first | with_reducible exact h5.drew | with_reducible exact h6.drew | with_reducible exact hr.drew | with_reducible exact h5 | with_reducible exact h6 | with_reducible exact hr | with_reducible refine Own.drew ?_ | with_reducible refine own_put3 ?_ | (focus (with_reducible refine own_new3 ?_; first | with_reducible rfl | (simp; (fail_if_success (focus skip))))) | (focus (with_reducible refine Own.far _ _ ?_ ?_; focus ((first | omega | (simp; (fail_if_success (focus skip))) | (simp; omega))))) | with_reducible refine Own.alloc ?_ _ | with_reducible refine Own.up ?_ (by with_reducible assumption) | fail))) (first
    | (go_at_call 70; with_reducible refine (KT.out _ (by first | with_reducible exact dn1.drew | with_reducible exact dn1.drew.up hb1 | with_reducible exact dn1.drew.up hb2) (by first | with_reducible exact dd2.drew | with_reducible exact dd2.drew.up hb1 | with_reducible exact dd2.drew.up hb2)).mono ?_; rintro e v1 ⟨vp, rfl, hp, hb1⟩; obtain ⟨Ap, ap, rfl⟩ := dv_form hp)
    | (go_at_call 70; with_reducible refine (KD.out _ (by first | with_reducible exact dn2.drew | with_reducible exact dn2.drew.up hb1 | with_reducible exact dn2.drew.up hb2) (by first | with_reducible exact dd1.drew | with_reducible exact dd1.drew.up hb1 | with_reducible exact dd1.drew.up hb2)).mono ?_; rintro e v2 ⟨vq, rfl, hq, hb2⟩; obtain ⟨Aq, aq, rfl⟩ := dv_form hq))
   all_goals
    go_wp2_with fail
    go_meet
    refine ⟨Ap, ap, Aq, aq, rfl, rfl, (by first | with_reducible exact hp | with_reducible exact hp.up hb2), (by first | with_reducible exact hq | with_reducible exact hq.up hb1), ?_⟩
    first | with_reducible exact bel_up (bel_up (Below.refl _ _).drew hb1) hb2 | with_reducible exact bel_up (bel_up (Below.refl _ _).drew hb2) hb1
  case rest =>
   obtain ⟨Ap, ap, Aq, aq, rfl, rfl, hp, hq, hbc⟩ := hcut
   have g5 := h5.up hbc
   have g6 := h6.up hbc
   have gr := hr.up hbc
   have hB := bel_up hB hbc
   have hu := hold6 g5 g6
   have dd1 := dd1.up hbc
   have dd2 := dd2.up hbc
   clear hbc h5 h6 hr KT KD dn1 dn2
   go_wp2_with fail
   with_reducible refine (KE.out _ dd1 dd2).mono ?_
   rintro e w3 ⟨vd, rfl, hd, hb3⟩
   obtain ⟨Ad, ad, rfl⟩ := dv_form hd
   have g5 := g5.up hb3
   have g6 := g6.up hb3
   have gr := gr.up hb3
   have hB := bel_up hB hb3
   have hp := hp.up hb3
   have hq := hq.up hb3
   have hu := hold6 g5 g6
   clear hb3 dd1 dd2 KE
   by_cases hs : s1 = s2
   ·subst hs
    have KP := Lib.hid (fun W h1 h2 => rplus_any (.slice Ap (Pl.L P) ap) (.slice Aq (Pl.L Q) aq) P Q W h1 h2 (by omega) (by omega))
    have HS : Hid (sgnZ s1 (P + Q) = sgnZ s1 P + sgnZ s1 Q) := Lib.hid (by unfold sgnZ; split <;> omega)
    have HL : Hid (Pl.L (P + Q) ≤ 67108000) := Lib.hid (by have := Pl.L_add P Q; omega)
    go_wp2_with fail
    go_region_held3 (fun w' => w'.cell? ⟨b5, 0, none⟩ = some (.bool s1)) (refine hold1 (x1 := .slice A1 (Pl.L n1) a1) (x2 := .slice B1 (Pl.L d1) c1) ?_ <;> (repeat (first | with_reducible exact g5.drew | with_reducible exact g6.drew | with_reducible exact gr.drew | with_reducible exact g5 | with_reducible exact g6 | with_reducible exact gr | with_reducible refine Own.drew ?_ | with_reducible refine own_put3 ?_ | (focus (with_reducible refine own_new3 ?_; first | with_reducible rfl | (simp; (fail_if_success (focus skip))))) | (focus (with_reducible refine Own.far _ _ ?_ ?_; focus ((first | omega | (simp; (fail_if_success (focus skip))) | (simp; omega))))) | with_reducible refine Own.alloc ?_ _ | with_reducible refine Own.up ?_ (by with_reducible assumption) | fail))) (first
     | (go_at_call 72; with_reducible refine (KP.out _ (by with_reducible exact hp.drew) (by with_reducible exact hq.drew)).mono ?_; rintro e v1 ⟨vs, rfl, hv, hb5, _⟩; obtain ⟨As, ks, rfl⟩ := dv_form hv)
     | (go_at_call 71; with_reducible refine (KC.out _ _ _ _ _ HS.out HL.out hv (by with_reducible exact hd.drew.up hb5)).mono ?_; rintro e v2 ⟨rfl, hb6⟩; refine (have r3 : Own v2 (w.heap.size + 2) 0 [.bool false, .string ⟨#[]⟩, .bool false, .string ⟨#[]⟩] := ?_; ?_); (focus (repeat (first | with_reducible exact g5.drew | with_reducible exact g6.drew | with_reducible exact gr.drew | with_reducible exact g5 | with_reducible exact g6 | with_reducible exact gr | with_reducible refine Own.drew ?_ | with_reducible refine own_put3 ?_ | (focus (with_reducible refine own_new3 ?_; first | with_reducible rfl | (simp; (fail_if_success (focus skip))))) | (focus (with_reducible refine Own.far _ _ ?_ ?_; focus ((first | omega | (simp; (fail_if_success (focus skip))) | (simp; omega))))) | with_reducible refine Own.alloc ?_ _ | with_reducible refine Own.up ?_ (by with_reducible assumption) | fail))); simp only [Own, Nat.reduceAdd, and_true] at r3))
    all_goals
     go_wp2
     refine bodyPost_ret (v := .agg #[.bool rb, .string rt, .bool false, .string ru]) (by simp [results, Tryz.results29, go_sem, r3]) rfl ⟨rfl, ?_⟩
     repeat (first | with_reducible exact bel_up (bel_up hB.drew hb5) hb6 | refine Below.setCell ?_ (by first | (simp; done) | (simp; omega) | omega) _)
   ·have hs' : (s1 == s2) = false := by simpa using hs
    have hs2 : s2 = !s1 := by cases s1 <;> cases s2 <;> simp_all
    by_cases hle : Q ≤ P
    ·obtain ⟨z, hz, hz0⟩ : ∃ z : Int, cmpZ (P : Int) (Q : Int) = z ∧ 0 ≤ z := ⟨_, rfl, by unfold cmpZ; rw [if_neg (by omega)]; split <;> omega⟩
     have kk := fun W h1 h2 => rcmp_any (.slice Ap (Pl.L P) ap) (.slice Aq (Pl.L Q) aq) P Q W h1 h2 (by omega)
     simp only [hz] at kk
     have KK := Lib.hid kk
     have KP := Lib.hid (fun W h1 h2 => rminus_any (.slice Ap (Pl.L P) ap) (.slice Aq (Pl.L Q) aq) P Q W h1 h2 hle (by omega))
     have HS : Hid (sgnZ s1 (P - Q) = sgnZ s1 P + sgnZ s2 Q) := Lib.hid (by rw [hs2]; unfold sgnZ; cases s1 <;> simp <;> omega)
     have HL : Hid (Pl.L (P - Q) ≤ 67108000) := Lib.hid (by have := Pl.L_mono (Nat.sub_le P Q); omega)
     clear hs hs2 kk hz
     go_wp2_with fail
     with_reducible refine (KK.out _ hp hq).mono ?_
     rintro e w4 ⟨rfl, hb4⟩
     have g5 := g5.up hb4
     have g6 := g6.up hb4
     have gr := gr.up hb4
     have hB := bel_up hB hb4
     have hp := hp.up hb4
     have hq := hq.up hb4
     have hd := hd.up hb4
     have hu := hold6 g5 g6
     clear hb4
     go_wp2_with fail
     go_region_held3 (fun w' => w'.cell? ⟨b5, 0, none⟩ = some (.bool s1)) (refine hold1 (x1 := .slice A1 (Pl.L n1) a1) (x2 := .slice B1 (Pl.L d1) c1) ?_ <;> (repeat (first | with_reducible exact g5.drew | with_reducible exact g6.drew | with_reducible exact gr.drew | with_reducible exact g5 | with_reducible exact g6 | with_reducible exact gr | with_reducible refine Own.drew ?_ | with_reducible refine own_put3 ?_ | (focus (with_reducible refine own_new3 ?_; first | with_reducible rfl | (simp; (fail_if_success (focus skip))))) | (focus (with_reducible refine Own.far _ _ ?_ ?_; focus ((first | omega | (simp; (fail_if_success (focus skip))) | (simp; omega))))) | with_reducible refine Own.alloc ?_ _ | with_reducible refine Own.up ?_ (by with_reducible assumption) | fail))) (first
      | (go_at_call 74; with_reducible refine (KP.out _ (by with_reducible exact hp.drew) (by with_reducible exact hq.drew)).mono ?_; rintro e v1 ⟨vs, rfl, hv, hb5, _⟩; obtain ⟨As, ks, rfl⟩ := dv_form hv)
      | (go_at_call 71; with_reducible refine (KC.out _ _ _ _ _ HS.out HL.out hv (by with_reducible exact hd.drew.up hb5)).mono ?_; rintro e v2 ⟨rfl, hb6⟩; refine (have r3 : Own v2 (w.heap.size + 2) 0 [.bool false, .string ⟨#[]⟩, .bool false, .string ⟨#[]⟩] := ?_; ?_); (focus (repeat (first | with_reducible exact g5.drew | with_reducible exact g6.drew | with_reducible exact gr.drew | with_reducible exact g5 | with_reducible exact g6 | with_reducible exact gr | with_reducible refine Own.drew ?_ | with_reducible refine own_put3 ?_ | (focus (with_reducible refine own_new3 ?_; first | with_reducible rfl | (simp; (fail_if_success (focus skip))))) | (focus (with_reducible refine Own.far _ _ ?_ ?_; focus ((first | omega | (simp; (fail_if_success (focus skip))) | (simp; omega))))) | with_reducible refine Own.alloc ?_ _ | with_reducible refine Own.up ?_ (by with_reducible assumption) | fail))); simp only [Own, Nat.reduceAdd, and_true] at r3))
     all_goals
      go_wp2
      refine bodyPost_ret (v := .agg #[.bool rb, .string rt, .bool false, .string ru]) (by simp [results, Tryz.results29, go_sem, r3]) rfl ⟨rfl, ?_⟩
      repeat (first | with_reducible exact bel_up (bel_up hB.drew hb5) hb6 | refine Below.setCell ?_ (by first | (simp; done) | (simp; omega) | omega) _)
    ·obtain ⟨z, hz, hz0⟩ : ∃ z : Int, cmpZ (P : Int) (Q : Int) = z ∧ ¬ 0 ≤ z := ⟨_, rfl, by unfold cmpZ; rw [if_pos (by omega)]; omega⟩
     have kk := fun W h1 h2 => rcmp_any (.slice Ap (Pl.L P) ap) (.slice Aq (Pl.L Q) aq) P Q W h1 h2 (by omega)
     simp only [hz] at kk
     have KK := Lib.hid kk
     have KP := Lib.hid (fun W h1 h2 => rminus_any (.slice Aq (Pl.L Q) aq) (.slice Ap (Pl.L P) ap) Q P W h1 h2 (by omega) (by omega))
     have HS : Hid (sgnZ s2 (Q - P) = sgnZ s1 P + sgnZ s2 Q) := Lib.hid (by rw [hs2]; unfold sgnZ; cases s1 <;> simp <;> omega)
     have HL : Hid (Pl.L (Q - P) ≤ 67108000) := Lib.hid (by have := Pl.L_mono (Nat.sub_le Q P); omega)
     clear hs hs2 kk hz
     go_wp2_with fail
     with_reducible refine (KK.out _ hp hq).mono ?_
     rintro e w4 ⟨rfl, hb4⟩
     have g5 := g5.up hb4
     have g6 := g6.up hb4
     have gr := gr.up hb4
     have hB := bel_up hB hb4
     have hp := hp.up hb4
     have hq := hq.up hb4
     have hd := hd.up hb4
     have hu := hold6 g5 g6
     clear hb4
     go_wp2_with fail
     go_region_held3 (fun w' => w'.cell? ⟨b6, 0, none⟩ = some (.bool s2)) (refine hold1 (x1 := .slice A2 (Pl.L n2) a2) (x2 := .slice B2 (Pl.L d2) c2) ?_ <;> (repeat (first | with_reducible exact g5.drew | with_reducible exact g6.drew | with_reducible exact gr.drew | with_reducible exact g5 | with_reducible exact g6 | with_reducible exact gr | with_reducible refine Own.drew ?_ | with_reducible refine own_put3 ?_ | (focus (with_reducible refine own_new3 ?_; first | with_reducible rfl | (simp; (fail_if_success (focus skip))))) | (focus (with_reducible refine Own.far _ _ ?_ ?_; focus ((first | omega | (simp; (fail_if_success (focus skip))) | (simp; omega))))) | with_reducible refine Own.alloc ?_ _ | with_reducible refine Own.up ?_ (by with_reducible assumption) | fail))) (first
      | (go_at_call 74; with_reducible refine (KP.out _ (by with_reducible exact hq.drew) (by with_reducible exact hp.drew)).mono ?_; rintro e v1 ⟨vs, rfl, hv, hb5, _⟩; obtain ⟨As, ks, rfl⟩ := dv_form hv)
      | (go_at_call 71; with_reducible refine (KC.out _ _ _ _ _ HS.out HL.out hv (by with_reducible exact hd.drew.up hb5)).mono ?_; rintro e v2 ⟨rfl, hb6⟩; refine (have r3 : Own v2 (w.heap.size + 2) 0 [.bool false, .string ⟨#[]⟩, .bool false, .string ⟨#[]⟩] := ?_; ?_); (focus (repeat (first | with_reducible exact g5.drew | with_reducible exact g6.drew | with_reducible exact gr.drew | with_reducible exact g5 | with_reducible exact g6 | with_reducible exact gr | with_reducible refine Own.drew ?_ | with_reducible refine own_put3 ?_ | (focus (with_reducible refine own_new3 ?_; first | with_reducible rfl | (simp; (fail_if_success (focus skip))))) | (focus (with_reducible refine Own.far _ _ ?_ ?_; focus ((first | omega | (simp; (fail_if_success (focus skip))) | (simp; omega))))) | with_reducible refine Own.alloc ?_ _ | with_reducible refine Own.up ?_ (by with_reducible assumption) | fail))); simp only [Own, Nat.reduceAdd, and_true] at r3))
     all_goals
      go_wp2
      refine bodyPost_ret (v := .agg #[.bool rb, .string rt, .bool false, .string ru]) (by simp [results, Tryz.results29, go_sem, r3]) rfl ⟨rfl, ?_⟩
      repeat (first | with_reducible exact bel_up (bel_up hB.drew hb5) hb6 | refine Below.setCell ?_ (by first | (simp; done) | (simp; omega) | omega) _)
end Go.Proofs.YtdkkjfnpinckjaaGreatDoor
