/-
 Locate in the plain: it says whether a point lies in every half plane that holds the points.
-/
import Derived.Test.YtdkkjfnpinckjaaGreatDoorYConv
set_option maxRecDepth 100000
set_option linter.unusedSimpArgs false
set_option linter.unusedVariables false
namespace Go.Proofs.YtdkkjfnpinckjaaGreatDoor
namespace Pl

theorem Ring.rest_ne {S : List Pt} {f a : Pt} {l : List Pt} (h : Ring S f a l) : ∀ v ∈ l.tail, v ≠ f := by
 induction h with
 | last e => intro v hv; cases hv
 | step e hn hr ih =>
  intro v hv
  obtain ⟨m, rfl⟩ := hr.head
  rcases List.mem_cons.1 hv with rfl | hv
  ·exact hn
  ·exact ih v hv
theorem ring_zero {S : List Pt} {f : Pt} {h : List Pt} (hr : Ring S f f h) : ∃ m, h = f :: m := hr.head
theorem ring_two {S : List Pt} {f : Pt} {h : List Pt} (hr : Ring S f f h) (hn : 0 < h.length) : ∀ (i : Nat) (hi : i < h.length), h[(i + 2) % h.length]'(Nat.mod_lt _ hn) = h[i] → h.length ≤ 2
 | 0, hi, he => by
  refine Classical.byContradiction fun hc => ?_
  have h2 : (0 + 2) % h.length = 2 := Nat.mod_eq_of_lt (by omega)
  simp only [h2] at he
  obtain ⟨m, hm⟩ := ring_zero hr
  subst hm
  simp only [List.getElem_cons_zero, List.getElem_cons_succ] at he
  exact hr.rest_ne _ (by simp) he
 | i + 1, hi, he => by
  have e1 := ring_edge hr ((i + 2) % h.length) (Nat.mod_lt _ hn)
  have e2 := ring_edge hr i (by omega)
  have q1 : ((i + 2) % h.length + 1) % h.length = (i + 1 + 2) % h.length := by rw [Nat.mod_add_mod]
  have q2 : (i + 1) % h.length = i + 1 := Nat.mod_eq_of_lt hi
  simp only [q1] at e1
  simp only [q2] at e2
  rw [he] at e1
  exact ring_two hr hn i (by omega) (e1.head_unique e2)
theorem locF_all {l : List Pt} {p : Pt} : ∀ k, 0 ≤ locF l p k → ∀ i, i < k → 0 ≤ turn (edge l i).1 (edge l i).2 p
 | 0, _, i, hi => by omega
 | k + 1, h, i, hi => by
  rw [locF] at h
  rcases Nat.lt_or_ge i k with h1 | h1
  ·exact locF_all k (by omega) i h1
  ·have : i = k := by omega
   subst this; omega
theorem det_nonneg {a b p : Pt} (h : 0 ≤ turn a b p) : 0 ≤ det a b p := by
 rcases Classical.em (0 ≤ det a b p) with h1 | h1
 ·exact h1
 ·have h2 : 0 < det b a p := by rw [det_swap]; grind
  have h3 : turn a b p = - turn b a p := by unfold turn; rw [det_swap]; unfold sgn; simp
  have h4 : ¬ turn b a p ≤ 0 := fun e => by have := (turn_le b a p).1 e; grind
  omega
theorem ring_len {S : List Pt} {f : Pt} {h : List Pt} (hr : Ring S f f h) : 2 ≤ h.length := by
 obtain ⟨m, hm⟩ := ring_zero hr
 have h0 : 0 < h.length := by rw [hm]; simp
 refine Classical.byContradiction fun hc => ?_
 have e := ring_edge hr 0 h0
 have q : (0 + 1) % h.length = 0 := by rw [show h.length = 1 by omega]
 simp only [q] at e
 exact e.ne rfl
/-- The ring's own next point. -/
theorem ring_next {S : List Pt} {f : Pt} {h : List Pt} (hr : Ring S f f h) {i : Nat} (hi : i < h.length) {b : Pt} (e : Edge S h[i] b) : b = h[(i + 1) % h.length]'(Nat.mod_lt _ (by omega)) := e.tail_unique (ring_edge hr i hi)
/-- What Locate finds lies in the set. -/
theorem mem_locR {S h : List Pt} {p : Pt} (a : IsHull S h) (hl : 0 ≤ locR h p) : Mem S p := by
 rcases a with ⟨_, rfl⟩ | ⟨q, rfl, hq, _⟩ | ⟨f, hlf, hr⟩
 ·unfold locR at hl; simp at hl
 ·unfold locR at hl
  rw [if_neg (by simp), if_pos (by simp)] at hl
  split at hl
  ·rename_i h1
   have : q = p := h1
   exact this ▸ .of_mem hq
  ·omega
 have h2 := ring_len hr
 -- what is known of p at each edge
 have E : (h.length = 2 ∧ btwB p (h.getD 0 (0, 0)) (h.getD 1 (0, 0)) = true) ∨ (3 ≤ h.length ∧ ∀ i (hi : i < h.length), 0 ≤ det h[i] (h[(i + 1) % h.length]'(Nat.mod_lt _ (by omega))) p) := by
  unfold locR at hl
  rw [if_neg (by omega), if_neg (by omega)] at hl
  split at hl
  ·rename_i h3
   split at hl
   ·exact .inl ⟨h3, by assumption⟩
   ·omega
  ·refine .inr ⟨by omega, fun i hi => det_nonneg ?_⟩
   have := locF_all _ hl i hi
   rwa [edge_get hi] at this
 refine Classical.byContradiction fun hno => ?_
 obtain ⟨d, hd⟩ : ∃ d, ∀ s ∈ S, dotP s d < dotP p d := by
  refine Classical.byContradiction fun hc => hno fun d => ?_
  refine Classical.byContradiction fun hc2 => hc ⟨d, fun s hs => ?_⟩
  exact Rat.not_le.1 fun hle => hc2 ⟨s, hs, hle⟩
 have hd0 : ((-d.2, d.1) : Pt) ≠ (0, 0) := by
  intro e
  have h1 := hd _ hlf.1
  have e1 := congrArg Prod.fst e
  have e2 := congrArg Prod.snd e
  simp only at e1 e2
  unfold dotP at h1
  have e3 : d.2 = 0 := by grind
  rw [e2, e3] at h1
  grind
 obtain ⟨v, hv, hfar⟩ := far_point hd0 S (List.ne_nil_of_mem hlf.1)
 have hvh : v ∈ h := IsHull.extreme (.inr (.inr ⟨f, hlf, hr⟩)) hv fun s hs hne => (hfar s hs).resolve_left hne
 obtain ⟨m, hm⟩ := ring_zero hr
 have hf : f ∈ h := by rw [hm]; simp
 obtain ⟨b, eb, hb⟩ := hr.out v hvh
 have hb' : b ∈ h := hb.elim id fun e => e ▸ hf
 obtain ⟨z, hz, ez⟩ : ∃ z ∈ h, Edge S z v := by
  rcases hr.into.2 v hvh with rfl | h
  ·exact hr.into.1
  ·exact h
 have hB := (hfar b eb.mb).resolve_left eb.ne.symm
 have hA := (hfar z ez.ma).resolve_left ez.ne
 have hQ : In (-d.2, d.1) (-(subP p v).1, -(subP p v).2) := by
  left
  have h1 := hd v hv
  have e : crossP (-d.2, d.1) (-(subP p v).1, -(subP p v).2) = dotP p d - dotP v d := by unfold crossP subP dotP; grind
  rw [e]; grind
 have eZ : crossP (subP p v) (subP z v) = det z v p := by unfold det crossP subP; grind
 rcases E with ⟨hl2, hbt⟩ | ⟨hl3, hall⟩
 ·-- a segment
  match h, hl2, hbt, hr, hvh, hb', hz with
  | [x, y], _, hbt, hr, hvh, hb', hz =>
   have hbt : btwB p x y = true := hbt
   have hvb : (v = x ∧ b = y) ∨ (v = y ∧ b = x) := by
    have h1 : v = x ∨ v = y := by simpa using hvh
    have h2 : b = x ∨ b = y := by simpa using hb'
    have := eb.ne
    rcases h1 with rfl | rfl <;> rcases h2 with rfl | rfl <;> simp_all
   have hzb : z = b := by
    have h1 : z = x ∨ z = y := by simpa using hz
    have := ez.ne
    rcases hvb with ⟨h2, h3⟩ | ⟨h2, h3⟩ <;> rcases h1 with h1 | h1 <;> simp_all
   have hbt' : btwB p v b = true := by
    rcases hvb with ⟨rfl, rfl⟩ | ⟨rfl, rfl⟩
    ·exact hbt
    ·exact btw_comm hbt
   obtain ⟨g1, g2⟩ := (btw_iff _ _ _).1 hbt'
   subst hzb
   have e : dotP (subP v p) (subP z p) = dotP (subP p v) (subP p v) - dotP (subP p v) (subP z v) := by unfold dotP subP; grind
   rw [e] at g2
   have g3 : crossP (subP z v) (subP p v) = 0 := g1
   refine no_out (A := subP z v) (B := subP z v) (Q := subP p v) hA hB hQ ?_ ?_ ?_ (fun _ _ => by grind) (sub_ne eb.ne.symm)
   ·unfold crossP; grind
   ·rw [g3]; exact Rat.le_refl
   ·rw [show crossP (subP p v) (subP z v) = - crossP (subP z v) (subP p v) by unfold crossP; grind, g3]; grind
 ·have at_ : ∀ x y, x ∈ h → Edge S x y → 0 ≤ det x y p := by
   intro x y hx exy
   obtain ⟨i, hi, rfl⟩ := List.getElem_of_mem hx
   rw [ring_next hr hi exy]
   exact hall i hi
  refine no_out (A := subP z v) (B := subP b v) (Q := subP p v) hA hB hQ (eb.left z ez.ma) (at_ v b hvh eb) (by rw [eZ]; exact at_ z v hz ez) (fun h0 _ => ?_) (sub_ne eb.ne.symm)
  exfalso
  have k1 : btwB z v b = true := eb.on z ez.ma h0
  have k2 : btwB b z v = true := ez.on b eb.mb (by rw [det_rot]; exact h0)
  have k3 := btw_anti k2 (btw_comm k1)
  subst k3
  obtain ⟨i, hi, hiv⟩ := List.getElem_of_mem hvh
  subst hiv
  have q1 := ring_next hr hi eb
  have q2 := ring_next hr (Nat.mod_lt (i + 1) (by omega)) (b := h[i]) (by rw [← q1]; exact ez)
  have q3 : ((i + 1) % h.length + 1) % h.length = (i + 2) % h.length := by rw [Nat.mod_add_mod]
  simp only [q3] at q2
  have := ring_two hr (by omega) i hi q2.symm
  omega
/-- Every point of the set is found. -/
theorem locR_mem {S h : List Pt} {p : Pt} (a : IsHull S h) (hm : Mem S p) : 0 ≤ locR h p := by
 rcases a with ⟨rfl, _⟩ | ⟨q, rfl, _, hall⟩ | ⟨f, _, hr⟩
 ·exact absurd hm Mem.nil
 ·rw [hm.all_eq hall]; unfold locR; simp
 ·have E := ring_edge hr
  have h2 := ring_len hr
  unfold locR
  rw [if_neg (by omega), if_neg (by omega)]
  split
  ·rename_i hl
   have e1 := E 0 (by omega)
   have e2 := E 1 (by omega)
   have q1 : (0 + 1) % h.length = 1 := by rw [hl]
   have q2 : (1 + 1) % h.length = 0 := by rw [hl]
   simp only [q1, q2] at e1 e2
   have l1 := hm.half e1.left
   have l2 := hm.half e2.left
   rw [det_swap] at l2
   have l3 : det h[0] h[1] p = 0 := by grind
   rw [getD_of (List.getElem?_eq_getElem (by omega)), getD_of (List.getElem?_eq_getElem (by omega)), Mem.on e2 e1 hm l3]
   decide
  ·refine locF_nonneg (fun i hi => ?_) _ (Nat.le_refl _)
   rw [edge_get hi]
   exact turn_nonneg (hm.half (E i hi).left)
theorem loc_iff {S : List Pt} {p : Pt} : 0 ≤ locR (wrap S) p ↔ Mem S p := ⟨mem_locR (wrap_isHull S), locR_mem (wrap_isHull S)⟩
end Pl
end Go.Proofs.YtdkkjfnpinckjaaGreatDoor
