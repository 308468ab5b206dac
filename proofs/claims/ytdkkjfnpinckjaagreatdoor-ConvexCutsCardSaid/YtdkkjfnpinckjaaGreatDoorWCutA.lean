/-
 Areas in the plain: the areas of the two parts of a convex set add up.
-/
import Derived.Test.YtdkkjfnpinckjaaGreatDoorWCutS
set_option maxRecDepth 100000
set_option linter.unusedSimpArgs false
set_option linter.unusedVariables false
namespace Go.Proofs.YtdkkjfnpinckjaaGreatDoor
namespace Pl

/-- Twice the area, as far as the first k edges reckon it. -/
def areaF (l : List Pt) : Nat → Rat
 | 0 => 0
 | k + 1 => areaF l k + crossP (edge l k).1 (edge l k).2
def area2 (l : List Pt) : Rat := areaF l l.length
def sumE (f : Pt × Pt → Rat) : List (Pt × Pt) → Rat
 | [] => 0
 | e :: l => f e + sumE f l
theorem sumE_append (f : Pt × Pt → Rat) : ∀ l m, sumE f (l ++ m) = sumE f l + sumE f m
 | [], m => by rw [List.nil_append, sumE]; grind
 | e :: l, m => by rw [List.cons_append, sumE, sumE, sumE_append f l m]; grind
theorem sumE_perm {f : Pt × Pt → Rat} {l m : List (Pt × Pt)} (h : l.Perm m) : sumE f l = sumE f m := by
 induction h with
 | nil => rfl
 | cons x _ ih => rw [sumE, sumE, ih]
 | swap x y l => simp only [sumE]; grind
 | trans _ _ h1 h2 => rw [h1, h2]
theorem sumE_congr {f g : Pt × Pt → Rat} : ∀ {l : List (Pt × Pt)}, (∀ e ∈ l, f e = g e) → sumE f l = sumE g l
 | [], _ => rfl
 | e :: l, h => by rw [sumE, sumE, h e (by simp), sumE_congr fun x hx => h x (List.mem_cons_of_mem _ hx)]
theorem sumE_add (f g : Pt × Pt → Rat) : ∀ l : List (Pt × Pt), sumE (fun e => f e + g e) l = sumE f l + sumE g l
 | [] => by simp only [sumE]; grind
 | e :: l => by simp only [sumE]; rw [sumE_add f g l]; grind
theorem sumE_zero {f : Pt × Pt → Rat} {l : List (Pt × Pt)} (h : ∀ e ∈ l, f e = 0) : sumE f l = 0 := by
 rw [sumE_congr (g := fun _ => 0) h]
 induction l with
 | nil => rfl
 | cons e l ih => rw [sumE, ih fun x hx => h x (List.mem_cons_of_mem _ hx)]; grind
theorem sumE_filter {f : Pt × Pt → Rat} {p : Pt × Pt → Bool} : ∀ {l : List (Pt × Pt)}, (∀ e ∈ l, p e = false → f e = 0) → sumE f l = sumE f (l.filter p)
 | [], _ => rfl
 | e :: l, h => by
  have ih := sumE_filter (f := f) (p := p) (l := l) fun x hx => h x (List.mem_cons_of_mem _ hx)
  rw [sumE, ih, List.filter_cons]
  cases hp : p e
  ·rw [h e (by simp) hp]; simp only [Bool.false_eq_true, if_false]; grind
  ·simp only [if_true]; rw [sumE]
theorem sumE_map (f : Pt × Pt → Rat) (g : Pt × Pt → Pt × Pt) : ∀ l, sumE f (l.map g) = sumE (fun e => f (g e)) l
 | [] => rfl
 | e :: l => by rw [List.map_cons, sumE, sumE, sumE_map f g l]
theorem sumE_if (f : Pt × Pt → Rat) (p : Pt × Pt → Bool) : ∀ l, sumE f (l.filter p) = sumE (fun e => if p e then f e else 0) l
 | [] => rfl
 | e :: l => by
  rw [List.filter_cons, sumE]
  cases hp : p e
  ·simp only [Bool.false_eq_true, if_false]; rw [sumE_if f p l]; grind
  ·simp only [if_true]; rw [sumE, sumE_if f p l]
theorem nodup_map {α β : Type} {f : α → β} : ∀ {l : List α}, l.Nodup → (∀ x ∈ l, ∀ y ∈ l, f x = f y → x = y) → (l.map f).Nodup
 | [], _, _ => List.nodup_nil
 | x :: l, hn, hi => by
  rw [List.nodup_cons] at hn
  rw [List.map_cons, List.nodup_cons]
  refine ⟨fun h => ?_, nodup_map hn.2 fun y hy z hz => hi y (List.mem_cons_of_mem _ hy) z (List.mem_cons_of_mem _ hz)⟩
  obtain ⟨y, hy, e⟩ := List.mem_map.1 h
  exact hn.1 (hi y (List.mem_cons_of_mem _ hy) x (by simp) e ▸ hy)
theorem areaF_sum (l : List Pt) : ∀ k, areaF l k = sumE (fun e => crossP e.1 e.2) ((List.range k).map (edge l))
 | 0 => rfl
 | k + 1 => by rw [areaF, areaF_sum l k, List.range_succ, List.map_append, sumE_append]; simp only [List.map_cons, List.map_nil, sumE]; grind
/-- The sum over the edges' starts is that over their ends. -/
theorem ring_shift {C h : List Pt} {f : Pt} (hr : Ring C f f h) (g : Pt → Rat) : sumE (fun e => g e.1) ((List.range h.length).map (edge h)) = sumE (fun e => g e.2) ((List.range h.length).map (edge h)) := by
 have h2 := ring_len hr
 have E := ring_edge hr
 have H1 : ∀ l : List (Pt × Pt), sumE (fun e => g e.1) l = sumE (fun e => g e.1) (l.map fun e => (e.1, e.1)) := fun l => by rw [sumE_map]
 have H2 : ∀ l : List (Pt × Pt), sumE (fun e => g e.2) l = sumE (fun e => g e.1) (l.map fun e => (e.2, e.2)) := fun l => by rw [sumE_map]
 rw [H1, H2]
 have nd : ((List.range h.length).map (edge h)).Nodup := nodup_map List.nodup_range fun i hi j hj e => by
  have hi := List.mem_range.1 hi
  have hj := List.mem_range.1 hj
  rw [edge_get hi, edge_get hj] at e
  exact (List.getElem_inj hr.nodup).1 (congrArg Prod.fst e)
 have mem : ∀ e ∈ (List.range h.length).map (edge h), Edge C e.1 e.2 := fun e he => by
  obtain ⟨i, hi, rfl⟩ := List.mem_map.1 he
  have hi := List.mem_range.1 hi
  rw [edge_get hi]; exact E i hi
 refine sumE_perm ((List.perm_ext_iff_of_nodup (nodup_map nd fun x hx y hy e => ?_) (nodup_map nd fun x hx y hy e => ?_)).2 fun q => ?_)
 ·have e1 : x.1 = y.1 := (Prod.mk.inj e).1
  have m1 := mem x hx
  have m2 := mem y hy
  rw [e1] at m1
  exact Prod.ext e1 (m1.tail_unique m2)
 ·have e1 : x.2 = y.2 := (Prod.mk.inj e).1
  have m1 := mem x hx
  have m2 := mem y hy
  rw [e1] at m1
  exact Prod.ext (m1.head_unique m2) e1
 ·constructor
  ·intro hq
   obtain ⟨e, he, rfl⟩ := List.mem_map.1 hq
   obtain ⟨i, hi, rfl⟩ := List.mem_map.1 he
   have hi := List.mem_range.1 hi
   refine List.mem_map.2 ⟨edge h ((i + (h.length - 1)) % h.length), List.mem_map.2 ⟨_, List.mem_range.2 (Nat.mod_lt _ (by omega)), rfl⟩, ?_⟩
   have hm : ((i + (h.length - 1)) % h.length + 1) % h.length = i := by
    rw [Nat.mod_add_mod, show i + (h.length - 1) + 1 = i + h.length by omega, Nat.add_mod_right, Nat.mod_eq_of_lt hi]
   rw [edge_get hi, edge_get (Nat.mod_lt _ (by omega))]
   simp only [hm]
  ·intro hq
   obtain ⟨e, he, rfl⟩ := List.mem_map.1 hq
   obtain ⟨i, hi, rfl⟩ := List.mem_map.1 he
   have hi := List.mem_range.1 hi
   refine List.mem_map.2 ⟨edge h ((i + 1) % h.length), List.mem_map.2 ⟨_, List.mem_range.2 (Nat.mod_lt _ (by omega)), rfl⟩, ?_⟩
   rw [edge_get hi, edge_get (Nat.mod_lt _ (by omega))]
/-- The area of a hull is reckoned from its edges, in any order and from any point. -/
theorem area_edges (C : List Pt) : ∃ E : List (Pt × Pt), E.Nodup ∧ (∀ e, e ∈ E ↔ Edge C e.1 e.2) ∧ ∀ o, area2 (wrap C) = sumE (fun e => det o e.1 e.2) E := by
 rcases wrap_isHull C with ⟨h1, h2⟩ | ⟨p, h1, h2, h3⟩ | ⟨f, h1, hr⟩
 ·refine ⟨[], List.nodup_nil, fun e => ⟨fun h => (by cases h), fun h => ?_⟩, fun o => ?_⟩
  ·have := h.ma; rw [h1] at this; cases this
  ·rw [h2]; rfl
 ·refine ⟨[], List.nodup_nil, fun e => ⟨fun h => (by cases h), fun h => ?_⟩, fun o => ?_⟩
  ·exact absurd ((h3 _ h.ma).trans (h3 _ h.mb).symm) h.ne
  ·rw [h1]
   show areaF [p] 1 = 0
   simp only [areaF, edge, List.length_singleton, crossP]
   show (0 : Rat) + (p.1 * p.2 - p.2 * p.1) = 0
   grind
 ·generalize wrap C = h at *
  have h2 := ring_len hr
  have E := ring_edge hr
  refine ⟨(List.range h.length).map (edge h), nodup_map List.nodup_range fun i hi j hj e => ?_, fun e => ⟨fun he => ?_, fun he => ?_⟩, fun o => ?_⟩
  ·have hi := List.mem_range.1 hi
   have hj := List.mem_range.1 hj
   rw [edge_get hi, edge_get hj] at e
   exact (List.getElem_inj hr.nodup).1 (congrArg Prod.fst e)
  ·obtain ⟨i, hi, rfl⟩ := List.mem_map.1 he
   have hi := List.mem_range.1 hi
   rw [edge_get hi]; exact E i hi
  ·have hw : e.2 ∈ h := IsHull.extreme (.inr (.inr ⟨f, h1, hr⟩)) he.mb he.cone
   have hz : e.1 ∈ h := by
    rcases hr.into.2 e.2 hw with h3 | ⟨z, hz, ez⟩
    ·obtain ⟨z, hz, ez⟩ := hr.into.1
     rw [← h3] at ez
     rw [he.head_unique ez]; exact hz
    ·rw [he.head_unique ez]; exact hz
   obtain ⟨i, hi, hie⟩ := List.getElem_of_mem hz
   refine List.mem_map.2 ⟨i, List.mem_range.2 hi, ?_⟩
   rw [edge_get hi]
   have := ring_next hr hi (b := e.2) (by rw [hie]; exact he)
   rw [← this, hie]
  ·unfold area2
   rw [areaF_sum]
   have k : ∀ e : Pt × Pt, crossP e.1 e.2 = det o e.1 e.2 + ((o.1 * e.2.2 - o.2 * e.2.1) + (o.2 * e.1.1 - o.1 * e.1.2)) := fun e => by unfold det crossP subP; grind
   rw [sumE_congr (g := fun e => det o e.1 e.2 + ((o.1 * e.2.2 - o.2 * e.2.1) + (o.2 * e.1.1 - o.1 * e.1.2))) fun e _ => k e, sumE_add, sumE_add]
   have s1 := ring_shift hr fun p => o.1 * p.2 - o.2 * p.1
   have s2 : sumE (fun e : Pt × Pt => o.2 * e.1.1 - o.1 * e.1.2) ((List.range h.length).map (edge h)) = - sumE (fun e => o.1 * e.1.2 - o.2 * e.1.1) ((List.range h.length).map (edge h)) := by
    have := sumE_add (fun e : Pt × Pt => o.2 * e.1.1 - o.1 * e.1.2) (fun e : Pt × Pt => o.1 * e.1.2 - o.2 * e.1.1) ((List.range h.length).map (edge h))
    rw [sumE_zero (f := fun e : Pt × Pt => o.2 * e.1.1 - o.1 * e.1.2 + (o.1 * e.1.2 - o.2 * e.1.1)) fun e _ => by grind] at this
    grind
   rw [s2, s1]
   grind
/-- A point on the way from z to w. -/
def pt (z w : Pt) (r : Rat) : Pt := (z.1 + (w.1 - z.1) * r, z.2 + (w.2 - z.2) * r)
theorem pt_det (z w s : Pt) (r1 r2 : Rat) : det (pt z w r1) (pt z w r2) s = (r2 - r1) * det z w s := by unfold det crossP subP pt; simp only; grind
theorem pt_zero (z w : Pt) : pt z w 0 = z := by unfold pt; refine Prod.ext ?_ ?_ <;> (simp only; grind)
theorem pt_one (z w : Pt) : pt z w 1 = w := by unfold pt; refine Prod.ext ?_ ?_ <;> (simp only; grind)
theorem pt_on (z w : Pt) (r : Rat) : det z w (pt z w r) = 0 := by rw [show pt z w r = (z.1 + (w.1 - z.1) * r, z.2 + (w.2 - z.2) * r) from rfl, det_aff, det_self, det_self']; grind
theorem pt_ab (a b z w : Pt) (r : Rat) : det a b (pt z w r) = det a b z + (det a b w - det a b z) * r := det_aff a b z w r
theorem on_pt {z w u : Pt} (hzw : z ≠ w) (h : det z w u = 0) : ∃ k, u = pt z w k := by
 obtain ⟨e1, e2⟩ := lin_mean h
 have hp := dot_self_pos (sub_ne hzw.symm)
 generalize dotP (subP w z) (subP w z) = n at *
 generalize dotP (subP w z) (subP u z) = k at *
 have hk : k / n * n = k := Rat.div_mul_cancel (by grind)
 refine ⟨k / n, ?_⟩
 have g1 := mul_zero_of hp (b := u.1 - (z.1 + (w.1 - z.1) * (k / n))) (by grind)
 have g2 := mul_zero_of hp (b := u.2 - (z.2 + (w.2 - z.2) * (k / n))) (by grind)
 unfold pt
 exact Prod.ext (by simp only; grind) (by simp only; grind)
theorem pt_dots (z w : Pt) (k i j : Rat) : dotP (subP (pt z w i) (pt z w k)) (subP (pt z w j) (pt z w k)) = dotP (subP w z) (subP w z) * ((i - k) * (j - k)) := by unfold dotP subP pt; simp only; grind
theorem btw_pt {z w : Pt} (hzw : z ≠ w) {k i j : Rat} (h1 : i ≤ k) (h2 : k ≤ j) : btwB (pt z w k) (pt z w i) (pt z w j) = true := by
 rw [btw_iff]
 refine ⟨by rw [pt_det, pt_on]; grind, ?_⟩
 have hp := dot_self_pos (sub_ne hzw.symm)
 rw [pt_dots]
 have := Rat.mul_nonneg (Rat.le_of_lt hp) (Rat.mul_nonneg (show 0 ≤ k - i by grind) (show 0 ≤ j - k by grind))
 grind
theorem pt_btw {z w : Pt} (hzw : z ≠ w) {k : Rat} (h : btwB (pt z w k) z w = true) : 0 ≤ k ∧ k ≤ 1 := by
 have h1 := ((btw_iff _ _ _).1 h).2
 have e := pt_dots z w k 0 1
 rw [pt_zero, pt_one] at e
 rw [e] at h1
 have hp := dot_self_pos (sub_ne hzw.symm)
 have h2 : 0 ≤ k * (1 - k) := mul_nonneg_of hp (by grind)
 constructor
 ·refine Rat.not_lt.1 fun hneg => ?_
  have := Rat.mul_pos (show 0 < -k by grind) (show 0 < 1 - k by grind)
  grind
 ·refine Rat.not_lt.1 fun hgt => ?_
  have := Rat.mul_pos (show 0 < k by grind) (show 0 < k - 1 by grind)
  grind
/-- What of an edge lies to the left of the line. -/
def plus (a b : Pt) (e : Pt × Pt) : Pt × Pt := (if 0 ≤ det a b e.1 then e.1 else crs a b e.1 e.2, if 0 ≤ det a b e.2 then e.2 else crs a b e.1 e.2)
def isP (a b : Pt) (e : Pt × Pt) : Bool := decide (0 < det a b e.1) || decide (0 < det a b e.2)
theorem isP_iff {a b : Pt} {e : Pt × Pt} : isP a b e = true ↔ 0 < det a b e.1 ∨ 0 < det a b e.2 := by unfold isP; simp
theorem crs_pt {a b s t : Pt} (h : det a b s ≠ det a b t) : crs a b s t = pt s t (det a b s / (det a b s - det a b t)) := by
 unfold crs pt addP scaleP subP; rfl
theorem quot_mul {x y : Rat} (h : x ≠ y) : x / (x - y) * (x - y) = x := Rat.div_mul_cancel (by grind)
theorem plus_par {a b z w : Pt} (hp : isP a b (z, w) = true) : ∃ r1 r2 : Rat, 0 ≤ r1 ∧ r1 < r2 ∧ r2 ≤ 1 ∧ plus a b (z, w) = (pt z w r1, pt z w r2) ∧ (∀ k, 0 ≤ k → k ≤ 1 → 0 ≤ det a b (pt z w k) → r1 ≤ k ∧ k ≤ r2) := by
 have hp := isP_iff.1 hp
 simp only at hp
 unfold plus
 simp only
 by_cases hz : 0 ≤ det a b z
 ·by_cases hw : 0 ≤ det a b w
  ·rw [if_pos hz, if_pos hw]
   exact ⟨0, 1, by grind, by grind, by grind, by rw [pt_zero, pt_one], fun k h1 h2 _ => ⟨h1, h2⟩⟩
  ·have hne : det a b z ≠ det a b w := by grind
   rw [if_pos hz, if_neg hw, crs_pt hne]
   have q := quot_mul hne
   have hz0 : 0 < det a b z := by grind
   refine ⟨0, det a b z / (det a b z - det a b w), by grind, ?_, ?_, by rw [pt_zero], fun k h1 h2 h3 => ⟨h1, ?_⟩⟩
   ·refine mul_pos_of (show 0 < det a b z - det a b w by grind) (by grind)
   ·generalize det a b z / (det a b z - det a b w) = r at *
    have := mul_nonneg_of (show 0 < det a b z - det a b w by grind) (b := 1 - r) (by grind)
    grind
   ·rw [pt_ab] at h3
    generalize det a b z / (det a b z - det a b w) = r at *
    have := mul_nonneg_of (show 0 < det a b z - det a b w by grind) (b := r - k) (by grind)
    grind
 ·have hw : 0 < det a b w := by grind
  have hne : det a b z ≠ det a b w := by grind
  rw [if_neg hz, if_pos (Rat.le_of_lt hw), crs_pt hne]
  have q := quot_mul hne
  refine ⟨det a b z / (det a b z - det a b w), 1, ?_, ?_, by grind, by rw [pt_one], fun k h1 h2 h3 => ⟨?_, h2⟩⟩
  ·generalize det a b z / (det a b z - det a b w) = r at *
   have := mul_nonneg_of (show 0 < det a b w - det a b z by grind) (b := r) (by grind)
   grind
  ·generalize det a b z / (det a b z - det a b w) = r at *
   have := mul_pos_of (show 0 < det a b w - det a b z by grind) (b := 1 - r) (by grind)
   grind
  ·rw [pt_ab] at h3
   generalize det a b z / (det a b z - det a b w) = r at *
   have := mul_nonneg_of (show 0 < det a b w - det a b z by grind) (b := k - r) (by grind)
   grind
theorem plus_mem {h : List Pt} {a b z w : Pt} (hz : z ∈ h) (hw : w ∈ h) (hp : isP a b (z, w) = true) : (plus a b (z, w)).1 ∈ cutR h a b ∧ (plus a b (z, w)).2 ∈ cutR h a b := by
 have hp := isP_iff.1 hp
 simp only at hp
 unfold plus
 simp only
 have c : ∀ s t, s ∈ h → t ∈ h → det a b s < 0 → 0 < det a b t → crs a b s t ∈ cutR h a b := fun s t hs ht h1 h2 => cutR_mem.2 (.inr ⟨s, hs, t, ht, h1, h2, rfl⟩)
 constructor
 ·split
  ·exact cutR_mem.2 (.inl ⟨hz, by assumption⟩)
  ·exact c z w hz hw (by grind) (by grind)
 ·split
  ·exact cutR_mem.2 (.inl ⟨hw, by assumption⟩)
  ·rw [crs_comm (by grind)]; exact c w z hw hz (by grind) (by grind)
/-- What is left of an edge is an edge of what is left. -/
theorem plus_edge {h : List Pt} {f a b z w : Pt} (hr : Ring h f f h) (e : Edge h z w) (hp : isP a b (z, w) = true) : Edge (cutR h a b) (plus a b (z, w)).1 (plus a b (z, w)).2 := by
 obtain ⟨m1, m2⟩ := plus_mem e.ma e.mb hp
 obtain ⟨r1, r2, h1, h2, h3, he, hk⟩ := plus_par hp
 rw [he] at m1 m2 ⊢
 obtain ⟨z0, _, ez⟩ : ∃ z0 ∈ h, Edge h z0 z := by
  rcases hr.into.2 z e.ma with rfl | h
  ·exact hr.into.1
  ·exact h
 refine ⟨m1, m2, fun e' => ?_, fun s hs => ?_, fun s hs h0 => ?_⟩
 ·have e' : pt z w r1 = pt z w r2 := e'
  have := pt_dots z w r1 r2 r2
  rw [← e'] at this
  have hz : dotP (subP (pt z w r1) (pt z w r1)) (subP (pt z w r1) (pt z w r1)) = 0 := by unfold dotP subP; grind
  rw [hz] at this
  have p1 := dot_self_pos (sub_ne e.ne.symm)
  have p2 := Rat.mul_pos p1 (Rat.mul_pos (show 0 < r2 - r1 by grind) (show 0 < r2 - r1 by grind))
  grind
 ·rw [pt_det]
  exact Rat.mul_nonneg (by grind) ((cutR_iff.1 (.of_mem hs)).1.half e.left)
 ·rw [pt_det] at h0
  have hs0 : det z w s = 0 := mul_zero_of (show 0 < r2 - r1 by grind) h0
  obtain ⟨hm, hd⟩ := cutR_iff.1 (Mem.of_mem hs)
  have hb := Mem.on ez e hm hs0
  obtain ⟨k, rfl⟩ := on_pt e.ne hs0
  obtain ⟨k1, k2⟩ := pt_btw e.ne hb
  obtain ⟨k3, k4⟩ := hk k k1 k2 hd
  exact btw_pt e.ne k3 k4
/-- No line holds all points. -/
def Fat (h : List Pt) : Prop := ∀ m : Pt × Pt, m.1 ≠ m.2 → ∃ s ∈ h, det m.1 m.2 s ≠ 0
theorem cutR_fat {h : List Pt} {a b z w : Pt} (hf : Fat h) (e : Edge h z w) (hp : isP a b (z, w) = true) : ∃ q ∈ cutR h a b, 0 < det z w q := by
 obtain ⟨p, hp1, hp2⟩ := hf (z, w) e.ne
 simp only at hp2
 have hp3 : 0 < det z w p := by have := e.left p hp1; grind
 by_cases h1 : 0 ≤ det a b p
 ·exact ⟨p, cutR_mem.2 (.inl ⟨hp1, h1⟩), hp3⟩
 ·have go : ∀ x ∈ h, det z w x = 0 → 0 < det a b x → ∃ q ∈ cutR h a b, 0 < det z w q := by
   intro x hx hx0 hxp
   refine ⟨crs a b p x, cutR_mem.2 (.inr ⟨p, hp1, x, hx, by grind, hxp, rfl⟩), ?_⟩
   have hne : det a b p ≠ det a b x := by grind
   rw [crs_pt hne, pt_ab, hx0]
   have q := quot_mul hne
   generalize det a b p / (det a b p - det a b x) = r at *
   have h2 : (det a b x - det a b p) * (det z w p + (0 - det z w p) * r) = det a b x * det z w p := by grind
   exact mul_pos_of (show 0 < det a b x - det a b p by grind) (by rw [h2]; exact Rat.mul_pos hxp hp3)
  rcases isP_iff.1 hp with h2 | h2
  ·exact go z e.ma (det_self _ _) h2
  ·exact go w e.mb (det_self' _ _) h2
/-- An edge of what is left, off the line, is what is left of an edge. -/
theorem edge_plus {h : List Pt} {f a b u v : Pt} (hr : Ring h f f h) (hf : Fat h) (e : Edge (cutR h a b) u v) (hn : ¬ (det a b u = 0 ∧ det a b v = 0)) :
 ∃ z w, Edge h z w ∧ isP a b (z, w) = true ∧ plus a b (z, w) = (u, v) := by
 obtain ⟨z, w, hz, hw, ez, h1, h2⟩ := (cut_edge hr (fun p => cutR_iff) e).resolve_left hn
 obtain ⟨mu, lu⟩ := cutR_iff.1 (Mem.of_mem e.ma)
 obtain ⟨mv, lv⟩ := cutR_iff.1 (Mem.of_mem e.mb)
 obtain ⟨z0, _, ez0⟩ : ∃ z0 ∈ h, Edge h z0 z := by
  rcases hr.into.2 z hz with rfl | h
  ·exact hr.into.1
  ·exact h
 have bu := Mem.on ez0 ez mu h1
 have bv := Mem.on ez0 ez mv h2
 have hp : isP a b (z, w) = true := by
  rw [isP_iff]
  refine Classical.byContradiction fun hc => hn ?_
  simp only at hc
  have i : det a b z ≤ 0 := by grind
  have j : det a b w ≤ 0 := by grind
  obtain ⟨k1, n1, p1, p2, p3, p4⟩ := btw_mean (a := a) (b := b) bu ez.ne
  obtain ⟨k2, n2, q1, q2, q3, q4⟩ := btw_mean (a := a) (b := b) bv ez.ne
  have := mean_pos p1 p2 p3 p4 i j
  have := mean_pos q1 q2 q3 q4 i j
  constructor <;> grind
 refine ⟨z, w, ez, hp, ?_⟩
 have ep := plus_edge hr ez hp
 obtain ⟨q, hq, hqp⟩ := cutR_fat hf ez hp
 obtain ⟨r1, r2, g1, g2, g3, he, hk⟩ := plus_par hp
 rw [he] at ep ⊢
 have ep : Edge (cutR h a b) (pt z w r1) (pt z w r2) := ep
 obtain ⟨k1, rfl⟩ := on_pt ez.ne h1
 obtain ⟨k2, rfl⟩ := on_pt ez.ne h2
 have hl := e.left q hq
 rw [pt_det] at hl
 have hk12 : k1 < k2 := by
  have h3 : 0 ≤ k2 - k1 := mul_nonneg_of hqp (by grind)
  rcases Classical.em (k1 = k2) with h4 | h4
  ·exact absurd (by rw [h4]) e.ne
  ·grind
 have dir : ∀ i j : Rat, i < j → decide (0 < dotP (subP (pt z w j) (pt z w i)) (subP w z)) = true := fun i j hij => by
  rw [decide_eq_true_iff]
  have : dotP (subP (pt z w j) (pt z w i)) (subP w z) = dotP (subP w z) (subP w z) * (j - i) := by unfold dotP subP pt; simp only; grind
  rw [this]
  exact Rat.mul_pos (dot_self_pos (sub_ne ez.ne.symm)) (by grind)
 have h5 : pt z w r1 = pt z w k1 := edge_line (m := (z, w)) ez.ne ep e (pt_on _ _ _) (pt_on _ _ _) (pt_on _ _ _) (pt_on _ _ _) (by simp only; rw [dir _ _ g2, dir _ _ hk12])
 rw [h5] at ep ⊢
 rw [ep.tail_unique e]
theorem plus_inj {h : List Pt} {a b : Pt} {e e' : Pt × Pt} (h1 : Edge h e.1 e.2) (h2 : Edge h e'.1 e'.2) (p1 : isP a b e = true) (p2 : isP a b e' = true) (he : plus a b e = plus a b e') : e = e' := by
 obtain ⟨z, w⟩ := e
 obtain ⟨z', w'⟩ := e'
 simp only at h1 h2
 obtain ⟨r1, r2, g1, g2, g3, he1, hk⟩ := plus_par p1
 obtain ⟨i1, i2, j1, j2, j3, he2, _⟩ := plus_par p2
 rw [he1, he2] at he
 have e1 : pt z w r1 = pt z' w' i1 := congrArg Prod.fst he
 have e2 : pt z w r2 = pt z' w' i2 := congrArg Prod.snd he
 have col : ∀ (x y : Pt) (i j : Rat) (q : Pt), det x y q = 0 → det (pt x y i) (pt x y j) q = 0 := fun x y i j q hq => by rw [pt_det, hq]; grind
 have dd : ∀ (x y : Pt) (i j : Rat), dotP (subP y x) (subP (pt x y j) (pt x y i)) = dotP (subP y x) (subP y x) * (j - i) := fun x y i j => by unfold dotP subP pt; simp only; grind
 have dp : ∀ (x y : Pt) (i j : Rat), x ≠ y → i < j → decide (0 < dotP (subP y x) (subP (pt x y j) (pt x y i))) = true := fun x y i j hxy hij => by
  rw [decide_eq_true_iff, dd]
  exact Rat.mul_pos (dot_self_pos (sub_ne hxy.symm)) (by grind)
 have hm : pt z w r1 ≠ pt z w r2 := fun hc => by
  have := dp z w r1 r2 h1.ne g2
  rw [hc] at this
  rw [decide_eq_true_iff] at this
  have h0 : dotP (subP w z) (subP (pt z w r2) (pt z w r2)) = 0 := by unfold dotP subP; grind
  grind
 have h5 := edge_line (m := (pt z w r1, pt z w r2)) hm h1 h2 (col _ _ _ _ _ (det_self _ _)) (col _ _ _ _ _ (det_self' _ _)) (by simp only; rw [e1, e2]; exact col _ _ _ _ _ (det_self _ _)) (by simp only; rw [e1, e2]; exact col _ _ _ _ _ (det_self' _ _))
  (by simp only; rw [dp z w r1 r2 h1.ne g2, e1, e2, dp z' w' i1 i2 h2.ne j2])
 subst h5
 rw [h1.tail_unique h2]
/-- The area of the part to the left, by the edges of the whole. -/
theorem area_left {h E : List (Pt)} {f a b : Pt} {EH : List (Pt × Pt)} (hr : Ring h f f h) (hf : Fat h) (hab : a ≠ b) (hn : EH.Nodup) (hE : ∀ e, e ∈ EH ↔ Edge h e.1 e.2) {o : Pt} (ho : det a b o = 0) :
 area2 (wrap (cutR h a b)) = sumE (fun e => if isP a b e then det o (plus a b e).1 (plus a b e).2 else 0) EH := by
 obtain ⟨EX, x1, x2, x3⟩ := area_edges (cutR h a b)
 rw [x3 o, sumE_filter (p := fun e => !(decide (det a b e.1 = 0) && decide (det a b e.2 = 0))) (fun e _ hp => by
  have : det a b e.1 = 0 ∧ det a b e.2 = 0 := by simpa using hp
  exact line_col hab ho this.1 this.2)]
 rw [sumE_perm (m := (EH.filter (isP a b)).map (plus a b)) ((List.perm_ext_iff_of_nodup (x1.filter _) (nodup_map (hn.filter _) fun e he e' he' heq => ?_)).2 fun q => ?_), sumE_map, sumE_if]
 ·obtain ⟨k1, k2⟩ := List.mem_filter.1 he
  obtain ⟨k3, k4⟩ := List.mem_filter.1 he'
  exact plus_inj ((hE e).1 k1) ((hE e').1 k3) k2 k4 heq
 ·rw [List.mem_filter, x2, List.mem_map]
  constructor
  ·rintro ⟨h1, h2⟩
   obtain ⟨z, w, k1, k2, k3⟩ := edge_plus hr hf h1 (fun hc => by simp [hc.1, hc.2] at h2)
   exact ⟨(z, w), List.mem_filter.2 ⟨(hE _).2 k1, k2⟩, k3⟩
  ·rintro ⟨⟨z, w⟩, he, rfl⟩
   obtain ⟨k1, k2⟩ := List.mem_filter.1 he
   have k3 := (hE _).1 k1
   refine ⟨plus_edge hr k3 k2, ?_⟩
   have k4 := isP_iff.1 k2
   simp only at k4
   unfold plus
   simp only
   rw [Bool.not_eq_true', Bool.and_eq_false_iff, decide_eq_false_iff_not, decide_eq_false_iff_not]
   by_cases hz : 0 < det a b z
   ·left; rw [if_pos (Rat.le_of_lt hz)]; grind
   ·right; have hw : 0 < det a b w := by grind
    rw [if_pos (Rat.le_of_lt hw)]; grind
theorem crs_rev {a b s t : Pt} : crs b a s t = crs a b s t := by
 unfold crs
 rw [det_swap a b s, det_swap a b t]
 have : -det a b s / (-det a b s - -det a b t) = det a b s / (det a b s - det a b t) := by
  generalize det a b s = x
  generalize det a b t = y
  rw [show -x - -y = -(x - y) by grind]
  generalize x - y = n
  by_cases hn : n = 0
  ·rw [hn]; simp [Rat.div_def]
  ·have e1 : -x / -n * -n = -x := Rat.div_mul_cancel (by grind)
   have e2 : x / n * n = x := Rat.div_mul_cancel hn
   have e3 : (-x / -n - x / n) * n = 0 := by grind
   rcases Rat.mul_eq_zero.1 e3 with h | h
   ·grind
   ·exact absurd h hn
 rw [this]
theorem part_sum {a b o z w : Pt} (hab : a ≠ b) (ho : det a b o = 0) :
 (if isP a b (z, w) then det o (plus a b (z, w)).1 (plus a b (z, w)).2 else 0) + (if isP b a (z, w) then det o (plus b a (z, w)).1 (plus b a (z, w)).2 else 0) = det o z w := by
 have s1 := det_swap a b z
 have s2 := det_swap a b w
 have i1 := @isP_iff a b (z, w)
 have i2 := @isP_iff b a (z, w)
 simp only [s1, s2] at i1 i2
 have sp : ∀ r, det o z (pt z w r) + det o (pt z w r) w = det o z w := fun r => by unfold det crossP subP pt; simp only; grind
 unfold plus
 simp only [s1, s2, crs_rev]
 generalize hx : det a b z = x at *
 generalize hy : det a b w = y at *
 by_cases hx0 : 0 < x
 ·by_cases hy0 : 0 ≤ y
  ·rw [if_pos (i1.2 (.inl hx0)), if_pos (by grind), if_pos hy0, if_neg (fun h => by have := i2.1 h; grind)]; grind
  ·rw [if_pos (i1.2 (.inl hx0)), if_pos (by grind), if_neg hy0, if_pos (i2.2 (by grind)), if_neg (by grind), if_pos (by grind), crs_pt (by grind)]
   exact sp _
 ·by_cases hy0 : 0 < y
  ·by_cases hx1 : 0 ≤ x
   ·rw [if_pos (i1.2 (.inr hy0)), if_pos hx1, if_pos (by grind), if_neg (fun h => by have := i2.1 h; grind)]; grind
   ·rw [if_pos (i1.2 (.inr hy0)), if_neg hx1, if_pos (by grind), if_pos (i2.2 (by grind)), if_pos (by grind), if_neg (by grind), crs_pt (by grind)]
    have := sp (det a b z / (det a b z - det a b w))
    grind
  ·rw [if_neg (fun h => by have := i1.1 h; grind)]
   by_cases h0 : x = 0 ∧ y = 0
   ·rw [if_neg (fun h => by have := i2.1 h; grind), line_col hab ho (hx.trans h0.1) (hy.trans h0.2)]; grind
   ·rw [if_pos (i2.2 (by grind)), if_pos (by grind), if_pos (by grind)]; grind
theorem area_flat {C : List Pt} {m : Pt × Pt} (hm : m.1 ≠ m.2) (h : ∀ s ∈ C, det m.1 m.2 s = 0) : area2 (wrap C) = 0 := by
 obtain ⟨E, _, h2, h3⟩ := area_edges C
 rw [h3 m.1]
 exact sumE_zero fun e he => line_col hm (det_self _ _) (h _ ((h2 e).1 he).ma) (h _ ((h2 e).1 he).mb)
theorem mem_line {h : List Pt} {m : Pt × Pt} {p : Pt} (hall : ∀ s ∈ h, det m.1 m.2 s = 0) (hp : Mem h p) : det m.1 m.2 p = 0 := by
 have h1 := hp.half (a := m.1) (b := m.2) fun s hs => by rw [hall s hs]; exact Rat.le_refl
 have h2 := hp.half (a := m.2) (b := m.1) fun s hs => by rw [det_swap, hall s hs]; grind
 rw [det_swap] at h2
 grind
/-- The areas of both parts add up to that of the set. -/
theorem area_cut {h : List Pt} {a b : Pt} (hl : wrap h = h) (hab : a ≠ b) : area2 (wrap (cutR h a b)) + area2 (wrap (cutR h b a)) = area2 h := by
 rcases Classical.em (Fat h) with hf | hf
 ·rcases hull_ring hl with ⟨_, h3⟩ | ⟨f, hr⟩
  ·exfalso
   match h, h3 with
   | [], _ => obtain ⟨s, hs, _⟩ := hf ((0, 0), (1, 0)) (by decide); cases hs
   | [p], _ =>
    obtain ⟨s, hs, h4⟩ := hf (p, addP p (1, 0)) (by unfold addP; intro e; have := congrArg Prod.fst e; simp only at this; grind)
    rw [List.mem_singleton] at hs
    subst hs
    exact h4 (det_self _ _)
  ·obtain ⟨EH, x1, x2, x3⟩ := area_edges h
   rw [hl] at x3
   rw [x3 a, area_left (E := []) hr hf hab x1 x2 (o := a) (det_self _ _), area_left (E := []) hr hf hab.symm x1 x2 (o := a) (by rw [det_swap, det_self]; grind), ← sumE_add]
   exact sumE_congr fun e _ => part_sum (z := e.1) (w := e.2) hab (det_self _ _)
 ·obtain ⟨m, hm, hall⟩ : ∃ m : Pt × Pt, m.1 ≠ m.2 ∧ ∀ s ∈ h, det m.1 m.2 s = 0 := by
   refine Classical.byContradiction fun hc => hf fun m hm => Classical.byContradiction fun hc2 => hc ⟨m, hm, fun s hs => Classical.byContradiction fun h4 => hc2 ⟨s, hs, h4⟩⟩
  rw [area_flat hm fun s hs => mem_line hall (cutR_iff.1 (.of_mem hs)).1, area_flat hm fun s hs => mem_line hall (cutR_iff.1 (.of_mem hs)).1, ← hl, area_flat hm hall]
  grind
end Pl
end Go.Proofs.YtdkkjfnpinckjaaGreatDoor
