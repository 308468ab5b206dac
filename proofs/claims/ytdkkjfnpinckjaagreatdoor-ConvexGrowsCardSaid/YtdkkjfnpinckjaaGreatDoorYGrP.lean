/-
 Growing in the plain: the squared distance of a point from a set; the rings around a disk; the sums with both.
-/
import Derived.Test.YtdkkjfnpinckjaaGreatDoorYDsl
set_option maxRecDepth 100000
set_option linter.unusedSimpArgs false
set_option linter.unusedVariables false
namespace Go.Proofs.YtdkkjfnpinckjaaGreatDoor
namespace Pl

/-- What the law takes for an edge. -/
def nearE (p a b : Pt) : Rat :=
 if 0 < dotP (subP b a) (subP b a) then
  (if 0 < dotP (subP p a) (subP b a) / dotP (subP b a) (subP b a) ∧ dotP (subP p a) (subP b a) / dotP (subP b a) (subP b a) < 1 then
   dist2 (addP a (scaleP (subP b a) (dotP (subP p a) (subP b a) / dotP (subP b a) (subP b a)))) p else dist2 a p) else dist2 a p
/-- The least of an edge and those ahead. -/
def nearF (l : List Pt) (p : Pt) : Nat → Rat
 | 0 => dist2 (l.getD 0 (0, 0)) p
 | k + 1 => if nearE p (edge l k).1 (edge l k).2 < nearF l p k then nearE p (edge l k).1 (edge l k).2 else nearF l p k
/-- The law's nearest. -/
def nearR (l : List Pt) (p : Pt) : Rat := if 0 ≤ locR l p then 0 else nearF l p l.length

theorem nearF_le {l : List Pt} {p : Pt} : ∀ {k i : Nat}, i < k → nearF l p k ≤ nearE p (edge l i).1 (edge l i).2
 | 0, i, h => by omega
 | k + 1, i, h => by
  rw [nearF]
  rcases Nat.lt_succ_iff_lt_or_eq.1 h with h1 | h1
  ·have := nearF_le (l := l) (p := p) h1
   split <;> grind
  ·subst h1; split <;> grind
theorem nearF_get {l : List Pt} {p : Pt} : ∀ k : Nat, nearF l p k = dist2 (l.getD 0 (0, 0)) p ∨ ∃ i, i < k ∧ nearF l p k = nearE p (edge l i).1 (edge l i).2
 | 0 => .inl rfl
 | k + 1 => by
  rw [nearF]
  split
  ·exact .inr ⟨k, by omega, rfl⟩
  ·rcases nearF_get (l := l) (p := p) k with h | ⟨i, hi, h⟩
   ·exact .inl h
   ·exact .inr ⟨i, by omega, h⟩
/-- The value of an edge is the distance of one of its points. -/
theorem nearE_at (p a b : Pt) : ∃ t : Rat, 0 ≤ t ∧ t ≤ 1 ∧ nearE p a b = dist2 (addP a (scaleP (subP b a) t)) p := by
 have h0 : ∃ t : Rat, 0 ≤ t ∧ t ≤ 1 ∧ dist2 a p = dist2 (addP a (scaleP (subP b a) t)) p :=
  ⟨0, Rat.le_refl, by grind, by unfold dist2 dotP addP scaleP subP; grind⟩
 unfold nearE
 split
 ·split
  ·rename_i h; exact ⟨_, Rat.le_of_lt h.1, Rat.le_of_lt h.2, rfl⟩
  ·exact h0
 ·exact h0
theorem seg_mem {S : List Pt} {a b : Pt} {t : Rat} (ha : Mem S a) (hb : Mem S b) (h0 : 0 ≤ t) (h1 : t ≤ 1) : Mem S (addP a (scaleP (subP b a) t)) := fun d => by
 have e : dotP (addP a (scaleP (subP b a) t)) d = (1 - t) * dotP a d + t * dotP b d := by unfold dotP addP scaleP subP; grind
 rw [e]
 rcases Classical.em (dotP a d ≤ dotP b d) with h | h
 ·obtain ⟨s, hs, h2⟩ := hb d
  refine ⟨s, hs, Rat.le_trans ?_ h2⟩
  have := Rat.mul_nonneg (show 0 ≤ 1 - t by grind) (show 0 ≤ dotP b d - dotP a d by grind)
  grind
 ·obtain ⟨s, hs, h2⟩ := ha d
  refine ⟨s, hs, Rat.le_trans ?_ h2⟩
  have := Rat.mul_nonneg h0 (show 0 ≤ dotP a d - dotP b d by grind)
  grind
/-- The law's value is the distance of a point of the set. -/
theorem nearR_at {S h : List Pt} {p : Pt} (H : IsHull S h) (hne : h ≠ []) : ∃ q, Mem S q ∧ nearR h p = dist2 q p := by
 have h0 : 0 < h.length := List.length_pos_iff.2 hne
 have G : ∀ i, i < h.length → Mem S (h.getD i (0, 0)) := fun i hi => by
  rw [getD_of (List.getElem?_eq_getElem hi)]
  exact .of_mem (H.sub _ (List.getElem_mem hi))
 unfold nearR
 split
 ·rename_i hl
  exact ⟨p, mem_locR H hl, by unfold dist2 dotP subP; grind⟩
 ·rcases nearF_get (l := h) (p := p) h.length with e | ⟨i, hi, e⟩
  ·exact ⟨_, G 0 h0, e⟩
  ·obtain ⟨t, t0, t1, e2⟩ := nearE_at p (edge h i).1 (edge h i).2
   exact ⟨_, seg_mem (G i hi) (G _ (Nat.mod_lt _ h0)) t0 t1, e.trans e2⟩
/-- No point of an edge is nearer than both its value and its ends. -/
theorem nearE_le {p a b y : Pt} {m : Rat} (hy : btwB y a b = true) (hm : m ≤ nearE p a b) (hb : m ≤ dist2 b p) (ha : m ≤ dist2 a p) : m ≤ dist2 y p := by
 rcases Classical.em (a = b) with e | hne
 ·subst e
  obtain ⟨_, h2⟩ := (btw_iff _ _ _).1 hy
  have h3 : subP a y = (0, 0) := Classical.byContradiction fun hc => by have := dot_self_pos hc; grind
  rw [← sub_zero h3]; exact ha
 obtain ⟨h1, h2⟩ := (btw_iff _ _ _).1 hy
 have hd := dot_self_pos (sub_ne (Ne.symm hne))
 unfold nearE at hm
 rw [if_pos hd] at hm
 -- y = a + s (b - a)
 obtain ⟨s, hs⟩ : ∃ s, s * dotP (subP b a) (subP b a) = dotP (subP y a) (subP b a) := ⟨dotP (subP y a) (subP b a) / dotP (subP b a) (subP b a), Rat.div_mul_cancel (by grind)⟩
 obtain ⟨t, ht⟩ : ∃ t, t = dotP (subP p a) (subP b a) / dotP (subP b a) (subP b a) := ⟨_, rfl⟩
 have ht' : t * dotP (subP b a) (subP b a) = dotP (subP p a) (subP b a) := by rw [ht]; exact Rat.div_mul_cancel (by grind)
 rw [← ht] at hm
 have ey : dist2 y p = dist2 a p - 2 * s * dotP (subP p a) (subP b a) + s * s * dotP (subP b a) (subP b a) := by
  have e0 : crossP (subP b a) (subP y a) = 0 := h1
  have i1 : dotP (subP b a) (subP b a) * (subP y a).1 = dotP (subP b a) (subP b a) * (s * (subP b a).1) := by
   have : dotP (subP b a) (subP b a) * (subP y a).1 = dotP (subP y a) (subP b a) * (subP b a).1 - crossP (subP b a) (subP y a) * (subP b a).2 := by unfold dotP crossP; grind
   rw [this, e0, ← hs]; grind
  have i2 : dotP (subP b a) (subP b a) * (subP y a).2 = dotP (subP b a) (subP b a) * (s * (subP b a).2) := by
   have : dotP (subP b a) (subP b a) * (subP y a).2 = dotP (subP y a) (subP b a) * (subP b a).2 + crossP (subP b a) (subP y a) * (subP b a).1 := by unfold dotP crossP; grind
   rw [this, e0, ← hs]; grind
  have j1 : (subP y a).1 = s * (subP b a).1 := by have := mul_zero_of hd (b := (subP y a).1 - s * (subP b a).1) (by grind); grind
  have j2 : (subP y a).2 = s * (subP b a).2 := by have := mul_zero_of hd (b := (subP y a).2 - s * (subP b a).2) (by grind); grind
  have e : dist2 y p = dist2 a p - 2 * dotP (subP y a) (subP p a) + dotP (subP y a) (subP y a) := by unfold dist2 dotP subP; grind
  rw [e]
  unfold dotP at *
  rw [j1, j2]; grind
 have es : dotP (subP a y) (subP b y) = dotP (subP b a) (subP b a) * (s * (s - 1)) := by
  have k1 : dotP (subP b a) (subP b a) * dotP (subP a y) (subP b y) = dotP (subP y a) (subP b a) * (dotP (subP y a) (subP b a) - dotP (subP b a) (subP b a)) + det a b y * det a b y := by
   unfold det crossP dotP subP; grind
  rw [h1, ← hs] at k1
  have := mul_zero_of hd (b := dotP (subP a y) (subP b y) - dotP (subP b a) (subP b a) * (s * (s - 1))) (by grind)
  grind
 have hs1 : 0 ≤ s * (1 - s) := mul_nonneg_of hd (by grind)
 have s0 : 0 ≤ s := Classical.byContradiction fun hc => by have := Rat.mul_pos (show 0 < -s by grind) (show 0 < 1 - s by grind); grind
 have s1 : s ≤ 1 := Classical.byContradiction fun hc => by have := Rat.mul_pos (show 0 < s by grind) (show 0 < s - 1 by grind); grind
 have eb : dist2 b p = dist2 a p - 2 * dotP (subP p a) (subP b a) + dotP (subP b a) (subP b a) := by unfold dist2 dotP subP; grind
 have et : dist2 (addP a (scaleP (subP b a) t)) p = dist2 a p - 2 * t * dotP (subP p a) (subP b a) + t * t * dotP (subP b a) (subP b a) := by unfold dist2 dotP addP scaleP subP; grind
 rw [et] at hm
 rw [← ht'] at ey eb hm
 generalize dotP (subP b a) (subP b a) = n at *
 rw [ey]
 by_cases q0 : 0 < t
 ·by_cases q1 : t < 1
  ·rw [if_pos ⟨q0, q1⟩] at hm
   have := Rat.mul_nonneg (Rat.le_of_lt hd) (sq_nonneg (s - t))
   grind
  ·-- beyond b
   have k1 := Rat.mul_nonneg (Rat.le_of_lt hd) (sq_nonneg (1 - s))
   have k2 := Rat.mul_nonneg (Rat.mul_nonneg (Rat.le_of_lt hd) (show 0 ≤ 1 - s by grind)) (show 0 ≤ t - 1 by grind)
   grind
 ·have k1 := Rat.mul_nonneg (Rat.le_of_lt hd) (sq_nonneg s)
  have k2 := Rat.mul_nonneg (Rat.mul_nonneg (Rat.le_of_lt hd) s0) (show 0 ≤ -t by grind)
  grind
theorem exists_min {α : Type} (f : α → Rat) : ∀ (l : List α), l ≠ [] → ∃ x ∈ l, ∀ y ∈ l, f x ≤ f y
 | [x], _ => ⟨x, by simp, fun y hy => by simp at hy; subst hy; exact Rat.le_refl⟩
 | x :: y :: l, _ => by
  obtain ⟨z, hz, h⟩ := exists_min f (y :: l) (by simp)
  rcases Classical.em (f x ≤ f z) with h1 | h1
  ·exact ⟨x, by simp, fun w hw => (List.mem_cons.1 hw).elim (fun e => e ▸ Rat.le_refl) fun hw => Rat.le_trans h1 (h w hw)⟩
  ·exact ⟨z, List.mem_cons_of_mem _ hz, fun w hw => (List.mem_cons.1 hw).elim (fun e => by subst e; grind) fun hw => h w hw⟩
/-- From a point of the set to one that is not: an edge is crossed. -/
theorem crossing {S h : List Pt} {f x p : Pt} (hr : Ring S f f h) (H : IsHull S h) (hx : Mem S x) (hp : ¬ Mem S p) :
 ∃ (i : Nat) (hi : i < h.length) (y : Pt), btwB y h[i] (h[(i + 1) % h.length]'(Nat.mod_lt _ (by omega))) = true ∧ dist2 y p ≤ dist2 x p := by
 have E := ring_edge hr
 have h2 := ring_len hr
 rcases Nat.lt_or_ge h.length 3 with h3 | h3
 ·-- a segment: x lies on it
  have hl : h.length = 2 := by omega
  refine ⟨0, by omega, x, ?_, Rat.le_refl⟩
  have e1 := E 0 (by omega)
  have e2 := E 1 (by omega)
  have q1 : (0 + 1) % h.length = 1 := by rw [hl]
  have q2 : (1 + 1) % h.length = 0 := by rw [hl]
  simp only [q1, q2] at e1 e2 ⊢
  have l1 := hx.half e1.left
  have l2 := hx.half e2.left
  rw [det_swap] at l2
  exact Mem.on e2 e1 hx (by grind)
 ·let D : Nat → Pt → Rat := fun i q => det (edge h i).1 (edge h i).2 q
  have DE : ∀ i (hi : i < h.length) q, D i q = det h[i] (h[(i + 1) % h.length]'(Nat.mod_lt _ (by omega))) q := fun i hi q => by
   show det (edge h i).1 (edge h i).2 q = _
   rw [edge_get hi]
  have Dx : ∀ i, i < h.length → 0 ≤ D i x := fun i hi => by rw [DE i hi]; exact hx.half (E i hi).left
  let V := (List.range h.length).filter fun i => decide (D i p < 0)
  have hV : V ≠ [] := by
   intro e
   refine hp (mem_locR H ?_)
   unfold locR
   rw [if_neg (by omega), if_neg (by omega), if_neg (by omega)]
   refine locF_nonneg (fun i hi => turn_nonneg ?_) _ (Nat.le_refl _)
   refine Classical.byContradiction fun hc => ?_
   have : i ∈ V := List.mem_filter.2 ⟨List.mem_range.2 hi, decide_eq_true (Rat.not_le.1 hc)⟩
   rw [e] at this; cases this
  obtain ⟨i, hi, hmin⟩ := exists_min (fun i => D i x / (D i x - D i p)) V hV
  have hVi : ∀ j, j ∈ V ↔ j < h.length ∧ D j p < 0 := fun j => by
   simp only [V, List.mem_filter, List.mem_range, decide_eq_true_eq]
  obtain ⟨hil, hin⟩ := (hVi i).1 hi
  have tau : ∀ j ∈ V, D j x / (D j x - D j p) * (D j x - D j p) = D j x := fun j hj => by
   have h1 := (hVi j).1 hj
   have := Dx j h1.1
   exact Rat.div_mul_cancel (by grind)
  obtain ⟨t, ht⟩ : ∃ t, t = D i x / (D i x - D i p) := ⟨_, rfl⟩
  have hti := tau i hi
  simp only [← ht] at hti hmin
  have hxi := Dx i hil
  have t0 : 0 ≤ t := mul_nonneg_of (show 0 < D i x - D i p by grind) (by grind)
  have t1 : t ≤ 1 := Classical.byContradiction fun hc => by
   have := Rat.mul_pos (show 0 < t - 1 by grind) (show 0 < D i x - D i p by grind)
   grind
  let y := addP x (scaleP (subP p x) t)
  have Dy : ∀ j, D j y = (1 - t) * D j x + t * D j p := fun j => by
   show det _ _ (addP x (scaleP (subP p x) t)) = (1 - t) * det _ _ x + t * det _ _ p
   unfold det crossP addP scaleP subP; grind
  have hy0 : D i y = 0 := by rw [Dy]; grind
  have hyn : ∀ j, j < h.length → 0 ≤ D j y := fun j hj => by
   rw [Dy]
   rcases Classical.em (D j p < 0) with h4 | h4
   ·have hj' := (hVi j).2 ⟨hj, h4⟩
    have h5 := hmin j hj'
    have h6 := tau j hj'
    have h7 := Dx j hj
    have h8 := Rat.mul_nonneg (show 0 ≤ D j x / (D j x - D j p) - t by grind) (show 0 ≤ D j x - D j p by grind)
    generalize D j x / (D j x - D j p) = w at *
    grind
   ·have h5 := Rat.mul_nonneg (show 0 ≤ 1 - t by grind) (Dx j hj)
    have h6 := Rat.mul_nonneg t0 (show 0 ≤ D j p by grind)
    grind
  have hy : Mem S y := mem_locR H (by
   unfold locR
   rw [if_neg (by omega), if_neg (by omega), if_neg (by omega)]
   exact locF_nonneg (fun j hj => turn_nonneg (hyn j hj)) _ (Nat.le_refl _))
  obtain ⟨z, hz⟩ : ∃ z, Edge S z h[i] := by
   rcases hr.into.2 _ (List.getElem_mem hil) with e | ⟨z, _, hz⟩
   ·obtain ⟨z, _, hz⟩ := hr.into.1
    exact ⟨z, e ▸ hz⟩
   ·exact ⟨z, hz⟩
  refine ⟨i, hil, y, Mem.on hz (E i hil) hy (by rw [← DE i hil]; exact hy0), ?_⟩
  have e : dist2 y p = (1 - t) * (1 - t) * dist2 x p := by
   show dist2 (addP x (scaleP (subP p x) t)) p = _
   unfold dist2 dotP addP scaleP subP; grind
  rw [e]
  have k1 : 0 ≤ dist2 x p := dot_self_nonneg _
  have k2 := Rat.mul_nonneg (Rat.mul_nonneg t0 (show 0 ≤ 2 - t by grind)) k1
  grind
/-- No point of the set is nearer than the law's value. -/
theorem nearR_le {S h : List Pt} {x p : Pt} (H : IsHull S h) (hx : Mem S x) : nearR h p ≤ dist2 x p := by
 unfold nearR
 split
 ·exact dot_self_nonneg _
 ·rename_i hl
  have hp : ¬ Mem S p := fun hm => hl (locR_mem H hm)
  have B : ∀ i, i < h.length → nearF h p h.length ≤ nearE p (edge h i).1 (edge h i).2 := fun i hi => nearF_le hi
  rcases H with ⟨rfl, _⟩ | ⟨q, e, hq, hall⟩ | ⟨f, hlf, hr⟩
  ·exact absurd hx Mem.nil
  ·have := hx.all_eq hall
   subst this e
   have h1 := B 0 (by simp)
   have h2 : nearE p (edge [x] 0).1 (edge [x] 0).2 = dist2 x p := by
    have e3 : edge [x] 0 = (x, x) := by simp [edge]
    rw [e3]
    unfold nearE
    rw [if_neg (by unfold dotP subP; grind)]
   rw [h2] at h1; exact h1
  ·have h2 := ring_len hr
   obtain ⟨i, hi, y, hb, hd⟩ := crossing hr (.inr (.inr ⟨f, hlf, hr⟩)) hx hp
   refine Rat.le_trans ?_ hd
   -- the ends
   have V : ∀ j (hj : j < h.length), nearF h p h.length ≤ dist2 h[j] p := fun j hj => by
    have h3 := B j hj
    rw [edge_get hj] at h3
    refine Rat.le_trans h3 ?_
    simp only
    have hne := sub_ne (ring_edge hr j hj).ne.symm
    generalize h[(j + 1) % h.length]'(Nat.mod_lt _ (by omega)) = b at hne
    generalize h[j] = a at hne
    have hdp := dot_self_pos hne
    unfold nearE
    rw [if_pos hdp]
    split
    ·obtain ⟨t, ht⟩ : ∃ t, t = dotP (subP p a) (subP b a) / dotP (subP b a) (subP b a) := ⟨_, rfl⟩
     have ht' : t * dotP (subP b a) (subP b a) = dotP (subP p a) (subP b a) := by rw [ht]; exact Rat.div_mul_cancel (by grind)
     rw [← ht]
     have e : dist2 (addP a (scaleP (subP b a) t)) p = dist2 a p - 2 * t * dotP (subP p a) (subP b a) + t * t * dotP (subP b a) (subP b a) := by unfold dist2 dotP addP scaleP subP; grind
     rw [e, ← ht']
     have := Rat.mul_nonneg (Rat.le_of_lt hdp) (sq_nonneg t)
     grind
    ·exact Rat.le_refl
   have h3 := B i hi
   rw [edge_get hi] at h3
   exact nearE_le hb h3 (V _ _) (V i hi)
/-- The nearest point is the farthest of the set in the direction in which the point lies. -/
theorem near_far {S h : List Pt} {q p : Pt} (H : IsHull S h) (hq : Mem S q) (e : nearR h p = dist2 q p) {s : Pt} (hs : Mem S s) : dotP s (subP p q) ≤ dotP q (subP p q) := by
 refine Classical.byContradiction fun hc => ?_
 have hc : 0 < dotP (subP s q) (subP p q) := by
  have : dotP (subP s q) (subP p q) = dotP s (subP p q) - dotP q (subP p q) := by unfold dotP subP; grind
  grind
 have hn : 0 < dotP (subP s q) (subP s q) := dot_self_pos fun e => by rw [e] at hc; unfold dotP at hc; grind
 -- a step towards s
 have step : ∀ t : Rat, 0 ≤ t → t ≤ 1 → 0 ≤ t * (t * dotP (subP s q) (subP s q) - 2 * dotP (subP s q) (subP p q)) := fun t h0 h1 => by
  have h2 := nearR_le (p := p) H (seg_mem hq hs h0 h1)
  have e2 : dist2 (addP q (scaleP (subP s q) t)) p = dist2 q p + t * (t * dotP (subP s q) (subP s q) - 2 * dotP (subP s q) (subP p q)) := by unfold dist2 dotP addP scaleP subP; grind
  rw [e, e2] at h2; grind
 generalize dotP (subP s q) (subP s q) = n at *
 generalize dotP (subP s q) (subP p q) = m at *
 rcases Classical.em (n ≤ m) with h1 | h1
 ·have := step 1 (by grind) Rat.le_refl
  grind
 ·have e3 : m / n * n = m := Rat.div_mul_cancel (by grind)
  generalize m / n = t at e3
  have t0 : 0 < t := mul_pos_of hn (by grind)
  have t1 : t ≤ 1 := Classical.byContradiction fun hc => by have := Rat.mul_pos hn (show 0 < t - 1 by grind); grind
  have h2 := step t (Rat.le_of_lt t0) t1
  have h3 := Rat.mul_pos t0 hc
  rw [show t * n - 2 * m = -m by grind] at h2
  clear step
  grind

/-- The sums of the points of two lists. -/
def IsSum (X Y S : List Pt) : Prop := ∀ s, s ∈ S ↔ ∃ x ∈ X, ∃ y ∈ Y, s = addP x y

/-- A point within the sum with an inner ring is at most the radius away. -/
theorem grow_in {S h Y T : List Pt} {p : Pt} {r2 : Rat} (H : IsHull S h) (hY : ∀ y ∈ Y, dotP y y = r2) (hT : IsSum h Y T) (hp : Mem T p) : nearR h p ≤ r2 := by
 have hne : h ≠ [] := by
  obtain ⟨t, ht, _⟩ := hp (0, 0)
  obtain ⟨x, hx, _⟩ := (hT t).1 ht
  exact List.ne_nil_of_mem hx
 obtain ⟨q, hq, e⟩ := nearR_at (p := p) H hne
 obtain ⟨t, ht, h1⟩ := hp (subP p q)
 obtain ⟨x, hx, y, hy, rfl⟩ := (hT t).1 ht
 have h2 := near_far H hq e (.of_mem (H.sub x hx))
 have h3 := hY y hy
 rw [e]
 have e1 : dotP (addP x y) (subP p q) = dotP x (subP p q) + dotP y (subP p q) := by unfold dotP addP; grind
 have e2 : dist2 q p = dotP p (subP p q) - dotP q (subP p q) := by unfold dist2 dotP subP; grind
 have h4 : dist2 q p ≤ dotP y (subP p q) := by grind
 -- 2 y·d ≤ y·y + d·d
 have e3 : dist2 q p = dotP (subP p q) (subP p q) := by unfold dist2 dotP subP; grind
 have e4 : dotP (subP y (subP p q)) (subP y (subP p q)) = dotP y y - 2 * dotP y (subP p q) + dotP (subP p q) (subP p q) := by unfold dotP subP; grind
 have h5 := dot_self_nonneg (subP y (subP p q))
 grind
/-- A list shows the disk. -/
def Holds (Y : List Pt) (r2 : Rat) : Prop := ∀ w, dotP w w ≤ r2 → Mem Y w
/-- A point that is at most the radius away lies within the sum with an outer ring. -/
theorem grow_out {S h Y T : List Pt} {p : Pt} {r2 : Rat} (H : IsHull S h) (hne : h ≠ []) (hY : Holds Y r2) (hT : IsSum h Y T) (hp : nearR h p ≤ r2) : Mem T p := by
 obtain ⟨q, hq, e⟩ := nearR_at (p := p) H hne
 have hw := hY (subP p q) (by have : dist2 q p = dotP (subP p q) (subP p q) := by unfold dist2 dotP subP; grind
                              grind)
 have hq' : Mem h q := by
  have := H.unique (wrap_isHull S)
  subst this
  exact wrap_mem.2 hq
 intro d
 obtain ⟨x, hx, h1⟩ := hq' d
 obtain ⟨y, hy, h2⟩ := hw d
 refine ⟨addP x y, (hT _).2 ⟨x, hx, y, hy, rfl⟩, ?_⟩
 have e1 : dotP (addP x y) d = dotP x d + dotP y d := by unfold dotP addP; grind
 have e2 : dotP (subP p q) d = dotP p d - dotP q d := by unfold dotP subP; grind
 grind

/-- The turn from one unit point to the next. -/
def tC (s t : Int × Int × Int) : Int := s.1 * t.2.1 - s.2.1 * t.1
def chkC (n : Nat) : Bool := allB (fun i => decide (0 < tC (trip n i) (trip n (nx n i)))) (4 * n)
theorem chkC_all : allB (fun m => chkC (m + 1)) 4 = true := by decide +kernel
theorem chkC_at {n i : Nat} (h1 : 1 ≤ n) (h2 : n ≤ 4) (hi : i < 4 * n) : 0 < tC (trip n i) (trip n (nx n i)) := by
 have h := allB_spec chkC_all (n - 1) (by omega)
 simp only [Nat.sub_add_cancel h1] at h
 exact of_decide_eq_true (allB_spec h i hi)
theorem cross_scale (p q : Pt) (r : Rat) : crossP (scaleP p r) (scaleP q r) = r * r * crossP p q := by unfold crossP scaleP; grind
theorem dp_cross {n i : Nat} {r : Rat} (h1 : 1 ≤ n) (h2 : n ≤ 4) (hr : 0 < r) (hi : i < 4 * n) : 0 < crossP (dp n r i) (dp n r (nx n i)) := by
 rw [dp_trip, dp_trip, cross_scale]
 have hs := f_pos h1 (by omega) hi
 have ht := f_pos h1 (by omega) (nx_lt (i := i) h1)
 have hc := cast_lt (chkC_at h1 h2 hi)
 refine Rat.mul_pos (Rat.mul_pos hr hr) ?_
 generalize trip n i = s at *
 generalize trip n (nx n i) = t at *
 have e1 : (s.2.2 : Rat) * (s.2.2 : Rat)⁻¹ = 1 := Rat.mul_inv_cancel _ (by have := pos_cast hs; grind)
 have e2 : (t.2.2 : Rat) * (t.2.2 : Rat)⁻¹ = 1 := Rat.mul_inv_cancel _ (by have := pos_cast ht; grind)
 have e : crossP (tV s) (tV t) = (tC s t : Int) * ((s.2.2 : Rat)⁻¹ * (t.2.2 : Rat)⁻¹) := by
  unfold crossP tV tC
  simp only [Rat.intCast_sub, Rat.intCast_mul, Rat.div_def]
  grind
 rw [e]
 exact Rat.mul_pos (by simpa using hc) (Rat.mul_pos (Rat.inv_pos.2 (pos_cast hs)) (Rat.inv_pos.2 (pos_cast ht)))
theorem between_zero (f : Nat → Rat) (a : Nat) : ∀ n, 0 ≤ f a → f (a + n) ≤ 0 → 0 < n → ∃ i, a ≤ i ∧ i < a + n ∧ 0 ≤ f i ∧ f (i + 1) ≤ 0
 | 0, _, _, h => by omega
 | n + 1, h0, h1, _ => by
  rcases Classical.em (f (a + n) ≤ 0) with h | h
  ·rcases Nat.eq_zero_or_pos n with e | e
   ·subst e; exact ⟨a, by omega, by omega, h0, h1⟩
   ·obtain ⟨i, h2, h3, h4⟩ := between_zero f a n h0 h e
    exact ⟨i, h2, by omega, h4⟩
  ·exact ⟨a + n, by omega, by omega, by grind, h1⟩
theorem dp_quarter {n : Nat} (h1 : 1 ≤ n) (r : Rat) (q : Nat) : dp n r (q * n) = rotN q (r, 0) := by
 unfold dp
 have hn : (0 : Rat) < ((n : Nat) : Rat) := by exact_mod_cast h1
 rw [Nat.mul_mod_left, Nat.mul_div_cancel _ (by omega)]
 congr 1
 unfold scaleP tV tri
 simp only [Int.natCast_zero, Int.mul_zero, Int.sub_zero, Int.add_zero, Rat.intCast_mul, Rat.intCast_natCast, Rat.intCast_zero, Rat.div_def, Rat.zero_mul, Prod.mk.injEq, and_true]
 have : ((n : Rat) * n) * ((n : Rat) * n)⁻¹ = 1 := Rat.mul_inv_cancel _ (by have := Rat.mul_pos hn hn; grind)
 grind
theorem dp_next {n i : Nat} {r : Rat} (h1 : 1 ≤ n) (hi : i < 4 * n) : dp n r (nx n i) = dp n r (i + 1) := by
 unfold nx
 rcases Nat.lt_or_ge (i + 1) (4 * n) with h | h
 ·rw [Nat.mod_eq_of_lt h]
 ·have e : i + 1 = 4 * n := by omega
  rw [e, Nat.mod_self]
  have e0 := dp_quarter h1 r 0
  have e4 := dp_quarter h1 r 4
  rw [Nat.zero_mul] at e0
  rw [e0, e4]
  simp [rotN, rotP]
theorem dp_self {n i : Nat} {r : Rat} (h1 : 1 ≤ n) (h2 : n ≤ 16) (hi : i < 4 * n) : dotP (dp n r i) (dp n r i) = r * r := by
 rw [dp_dot, uD_one (f_pos h1 h2 hi) (okN_spec (chk_one h1 h2 hi)).2.1]; grind
theorem os_dot {n i : Nat} {r : Rat} (h1 : 1 ≤ n) (h2 : n ≤ 16) (hr : 0 < r) (hi : i < 4 * n) :
 dotP (os n r i) (dp n r i) = r * r ∧ dotP (os n r i) (dp n r (nx n i)) = r * r := by
 obtain ⟨m, _, em, e⟩ := os_def h1 h2 hr hi
 have d1 := dp_self (r := r) h1 h2 hi
 have d2 := dp_self (r := r) h1 h2 (nx_lt (i := i) h1)
 have d3 := dp_dot n r i (nx n i)
 rw [e]
 generalize uD (trip n i) (trip n (nx n i)) = c at *
 generalize dp n r i = a at *
 generalize dp n r (nx n i) = b at *
 have k1 : dotP (scaleP (addP a b) m) a = m * (dotP a a + dotP a b) := by unfold dotP scaleP addP; grind
 have k2 : dotP (scaleP (addP a b) m) b = m * (dotP b b + dotP a b) := by unfold dotP scaleP addP; grind
 rw [k1, k2, d1, d2, d3]
 constructor <;> grind
theorem outs_holds {n : Nat} {r : Rat} (h1 : 1 ≤ n) (h2 : n ≤ 4) (hr : 0 < r) : Holds (outsD n r) (r * r) := by
 intro w hw d
 obtain ⟨i, hi, c1, c2⟩ : ∃ i, i < 4 * n ∧ 0 ≤ crossP (dp n r i) d ∧ crossP (dp n r (i + 1)) d ≤ 0 := by
  have Q : ∀ q, q < 4 → 0 ≤ crossP (dp n r (q * n)) d → crossP (dp n r ((q + 1) * n)) d ≤ 0 → ∃ i, i < 4 * n ∧ 0 ≤ crossP (dp n r i) d ∧ crossP (dp n r (i + 1)) d ≤ 0 := by
   intro q hq a0 a1
   rw [Nat.succ_mul] at a1
   obtain ⟨i, _, b2, b3, b4⟩ := between_zero (fun i => crossP (dp n r i) d) (q * n) n a0 a1 (by omega)
   have : q * n ≤ 3 * n := Nat.mul_le_mul_right n (by omega)
   exact ⟨i, by omega, b3, b4⟩
  have z0 : crossP (dp n r (0 * n)) d = r * d.2 := by rw [dp_quarter h1]; unfold rotN crossP; grind
  have z1 : crossP (dp n r (1 * n)) d = -(r * d.1) := by rw [dp_quarter h1]; unfold rotN rotN rotP crossP; grind
  have z2 : crossP (dp n r (2 * n)) d = -(r * d.2) := by rw [dp_quarter h1]; unfold rotN rotN rotN rotP crossP; grind
  have z3 : crossP (dp n r (3 * n)) d = r * d.1 := by rw [dp_quarter h1]; unfold rotN rotN rotN rotN rotP crossP; grind
  have z4 : crossP (dp n r (4 * n)) d = r * d.2 := by rw [dp_quarter h1]; unfold rotN rotN rotN rotN rotN rotP crossP; grind
  rcases Classical.em (0 ≤ d.1) with p1 | p1 <;> rcases Classical.em (0 ≤ d.2) with p2 | p2
  ·have m1 := Rat.mul_nonneg (Rat.le_of_lt hr) p1
   have m2 := Rat.mul_nonneg (Rat.le_of_lt hr) p2
   exact Q 0 (by omega) (by rw [z0]; grind) (by rw [z1]; grind)
  ·have m1 := Rat.mul_nonneg (Rat.le_of_lt hr) p1
   have m2 := Rat.mul_nonneg (Rat.le_of_lt hr) (show 0 ≤ -d.2 by grind)
   exact Q 3 (by omega) (by rw [z3]; grind) (by rw [z4]; grind)
  ·have m1 := Rat.mul_nonneg (Rat.le_of_lt hr) (show 0 ≤ -d.1 by grind)
   have m2 := Rat.mul_nonneg (Rat.le_of_lt hr) p2
   exact Q 1 (by omega) (by rw [z1]; grind) (by rw [z2]; grind)
  ·have m1 := Rat.mul_nonneg (Rat.le_of_lt hr) (show 0 ≤ -d.1 by grind)
   have m2 := Rat.mul_nonneg (Rat.le_of_lt hr) (show 0 ≤ -d.2 by grind)
   exact Q 2 (by omega) (by rw [z2]; grind) (by rw [z3]; grind)
 refine ⟨os n r i, List.mem_map.2 ⟨i, List.mem_range.2 hi, rfl⟩, ?_⟩
 have hC := dp_cross h1 h2 hr hi
 have hd := os_dot h1 (by omega) hr hi
 have s1 := dp_self (r := r) h1 (by omega) hi
 have s2 := dp_self (r := r) h1 (by omega) (nx_lt (i := i) h1)
 rw [dp_next h1 hi] at hC hd s2
 generalize dp n r i = a at *
 generalize dp n r (i + 1) = b at *
 generalize os n r i = o at *
 have I : ∀ v : Pt, crossP a b * dotP v d = -(crossP b d) * dotP v a + crossP a d * dotP v b := fun v => by unfold crossP dotP; grind
 have near : ∀ v : Pt, dotP v v = r * r → dotP w v ≤ r * r := fun v hv => by
  have h5 := dot_self_nonneg (subP w v)
  have e4 : dotP (subP w v) (subP w v) = dotP w w - 2 * dotP w v + dotP v v := by unfold dotP subP; grind
  grind
 have i1 := I w
 have i2 := I o
 rw [hd.1, hd.2] at i2
 have g1 := Rat.mul_nonneg (show 0 ≤ -(crossP b d) by grind) (show 0 ≤ r * r - dotP w a by have := near a s1; grind)
 have g2 := Rat.mul_nonneg c1 (show 0 ≤ r * r - dotP w b by have := near b s2; grind)
 have g3 : 0 ≤ crossP a b * (dotP o d - dotP w d) := by grind
 have := mul_nonneg_of hC g3
 grind
theorem outs_wrap {n : Nat} {r : Rat} (h1 : 1 ≤ n) (h2 : n ≤ 4) (hr : 0 < r) : Holds (wrap (outsD n r)) (r * r) := fun w hw => wrap_mem.2 (outs_holds h1 h2 hr w hw)
end Pl
end Go.Proofs.YtdkkjfnpinckjaaGreatDoor
