/-
 Cuts and intersections in the plain: what the two ways to cut give; common points of two sets.
-/
import Derived.Test.YtdkkjfnpinckjaaGreatDoorWCutP
set_option maxRecDepth 100000
set_option linter.unusedSimpArgs false
set_option linter.unusedVariables false
namespace Go.Proofs.YtdkkjfnpinckjaaGreatDoor
namespace Pl

/-- The crossings of all pairs lie in what is shown by the points on the left and the crossings of the edges. -/
theorem cut_edges {h C : List Pt} {f a b : Pt} (hr : Ring h f f h) (hab : a ≠ b) (h1 : ∀ s ∈ h, 0 ≤ det a b s → s ∈ C)
 (h2 : ∀ z v, Edge h z v → z ∈ h → v ∈ h → (det a b z < 0 ∧ 0 < det a b v ∨ det a b v < 0 ∧ 0 < det a b z) → crs a b z v ∈ C) :
 ∀ s ∈ h, ∀ t ∈ h, det a b s < 0 → 0 < det a b t → Mem C (crs a b s t) := by
 intro s0 hs0 t0 ht0 g1 g2
 have pick : ∀ d : Pt, ∃ s ∈ h, ∃ t ∈ h, det a b s < 0 ∧ 0 < det a b t ∧ (∀ s' ∈ h, ∀ t' ∈ h, det a b s' < 0 → 0 < det a b t' → dotP (crs a b s' t') d ≤ dotP (crs a b s t) d) := by
  intro d
  have hmem : ∀ s t, (s, t) ∈ (h.flatMap fun s => h.map fun t => (s, t)).filter (fun p => decide (det a b p.1 < 0) && decide (0 < det a b p.2)) ↔ (s ∈ h ∧ t ∈ h) ∧ det a b s < 0 ∧ 0 < det a b t := by
   intro s t
   simp only [List.mem_filter, List.mem_flatMap, List.mem_map, Prod.mk.injEq, Bool.and_eq_true, decide_eq_true_eq]
   constructor
   ·rintro ⟨⟨x, hx, y, hy, rfl, rfl⟩, h3, h4⟩; exact ⟨⟨hx, hy⟩, h3, h4⟩
   ·rintro ⟨⟨hx, hy⟩, h3, h4⟩; exact ⟨⟨s, hx, t, hy, rfl, rfl⟩, h3, h4⟩
  obtain ⟨m, hm, hall⟩ := max_of (((h.flatMap fun s => h.map fun t => (s, t)).filter (fun p => decide (det a b p.1 < 0) && decide (0 < det a b p.2))).map fun p => dotP (crs a b p.1 p.2) d) (by
   intro e
   have := List.map_eq_nil_iff.1 e
   have h3 := (hmem s0 t0).2 ⟨⟨hs0, ht0⟩, g1, g2⟩
   rw [this] at h3; cases h3)
  obtain ⟨⟨s, t⟩, hst, rfl⟩ := List.mem_map.1 hm
  obtain ⟨⟨hs, ht⟩, h3, h4⟩ := (hmem s t).1 hst
  exact ⟨s, hs, t, ht, h3, h4, fun s' hs' t' ht' h5 h6 => hall _ (List.mem_map.2 ⟨(s', t'), (hmem s' t').2 ⟨⟨hs', ht'⟩, h5, h6⟩, rfl⟩)⟩
 have online : ∀ d : Pt, (∀ s ∈ h, ∀ t ∈ h, det a b s < 0 → 0 < det a b t → (∀ s' ∈ h, ∀ t' ∈ h, det a b s' < 0 → 0 < det a b t' → dotP (crs a b s' t') d ≤ dotP (crs a b s t) d) →
  ((det a b t - det a b s) * d.1 - (dotP s d - dotP t d) * (b.2 - a.2), (det a b t - det a b s) * d.2 - (dotP s d - dotP t d) * (a.1 - b.1)) ≠ ((0, 0) : Pt)) →
  ∃ c ∈ C, det a b c = 0 ∧ dotP (crs a b s0 t0) d ≤ dotP c d := by
  intro d hne
  obtain ⟨s, hs, t, ht, h3, h4, hall⟩ := pick d
  rcases Classical.em (∃ z ∈ h, det a b z = 0 ∧ dotP (crs a b s t) d < dotP z d) with ⟨z, hz, h5, h6⟩ | hno
  ·exact ⟨z, h1 z hz (by rw [h5]; exact Rat.le_refl), h5, by have := hall s0 hs0 t0 ht0 g1 g2; grind⟩
  ·obtain ⟨z, v, ez, hz, hv, sg, hd⟩ := edge_cross hr hs ht h3 h4 (fun z hz h5 => Rat.not_lt.1 fun h6 => hno ⟨z, hz, h5, h6⟩) hall (hne s hs t ht h3 h4 hall)
   exact ⟨_, h2 z v ez hz hv sg, crs_on (by grind), by rw [hd]; exact hall s0 hs0 t0 ht0 g1 g2⟩
 intro d
 rcases Classical.em (∃ s ∈ h, ∃ t ∈ h, det a b s < 0 ∧ 0 < det a b t ∧ ((det a b t - det a b s) * d.1 - (dotP s d - dotP t d) * (b.2 - a.2), (det a b t - det a b s) * d.2 - (dotP s d - dotP t d) * (a.1 - b.1)) = ((0, 0) : Pt)) with ⟨s, hs, t, ht, h3, h4, h5⟩ | hno
 ·-- d is across the line: all points on it are as far
  obtain ⟨c, hc, h6, _⟩ := online (subP b a) (by
   intro s hs t ht h3 h4 _ e
   have hp := dot_self_pos (sub_ne hab.symm)
   have e1 := congrArg Prod.fst e
   have e2 := congrArg Prod.snd e
   simp only at e1 e2
   have e3 : (det a b t - det a b s) * dotP (subP b a) (subP b a) = 0 := by
    generalize det a b t - det a b s = y at *
    generalize dotP s (subP b a) - dotP t (subP b a) = x at *
    unfold dotP subP at *
    simp only at *
    grind
   have := Rat.mul_pos (show 0 < det a b t - det a b s by grind) hp
   grind)
  refine ⟨c, hc, ?_⟩
  have hne : det a b s0 ≠ det a b t0 := by grind
  have e1 := congrArg Prod.fst h5
  have e2 := congrArg Prod.snd h5
  simp only at e1 e2
  have h7 := crs_on hne
  generalize crs a b s0 t0 = q at *
  have h8 : (det a b t - det a b s) * (dotP q d - dotP c d) = (dotP s d - dotP t d) * (det a b c - det a b q) := by
   generalize det a b t - det a b s = y at *
   generalize dotP s d - dotP t d = x at *
   have h9 : det a b c - det a b q = dotP q (b.2 - a.2, a.1 - b.1) - dotP c (b.2 - a.2, a.1 - b.1) := det_dot a b q c
   rw [h9]
   unfold dotP
   simp only
   grind
  rw [h6, h7] at h8
  have h9 := mul_zero_of (show 0 < det a b t - det a b s by grind) (b := dotP q d - dotP c d) (by grind)
  grind
 ·obtain ⟨c, hc, _, h6⟩ := online d fun s hs t ht h3 h4 _ e => hno ⟨s, hs, t, ht, h3, h4, e⟩
  exact ⟨c, hc, h6⟩
theorem turn_pos {a b p : Pt} : 0 < turn a b p ↔ 0 < det a b p := by
 have h1 := turn_le a b p
 constructor
 ·intro h; refine Rat.not_le.1 fun e => ?_; have := h1.2 e; omega
 ·intro h; refine Int.not_le.1 fun e => ?_; have := h1.1 e; grind
theorem turn_neg {a b p : Pt} : turn a b p < 0 ↔ det a b p < 0 := by
 have h1 := @turn_nonneg a b p
 constructor
 ·intro h; refine Rat.not_le.1 fun e => ?_; have := h1 e; omega
 ·intro h; refine Int.not_le.1 fun e => ?_; have := det_nonneg e; grind
theorem turn_ge {a b p : Pt} : 0 ≤ turn a b p ↔ 0 ≤ det a b p := ⟨det_nonneg, turn_nonneg⟩
/-- The points that the program's cut collects. -/
def cutE (l : List Pt) (a b : Pt) : List Pt := l.filter (fun p => decide (0 ≤ turn a b p)) ++ (edges l).flatMap fun s => if turn a b s.1 * turn a b s.2 < 0 then [crs a b s.1 s.2] else []
/-- The points that the reference's Cut collects. -/
def cutR (l : List Pt) (a b : Pt) : List Pt := l.flatMap fun p => (if 0 ≤ turn a b p then [p] else []) ++ l.flatMap fun q => if turn a b p < 0 ∧ 0 < turn a b q then [crs a b p q] else []
theorem cutR_mem {l : List Pt} {a b c : Pt} : c ∈ cutR l a b ↔ (c ∈ l ∧ 0 ≤ det a b c) ∨ ∃ s ∈ l, ∃ t ∈ l, det a b s < 0 ∧ 0 < det a b t ∧ c = crs a b s t := by
 unfold cutR
 rw [List.mem_flatMap]
 constructor
 ·rintro ⟨p, hp, h⟩
  rcases List.mem_append.1 h with h | h
  ·split at h
   ·rw [List.mem_singleton] at h; subst h; exact .inl ⟨hp, turn_ge.1 (by assumption)⟩
   ·cases h
  ·obtain ⟨q, hq, h⟩ := List.mem_flatMap.1 h
   split at h
   ·rename_i h2; rw [List.mem_singleton] at h; exact .inr ⟨p, hp, q, hq, turn_neg.1 h2.1, turn_pos.1 h2.2, h⟩
   ·cases h
 ·rintro (⟨h1, h2⟩ | ⟨s, hs, t, ht, h1, h2, rfl⟩)
  ·exact ⟨c, h1, List.mem_append.2 (.inl (by rw [if_pos (turn_ge.2 h2)]; simp))⟩
  ·exact ⟨s, hs, List.mem_append.2 (.inr (List.mem_flatMap.2 ⟨t, ht, by rw [if_pos ⟨turn_neg.2 h1, turn_pos.2 h2⟩]; simp⟩))⟩
theorem sign_mul {a b p q : Pt} : turn a b p * turn a b q < 0 ↔ (det a b p < 0 ∧ 0 < det a b q) ∨ (det a b q < 0 ∧ 0 < det a b p) := by
 rw [← turn_neg, ← turn_neg, ← turn_pos, ← turn_pos]
 rcases turn3 a b p with h | h | h <;> rcases turn3 a b q with k | k | k <;> rw [h, k] <;> decide
theorem cutE_mem {l : List Pt} {a b c : Pt} : c ∈ cutE l a b ↔ (c ∈ l ∧ 0 ≤ det a b c) ∨ ∃ s ∈ edges l, ((det a b s.1 < 0 ∧ 0 < det a b s.2) ∨ (det a b s.2 < 0 ∧ 0 < det a b s.1)) ∧ c = crs a b s.1 s.2 := by
 unfold cutE
 rw [List.mem_append, List.mem_filter, List.mem_flatMap]
 constructor
 ·rintro (⟨h1, h2⟩ | ⟨s, hs, h⟩)
  ·exact .inl ⟨h1, turn_ge.1 (by simpa using h2)⟩
  ·split at h
   ·rw [List.mem_singleton] at h; exact .inr ⟨s, hs, sign_mul.1 (by assumption), h⟩
   ·cases h
 ·rintro (⟨h1, h2⟩ | ⟨s, hs, h1, rfl⟩)
  ·exact .inl ⟨h1, by simpa using turn_ge.2 h2⟩
  ·exact .inr ⟨s, hs, by rw [if_pos (sign_mul.2 h1)]; simp⟩
theorem edges_mem {l : List Pt} : ∀ s ∈ edges l, s.1 ∈ l ∧ s.2 ∈ l := by
 have H : ∀ i, i < l.length → l.getD i (0, 0) ∈ l := fun i hi => by rw [getD_of (List.getElem?_eq_getElem hi)]; exact List.getElem_mem hi
 intro s hs
 unfold edges at hs
 split at hs
 ·cases hs
 ·split at hs
  ·rw [List.mem_singleton] at hs; subst hs; exact ⟨H 0 (by omega), H 1 (by omega)⟩
  ·obtain ⟨i, hi, rfl⟩ := List.mem_map.1 hs
   have := List.mem_range.1 hi
   exact ⟨H i this, H _ (Nat.mod_lt _ (by omega))⟩
theorem ring_edges {h : List Pt} {S : List Pt} {f : Pt} (hr : Ring S f f h) {z v : Pt} (hz : z ∈ h) (e : Edge S z v) : (z, v) ∈ edges h ∨ (v, z) ∈ edges h := by
 have h2 := ring_len hr
 obtain ⟨i, hi, rfl⟩ := List.getElem_of_mem hz
 have hv := ring_next hr hi e
 subst hv
 unfold edges
 rw [if_neg (by omega)]
 split
 ·rename_i hl
  rw [List.mem_singleton, List.mem_singleton, getD_of (List.getElem?_eq_getElem (by omega)), getD_of (List.getElem?_eq_getElem (by omega))]
  have hi2 : i = 0 ∨ i = 1 := by omega
  rcases hi2 with rfl | rfl
  ·left
   have : (0 + 1) % h.length = 1 := by rw [hl]
   simp only [this]
  ·right
   have : (1 + 1) % h.length = 0 := by rw [hl]
   simp only [this]
 ·exact .inl (List.mem_map.2 ⟨i, List.mem_range.2 hi, edge_get hi⟩)
theorem cutR_iff {l : List Pt} {a b p : Pt} : Mem (cutR l a b) p ↔ Mem l p ∧ 0 ≤ det a b p := by
 constructor
 ·intro h
  refine ⟨h.trans fun c hc => ?_, h.half fun c hc => ?_⟩
  ·rcases cutR_mem.1 hc with ⟨h1, _⟩ | ⟨s, hs, t, ht, h1, h2, rfl⟩
   ·exact .of_mem h1
   ·exact crs_mem (.of_mem hs) (.of_mem ht) h1 h2
  ·rcases cutR_mem.1 hc with ⟨_, h1⟩ | ⟨s, hs, t, ht, h1, h2, rfl⟩
   ·exact h1
   ·rw [crs_on (by grind)]; exact Rat.le_refl
 ·rintro ⟨h1, h2⟩
  exact cut_full (fun s hs hg => .of_mem (cutR_mem.2 (.inl ⟨hs, hg⟩))) (fun s hs t ht g1 g2 => .of_mem (cutR_mem.2 (.inr ⟨s, hs, t, ht, g1, g2, rfl⟩))) h1 h2
theorem cutE_iff {l : List Pt} {a b p : Pt} (hab : a ≠ b) (hl : wrap l = l) : Mem (cutE l a b) p ↔ Mem l p ∧ 0 ≤ det a b p := by
 constructor
 ·intro h
  refine ⟨h.trans fun c hc => ?_, h.half fun c hc => ?_⟩
  ·rcases cutE_mem.1 hc with ⟨h1, _⟩ | ⟨s, hs, h1, rfl⟩
   ·exact .of_mem h1
   ·obtain ⟨m1, m2⟩ := edges_mem s hs
    rcases h1 with ⟨h1, h2⟩ | ⟨h1, h2⟩
    ·exact crs_mem (.of_mem m1) (.of_mem m2) h1 h2
    ·rw [crs_comm (by grind)]; exact crs_mem (.of_mem m2) (.of_mem m1) h1 h2
  ·rcases cutE_mem.1 hc with ⟨_, h1⟩ | ⟨s, hs, h1, rfl⟩
   ·exact h1
   ·rw [crs_on (by grind)]; exact Rat.le_refl
 ·rintro ⟨h1, h2⟩
  have hl0 := wrap_isHull l
  rw [hl] at hl0
  rcases hl0 with ⟨h3, _⟩ | ⟨q, h3, h4, h5⟩ | ⟨f, h3, hr⟩
  ·rw [h3] at h1; exact absurd h1 Mem.nil
  ·have hp := h1.all_eq h5
   subst hp
   exact .of_mem (cutE_mem.2 (.inl ⟨h4, h2⟩))
  ·refine cut_full (fun s hs hg => .of_mem (cutE_mem.2 (.inl ⟨hs, hg⟩))) (cut_edges hr hab (fun s hs hg => cutE_mem.2 (.inl ⟨hs, hg⟩)) fun z v e hz hv sg => ?_) h1 h2
   rcases ring_edges hr hz e with h6 | h6
   ·exact cutE_mem.2 (.inr ⟨_, h6, sg, rfl⟩)
   ·exact cutE_mem.2 (.inr ⟨_, h6, sg.symm, crs_comm (by grind)⟩)
/-- The lines whose left sides have just the points of a set in common. -/
def aheadS (p d : Pt) : Pt × Pt := (p, addP p (d.2, -d.1))
def sides (l : List Pt) : List (Pt × Pt) := if 2 < l.length then edges l else [(l.getD 0 (0, 0), l.getD 1 (0, 0)), (l.getD 1 (0, 0), l.getD 0 (0, 0)), aheadS (l.getD 0 (0, 0)) (subP (l.getD 1 (0, 0)) (l.getD 0 (0, 0))), aheadS (l.getD 1 (0, 0)) (subP (l.getD 0 (0, 0)) (l.getD 1 (0, 0)))]
theorem ahead_det (p d q : Pt) : det (aheadS p d).1 (aheadS p d).2 q = dotP d (subP q p) := by unfold aheadS det crossP subP addP dotP; grind
theorem sides_ne {l : List Pt} (hl : wrap l = l) (h2 : 2 ≤ l.length) : ∀ s ∈ sides l, s.1 ≠ s.2 := by
 have hl0 := wrap_isHull l
 rw [hl] at hl0
 rcases hl0 with ⟨h3, _⟩ | ⟨q, h3, h4, h5⟩ | ⟨f, h3, hr⟩
 ·rw [h3] at h2; simp at h2
 ·rw [h3] at h2; simp at h2
 ·have E := ring_edge hr
  intro s hs
  unfold sides at hs
  split at hs
  ·unfold edges at hs
   rw [if_neg (by omega), if_neg (by omega)] at hs
   obtain ⟨i, hi, rfl⟩ := List.mem_map.1 hs
   rw [edge_get (List.mem_range.1 hi)]
   exact (E i (List.mem_range.1 hi)).ne
  ·have hl2 : l.length = 2 := by omega
   have e1 := E 0 (by omega)
   have q1 : (0 + 1) % l.length = 1 := by rw [hl2]
   simp only [q1] at e1
   rw [getD_of (List.getElem?_eq_getElem (show 0 < l.length by omega)), getD_of (List.getElem?_eq_getElem (show 1 < l.length by omega))] at hs
   generalize l[0] = x at *
   generalize l[1] = y at *
   have across : ∀ p d : Pt, d ≠ (0, 0) → (aheadS p d).1 ≠ (aheadS p d).2 := by
    intro p d hd e
    apply hd
    have e1 := congrArg Prod.fst e
    have e2 := congrArg Prod.snd e
    simp only [aheadS, addP] at e1 e2
    refine Prod.ext ?_ ?_ <;> grind
   simp only [List.mem_cons, List.not_mem_nil, or_false] at hs
   rcases hs with rfl | rfl | rfl | rfl
   ·exact e1.ne
   ·exact e1.ne.symm
   ·exact across _ _ (sub_ne e1.ne.symm)
   ·exact across _ _ (sub_ne e1.ne)
theorem two_of {l : List Pt} (h : l.length = 2) : l = [l.getD 0 (0, 0), l.getD 1 (0, 0)] := by
 match l, h with
 | [x, y], _ => rfl
theorem sides_iff {l : List Pt} {p : Pt} (hl : wrap l = l) (h2 : 2 ≤ l.length) : (∀ s ∈ sides l, 0 ≤ det s.1 s.2 p) ↔ Mem l p := by
 have hloc := loc_iff (S := l) (p := p)
 rw [hl] at hloc
 have hne := sides_ne hl h2
 constructor
 ·intro h
  refine hloc.1 ?_
  unfold locR
  rw [if_neg (by omega), if_neg (by omega)]
  unfold sides at h hne
  split at h
  ·rw [if_neg (by omega)]
   refine locF_nonneg (fun i hi => turn_ge.2 ?_) _ (Nat.le_refl _)
   refine h _ ?_
   unfold edges
   rw [if_neg (by omega), if_neg (by omega)]
   exact List.mem_map.2 ⟨i, List.mem_range.2 hi, rfl⟩
  ·rename_i hl2
   rw [if_pos (by omega)]
   rw [if_neg hl2] at hne
   have g0 := hne (l.getD 0 (0, 0), l.getD 1 (0, 0)) (by simp)
   have g1 := h (l.getD 0 (0, 0), l.getD 1 (0, 0)) (by simp)
   have g2 := h (l.getD 1 (0, 0), l.getD 0 (0, 0)) (by simp)
   have g3 := h (aheadS (l.getD 0 (0, 0)) (subP (l.getD 1 (0, 0)) (l.getD 0 (0, 0)))) (by simp)
   have g4 := h (aheadS (l.getD 1 (0, 0)) (subP (l.getD 0 (0, 0)) (l.getD 1 (0, 0)))) (by simp)
   rw [ahead_det] at g3 g4
   clear h hne hloc
   simp only at g0 g1 g2
   generalize l.getD 0 (0, 0) = x at *
   generalize l.getD 1 (0, 0) = y at *
   have hb : btwB p x y = true := by
    rw [btw_iff]
    rw [det_swap] at g2
    have h0 : det x y p = 0 := by grind
    refine ⟨h0, ?_⟩
    have k1 : dotP (subP y x) (subP y x) * dotP (subP x p) (subP y p) = dotP (subP y x) (subP p x) * (dotP (subP y x) (subP p x) - dotP (subP y x) (subP y x)) + det x y p * det x y p := by
     unfold det crossP dotP subP; grind
    rw [h0] at k1
    have k2 : dotP (subP x y) (subP p y) = dotP (subP y x) (subP y x) - dotP (subP y x) (subP p x) := by unfold dotP subP; grind
    rw [k2] at g4
    have k3 := Rat.mul_nonneg g3 g4
    have hp := dot_self_pos (sub_ne (Ne.symm g0))
    have k4 : 0 ≤ dotP (subP y x) (subP y x) * - dotP (subP x p) (subP y p) := by grind
    have := mul_nonneg_of hp k4
    grind
   rw [if_pos hb]; decide
 ·intro hm s hs
  have hl0 := wrap_isHull l
  rw [hl] at hl0
  rcases hl0 with ⟨h3, _⟩ | ⟨q, h3, h4, h5⟩ | ⟨f, h3, hr⟩
  ·rw [h3] at h2; simp at h2
  ·rw [h3] at h2; simp at h2
  ·have E := ring_edge hr
   unfold sides at hs
   split at hs
   ·unfold edges at hs
    rw [if_neg (by omega), if_neg (by omega)] at hs
    obtain ⟨i, hi, rfl⟩ := List.mem_map.1 hs
    rw [edge_get (List.mem_range.1 hi)]
    exact hm.half (E i (List.mem_range.1 hi)).left
   ·have hl2 : l.length = 2 := by omega
    have e1 := E 0 (by omega)
    have e2 := E 1 (by omega)
    have q1 : (0 + 1) % l.length = 1 := by rw [hl2]
    have q2 : (1 + 1) % l.length = 0 := by rw [hl2]
    simp only [q1] at e1
    simp only [q2] at e2
    have lin : ∀ x y : Pt, l = [x, y] ∨ l = [y, x] → 0 ≤ dotP (subP y x) (subP p x) := by
     intro x y hxy
     have h6 := hm.lin (a := x) (d := subP y x) fun s hs => by
      have : s = x ∨ s = y := by rcases hxy with e | e <;> rw [e] at hs <;> simp only [List.mem_cons, List.not_mem_nil, or_false] at hs <;> grind
      rcases this with rfl | rfl
      ·exact Rat.le_refl
      ·have h7 : 0 ≤ dotP (subP s x) (subP s x) := by unfold dotP; have := sq_nonneg (subP s x).1; have := sq_nonneg (subP s x).2; grind
       have h8 : dotP (subP s x) (subP s x) = dotP (subP s x) s - dotP (subP s x) x := by unfold dotP subP; grind
       grind
     have h8 : dotP (subP y x) (subP p x) = dotP (subP y x) p - dotP (subP y x) x := by unfold dotP subP; grind
     grind
    have ht := two_of hl2
    rw [← getD_of (l := l) (d := ((0, 0) : Pt)) (List.getElem?_eq_getElem (show 0 < l.length by omega)), ← getD_of (l := l) (d := ((0, 0) : Pt)) (List.getElem?_eq_getElem (show 1 < l.length by omega))] at e1 e2
    generalize l.getD 0 (0, 0) = x at *
    generalize l.getD 1 (0, 0) = y at *
    simp only [List.mem_cons, List.not_mem_nil, or_false] at hs
    rcases hs with rfl | rfl | rfl | rfl
    ·exact hm.half e1.left
    ·exact hm.half e2.left
    ·rw [ahead_det]; exact lin x y (.inl ht)
    ·rw [ahead_det]; exact lin y x (.inr ht)
/-- The program's Intersect. -/
def interC (a b : List Pt) : List Pt :=
 if b.length = 0 then [] else if b.length = 1 then (if locR a (b.getD 0 (0, 0)) = -1 then [] else b) else (sides b).foldl (fun out s => wrap (cutE out s.1 s.2)) a
theorem fold_cut {p : Pt} : ∀ (ss : List (Pt × Pt)) (a : List Pt), wrap a = a → (∀ s ∈ ss, s.1 ≠ s.2) →
 wrap (ss.foldl (fun out s => wrap (cutE out s.1 s.2)) a) = ss.foldl (fun out s => wrap (cutE out s.1 s.2)) a ∧ (Mem (ss.foldl (fun out s => wrap (cutE out s.1 s.2)) a) p ↔ Mem a p ∧ ∀ s ∈ ss, 0 ≤ det s.1 s.2 p)
 | [], a, ha, _ => ⟨ha, by simp⟩
 | s :: ss, a, ha, hne => by
  obtain ⟨h1, h2⟩ := fold_cut (p := p) ss (wrap (cutE a s.1 s.2)) (wrap_wrap _) fun t ht => hne t (List.mem_cons_of_mem _ ht)
  refine ⟨h1, h2.trans ?_⟩
  rw [wrap_mem, cutE_iff (hne s (by simp)) ha]
  simp only [List.mem_cons, forall_eq_or_imp, and_assoc]
/-- Of two sets' lists it gives the list of the points that are in both. -/
theorem interC_spec {a b : List Pt} (ha : wrap a = a) (hb : wrap b = b) : wrap (interC a b) = interC a b ∧ ∀ p, Mem (interC a b) p ↔ Mem a p ∧ Mem b p := by
 unfold interC
 split
 ·rename_i h0
  have : b = [] := List.eq_nil_of_length_eq_zero h0
  subst this
  exact ⟨rfl, fun p => ⟨fun h => absurd h Mem.nil, fun h => absurd h.2 Mem.nil⟩⟩
 ·split
  ·rename_i h1
   match b, h1, hb with
   | [q], _, hb =>
    have hloc := loc_iff (S := a) (p := q)
    rw [ha] at hloc
    have h3 := locR3 a q
    show wrap (if locR a q = -1 then [] else [q]) = (if locR a q = -1 then [] else [q]) ∧ ∀ p, Mem (if locR a q = -1 then [] else [q]) p ↔ _
    split
    ·refine ⟨rfl, fun p => ⟨fun h => absurd h Mem.nil, fun h => ?_⟩⟩
     have := h.2.single
     subst this
     have := hloc.2 h.1
     omega
    ·refine ⟨hb, fun p => ⟨fun h => ⟨?_, h⟩, fun h => h.2⟩⟩
     have := h.single
     subst this
     exact hloc.1 (by omega)
  ·have h2 : 2 ≤ b.length := by omega
   refine ⟨(fold_cut (p := (0, 0)) _ a ha (sides_ne hb h2)).1, fun p => ?_⟩
   rw [(fold_cut (p := p) _ a ha (sides_ne hb h2)).2, sides_iff hb h2]
/-- Two lists of hulls that show the same set are equal. -/
theorem canonH {a b : List Pt} (ha : wrap a = a) (hb : wrap b = b) (h : ∀ p, Mem a p ↔ Mem b p) : a = b := ha.symm.trans ((wrap_eq h).trans hb)
theorem interC_comm {a b : List Pt} (ha : wrap a = a) (hb : wrap b = b) : interC a b = interC b a := by
 obtain ⟨h1, h2⟩ := interC_spec ha hb
 obtain ⟨h3, h4⟩ := interC_spec hb ha
 exact canonH h1 h3 fun p => by rw [h2, h4]; exact And.comm
theorem interC_self {a : List Pt} (ha : wrap a = a) : interC a a = a := by
 obtain ⟨h1, h2⟩ := interC_spec ha ha
 exact canonH h1 ha fun p => by rw [h2]; exact and_self_iff
theorem interC_assoc {a b c : List Pt} (ha : wrap a = a) (hb : wrap b = b) (hc : wrap c = c) : interC (interC a b) c = interC a (interC b c) := by
 obtain ⟨h1, h2⟩ := interC_spec ha hb
 obtain ⟨h3, h4⟩ := interC_spec hb hc
 obtain ⟨h5, h6⟩ := interC_spec h1 hc
 obtain ⟨h7, h8⟩ := interC_spec ha h3
 exact canonH h5 h7 fun p => by rw [h6, h2, h8, h4]; exact and_assoc
end Pl
end Go.Proofs.YtdkkjfnpinckjaaGreatDoor
