/-
 Convex sets in the plain: what lies in every half plane that holds some points; the hull's list shows just this set.
-/
import Derived.Test.YtdkkjfnpinckjaaGreatDoorYSupP
set_option maxRecDepth 100000
set_option linter.unusedSimpArgs false
set_option linter.unusedVariables false
namespace Go.Proofs.YtdkkjfnpinckjaaGreatDoor
namespace Pl

/-- p is in every half plane that holds S. -/
def Mem (S : List Pt) (p : Pt) : Prop := ∀ d : Pt, ∃ s ∈ S, dotP p d ≤ dotP s d
theorem Mem.of_mem {S : List Pt} {p : Pt} (h : p ∈ S) : Mem S p := fun _ => ⟨p, h, Rat.le_refl⟩
theorem Mem.trans {S T : List Pt} {p : Pt} (h : Mem T p) (hT : ∀ t ∈ T, Mem S t) : Mem S p := fun d => by
 obtain ⟨t, ht, h1⟩ := h d
 obtain ⟨s, hs, h2⟩ := hT t ht d
 exact ⟨s, hs, Rat.le_trans h1 h2⟩
theorem Mem.mono {S T : List Pt} {p : Pt} (h : Mem T p) (hT : ∀ t ∈ T, t ∈ S) : Mem S p := h.trans fun t ht => .of_mem (hT t ht)
theorem Mem.nil {p : Pt} : ¬ Mem [] p := fun h => by obtain ⟨s, hs, _⟩ := h (0, 0); cases hs
theorem Mem.ne {S : List Pt} {p : Pt} (h : Mem S p) : S ≠ [] := fun e => Mem.nil (e ▸ h)
theorem det_dot (a b s p : Pt) : det a b p - det a b s = dotP s (b.2 - a.2, a.1 - b.1) - dotP p (b.2 - a.2, a.1 - b.1) := by
 unfold det crossP subP dotP; grind
theorem Mem.half {S : List Pt} {p a b : Pt} (h : Mem S p) (hS : ∀ s ∈ S, 0 ≤ det a b s) : 0 ≤ det a b p := by
 obtain ⟨s, hs, h1⟩ := h (b.2 - a.2, a.1 - b.1)
 have h2 := hS s hs
 have h3 := det_dot a b s p
 grind
/-- A linear function that is not negative on S, is not negative here. -/
theorem Mem.lin {S : List Pt} {p a d : Pt} (h : Mem S p) (hS : ∀ s ∈ S, dotP d a ≤ dotP d s) : dotP d a ≤ dotP d p := by
 obtain ⟨s, hs, h1⟩ := h (-d.1, -d.2)
 have h2 := hS s hs
 unfold dotP at *
 grind
theorem Mem.single {a p : Pt} (h : Mem [a] p) : p = a := by
 have e : ∀ d : Pt, dotP d a ≤ dotP d p := fun d => h.lin fun s hs => by rw [List.mem_singleton] at hs; subst hs; exact Rat.le_refl
 have e1 := e (1, 0)
 have e2 := e (-1, 0)
 have e3 := e (0, 1)
 have e4 := e (0, -1)
 unfold dotP at *
 refine Prod.ext ?_ ?_ <;> grind
theorem Mem.all_eq {S : List Pt} {a p : Pt} (h : Mem S p) (hS : ∀ s ∈ S, s = a) : p = a :=
 Mem.single (h.mono fun t ht => by rw [hS t ht]; simp)
/-- Directions within a half plane, and a little off its line. -/
theorem tilt {a d : Pt} : ∀ (T : List Pt), (∀ t ∈ T, t ≠ a → In d (subP t a)) → ∃ e : Rat, 0 < e ∧ ∀ t ∈ T, 0 ≤ crossP d (subP t a) - e * dotP d (subP t a)
 | [], _ => ⟨1, by grind, fun _ h => by cases h⟩
 | t :: T, h => by
  obtain ⟨e, he, hall⟩ := tilt T fun s hs => h s (List.mem_cons_of_mem _ hs)
  have down : ∀ e', 0 < e' → e' ≤ e → ∀ s ∈ T, 0 ≤ crossP d (subP s a) - e' * dotP d (subP s a) := by
   intro e' h1 h2 s hs
   have h3 := hall s hs
   rcases Classical.em (s = a) with h4 | h4
   ·subst h4
    have z1 : subP s s = (0, 0) := by unfold subP; refine Prod.ext ?_ ?_ <;> grind
    rw [z1]; unfold crossP dotP; grind
   ·have h5 := (h s (List.mem_cons_of_mem _ hs) h4).cr
    by_cases h6 : dotP d (subP s a) ≤ 0
    ·have := Rat.mul_nonneg (Rat.le_of_lt h1) (show 0 ≤ - dotP d (subP s a) by grind)
     grind
    ·have := Rat.mul_nonneg (show 0 ≤ e - e' by grind) (show 0 ≤ dotP d (subP s a) by grind)
     grind
  rcases Classical.em (t = a) with h4 | h4
  ·refine ⟨e, he, fun s hs => ?_⟩
   rcases List.mem_cons.1 hs with rfl | hs
   ·subst h4
    have z1 : subP s s = (0, 0) := by unfold subP; refine Prod.ext ?_ ?_ <;> grind
    rw [z1]; unfold crossP dotP; grind
   ·exact hall s hs
  ·have hin := h t (by simp) h4
   by_cases h6 : dotP d (subP t a) ≤ 0
   ·refine ⟨e, he, fun s hs => ?_⟩
    rcases List.mem_cons.1 hs with rfl | hs
    ·have := Rat.mul_nonneg (Rat.le_of_lt he) (show 0 ≤ - dotP d (subP s a) by grind)
     have := hin.cr
     grind
    ·exact hall s hs
   ·have hc : 0 < crossP d (subP t a) := by
     rcases hin with h | ⟨_, h⟩
     ·exact h
     ·grind
    have hg : 0 < dotP d (subP t a) := by grind
    generalize hC : crossP d (subP t a) = C at *
    generalize hG : dotP d (subP t a) = G at *
    have hq : 0 < C / G := by rw [Rat.div_def]; exact Rat.mul_pos hc (Rat.inv_pos.2 hg)
    have hqG : C / G * G = C := Rat.div_mul_cancel (by grind)
    by_cases hle : e ≤ C / G
    ·refine ⟨e, he, fun s hs => ?_⟩
     rcases List.mem_cons.1 hs with rfl | hs
     ·rw [hC, hG]
      have := Rat.mul_nonneg (show 0 ≤ C / G - e by grind) (Rat.le_of_lt hg)
      grind
     ·exact hall s hs
    ·refine ⟨C / G, hq, fun s hs => ?_⟩
     rcases List.mem_cons.1 hs with rfl | hs
     ·rw [hC, hG, hqG]; grind
     ·exact down _ hq (by grind) s hs
/-- What holds of the points, in the order of a direction, holds of the set. -/
theorem Mem.cone {T : List Pt} {a d p : Pt} (h : Mem T p) (hT : ∀ t ∈ T, t ≠ a → In d (subP t a)) : p = a ∨ In d (subP p a) := by
 rcases Classical.em (d = (0, 0)) with hd | hd
 ·refine .inl (h.all_eq fun s hs => ?_)
  rcases Classical.em (s = a) with h1 | h1
  ·exact h1
  ·exact absurd hd (hT s hs h1).ne0
 ·have hc0 : ∀ q, crossP d (subP q a) = dotP (-d.2, d.1) q - dotP (-d.2, d.1) a := fun q => by unfold crossP subP dotP; grind
  have h1 : 0 ≤ crossP d (subP p a) := by
   have := h.lin (a := a) (d := (-d.2, d.1)) fun s hs => by
    rcases Classical.em (s = a) with h1 | h1
    ·rw [h1]; exact Rat.le_refl
    ·have := (hT s hs h1).cr; rw [hc0] at this; grind
   rw [hc0]; grind
  rcases Classical.em (crossP d (subP p a) = 0) with h2 | h2
  ·obtain ⟨e, he, hall⟩ := tilt T hT
   have hl : ∀ q, crossP d (subP q a) - e * dotP d (subP q a) = dotP (-d.2 - e * d.1, d.1 - e * d.2) q - dotP (-d.2 - e * d.1, d.1 - e * d.2) a := fun q => by unfold crossP subP dotP; grind
   have h3 := h.lin (a := a) (d := (-d.2 - e * d.1, d.1 - e * d.2)) fun s hs => by
    have := hall s hs; rw [hl] at this; grind
   have h4 := hl p
   rw [h2] at h4
   have h5 : 0 ≤ e * (- dotP d (subP p a)) := by grind
   have h6 := mul_nonneg_of he h5
   rcases Classical.em (dotP d (subP p a) = 0) with h7 | h7
   ·left
    have hp := dot_self_pos hd
    generalize hu : subP p a = u at *
    have i1 : dotP d d * u.1 = dotP d u * d.1 - crossP d u * d.2 := by unfold dotP crossP; grind
    have i2 : dotP d d * u.2 = dotP d u * d.2 + crossP d u * d.1 := by unfold dotP crossP; grind
    rw [h2, h7] at i1 i2
    refine sub_zero ?_
    rw [hu]
    exact Prod.ext (mul_zero_of hp (by grind)) (mul_zero_of hp (by grind))
   ·exact .inr (.inr ⟨h2, by grind⟩)
  ·exact .inr (.inl (by grind))
theorem wrap_mem {S : List Pt} {p : Pt} : Mem (wrap S) p ↔ Mem S p := by
 constructor
 ·exact fun h => h.mono fun t ht => (wrap_isHull S).sub t ht
 ·intro h d
  obtain ⟨v, hv, hall⟩ := wrap_far h.ne d
  obtain ⟨s, hs, h1⟩ := h d
  exact ⟨v, hv, Rat.le_trans h1 (hall s hs)⟩
/-- A point that is the farthest of T in a direction is one of S, if both show the same set. -/
theorem Mem.extreme {S T : List Pt} (hST : ∀ p, Mem S p ↔ Mem T p) {d a : Pt} (ha : a ∈ T) (hT : ∀ t ∈ T, t ≠ a → In d (subP t a)) : a ∈ S ∧ ∀ s ∈ S, s ≠ a → In d (subP s a) := by
 have h1 : ∀ s ∈ S, s ≠ a → In d (subP s a) := fun s hs hne => (((hST s).1 (.of_mem hs)).cone hT).resolve_left hne
 refine ⟨?_, h1⟩
 have hMa : Mem S a := (hST a).2 (.of_mem ha)
 have hne := hMa.ne
 rcases Classical.em (d = (0, 0)) with hd | hd
 ·obtain ⟨s, hs⟩ := List.exists_mem_of_ne_nil _ hne
  rcases Classical.em (s = a) with h2 | h2
  ·exact h2 ▸ hs
  ·exact absurd hd (h1 s hs h2).ne0
 ·obtain ⟨v, hv, hall⟩ := far_point hd S hne
  rcases hMa.cone (fun t ht htv => (hall t ht).resolve_left htv) with h2 | h2
  ·exact h2 ▸ hv
  ·have h3 := h1 v hv fun e => by
    subst e
    have z1 : subP v v = (0, 0) := by unfold subP; refine Prod.ext ?_ ?_ <;> grind
    rw [z1] at h2; unfold In crossP dotP at h2; grind
   exact absurd h3 h2.anti
/-- A point of the set on the line of an edge lies on the edge. -/
theorem Mem.on {T : List Pt} {z a b s : Pt} (hz : Edge T z a) (h : Edge T a b) (hs : Mem T s) (h0 : det a b s = 0) : btwB s a b = true := by
 have ha := hs.cone (a := a) (d := subP a z) fun t ht hne => hz.cone t ht hne
 have hb := hs.cone (a := b) (d := subP b a) fun t ht hne => h.cone t ht hne
 rw [btw_iff]
 refine ⟨h0, ?_⟩
 -- s lies on the line; not beyond b, not ahead of a
 have hd := dot_self_pos (sub_ne h.ne.symm)
 have k1 : dotP (subP b a) (subP b a) * dotP (subP a s) (subP b s) = dotP (subP b a) (subP s a) * (dotP (subP b a) (subP s a) - dotP (subP b a) (subP b a)) + det a b s * det a b s := by
  unfold det crossP dotP subP; grind
 rw [h0] at k1
 have g1 : dotP (subP b a) (subP s a) ≤ dotP (subP b a) (subP b a) := by
  rcases hb with e | h1
  ·subst e; exact Rat.le_refl
  ·have h2 : crossP (subP b a) (subP s b) = 0 := by rw [← h0]; unfold det crossP subP; grind
   have h3 := h1.dt h2
   have h4 : dotP (subP b a) (subP s b) = dotP (subP b a) (subP s a) - dotP (subP b a) (subP b a) := by unfold dotP subP; grind
   grind
 have g2 : 0 ≤ dotP (subP b a) (subP s a) := by
  rcases ha with e | h1
  ·subst e; unfold dotP subP; grind
  ·have h2 := hz.cone b h.mb h.ne.symm
   refine Classical.byContradiction fun hneg => ?_
   have hneg : dotP (subP b a) (subP s a) < 0 := by grind
   have e1 : dotP (subP b a) (subP b a) * (subP s a).1 = dotP (subP b a) (subP s a) * (subP b a).1 - det a b s * (subP b a).2 := by unfold det crossP dotP subP; grind
   have e2 : dotP (subP b a) (subP b a) * (subP s a).2 = dotP (subP b a) (subP s a) * (subP b a).2 + det a b s * (subP b a).1 := by unfold det crossP dotP subP; grind
   rw [h0] at e1 e2
   generalize hu : subP b a = u at *
   generalize hv : subP s a = v at *
   generalize hx : dotP u v = x at *
   generalize hy : dotP u u = y at *
   refine in_span (d := subP a z) (A := v) (B := v) (Q := (-u.1, -u.2)) (c := -x) (α := y) (β := 0) h1 h1 (by simpa using h2) (by grind) (by grind) Rat.le_refl (by simp only; grind) (by simp only; grind)
 have k2 := Rat.mul_nonneg g2 (show 0 ≤ dotP (subP b a) (subP b a) - dotP (subP b a) (subP s a) by grind)
 have k3 : dotP (subP b a) (subP b a) * - dotP (subP a s) (subP b s) = dotP (subP b a) (subP s a) * (dotP (subP b a) (subP b a) - dotP (subP b a) (subP s a)) := by grind
 have k4 := mul_nonneg_of hd (k3 ▸ k2)
 grind
theorem Mem.edge {S T : List Pt} (hST : ∀ p, Mem S p ↔ Mem T p) {z a b : Pt} (hz : Edge T z a) (h : Edge T a b) : Edge S a b := by
 have ha := Mem.extreme hST h.ma (d := subP a z) fun t ht hne => hz.cone t ht hne
 have hb := Mem.extreme hST h.mb (d := subP b a) fun t ht hne => h.cone t ht hne
 exact ⟨ha.1, hb.1, h.ne, fun s hs => ((hST s).1 (.of_mem hs)).half h.left, fun s hs h0 => Mem.on hz h ((hST s).1 (.of_mem hs)) h0⟩
theorem Mem.ring {S T : List Pt} (hST : ∀ p, Mem S p ↔ Mem T p) {f a z : Pt} {l : List Pt} (h : Ring T f a l) (hz : Edge T z a) : Ring S f a l := by
 induction h generalizing z with
 | last e => exact .last (Mem.edge hST hz e)
 | step e hn hr ih => exact .step (Mem.edge hST hz e) hn (ih e)
/-- Points that show the same set have the same hull. -/
theorem wrap_eq {S T : List Pt} (hST : ∀ p, Mem S p ↔ Mem T p) : wrap S = wrap T := by
 refine IsHull.unique (wrap_isHull S) ?_
 rcases wrap_isHull T with ⟨h1, h2⟩ | ⟨p, h1, h2, h3⟩ | ⟨p, h1, h2⟩
 ·rw [h2]
  refine .inl ⟨?_, rfl⟩
  cases S with
  | nil => rfl
  | cons s S => have := (hST s).1 (.of_mem (by simp)); rw [h1] at this; exact absurd this Mem.nil
 ·rw [h1]
  have h4 : ∀ s ∈ S, s = p := fun s hs => ((hST s).1 (.of_mem hs)).all_eq h3
  refine .inr (.inl ⟨p, rfl, ?_, h4⟩)
  obtain ⟨s, hs⟩ := List.exists_mem_of_ne_nil _ ((hST p).2 (.of_mem h2)).ne
  exact h4 s hs ▸ hs
 ·refine .inr (.inr ⟨p, ?_, ?_⟩)
  ·have h3 := Mem.extreme hST h1.1 (d := (0, -1)) (least_cone h1.2)
   refine ⟨h3.1, fun s hs => ?_⟩
   rcases Classical.em (s = p) with e | e
   ·rw [e]; exact less_irrefl p
   ·have := (less_in p s).2 (h3.2 s hs e)
    exact less_asymm this
  ·obtain ⟨z, _, hz⟩ := h2.into.1
   exact Mem.ring hST h2 hz
theorem wrap_wrap (S : List Pt) : wrap (wrap S) = wrap S := wrap_eq fun _ => wrap_mem
end Pl
end Go.Proofs.YtdkkjfnpinckjaaGreatDoor
