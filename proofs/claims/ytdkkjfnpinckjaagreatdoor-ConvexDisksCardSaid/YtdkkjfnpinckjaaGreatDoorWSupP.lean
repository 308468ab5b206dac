/-
 The farthest point in the plain: of the hull's list it is as far as of the points; of a sum it is as far as of both.
-/
import Derived.Test.YtdkkjfnpinckjaaGreatDoorWDd
set_option maxRecDepth 100000
set_option linter.unusedSimpArgs false
set_option linter.unusedVariables false
namespace Go.Proofs.YtdkkjfnpinckjaaGreatDoor
namespace Pl

theorem cmpQ_one {a b : Rat} (h : cmpQ a b = 1) : b < a := by
 have h1 : ¬ cmpQ a b < 0 := by omega
 have h2 : cmpQ a b ≠ 0 := by omega
 rw [cmp_lt_iff] at h1; rw [Ne, cmp_zero_iff] at h2
 grind
theorem cmpQ_not {a b : Rat} (h1 : cmpQ a b ≠ 1) (h2 : cmpQ a b ≠ 0) : a < b := by
 rw [← cmp_lt_iff]
 have : cmpQ a b = -1 ∨ cmpQ a b = 0 ∨ cmpQ a b = 1 := by
  unfold cmpQ sgn
  generalize (a - b).num = z
  rcases Int.lt_trichotomy z 0 with h | h | h
  ·exact .inl (Int.sign_eq_neg_one_of_neg h)
  ·exact .inr (.inl (by rw [h]; rfl))
  ·exact .inr (.inr (Int.sign_eq_one_of_pos h))
 omega
theorem suppStep_spec (d out x : Pt) : (suppStep d out x = out ∨ suppStep d out x = x) ∧ dotP out d ≤ dotP (suppStep d out x) d ∧ dotP x d ≤ dotP (suppStep d out x) d := by
 unfold suppStep
 split
 ·rename_i h; have := cmpQ_one h; exact ⟨.inr rfl, Rat.le_of_lt this, Rat.le_refl⟩
 ·split
  ·rename_i h; rw [cmp_zero_iff] at h
   split
   ·exact ⟨.inr rfl, by rw [h]; exact Rat.le_refl, Rat.le_refl⟩
   ·exact ⟨.inl rfl, Rat.le_refl, by rw [h]; exact Rat.le_refl⟩
  ·rename_i h1 h2; exact ⟨.inl rfl, Rat.le_refl, Rat.le_of_lt (cmpQ_not h1 h2)⟩
theorem supp_spec (d : Pt) : ∀ (l : List Pt) (a : Pt), (supp l d a = a ∨ supp l d a ∈ l) ∧ dotP a d ≤ dotP (supp l d a) d ∧ ∀ q ∈ l, dotP q d ≤ dotP (supp l d a) d
 | [], a => ⟨.inl rfl, Rat.le_refl, fun _ h => by cases h⟩
 | x :: l, a => by
  obtain ⟨h1, h2, h3⟩ := supp_spec d l (suppStep d a x)
  obtain ⟨k1, k2, k3⟩ := suppStep_spec d a x
  have e : supp (x :: l) d a = supp l d (suppStep d a x) := rfl
  rw [e]
  refine ⟨?_, Rat.le_trans k2 h2, fun q hq => ?_⟩
  ·rcases h1 with h1 | h1
   ·rw [h1]; rcases k1 with k | k
    ·exact .inl k
    ·rw [k]; exact .inr (by simp)
   ·exact .inr (List.mem_cons_of_mem _ h1)
  ·rcases List.mem_cons.1 hq with rfl | hq
   ·exact Rat.le_trans k3 h2
   ·exact h3 q hq
theorem supp_mem {l : List Pt} {d a : Pt} (h : a ∈ l) : supp l d a ∈ l := by
 rcases (supp_spec d l a).1 with e | e
 ·rw [e]; exact h
 ·exact e
theorem wrap_nil : wrap [] = [] := rfl
theorem wrap_ne {S : List Pt} (h : S ≠ []) : wrap S ≠ [] := by
 intro e
 rcases wrap_isHull S with ⟨h1, _⟩ | ⟨p, h1, _⟩ | ⟨p, _, h1⟩
 ·exact h h1
 ·rw [e] at h1; cases h1
 ·obtain ⟨m, hm⟩ := h1.head
  rw [e] at hm; cases hm
/-- One point of the hull's list is as far as any. -/
theorem wrap_far {S : List Pt} (h : S ≠ []) (d : Pt) : ∃ v ∈ wrap S, ∀ s ∈ S, dotP s d ≤ dotP v d := by
 rcases Classical.em (d = (0, 0)) with hd | hd
 ·subst hd
  obtain ⟨v, hv⟩ := List.exists_mem_of_ne_nil _ (wrap_ne h)
  exact ⟨v, hv, fun s _ => by unfold dotP; grind⟩
 ·have he : ((-d.2, d.1) : Pt) ≠ (0, 0) := by
   intro e
   apply hd
   have e1 := congrArg Prod.fst e
   have e2 := congrArg Prod.snd e
   refine Prod.ext ?_ ?_ <;> grind
  obtain ⟨v, hv, hfar⟩ := far_point he S h
  refine ⟨v, (wrap_isHull S).extreme hv fun s hs hne => (hfar s hs).resolve_left hne, fun s hs => ?_⟩
  rcases hfar s hs with rfl | h2
  ·exact Rat.le_refl
  ·have := h2.cr
   unfold crossP subP at this
   unfold dotP
   grind
theorem supp_sum {X Y : List Pt} {S : List Pt} (hS : ∀ s, s ∈ S ↔ ∃ x ∈ X, ∃ y ∈ Y, s = addP x y) {d a b c : Pt} (ha : a ∈ wrap S) (hb : b ∈ X) (hc : c ∈ Y) :
 dotP (supp (wrap S) d a) d = dotP (supp X d b) d + dotP (supp Y d c) d := by
 have hadd : ∀ x y : Pt, dotP (addP x y) d = dotP x d + dotP y d := fun x y => by unfold dotP addP; grind
 have h1 := supp_mem (d := d) ha
 have h2 := (wrap_isHull S).sub _ h1
 obtain ⟨x, hx, y, hy, e⟩ := (hS _).1 h2
 have g1 := (supp_spec d X b).2.2 x hx
 have g2 := (supp_spec d Y c).2.2 y hy
 have h3 : addP (supp X d b) (supp Y d c) ∈ S := (hS _).2 ⟨_, supp_mem hb, _, supp_mem hc, rfl⟩
 obtain ⟨v, hv, hfar⟩ := wrap_far (List.ne_nil_of_mem h2) d
 have g3 := hfar _ h3
 have g4 := (supp_spec d (wrap S) a).2.2 v hv
 have g5 := congrArg (fun z => dotP z d) e
 simp only [hadd] at g5 g3
 grind
end Pl
end Go.Proofs.YtdkkjfnpinckjaaGreatDoor
