/-
 Repeated cuts in the plain: every edge lies on one of the lines; so the points stay small, and there are few of them.
-/
import Derived.Test.YtdkkjfnpinckjaaGreatDoorYCutQ
set_option maxRecDepth 100000
set_option linter.unusedSimpArgs false
set_option linter.unusedVariables false
namespace Go.Proofs.YtdkkjfnpinckjaaGreatDoor
namespace Pl

/-- A great multiple of what is negative outweighs. -/
theorem weigh : ∀ (l : List (Rat × Rat)), (∀ x ∈ l, x.1 < 0 ∨ (x.1 = 0 ∧ x.2 = 0)) → ∃ N : Rat, 0 ≤ N ∧ ∀ x ∈ l, N * x.1 + x.2 ≤ 0
 | [], _ => ⟨0, Rat.le_refl, fun _ h => by cases h⟩
 | y :: l, h => by
  obtain ⟨N, h0, hN⟩ := weigh l fun x hx => h x (List.mem_cons_of_mem _ hx)
  have up : ∀ M, N ≤ M → ∀ x ∈ l, M * x.1 + x.2 ≤ 0 := by
   intro M hM x hx
   have h1 := hN x hx
   have h2 := Rat.mul_nonneg (show 0 ≤ M - N by grind) (show 0 ≤ -x.1 by rcases h x (List.mem_cons_of_mem _ hx) with h | ⟨h, _⟩ <;> grind)
   grind
  rcases h y (by simp) with h1 | ⟨h1, h2⟩
  ·by_cases h3 : N * y.1 + y.2 ≤ 0
   ·exact ⟨N, h0, fun x hx => by rcases List.mem_cons.1 hx with rfl | hx; exact h3; exact hN x hx⟩
   ·have hp : 0 < -y.1 := by grind
    have e : y.2 / -y.1 * -y.1 = y.2 := Rat.div_mul_cancel (by grind)
    have hle : N ≤ y.2 / -y.1 := by
     refine Rat.not_lt.1 fun hlt => ?_
     have := Rat.mul_pos (show 0 < N - y.2 / -y.1 by grind) hp
     grind
    refine ⟨y.2 / -y.1, Rat.le_trans h0 hle, fun x hx => ?_⟩
    rcases List.mem_cons.1 hx with rfl | hx
    ·grind
    ·exact up _ hle x hx
  ·exact ⟨N, h0, fun x hx => by rcases List.mem_cons.1 hx with rfl | hx; (rw [h1, h2]; grind); exact hN x hx⟩
/-- Where one point alone is the farthest, the set has no other one as far. -/
theorem Mem.only {h : List Pt} {e s u : Pt} (hm : Mem h u) (hs : ∀ t ∈ h, t ≠ s → dotP t e < dotP s e) (hu : dotP s e ≤ dotP u e) : u = s := by
 refine Mem.single fun g => ?_
 obtain ⟨N, h0, hN⟩ := weigh (h.map fun t => (dotP t e - dotP s e, dotP t g - dotP s g)) fun x hx => by
  obtain ⟨t, ht, rfl⟩ := List.mem_map.1 hx
  rcases Classical.em (t = s) with h1 | h1
  ·right; subst h1; constructor <;> grind
  ·left; have := hs t ht h1; grind
 obtain ⟨t, ht, h1⟩ := hm (N * e.1 + g.1, N * e.2 + g.2)
 have h2 := hN _ (List.mem_map.2 ⟨t, ht, rfl⟩)
 refine ⟨s, by simp, ?_⟩
 have e1 : ∀ p : Pt, dotP p (N * e.1 + g.1, N * e.2 + g.2) = N * dotP p e + dotP p g := fun p => by unfold dotP; grind
 rw [e1, e1] at h1
 have h3 := Rat.mul_nonneg h0 (show 0 ≤ dotP u e - dotP s e by grind)
 simp only at h2
 grind
/-- Each edge lies on one of the lines. -/
def Car (LN : List (Pt × Pt)) (h : List Pt) : Prop := ∀ z w, Edge h z w → ∃ m ∈ LN, m.1 ≠ m.2 ∧ det m.1 m.2 z = 0 ∧ det m.1 m.2 w = 0
theorem Car.mono {LN LM : List (Pt × Pt)} {h : List Pt} (c : Car LN h) (hs : ∀ m ∈ LN, m ∈ LM) : Car LM h := fun z w e => by
 obtain ⟨m, hm, k⟩ := c z w e
 exact ⟨m, hs m hm, k⟩
theorem ring_nodup {S : List Pt} {f a : Pt} {l : List Pt} (h : Ring S f a l) : ∀ i j (hi : i < l.length) (hj : j < l.length), i < j → l[i] = l[j] → False := by
 induction h with
 | last e => intro i j hi hj hij; simp at hi hj; omega
 | @step a b l e hn hr ih =>
  intro i j hi hj hij he
  -- walk to the end of the list: the same steps from both
  have E := (Ring.step e hn hr).edges
  have H : ∀ n i j, i < j → j + n + 1 = (a :: l).length → (hi : i < (a :: l).length) → (hj : j < (a :: l).length) → (a :: l)[i] = (a :: l)[j] → False := by
   intro n
   induction n with
   | zero =>
    intro i j hij hn0 hi hj he
    have e1 := E i hi
    have e2 := E j hj
    rw [he] at e1
    have := e1.tail_unique e2
    rw [List.drop_eq_nil_of_le (by omega : (a :: l).length ≤ j + 1)] at this
    simp only [List.headD_nil] at this
    have h3 : ((a :: l).drop (i + 1)).headD f ∈ l := by
     rw [List.drop_succ_cons]
     have : i < l.length := by simp at hn0; omega
     rw [List.drop_eq_getElem_cons this]
     exact List.getElem_mem this
    rw [this] at h3
    exact (Ring.step e hn hr).rest_ne _ h3 rfl
   | succ n ihn =>
    intro i j hij hn0 hi hj he
    have e1 := E i hi
    have e2 := E j hj
    rw [he] at e1
    have h1 := e1.tail_unique e2
    have hj1 : j + 1 < (a :: l).length := by omega
    have hi1 : i + 1 < (a :: l).length := by omega
    rw [List.drop_eq_getElem_cons hi1, List.drop_eq_getElem_cons hj1] at h1
    exact ihn (i + 1) (j + 1) (by omega) (by omega) hi1 hj1 h1
  exact H ((a :: l).length - j - 1) i j hij (by omega) hi hj he
theorem Ring.nodup {S : List Pt} {f a : Pt} {l : List Pt} (h : Ring S f a l) : l.Nodup := by
 rw [List.nodup_iff_pairwise_ne, List.pairwise_iff_getElem]
 intro i j hi hj hij he
 exact ring_nodup h i j hi hj hij he
end Pl
end Go.Proofs.YtdkkjfnpinckjaaGreatDoor
