/-
 Cuts of convex sets in the plain: the part of a set to the left of a line is shown by its points there and by the points at which its edges cross the line.
-/
import Derived.Test.YtdkkjfnpinckjaaGreatDoorWConvL
set_option maxRecDepth 100000
set_option linter.unusedSimpArgs false
set_option linter.unusedVariables false
namespace Go.Proofs.YtdkkjfnpinckjaaGreatDoor
namespace Pl

/-- The point at which the way from s to t crosses the line through a and b. -/
def crs (a b s t : Pt) : Pt := addP s (scaleP (subP t s) (det a b s / (det a b s - det a b t)))
theorem crs_spec {a b s t : Pt} (h : det a b s ≠ det a b t) : ∃ r : Rat, r * (det a b s - det a b t) = det a b s ∧ crs a b s t = (s.1 + (t.1 - s.1) * r, s.2 + (t.2 - s.2) * r) :=
 ⟨det a b s / (det a b s - det a b t), Rat.div_mul_cancel (by grind), rfl⟩
theorem crs_dot {a b s t : Pt} (d : Pt) (h : det a b s ≠ det a b t) : (det a b t - det a b s) * dotP (crs a b s t) d = det a b t * dotP s d - det a b s * dotP t d := by
 obtain ⟨r, h1, h2⟩ := crs_spec h
 rw [h2]
 generalize det a b s = x at *
 generalize det a b t = y at *
 unfold dotP
 simp only
 grind
theorem det_aff (a b p q : Pt) (r : Rat) : det a b (p.1 + (q.1 - p.1) * r, p.2 + (q.2 - p.2) * r) = det a b p + (det a b q - det a b p) * r := by
 unfold det crossP subP; grind
theorem crs_on {a b s t : Pt} (h : det a b s ≠ det a b t) : det a b (crs a b s t) = 0 := by
 obtain ⟨r, h1, h2⟩ := crs_spec h
 rw [h2, det_aff]
 grind
theorem crs_comm {a b s t : Pt} (h : det a b s ≠ det a b t) : crs a b s t = crs a b t s := by
 obtain ⟨r, h1, h2⟩ := crs_spec h
 obtain ⟨q, h3, h4⟩ := crs_spec (Ne.symm h)
 rw [h2, h4]
 generalize det a b s = x at *
 generalize det a b t = y at *
 have hxy : x - y ≠ 0 := by grind
 have hq : q = 1 - r := by
  have h5 : (r + q - 1) * (x - y) = 0 := by grind
  rcases Rat.mul_eq_zero.1 h5 with h6 | h6
  ·grind
  ·exact absurd h6 hxy
 subst hq
 refine Prod.ext ?_ ?_ <;> (simp only; grind)
theorem crs_mem {S : List Pt} {a b s t : Pt} (hs : Mem S s) (ht : Mem S t) (h1 : det a b s < 0) (h2 : 0 < det a b t) : Mem S (crs a b s t) := fun d => by
 have h3 := crs_dot (a := a) (b := b) (s := s) (t := t) d (by grind)
 obtain ⟨u, hu, h4⟩ := hs d
 obtain ⟨v, hv, h5⟩ := ht d
 generalize det a b s = x at *
 generalize det a b t = y at *
 generalize dotP (crs a b s t) d = c at *
 have hyx : 0 < y - x := by grind
 by_cases hle : dotP u d ≤ dotP v d
 ·refine ⟨v, hv, ?_⟩
  have k1 := Rat.mul_nonneg (Rat.le_of_lt h2) (show 0 ≤ dotP v d - dotP s d by grind)
  have k2 := Rat.mul_nonneg (show 0 ≤ -x by grind) (show 0 ≤ dotP v d - dotP t d by grind)
  have k3 : 0 ≤ (y - x) * (dotP v d - c) := by grind
  have := mul_nonneg_of hyx k3
  grind
 ·refine ⟨u, hu, ?_⟩
  have k1 := Rat.mul_nonneg (Rat.le_of_lt h2) (show 0 ≤ dotP u d - dotP s d by grind)
  have k2 := Rat.mul_nonneg (show 0 ≤ -x by grind) (show 0 ≤ dotP u d - dotP t d by grind)
  have k3 : 0 ≤ (y - x) * (dotP u d - c) := by grind
  have := mul_nonneg_of hyx k3
  grind
theorem max_of : ∀ (l : List Rat), l ≠ [] → ∃ m ∈ l, ∀ x ∈ l, x ≤ m
 | [], h => absurd rfl h
 | a :: l, _ => by
  rcases Classical.em (l = []) with h | h
  ·subst h; exact ⟨a, by simp, fun x hx => by rw [List.mem_singleton] at hx; subst hx; exact Rat.le_refl⟩
  ·obtain ⟨m, hm, hall⟩ := max_of l h
   by_cases hle : a ≤ m
   ·refine ⟨m, by simp [hm], fun x hx => ?_⟩
    rcases List.mem_cons.1 hx with rfl | hx
    ·exact hle
    ·exact hall x hx
   ·refine ⟨a, by simp, fun x hx => ?_⟩
    rcases List.mem_cons.1 hx with rfl | hx
    ·exact Rat.le_refl
    ·have := hall x hx; grind
theorem between (A B : List Rat) (h : ∀ l ∈ A, ∀ u ∈ B, l < u) : ∃ x, (∀ l ∈ A, l < x) ∧ ∀ u ∈ B, x < u := by
 rcases Classical.em (A = []) with hA | hA
 ·subst hA
  rcases Classical.em (B = []) with hB | hB
  ·subst hB; exact ⟨0, (fun _ h => by cases h), (fun _ h => by cases h)⟩
  ·obtain ⟨m, hm, hall⟩ := max_of (B.map fun x => -x) (by simpa using hB)
   refine ⟨-m - 1, (fun _ h => by cases h), fun u hu => ?_⟩
   have := hall (-u) (List.mem_map.2 ⟨u, hu, rfl⟩)
   grind
 ·obtain ⟨m, hm, hall⟩ := max_of A hA
  rcases Classical.em (B = []) with hB | hB
  ·subst hB
   exact ⟨m + 1, (fun l hl => by have := hall l hl; grind), (fun _ h => by cases h)⟩
  ·obtain ⟨n, hn, hall2⟩ := max_of (B.map fun x => -x) (by simpa using hB)
   obtain ⟨u, hu, rfl⟩ := List.mem_map.1 hn
   have := h m hm u hu
   refine ⟨(m + u) / 2, fun l hl => ?_, fun v hv => ?_⟩
   ·have := hall l hl; grind
   ·have := hall2 (-v) (List.mem_map.2 ⟨v, hv, rfl⟩); grind
theorem quot_lt {a b x y : Rat} (hx : 0 < x) (hy : 0 < y) (h : a * y < b * x) : a / x < b / y := by
 have e1 : a / x * x = a := Rat.div_mul_cancel (by grind)
 have e2 : b / y * y = b := Rat.div_mul_cancel (by grind)
 generalize a / x = u at *
 generalize b / y = v at *
 refine Rat.not_le.1 fun hle => ?_
 have k := Rat.mul_nonneg (show 0 ≤ u - v by grind) (Rat.le_of_lt (Rat.mul_pos hx hy))
 have e3 : a * y = u * (x * y) := by rw [← e1]; grind
 have e4 : b * x = v * (x * y) := by rw [← e2]; grind
 rw [e3, e4] at h
 have e5 : (u - v) * (x * y) = u * (x * y) - v * (x * y) := by grind
 rw [e5] at k
 grind
/-- What lies to the left of the line is shown by the points there and by the crossings of all pairs. -/
theorem cut_full {S C : List Pt} {a b p : Pt} (h1 : ∀ s ∈ S, 0 ≤ det a b s → Mem C s) (h2 : ∀ s ∈ S, ∀ t ∈ S, det a b s < 0 → 0 < det a b t → Mem C (crs a b s t)) (hm : Mem S p) (hp : 0 ≤ det a b p) : Mem C p := by
 refine Classical.byContradiction fun hno => ?_
 obtain ⟨d, hd⟩ : ∃ d, ∀ s ∈ C, dotP s d < dotP p d := by
  refine Classical.byContradiction fun hc => hno fun d => ?_
  refine Classical.byContradiction fun hc2 => hc ⟨d, fun s hs => ?_⟩
  exact Rat.not_le.1 fun hle => hc2 ⟨s, hs, hle⟩
 have hC : ∀ q, Mem C q → dotP q d < dotP p d := fun q hq => by
  obtain ⟨c, hc, h3⟩ := hq d
  have h4 := hd c hc
  grind
 have low : ∀ s ∈ S, 0 ≤ det a b s → dotP s d < dotP p d := fun s hs hg => hC s (h1 s hs hg)
 have mid : ∀ s ∈ S, ∀ t ∈ S, det a b s < 0 → 0 < det a b t → det a b t * (dotP s d - dotP p d) - det a b s * (dotP t d - dotP p d) < 0 := fun s hs t ht g1 g2 => by
  have h3 := hC _ (h2 s hs t ht g1 g2)
  have h4 := crs_dot (a := a) (b := b) (s := s) (t := t) d (by grind)
  have h5 := Rat.mul_pos (show 0 < det a b t - det a b s by grind) (show 0 < dotP p d - dotP (crs a b s t) d by grind)
  grind
 obtain ⟨x, hA, hB⟩ := between ((S.filter fun s => decide (det a b s < det a b p)).map fun s => (dotP s d - dotP p d) / (det a b p - det a b s))
  ((S.filter fun s => decide (det a b p < det a b s)).map fun s => (dotP p d - dotP s d) / (det a b s - det a b p)) (by
  intro l hl u hu
  obtain ⟨s, hs, rfl⟩ := List.mem_map.1 hl
  obtain ⟨t, ht, rfl⟩ := List.mem_map.1 hu
  simp only [List.mem_filter, decide_eq_true_eq] at hs ht
  refine quot_lt (by grind) (by grind) ?_
  have ft := low t ht.1 (by grind)
  by_cases g : 0 ≤ det a b s
  ·have fs := low s hs.1 g
   have k1 := Rat.mul_pos (show 0 < dotP p d - dotP s d by grind) (show 0 < det a b t - det a b p by grind)
   have k2 := Rat.mul_pos (show 0 < dotP p d - dotP t d by grind) (show 0 < det a b p - det a b s by grind)
   grind
  ·have m1 := mid s hs.1 t ht.1 (by grind) (by grind)
   by_cases g2 : dotP t d ≤ dotP s d
   ·have k1 := Rat.mul_nonneg hp (show 0 ≤ dotP s d - dotP t d by grind)
    grind
   ·have k1 := Rat.mul_pos (show 0 < dotP p d - dotP s d by grind) (show 0 < det a b t - det a b p by grind)
    have k2 := Rat.mul_pos (show 0 < dotP p d - dotP t d by grind) (show 0 < det a b p - det a b s by grind)
    grind)
 obtain ⟨s, hs, h3⟩ := hm (d.1 - x * (b.2 - a.2), d.2 - x * (a.1 - b.1))
 have h4 := det_dot a b s p
 have h5 : 0 ≤ (dotP s d - dotP p d) + x * (det a b s - det a b p) := by
  have : dotP s (d.1 - x * (b.2 - a.2), d.2 - x * (a.1 - b.1)) - dotP p (d.1 - x * (b.2 - a.2), d.2 - x * (a.1 - b.1)) = (dotP s d - dotP p d) + x * (det a b s - det a b p) := by unfold det crossP subP dotP; grind
  grind
 by_cases g1 : det a b s < det a b p
 ·have h6 := hA _ (List.mem_map.2 ⟨s, by simp [hs, g1], rfl⟩)
  have e1 : (dotP s d - dotP p d) / (det a b p - det a b s) * (det a b p - det a b s) = dotP s d - dotP p d := Rat.div_mul_cancel (by grind)
  generalize (dotP s d - dotP p d) / (det a b p - det a b s) = u at *
  have := Rat.mul_pos (show 0 < x - u by grind) (show 0 < det a b p - det a b s by grind)
  grind
 ·by_cases g2 : det a b p < det a b s
  ·have h6 := hB _ (List.mem_map.2 ⟨s, by simp [hs, g2], rfl⟩)
   have e1 : (dotP p d - dotP s d) / (det a b s - det a b p) * (det a b s - det a b p) = dotP p d - dotP s d := Rat.div_mul_cancel (by grind)
   generalize (dotP p d - dotP s d) / (det a b s - det a b p) = u at *
   have := Rat.mul_pos (show 0 < u - x by grind) (show 0 < det a b s - det a b p by grind)
   grind
  ·have g3 : det a b s = det a b p := by grind
   have := low s hs (by rw [g3]; exact hp)
   rw [g3] at h5
   grind
/-- The edge on the far side in a direction e: it holds all points that are as far. -/
theorem edge_far {h : List Pt} {f : Pt} (hr : Ring h f f h) {e s t : Pt} (he : e ≠ (0, 0)) (hs : s ∈ h) (ht : t ∈ h) (hst : s ≠ t) (hmax : ∀ q ∈ h, dotP q e ≤ dotP s e) (heq : dotP t e = dotP s e) :
 ∃ z v, z ∈ h ∧ v ∈ h ∧ Edge h z v ∧ dotP z e = dotP s e ∧ dotP v e = dotP s e ∧ btwB s z v = true ∧ btwB t z v = true := by
 have hD : ((-e.2, e.1) : Pt) ≠ (0, 0) := by
  intro e'
  apply he
  have e1 := congrArg Prod.fst e'
  have e2 := congrArg Prod.snd e'
  refine Prod.ext ?_ ?_ <;> grind
 have cD : ∀ u : Pt, crossP (-e.2, e.1) u = - dotP u e := fun u => by unfold crossP dotP; grind
 have sd : ∀ q v : Pt, dotP (subP q v) e = dotP q e - dotP v e := fun q v => by unfold dotP subP; grind
 obtain ⟨v, hv, hfar⟩ := far_point hD h (List.ne_nil_of_mem hs)
 have hvmax : ∀ q ∈ h, dotP q e ≤ dotP v e := fun q hq => by
  rcases hfar q hq with rfl | h1
  ·exact Rat.le_refl
  ·have := h1.cr; rw [cD, sd] at this; grind
 have hve : dotP v e = dotP s e := Rat.le_antisymm (hmax v hv) (hvmax s hs)
 obtain ⟨z, hz, ez⟩ : ∃ z ∈ h, Edge h z v := by
  rcases hr.into.2 v hv with rfl | h
  ·exact hr.into.1
  ·exact h
 obtain ⟨w, hw, hwv, hwe⟩ : ∃ w ∈ h, w ≠ v ∧ dotP w e = dotP s e := by
  rcases Classical.em (s = v) with h1 | h1
  ·exact ⟨t, ht, fun h2 => hst (h1.trans h2.symm), heq⟩
  ·exact ⟨s, hs, h1, rfl⟩
 have hin := (hfar w hw).resolve_left hwv
 have hc0 : crossP (-e.2, e.1) (subP w v) = 0 := by rw [cD, sd, hwe, hve]; grind
 have hdt := hin.dt hc0
 have hN := dot_self_pos hD
 have hdet := ez.left w hw
 have k1 : dotP (-e.2, e.1) (-e.2, e.1) * det z v w = dotP (-e.2, e.1) (subP w v) * dotP (subP v z) e + crossP (-e.2, e.1) (subP w v) * dotP (subP v z) (-e.2, e.1) := by
  unfold det crossP dotP subP; grind
 rw [hc0] at k1
 have k2 := Rat.mul_nonneg (Rat.le_of_lt hN) hdet
 have hze : dotP z e = dotP s e := by
  have h1 : 0 ≤ dotP (subP v z) e := by rw [sd]; have := hvmax z hz; grind
  rcases Classical.em (dotP (subP v z) e = 0) with h2 | h2
  ·rw [sd] at h2; grind
  ·have := Rat.mul_pos (show 0 < - dotP (-e.2, e.1) (subP w v) by grind) (show 0 < dotP (subP v z) e by grind)
   grind
 have online : ∀ q ∈ h, dotP q e = dotP s e → btwB q z v = true := fun q hq hqe => by
  refine ez.on q hq ?_
  have e1 : dotP (-e.2, e.1) (-e.2, e.1) * det z v q = dotP (subP v z) (-e.2, e.1) * (dotP z e - dotP q e) + dotP (subP q z) (-e.2, e.1) * (dotP v e - dotP z e) := by
   unfold det crossP dotP subP; grind
  rw [hze, hve, hqe] at e1
  exact mul_zero_of hN (by grind)
 exact ⟨z, v, hz, hv, ez, hze, hve, online s hs rfl, online t ht heq⟩
/-- A point between two others: a linear function there is a mean of those at the ends. -/
theorem btw_mean {s z v a b : Pt} (h : btwB s z v = true) (hzv : z ≠ v) : ∃ k n : Rat, 0 < n ∧ 0 ≤ k ∧ k ≤ n ∧ n * det a b s = (n - k) * det a b z + k * det a b v := by
 obtain ⟨h0, h1⟩ := (btw_iff _ _ _).1 h
 have hn := dot_self_pos (sub_ne hzv.symm)
 have k1 : dotP (subP v z) (subP v z) * dotP (subP z s) (subP v s) = dotP (subP v z) (subP s z) * (dotP (subP v z) (subP s z) - dotP (subP v z) (subP v z)) + det z v s * det z v s := by
  unfold det crossP dotP subP; grind
 rw [h0] at k1
 have e1 : dotP (subP v z) (subP v z) * (subP s z).1 = dotP (subP v z) (subP s z) * (subP v z).1 - det z v s * (subP v z).2 := by unfold det crossP dotP subP; grind
 have e2 : dotP (subP v z) (subP v z) * (subP s z).2 = dotP (subP v z) (subP s z) * (subP v z).2 + det z v s * (subP v z).1 := by unfold det crossP dotP subP; grind
 rw [h0] at e1 e2
 have k2 := Rat.mul_nonneg (Rat.le_of_lt hn) (show 0 ≤ - dotP (subP z s) (subP v s) by grind)
 generalize hN : dotP (subP v z) (subP v z) = N at *
 generalize hK : dotP (subP v z) (subP s z) = K at *
 have hk : 0 ≤ K ∧ K ≤ N := by
  have k3 : K * (K - N) ≤ 0 := by grind
  constructor
  ·refine Rat.not_lt.1 fun hneg => ?_
   have := Rat.mul_pos (show 0 < -K by grind) (show 0 < N - K by grind)
   grind
  ·refine Rat.not_lt.1 fun hgt => ?_
   have := Rat.mul_pos (show 0 < K by grind) (show 0 < K - N by grind)
   grind
 refine ⟨K, N, hn, hk.1, hk.2, ?_⟩
 have e3 : det a b s = det a b z + ((b.1 - a.1) * (subP s z).2 - (b.2 - a.2) * (subP s z).1) := by unfold det crossP subP; grind
 have e4 : det a b v = det a b z + ((b.1 - a.1) * (subP v z).2 - (b.2 - a.2) * (subP v z).1) := by unfold det crossP subP; grind
 rw [e3, e4]
 grind
theorem side_neg {X Y x M c p q r : Rat} (hY : 0 < Y) (hX : X < 0) (hx : x < 0) (h4 : (Y - X) * c = Y * p - X * r) (hM : (Y - x) * M = Y * q - x * r) (h3 : c ≤ M) : (Y - x) * (p - q) + (q - r) * (X - x) ≤ 0 := by
 have e : Y * ((Y - x) * (p - q) + (q - r) * (X - x)) = (Y - x) * ((Y - X) * c) - (Y - X) * ((Y - x) * M) := by rw [h4, hM]; grind
 have e2 : (Y - x) * ((Y - X) * c) - (Y - X) * ((Y - x) * M) = - (((Y - x) * (Y - X)) * (M - c)) := by grind
 have k := Rat.mul_nonneg (Rat.le_of_lt (Rat.mul_pos (show 0 < Y - x by grind) (show 0 < Y - X by grind))) (show 0 ≤ M - c by grind)
 have k2 : 0 ≤ Y * - ((Y - x) * (p - q) + (q - r) * (X - x)) := by grind
 have := mul_nonneg_of hY k2
 grind
theorem side_pos {X Y x M c p q r : Rat} (hY : 0 < Y) (hX : 0 < X) (hx : x < 0) (h4 : (X - x) * c = X * q - x * p) (hM : (Y - x) * M = Y * q - x * r) (h3 : c ≤ M) : (Y - x) * (p - q) + (q - r) * (X - x) ≤ 0 := by
 have e : -x * ((Y - x) * (p - q) + (q - r) * (X - x)) = (Y - x) * ((X - x) * c) - (X - x) * ((Y - x) * M) := by rw [h4, hM]; grind
 have e2 : (Y - x) * ((X - x) * c) - (X - x) * ((Y - x) * M) = - (((Y - x) * (X - x)) * (M - c)) := by grind
 have k := Rat.mul_nonneg (Rat.le_of_lt (Rat.mul_pos (show 0 < Y - x by grind) (show 0 < X - x by grind))) (show 0 ≤ M - c by grind)
 have k2 : 0 ≤ -x * - ((Y - x) * (p - q) + (q - r) * (X - x)) := by grind
 have := mul_nonneg_of (show 0 < -x by grind) k2
 grind
theorem side_zero {Y x M p q r : Rat} (hY : 0 < Y) (hx : x < 0) (hM : (Y - x) * M = Y * q - x * r) (h3 : p ≤ M) : (Y - x) * (p - q) + (q - r) * (0 - x) ≤ 0 := by
 have k := Rat.mul_nonneg (show 0 ≤ Y - x by grind) (show 0 ≤ M - p by grind)
 grind
theorem mean_neg {k n g u v : Rat} (hn : 0 < n) (h1 : 0 ≤ k) (h2 : k ≤ n) (h : n * g = (n - k) * u + k * v) (hu : 0 ≤ u) (hv : 0 ≤ v) : 0 ≤ g := by
 have k1 := Rat.mul_nonneg (show 0 ≤ n - k by grind) hu
 have k2 := Rat.mul_nonneg h1 hv
 exact mul_nonneg_of hn (by grind)
theorem mean_pos {k n g u v : Rat} (hn : 0 < n) (h1 : 0 ≤ k) (h2 : k ≤ n) (h : n * g = (n - k) * u + k * v) (hu : u ≤ 0) (hv : v ≤ 0) : g ≤ 0 := by
 have := mean_neg (g := -g) (u := -u) (v := -v) hn h1 h2 (by grind) (by grind) (by grind)
 grind
/-- Of the crossings of all pairs one on an edge is the farthest. -/
theorem edge_cross {h : List Pt} {f : Pt} (hr : Ring h f f h) {a b s t d : Pt} (hs : s ∈ h) (ht : t ∈ h) (h1 : det a b s < 0) (h2 : 0 < det a b t)
 (hz0 : ∀ z ∈ h, det a b z = 0 → dotP z d ≤ dotP (crs a b s t) d) (hall : ∀ s' ∈ h, ∀ t' ∈ h, det a b s' < 0 → 0 < det a b t' → dotP (crs a b s' t') d ≤ dotP (crs a b s t) d)
 (he : ((det a b t - det a b s) * d.1 - (dotP s d - dotP t d) * (b.2 - a.2), (det a b t - det a b s) * d.2 - (dotP s d - dotP t d) * (a.1 - b.1)) ≠ ((0, 0) : Pt)) :
 ∃ z v, Edge h z v ∧ z ∈ h ∧ v ∈ h ∧ (det a b z < 0 ∧ 0 < det a b v ∨ det a b v < 0 ∧ 0 < det a b z) ∧ dotP (crs a b z v) d = dotP (crs a b s t) d := by
 have hst : s ≠ t := by rintro rfl; grind
 have hM := crs_dot (a := a) (b := b) (s := s) (t := t) d (by grind)
 generalize hMd : dotP (crs a b s t) d = M at *
 generalize hed : ((det a b t - det a b s) * d.1 - (dotP s d - dotP t d) * (b.2 - a.2), (det a b t - det a b s) * d.2 - (dotP s d - dotP t d) * (a.1 - b.1)) = e at *
 -- the function that is as great at s as at t
 have hphi : ∀ q q' : Pt, dotP q e - dotP q' e = (det a b t - det a b s) * (dotP q d - dotP q' d) + (dotP s d - dotP t d) * (det a b q - det a b q') := fun q q' => by
  rw [← hed]; unfold det crossP subP dotP; grind
 have heq : dotP t e = dotP s e := by have := hphi t s; grind
 have hyx : 0 < det a b t - det a b s := by grind
 have hle : ∀ q ∈ h, dotP q e ≤ dotP s e := by
  intro q hq
  have hp := hphi q s
  suffices H : (det a b t - det a b s) * (dotP q d - dotP s d) + (dotP s d - dotP t d) * (det a b q - det a b s) ≤ 0 by grind
  by_cases g0 : det a b q = 0
  ·rw [g0]; exact side_zero h2 h1 hM (hz0 q hq g0)
  ·by_cases g1 : det a b q < 0
   ·exact side_neg h2 g1 h1 (crs_dot d (by grind)) hM (hall q hq t ht g1 h2)
   ·exact side_pos h2 (by grind) h1 (crs_dot d (by grind)) hM (hall s hs q hq h1 (by grind))
 obtain ⟨z, v, hz, hv, ez, ze, ve, b1, b2⟩ := edge_far hr he hs ht hst hle heq
 obtain ⟨k1, n1, p1, p2, p3, p4⟩ := btw_mean (a := a) (b := b) b1 ez.ne
 obtain ⟨k2, n2, q1, q2, q3, q4⟩ := btw_mean (a := a) (b := b) b2 ez.ne
 have s1 : ¬ (0 ≤ det a b z ∧ 0 ≤ det a b v) := fun ⟨i, j⟩ => by have := mean_neg p1 p2 p3 p4 i j; grind
 have s2 : ¬ (det a b z ≤ 0 ∧ det a b v ≤ 0) := fun ⟨i, j⟩ => by have := mean_pos q1 q2 q3 q4 i j; grind
 have sg : det a b z < 0 ∧ 0 < det a b v ∨ det a b v < 0 ∧ 0 < det a b z := by grind
 refine ⟨z, v, ez, hz, hv, sg, ?_⟩
 have hne : det a b z ≠ det a b v := by grind
 have c1 := crs_dot (a := a) (b := b) (s := z) (t := v) e hne
 have c2 := hphi (crs a b z v) s
 rw [crs_on hne] at c2
 rw [ze, ve] at c1
 have c3 : dotP (crs a b z v) e = dotP s e := by
  have h5 : (det a b v - det a b z) * (dotP (crs a b z v) e - dotP s e) = 0 := by grind
  rcases Rat.mul_eq_zero.1 h5 with h6 | h6
  ·grind
  ·grind
 rw [c3] at c2
 have h5 : (det a b t - det a b s) * (dotP (crs a b z v) d - M) = 0 := by grind
 have := mul_zero_of hyx h5
 grind
end Pl
end Go.Proofs.YtdkkjfnpinckjaaGreatDoor
