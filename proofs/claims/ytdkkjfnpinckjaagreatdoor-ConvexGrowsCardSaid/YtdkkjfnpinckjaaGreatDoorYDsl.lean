/-
 Disks in the plain: the law.
-/
import Derived.Test.YtdkkjfnpinckjaaGreatDoorYDsk
set_option maxRecDepth 100000
set_option linter.unusedSimpArgs false
set_option linter.unusedVariables false
namespace Go.Proofs.YtdkkjfnpinckjaaGreatDoor
namespace Pl

theorem chk_at {n : Nat} (h1 : 1 ≤ n) (h2 : n ≤ 16) : chk n = true := by
 have h := allB_spec chk_all (n - 1) (by omega)
 simp only [Nat.sub_add_cancel h1] at h
 exact h
theorem chk_one {n i : Nat} (h1 : 1 ≤ n) (h2 : n ≤ 16) (hi : i < 4 * n) : okN n (trip n i) (trip n (nx n i)) = true := by
 have h := allB_spec (chk_at h1 h2) i hi
 simp only [Bool.and_eq_true] at h
 exact h.1
theorem chk_two {n i j : Nat} (h1 : 1 ≤ n) (h2 : n ≤ 16) (hi : i < 4 * n) (hj : j < 4 * n) (hij : i ≠ j) : okP (trip n i) (trip n j) = true ∧ okQ (trip n i) (trip n (nx n i)) (trip n j) (trip n (nx n j)) = true := by
 have h := allB_spec (chk_at h1 h2) i hi
 simp only [Bool.and_eq_true] at h
 have h3 := allB_spec h.2 j hj
 simp only [Bool.or_eq_true, Bool.and_eq_true, beq_iff_eq] at h3
 exact h3.resolve_left hij
theorem nx_lt {n i : Nat} (h1 : 1 ≤ n) : nx n i < 4 * n := Nat.mod_lt _ (by omega)
theorem okN_spec {n : Nat} {s t : Int × Int × Int} (h : okN n s t = true) : 0 < s.2.2 ∧ tD s s = tE s s ∧ 0 ≤ tD s t ∧ tD s t < tE s t ∧ 2 * ((n : Int) * n) * tE s t ≤ ((n : Int) * n + 1) * (tE s t + tD s t) := by
 simpa only [okN, Bool.and_eq_true, decide_eq_true_eq] using h
theorem f_pos {n i : Nat} (h1 : 1 ≤ n) (h2 : n ≤ 16) (hi : i < 4 * n) : 0 < (trip n i).2.2 := (okN_spec (chk_one h1 h2 hi)).1
theorem tE_pos {s t : Int × Int × Int} (hs : 0 < s.2.2) (ht : 0 < t.2.2) : (0 : Rat) < (tE s t : Int) := pos_cast (Int.mul_pos hs ht)
theorem uD_one {s : Int × Int × Int} (hs : 0 < s.2.2) (h : tD s s = tE s s) : uD s s = 1 := by
 have h1 := uD_mul hs hs
 have h2 := tE_pos hs hs
 rw [h] at h1
 have h3 : (tE s s : Rat) ≠ 0 := by grind
 have h4 : (uD s s - 1) * (tE s s : Rat) = 0 := by grind
 rcases Rat.mul_eq_zero.1 h4 with h5 | h5
 ·grind
 ·exact absurd h5 h3
theorem cast_lt {a b : Int} (h : a < b) : (a : Rat) < (b : Rat) := by exact_mod_cast h
theorem cast_le {a b : Int} (h : a ≤ b) : (a : Rat) ≤ (b : Rat) := by exact_mod_cast h
theorem lt_of_mul {a b e : Rat} (he : 0 < e) (h : a * e < b * e) : a < b := Classical.byContradiction fun hn => by
 have : 0 ≤ (a - b) * e := Rat.mul_nonneg (by grind) (by grind)
 grind
theorem le_of_mul {a b e : Rat} (he : 0 < e) (h : a * e ≤ b * e) : a ≤ b := Classical.byContradiction fun hn => by
 have : 0 < (a - b) * e := Rat.mul_pos (by grind) he
 grind
theorem uD_lt {s t : Int × Int × Int} (hs : 0 < s.2.2) (ht : 0 < t.2.2) (h : tD s t < tE s t) : uD s t < 1 :=
 lt_of_mul (tE_pos hs ht) (by rw [uD_mul hs ht, Rat.one_mul]; exact cast_lt h)
theorem uD_nonneg {s t : Int × Int × Int} (hs : 0 < s.2.2) (ht : 0 < t.2.2) (h : 0 ≤ tD s t) : 0 ≤ uD s t :=
 le_of_mul (tE_pos hs ht) (by rw [uD_mul hs ht, Rat.zero_mul]; exact cast_le h)
theorem uD_ext {s s' t t' : Int × Int × Int} (hs : 0 < s.2.2) (hs' : 0 < s'.2.2) (ht : 0 < t.2.2) (ht' : 0 < t'.2.2) (h : okQ s s' t t' = true) :
 uD t s + uD t s' + uD t' s + uD t' s' < 2 + 2 * uD t t' := by
 have h0 := cast_lt (of_decide_eq_true h)
 simp only [Rat.intCast_add, Rat.intCast_mul, Rat.intCast_ofNat] at h0
 rw [← uD_mul ht hs, ← uD_mul ht hs', ← uD_mul ht' hs, ← uD_mul ht' hs', ← uD_mul ht ht'] at h0
 simp only [tE, Rat.intCast_mul] at h0
 have hP : (0 : Rat) < ((t.2.2 : Rat) * (t'.2.2 : Rat)) * ((s.2.2 : Rat) * (s'.2.2 : Rat)) :=
  Rat.mul_pos (Rat.mul_pos (pos_cast ht) (pos_cast ht')) (Rat.mul_pos (pos_cast hs) (pos_cast hs'))
 exact lt_of_mul hP (by grind)
theorem lt_of_sub {a b : Rat} (h : 0 < b - a) : a < b := by grind
theorem ext_mem {S : List Pt} {p d : Pt} (hp : p ∈ S) (h : ∀ s ∈ S, s ≠ p → dotP s d < dotP p d) : p ∈ wrap S := by
 obtain ⟨v, hv, hf⟩ := wrap_far (S := S) (fun e => by rw [e] at hp; cases hp) d
 rcases Classical.em (v = p) with e | e
 ·exact e ▸ hv
 ·have h1 := h v ((wrap_isHull S).sub v hv) e
  have h2 := hf p hp
  grind
theorem wrap_nodup (S : List Pt) : (wrap S).Nodup := by
 rcases wrap_isHull S with ⟨_, e⟩ | ⟨p, e, _⟩ | ⟨p, _, hr⟩
 ·rw [e]; simp
 ·rw [e]; simp
 ·exact hr.nodup
theorem wrap_len {S : List Pt} (hn : S.Nodup) (hx : ∀ p ∈ S, ∃ d, ∀ s ∈ S, s ≠ p → dotP s d < dotP p d) : (wrap S).length = S.length :=
 Nat.le_antisymm (length_le_of_nodup _ _ (wrap_nodup S) fun x hx => (wrap_isHull S).sub x hx) (length_le_of_nodup _ _ hn fun p hp => by
  obtain ⟨d, hd⟩ := hx p hp
  exact ext_mem hp hd)
def outP (r2 : Rat) (p q : Pt) : Pt := scaleP (addP p q) (r2 / (r2 + dotP p q))
def ringD (n : Nat) (r : Rat) : List Pt := (List.range (4 * n)).map (dp n r)
def os (n : Nat) (r : Rat) (i : Nat) : Pt := outP (r * r) (dp n r i) (dp n r (nx n i))
def outsD (n : Nat) (r : Rat) : List Pt := (List.range (4 * n)).map (os n r)
theorem map_range_nodup {f : Nat → Pt} {N : Nat} (h : ∀ i j, i < N → j < N → i ≠ j → f i ≠ f j) : ((List.range N).map f).Nodup := by
 rw [List.nodup_iff_pairwise_ne, List.pairwise_iff_getElem]
 intro i j hi hj hij
 simp only [List.length_map, List.length_range] at hi hj
 simp only [List.getElem_map, List.getElem_range]
 exact h i j hi hj (by omega)
theorem wrap_len_map {f : Nat → Pt} {N : Nat} (h : ∀ j, j < N → ∃ d, ∀ i, i < N → i ≠ j → dotP (f i) d < dotP (f j) d) : (wrap ((List.range N).map f)).length = N := by
 rw [wrap_len, List.length_map, List.length_range]
 ·refine map_range_nodup fun i j hi hj hij e => ?_
  obtain ⟨d, hd⟩ := h j hj
  have := hd i hi hij
  rw [e] at this
  exact absurd this (by grind)
 ·intro p hp
  obtain ⟨j, hj, rfl⟩ := List.mem_map.1 hp
  obtain ⟨d, hd⟩ := h j (List.mem_range.1 hj)
  refine ⟨d, fun s hs hne => ?_⟩
  obtain ⟨i, hi, rfl⟩ := List.mem_map.1 hs
  exact hd i (List.mem_range.1 hi) fun e => hne (by rw [e])
theorem ringD_len {n : Nat} {r : Rat} (h1 : 1 ≤ n) (h2 : n ≤ 16) (hr : 0 < r) : (wrap (ringD n r)).length = 4 * n :=
 wrap_len_map fun j hj => ⟨dp n r j, fun i hi hij => by
  have hpi := f_pos h1 h2 hi
  have hpj := f_pos h1 h2 hj
  rw [dp_dot, dp_dot, uD_one hpj (okN_spec (chk_one h1 h2 hj)).2.1]
  have hl := uD_lt hpi hpj (of_decide_eq_true (chk_two h1 h2 hi hj hij).1)
  have := Rat.mul_pos (Rat.mul_pos hr hr) (by grind : 0 < 1 - uD (trip n i) (trip n j))
  grind⟩
theorem ringD_on {n : Nat} {r : Rat} (h1 : 1 ≤ n) (h2 : n ≤ 16) : ∀ p ∈ ringD n r, dotP p p = r * r := fun p hp => by
 obtain ⟨i, hi, rfl⟩ := List.mem_map.1 hp
 have hi := List.mem_range.1 hi
 rw [dp_dot, uD_one (f_pos h1 h2 hi) (okN_spec (chk_one h1 h2 hi)).2.1]; grind
theorem dot_out (a b c d : Pt) (m : Rat) : dotP (scaleP (addP a b) m) (addP c d) = m * (dotP a c + dotP a d + dotP b c + dotP b d) := by
 unfold dotP scaleP addP; grind
theorem os_def {n i : Nat} {r : Rat} (h1 : 1 ≤ n) (h2 : n ≤ 16) (hr : 0 < r) (hi : i < 4 * n) :
 ∃ m : Rat, 0 < m ∧ m * (1 + uD (trip n i) (trip n (nx n i))) = 1 ∧ os n r i = scaleP (addP (dp n r i) (dp n r (nx n i))) m := by
 have h0 := uD_nonneg (f_pos h1 h2 hi) (f_pos h1 h2 (nx_lt h1)) (okN_spec (chk_one h1 h2 hi)).2.2.1
 have hp := f_pos h1 h2 hi
 have hc : 0 < 1 + uD (trip n i) (trip n (nx n i)) := by grind
 have hrr : 0 < r * r := Rat.mul_pos hr hr
 refine ⟨(1 + uD (trip n i) (trip n (nx n i)))⁻¹, Rat.inv_pos.2 hc, Rat.inv_mul_cancel _ (by grind), ?_⟩
 unfold os outP
 congr 1
 rw [dp_dot]
 generalize uD (trip n i) (trip n (nx n i)) = c at hc ⊢
 rw [Rat.div_def, show r * r + r * r * c = r * r * (1 + c) by grind, Rat.inv_mul_rev]
 have e : (r * r) * (r * r)⁻¹ = 1 := Rat.mul_inv_cancel _ (by grind)
 grind
theorem uD_comm (s t : Int × Int × Int) : uD s t = uD t s := by unfold uD dotP; grind
theorem outsD_len {n : Nat} {r : Rat} (h1 : 1 ≤ n) (h2 : n ≤ 16) (hr : 0 < r) : (wrap (outsD n r)).length = 4 * n :=
 wrap_len_map fun j hj => ⟨addP (dp n r j) (dp n r (nx n j)), fun i hi hij => by
  have hrr : 0 < r * r := Rat.mul_pos hr hr
  obtain ⟨m, hm, em, e1⟩ := os_def (r := r) h1 h2 hr hi
  obtain ⟨k, hk, ek, e2⟩ := os_def (r := r) h1 h2 hr hj
  have hx := uD_ext (f_pos h1 h2 hj) (f_pos h1 h2 (nx_lt h1)) (f_pos h1 h2 hi) (f_pos h1 h2 (nx_lt h1)) (chk_two h1 h2 hj hi (Ne.symm hij)).2
  rw [e1, e2, dot_out, dot_out]
  simp only [dp_dot]
  rw [uD_one (f_pos h1 h2 hj) (okN_spec (chk_one h1 h2 hj)).2.1, uD_one (f_pos h1 h2 (nx_lt h1)) (okN_spec (chk_one h1 h2 (nx_lt (i := j) h1))).2.1, uD_comm (trip n (nx n j)) (trip n j)]
  generalize uD (trip n j) (trip n (nx n j)) = c at ek ⊢
  generalize uD (trip n i) (trip n (nx n i)) = d at em hx
  generalize uD (trip n i) (trip n j) = x1 at hx ⊢
  generalize uD (trip n i) (trip n (nx n j)) = x2 at hx ⊢
  generalize uD (trip n (nx n i)) (trip n j) = x3 at hx ⊢
  generalize uD (trip n (nx n i)) (trip n (nx n j)) = x4 at hx ⊢
  have e3 : k * (r * r * 1 + r * r * c + r * r * c + r * r * 1) = r * r * 2 := by grind
  have h4 : 0 < (r * r) * m * (2 + 2 * d - (x1 + x2 + x3 + x4)) := Rat.mul_pos (Rat.mul_pos hrr hm) (by grind)
  rw [e3]
  refine lt_of_sub ?_
  have e4 : r * r * 2 - m * (r * r * x1 + r * r * x2 + r * r * x3 + r * r * x4) = (r * r) * m * (2 + 2 * d - (x1 + x2 + x3 + x4)) := by
   clear h4 hx e3 hk ek hm hrr e1 e2; grind
  rw [e4]; exact h4⟩
end Pl
end Go.Proofs.YtdkkjfnpinckjaaGreatDoor
