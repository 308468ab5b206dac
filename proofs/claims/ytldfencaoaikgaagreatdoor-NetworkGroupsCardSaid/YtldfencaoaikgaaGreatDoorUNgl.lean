/-
  The groups of a network: what the law asks of them.
-/
import Derived.Test.YtldfencaoaikgaaGreatDoorUGra
import Derived.Test.YtldfencaoaikgaaGreatDoorUNmi
set_option linter.unusedSimpArgs false
set_option linter.unusedVariables false
namespace Go.Proofs.YtldfencaoaikgaaGreatDoor
open Go Go.RowKit Nw

theorem gs_at {N : Net} {i : Nat} {l : List Int} (h : (groupsE N)[i]? = some l) : ∃ a, (reps N)[i]? = some a ∧ a ∈ reps N ∧ a ∈ ids N ∧ l = grp N a := by
  unfold groupsE at h
  rw [List.getElem?_map, Option.map_eq_some_iff] at h
  obtain ⟨a, h1, h2⟩ := h
  have hm := List.mem_of_getElem? h1
  exact ⟨a, h1, hm, (List.mem_filter.1 hm).1, h2.symm⟩
theorem gs_head {N : Net} (g : Vld N) {i : Nat} {l : List Int} (h : (groupsE N)[i]? = some l) : ∃ a t, l = a :: t ∧ (reps N)[i]? = some a := by
  obtain ⟨a, h1, h2, _, rfl⟩ := gs_at h
  obtain ⟨t, ht⟩ := grp_head g h2
  exact ⟨a, t, ht, h1⟩
theorem gs_first {N : Net} (g : Vld N) {i : Nat} {a b : Int} {t u : List Int} (h : (groupsE N)[i]? = some (a :: t)) (h2 : (groupsE N)[i + 1]? = some (b :: u)) : a < b := by
  obtain ⟨a', t', e, h3⟩ := gs_head g h
  obtain ⟨b', u', e2, h4⟩ := gs_head g h2
  cases e; cases e2
  obtain ⟨h5, rfl⟩ := List.getElem?_eq_some_iff.1 h3
  obtain ⟨h6, rfl⟩ := List.getElem?_eq_some_iff.1 h4
  exact List.pairwise_iff_getElem.1 (reps_sorted g) i (i + 1) h5 h6 (by omega)
theorem gs_sorted {N : Net} (g : Vld N) {i j : Nat} {l : List Int} {y z : Int} (h : (groupsE N)[i]? = some l) (hz : l[j]? = some z) (hy : l[j + 1]? = some y) : z < y := by
  obtain ⟨a, _, _, _, rfl⟩ := gs_at h
  obtain ⟨h5, rfl⟩ := List.getElem?_eq_some_iff.1 hz
  obtain ⟨h6, rfl⟩ := List.getElem?_eq_some_iff.1 hy
  exact List.pairwise_iff_getElem.1 (grp_sorted g a) j (j + 1) h5 h6 (by omega)
theorem gs_mem {N : Net} {i : Nat} {l : List Int} {x : Int} (h : (groupsE N)[i]? = some l) (hx : x ∈ l) : x ∈ ids N := by
  obtain ⟨a, _, _, h3, rfl⟩ := gs_at h
  exact ((mem_grp h3).1 hx).1
theorem gs_disj {N : Net} (g : Vld N) {i k : Nat} {l m : List Int} {x : Int} (h : (groupsE N)[i]? = some l) (h2 : (groupsE N)[k]? = some m) (hx : x ∈ l) (hm : x ∈ m) : i = k := by
  obtain ⟨a, h3, h4, h5, rfl⟩ := gs_at h
  obtain ⟨b, h6, h7, h8, rfl⟩ := gs_at h2
  have e1 := ((mem_grp h5).1 hx).2
  have e2 := ((mem_grp h8).1 hm).2
  have e := reps_eq h4 h7 (e1.trans e2.symm)
  subst e
  obtain ⟨p, hp⟩ := List.getElem?_eq_some_iff.1 h3
  obtain ⟨q, hq⟩ := List.getElem?_eq_some_iff.1 h6
  rcases Nat.lt_trichotomy i k with r | r | r
  · have := List.pairwise_iff_getElem.1 (reps_sorted g) i k p q r; omega
  · exact r
  · have := List.pairwise_iff_getElem.1 (reps_sorted g) k i q p r; omega
theorem gs_of {N : Net} {x : Int} (hx : x ∈ ids N) : ∃ (i : Nat) (b : Int), (reps N)[i]? = some b ∧ (groupsE N)[i]? = some (grp N b) ∧ x ∈ grp N b ∧ Eqv N b x ∧ b ∈ reps N := by
  obtain ⟨b, hb, he⟩ := rep_ex hx
  obtain ⟨i, hi, e⟩ := List.mem_iff_getElem.1 hb
  refine ⟨i, b, by rw [List.getElem?_eq_getElem hi, e], ?_, (mem_grp (List.mem_filter.1 hb).1).2 ⟨hx, he⟩, he, hb⟩
  unfold groupsE
  rw [List.getElem?_map, List.getElem?_eq_getElem hi, e]; rfl
/-- The map holds the numbers of the first i groups and of the next one's first j. -/
structure GF (N : Net) (i j : Nat) (F : Int → Int) : Prop where
  all : ∀ (a : Nat) (l : List Int) (x : Int), a < i → (groupsE N)[a]? = some l → x ∈ l → F x = a + 1
  now : ∀ (l : List Int) (x : Int), (groupsE N)[i]? = some l → x ∈ l.take j → F x = i + 1
theorem GF.zero (N : Net) (F : Int → Int) : GF N 0 0 F := ⟨fun a l x h => absurd h (Nat.not_lt_zero a), fun l x _ h => by simp at h⟩
theorem GF.put {N : Net} (g : Vld N) {i j : Nat} {F : Int → Int} {l : List Int} {y : Int} (h : GF N i j F) (hl : (groupsE N)[i]? = some l) (hy : l[j]? = some y) : GF N i (j + 1) (upd F y (i + 1)) := by
  refine ⟨fun a m x ha hm hx => ?_, fun m x hm hx => ?_⟩
  · unfold upd
    rw [if_neg, h.all a m x ha hm hx]
    rintro rfl
    have := gs_disj g hm hl hx (List.mem_of_getElem? hy)
    omega
  · unfold upd
    rw [hl] at hm; injection hm with hm; subst hm
    by_cases e : x = y
    · rw [if_pos e]
    · rw [if_neg e]
      refine h.now l x hl ?_
      rw [List.take_add_one, hy, List.mem_append] at hx
      rcases hx with hx | hx
      · exact hx
      · simp at hx; exact absurd hx e
theorem GF.next {N : Net} {i j : Nat} {F : Int → Int} {l : List Int} (h : GF N i j F) (hl : (groupsE N)[i]? = some l) (hj : l.length ≤ j) : GF N (i + 1) 0 F := by
  refine ⟨fun a m x ha hm hx => ?_, fun m x _ hx => by simp at hx⟩
  by_cases e : a = i
  · subst e
    rw [hl] at hm; injection hm with hm; subst hm
    exact h.now l x hl (by rwa [List.take_of_length_le hj])
  · exact h.all a m x (by omega) hm hx
theorem GF.fin {N : Net} (g : Vld N) {i : Nat} {F : Int → Int} (h : GF N i 0 F) (hi : (groupsE N).length ≤ i) {x : Int} (hx : x ∈ ids N) : ∃ (a : Nat) (b : Int), F x = a + 1 ∧ (reps N)[a]? = some b ∧ b ∈ reps N ∧ Eqv N b x := by
  obtain ⟨a, b, h1, h2, h3, h4, h5⟩ := gs_of hx
  have ha := (List.getElem?_eq_some_iff.1 h2).1
  exact ⟨a, b, h.all a _ x (by omega) h2 h3, h1, h5, h4⟩
theorem GF.ne {N : Net} (g : Vld N) {i : Nat} {F : Int → Int} (h : GF N i 0 F) (hi : (groupsE N).length ≤ i) {x : Int} (hx : x ∈ ids N) : ¬ F x = 0 := by
  obtain ⟨a, b, h1, _⟩ := h.fin g hi hx
  omega
theorem GF.iff {N : Net} (g : Vld N) {i : Nat} {F : Int → Int} (h : GF N i 0 F) (hi : (groupsE N).length ≤ i) {x y : Int} (hx : x ∈ ids N) (hy : y ∈ ids N) : F x = F y ↔ (y ∈ reachE N x ∧ x ∈ reachE N y) := by
  obtain ⟨a, b, h1, h2, h3, h4⟩ := h.fin g hi hx
  obtain ⟨c, d, h5, h6, h7, h8⟩ := h.fin g hi hy
  rw [mem_reachE hx, mem_reachE hy, h1, h5]
  constructor
  · intro e
    have e : a = c := by omega
    subst e
    rw [h2] at h6; injection h6 with h6; subst h6
    have q := h4.symm.trans h8
    exact ⟨⟨hy, q.1⟩, hx, q.2⟩
  · rintro ⟨⟨_, p⟩, _, q⟩
    have e := reps_eq h3 h7 (h4.trans (Eqv.trans ⟨p, q⟩ h8.symm))
    subst e
    obtain ⟨u, hu⟩ := List.getElem?_eq_some_iff.1 h2
    obtain ⟨v, hv⟩ := List.getElem?_eq_some_iff.1 h6
    rcases Nat.lt_trichotomy a c with r | r | r
    · have := List.pairwise_iff_getElem.1 (reps_sorted g) a c u v r; omega
    · rw [r]
    · have := List.pairwise_iff_getElem.1 (reps_sorted g) c a v u r; omega
/-- How many numbers the first i groups have. -/
noncomputable def tot (N : Net) (i : Nat) : Nat := (((groupsE N).take i).map List.length).sum
theorem tot_next {N : Net} {i : Nat} {l : List Int} (h : (groupsE N)[i]? = some l) : tot N (i + 1) = tot N i + l.length := by
  unfold tot; rw [List.take_add_one, h]; simp
theorem tot_all {N : Net} (g : Vld N) {i : Nat} (h : (groupsE N).length ≤ i) : tot N i = N.ns.length := by
  unfold tot; rw [List.take_of_length_le h]; exact groups_total g
theorem tot_le {N : Net} (g : Vld N) (i : Nat) : tot N i ≤ N.ns.length := by
  rw [← groups_total g]
  unfold tot
  conv => rhs; rw [← List.take_append_drop i (groupsE N)]
  rw [List.map_append, List.sum_append]
  omega
def CVL (w : World) (g i : Nat) (x : Value) : Prop := At w g i (vlc x)
theorem kpV : Kp CVL := ⟨fun h hb => At.up h hb⟩
/-- A row of rows of numbers, opened. -/
theorem GLs.open_ {w : World} {v : Value} {Gs : List (List Int)} (h : GLs w v Gs) : ∃ (A : Option Addr) (c : Nat) (L : List Value), v = .slice A Gs.length c ∧ L.length = Gs.length ∧ LX CVL 1 w A L ∧ ∀ (i : Nat) (u : Value) (l : List Int), L[i]? = some u → Gs[i]? = some l → IL w u l := by
  obtain ⟨L, base, n, h1, h2⟩ := h
  have e : n = L.length := by have := h1.1; rw [vls, flat_length vlc 1 (fun _ => rfl)] at this; omega
  subst e
  obtain ⟨A, c, hv, _, _, hx⟩ := sl_open (C := CVL) vlc 1 (fun _ => rfl) (fun _ _ _ x H => At.mk _ _ fun j u hj => H j u (by have := (List.getElem?_eq_some_iff.1 hj).1; simpa [vlc] using this) hj) (Sl.of_own h1)
  refine ⟨A, c, L, by rw [hv, h2.len], h2.len, hx, fun i u l hu hl => ?_⟩
  obtain ⟨m, hm⟩ := h2.at_ i u l hu hl
  exact il_own hm
end Go.Proofs.YtldfencaoaikgaaGreatDoor
