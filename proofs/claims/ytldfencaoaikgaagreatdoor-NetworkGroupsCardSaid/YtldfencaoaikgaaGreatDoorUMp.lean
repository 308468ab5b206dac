/-
  The plane in the plain: vectors, turns, directions within a half plane. No program in sight.
  How many bytes the numbers of points have; the lesser and the greater one of two fractions. No program in sight.
  Road networks in the plain: nodes, roads, the first error. No program in sight.
  What can be reached in a network, in the plain. No program in sight.
  Positions in a network, in the plain. No program in sight.
  What can be reached, in rounds; the groups. In the plain. No program in sight.
  Normal positions, points, ends, ways along a road, in the plain. No program in sight.
-/
import Derived.Test.YtldfencaoaikgaaGreatDoorUMa
set_option linter.unusedSimpArgs false
set_option linter.unusedVariables false
namespace Go.Proofs.YtldfencaoaikgaaGreatDoor
namespace Pl

abbrev Pt := Rat × Rat
def addP (p q : Pt) : Pt := (p.1 + q.1, p.2 + q.2)
def subP (p q : Pt) : Pt := (p.1 - q.1, p.2 - q.2)
def scaleP (p : Pt) (r : Rat) : Pt := (p.1 * r, p.2 * r)
def crossP (p q : Pt) : Rat := p.1 * q.2 - p.2 * q.1
def dotP (p q : Pt) : Rat := p.1 * q.1 + p.2 * q.2
def det (a b c : Pt) : Rat := crossP (subP b a) (subP c a)
/-- The directions within the half plane to the left of d, on its line those against d alone. -/
def In (d v : Pt) : Prop := 0 < crossP d v ∨ crossP d v = 0 ∧ dotP d v < 0

theorem mul_pos_of {a b : Rat} (h : 0 < a) (h2 : 0 < a * b) : 0 < b := (Rat.mul_pos_iff_of_pos_left h).1 h2
theorem mul_zero_of {a b : Rat} (h : 0 < a) (h2 : a * b = 0) : b = 0 := by
  rcases Rat.mul_eq_zero.1 h2 with h3 | h3
  · grind
  · exact h3
theorem sq_pos {a : Rat} (h : a ≠ 0) : 0 < a * a := by
  by_cases h1 : 0 < a
  · exact Rat.mul_pos h1 h1
  · have := Rat.mul_pos (a := -a) (b := -a) (by grind) (by grind); grind
theorem sq_nonneg (a : Rat) : 0 ≤ a * a := by
  by_cases h : a = 0
  · subst h; grind
  · exact Rat.le_of_lt (sq_pos h)

theorem frame_cross (d u v : Pt) : crossP u v * dotP d d = crossP d u * (-dotP d v) - (-dotP d u) * crossP d v := by
  unfold crossP dotP; grind
theorem In.ne {d v : Pt} (h : In d v) : 0 < dotP d d := by
  unfold In crossP dotP at *
  by_cases h1 : d.1 = 0
  · by_cases h2 : d.2 = 0
    · rw [h1, h2] at h; grind
    · have := sq_pos h2; have := sq_nonneg d.1; grind
  · have := sq_pos h1; have := sq_nonneg d.2; grind
theorem dot_frame (a c u : Pt) : dotP a c * dotP u u = dotP a u * dotP c u + crossP a u * crossP c u := by
  unfold crossP dotP; grind
/-- Two directions of the half plane on one line are one direction. -/
theorem In.same {d u v : Pt} (hu : In d u) (hv : In d v) (h : crossP u v = 0) : 0 < dotP u v := by
  have hd := hu.ne
  have e := dot_frame u v d
  have ec := frame_cross d u v
  rw [h, Rat.zero_mul] at ec
  have c1 : crossP u d = - crossP d u := by unfold crossP; grind
  have c2 : crossP v d = - crossP d v := by unfold crossP; grind
  have c3 : dotP u d = dotP d u := by unfold dotP; grind
  have c4 : dotP v d = dotP d v := by unfold dotP; grind
  rw [c1, c2, c3, c4] at e
  refine mul_pos_of hd ?_
  rw [Rat.mul_comm, e]
  have s1 := hu
  have s2 := hv
  unfold In at s1 s2
  generalize crossP d u = X1 at *
  generalize crossP d v = X2 at *
  generalize dotP d u = Y1 at *
  generalize dotP d v = Y2 at *
  rcases s1 with s1 | ⟨s1, s1'⟩
  · rcases s2 with s2 | ⟨s2, s2'⟩
    · refine mul_pos_of s1 ?_
      have q1 := Rat.mul_pos (Rat.mul_pos s1 s1) s2
      have q2 := Rat.mul_nonneg (sq_nonneg Y1) (Rat.le_of_lt s2)
      have q3 : X1 * Y2 = Y1 * X2 := by grind
      have q4 : X1 * (Y1 * Y2 + -X1 * -X2) = Y1 * (X1 * Y2) + X1 * X1 * X2 := by grind
      rw [q4, q3]; grind
    · subst s2
      have := Rat.mul_pos s1 (show 0 < -Y2 by grind)
      grind
  · subst s1
    have hx : X2 = 0 := mul_zero_of (a := -Y1) (by grind) (by grind)
    subst hx
    have : Y2 < 0 := by grind
    have := Rat.mul_pos (show 0 < -Y1 by grind) (show 0 < -Y2 by grind)
    grind
end Pl
end Go.Proofs.YtldfencaoaikgaaGreatDoor

namespace Go.Proofs.YtldfencaoaikgaaGreatDoor
namespace Pl
def SzP (k : Nat) (p : Pt) : Prop := Sz k p.1 ∧ Sz k p.2
theorem SzP.mono {i j : Nat} {p : Pt} (h : SzP i p) (hij : i ≤ j) : SzP j p := ⟨h.1.mono hij, h.2.mono hij⟩
theorem SzP.add {i j : Nat} {p q : Pt} (h : SzP i p) (k : SzP j q) : SzP (i + j + 1) (addP p q) := ⟨h.1.add k.1, h.2.add k.2⟩
theorem SzP.sub {i j : Nat} {p q : Pt} (h : SzP i p) (k : SzP j q) : SzP (i + j + 1) (subP p q) := ⟨h.1.sub k.1, h.2.sub k.2⟩
theorem SzP.scale {i j : Nat} {p : Pt} {r : Rat} (h : SzP i p) (k : Sz j r) : SzP (i + j) (scaleP p r) := ⟨h.1.mul k, h.2.mul k⟩
theorem SzP.cross {i j : Nat} {p q : Pt} (h : SzP i p) (k : SzP j q) : Sz (i + j + (i + j) + 1) (crossP p q) := (h.1.mul k.2).sub (h.2.mul k.1)
def SzS (k : Nat) (s : Pt × Pt) : Prop := SzP k s.1 ∧ SzP k s.2
theorem SzS.mono {i j : Nat} {s : Pt × Pt} (h : SzS i s) (hij : i ≤ j) : SzS j s := ⟨h.1.mono hij, h.2.mono hij⟩
def divide (s : Pt × Pt) (r : Rat) : Pt := addP s.1 (scaleP (subP s.2 s.1) r)
end Pl
end Go.Proofs.YtldfencaoaikgaaGreatDoor

namespace Go.Proofs.YtldfencaoaikgaaGreatDoor
namespace Nw

structure Nd where
  i : Int
  x : Int
  y : Int
structure Rd where
  i : Int
  f : Int
  t : Int
  l : Int
  m : Int
  o : Bool
structure Net where
  ns : List Nd
  rs : List Rd
def Nd.z : Nd := ⟨0, 0, 0⟩
def Rd.z : Rd := ⟨0, 0, 0, 0, 0, false⟩

/-- The error of an id behind another one. -/
def idE (n b : Int) : Int := if n < 1 ∨ 1073741824 < n then 27 else if n = b then 8 else if n < b then 7 else 0
def wide (n : Int) : Bool := decide (n < -1048576) || decide (1048576 < n)
def nodesE : List Nd → Int → Int
  | [], _ => 0
  | x :: l, b => if idE x.i b ≠ 0 then idE x.i b else if (wide x.x || wide x.y) = true then 2 else nodesE l x.i
/-- A node and a road by their ids. -/
def fnd (l : List Nd) (k : Int) : Option Nd := l.find? fun x => decide (x.i = k)
def frd (l : List Rd) (k : Int) : Option Rd := l.find? fun x => decide (x.i = k)
def roadX (a b : Nd) (r : Rd) : Int :=
  if r.f = r.t then 17
  else if r.m < 1 ∨ 1048576 < r.m ∨ r.l < 1 ∨ 1073741824 < r.l ∨ r.l * r.l < (a.x - b.x) * (a.x - b.x) + (a.y - b.y) * (a.y - b.y) then 2 else 0
def roadE (ns : List Nd) (r : Rd) : Int :=
  match fnd ns r.f, fnd ns r.t with
  | some a, some b => roadX a b r
  | _, _ => 9
def roadsE (ns : List Nd) : List Rd → Int → Int
  | [], _ => 0
  | x :: l, b => if idE x.i b ≠ 0 then idE x.i b else if roadE ns x ≠ 0 then roadE ns x else roadsE ns l x.i
def checkE (N : Net) : Int :=
  if 256 < N.ns.length ∨ 1024 < N.rs.length then 3 else if nodesE N.ns 0 ≠ 0 then nodesE N.ns 0 else roadsE N.ns N.rs 0

/-- The ids grow. -/
def SrtN (l : List Nd) : Prop := l.Pairwise fun a b => a.i < b.i
def SrtR (l : List Rd) : Prop := l.Pairwise fun a b => a.i < b.i
/-- Coordinates in range. -/
def Nd.ok (x : Nd) : Prop := 1 ≤ x.i ∧ x.i ≤ 1073741824 ∧ -1048576 ≤ x.x ∧ x.x ≤ 1048576 ∧ -1048576 ≤ x.y ∧ x.y ≤ 1048576
theorem idE_zero {n b : Int} : idE n b = 0 ↔ 1 ≤ n ∧ n ≤ 1073741824 ∧ b < n := by
  unfold idE
  constructor
  · intro h; split at h
    · omega
    split at h
    · omega
    split at h <;> omega
  · intro h
    rw [if_neg (by omega), if_neg (by omega), if_neg (by omega)]
theorem wide_no {n : Int} : wide n = false ↔ -1048576 ≤ n ∧ n ≤ 1048576 := by
  unfold wide; simp only [Bool.or_eq_false_iff, decide_eq_false_iff_not]; omega
theorem nodesE_zero : ∀ {l : List Nd} {b : Int}, nodesE l b = 0 → SrtN l ∧ (∀ x ∈ l, b < x.i) ∧ ∀ x ∈ l, x.ok
  | [], _, _ => ⟨List.Pairwise.nil, by simp, by simp⟩
  | a :: l, b, h => by
    unfold nodesE at h
    by_cases h1 : idE a.i b = 0
    · rw [if_neg (by omega)] at h
      by_cases h2 : (wide a.x || wide a.y) = true
      · rw [if_pos h2] at h; omega
      · rw [if_neg h2] at h
        obtain ⟨s, g, k⟩ := nodesE_zero h
        have h3 : wide a.x = false ∧ wide a.y = false := by
          cases e : wide a.x <;> cases f : wide a.y <;> simp_all
        have i1 := idE_zero.1 h1
        have i2 := wide_no.1 h3.1
        have i3 := wide_no.1 h3.2
        refine ⟨List.pairwise_cons.2 ⟨g, s⟩, fun x hx => ?_, fun x hx => ?_⟩
        · rcases List.mem_cons.1 hx with rfl | hx
          · exact i1.2.2
          · have := g x hx; omega
        · rcases List.mem_cons.1 hx with rfl | hx
          · exact ⟨i1.1, i1.2.1, i2.1, i2.2, i3.1, i3.2⟩
          · exact k x hx
    · rw [if_pos h1] at h; exact absurd h h1
/-- What binary search finds. -/
structure Bs {α : Type} (l : List α) (f : α → Int) (id : Int) (k : Nat) (is : Bool) : Prop where
  le : k ≤ l.length
  lo : ∀ j x, j < k → l[j]? = some x → f x < id
  hi : ∀ j x, k ≤ j → l[j]? = some x → id ≤ f x
  is : is = true ↔ ∃ x, l[k]? = some x ∧ f x = id
theorem Bs.find {α : Type} {l : List α} {f : α → Int} {id : Int} {k : Nat} {is : Bool} (h : Bs l f id k is) (hs : l.Pairwise fun a b => f a < f b) :
    (is = true ∧ ∃ x, l[k]? = some x ∧ l.find? (fun x => decide (f x = id)) = some x) ∨ (is = false ∧ l.find? (fun x => decide (f x = id)) = none) := by
  by_cases e : is = true
  · obtain ⟨x, hx, hf⟩ := h.is.1 e
    refine .inl ⟨e, x, hx, ?_⟩
    obtain ⟨hk, rfl⟩ := List.getElem?_eq_some_iff.1 hx
    refine List.find?_eq_some_iff_getElem.2 ⟨by simpa using hf, k, hk, rfl, fun j hj => ?_⟩
    have := h.lo j (l[j]'(by omega)) hj (List.getElem?_eq_getElem _)
    simp; omega
  · refine .inr ⟨by simpa using e, List.find?_eq_none.2 fun x hx => ?_⟩
    simp only [decide_eq_true_eq]
    intro hf
    obtain ⟨j, hj, rfl⟩ := List.mem_iff_getElem.1 hx
    rcases Nat.lt_trichotomy j k with q | q | q
    · have := h.lo j _ q (List.getElem?_eq_getElem hj); omega
    · subst q; exact e (h.is.2 ⟨_, List.getElem?_eq_getElem hj, hf⟩)
    · have hk : k < l.length := by omega
      have h1 := List.pairwise_iff_getElem.1 hs k j hk hj q
      have h2 := h.hi k _ (Nat.le_refl _) (List.getElem?_eq_getElem hk)
      omega
theorem fnd_of {l : List Nd} {id : Int} {x : Nd} (h : fnd l id = some x) : x ∈ l ∧ x.i = id :=
  ⟨List.mem_of_find?_eq_some h, by simpa using List.find?_some h⟩
theorem frd_of {l : List Rd} {id : Int} {x : Rd} (h : frd l id = some x) : x ∈ l ∧ x.i = id :=
  ⟨List.mem_of_find?_eq_some h, by simpa using List.find?_some h⟩
theorem fnd_in {l : List Nd} (hs : SrtN l) {x : Nd} (hx : x ∈ l) : fnd l x.i = some x := by
  obtain ⟨j, hj, rfl⟩ := List.mem_iff_getElem.1 hx
  refine List.find?_eq_some_iff_getElem.2 ⟨by simp, j, hj, rfl, fun k hk => ?_⟩
  have := List.pairwise_iff_getElem.1 hs k j (by omega) hj hk
  simp; omega
theorem frd_in {l : List Rd} (hs : SrtR l) {x : Rd} (hx : x ∈ l) : frd l x.i = some x := by
  obtain ⟨j, hj, rfl⟩ := List.mem_iff_getElem.1 hx
  refine List.find?_eq_some_iff_getElem.2 ⟨by simp, j, hj, rfl, fun k hk => ?_⟩
  have := List.pairwise_iff_getElem.1 hs k j (by omega) hj hk
  simp; omega
/-- What a valid road is. -/
def Rd.ok (ns : List Nd) (r : Rd) : Prop := 1 ≤ r.i ∧ r.i ≤ 1073741824 ∧ 1 ≤ r.l ∧ r.l ≤ 1073741824 ∧ 1 ≤ r.m ∧ r.m ≤ 1048576 ∧ r.f ≠ r.t ∧ (fnd ns r.f).isSome = true ∧ (fnd ns r.t).isSome = true
theorem roadE_zero {ns : List Nd} {r : Rd} (h : roadE ns r = 0) : 1 ≤ r.l ∧ r.l ≤ 1073741824 ∧ 1 ≤ r.m ∧ r.m ≤ 1048576 ∧ r.f ≠ r.t ∧ (fnd ns r.f).isSome = true ∧ (fnd ns r.t).isSome = true := by
  unfold roadE at h
  cases h1 : fnd ns r.f with
  | none => rw [h1] at h; simp at h
  | some a =>
    cases h2 : fnd ns r.t with
    | none => rw [h1, h2] at h; simp at h
    | some b =>
      rw [h1, h2] at h
      simp only [roadX] at h
      split at h
      · omega
      rename_i hne
      split at h
      · omega
      · refine ⟨by omega, by omega, by omega, by omega, hne, rfl, rfl⟩
theorem roadsE_zero {ns : List Nd} : ∀ {l : List Rd} {b : Int}, roadsE ns l b = 0 → SrtR l ∧ (∀ x ∈ l, b < x.i) ∧ ∀ x ∈ l, x.ok ns
  | [], _, _ => ⟨List.Pairwise.nil, by simp, by simp⟩
  | a :: l, b, h => by
    unfold roadsE at h
    by_cases h1 : idE a.i b = 0
    · rw [if_neg (by omega)] at h
      by_cases h2 : roadE ns a = 0
      · rw [if_neg (by omega)] at h
        obtain ⟨s, g, k⟩ := roadsE_zero h
        have i1 := idE_zero.1 h1
        refine ⟨List.pairwise_cons.2 ⟨g, s⟩, fun x hx => ?_, fun x hx => ?_⟩
        · rcases List.mem_cons.1 hx with rfl | hx
          · exact i1.2.2
          · have := g x hx; omega
        · rcases List.mem_cons.1 hx with rfl | hx
          · exact ⟨i1.1, i1.2.1, roadE_zero h2⟩
          · exact k x hx
      · rw [if_pos h2] at h; exact absurd h h2
    · rw [if_pos h1] at h; exact absurd h h1
/-- A network whose nodes are valid. -/
structure Half (N : Net) : Prop where
  ln : N.ns.length ≤ 256
  lr : N.rs.length ≤ 1024
  sn : SrtN N.ns
  on : ∀ x ∈ N.ns, x.ok
/-- A valid network. -/
structure Vld (N : Net) : Prop where
  ln : N.ns.length ≤ 256
  lr : N.rs.length ≤ 1024
  sn : SrtN N.ns
  sr : SrtR N.rs
  on : ∀ x ∈ N.ns, x.ok
  or : ∀ x ∈ N.rs, x.ok N.ns
theorem Vld.half {N : Net} (g : Vld N) : Half N := ⟨g.ln, g.lr, g.sn, g.on⟩
theorem half_of {N : Net} (h1 : N.ns.length ≤ 256) (h2 : N.rs.length ≤ 1024) (h3 : nodesE N.ns 0 = 0) : Half N :=
  have a := nodesE_zero h3
  ⟨h1, h2, a.1, a.2.2⟩
theorem vld_of {N : Net} (h : checkE N = 0) : Vld N := by
  unfold checkE at h
  split at h
  · omega
  split at h
  · rename_i h1 h2; exact absurd h h2
  · rename_i h1 h2
    have a := nodesE_zero (Classical.not_not.1 h2)
    have b := roadsE_zero h
    exact ⟨by omega, by omega, a.1, b.1, a.2.2, b.2.2⟩
/-- A node by its id, or the zero node. -/
def NRes (N : Net) (id : Int) (a : Nd) (b : Bool) : Prop := (b = true ∧ fnd N.ns id = some a) ∨ (b = false ∧ fnd N.ns id = none ∧ a = Nd.z)
theorem nres_ex (N : Net) (id : Int) : ∃ a b, NRes N id a b := by
  cases h : fnd N.ns id with
  | none => exact ⟨_, _, .inr ⟨rfl, h, rfl⟩⟩
  | some x => exact ⟨_, _, .inl ⟨rfl, h⟩⟩
theorem NRes.bd {N : Net} {id : Int} {a : Nd} {b : Bool} (h : NRes N id a b) (g : Half N) : -1048576 ≤ a.x ∧ a.x ≤ 1048576 ∧ -1048576 ≤ a.y ∧ a.y ≤ 1048576 := by
  rcases h with ⟨_, h⟩ | ⟨_, _, rfl⟩
  · have := g.on a (fnd_of h).1
    exact this.2.2
  · decide
theorem roadE_no1 {N : Net} {r : Rd} {a : Nd} (h : NRes N r.f a false) : roadE N.ns r = 9 := by
  rcases h with ⟨h, _⟩ | ⟨_, h, _⟩
  · cases h
  · unfold roadE; rw [h]
theorem roadE_no2 {N : Net} {r : Rd} {a : Nd} (h : NRes N r.t a false) : roadE N.ns r = 9 := by
  rcases h with ⟨h, _⟩ | ⟨_, h, _⟩
  · cases h
  · unfold roadE; rw [h]; cases fnd N.ns r.f <;> rfl
theorem roadE_yes {N : Net} {r : Rd} {a b : Nd} (h1 : NRes N r.f a true) (h2 : NRes N r.t b true) : roadE N.ns r = roadX a b r := by
  rcases h1 with ⟨_, h1⟩ | ⟨h, _⟩
  · rcases h2 with ⟨_, h2⟩ | ⟨h, _⟩
    · unfold roadE; rw [h1, h2]
    · cases h
  · cases h
theorem sq_bd {x : Int} (h1 : -2097152 ≤ x) (h2 : x ≤ 2097152) : 0 ≤ x * x ∧ x * x ≤ 4398046511104 := by
  refine ⟨by rw [← Int.natAbs_mul_self]; omega, ?_⟩
  rw [← Int.natAbs_mul_self]
  have h : x.natAbs ≤ 2097152 := by omega
  have := Nat.mul_le_mul h h
  have e : ((x.natAbs * x.natAbs : Nat) : Int) ≤ ((2097152 * 2097152 : Nat) : Int) := Int.ofNat_le.2 this
  simpa using e
theorem sq_bd2 {x : Int} (h1 : 1 ≤ x) (h2 : x ≤ 1073741824) : 0 ≤ x * x ∧ x * x ≤ 1152921504606846976 := by
  refine ⟨by rw [← Int.natAbs_mul_self]; omega, ?_⟩
  rw [← Int.natAbs_mul_self]
  have h : x.natAbs ≤ 1073741824 := by omega
  have := Nat.mul_le_mul h h
  have e : ((x.natAbs * x.natAbs : Nat) : Int) ≤ ((1073741824 * 1073741824 : Nat) : Int) := Int.ofNat_le.2 this
  simpa using e
theorem chk_nodes {N : Net} {c : Int} (h1 : ¬ (256 < N.ns.length ∨ 1024 < N.rs.length)) (hc : nodesE N.ns 0 = c) (h : c ≠ 0) : checkE N = c := by
  unfold checkE; rw [if_neg h1, if_pos (by rw [hc]; exact h), hc]
theorem chk_roads {N : Net} (h1 : ¬ (256 < N.ns.length ∨ 1024 < N.rs.length)) (hc : nodesE N.ns 0 = 0) : checkE N = roadsE N.ns N.rs 0 := by
  unfold checkE; rw [if_neg h1, if_neg (by omega)]
theorem drop_get {α : Type} {l : List α} {k : Nat} {x : α} (h : l[k]? = some x) : l.drop k = x :: l.drop (k + 1) := by
  obtain ⟨hk, rfl⟩ := List.getElem?_eq_some_iff.1 h
  exact List.drop_eq_getElem_cons hk
theorem nodesE_get {l : List Nd} {k : Nat} {x : Nd} {b : Int} (h : l[k]? = some x) : nodesE (l.drop k) b = if idE x.i b ≠ 0 then idE x.i b else if (wide x.x || wide x.y) = true then 2 else nodesE (l.drop (k + 1)) x.i := by
  rw [drop_get h, nodesE]
theorem roadsE_get {ns : List Nd} {l : List Rd} {k : Nat} {x : Rd} {b : Int} (h : l[k]? = some x) : roadsE ns (l.drop k) b = if idE x.i b ≠ 0 then idE x.i b else if roadE ns x ≠ 0 then roadE ns x else roadsE ns (l.drop (k + 1)) x.i := by
  rw [drop_get h, roadsE]
end Nw
end Go.Proofs.YtldfencaoaikgaaGreatDoor

namespace Go.Proofs.YtldfencaoaikgaaGreatDoor
namespace Nw

/-- The roads by which a node can be left, or reached; the nodes behind them. -/
def outR (N : Net) (a : Int) : List Rd := N.rs.filter fun r => decide (r.f = a) || (decide (r.t = a) && !r.o)
def next (N : Net) (a : Int) : List Int := (outR N a).map fun r => r.f + r.t - a
inductive Rch (N : Net) (s : Int) : Int → Prop
  | refl : Rch N s s
  | step {a b : Int} : Rch N s a → b ∈ next N a → Rch N s b
def push (p : List Int × List Int) (x : Int) : List Int × List Int := if x ∈ p.1 then p else (x :: p.1, p.2 ++ [x])
def ids (N : Net) : List Int := N.ns.map fun x => x.i
/-- While nodes wait: seen S, waiting W; the roads of the nodes named by E are still to be followed. -/
structure Wl (N : Net) (s : Int) (S W : List Int) (E : Int → Prop) : Prop where
  hs : s ∈ S
  w : ∀ x ∈ W, x ∈ S
  r : ∀ x ∈ S, Rch N s x
  c : ∀ x ∈ S, x ∉ W → ¬ E x → ∀ y ∈ next N x, y ∈ S
  d : S.Nodup
  i : ∀ x ∈ S, x ∈ ids N
theorem Wl.start {N : Net} {s : Int} (h : s ∈ ids N) : Wl N s [s] [s] (fun _ => False) :=
  ⟨by simp, by simp, by simp only [List.mem_singleton]; rintro x rfl; exact .refl, by simp, by simp, by simp only [List.mem_singleton]; rintro x rfl; exact h⟩
theorem Wl.pop {N : Net} {s a : Int} {S W : List Int} (h : Wl N s S (a :: W) (fun _ => False)) : Wl N s S W (fun x => x = a) :=
  ⟨h.hs, fun x hx => h.w x (by simp [hx]), h.r, fun x hx hw he => h.c x hx (by simp [he, hw]) (fun e => e), h.d, h.i⟩
theorem Wl.push {N : Net} {s a x : Int} {S W : List Int} {E : Int → Prop} (h : Wl N s S W E) (ha : a ∈ S) (hx : x ∈ next N a) (hi : x ∈ ids N) : Wl N s (push (S, W) x).1 (push (S, W) x).2 E := by
  unfold Nw.push
  by_cases e : x ∈ S
  · rw [if_pos e]; exact h
  · rw [if_neg e]
    refine ⟨by simp [h.hs], fun y hy => ?_, fun y hy => ?_, fun y hy hw he => ?_, List.nodup_cons.2 ⟨e, h.d⟩, fun y hy => ?_⟩
    · rcases List.mem_append.1 hy with hy | hy
      · exact List.mem_cons_of_mem _ (h.w y hy)
      · rw [List.mem_singleton] at hy; simp [hy]
    · rcases List.mem_cons.1 hy with rfl | hy
      · exact .step (h.r a ha) hx
      · exact h.r y hy
    · rcases List.mem_cons.1 hy with rfl | hy
      · exact absurd (by simp) hw
      · exact fun z hz => List.mem_cons_of_mem _ (h.c y hy (fun q => hw (by simp [q])) he z hz)
    · rcases List.mem_cons.1 hy with rfl | hy
      · exact hi
      · exact h.i y hy
theorem push_sub (p : List Int × List Int) (x : Int) : (∀ y ∈ p.1, y ∈ (push p x).1) ∧ x ∈ (push p x).1 := by
  unfold push
  split
  · rename_i h; exact ⟨fun _ h => h, h⟩
  · exact ⟨fun y hy => by simp [hy], by simp⟩
theorem Wl.fold {N : Net} {s a : Int} {E : Int → Prop} : ∀ (l : List Int) {S W : List Int}, Wl N s S W E → a ∈ S → (∀ x ∈ l, x ∈ next N a) → (∀ x ∈ l, x ∈ ids N) →
    Wl N s (l.foldl Nw.push (S, W)).1 (l.foldl Nw.push (S, W)).2 E ∧ (∀ x ∈ S, x ∈ (l.foldl Nw.push (S, W)).1) ∧ ∀ x ∈ l, x ∈ (l.foldl Nw.push (S, W)).1
  | [], S, W, h, _, _, _ => ⟨h, fun _ h => h, by simp⟩
  | x :: l, S, W, h, ha, hn, hi => by
    have h1 := h.push ha (hn x (by simp)) (hi x (by simp))
    have h2 := push_sub (S, W) x
    have := Wl.fold l (S := (Nw.push (S, W) x).1) (W := (Nw.push (S, W) x).2) h1 (h2.1 a ha) (fun y hy => hn y (by simp [hy])) (fun y hy => hi y (by simp [hy]))
    rw [List.foldl_cons]
    exact ⟨this.1, fun y hy => this.2.1 y (h2.1 y hy), fun y hy => by
      rcases List.mem_cons.1 hy with rfl | hy
      · exact this.2.1 y h2.2
      · exact this.2.2 y hy⟩
/-- All roads of a are followed. -/
theorem Wl.round {N : Net} {s a : Int} {S W : List Int} (h : Wl N s S (a :: W) (fun _ => False)) (hi : ∀ x ∈ next N a, x ∈ ids N) :
    Wl N s ((next N a).foldl Nw.push (S, W)).1 ((next N a).foldl Nw.push (S, W)).2 (fun _ => False) := by
  obtain ⟨h1, h2, h3⟩ := h.pop.fold (next N a) (h.w a (by simp)) (fun _ h => h) hi
  refine ⟨h1.hs, h1.w, h1.r, fun x hx hw _ => ?_, h1.d, h1.i⟩
  by_cases e : x = a
  · subst e; exact h3
  · exact h1.c x hx hw e
theorem nodup_le {S l : List Int} (h : S.Nodup) (hs : ∀ x ∈ S, x ∈ l) : S.length ≤ l.length := by
  induction S generalizing l with
  | nil => simp
  | cons a S ih =>
    obtain ⟨h1, h2⟩ := List.nodup_cons.1 h
    have ha := hs a (by simp)
    have := ih (l := l.erase a) h2 fun x hx => (List.mem_erase_of_ne (fun e => h1 (by rw [← e]; exact hx))).2 (hs x (by simp [hx]))
    rw [List.length_erase_of_mem ha] at this
    have := List.length_pos_of_mem ha
    simp only [List.length_cons]; omega
theorem Wl.len {N : Net} {s : Int} {S W : List Int} {E : Int → Prop} (h : Wl N s S W E) : S.length ≤ N.ns.length := by
  have := nodup_le h.d h.i
  simpa [ids] using this
theorem Wl.done {N : Net} {s : Int} {S : List Int} (h : Wl N s S [] (fun _ => False)) (x : Int) : x ∈ S ↔ Rch N s x := by
  refine ⟨h.r x, fun q => ?_⟩
  induction q with
  | refl => exact h.hs
  | step _ hb ih => exact h.c _ ih (by simp) (fun e => e) _ hb
open Classical in
/-- The nodes that can be reached from a node. -/
noncomputable def reachE (N : Net) (s : Int) : List Int := if (fnd N.ns s).isSome then (ids N).filter fun x => decide (Rch N s x) else []
theorem reachE_of {N : Net} {s : Int} {S : List Int} (h : Wl N s S [] (fun _ => False)) : reachE N s = (ids N).filter fun x => decide (x ∈ S) := by
  have hs := h.i s h.hs
  have : (fnd N.ns s).isSome = true := by
    obtain ⟨x, hx, rfl⟩ := List.mem_map.1 hs
    unfold fnd
    rw [List.find?_isSome]
    exact ⟨x, hx, by simp⟩
  unfold reachE
  rw [if_pos this]
  refine List.filter_congr fun x _ => ?_
  exact decide_eq_decide.2 (h.done x).symm
theorem ids_of {N : Net} {s : Int} (h : (fnd N.ns s).isSome = true) : s ∈ ids N := by
  obtain ⟨x, hx⟩ := Option.isSome_iff_exists.1 h
  obtain ⟨h1, h2⟩ := fnd_of hx
  exact List.mem_map.2 ⟨x, h1, h2⟩
/-- The nodes behind the roads are nodes. -/
theorem next_ids {N : Net} (g : Vld N) {a x : Int} (h : x ∈ next N a) : x ∈ ids N := by
  obtain ⟨r, hr, rfl⟩ := List.mem_map.1 h
  obtain ⟨h1, h2⟩ := List.mem_filter.1 hr
  have := g.or r h1
  simp only [Bool.or_eq_true, Bool.and_eq_true, decide_eq_true_eq] at h2
  rcases h2 with rfl | ⟨rfl, _⟩
  · rw [show r.f + r.t - r.f = r.t from by omega]; exact ids_of this.2.2.2.2.2.2.2.2
  · rw [show r.f + r.t - r.t = r.f from by omega]; exact ids_of this.2.2.2.2.2.2.2.1
def rev (N : Net) : Net := ⟨N.ns, N.rs.map fun r => ⟨r.i, r.t, r.f, r.l, r.m, r.o⟩⟩
theorem rev_vld {N : Net} (g : Vld N) : Vld (rev N) := by
  refine ⟨g.ln, by simpa [rev] using g.lr, g.sn, ?_, g.on, ?_⟩
  · have := g.sr
    unfold SrtR rev at *
    exact List.pairwise_map.2 this
  · intro x hx
    obtain ⟨r, hr, rfl⟩ := List.mem_map.1 hx
    have := g.or r hr
    exact ⟨this.1, this.2.1, this.2.2.1, this.2.2.2.1, this.2.2.2.2.1, this.2.2.2.2.2.1, fun e => this.2.2.2.2.2.2.1 e.symm, this.2.2.2.2.2.2.2.2, this.2.2.2.2.2.2.2.1⟩
end Nw
end Go.Proofs.YtldfencaoaikgaaGreatDoor

namespace Go.Proofs.YtldfencaoaikgaaGreatDoor
namespace Nw

/-- A position: a road, and the length from its beginning. -/
structure Pc where
  r : Int
  q : Rat
/-- A node, and a length. -/
structure En where
  n : Int
  q : Rat
def placeR (r : Rd) (p : Pc) : Int := if Pl.sgn p.q < 0 ∨ 0 < Pl.cmpQ p.q (r.l : Rat) then 2 else 0
def placeE (N : Net) (p : Pc) : Int :=
  match frd N.rs p.r with
  | none => 9
  | some r => placeR r p
theorem placeE_none {N : Net} {p : Pc} (h : frd N.rs p.r = none) : placeE N p = 9 := by unfold placeE; rw [h]
theorem placeE_some {N : Net} {p : Pc} {r : Rd} (h : frd N.rs p.r = some r) : placeE N p = placeR r p := by unfold placeE; rw [h]
/-- The offset of a node at an end of a road. -/
def offE (r : Rd) (n : Int) : Rat := if r.f = n then 0 else (r.l : Rat)
/-- The node at which a position of a road is. -/
def atR (r : Rd) (q : Rat) : Option Int := if q = offE r r.f then some r.f else if q = offE r r.t then some r.t else none
def offTo (r : Rd) (n : Int) : Bool := decide (r.f = n) || decide (r.t = n)
def fstR (l : List Rd) (n : Int) : Option Rd := l.find? fun r => offTo r n
/-- The point at a part of a road between two nodes. -/
def pointE (r : Rd) (a b : Nd) (q : Rat) : Rat × Rat := Pl.divide (((a.x : Rat), (a.y : Rat)), ((b.x : Rat), (b.y : Rat))) (q / (r.l : Rat))
theorem l_small {n : Int} (h1 : -1073741824 ≤ n) (h2 : n ≤ 1073741824) : Pl.L n.natAbs ≤ 4 := by
  have h : n.natAbs ≤ 1073741824 := by omega
  exact Nat.le_trans (Pl.L_mono h) (by decide)
theorem sz_small {n : Int} (h1 : -1073741824 ≤ n) (h2 : n ≤ 1073741824) : Pl.Sz 4 (n : Rat) := Pl.sz_int (l_small h1 h2) (by decide)
end Nw
end Go.Proofs.YtldfencaoaikgaaGreatDoor

namespace Go.Proofs.YtldfencaoaikgaaGreatDoor
namespace Nw

/-- One way from a to b. -/
def Edge (N : Net) (a b : Int) : Prop := ∃ r ∈ N.rs, (r.f = a ∧ b = r.t) ∨ (r.t = a ∧ r.o = false ∧ b = r.f)
theorem next_edge {N : Net} {a b : Int} : b ∈ next N a ↔ Edge N a b := by
  unfold next outR Edge
  constructor
  · intro h
    obtain ⟨r, hr, rfl⟩ := List.mem_map.1 h
    obtain ⟨h1, h2⟩ := List.mem_filter.1 hr
    simp only [Bool.or_eq_true, Bool.and_eq_true, decide_eq_true_eq, Bool.not_eq_true'] at h2
    rcases h2 with h2 | ⟨h2, h3⟩
    · exact ⟨r, h1, .inl ⟨h2, by omega⟩⟩
    · exact ⟨r, h1, .inr ⟨h2, h3, by omega⟩⟩
  · rintro ⟨r, h1, h2⟩
    refine List.mem_map.2 ⟨r, List.mem_filter.2 ⟨h1, ?_⟩, ?_⟩
    · simp only [Bool.or_eq_true, Bool.and_eq_true, decide_eq_true_eq, Bool.not_eq_true']
      rcases h2 with ⟨h2, _⟩ | ⟨h2, h3, _⟩
      · exact .inl h2
      · exact .inr ⟨h2, h3⟩
    · rcases h2 with ⟨h2, h3⟩ | ⟨h2, _, h3⟩ <;> omega
theorem edge_rev {N : Net} {a b : Int} : Edge (rev N) a b ↔ Edge N b a := by
  unfold Edge rev
  constructor
  · rintro ⟨r, hr, h⟩
    obtain ⟨r, h1, rfl⟩ := List.mem_map.1 hr
    exact ⟨r, h1, h.elim (fun ⟨h2, h3⟩ => .inl ⟨h3.symm, h2.symm⟩) fun ⟨h2, h3, h4⟩ => .inr ⟨h4.symm, h3, h2.symm⟩⟩
  · rintro ⟨r, h1, h⟩
    exact ⟨_, List.mem_map.2 ⟨r, h1, rfl⟩, h.elim (fun ⟨h2, h3⟩ => .inl ⟨h3.symm, h2.symm⟩) fun ⟨h2, h3, h4⟩ => .inr ⟨h4.symm, h3, h2.symm⟩⟩
theorem Rch.trans {N : Net} {a b c : Int} (h : Rch N a b) (k : Rch N b c) : Rch N a c := by
  induction k with
  | refl => exact h
  | step _ hb ih => exact .step ih hb
theorem Rch.rev {N : Net} {a b : Int} (h : Rch (Nw.rev N) a b) : Rch N b a := by
  induction h with
  | refl => exact .refl
  | step _ hb ih => exact Rch.trans (.step .refl (next_edge.2 (edge_rev.1 (next_edge.1 hb)))) ih
theorem rev_rev (N : Net) : rev (rev N) = N := by
  cases N with | mk ns rs => simp [rev, List.map_map, Function.comp_def]
theorem rch_rev {N : Net} {a b : Int} : Rch (rev N) a b ↔ Rch N b a := ⟨Rch.rev, fun h => Rch.rev (by rwa [rev_rev])⟩

/-! ### in rounds -/
def ins (S : List Int) (x : Int) : List Int := if x ∈ S then S else x :: S
theorem mem_ins {S : List Int} {x y : Int} : y ∈ ins S x ↔ y = x ∨ y ∈ S := by
  unfold ins; split
  · rename_i h; exact ⟨.inr, fun q => q.elim (fun e => e ▸ h) id⟩
  · exact List.mem_cons
def stepA (S : List Int) (r : Rd) : List Int := if r.f ∈ S then ins S r.t else S
def stepB (S : List Int) (r : Rd) : List Int := if r.t ∈ S ∧ r.o = false then ins S r.f else S
def stepR (S : List Int) (r : Rd) : List Int := stepB (stepA S r) r
def roundS (N : Net) (S : List Int) : List Int := N.rs.foldl stepR S
/-- What a set of nodes seen is. -/
structure Sn (N : Net) (s : Int) (S : List Int) : Prop where
  hs : s ∈ S
  r : ∀ x ∈ S, Rch N s x
  d : S.Nodup
  i : ∀ x ∈ S, x ∈ ids N
theorem Sn.ins {N : Net} {s x : Int} {S : List Int} (h : Sn N s S) (hr : Rch N s x) (hi : x ∈ ids N) : Sn N s (ins S x) := by
  refine ⟨mem_ins.2 (.inr h.hs), fun y hy => ?_, ?_, fun y hy => ?_⟩
  · rcases mem_ins.1 hy with rfl | hy
    · exact hr
    · exact h.r y hy
  · unfold Nw.ins; split
    · exact h.d
    · rename_i e; exact List.nodup_cons.2 ⟨e, h.d⟩
  · rcases mem_ins.1 hy with rfl | hy
    · exact hi
    · exact h.i y hy
theorem Sn.stepA {N : Net} (g : Vld N) {s : Int} {S : List Int} (h : Sn N s S) {r : Rd} (hr : r ∈ N.rs) : Sn N s (stepA S r) := by
  unfold Nw.stepA; split
  · rename_i e
    exact h.ins (.step (h.r _ e) (next_edge.2 ⟨r, hr, .inl ⟨rfl, rfl⟩⟩)) (ids_of (g.or r hr).2.2.2.2.2.2.2.2)
  · exact h
theorem Sn.stepB {N : Net} (g : Vld N) {s : Int} {S : List Int} (h : Sn N s S) {r : Rd} (hr : r ∈ N.rs) : Sn N s (stepB S r) := by
  unfold Nw.stepB; split
  · rename_i e
    exact h.ins (.step (h.r _ e.1) (next_edge.2 ⟨r, hr, .inr ⟨rfl, e.2, rfl⟩⟩)) (ids_of (g.or r hr).2.2.2.2.2.2.2.1)
  · exact h
theorem Sn.stepR {N : Net} (g : Vld N) {s : Int} {S : List Int} (h : Sn N s S) {r : Rd} (hr : r ∈ N.rs) : Sn N s (stepR S r) := (h.stepA g hr).stepB g hr
theorem Sn.fold {N : Net} (g : Vld N) {s : Int} : ∀ (l : List Rd) {S : List Int}, Sn N s S → (∀ r ∈ l, r ∈ N.rs) → Sn N s (l.foldl Nw.stepR S)
  | [], _, h, _ => h
  | r :: l, _, h, hl => Sn.fold g l (h.stepR g (hl r (by simp))) fun x hx => hl x (by simp [hx])
theorem Sn.round {N : Net} (g : Vld N) {s : Int} {S : List Int} (h : Sn N s S) : Sn N s (roundS N S) := h.fold g N.rs fun _ h => h
theorem Sn.len {N : Net} {s : Int} {S : List Int} (h : Sn N s S) : S.length ≤ N.ns.length := by
  have := nodup_le h.d h.i
  simpa [ids] using this
theorem len_ins (S : List Int) (x : Int) : S.length ≤ (ins S x).length ∧ (x ∉ S → S.length < (ins S x).length) := by
  unfold ins; split
  · rename_i h; exact ⟨Nat.le_refl _, fun q => absurd h q⟩
  · exact ⟨by simp, fun _ => by simp⟩
theorem len_stepR (S : List Int) (r : Rd) : S.length ≤ (stepR S r).length ∧ ((stepR S r).length = S.length → stepR S r = S ∧ (r.f ∈ S → r.t ∈ S) ∧ (r.t ∈ S → r.o = false → r.f ∈ S)) := by
  have hA : S.length ≤ (stepA S r).length ∧ ((stepA S r).length = S.length → stepA S r = S ∧ (r.f ∈ S → r.t ∈ S)) := by
    unfold stepA
    split
    · rename_i h
      have := len_ins S r.t
      refine ⟨this.1, fun e => ?_⟩
      have h2 : r.t ∈ S := Classical.byContradiction fun q => by have := this.2 q; omega
      exact ⟨if_pos h2, fun _ => h2⟩
    · rename_i h; exact ⟨Nat.le_refl _, fun _ => ⟨rfl, fun q => absurd q h⟩⟩
  have hB : ∀ S : List Int, S.length ≤ (stepB S r).length ∧ ((stepB S r).length = S.length → stepB S r = S ∧ (r.t ∈ S → r.o = false → r.f ∈ S)) := fun S => by
    unfold stepB
    split
    · rename_i h
      have := len_ins S r.f
      refine ⟨this.1, fun e => ?_⟩
      have h2 : r.f ∈ S := Classical.byContradiction fun q => by have := this.2 q; omega
      exact ⟨if_pos h2, fun _ _ => h2⟩
    · rename_i h; exact ⟨Nat.le_refl _, fun _ => ⟨rfl, fun q q2 => absurd ⟨q, q2⟩ h⟩⟩
  have h1 := hA
  have h2 := hB (stepA S r)
  unfold stepR
  refine ⟨Nat.le_trans h1.1 h2.1, fun e => ?_⟩
  have e1 : (stepA S r).length = S.length := by omega
  obtain ⟨e2, e3⟩ := h1.2 e1
  have e4 := h2.2 (by omega)
  rw [e2] at e4 ⊢
  exact ⟨e4.1, e3, e4.2⟩
theorem len_fold : ∀ (l : List Rd) (S : List Int), S.length ≤ (l.foldl stepR S).length ∧ ((l.foldl stepR S).length = S.length → l.foldl stepR S = S ∧ ∀ r ∈ l, (r.f ∈ S → r.t ∈ S) ∧ (r.t ∈ S → r.o = false → r.f ∈ S))
  | [], S => ⟨Nat.le_refl _, fun _ => ⟨rfl, by simp⟩⟩
  | r :: l, S => by
    rw [List.foldl_cons]
    have h1 := len_stepR S r
    have h2 := len_fold l (stepR S r)
    refine ⟨Nat.le_trans h1.1 h2.1, fun e => ?_⟩
    obtain ⟨e1, e2⟩ := h1.2 (by omega)
    have h3 := h2.2 (by omega)
    rw [e1] at h3 ⊢
    refine ⟨h3.1, fun x hx => ?_⟩
    rcases List.mem_cons.1 hx with rfl | hx
    · exact e2
    · exact h3.2 x hx
/-- Nothing is left to be seen. -/
def Full (N : Net) (S : List Int) : Prop := roundS N S = S
theorem Full.closed {N : Net} {S : List Int} (h : Full N S) {a b : Int} (ha : a ∈ S) (hb : b ∈ next N a) : b ∈ S := by
  obtain ⟨r, hr, h1⟩ := next_edge.1 hb
  have := ((len_fold N.rs S).2 (by rw [show N.rs.foldl stepR S = S from h])).2 r hr
  rcases h1 with ⟨rfl, rfl⟩ | ⟨rfl, h2, rfl⟩
  · exact this.1 ha
  · exact this.2 ha h2
/-- k rounds. -/
def rounds (N : Net) : Nat → List Int → List Int
  | 0, S => S
  | k + 1, S => roundS N (rounds N k S)
theorem rounds_sn {N : Net} (g : Vld N) {s : Int} (h : s ∈ ids N) : ∀ k, Sn N s (rounds N k [s])
  | 0 => ⟨by simp [rounds], by simp only [rounds, List.mem_singleton]; rintro x rfl; exact .refl, by simp [rounds], by simp only [rounds, List.mem_singleton]; rintro x rfl; exact h⟩
  | k + 1 => (rounds_sn g h k).round g
theorem rounds_len {N : Net} {s : Int} : ∀ k, Full N (rounds N k [s]) ∨ k + 1 ≤ (rounds N k [s]).length
  | 0 => .inr (by simp [rounds])
  | k + 1 => by
    rcases rounds_len (N := N) (s := s) k with h | h
    · left; unfold rounds; rw [show roundS N (rounds N k [s]) = rounds N k [s] from h]; exact h
    · have h1 := len_fold N.rs (rounds N k [s])
      rcases Nat.lt_or_ge (rounds N k [s]).length (roundS N (rounds N k [s])).length with q | q
      · right; show _ ≤ (roundS N (rounds N k [s])).length; omega
      · left
        have h2 := (h1.2 (Nat.le_antisymm q h1.1)).1
        unfold rounds
        rw [show roundS N (rounds N k [s]) = rounds N k [s] from h2]; exact h2
theorem rounds_done {N : Net} (g : Vld N) {s : Int} (h : s ∈ ids N) (x : Int) : x ∈ rounds N N.ns.length [s] ↔ Rch N s x := by
  have hn := rounds_sn g h N.ns.length
  have hf : Full N (rounds N N.ns.length [s]) := by
    rcases rounds_len (N := N) (s := s) N.ns.length with q | q
    · exact q
    · have := hn.len; omega
  refine ⟨hn.r x, fun q => ?_⟩
  induction q with
  | refl => exact hn.hs
  | step _ hb ih => exact hf.closed ih hb
theorem reachE_rounds {N : Net} (g : Vld N) {s : Int} (h : s ∈ ids N) : reachE N s = (ids N).filter fun x => decide (x ∈ rounds N N.ns.length [s]) := by
  have : (fnd N.ns s).isSome = true := by
    obtain ⟨x, hx, rfl⟩ := List.mem_map.1 h
    unfold fnd
    rw [List.find?_isSome]
    exact ⟨x, hx, by simp⟩
  unfold reachE
  rw [if_pos this]
  refine List.filter_congr fun x _ => ?_
  exact decide_eq_decide.2 (rounds_done g h x).symm

/-! ### groups -/
theorem mem_reachE {N : Net} {s x : Int} (h : s ∈ ids N) : x ∈ reachE N s ↔ x ∈ ids N ∧ Rch N s x := by
  have : (fnd N.ns s).isSome = true := by
    obtain ⟨x, hx, rfl⟩ := List.mem_map.1 h
    unfold fnd
    rw [List.find?_isSome]
    exact ⟨x, hx, by simp⟩
  unfold reachE
  rw [if_pos this, List.mem_filter]
  exact and_congr Iff.rfl (by classical exact decide_eq_true_iff)
/-- In one group. -/
def Eqv (N : Net) (a b : Int) : Prop := Rch N a b ∧ Rch N b a
theorem Eqv.symm {N : Net} {a b : Int} (h : Eqv N a b) : Eqv N b a := ⟨h.2, h.1⟩
theorem Eqv.trans {N : Net} {a b c : Int} (h : Eqv N a b) (k : Eqv N b c) : Eqv N a c := ⟨h.1.trans k.1, k.2.trans h.2⟩
theorem Eqv.refl (N : Net) (a : Int) : Eqv N a a := ⟨.refl, .refl⟩
noncomputable def grp (N : Net) (a : Int) : List Int := (reachE N a).filter fun x => decide (x ∈ reachE (rev N) a)
theorem mem_grp {N : Net} {a x : Int} (h : a ∈ ids N) : x ∈ grp N a ↔ x ∈ ids N ∧ Eqv N a x := by
  have h2 : a ∈ ids (rev N) := h
  unfold grp Eqv
  rw [List.mem_filter, decide_eq_true_eq, mem_reachE h, mem_reachE h2, rch_rev]
  exact ⟨fun ⟨⟨a, b⟩, _, c⟩ => ⟨a, b, c⟩, fun ⟨a, b, c⟩ => ⟨⟨a, b⟩, a, c⟩⟩
theorem grp_sub (N : Net) (a : Int) : (grp N a).Sublist (ids N) := by
  unfold grp
  refine List.Sublist.trans List.filter_sublist ?_
  unfold reachE; split
  · exact List.filter_sublist
  · exact List.nil_sublist _
theorem ids_sorted {N : Net} (g : Vld N) : (ids N).Pairwise (· < ·) := by
  unfold ids; exact List.pairwise_map.2 g.sn
theorem grp_sorted {N : Net} (g : Vld N) (a : Int) : (grp N a).Pairwise (· < ·) := (ids_sorted g).sublist (grp_sub N a)
open Classical in
/-- The first node of its group. -/
noncomputable def rep (N : Net) (a : Int) : Bool := decide (∀ b ∈ ids N, b < a → ¬ Eqv N b a)
open Classical in
theorem rep_true {N : Net} {a : Int} : rep N a = true ↔ ∀ b ∈ ids N, b < a → ¬ Eqv N b a := by unfold rep; exact decide_eq_true_iff
theorem rep_false {N : Net} {a : Int} : rep N a = false ↔ ¬ ∀ b ∈ ids N, b < a → ¬ Eqv N b a := by rw [← rep_true]; simp
noncomputable def reps (N : Net) : List Int := (ids N).filter (rep N)
noncomputable def groupsE (N : Net) : List (List Int) := (reps N).map (grp N)
theorem rep_of {N : Net} (g : Vld N) {k : Nat} {a : Int} (ha : (ids N)[k]? = some a) : rep N a = false ↔ ∃ b ∈ (ids N).take k, Eqv N b a := by
  have hs := ids_sorted g
  obtain ⟨hk, rfl⟩ := List.getElem?_eq_some_iff.1 ha
  rw [rep_false]
  constructor
  · intro h
    refine Classical.byContradiction fun q => h fun b hb hlt he => q ⟨b, ?_, he⟩
    obtain ⟨j, hj, rfl⟩ := List.mem_iff_getElem.1 hb
    rw [List.mem_take_iff_getElem]
    refine ⟨j, ?_, rfl⟩
    have : j < k := by
      rcases Nat.lt_trichotomy j k with q | q | q
      · exact q
      · subst q; omega
      · have := List.pairwise_iff_getElem.1 hs k j hk hj q; omega
    omega
  · rintro ⟨b, hb, he⟩ h
    obtain ⟨j, hj, rfl⟩ := List.mem_take_iff_getElem.1 hb
    have := List.pairwise_iff_getElem.1 hs j k (by omega) hk (by omega)
    exact h _ (List.getElem_mem _) this he
/-- Each node has a first one of its group. -/
theorem rep_ex {N : Net} {a : Int} (ha : a ∈ ids N) : ∃ b ∈ reps N, Eqv N b a := by
  have key : ∀ (n : Nat) (a : Int), a ∈ ids N → ((ids N).filter fun b => decide (b < a)).length ≤ n → ∃ b ∈ reps N, Eqv N b a := by
    intro n
    induction n with
    | zero =>
      intro a ha h
      refine ⟨a, List.mem_filter.2 ⟨ha, ?_⟩, .refl _ _⟩
      rw [rep_true]
      intro b hb hlt
      have : b ∈ (ids N).filter fun b => decide (b < a) := List.mem_filter.2 ⟨hb, by simpa using hlt⟩
      rw [List.eq_nil_of_length_eq_zero (Nat.le_zero.1 h)] at this
      cases this
    | succ n ih =>
      intro a ha h
      by_cases hr : rep N a = true
      · exact ⟨a, List.mem_filter.2 ⟨ha, hr⟩, .refl _ _⟩
      · rw [rep_true] at hr
        obtain ⟨b, hb⟩ := Classical.not_forall.1 hr
        obtain ⟨h1, hb⟩ := Classical.not_imp.1 hb
        obtain ⟨h2, hb⟩ := Classical.not_imp.1 hb
        have h3 := Classical.not_not.1 hb
        have hlt : ((ids N).filter fun c => decide (c < b)).length < ((ids N).filter fun c => decide (c < a)).length := by
          have e : ((ids N).filter fun c => decide (c < b)) = (((ids N).filter fun c => decide (c < a)).filter fun c => decide (c < b)) := by
            rw [List.filter_filter]; exact List.filter_congr fun x _ => by by_cases q : x < b <;> simp [q]; omega
          rw [e]
          exact List.length_filter_lt_length_iff_exists.2 ⟨b, List.mem_filter.2 ⟨h1, by simpa using h2⟩, by simp⟩
        obtain ⟨c, hc, he⟩ := ih b h1 (by omega)
        exact ⟨c, hc, he.trans h3⟩
  exact key _ a ha (Nat.le_refl _)
theorem reps_eq {N : Net} {a b : Int} (ha : a ∈ reps N) (hb : b ∈ reps N) (h : Eqv N a b) : a = b := by
  obtain ⟨ha1, ha2⟩ := List.mem_filter.1 ha
  obtain ⟨hb1, hb2⟩ := List.mem_filter.1 hb
  rw [rep_true] at ha2 hb2
  rcases Int.lt_trichotomy a b with q | q | q
  · exact absurd h (hb2 a ha1 q)
  · exact q
  · exact absurd h.symm (ha2 b hb1 q)
theorem reps_sorted {N : Net} (g : Vld N) : (reps N).Pairwise (· < ·) := (ids_sorted g).sublist List.filter_sublist
/-- A group begins with its first node. -/
theorem grp_head {N : Net} (g : Vld N) {a : Int} (ha : a ∈ reps N) : ∃ t, grp N a = a :: t := by
  obtain ⟨ha1, ha2⟩ := List.mem_filter.1 ha
  rw [rep_true] at ha2
  have hm : a ∈ grp N a := (mem_grp ha1).2 ⟨ha1, .refl _ _⟩
  cases hg : grp N a with
  | nil => rw [hg] at hm; cases hm
  | cons b t =>
    rw [hg] at hm
    rcases List.mem_cons.1 hm with rfl | hm
    · exact ⟨t, rfl⟩
    · have hs := grp_sorted g a
      rw [hg] at hs
      have := (List.pairwise_cons.1 hs).1 a hm
      have hb : b ∈ grp N a := by rw [hg]; simp
      obtain ⟨hb1, hb2⟩ := (mem_grp ha1).1 hb
      exact absurd hb2.symm (ha2 b hb1 this)
/-- All groups together are all nodes. -/
theorem groups_total {N : Net} (g : Vld N) : ((groupsE N).map List.length).sum = N.ns.length := by
  have e1 : ((groupsE N).map List.length).sum = (groupsE N).flatten.length := by rw [List.length_flatten]
  have hd : (groupsE N).flatten.Nodup := by
    rw [List.nodup_iff_pairwise_ne, List.pairwise_flatten]
    constructor
    · intro l hl
      obtain ⟨a, _, rfl⟩ := List.mem_map.1 hl
      exact (grp_sorted g a).imp fun h => by omega
    · unfold groupsE
      rw [List.pairwise_map]
      refine (reps_sorted g).imp_of_mem ?_
      intro a b ha hb hlt x hx y hy e
      subst e
      have h1 := (mem_grp (List.mem_filter.1 ha).1).1 hx
      have h2 := (mem_grp (List.mem_filter.1 hb).1).1 hy
      have := reps_eq ha hb (h1.2.trans h2.2.symm)
      omega
  have hi : (ids N).Nodup := by
    rw [List.nodup_iff_pairwise_ne]; exact (ids_sorted g).imp fun h => by omega
  have h1 : ∀ x, x ∈ (groupsE N).flatten ↔ x ∈ ids N := by
    intro x
    rw [List.mem_flatten]
    constructor
    · rintro ⟨l, hl, hx⟩
      obtain ⟨a, ha, rfl⟩ := List.mem_map.1 hl
      exact ((mem_grp (List.mem_filter.1 ha).1).1 hx).1
    · intro hx
      obtain ⟨b, hb, he⟩ := rep_ex hx
      exact ⟨_, List.mem_map.2 ⟨b, hb, rfl⟩, (mem_grp (List.mem_filter.1 hb).1).2 ⟨hx, he⟩⟩
  have h2 := nodup_le hd fun x hx => (h1 x).1 hx
  have h3 := nodup_le hi fun x hx => (h1 x).2 hx
  rw [e1]
  have : (ids N).length = N.ns.length := by simp [ids]
  omega
end Nw
end Go.Proofs.YtldfencaoaikgaaGreatDoor

namespace Go.Proofs.YtldfencaoaikgaaGreatDoor
namespace Nw

theorem l_ne {r : Rd} (h : 1 ≤ r.l) : (r.l : Rat) ≠ 0 := by
  intro e
  have : r.l = 0 := Rat.intCast_inj.1 (by rw [e]; rfl)
  omega
/-- A valid position. -/
structure At (N : Net) (r : Rd) (p : Pc) : Prop where
  f : frd N.rs p.r = some r
  lo : 0 ≤ p.q
  hi : p.q ≤ (r.l : Rat)
theorem at_iff {N : Net} {r : Rd} {p : Pc} (h : frd N.rs p.r = some r) : placeE N p = 0 ↔ At N r p := by
  rw [placeE_some h]; unfold placeR
  have s1 := Pl.sgn_lt_iff p.q
  have s2 := Pl.cmp_gt_iff p.q (r.l : Rat)
  constructor
  · intro k
    split at k
    · omega
    · rename_i e; exact ⟨h, Rat.not_lt.1 fun q => e (.inl (s1.2 q)), Rat.not_lt.1 fun q => e (.inr (s2.2 q))⟩
  · intro k; rw [if_neg]; rintro (q | q)
    · exact Rat.not_lt.2 k.lo (s1.1 q)
    · exact Rat.not_lt.2 k.hi (s2.1 q)
theorem At.ok {N : Net} (g : Vld N) {r : Rd} {p : Pc} (h : At N r p) : r.ok N.ns := g.or r (frd_of h.f).1
/-- The point of a position. -/
def pointN (N : Net) (r : Rd) (q : Rat) : Rat × Rat :=
  match fnd N.ns r.f, fnd N.ns r.t with
  | some a, some b => pointE r a b q
  | _, _ => (0, 0)
theorem pointN_of {N : Net} {r : Rd} {a b : Nd} (h1 : fnd N.ns r.f = some a) (h2 : fnd N.ns r.t = some b) (q : Rat) : pointN N r q = pointE r a b q := by unfold pointN; simp only [h1, h2]
/-- The nodes beside a position. -/
def pairE (b : Bool) (x y : En) : List En := if b then if x.n < y.n then [x, y] else [y, x] else [y]
def exitsE (r : Rd) (q : Rat) : List En := match atR r q with | some n => [⟨n, 0⟩] | none => pairE (!r.o) ⟨r.f, q⟩ ⟨r.t, (r.l : Rat) - q⟩
def Rd.rev (r : Rd) : Rd := ⟨r.i, r.t, r.f, r.l, r.m, r.o⟩
end Nw
end Go.Proofs.YtldfencaoaikgaaGreatDoor
