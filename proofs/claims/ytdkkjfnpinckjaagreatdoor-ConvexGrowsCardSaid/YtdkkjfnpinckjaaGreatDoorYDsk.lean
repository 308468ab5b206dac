/-
 Disks in the plain: the points of the rings, and that all of them are corners.
-/
import Derived.Test.YtdkkjfnpinckjaaGreatDoorYCutS
import Derived.Test.YtdkkjfnpinckjaaGreatDoorYSupP
set_option maxRecDepth 100000
set_option linter.unusedSimpArgs false
set_option linter.unusedVariables false
namespace Go.Proofs.YtdkkjfnpinckjaaGreatDoor
namespace Pl

def tri (n k : Nat) : Int × Int × Int := ((n : Int) * n - k * k, 2 * n * k, (n : Int) * n + k * k)
def rotT (t : Int × Int × Int) : Int × Int × Int := (-t.2.1, t.1, t.2.2)
def rotTN : Nat → Int × Int × Int → Int × Int × Int
 | 0, t => t
 | q + 1, t => rotT (rotTN q t)
def trip (n i : Nat) : Int × Int × Int := rotTN (i / n) (tri n (i % n))
def tD (s t : Int × Int × Int) : Int := s.1 * t.1 + s.2.1 * t.2.1
def tE (s t : Int × Int × Int) : Int := s.2.2 * t.2.2
def okP (s t : Int × Int × Int) : Bool := decide (tD s t < tE s t)
def okQ (s s' t t' : Int × Int × Int) : Bool :=
 decide (tD t s * tE t' s' + tD t s' * tE t' s + tD t' s * tE t s' + tD t' s' * tE t s < 2 * (tE t t' * tE s s') + 2 * (tD t t' * tE s s'))
def okN (n : Nat) (s s' : Int × Int × Int) : Bool :=
 decide (0 < s.2.2) && (decide (tD s s = tE s s) && (decide (0 ≤ tD s s') && (decide (tD s s' < tE s s') && decide (2 * ((n : Int) * n) * tE s s' ≤ ((n : Int) * n + 1) * (tE s s' + tD s s')))))
def allB (f : Nat → Bool) : Nat → Bool
 | 0 => true
 | k + 1 => f k && allB f k
theorem allB_spec {f : Nat → Bool} : ∀ {N : Nat}, allB f N = true → ∀ i, i < N → f i = true
 | 0, _, i, h => by omega
 | N + 1, h, i, hi => by
  simp only [allB, Bool.and_eq_true] at h
  rcases Nat.lt_succ_iff_lt_or_eq.1 hi with h1 | h1
  ·exact allB_spec h.2 i h1
  ·subst h1; exact h.1
def nx (n i : Nat) : Nat := (i + 1) % (4 * n)
def chk (n : Nat) : Bool := allB (fun i => okN n (trip n i) (trip n (nx n i)) && allB (fun j => (i == j) || (okP (trip n i) (trip n j) && okQ (trip n i) (trip n (nx n i)) (trip n j) (trip n (nx n j)))) (4 * n)) (4 * n)
theorem chk_all : allB (fun m => chk (m + 1)) 16 = true := by decide +kernel

def tV (t : Int × Int × Int) : Pt := ((t.1 : Rat) / (t.2.2 : Rat), (t.2.1 : Rat) / (t.2.2 : Rat))
def rotP (p : Pt) : Pt := (-p.2, p.1)
def rotN : Nat → Pt → Pt
 | 0, p => p
 | q + 1, p => rotP (rotN q p)
/-- A point of the ring. -/
def dp (n : Nat) (r : Rat) (i : Nat) : Pt := rotN (i / n) (scaleP (tV (tri n (i % n))) r)
theorem rot_tV (r : Rat) (t : Int × Int × Int) : rotP (scaleP (tV t) r) = scaleP (tV (rotT t)) r := by
 unfold rotP scaleP tV rotT
 simp only [Rat.intCast_neg, Prod.mk.injEq, and_true]
 rw [Rat.div_def, Rat.div_def]; grind
theorem rotN_tV (r : Rat) (t : Int × Int × Int) : ∀ q, rotN q (scaleP (tV t) r) = scaleP (tV (rotTN q t)) r
 | 0 => rfl
 | q + 1 => by rw [rotN, rotN_tV r t q, rot_tV]; rfl
theorem dp_trip (n : Nat) (r : Rat) (i : Nat) : dp n r i = scaleP (tV (trip n i)) r := rotN_tV r _ _

/-- The product of two unit points. -/
def uD (s t : Int × Int × Int) : Rat := dotP (tV s) (tV t)
theorem dot_scale (p q : Pt) (r : Rat) : dotP (scaleP p r) (scaleP q r) = r * r * dotP p q := by unfold dotP scaleP; grind
theorem dp_dot (n : Nat) (r : Rat) (i j : Nat) : dotP (dp n r i) (dp n r j) = r * r * uD (trip n i) (trip n j) := by rw [dp_trip, dp_trip, dot_scale]; rfl
theorem pos_cast {a : Int} (h : 0 < a) : (0 : Rat) < (a : Rat) := by exact_mod_cast h
theorem uD_mul {s t : Int × Int × Int} (hs : 0 < s.2.2) (ht : 0 < t.2.2) : uD s t * (tE s t : Int) = (tD s t : Int) := by
 have h1 : (s.2.2 : Rat) ≠ 0 := fun e => by have := pos_cast hs; grind
 have h2 : (t.2.2 : Rat) ≠ 0 := fun e => by have := pos_cast ht; grind
 unfold uD dotP tV tE tD
 simp only [Rat.intCast_add, Rat.intCast_mul, Rat.div_def]
 have e1 : (s.2.2 : Rat) * (s.2.2 : Rat)⁻¹ = 1 := Rat.mul_inv_cancel _ h1
 have e2 : (t.2.2 : Rat) * (t.2.2 : Rat)⁻¹ = 1 := Rat.mul_inv_cancel _ h2
 grind
end Pl
end Go.Proofs.YtdkkjfnpinckjaaGreatDoor
