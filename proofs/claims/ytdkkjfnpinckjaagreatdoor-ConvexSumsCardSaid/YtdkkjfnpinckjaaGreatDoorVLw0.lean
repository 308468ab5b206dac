/-
  Plain parts of the laws on convex sets: fewer spots, equal lists, farthest points with their errors.
-/
import Derived.Test.YtdkkjfnpinckjaaGreatDoorVMr
import Derived.Test.YtdkkjfnpinckjaaGreatDoorVCsu
import Derived.Test.YtdkkjfnpinckjaaGreatDoorVSupP
import Derived.Test.YtdkkjfnpinckjaaGreatDoorVMp
import Derived.Test.YtdkkjfnpinckjaaGreatDoorVMo
set_option linter.unusedSimpArgs false
set_option linter.unusedVariables false
namespace Go.Proofs.YtdkkjfnpinckjaaGreatDoor
open Go Go.RowKit

/-- Fewer spots. -/
theorem TV.take {w : World} {A : Option Addr} {c M : Nat} {l : List (Int × Int × Bool)} (h : TV w (.slice A l.length c) l) (hM : M ≤ l.length) : TV w (.slice A M c) (l.take M) := by
  obtain ⟨A', c', h1, h2, h3, h4⟩ := h
  cases h1
  exact ⟨A, c, by rw [List.length_take, Nat.min_eq_left hM], by rw [List.length_take, Nat.min_eq_left hM]; omega, h3, fun k x hx => h4 k x (by
    rw [List.getElem?_take] at hx
    split at hx
    · exact hx
    · cases hx)⟩
theorem same_true (va vb : Value) (l : List (Rat × Rat)) (w : World) (ha : PV w va l) (hb : PV w vb l) (hn : l.length ≤ 1000000) :
    Calls Tryz.prog 25 #[va, vb] w fun e w' => e = .returned (.bool true) ∧ Below w.heap.size w w' := by
  have h := hsame_any va vb l l w ha hb hn
  rwa [Pl.sameB_iff, decide_eq_true rfl] at h
/-- The farthest point, and the error. -/
def suppV (l : List (Rat × Rat)) (d : Rat × Rat) : Rat × Rat := match l with
  | [] => (0, 0)
  | a :: _ => Pl.supp l d a
def suppE (l : List (Rat × Rat)) : Int := match l with
  | [] => 10
  | _ => 0
theorem suppE_nil : suppE (Pl.wrap []) = 10 := rfl
theorem suppE_ne {l : List (Rat × Rat)} (h : l ≠ []) : suppE l = 0 := by
  cases l with
  | nil => exact absurd rfl h
  | cons a l => rfl
theorem suppV_some {l : List (Rat × Rat)} (h : l ≠ []) (d : Rat × Rat) : ∃ a ∈ l, suppV l d = Pl.supp l d a := by
  cases l with
  | nil => exact absurd rfl h
  | cons a l => exact ⟨a, by simp, rfl⟩
theorem suppV_sz {S : Nat} {l : List (Rat × Rat)} {d : Rat × Rat} (h : ∀ q ∈ l, Pl.SzP S q) : Pl.SzP (S + 1) (suppV l d) := by
  cases l with
  | nil => exact ⟨Pl.sz_zero.mono (by omega), Pl.sz_zero.mono (by omega)⟩
  | cons a l => exact (h _ (Pl.supp_mem (by simp))).mono (by omega)
theorem csupp_v {S : Nat} (v : Value) (l : List (Rat × Rat)) (d : Rat × Rat) (w : World) (h : PV w v l) (hs : ∀ q ∈ l, Pl.SzP S q) (hn : l.length ≤ 1000000) (hS : S ≤ 100000) (hd : Pl.SzP S d) :
    Calls Tryz.prog 27 #[v, pv d] w fun e w' => e = .returned (.tuple #[pv (suppV l d), .int .i64 (suppE l)]) ∧ Below w.heap.size w w' := by
  cases l with
  | nil => exact csupp_any v [] d w h hs hn hS hd
  | cons a l => exact csupp_any v (a :: l) d w h hs hn hS hd
theorem sumL_nil (X : List (Rat × Rat)) : sumL X [] = [] := by
  unfold sumL; induction X <;> simp_all
theorem suppE_all {X Y L : List (Rat × Rat)} (hL : Pl.wrap (sumL X Y) = L) (hx : X.length ≠ 0) (hy : Y.length ≠ 0) : suppE X = 0 ∧ suppE Y = 0 ∧ suppE L = 0 := by
  have h1 : X ≠ [] := fun e => hx (by rw [e]; rfl)
  have h2 : Y ≠ [] := fun e => hy (by rw [e]; rfl)
  refine ⟨suppE_ne h1, suppE_ne h2, suppE_ne ?_⟩
  rw [← hL]
  refine Pl.wrap_ne fun e => ?_
  have := congrArg List.length e
  rw [sumL_length] at this
  have := Nat.mul_pos (Nat.pos_of_ne_zero hx) (Nat.pos_of_ne_zero hy)
  simp_all
theorem supp_all {X Y L : List (Rat × Rat)} {d : Rat × Rat} (hL : Pl.wrap (sumL X Y) = L) (hx : X.length ≠ 0) (hy : Y.length ≠ 0) :
    Pl.dotP (suppV L d) d = Pl.dotP (suppV X d) d + Pl.dotP (suppV Y d) d := by
  have h1 : X ≠ [] := fun e => hx (by rw [e]; rfl)
  have h2 : Y ≠ [] := fun e => hy (by rw [e]; rfl)
  have h3 : L ≠ [] := by
    rw [← hL]
    refine Pl.wrap_ne fun e => ?_
    have := congrArg List.length e
    rw [sumL_length] at this
    have := Nat.mul_pos (Nat.pos_of_ne_zero hx) (Nat.pos_of_ne_zero hy)
    simp_all
  obtain ⟨a, ha, ea⟩ := suppV_some h1 d
  obtain ⟨b, hb, eb⟩ := suppV_some h2 d
  obtain ⟨c, hc, ec⟩ := suppV_some h3 d
  rw [ea, eb, ec]
  subst hL
  refine Pl.supp_sum (fun s => ?_) hc ha hb
  unfold sumL
  simp only [List.mem_flatMap, List.mem_map]
  exact ⟨fun ⟨x, hx, y, hy, h⟩ => ⟨x, hx, y, hy, h.symm⟩, fun ⟨x, hx, y, hy, h⟩ => ⟨x, hx, y, hy, h.symm⟩⟩
end Go.Proofs.YtdkkjfnpinckjaaGreatDoor
