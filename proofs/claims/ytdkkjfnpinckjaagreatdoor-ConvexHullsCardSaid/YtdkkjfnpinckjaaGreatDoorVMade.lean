/-
  Rows of points that are made: all of them are the origin; their hull.
-/
import Derived.Test.YtdkkjfnpinckjaaGreatDoorVChl
import Derived.Test.YtdkkjfnpinckjaaGreatDoorVSupP
import Derived.Laws.OwnMore
import Derived.OwnWalk
set_option linter.unusedSimpArgs false
set_option linter.unusedVariables false
namespace Go.Proofs.YtdkkjfnpinckjaaGreatDoor
open Go Go.RowKit

theorem made_pts (z : Value) (hz : z.cells = (pcells ((0 : Rat), (0 : Rat))).toArray) : ∀ n : Nat, (madeCells z.cells (n * 8)).toList = pts (List.replicate n ((0 : Rat), (0 : Rat)))
  | 0 => by simp [madeCells, pts]
  | n + 1 => by
    have ih := made_pts z hz n
    rw [List.replicate_succ', pts_snoc, ← ih]
    unfold madeCells
    rw [hz]
    simp only [Array.toList_map, Array.toList_range]
    rw [show (n + 1) * 8 = n * 8 + 8 by omega, List.range_add, List.map_append]
    congr 1
    have e : (List.range 8).map (fun x => n * 8 + x) = [n * 8 + 0, n * 8 + 1, n * 8 + 2, n * 8 + 3, n * 8 + 4, n * 8 + 5, n * 8 + 6, n * 8 + 7] := rfl
    rw [e]
    have hs : (pcells ((0 : Rat), (0 : Rat))).toArray.size = 8 := rfl
    have m : ∀ j, j < 8 → (n * 8 + j) % 8 = j := fun j hj => by omega
    simp only [List.map_cons, List.map_nil, hs, m 0 (by decide), m 1 (by decide), m 2 (by decide), m 3 (by decide), m 4 (by decide), m 5 (by decide), m 6 (by decide), m 7 (by decide)]
    rfl
/-- Points, all of them the origin. -/
def zerosL (n : Nat) : List (Rat × Rat) := List.replicate n ((0 : Rat), (0 : Rat))
/-- make of points. -/
theorem wpList_make {ops : Array Oper} {rest : List Oper} {op : Oper} {a : Act} {w : World} {Q : Exit → Act → World → Prop} (hgd : op.guard = none) (x y : Operand) (ho : op.op = .makeSlice 26 x y) (n : Nat) (hx : a.eval x = .int .i64 n) (hy : a.eval y = .int .i64 n) (hn : n ≤ 1000) {base : Nat} (hb : base ≤ w.heap.size)
    (h : ∀ w', w'.ownsRow base 35 8 (.slice (some ⟨w.heap.size, 0, none⟩) n n) n (pts (zerosL n)) → Below w.heap.size w w' → wpList Tryz.prog ops Q rest (a.put op.dst (.slice (some ⟨w.heap.size, 0, none⟩) n n)) w') : wpList Tryz.prog ops Q (op :: rest) a w := by
  obtain ⟨i, hi, hz, hs, hby⟩ := info_parts (show (Tryz.prog.info? 35).map (fun i => (i.zero, i.size, i.bytes)) = some (some (.agg #[.bool false, .string ⟨#[]⟩, .bool false, .string ⟨#[]⟩, .bool false, .string ⟨#[]⟩, .bool false, .string ⟨#[]⟩]), 8, 96) by kernel_rfl)
  have hr := run_make (P := Tryz.prog) w 26 35 i _ Tryz.underlying26 hi hz .i64 .i64 n n (by omega) (Int.le_refl _) (by rw [hby]; omega) (by omega)
  simp only [Int.toNat_natCast, hs] at hr
  have ho' := World.ownsRow_lit (base := base) (e := 35) w (madeCells (Value.agg #[.bool false, .string ⟨#[]⟩, .bool false, .string ⟨#[]⟩, .bool false, .string ⟨#[]⟩, .bool false, .string ⟨#[]⟩]).cells (n * 8)) n hb (by simp [maxLen]; omega) (size_madeCells _ _)
  rw [made_pts _ rfl] at ho'
  refine wpList_plain hgd fun _ hK => ?_
  unfold Oper.wp execOp
  simp only [ho, hx, hy, hr, Sem.run_bind, Result.andThen_ok, Sem.run_pure]
  exact hK _ _ (h _ ho' ((Below.refl _ _).alloc (Nat.le_refl _) _))
theorem wrap_zeros (n : Nat) : Pl.wrap (zerosL (n + 1)) = [((0 : Rat), (0 : Rat))] := by
  unfold zerosL
  refine (Pl.wrap_congr (m := [((0 : Rat), (0 : Rat))]) fun s => ?_).trans ?_
  · simp
  · exact Pl.IsHull.unique (Pl.wrap_isHull _) (.inr (.inl ⟨_, rfl, by simp, by simp⟩))
end Go.Proofs.YtdkkjfnpinckjaaGreatDoor
