/-
  Contracts for convex sets: Check of a list with a number that has a leading zero byte.
-/
import Derived.Test.YtdkkjfnpinckjaaGreatDoorVChl
import Derived.Test.YtdkkjfnpinckjaaGreatDoorVMr
set_option linter.unusedSimpArgs false
set_option linter.unusedVariables false
namespace Go.Proofs.YtdkkjfnpinckjaaGreatDoor
open Go Go.RowKit

/-- A string that begins with a zero byte. -/
structure ZeroB (x : ByteArray) : Prop where
  ne : x.toList.isEmpty = false
  sz : 1 ≤ x.size
  at_ : ∀ h : 0 < x.size, ((((x)[0]'h).toNat : Int) == 0) = true
theorem zeroB_mk (y : ByteArray) : ZeroB ((⟨#[0]⟩ : ByteArray) ++ y) := by
  have e : ((⟨#[0]⟩ : ByteArray) ++ y).data.toList = 0 :: y.data.toList := by simp
  have hsz : ((⟨#[0]⟩ : ByteArray) ++ y).size = 1 + y.size := by rw [ByteArray.size_append]; rfl
  refine ⟨?_, by omega, fun h => ?_⟩
  · have e2 : ((⟨#[0]⟩ : ByteArray) ++ y).toList = ((⟨#[0]⟩ : ByteArray) ++ y).data.toList := ByteArray.toList_eq _
    rw [e2, e]; rfl
  · have e3 : (((⟨#[0]⟩ : ByteArray) ++ y)[0]'h) = ((⟨#[0]⟩ : ByteArray) ++ y).data.toList[0]'(by rw [e]; simp) := by simp [ByteArray.getElem_eq_getElem_data]
    rw [e3]
    simp [e]
set_option maxRecDepth 100000 in
theorem icheck_bad (s : Bool) (x : ByteArray) (hx : ZeroB x) (w : World) :
    Calls Tryz.prog 143 #[.agg #[.bool s, .string x]] w fun e w' => e = .returned (.int .i64 5) ∧ Below w.heap.size w w' := by
  obtain ⟨h1, h2, h4⟩ := hx
  have h3 : (0 : Int) < x.size := by omega
  go_enter Tryz.func143, Tryz.ntmps143
  go_wp2
  go_ret
  refine ⟨rfl, ?_⟩
  repeat (first | with_reducible exact Below.refl _ _ | with_reducible refine bel_alloc ?_ _)
set_option maxRecDepth 100000 in
theorem qcheck_bad (s : Bool) (x y : ByteArray) (w : World) (hx : ZeroB x) :
    Calls Tryz.prog 124 #[.agg #[.bool s, .string x, .bool false, .string y]] w fun e w' => e = .returned (.int .i64 5) ∧ Below w.heap.size w w' := by
  go_enter Tryz.func124, Tryz.ntmps124
  have K1 := Lib.hid (fun W => icheck_bad s x hx W)
  go_wp2_with (fail)
  refine calls_named ?_
  intro W1 hW1
  have hL1 : Below w.heap.size w W1 := by
    rw [hW1]
    repeat (first | with_reducible exact Below.refl _ _ | with_reducible refine bel_alloc ?_ _ | refine Below.setCell ?_ (by first | (simp; done) | (simp; omega) | omega) _)
  have c2 : Own W1 (w.heap.size) 0 [.bool s, .string x, .bool false, .string y] := by
    rw [hW1]
    first
    | (repeat (first | (with_reducible refine own_new (l := [.bool s, .string x, .bool false, .string y]) ?_; (simp; done)) | with_reducible refine Own.alloc ?_ _ | refine Own.far _ _ (by first | (simp; done) | (simp [*]; done) | (simp; omega)) ?_)); done
    | simp [Own, go_sem]
  have hB3 : Below w.heap.size w W1 := by
    rw [hW1]
    repeat (first | with_reducible exact Below.refl _ _ | with_reducible refine bel_alloc ?_ _ | refine Below.setCell ?_ (by first | (simp; done) | (simp; omega) | omega) _)
  clear hW1 hL1
  with_reducible refine (K1.out _).mono ?_
  rintro e w1 ⟨rfl, hb1⟩
  have c4 := c2.up hb1
  have hB5 : Below w.heap.size w w1 := bel_up hB3 hb1
  clear c2
  have uc4 := c4
  simp only [At, Own, Nat.reduceAdd, and_true] at uc4
  go_wp2
  go_ret
  refine ⟨rfl, ?_⟩
  repeat (first | with_reducible exact hB5 | with_reducible refine bel_alloc ?_ _ | refine Below.setCell ?_ (by first | (simp; done) | (simp; omega) | omega) _)

set_option maxRecDepth 100000 in
theorem pcheck_bad (s : Bool) (x y : ByteArray) (q : Rat) (w : World) (hx : ZeroB x) :
    Calls Tryz.prog 91 #[.agg #[.bool s, .string x, .bool false, .string y, .bool (ng q.num), .string (mg q.num.natAbs), .bool false, .string (mg (dn q))]] w fun e w' => e = .returned (.int .i64 5) ∧ Below w.heap.size w w' := by
  go_enter Tryz.func91, Tryz.ntmps91
  have K1 := Lib.hid (fun W => qcheck_bad s x y W hx)
  go_wp2_with (fail)
  refine calls_named ?_
  intro W1 hW1
  have hL1 : Below w.heap.size w W1 := by
    rw [hW1]
    repeat (first | with_reducible exact Below.refl _ _ | with_reducible refine bel_alloc ?_ _ | refine Below.setCell ?_ (by first | (simp; done) | (simp; omega) | omega) _)
  have c2 : Own W1 (w.heap.size) 0 [.bool s, .string x, .bool false, .string y, .bool (ng q.num), .string (mg q.num.natAbs), .bool false, .string (mg (dn q))] := by
    rw [hW1]
    first
    | (repeat (first | (with_reducible refine own_new (l := [.bool s, .string x, .bool false, .string y, .bool (ng q.num), .string (mg q.num.natAbs), .bool false, .string (mg (dn q))]) ?_; (simp; done)) | with_reducible refine Own.alloc ?_ _ | refine Own.far _ _ (by first | (simp; done) | (simp [*]; done) | (simp; omega)) ?_)); done
    | simp [Own, go_sem]
  have hB3 : Below w.heap.size w W1 := by
    rw [hW1]
    repeat (first | with_reducible exact Below.refl _ _ | with_reducible refine bel_alloc ?_ _ | refine Below.setCell ?_ (by first | (simp; done) | (simp; omega) | omega) _)
  clear hW1 hL1
  with_reducible refine (K1.out _).mono ?_
  rintro e w1 ⟨rfl, hb1⟩
  have c4 := c2.up hb1
  have hB5 : Below w.heap.size w w1 := bel_up hB3 hb1
  clear c2
  have uc4 := c4
  simp only [At, Own, Nat.reduceAdd, and_true] at uc4
  go_wp2
  go_ret
  refine ⟨rfl, ?_⟩
  repeat (first | with_reducible exact hB5 | with_reducible refine bel_alloc ?_ _ | refine Below.setCell ?_ (by first | (simp; done) | (simp; omega) | omega) _)
/-- The cells of a point the first number of which is bad. -/
def CB (w : World) (g i : Nat) (s : Bool) (x y : ByteArray) (q : Rat) : Prop :=
  w.cell? ⟨g, i, none⟩ = some (.bool s) ∧ w.cell? ⟨g, i + 1, none⟩ = some (.string x) ∧ w.cell? ⟨g, i + 2, none⟩ = some (.bool false) ∧ w.cell? ⟨g, i + 3, none⟩ = some (.string y) ∧ w.cell? ⟨g, i + 4, none⟩ = some (.bool (ng q.num)) ∧ w.cell? ⟨g, i + 5, none⟩ = some (.string (mg q.num.natAbs)) ∧ w.cell? ⟨g, i + 6, none⟩ = some (.bool false) ∧ w.cell? ⟨g, i + 7, none⟩ = some (.string (mg (dn q)))
theorem CB.up {w w1 : World} {g i : Nat} {s : Bool} {x y : ByteArray} {q : Rat} (h : CB w g i s x y q) (hb : Below w.heap.size w w1) : CB w1 g i s x y q := by
  obtain ⟨h0, h1, h2, h3, h4, h5, h6, h7⟩ := h
  exact ⟨(hb.cell (World.block_lt_of_cell? _ _ h0)).trans h0, (hb.cell (World.block_lt_of_cell? _ _ h1)).trans h1, (hb.cell (World.block_lt_of_cell? _ _ h2)).trans h2, (hb.cell (World.block_lt_of_cell? _ _ h3)).trans h3, (hb.cell (World.block_lt_of_cell? _ _ h4)).trans h4, (hb.cell (World.block_lt_of_cell? _ _ h5)).trans h5, (hb.cell (World.block_lt_of_cell? _ _ h6)).trans h6, (hb.cell (World.block_lt_of_cell? _ _ h7)).trans h7⟩
set_option maxRecDepth 100000 in
theorem ccheck_bad {S : Nat} (g c k N : Nat) (l : List (Rat × Rat)) (s : Bool) (x y : ByteArray) (q : Rat) (w : World) (hl : l.length = k) (hk : k < N) (hN : N ≤ 1000000) (hcN : N ≤ c) (hX : LX CE 8 w (some ⟨g, 0, none⟩) l) (hB : CB w g (k * 8) s x y q) (hs : ∀ q ∈ l, Pl.SzP S q) (hS : S ≤ 100000) (hx : ZeroB x) :
    Calls Tryz.prog 44 #[.slice (some ⟨g, 0, none⟩) N c] w fun e w' => e = .returned (.int .i64 5) ∧ Below w.heap.size w w' := by
  have HX := Lib.hid hX
  have HB := Lib.hid hB
  have HS := Lib.hid hs
  have HN := Lib.hid hl
  clear hX hB hs hl
  go_enter Tryz.func44, Tryz.ntmps44
  go_wp2_with fail
  go_loopw [8] (fun s8 wr => ∃ (i : Nat), s8 = .int .i64 i ∧ Below w.heap.size w wr ∧ i ≤ k) (fun s8 _ => N - (intOf s8).toNat)
  case atStart => exact ⟨0, rfl, Below.refl _ _, (by omega)⟩
  case round =>
    obtain ⟨i, rfl, hB1, hi⟩ := hrel
    obtain ⟨wr2, hwr2⟩ : ∃ W_, W_ = wr := ⟨_, rfl⟩
    subst hwr2
    by_cases hltk : i < k
    · skip
      have i1k : (i : Int) < N := by omega
      obtain ⟨x3, hx4⟩ : ∃ x, l[i]? = some x := ⟨_, List.getElem?_eq_getElem (by rw [HN.out]; omega)⟩
      have Hhx4 := Lib.hid hx4
      have Zhx4 := Lib.hid (HS.out _ (List.mem_of_getElem? hx4))
      clear hx4
      have ce5 := LX.at_ ((HX.out).up kpP hB1) Hhx4.out
      have ce5_ : g < wr2.heap.size := World.block_lt_of_cell? _ _ ce5.1
      have uce5 := ce5
      simp only [CE, Nat.reduceMul, Nat.zero_add] at uce5
      have ne6_ : g < wr2.heap.size := by omega
      have ne6 := Nat.ne_of_lt ne6_
      have ne6' := ne6.symm
      have K7 := Lib.hid (fun W => pcheck_any x3 W (Zhx4.out.mono (by omega)))
      go_wp2_with (fail)
      refine calls_named ?_
      intro W1 hW1
      have hL1 : Below wr2.heap.size wr2 W1 := by
        rw [hW1]
        repeat (first | with_reducible exact Below.refl _ _ | with_reducible refine bel_alloc ?_ _ | refine Below.setCell ?_ (by first | (simp; done) | (simp; omega) | omega) _)
      have c8 : Own W1 (wr2.heap.size) 0 [.bool (ng x3.1.num), .string (mg x3.1.num.natAbs), .bool false, .string (mg (dn x3.1)), .bool (ng x3.2.num), .string (mg x3.2.num.natAbs), .bool false, .string (mg (dn x3.2))] := by
        rw [hW1]
        first
        | (repeat (first | (with_reducible refine own_new (l := [.bool (ng x3.1.num), .string (mg x3.1.num.natAbs), .bool false, .string (mg (dn x3.1)), .bool (ng x3.2.num), .string (mg x3.2.num.natAbs), .bool false, .string (mg (dn x3.2))]) ?_; (simp; done)) | with_reducible refine Own.alloc ?_ _ | refine Own.far _ _ (by first | (simp; done) | (simp [*]; done) | (simp; omega)) ?_)); done
        | simp [Own, go_sem, uce5, ne6, ne6', ne6_]
      have hB9 : Below w.heap.size w W1 := by
        rw [hW1]
        repeat (first | with_reducible exact hB1 | with_reducible refine bel_alloc ?_ _ | refine Below.setCell ?_ (by first | (simp; done) | (simp; omega) | omega) _)
      clear hW1 hL1 uce5
      with_reducible refine (K7.out _).mono ?_
      rintro e w1 ⟨rfl, hb1⟩
      have c10 := c8.up hb1
      have hB11 : Below w.heap.size w w1 := bel_up hB9 hb1
      clear c8
      have uc10 := c10
      simp only [At, Own, Nat.reduceAdd, and_true] at uc10
      go_wp2
      go_roundw
      case rel => exact ⟨(i + 1), (by first | rfl | exact congrArg (Value.int .i64) (by omega) | simp [*]), (by repeat (first | with_reducible exact hB11 | with_reducible refine bel_alloc ?_ _ | refine Below.setCell ?_ (by first | (simp; done) | (simp; omega) | omega) _)), (by omega)⟩
      case measure => simp [intOf] <;> omega
    · skip
      have hik : k = i := by omega
      subst hik
      have i1k : (k : Int) < N := by omega
      have ucb := HB.out.up hB1
      have ucb_ : g < wr2.heap.size := World.block_lt_of_cell? _ _ ucb.1
      simp only [CB] at ucb
      have ne12_ : g < wr2.heap.size := ucb_
      have ne12 := Nat.ne_of_lt ne12_
      have ne12' := ne12.symm
      have ne13_ : g < wr2.heap.size := by omega
      have ne13 := Nat.ne_of_lt ne13_
      have ne13' := ne13.symm
      have K14 := Lib.hid (fun W => pcheck_bad s x y q W hx)
      go_wp2_with (fail)
      refine calls_named ?_
      intro W2 hW2
      have hL2 : Below wr2.heap.size wr2 W2 := by
        rw [hW2]
        repeat (first | with_reducible exact Below.refl _ _ | with_reducible refine bel_alloc ?_ _ | refine Below.setCell ?_ (by first | (simp; done) | (simp; omega) | omega) _)
      have c15 : Own W2 (wr2.heap.size) 0 [.bool s, .string x, .bool false, .string y, .bool (ng q.num), .string (mg q.num.natAbs), .bool false, .string (mg (dn q))] := by
        rw [hW2]
        first
        | (repeat (first | (with_reducible refine own_new (l := [.bool s, .string x, .bool false, .string y, .bool (ng q.num), .string (mg q.num.natAbs), .bool false, .string (mg (dn q))]) ?_; (simp; done)) | with_reducible refine Own.alloc ?_ _ | refine Own.far _ _ (by first | (simp; done) | (simp [*]; done) | (simp; omega)) ?_)); done
        | simp [Own, go_sem, ucb, ne12, ne12', ne12_, ne13, ne13', ne13_]
      have hB16 : Below w.heap.size w W2 := by
        rw [hW2]
        repeat (first | with_reducible exact hB1 | with_reducible refine bel_alloc ?_ _ | refine Below.setCell ?_ (by first | (simp; done) | (simp; omega) | omega) _)
      clear hW2 hL2 ucb
      with_reducible refine (K14.out _).mono ?_
      rintro e w2 ⟨rfl, hb2⟩
      have c17 := c15.up hb2
      have hB18 : Below w.heap.size w w2 := bel_up hB16 hb2
      clear c15
      have uc17 := c17
      simp only [At, Own, Nat.reduceAdd, and_true] at uc17
      go_wp2
      go_ret
      refine ⟨rfl, ?_⟩
      repeat (first | with_reducible exact hB18 | with_reducible refine bel_alloc ?_ _ | refine Below.setCell ?_ (by first | (simp; done) | (simp; omega) | omega) _)
end Go.Proofs.YtdkkjfnpinckjaaGreatDoor
