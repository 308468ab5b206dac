/-
  A place of any kind as an argument, opened.
-/
import Derived.Test.YtldfencaoaikgaaGreatDoorUNcl
import Derived.SizedLaws
set_option linter.unusedSimpArgs false
set_option linter.unusedVariables false
namespace Go.Proofs.YtldfencaoaikgaaGreatDoor
open Go Go.ChangeShapes Go.WideShapes Go.ChangeAt Go.WideMaps Go.WideElems Go.RowKit
set_option maxRecDepth 100000

theorem trod_iv {H : Type} {enc : TypeId × Value → H} {W : World} {base n : Nat} {sp : Nat → Bool} {hd : Bool} {cs : List Value} {x : DataW H × List MemPlace}
    (h : DataW.trod enc Tryz.prog W base sp hd n 38 cs = some x) : ∃ (a : Bool) (s : ByteArray), cs = [.bool a, .string s] ∧ s.size ∈ DataW.weights Tryz.prog 38 x.1 := by
  obtain ⟨y0, y1, n', rfl, hl, h0, h1⟩ := trod_struct2 Tryz.underlying38 h
  have c25 : Tryz.prog.cellsOf 38 = 2 := by kernel_rfl
  have c4 : Tryz.prog.cellsOf 4 = 1 := by kernel_rfl
  have c9 : Tryz.prog.cellsOf 9 = 1 := by kernel_rfl
  rw [c25] at hl
  match cs, hl with
  | [a, b], _ =>
    simp only [c4, c9, List.drop_zero, List.drop_succ_cons, List.take_succ_cons, List.take_zero] at h0 h1
    obtain ⟨t0, e0, _⟩ := DataW.trod_bool Tryz.underlying4 h0
    obtain ⟨t1, e1, e2, _⟩ := DataW.trod_string Tryz.underlying9 h1
    cases e0; cases e1; subst e2
    refine ⟨t0, t1, rfl, ?_⟩
    have e : t1.data.toList.length = t1.size := Array.length_toList
    simp [DataW.weights, DataW.weightsEach, Tryz.underlying38, e]
theorem trod_qv {H : Type} {enc : TypeId × Value → H} {W : World} {base n : Nat} {sp : Nat → Bool} {hd : Bool} {cs : List Value} {x : DataW H × List MemPlace}
    (h : DataW.trod enc Tryz.prog W base sp hd n 40 cs = some x) :
    ∃ (a : Bool) (s : ByteArray) (b : Bool) (t : ByteArray), cs = [.bool a, .string s, .bool b, .string t] ∧ s.size ∈ DataW.weights Tryz.prog 40 x.1 ∧ t.size ∈ DataW.weights Tryz.prog 40 x.1 := by
  obtain ⟨y0, y1, n', rfl, hl, h0, h1⟩ := trod_struct2 Tryz.underlying40 h
  have c25 : Tryz.prog.cellsOf 40 = 4 := by kernel_rfl
  have c4 : Tryz.prog.cellsOf 38 = 2 := by kernel_rfl
  rw [c25] at hl
  match cs, hl with
  | [a, b, c, d], _ =>
    simp only [c4, List.drop_zero, List.drop_succ_cons, List.take_succ_cons, List.take_zero] at h0 h1
    obtain ⟨p, s, e0, k0⟩ := trod_iv h0
    obtain ⟨q, t, e1, k1⟩ := trod_iv h1
    cases e0; cases e1
    refine ⟨p, s, q, t, rfl, ?_, ?_⟩
    · simp only [DataW.weights, DataW.weightsEach, Tryz.underlying40, List.map_cons, List.map_nil, List.mem_append]
      exact .inl k0
    · simp only [DataW.weights, DataW.weightsEach, Tryz.underlying40, List.map_cons, List.map_nil, List.mem_append]
      exact .inr (.inl k1)
theorem open_place {H : Type} {enc : TypeId × Value → H} {W : World} {base : Nat} {sp : Nat → Bool} {hd : Bool} {v : Value} {d : DataW H} {ps : List MemPlace} {b0 : Nat}
    (hv : Value.okWide Tryz.prog W .any b0 42 v) (h : DataW.Trod enc Tryz.prog W base sp hd 42 v d ps) (hz : ∀ n ∈ DataW.weights Tryz.prog 42 d, n ≤ reachBytes) :
    ∃ (k : Int) (a : Bool) (x : ByteArray) (b : Bool) (y : ByteArray), v = .agg #[.int .i64 k, .bool a, .string x, .bool b, .string y] ∧ x.size ≤ 140737488355328 ∧ y.size ≤ 140737488355328 := by
  obtain ⟨cs, rfl, _⟩ := okWide_struct Tryz.underlying42 hv
  obtain ⟨fuel, hf⟩ := h
  obtain ⟨y0, y1, n', ed, hl, h0, h1⟩ := trod_struct2 Tryz.underlying42 hf
  have c25 : Tryz.prog.cellsOf 42 = 5 := by kernel_rfl
  have c4 : Tryz.prog.cellsOf 3 = 1 := by kernel_rfl
  have c9 : Tryz.prog.cellsOf 40 = 4 := by kernel_rfl
  rw [c25] at hl
  have hcs : cs.toList.length = 5 := by simpa [Value.cells] using hl
  obtain ⟨l⟩ := cs
  match l, hcs with
  | [a, b, c, e, f], _ =>
    simp only [Value.cells, c4, c9, List.drop_zero, List.drop_succ_cons, List.take_succ_cons, List.take_zero] at h0 h1
    obtain ⟨k, e0, _⟩ := DataW.trod_int Tryz.underlying3 h0
    obtain ⟨p, s, q, t, e1, k1, k2⟩ := trod_qv h1
    cases e0; cases e1
    injection ed with ed _
    subst ed
    have m : ∀ z ∈ DataW.weights Tryz.prog 40 y1.1, z ≤ 140737488355328 := fun z hm => by
      have := hz z (by
        simp only [DataW.weights, DataW.weightsEach, Tryz.underlying42, List.map_cons, List.map_nil, List.mem_append]
        exact .inr (.inl hm))
      exact Nat.le_trans this (by decide)
    exact ⟨k, p, s, q, t, rfl, m _ k1, m _ k2⟩
end Go.Proofs.YtldfencaoaikgaaGreatDoor
