/-
  A network as an argument, opened.
-/
import Derived.Test.YtldfencaoaikgaaGreatDoorUNcl
set_option linter.unusedSimpArgs false
set_option linter.unusedVariables false
namespace Go.Proofs.YtldfencaoaikgaaGreatDoor
open Go Go.ChangeShapes Go.WideShapes Go.ChangeAt Go.WideMaps Go.WideElems Go.RowKit Nw
set_option maxRecDepth 100000

instance : Inhabited Nd := ⟨⟨0, 0, 0⟩⟩
instance : Inhabited Rd := ⟨⟨0, 0, 0, 0, 0, false⟩⟩
theorem trod_nd {H : Type} {enc : TypeId × Value → H} {W : World} {base n : Nat} {sp : Nat → Bool} {hd : Bool} {cs : List Value} {x : DataW H × List MemPlace}
    (h : DataW.trod enc Tryz.prog W base sp hd n 53 cs = some x) : ∃ s : Nd, True ∧ cs = ndc s := by
  obtain ⟨y0, y1, y2, n', _, hl, h0, h1, h2⟩ := Deep.trod_struct3 Tryz.underlying53 h
  have c25 : Tryz.prog.cellsOf 53 = 3 := by kernel_rfl
  have c23 : Tryz.prog.cellsOf 3 = 1 := by kernel_rfl
  rw [c25] at hl
  match cs, hl with
  | [a, b, c], _ =>
    simp only [c23, List.drop_zero, List.drop_succ_cons, List.take_succ_cons, List.take_zero] at h0 h1 h2
    obtain ⟨k, e1, _⟩ := DataW.trod_int Tryz.underlying3 h0
    obtain ⟨j, e2, _⟩ := DataW.trod_int Tryz.underlying3 h1
    obtain ⟨i, e3, _⟩ := DataW.trod_int Tryz.underlying3 h2
    cases e1; cases e2; cases e3
    exact ⟨⟨k, j, i⟩, trivial, rfl⟩
theorem trod_rd {H : Type} {enc : TypeId × Value → H} {W : World} {base n : Nat} {sp : Nat → Bool} {hd : Bool} {cs : List Value} {x : DataW H × List MemPlace}
    (h : DataW.trod enc Tryz.prog W base sp hd n 67 cs = some x) : ∃ s : Rd, True ∧ cs = rdc s := by
  obtain ⟨xs, m, _, _, hl, hlen, hf⟩ := DataW.trod_struct Tryz.underlying67 h
  have c25 : Tryz.prog.cellsOf 67 = 6 := by kernel_rfl
  have c23 : Tryz.prog.cellsOf 3 = 1 := by kernel_rfl
  have c4 : Tryz.prog.cellsOf 4 = 1 := by kernel_rfl
  rw [c25] at hl
  match xs, hlen with
  | [y0, y1, y2, y3, y4, y5], _ =>
    have h0 := hf 0 _ rfl
    have h1 := hf 1 _ rfl
    have h2 := hf 2 _ rfl
    have h3 := hf 3 _ rfl
    have h4 := hf 4 _ rfl
    have h5 := hf 5 _ rfl
    match cs, hl with
    | [a0, a1, a2, a3, a4, a5], _ =>
      simp only [c23, c4, List.drop_zero, List.drop_succ_cons, List.take_succ_cons, List.take_zero, List.getElem?_cons_zero, List.getElem?_cons_succ] at h0 h1 h2 h3 h4 h5
      obtain ⟨t0, e0, _⟩ := DataW.trod_int Tryz.underlying3 h0
      obtain ⟨t1, e1, _⟩ := DataW.trod_int Tryz.underlying3 h1
      obtain ⟨t2, e2, _⟩ := DataW.trod_int Tryz.underlying3 h2
      obtain ⟨t3, e3, _⟩ := DataW.trod_int Tryz.underlying3 h3
      obtain ⟨t4, e4, _⟩ := DataW.trod_int Tryz.underlying3 h4
      obtain ⟨t5, e5, _⟩ := DataW.trod_bool Tryz.underlying4 h5
      cases e0; cases e1; cases e2; cases e3; cases e4; cases e5
      exact ⟨⟨t0, t1, t2, t3, t4, t5⟩, trivial, rfl⟩
theorem open_net {H : Type} {enc : TypeId × Value → H} {W : World} {base : Nat} {sp : Nat → Bool} {hd : Bool} {v : Value} {d : DataW H} {ps : List MemPlace} {b0 : Nat}
    (hv : Value.okWide Tryz.prog W .any b0 25 v) (h : DataW.Trod enc Tryz.prog W base sp hd 25 v d ps) : ∃ N : Net, NV W v N := by
  obtain ⟨cs, rfl, _⟩ := okWide_struct Tryz.underlying25 hv
  obtain ⟨fuel, hf⟩ := h
  obtain ⟨y0, y1, n', _, hl, h0, h1⟩ := trod_struct2 Tryz.underlying25 hf
  have c25 : Tryz.prog.cellsOf 25 = 2 := by kernel_rfl
  have c2 : Tryz.prog.cellsOf 22 = 1 := by kernel_rfl
  have c3 : Tryz.prog.cellsOf 23 = 1 := by kernel_rfl
  rw [c25] at hl
  have hcs : cs.toList.length = 2 := by simpa [Value.cells] using hl
  obtain ⟨l⟩ := cs
  match l, hcs with
  | [a, b], _ =>
    simp only [Value.cells, c2, c3, List.drop_zero, List.drop_succ_cons, List.take_succ_cons, List.take_zero] at h0 h1
    obtain ⟨u, l1, e1, k1, p1, _⟩ := open_rows ndc (fun _ => True) 3 (by decide) (fun _ => rfl) Tryz.underlying22 (by kernel_rfl) (fun _ _ _ => trod_nd) h0
    obtain ⟨u2, l2, e2, k2, p2, _⟩ := open_rows rdc (fun _ => True) 6 (by decide) (fun _ => rfl) Tryz.underlying23 (by kernel_rfl) (fun _ _ _ => trod_rd) h1
    cases e1; cases e2
    exact ⟨⟨l1, l2⟩, _, _, rfl, k1, k2⟩
end Go.Proofs.YtldfencaoaikgaaGreatDoor
