/-
  The statements' arguments, opened: grids, places by small numbers, numbers.
-/
import Derived.Test.YtldfencaoaikgaaGreatDoorRows
import Derived.Test.YtldfencaoaikgaaGreatDoorUNwi
import Derived.ProofKit
import Derived.LaidMore
import Derived.OpenShut
import Derived.Stop.Joined
import Derived.Deep.Strs
import Derived.Deep.Slices
import Derived.Deep.MidRow
set_option linter.unusedSimpArgs false
set_option linter.unusedVariables false
namespace Go.Proofs.YtldfencaoaikgaaGreatDoor
open Go Go.ChangeShapes Go.WideShapes Go.ChangeAt Go.WideMaps Go.WideElems Go.RowKit
set_option maxRecDepth 100000

/-- A slice of structs, opened. -/
theorem open_rows {α : Type} [Inhabited α] {H : Type} {enc : TypeId × Value → H} {W : World} {base fuel : Nat} {sp : Nat → Bool} {hd : Bool} {t e : TypeId} {cs : List Value} {x : DataW H × List MemPlace}
    (f : α → List Value) (Pd : α → Prop) (K : Nat) (hK : 0 < K) (hlen : ∀ x, (f x).length = K) (ht : Tryz.prog.underlying t = some (.slice e)) (hc : Tryz.prog.cellsOf e = K)
    (hel : ∀ n cs x, DataW.trod enc Tryz.prog W base sp hd n e cs = some x → ∃ s, Pd s ∧ cs = f s) (h : DataW.trod enc Tryz.prog W base sp hd fuel t cs = some x) :
    ∃ (v : Value) (l : List α), cs = [v] ∧ (Sl W v l.length K (l.flatMap f) ∨ Odd v l.length) ∧ (∀ s ∈ l, Pd s) ∧ l.length ≤ maxLen := by
  rcases Deep.open_slice ht h with ⟨hcs, hx⟩ | ⟨a, len, cap, m, n, D, Pl, hcs, _, hl, hm, hmm, hx, hE⟩
  · exact ⟨_, [], hcs, .inl (Sl.nil W K), by simp, by simp⟩
  · by_cases hl0 : len = 0
    · subst hl0
      exact ⟨_, [], hcs, .inr ⟨rfl, a, cap, rfl, hm⟩, by simp, by simp⟩
    have hlm : len ≤ m := by rw [hmm]; split <;> omega
    obtain ⟨b, off, spot⟩ := a
    rw [hc] at hE
    have hsp : spot = none := by
      obtain ⟨cs', h1, h2⟩ := hE 0 (by omega)
      obtain ⟨s, hs, rfl⟩ := hel _ _ _ h2
      have := (World.cells?_some h1).2.2 0 hK
      rw [List.getElem?_eq_getElem (by rw [hlen]; exact hK)] at this
      simpa [Addr.add] using World.cell?_spot this
    subst hsp
    have E : ∀ i, i < len → ∃ s : α, Pd s ∧ ∀ j, j < K → W.cell? ⟨b, off + i * K + j, none⟩ = (f s)[j]? := fun i hi => by
      obtain ⟨cs', h1, h2⟩ := hE i (by omega)
      obtain ⟨s, hs, rfl⟩ := hel _ _ _ h2
      refine ⟨s, hs, fun j hj => ?_⟩
      have := (World.cells?_some h1).2.2 j hj
      rwa [Addr.add_mid, Addr.add_mid] at this
    obtain ⟨V, hV⟩ := Deep.choose_lt (p := fun i s => Pd s ∧ ∀ j, j < K → W.cell? ⟨b, off + i * K + j, none⟩ = (f s)[j]?) E
    have hll : ((List.range len).map V).length = len := by simp
    refine ⟨_, (List.range len).map V, hcs, .inl ⟨flat_length f K hlen _, .inr ⟨b, off, cap, by rw [hll], by omega, hm, fun j u hj => ?_⟩⟩, fun s hs => ?_, by omega⟩
    · have hjl : j < len * K := by
        have := (List.getElem?_eq_some_iff.1 hj).1
        rwa [flat_length f K hlen, hll] at this
      have hi : j / K < len := Nat.div_lt_of_lt_mul (by rwa [Nat.mul_comm] at hjl)
      have hr := Nat.mod_lt j hK
      have hg := flat_get f K hlen ((List.range len).map V) (j / K) (j % K) (V (j / K)) (by simp [hi]) hr
      rw [Nat.div_add_mod'] at hg
      have h2 := (hV (j / K) hi).2 (j % K) hr
      rw [Nat.add_assoc, Nat.div_add_mod'] at h2
      rw [h2, ← hg, hj]
    · obtain ⟨i, hi, rfl⟩ := List.mem_map.1 hs
      exact (hV i (by simpa using hi)).1
instance : Inhabited St := ⟨⟨0, 0⟩⟩
instance : Inhabited La := ⟨⟨0, 0, 0, 0, false⟩⟩
theorem trod_st {H : Type} {enc : TypeId × Value → H} {W : World} {base n : Nat} {sp : Nat → Bool} {hd : Bool} {cs : List Value} {x : DataW H × List MemPlace}
    (h : DataW.trod enc Tryz.prog W base sp hd n 103 cs = some x) : ∃ s : St, (U8 s.x ∧ U8 s.y) ∧ cs = stc s := by
  obtain ⟨y0, y1, n', _, hl, h0, h1⟩ := trod_struct2 Tryz.underlying103 h
  have c25 : Tryz.prog.cellsOf 103 = 2 := by kernel_rfl
  have c23 : Tryz.prog.cellsOf 5 = 1 := by kernel_rfl
  rw [c25] at hl
  match cs, hl with
  | [a, b], _ =>
    simp only [c23, List.drop_zero, List.drop_succ_cons, List.take_succ_cons, List.take_zero] at h0 h1
    obtain ⟨k, e1, _, w1⟩ := DataW.trod_int Tryz.underlying5 h0
    obtain ⟨j, e2, _, w2⟩ := DataW.trod_int Tryz.underlying5 h1
    cases e1; cases e2
    simp [Lit.wf] at w1 w2
    exact ⟨⟨k, j⟩, ⟨w1, w2⟩, rfl⟩
theorem trod_la {H : Type} {enc : TypeId × Value → H} {W : World} {base n : Nat} {sp : Nat → Bool} {hd : Bool} {cs : List Value} {x : DataW H × List MemPlace}
    (h : DataW.trod enc Tryz.prog W base sp hd n 105 cs = some x) : ∃ s : La, (U8 s.f ∧ U8 s.t ∧ U8 s.e ∧ U8 s.m) ∧ cs = lac s := by
  obtain ⟨xs, m, _, _, hl, hlen, hf⟩ := DataW.trod_struct Tryz.underlying105 h
  have c25 : Tryz.prog.cellsOf 105 = 5 := by kernel_rfl
  have c23 : Tryz.prog.cellsOf 5 = 1 := by kernel_rfl
  have c4 : Tryz.prog.cellsOf 4 = 1 := by kernel_rfl
  rw [c25] at hl
  match xs, hlen with
  | [y0, y1, y2, y3, y4], _ =>
    have h0 := hf 0 _ rfl
    have h1 := hf 1 _ rfl
    have h2 := hf 2 _ rfl
    have h3 := hf 3 _ rfl
    have h4 := hf 4 _ rfl
    match cs, hl with
    | [a0, a1, a2, a3, a4], _ =>
      simp only [c23, c4, List.drop_zero, List.drop_succ_cons, List.take_succ_cons, List.take_zero, List.getElem?_cons_zero, List.getElem?_cons_succ] at h0 h1 h2 h3 h4
      obtain ⟨t0, e0, _, w0⟩ := DataW.trod_int Tryz.underlying5 h0
      obtain ⟨t1, e1, _, w1⟩ := DataW.trod_int Tryz.underlying5 h1
      obtain ⟨t2, e2, _, w2⟩ := DataW.trod_int Tryz.underlying5 h2
      obtain ⟨t3, e3, _, w3⟩ := DataW.trod_int Tryz.underlying5 h3
      obtain ⟨t4, e4, _⟩ := DataW.trod_bool Tryz.underlying4 h4
      cases e0; cases e1; cases e2; cases e3; cases e4
      simp [Lit.wf] at w0 w1 w2 w3
      exact ⟨⟨t0, t1, t2, t3, t4⟩, ⟨w0, w1, w2, w3⟩, rfl⟩
theorem open_grid {H : Type} {enc : TypeId × Value → H} {W : World} {base : Nat} {sp : Nat → Bool} {hd : Bool} {v : Value} {d : DataW H} {ps : List MemPlace} {b0 : Nat}
    (hv : Value.okWide Tryz.prog W .any b0 29 v) (h : DataW.Trod enc Tryz.prog W base sp hd 29 v d ps) : ∃ sp la, GV W v sp la ∧ GU sp la := by
  obtain ⟨cs, rfl, _⟩ := okWide_struct Tryz.underlying29 hv
  obtain ⟨fuel, hf⟩ := h
  obtain ⟨y0, y1, n', _, hl, h0, h1⟩ := trod_struct2 Tryz.underlying29 hf
  have c25 : Tryz.prog.cellsOf 29 = 2 := by kernel_rfl
  have c2 : Tryz.prog.cellsOf 26 = 1 := by kernel_rfl
  have c3 : Tryz.prog.cellsOf 27 = 1 := by kernel_rfl
  rw [c25] at hl
  have hcs : cs.toList.length = 2 := by simpa [Value.cells] using hl
  obtain ⟨l⟩ := cs
  match l, hcs with
  | [a, b], _ =>
    simp only [Value.cells, c2, c3, List.drop_zero, List.drop_succ_cons, List.take_succ_cons, List.take_zero] at h0 h1
    obtain ⟨u, l1, e1, k1, p1, _⟩ := open_rows stc (fun s : St => U8 s.x ∧ U8 s.y) 2 (by decide) (fun _ => rfl) Tryz.underlying26 (by kernel_rfl) (fun _ _ _ => trod_st) h0
    obtain ⟨u2, l2, e2, k2, p2, _⟩ := open_rows lac (fun s : La => U8 s.f ∧ U8 s.t ∧ U8 s.e ∧ U8 s.m) 5 (by decide) (fun _ => rfl) Tryz.underlying27 (by kernel_rfl) (fun _ _ _ => trod_la) h1
    cases e1; cases e2
    exact ⟨l1, l2, ⟨_, _, rfl, k1, k2⟩, p1, p2⟩
end Go.Proofs.YtldfencaoaikgaaGreatDoor
