/-
  Contracts for convex sets: the squared diameter.
-/
import Derived.Test.YtdkkjfnpinckjaaGreatDoorVMo
set_option linter.unusedSimpArgs false
set_option linter.unusedVariables false
namespace Go.Proofs.YtdkkjfnpinckjaaGreatDoor
open Go Go.RowKit

/-- The largest squared distance from x to a point of m, or out. -/
def diamI (x : Rat × Rat) (m : List (Rat × Rat)) (out : Rat) : Rat := m.foldl (fun o y => Pl.maxQ o (Pl.dist2 x y)) out
def diamF (l : List (Rat × Rat)) : Nat → Rat
  | 0 => 0
  | k + 1 => diamI (l.getD k (0, 0)) (l.take k) (diamF l k)
def diam (l : List (Rat × Rat)) : Rat := diamF l l.length
theorem diamI_snoc {l : List (Rat × Rat)} {j : Nat} {x y : Rat × Rat} {d : Rat} (h : l[j]? = some y) : diamI x (l.take (j + 1)) d = Pl.maxQ (diamI x (l.take j) d) (Pl.dist2 x y) := by
  rw [List.take_add_one, h]; simp [diamI]
theorem dist2_sz {i j : Nat} {p q : Rat × Rat} (h : Pl.SzP i p) (k : Pl.SzP j q) : Pl.Sz (i + j + 1 + (i + j + 1) + (i + j + 1 + (i + j + 1)) + 1) (Pl.dist2 p q) := (h.sub k).dot (h.sub k)
theorem maxQ_sz {i : Nat} {a b : Rat} (ha : Pl.Sz i a) (hb : Pl.Sz i b) : Pl.Sz i (Pl.maxQ a b) := by
  unfold Pl.maxQ; split <;> assumption

set_option maxRecDepth 100000 in
set_option maxHeartbeats 1000000 in
theorem cdiam_any {S : Nat} (v : Value) (l : List (Rat × Rat)) (w : World) (h : PV w v l) (hs : ∀ q ∈ l, Pl.SzP S q) (hn : l.length ≤ 1000) (hS : S ≤ 400) :
    Calls Tryz.prog 32 #[v] w fun e w' => e = .returned (qv (diam l)) ∧ Below w.heap.size w w' := by
  have HA : Hid (diam l = diamF l l.length) := Lib.hid rfl
  obtain ⟨A, c, rfl, hc, hm, hx⟩ := h.open_
  have HV := Lib.hid h
  have HX := Lib.hid hx
  have HS := Lib.hid hs
  have HF : Hid (l.take l.length = l) := Lib.hid List.take_length
  generalize hN : l.length = N at *
  have HN := Lib.hid hN
  clear h hx hs hN
  go_enter Tryz.func32, Tryz.ntmps32
  go_wp2_with fail
  refine wp_named ?_
  intro W1 hW1
  have hL1 : Below w.heap.size w W1 := by
    rw [hW1]
    repeat (first | with_reducible exact Below.refl _ _ | with_reducible refine bel_alloc ?_ _ | refine Below.setCell ?_ (by first | (simp; done) | (simp; omega) | omega) _)
  have c1 : Own W1 (w.heap.size) 0 [.bool false, .string ⟨#[]⟩, .bool false, .string ⟨#[]⟩] := by
    rw [hW1]
    first
    | (repeat (first | (with_reducible refine own_new (l := [.bool false, .string ⟨#[]⟩, .bool false, .string ⟨#[]⟩]) ?_; (simp; done)) | with_reducible refine Own.alloc ?_ _ | refine Own.far _ _ (by first | (simp; done) | (simp [*]; done) | (simp; omega)) ?_)); done
    | simp [Own, go_sem]
  have c2 : Own W1 (w.heap.size + 1) 0 [.bool false, .string ⟨#[]⟩, .bool false, .string ⟨#[]⟩] := by
    rw [hW1]
    first
    | (repeat (first | (with_reducible refine own_new (l := [.bool false, .string ⟨#[]⟩, .bool false, .string ⟨#[]⟩]) ?_; (simp; done)) | with_reducible refine Own.alloc ?_ _ | refine Own.far _ _ (by first | (simp; done) | (simp [*]; done) | (simp; omega)) ?_)); done
    | simp [Own, go_sem]
  have hB3 : Below w.heap.size w W1 := by
    rw [hW1]
    repeat (first | with_reducible exact Below.refl _ _ | with_reducible refine bel_alloc ?_ _ | refine Below.setCell ?_ (by first | (simp; done) | (simp; omega) | omega) _)
  clear hW1 hL1
  go_loopw [10] (fun s10 wr => ∃ (k : Nat) (D : Rat), s10 = .int .i64 k ∧ Own wr (w.heap.size) 0 [.bool false, .string ⟨#[]⟩, .bool false, .string ⟨#[]⟩] ∧ Own wr (w.heap.size + 1) 0 [.bool (ng D.num), .string (mg D.num.natAbs), .bool false, .string (mg (dn D))] ∧ Below w.heap.size w wr ∧ k ≤ N ∧ Pl.Sz 4020 D ∧ Hid (D = diamF l k)) (fun s10 _ => N - (intOf s10).toNat)
  case atStart => exact ⟨0, 0, rfl, c1, c2, hB3, (by omega), (Pl.sz_zero.mono (by omega)), Lib.hid rfl⟩
  case round =>
    clear c1 c2 hB3
    obtain ⟨k, D, rfl, b4, b5, hB6, hk, hD, HE⟩ := hrel
    obtain ⟨wr7, hwr7⟩ : ∃ W_, W_ = wr := ⟨_, rfl⟩
    subst hwr7
    by_cases hltk : k < N
    · skip
      have i1k : (k : Int) < N := by omega
      obtain ⟨x8, hx9⟩ : ∃ x, l[k]? = some x := ⟨_, List.getElem?_eq_getElem (by rw [HN.out]; omega)⟩
      have Hhx9 := Lib.hid hx9
      have Zhx9 := Lib.hid (HS.out _ (List.mem_of_getElem? hx9))
      clear hx9
      have HT : Hid (diamF l (k + 1) = diamI x8 (l.take k) (diamF l k)) := Lib.hid (by rw [diamF, Pl.getD_of Hhx9.out])
      have hkc : (k : Int) ≤ c := by omega
      obtain ⟨g11, o12, ha13, -⟩ := (HX.out).up kpP hB6 _ _ Hhx9.out
      subst ha13
      have ce10 := LX.at_ ((HX.out).up kpP hB6) Hhx9.out
      have ce10_ : g11 < wr7.heap.size := World.block_lt_of_cell? _ _ ce10.1
      have uce10 := ce10
      simp only [CE, Nat.reduceMul] at uce10
      have ne14_ : w.heap.size < wr7.heap.size := by have := b4.lt; omega
      have ne14 := Nat.ne_of_lt ne14_
      have ne14' := ne14.symm
      have ne15_ : w.heap.size + 1 < wr7.heap.size := by have := b5.lt; omega
      have ne15 := Nat.ne_of_lt ne15_
      have ne15' := ne15.symm
      have ne16_ : g11 < wr7.heap.size := by omega
      have ne16 := Nat.ne_of_lt ne16_
      have ne16' := ne16.symm
      have ub4 := b4; have ub5 := b5
      simp only [At, Own, Nat.reduceAdd, and_true] at ub4 ub5
      go_wp2_with fail
      refine wp_named ?_
      intro W2 hW2
      have hL2 : Below wr7.heap.size wr7 W2 := by
        rw [hW2]
        repeat (first | with_reducible exact Below.refl _ _ | with_reducible refine bel_alloc ?_ _ | refine Below.setCell ?_ (by first | (simp; done) | (simp; omega) | omega) _)
      have c17 := b4.up hL2
      have c18 := b5.up hL2
      have c19 : Own W2 (wr7.heap.size) 0 [.bool (ng x8.1.num), .string (mg x8.1.num.natAbs), .bool false, .string (mg (dn x8.1)), .bool (ng x8.2.num), .string (mg x8.2.num.natAbs), .bool false, .string (mg (dn x8.2))] := by
        rw [hW2]
        first
        | (repeat (first | (with_reducible refine own_new (l := [.bool (ng x8.1.num), .string (mg x8.1.num.natAbs), .bool false, .string (mg (dn x8.1)), .bool (ng x8.2.num), .string (mg x8.2.num.natAbs), .bool false, .string (mg (dn x8.2))]) ?_; (simp; done)) | with_reducible refine Own.alloc ?_ _ | refine Own.far _ _ (by first | (simp; done) | (simp [*]; done) | (simp; omega)) ?_)); done
        | simp [Own, go_sem, uce10, ub4, ub5, ne14, ne14', ne14_, ne15, ne15', ne15_, ne16, ne16', ne16_]
      have hB20 : Below w.heap.size w W2 := by
        rw [hW2]
        repeat (first | with_reducible exact hB6 | with_reducible refine bel_alloc ?_ _ | refine Below.setCell ?_ (by first | (simp; done) | (simp; omega) | omega) _)
      clear hW2 hL2 uce10 ub4 ub5 b4 b5
      go_loopw [19] (fun s19 wr => ∃ (j : Nat) (out : Rat), s19 = .int .i64 j ∧ Own wr (w.heap.size) 0 [.bool false, .string ⟨#[]⟩, .bool false, .string ⟨#[]⟩] ∧ Own wr (w.heap.size + 1) 0 [.bool (ng out.num), .string (mg out.num.natAbs), .bool false, .string (mg (dn out))] ∧ Own wr (wr7.heap.size) 0 [.bool (ng x8.1.num), .string (mg x8.1.num.natAbs), .bool false, .string (mg (dn x8.1)), .bool (ng x8.2.num), .string (mg x8.2.num.natAbs), .bool false, .string (mg (dn x8.2))] ∧ Below w.heap.size w wr ∧ j ≤ k ∧ Pl.Sz 4020 out ∧ Hid (out = diamI x8 (l.take j) D)) (fun s19 _ => k - (intOf s19).toNat)
      case atStart => exact ⟨0, D, rfl, c17, c18, c19, hB20, (by omega), hD, Lib.hid rfl⟩
      case round =>
        clear c17 c18 c19 hB20
        obtain ⟨j, out, rfl, b21, b22, b23, hB24, hj, hout, HO⟩ := hrel
        obtain ⟨wr25, hwr25⟩ : ∃ W_, W_ = wr := ⟨_, rfl⟩
        subst hwr25
        by_cases hltj : j < k
        · skip
          have i1j : (j : Int) < k := by omega
          obtain ⟨x26, hx27⟩ : ∃ x, l[j]? = some x := ⟨_, List.getElem?_eq_getElem (by rw [HN.out]; omega)⟩
          have Hhx27 := Lib.hid hx27
          have Zhx27 := Lib.hid (HS.out _ (List.mem_of_getElem? hx27))
          clear hx27
          have HTI : Hid (diamI x8 (l.take (j + 1)) D = Pl.maxQ (diamI x8 (l.take j) D) (Pl.dist2 x8 x26)) := Lib.hid (diamI_snoc Hhx27.out)
          have ce28 := LX.at_ ((HX.out).up kpP hB24) Hhx27.out
          have ce28_ : g11 < wr25.heap.size := World.block_lt_of_cell? _ _ ce28.1
          have uce28 := ce28
          simp only [CE, Nat.reduceMul] at uce28
          have ne29_ : w.heap.size < wr25.heap.size := by have := b21.lt; omega
          have ne29 := Nat.ne_of_lt ne29_
          have ne29' := ne29.symm
          have ne30_ : w.heap.size + 1 < wr25.heap.size := by have := b22.lt; omega
          have ne30 := Nat.ne_of_lt ne30_
          have ne30' := ne30.symm
          have ne31_ : wr7.heap.size < wr25.heap.size := by have := b23.lt; omega
          have ne31 := Nat.ne_of_lt ne31_
          have ne31' := ne31.symm
          have ne32_ : g11 < wr25.heap.size := by omega
          have ne32 := Nat.ne_of_lt ne32_
          have ne32' := ne32.symm
          have ub21 := b21; have ub22 := b22; have ub23 := b23
          simp only [At, Own, Nat.reduceAdd, and_true] at ub21 ub22 ub23
          have K33 := Lib.hid (fun W => pdist_any x8 x26 W Zhx9.out Zhx27.out (by omega) (by omega))
          have K34 := Lib.hid (fun W => qmax_any out (Pl.dist2 x8 x26) W (hout.mono (by omega)) ((dist2_sz Zhx9.out Zhx27.out).mono (by omega)))
          go_wp2_with fail
          refine wp_named ?_
          intro W3 hW3
          have hL3 : Below wr25.heap.size wr25 W3 := by
            rw [hW3]
            repeat (first | with_reducible exact Below.refl _ _ | with_reducible refine bel_alloc ?_ _ | refine Below.setCell ?_ (by first | (simp; done) | (simp; omega) | omega) _)
          have c35 := b21.up hL3
          have c36 := b22.up hL3
          have c37 := b23.up hL3
          have c38 : Own W3 (wr25.heap.size) 0 [.bool (ng x26.1.num), .string (mg x26.1.num.natAbs), .bool false, .string (mg (dn x26.1)), .bool (ng x26.2.num), .string (mg x26.2.num.natAbs), .bool false, .string (mg (dn x26.2))] := by
            rw [hW3]
            first
            | (repeat (first | (with_reducible refine own_new (l := [.bool (ng x26.1.num), .string (mg x26.1.num.natAbs), .bool false, .string (mg (dn x26.1)), .bool (ng x26.2.num), .string (mg x26.2.num.natAbs), .bool false, .string (mg (dn x26.2))]) ?_; (simp; done)) | with_reducible refine Own.alloc ?_ _ | refine Own.far _ _ (by first | (simp; done) | (simp [*]; done) | (simp; omega)) ?_)); done
            | simp [Own, go_sem, uce28, ub21, ub22, ub23, ne29, ne29', ne29_, ne30, ne30', ne30_, ne31, ne31', ne31_, ne32, ne32', ne32_]
          have hB39 : Below w.heap.size w W3 := by
            rw [hW3]
            repeat (first | with_reducible exact hB24 | with_reducible refine bel_alloc ?_ _ | refine Below.setCell ?_ (by first | (simp; done) | (simp; omega) | omega) _)
          clear hW3 hL3 uce28 ub21 ub22 ub23 b21 b22 b23
          have dc35 := fun p : Bel W3 => c35.bel p; have dc36 := fun p : Bel W3 => c36.bel p; have dc37 := fun p : Bel W3 => c37.bel p; have dc38 := fun p : Bel W3 => c38.bel p
          simp only [At, Own, Nat.reduceAdd, and_true] at dc35 dc36 dc37 dc38
          refine wp_region_tail 5 (by kernel_rfl) (by kernel_rfl) ?_
          simp only [List.take_succ_cons, List.take_zero, List.drop_succ_cons, List.drop_zero]
          repeat (go_big_quiet_step (first | (go_at_call 78; with_reducible exact Calls.bel (K33.out _)) | (go_at_call 77; with_reducible exact Calls.bel (K34.out _))))
          refine wpQuiet_nil ?_
          intro w3 hb3
          have c40 := c35.up hb3
          have c41 := c36.up hb3
          have c42 := c37.up hb3
          have c43 := c38.up hb3
          have hB44 : Below w.heap.size w w3 := bel_up hB39 hb3
          clear dc35 dc36 dc37 dc38 c35 c36 c37 c38
          have uc40 := c40; have uc41 := c41; have uc42 := c42; have uc43 := c43
          simp only [At, Own, Nat.reduceAdd, and_true] at uc40 uc41 uc42 uc43
          go_wp2
          go_roundw
          case rel => exact ⟨(j + 1), (Pl.maxQ out (Pl.dist2 x8 x26)), (by first | rfl | exact congrArg (Value.int .i64) (by omega) | simp [*]), (by repeat (first | with_reducible exact c40 | refine Own.far _ _ (by simp <;> omega) ?_ | with_reducible refine Own.alloc ?_ _)), (by simp [Own, go_sem, uc40, uc41, uc42, uc43]), (by repeat (first | with_reducible exact c42 | refine Own.far _ _ (by simp <;> omega) ?_ | with_reducible refine Own.alloc ?_ _)), (by repeat (first | with_reducible exact hB44 | with_reducible refine bel_alloc ?_ _ | refine Below.setCell ?_ (by first | (simp; done) | (simp; omega) | omega) _)), (by omega), (maxQ_sz hout ((dist2_sz Zhx9.out Zhx27.out).mono (by omega))), Lib.hid (by rw [HTI.out, HO.out])⟩
          case measure => simp [intOf] <;> omega
        · skip
          have hkN : k = j := by omega
          subst hkN
          have ub21 := b21; have ub22 := b22; have ub23 := b23
          simp only [At, Own, Nat.reduceAdd, and_true] at ub21 ub22 ub23
          go_wp2
          go_roundw
          case rel => exact ⟨(k + 1), out, (by first | rfl | exact congrArg (Value.int .i64) (by omega) | simp [*]), (by repeat (first | with_reducible exact b21 | refine Own.far _ _ (by simp <;> omega) ?_ | with_reducible refine Own.alloc ?_ _)), (by repeat (first | with_reducible exact b22 | refine Own.far _ _ (by simp <;> omega) ?_ | with_reducible refine Own.alloc ?_ _)), (by repeat (first | with_reducible exact hB24 | with_reducible refine bel_alloc ?_ _ | refine Below.setCell ?_ (by first | (simp; done) | (simp; omega) | omega) _)), (by omega), hout, Lib.hid (by rw [HT.out, HO.out, HE.out])⟩
          case measure => simp [intOf] <;> omega
    · skip
      have hkN : N = k := by omega
      subst hkN
      have ub4 := b4; have ub5 := b5
      simp only [At, Own, Nat.reduceAdd, and_true] at ub4 ub5
      go_wp2
      refine bodyPost_ret (v := .agg #[.bool (ng D.num), .string (mg D.num.natAbs), .bool false, .string (mg (dn D))]) (by simp [results, Tryz.results32, go_sem, ub4, ub5]) rfl ⟨(by rw [HA.out, ← HE.out] <;> rfl), ?_⟩
      repeat (first | with_reducible exact hB6 | with_reducible refine bel_alloc ?_ _ | refine Below.setCell ?_ (by first | (simp; done) | (simp; omega) | omega) _)
end Go.Proofs.YtdkkjfnpinckjaaGreatDoor
