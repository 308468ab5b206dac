/-
  Contracts for convex sets: equality of rows, Check, Hull.
-/
import Derived.Test.YtdkkjfnpinckjaaGreatDoorVMo
import Derived.Test.YtdkkjfnpinckjaaGreatDoorVHuA
import Derived.Test.YtdkkjfnpinckjaaGreatDoorVChk
import Derived.Test.YtdkkjfnpinckjaaGreatDoorVVal
set_option linter.unusedSimpArgs false
set_option linter.unusedVariables false
namespace Go.Proofs.YtdkkjfnpinckjaaGreatDoor
open Go Go.RowKit

/-- What Check answers. -/
def ckR (b : Bool) : Int := match b with
  | true => 0
  | false => 13
set_option maxRecDepth 100000 in
theorem equal_len (va vb : Value) (a b : List (Rat × Rat)) (w : World) (ha : PV w va a) (hb : PV w vb b) (hab : b.length = a.length) (hn : a.length ≤ 1000000) (hsa : ∀ q ∈ a, True) (hsb : ∀ q ∈ b, True) :
    Calls Tryz.prog 92 #[va, vb] w fun e w' => e = .returned (.bool (Pl.sameB a b)) ∧ Below w.heap.size w w' := by
  obtain ⟨Aa, ca, rfl, hca, hma, hxa⟩ := ha.open_
  obtain ⟨Ab, cb, rfl, hcb, hmb, hxb⟩ := hb.open_
  have HXA := Lib.hid hxa
  have HXB := Lib.hid hxb
  have HSA := Lib.hid hsa
  have HSB := Lib.hid hsb
  rw [hab] at hb hcb ⊢
  have HNB := Lib.hid hab
  generalize hN : a.length = N at *
  have HNA := Lib.hid hN
  clear ha hb hxa hxb hsa hsb hab hN
  go_enter Tryz.func92, Tryz.ntmps92
  go_wp2_with fail
  go_loopw [13] (fun s13 wr => ∃ (k : Nat), s13 = .int .i64 k ∧ Below w.heap.size w wr ∧ k ≤ N ∧ Hid (Pl.sameB a b = Pl.sameB (a.drop k) (b.drop k))) (fun s13 _ => N - (intOf s13).toNat)
  case atStart => exact ⟨0, rfl, Below.refl _ _, (by omega), Lib.hid (by simp)⟩
  case round =>
    obtain ⟨k, rfl, hB1, hk, HE⟩ := hrel
    obtain ⟨wr2, hwr2⟩ : ∃ W_, W_ = wr := ⟨_, rfl⟩
    subst hwr2
    by_cases hltk : k < N
    · skip
      have i1k : (k : Int) < N := by omega
      obtain ⟨x3, hx4⟩ : ∃ x, a[k]? = some x := ⟨_, List.getElem?_eq_getElem (by rw [HNA.out]; omega)⟩
      have Hhx4 := Lib.hid hx4
      have Zhx4 := Lib.hid (HSA.out _ (List.mem_of_getElem? hx4))
      clear hx4
      obtain ⟨x5, hx6⟩ : ∃ x, b[k]? = some x := ⟨_, List.getElem?_eq_getElem (by rw [HNB.out]; omega)⟩
      have Hhx6 := Lib.hid hx6
      have Zhx6 := Lib.hid (HSB.out _ (List.mem_of_getElem? hx6))
      clear hx6
      have HDA := Lib.hid (Pl.drop_of Hhx4.out)
      have HDB := Lib.hid (Pl.drop_of Hhx6.out)
      by_cases hq7 : x3 = x5
      · skip
        have EQhq7 := fun W => eqP_in x3 x5 W
        rw [decide_eq_true hq7] at EQhq7
        have Hhq7 := Lib.hid hq7
        clear hq7
        go_wp2_with fail
        refine wp_named ?_
        intro W1 hW1
        have hL1 : Below wr2.heap.size wr2 W1 := by
          rw [hW1]
          repeat (first | with_reducible exact Below.refl _ _ | with_reducible refine bel_alloc ?_ _ | refine Below.setCell ?_ (by first | (simp; done) | (simp; omega) | omega) _)
        have hB8 : Below w.heap.size w W1 := by
          rw [hW1]
          repeat (first | with_reducible exact hB1 | with_reducible refine bel_alloc ?_ _ | refine Below.setCell ?_ (by first | (simp; done) | (simp; omega) | omega) _)
        clear hW1 hL1
        obtain ⟨g10, o11, ha12, -⟩ := (HXA.out).up kpP hB8 _ _ Hhx4.out
        subst ha12
        have ce9 := LX.at_ ((HXA.out).up kpP hB8) Hhx4.out
        have ce9_ : g10 < W1.heap.size := World.block_lt_of_cell? _ _ ce9.1
        have dce9 := fun b : Bel W1 => ce9.bel b
        simp only [CE, Nat.reduceMul] at dce9
        obtain ⟨g14, o15, ha16, -⟩ := (HXB.out).up kpP hB8 _ _ Hhx6.out
        subst ha16
        have ce13 := LX.at_ ((HXB.out).up kpP hB8) Hhx6.out
        have ce13_ : g14 < W1.heap.size := World.block_lt_of_cell? _ _ ce13.1
        have dce13 := fun b : Bel W1 => ce13.bel b
        simp only [CE, Nat.reduceMul] at dce13
        refine wp_region_all (by kernel_rfl) (by kernel_rfl) ?_
        repeat (go_big_quiet_step (fail))
        refine wpQuiet_nil ?_
        intro w1 hb1
        have hB17 : Below w.heap.size w w1 := bel_up hB8 hb1
        clear dce9 dce13
        go_wp2
        go_roundw
        case rel => exact ⟨(k + 1), (by first | rfl | exact congrArg (Value.int .i64) (by omega) | simp [*]), (by repeat (first | with_reducible exact hB17 | with_reducible refine bel_alloc ?_ _ | refine Below.setCell ?_ (by first | (simp; done) | (simp; omega) | omega) _)), (by omega), Lib.hid (by rw [HE.out, HDA.out, HDB.out, Pl.sameB, decide_eq_true Hhq7.out, Bool.true_and])⟩
        case measure => simp [intOf] <;> omega
      · skip
        have EQhq7 := fun W => eqP_in x3 x5 W
        rw [decide_eq_false hq7] at EQhq7
        have Hhq7 := Lib.hid hq7
        clear hq7
        go_wp2_with fail
        refine wp_named ?_
        intro W2 hW2
        have hL2 : Below wr2.heap.size wr2 W2 := by
          rw [hW2]
          repeat (first | with_reducible exact Below.refl _ _ | with_reducible refine bel_alloc ?_ _ | refine Below.setCell ?_ (by first | (simp; done) | (simp; omega) | omega) _)
        have hB18 : Below w.heap.size w W2 := by
          rw [hW2]
          repeat (first | with_reducible exact hB1 | with_reducible refine bel_alloc ?_ _ | refine Below.setCell ?_ (by first | (simp; done) | (simp; omega) | omega) _)
        clear hW2 hL2
        obtain ⟨g20, o21, ha22, -⟩ := (HXA.out).up kpP hB18 _ _ Hhx4.out
        subst ha22
        have ce19 := LX.at_ ((HXA.out).up kpP hB18) Hhx4.out
        have ce19_ : g20 < W2.heap.size := World.block_lt_of_cell? _ _ ce19.1
        have dce19 := fun b : Bel W2 => ce19.bel b
        simp only [CE, Nat.reduceMul] at dce19
        obtain ⟨g24, o25, ha26, -⟩ := (HXB.out).up kpP hB18 _ _ Hhx6.out
        subst ha26
        have ce23 := LX.at_ ((HXB.out).up kpP hB18) Hhx6.out
        have ce23_ : g24 < W2.heap.size := World.block_lt_of_cell? _ _ ce23.1
        have dce23 := fun b : Bel W2 => ce23.bel b
        simp only [CE, Nat.reduceMul] at dce23
        refine wp_region_all (by kernel_rfl) (by kernel_rfl) ?_
        repeat (go_big_quiet_step (fail))
        refine wpQuiet_nil ?_
        intro w2 hb2
        have hB27 : Below w.heap.size w w2 := bel_up hB18 hb2
        clear dce19 dce23
        go_wp2
        go_ret
        refine ⟨(by rw [HE.out, HDA.out, HDB.out, Pl.sameB, decide_eq_false Hhq7.out] <;> rfl), ?_⟩
        repeat (first | with_reducible exact hB27 | with_reducible refine bel_alloc ?_ _ | refine Below.setCell ?_ (by first | (simp; done) | (simp; omega) | omega) _)
    · skip
      have hkN : N = k := by omega
      subst hkN
      have HDA : Hid (a.drop N = []) := Lib.hid (List.drop_eq_nil_of_le (by rw [HNA.out]; exact Nat.le_refl _))
      have HDB : Hid (b.drop N = []) := Lib.hid (List.drop_eq_nil_of_le (by rw [HNB.out]; exact Nat.le_refl _))
      go_wp2
      go_ret
      refine ⟨(by rw [HE.out, HDA.out, HDB.out, Pl.sameB] <;> rfl), ?_⟩
      repeat (first | with_reducible exact hB1 | with_reducible refine bel_alloc ?_ _ | refine Below.setCell ?_ (by first | (simp; done) | (simp; omega) | omega) _)

set_option maxRecDepth 100000 in
theorem equal_any (va vb : Value) (a b : List (Rat × Rat)) (w : World) (ha : PV w va a) (hb : PV w vb b) (hn : a.length ≤ 1000000) :
    Calls Tryz.prog 92 #[va, vb] w fun e w' => e = .returned (.bool (Pl.sameB a b)) ∧ Below w.heap.size w w' := by
  by_cases h : b.length = a.length
  · exact equal_len va vb a b w ha hb h hn (fun _ _ => trivial) (fun _ _ => trivial)
  · rw [sameB_len h]
    obtain ⟨Aa, ca, rfl⟩ := ha.len
    obtain ⟨Ab, cb, rfl⟩ := hb.len
    generalize a.length = Na at *
    generalize b.length = Nb at *
    have j1 : ((Na : Int) == Nb) = false := by simp; omega
    have j2 : ¬ (Na : Int) = Nb := by omega
    have j3 : ((Na : Int) != Nb) = true := by simp [bne]; omega
    clear ha hb
    go_enter Tryz.func92, Tryz.ntmps92
    go_wp2
    go_ret
    exact ⟨rfl, Below.refl _ _⟩

set_option maxRecDepth 100000 in
theorem ccheck_walk {S : Nat} (A : Option Addr) (c : Nat) (l : List (Rat × Rat)) (w : World) (h : PV w (.slice A l.length c) l) (hs : ∀ q ∈ l, Pl.SzP S q) (hn : l.length ≤ 900000) (hS : S ≤ 100000) :
    Calls Tryz.prog 44 #[.slice A l.length c] w fun e w' => e = .returned (.int .i64 (ckR (Pl.sameB (Pl.wrap l) l))) ∧ Below w.heap.size w w' := by
  have hx : LX CE 8 w A l := by
    obtain ⟨A', c', h1, _, _, hx⟩ := h.open_
    cases h1
    exact hx
  have HV := Lib.hid h
  have HX := Lib.hid hx
  have HS := Lib.hid hs
  have HSS := Lib.hid hs
  have HNNa : Hid (l.length ≤ 1000000) := Lib.hid (by omega)
  have HNN9a : Hid (l.length ≤ 900000) := Lib.hid hn
  generalize hN : l.length = N at *
  have HN := Lib.hid hN
  have HNN : Hid (l.length ≤ 1000000) := Lib.hid (by rw [HN.out]; omega)
  have HNN9 : Hid (l.length ≤ 900000) := Lib.hid (by rw [HN.out]; omega)
  clear h hx hs hN HNNa HNN9a
  go_enter Tryz.func44, Tryz.ntmps44
  go_wp2_with fail
  go_loopw [8] (fun s8 wr => ∃ (k : Nat), s8 = .int .i64 k ∧ Below w.heap.size w wr ∧ k ≤ N) (fun s8 _ => N - (intOf s8).toNat)
  case atStart => exact ⟨0, rfl, Below.refl _ _, (by omega)⟩
  case round =>
    obtain ⟨k, rfl, hB1, hk⟩ := hrel
    obtain ⟨wr2, hwr2⟩ : ∃ W_, W_ = wr := ⟨_, rfl⟩
    subst hwr2
    by_cases hltk : k < N
    · skip
      have i1k : (k : Int) < N := by omega
      obtain ⟨x3, hx4⟩ : ∃ x, l[k]? = some x := ⟨_, List.getElem?_eq_getElem (by rw [HN.out]; omega)⟩
      have Hhx4 := Lib.hid hx4
      have Zhx4 := Lib.hid (HS.out _ (List.mem_of_getElem? hx4))
      clear hx4
      obtain ⟨g6, o7, ha8, -⟩ := (HX.out).up kpP hB1 _ _ Hhx4.out
      subst ha8
      have ce5 := LX.at_ ((HX.out).up kpP hB1) Hhx4.out
      have ce5_ : g6 < wr2.heap.size := World.block_lt_of_cell? _ _ ce5.1
      have uce5 := ce5
      simp only [CE, Nat.reduceMul] at uce5
      have ne9_ : g6 < wr2.heap.size := by omega
      have ne9 := Nat.ne_of_lt ne9_
      have ne9' := ne9.symm
      have K10 := Lib.hid (fun W => pcheck_any x3 W (Zhx4.out.mono (by omega)))
      go_wp2_with (fail)
      refine calls_named ?_
      intro W1 hW1
      have hL1 : Below wr2.heap.size wr2 W1 := by
        rw [hW1]
        repeat (first | with_reducible exact Below.refl _ _ | with_reducible refine bel_alloc ?_ _ | refine Below.setCell ?_ (by first | (simp; done) | (simp; omega) | omega) _)
      have c11 : Own W1 (wr2.heap.size) 0 [.bool (ng x3.1.num), .string (mg x3.1.num.natAbs), .bool false, .string (mg (dn x3.1)), .bool (ng x3.2.num), .string (mg x3.2.num.natAbs), .bool false, .string (mg (dn x3.2))] := by
        rw [hW1]
        first
        | (repeat (first | (with_reducible refine own_new (l := [.bool (ng x3.1.num), .string (mg x3.1.num.natAbs), .bool false, .string (mg (dn x3.1)), .bool (ng x3.2.num), .string (mg x3.2.num.natAbs), .bool false, .string (mg (dn x3.2))]) ?_; (simp; done)) | with_reducible refine Own.alloc ?_ _ | refine Own.far _ _ (by first | (simp; done) | (simp [*]; done) | (simp; omega)) ?_)); done
        | simp [Own, go_sem, uce5, ne9, ne9', ne9_]
      have hB12 : Below w.heap.size w W1 := by
        rw [hW1]
        repeat (first | with_reducible exact hB1 | with_reducible refine bel_alloc ?_ _ | refine Below.setCell ?_ (by first | (simp; done) | (simp; omega) | omega) _)
      clear hW1 hL1 uce5
      with_reducible refine (K10.out _).mono ?_
      rintro e w1 ⟨rfl, hb1⟩
      have c13 := c11.up hb1
      have hB14 : Below w.heap.size w w1 := bel_up hB12 hb1
      clear c11
      have uc13 := c13
      simp only [At, Own, Nat.reduceAdd, and_true] at uc13
      go_wp2
      go_roundw
      case rel => exact ⟨(k + 1), (by first | rfl | exact congrArg (Value.int .i64) (by omega) | simp [*]), (by repeat (first | with_reducible exact hB14 | with_reducible refine bel_alloc ?_ _ | refine Below.setCell ?_ (by first | (simp; done) | (simp; omega) | omega) _)), (by omega)⟩
      case measure => simp [intOf] <;> omega
    · skip
      have hkN : N = k := by omega
      subst hkN
      obtain ⟨bb, hbb⟩ : ∃ b, Pl.sameB (Pl.wrap l) l = b := ⟨_, rfl⟩
      have HBB := Lib.hid hbb
      clear hbb
      have K15 := Lib.hid (fun W va h0 => hull_any va l W h0 HSS.out HNN.out hS)
      go_wp2_with (fail)
      refine calls_named ?_
      intro W2 hW2
      have hL2 : Below wr2.heap.size wr2 W2 := by
        rw [hW2]
        repeat (first | with_reducible exact Below.refl _ _ | with_reducible refine bel_alloc ?_ _ | refine Below.setCell ?_ (by first | (simp; done) | (simp; omega) | omega) _)
      have hB16 : Below w.heap.size w W2 := by
        rw [hW2]
        repeat (first | with_reducible exact hB1 | with_reducible refine bel_alloc ?_ _ | refine Below.setCell ?_ (by first | (simp; done) | (simp; omega) | omega) _)
      clear hW2 hL2
      with_reducible refine (K15.out _ _ (HV.out.up hB16)).mono ?_
      rintro e w2 ⟨v2, rfl, hv2, hb2⟩
      have hB17 : Below w.heap.size w w2 := bel_up hB16 hb2
      have PW2 := Lib.hid hv2
      clear hv2
      have K18 := Lib.hid (fun W va vb (h0 : PV W va (Pl.wrap l)) (h1 : PV W vb l) => HBB.out ▸ equal_any va vb (Pl.wrap l) l W h0 h1 (Nat.le_trans (wrap_le l) (by have := HNN9.out; omega)))
      go_wp2_with (fail)
      refine calls_named ?_
      intro W3 hW3
      have hL3 : Below w2.heap.size w2 W3 := by
        rw [hW3]
        repeat (first | with_reducible exact Below.refl _ _ | with_reducible refine bel_alloc ?_ _ | refine Below.setCell ?_ (by first | (simp; done) | (simp; omega) | omega) _)
      have hA19 := hL3
      have hB20 : Below w.heap.size w W3 := by
        rw [hW3]
        repeat (first | with_reducible exact hB17 | with_reducible refine bel_alloc ?_ _ | refine Below.setCell ?_ (by first | (simp; done) | (simp; omega) | omega) _)
      clear hW3 hL3
      with_reducible refine (K18.out _ _ _ (PW2.out.up hA19) (HV.out.up hB20)).mono ?_
      rintro e w3 ⟨rfl, hb3⟩
      have hA21 := bel_up hA19 hb3
      have hB22 : Below w.heap.size w w3 := bel_up hB20 hb3
      clear hA19
      cases bb
      · skip
        go_wp2
        go_ret
        refine ⟨(by first | (rw [HBB.out]; rfl) | rfl), ?_⟩
        repeat (first | with_reducible exact hB22 | with_reducible refine bel_alloc ?_ _ | refine Below.setCell ?_ (by first | (simp; done) | (simp; omega) | omega) _)
      · skip
        go_wp2
        go_ret
        refine ⟨(by first | (rw [HBB.out]; rfl) | rfl), ?_⟩
        repeat (first | with_reducible exact hB22 | with_reducible refine bel_alloc ?_ _ | refine Below.setCell ?_ (by first | (simp; done) | (simp; omega) | omega) _)

theorem ccheck_any {S : Nat} (v : Value) (l : List (Rat × Rat)) (w : World) (h : PV w v l) (hs : ∀ q ∈ l, Pl.SzP S q) (hn : l.length ≤ 900000) (hS : S ≤ 100000) :
    Calls Tryz.prog 44 #[v] w fun e w' => e = .returned (.int .i64 (ckR (Pl.sameB (Pl.wrap l) l))) ∧ Below w.heap.size w w' := by
  obtain ⟨A, c, rfl, _⟩ := h.open_
  exact ccheck_walk A c l w h hs hn hS
set_option maxRecDepth 100000 in
theorem chull_ok {S : Nat} (v : Value) (l : List (Rat × Rat)) (w : World) (h : PV w v l) (hs : ∀ q ∈ l, Pl.SzP S q) (hn : l.length ≤ 512) (hS : S ≤ 100000) :
    Calls Tryz.prog 47 #[v] w fun e w' => ∃ v', e = .returned (.tuple #[v', .int .i64 0]) ∧ PV w' v' (Pl.wrap l) ∧ Below w.heap.size w w' := by
  obtain ⟨A, c, rfl, _⟩ := h.open_
  have K := Lib.hid (fun W h0 => hull_any (S := S) (.slice A l.length c) l W h0 hs (by omega) hS)
  have HV := Lib.hid h
  have j1 : ¬ (512 : Int) < l.length := by omega
  have j2 : (l.length : Int) ≤ 512 := by omega
  generalize l.length = N at *
  clear h hs
  go_enter Tryz.func47, Tryz.ntmps47
  go_wp2_with fail
  with_reducible refine (K.out _ HV.out).mono ?_
  rintro e w1 ⟨v1, rfl, hv1, hb1⟩
  have P1 := Lib.hid hv1
  clear hv1
  go_wp2
  go_ret2
  exact ⟨_, rfl, P1.out, hb1⟩
set_option maxRecDepth 100000 in
theorem chull_many (A : Option Addr) (N c : Nat) (w : World) (hn : 512 < N) :
    Calls Tryz.prog 47 #[.slice A N c] w fun e w' => e = .returned (.tuple #[.slice none 0 0, .int .i64 3]) ∧ Below w.heap.size w w' := by
  have j1 : (512 : Int) < N := by omega
  go_enter Tryz.func47, Tryz.ntmps47
  go_wp2
  go_ret2
  exact ⟨rfl, Below.refl _ _⟩
end Go.Proofs.YtdkkjfnpinckjaaGreatDoor
