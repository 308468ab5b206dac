/-
  Contracts of the reference for convex sets: the farthest point.
-/
import Derived.Test.YtdkkjfnpinckjaaGreatDoorVMo
set_option linter.unusedSimpArgs false
set_option linter.unusedVariables false
namespace Go.Proofs.YtdkkjfnpinckjaaGreatDoor
open Go Go.RowKit

theorem supp_cons (d out x : Rat × Rat) (l : List (Rat × Rat)) : Pl.supp (x :: l) d out = Pl.supp l d (Pl.suppStep d out x) := rfl

set_option maxRecDepth 100000 in
theorem hsupp_any {S : Nat} (v : Value) (l : List (Rat × Rat)) (d a : Rat × Rat) (w : World) (h : PV w v l) (hs : ∀ q ∈ l, Pl.SzP S q) (hn : l.length ≤ 1000000) (hS : S ≤ 100000) (hd : Pl.SzP S d) (h0 : l[0]? = some a) :
    Calls Tryz.prog 33 #[v, pv d] w fun e w' => e = .returned (pv (Pl.supp l d a)) ∧ Below w.heap.size w w' := by
  have hsa := hs a (List.mem_of_getElem? h0)
  have H0 := Lib.hid h0
  have hlen := (List.getElem?_eq_some_iff.1 h0).1
  clear h0
  obtain ⟨A, c, rfl, hc, hm, hx⟩ := h.open_
  have HV := Lib.hid h
  have HX := Lib.hid hx
  have HS := Lib.hid hs
  have HF : Hid (l.take l.length = l) := Lib.hid List.take_length
  generalize hN : l.length = N at *
  have HN := Lib.hid hN
  clear h hx hs hN
  have j0 : (0 : Int) < N := by omega
  go_enter Tryz.func33, Tryz.ntmps33
  obtain ⟨g2, o3, ha4, -⟩ := HX.out _ _ H0.out
  subst ha4
  have ce1 := LX.at_ (HX.out) H0.out
  have ce1_ : g2 < w.heap.size := World.block_lt_of_cell? _ _ ce1.1
  have uce1 := ce1
  simp only [CE, Nat.reduceMul, Nat.zero_mul, Nat.add_zero, Nat.add_assoc, Nat.reduceAdd] at uce1
  have ne5_ : g2 < w.heap.size + 2 := by omega
  have ne5 := Nat.ne_of_lt ne5_
  have ne5' := ne5.symm
  go_wp2_with fail
  refine wp_named ?_
  intro W1 hW1
  have hL1 : Below w.heap.size w W1 := by
    rw [hW1]
    repeat (first | with_reducible exact Below.refl _ _ | with_reducible refine bel_alloc ?_ _ | refine Below.setCell ?_ (by first | (simp; done) | (simp; omega) | omega) _)
  have c6 : Own W1 (w.heap.size) 0 [.bool (ng d.1.num), .string (mg d.1.num.natAbs), .bool false, .string (mg (dn d.1)), .bool (ng d.2.num), .string (mg d.2.num.natAbs), .bool false, .string (mg (dn d.2))] := by
    rw [hW1]
    first
    | (repeat (first | (with_reducible refine own_new (l := [.bool (ng d.1.num), .string (mg d.1.num.natAbs), .bool false, .string (mg (dn d.1)), .bool (ng d.2.num), .string (mg d.2.num.natAbs), .bool false, .string (mg (dn d.2))]) ?_; (simp; done)) | with_reducible refine Own.alloc ?_ _ | refine Own.far _ _ (by first | (simp; done) | (simp [*]; done) | (simp; omega)) ?_)); done
    | simp [Own, go_sem, uce1, ne5, ne5', ne5_]
  have c7 : Own W1 (w.heap.size + 1) 0 [.bool false, .string ⟨#[]⟩, .bool false, .string ⟨#[]⟩, .bool false, .string ⟨#[]⟩, .bool false, .string ⟨#[]⟩] := by
    rw [hW1]
    first
    | (repeat (first | (with_reducible refine own_new (l := [.bool false, .string ⟨#[]⟩, .bool false, .string ⟨#[]⟩, .bool false, .string ⟨#[]⟩, .bool false, .string ⟨#[]⟩]) ?_; (simp; done)) | with_reducible refine Own.alloc ?_ _ | refine Own.far _ _ (by first | (simp; done) | (simp [*]; done) | (simp; omega)) ?_)); done
    | simp [Own, go_sem, uce1, ne5, ne5', ne5_]
  have c8 : Own W1 (w.heap.size + 2) 0 [.bool (ng a.1.num), .string (mg a.1.num.natAbs), .bool false, .string (mg (dn a.1)), .bool (ng a.2.num), .string (mg a.2.num.natAbs), .bool false, .string (mg (dn a.2))] := by
    rw [hW1]
    first
    | (repeat (first | (with_reducible refine own_new (l := [.bool (ng a.1.num), .string (mg a.1.num.natAbs), .bool false, .string (mg (dn a.1)), .bool (ng a.2.num), .string (mg a.2.num.natAbs), .bool false, .string (mg (dn a.2))]) ?_; (simp; done)) | with_reducible refine Own.alloc ?_ _ | refine Own.far _ _ (by first | (simp; done) | (simp [*]; done) | (simp; omega)) ?_)); done
    | simp [Own, go_sem, uce1, ne5, ne5', ne5_]
  have hB9 : Below w.heap.size w W1 := by
    rw [hW1]
    repeat (first | with_reducible exact Below.refl _ _ | with_reducible refine bel_alloc ?_ _ | refine Below.setCell ?_ (by first | (simp; done) | (simp; omega) | omega) _)
  clear hW1 hL1 uce1
  go_loopw [6] (fun s6 wr => ∃ (k : Nat) (out : Rat × Rat), s6 = .int .i64 k ∧ Own wr (w.heap.size) 0 [.bool (ng d.1.num), .string (mg d.1.num.natAbs), .bool false, .string (mg (dn d.1)), .bool (ng d.2.num), .string (mg d.2.num.natAbs), .bool false, .string (mg (dn d.2))] ∧ Own wr (w.heap.size + 1) 0 [.bool false, .string ⟨#[]⟩, .bool false, .string ⟨#[]⟩, .bool false, .string ⟨#[]⟩, .bool false, .string ⟨#[]⟩] ∧ Own wr (w.heap.size + 2) 0 [.bool (ng out.1.num), .string (mg out.1.num.natAbs), .bool false, .string (mg (dn out.1)), .bool (ng out.2.num), .string (mg out.2.num.natAbs), .bool false, .string (mg (dn out.2))] ∧ Below w.heap.size w wr ∧ k ≤ N ∧ Pl.SzP S out ∧ Hid (Pl.supp l d a = Pl.supp (l.drop k) d out)) (fun s6 _ => N - (intOf s6).toNat)
  case atStart => exact ⟨0, a, rfl, c6, c7, c8, hB9, (by omega), hsa, Lib.hid rfl⟩
  case round =>
    clear c6 c7 c8 hB9
    obtain ⟨k, out, rfl, b10, b11, b12, hB13, hk, hout, HE⟩ := hrel
    obtain ⟨wr14, hwr14⟩ : ∃ W_, W_ = wr := ⟨_, rfl⟩
    subst hwr14
    by_cases hltk : k < N
    · skip
      have i1k : (k : Int) < N := by omega
      obtain ⟨x15, hx16⟩ : ∃ x, l[k]? = some x := ⟨_, List.getElem?_eq_getElem (by rw [HN.out]; omega)⟩
      have Hhx16 := Lib.hid hx16
      have Zhx16 := Lib.hid (HS.out _ (List.mem_of_getElem? hx16))
      clear hx16
      have HD := Lib.hid (Pl.drop_of Hhx16.out)
      have K17 := Lib.hid (fun W => hdot_any x15 d W Zhx16.out hd (by omega) (by omega))
      have K18 := Lib.hid (fun W => hdot_any out d W hout hd (by omega) (by omega))
      have kK19 := fun W => rcompare_any (Pl.dotP x15 d) (Pl.dotP out d) W ((Zhx16.out.dot hd).mono (by omega)) ((hout.dot hd).mono (by omega))
      generalize hT21 : Pl.cmpQ (Pl.dotP x15 d) (Pl.dotP out d) = t20 at kK19
      have K19 := Lib.hid kK19
      clear kK19
      have T22 := Lib.hid (sgnQ hT21)
      have HhT21 := Lib.hid hT21
      clear hT21
      go_wp2_with fail
      refine wp_named ?_
      intro W2 hW2
      have hL2 : Below wr14.heap.size wr14 W2 := by
        rw [hW2]
        repeat (first | with_reducible exact Below.refl _ _ | with_reducible refine bel_alloc ?_ _ | refine Below.setCell ?_ (by first | (simp; done) | (simp; omega) | omega) _)
      have c23 := b10.up hL2
      have c24 := b11.up hL2
      have c25 := b12.up hL2
      have hB26 : Below w.heap.size w W2 := by
        rw [hW2]
        repeat (first | with_reducible exact hB13 | with_reducible refine bel_alloc ?_ _ | refine Below.setCell ?_ (by first | (simp; done) | (simp; omega) | omega) _)
      clear hW2 hL2 b10 b11 b12
      have dc23 := fun p : Bel W2 => c23.bel p; have dc24 := fun p : Bel W2 => c24.bel p; have dc25 := fun p : Bel W2 => c25.bel p
      simp only [At, Own, Nat.reduceAdd, and_true] at dc23 dc24 dc25
      have ce27 := LX.at_ ((HX.out).up kpP hB26) Hhx16.out
      have ce27_ : g2 < W2.heap.size := World.block_lt_of_cell? _ _ ce27.1
      have dce27 := fun b : Bel W2 => ce27.bel b
      simp only [CE, Nat.reduceMul] at dce27
      refine wp_region_tail 10 (by kernel_rfl) (by kernel_rfl) ?_
      simp only [List.take_succ_cons, List.take_zero, List.drop_succ_cons, List.drop_zero]
      repeat (go_big_quiet_step (first | (go_at_call 28; with_reducible exact Calls.bel (K17.out _)) | (go_at_call 28; with_reducible exact Calls.bel (K18.out _)) | (go_at_call 31; with_reducible exact Calls.bel (K19.out _))))
      refine wpQuiet_nil ?_
      intro w2 hb2
      have c28 := c23.up hb2
      have c29 := c24.up hb2
      have c30 := c25.up hb2
      have hB31 : Below w.heap.size w w2 := bel_up hB26 hb2
      clear dc23 dc24 dc25 dce27 c23 c24 c25
      have uc28 := c28; have uc29 := c29; have uc30 := c30
      simp only [At, Own, Nat.reduceAdd, and_true] at uc28 uc29 uc30
      rcases T22.out with rfl | rfl | rfl
      · skip
        go_wp2_with fail
        refine wp_named ?_
        intro W3 hW3
        have hL3 : Below w2.heap.size w2 W3 := by
          rw [hW3]
          repeat (first | with_reducible exact Below.refl _ _ | with_reducible refine bel_alloc ?_ _ | refine Below.setCell ?_ (by first | (simp; done) | (simp; omega) | omega) _)
        have c32 := c28.up hL3
        have c33 := c29.up hL3
        have c34 := c30.up hL3
        have hB35 : Below w.heap.size w W3 := by
          rw [hW3]
          repeat (first | with_reducible exact hB31 | with_reducible refine bel_alloc ?_ _ | refine Below.setCell ?_ (by first | (simp; done) | (simp; omega) | omega) _)
        clear hW3 hL3 uc28 uc29 uc30 c28 c29 c30
        have dc32 := fun p : Bel W3 => c32.bel p; have dc33 := fun p : Bel W3 => c33.bel p; have dc34 := fun p : Bel W3 => c34.bel p
        simp only [At, Own, Nat.reduceAdd, and_true] at dc32 dc33 dc34
        refine wp_region_all (by kernel_rfl) (by kernel_rfl) ?_
        repeat (go_big_quiet_step (fail))
        refine wpQuiet_nil ?_
        intro w3 hb3
        have c36 := c32.up hb3
        have c37 := c33.up hb3
        have c38 := c34.up hb3
        have hB39 : Below w.heap.size w w3 := bel_up hB35 hb3
        clear dc32 dc33 dc34 c32 c33 c34
        have uc36 := c36; have uc37 := c37; have uc38 := c38
        simp only [At, Own, Nat.reduceAdd, and_true] at uc36 uc37 uc38
        go_wp2
        go_roundw
        case rel => exact ⟨(k + 1), out, (by first | rfl | exact congrArg (Value.int .i64) (by omega) | simp [*]), (by repeat (first | with_reducible exact c36 | refine Own.far _ _ (by simp <;> omega) ?_ | with_reducible refine Own.alloc ?_ _)), (by repeat (first | with_reducible exact c37 | refine Own.far _ _ (by simp <;> omega) ?_ | with_reducible refine Own.alloc ?_ _)), (by repeat (first | with_reducible exact c38 | refine Own.far _ _ (by simp <;> omega) ?_ | with_reducible refine Own.alloc ?_ _)), (by repeat (first | with_reducible exact hB39 | with_reducible refine bel_alloc ?_ _ | refine Below.setCell ?_ (by first | (simp; done) | (simp; omega) | omega) _)), (by omega), hout, Lib.hid (by rw [HE.out, HD.out, supp_cons]; congr 1; simp [Pl.suppStep, HhT21.out])⟩
        case measure => simp [intOf] <;> omega
      · skip
        have kK40 := fun W => hless_any x15 out W Zhx16.out hout (by omega) (by omega)
        generalize hT42 : Pl.lessP x15 out = b41 at kK40
        have K40 := Lib.hid kK40
        clear kK40
        have HhT42 := Lib.hid hT42
        clear hT42
        go_wp2_with fail
        refine wp_named ?_
        intro W4 hW4
        have hL4 : Below w2.heap.size w2 W4 := by
          rw [hW4]
          repeat (first | with_reducible exact Below.refl _ _ | with_reducible refine bel_alloc ?_ _ | refine Below.setCell ?_ (by first | (simp; done) | (simp; omega) | omega) _)
        have c43 := c28.up hL4
        have c44 := c29.up hL4
        have c45 := c30.up hL4
        have hB46 : Below w.heap.size w W4 := by
          rw [hW4]
          repeat (first | with_reducible exact hB31 | with_reducible refine bel_alloc ?_ _ | refine Below.setCell ?_ (by first | (simp; done) | (simp; omega) | omega) _)
        clear hW4 hL4 uc28 uc29 uc30 c28 c29 c30
        have dc43 := fun p : Bel W4 => c43.bel p; have dc44 := fun p : Bel W4 => c44.bel p; have dc45 := fun p : Bel W4 => c45.bel p
        simp only [At, Own, Nat.reduceAdd, and_true] at dc43 dc44 dc45
        have ce47 := LX.at_ ((HX.out).up kpP hB46) Hhx16.out
        have ce47_ : g2 < W4.heap.size := World.block_lt_of_cell? _ _ ce47.1
        have dce47 := fun b : Bel W4 => ce47.bel b
        simp only [CE, Nat.reduceMul] at dce47
        refine wp_region_all (by kernel_rfl) (by kernel_rfl) ?_
        repeat (go_big_quiet_step (first | (go_at_call 79; with_reducible exact Calls.bel (K40.out _))))
        refine wpQuiet_nil ?_
        intro w4 hb4
        have c48 := c43.up hb4
        have c49 := c44.up hb4
        have c50 := c45.up hb4
        have hB51 : Below w.heap.size w w4 := bel_up hB46 hb4
        clear dc43 dc44 dc45 dce47 c43 c44 c45
        have uc48 := c48; have uc49 := c49; have uc50 := c50
        simp only [At, Own, Nat.reduceAdd, and_true] at uc48 uc49 uc50
        cases b41
        · skip
          go_wp2
          go_roundw
          case rel => exact ⟨(k + 1), out, (by first | rfl | exact congrArg (Value.int .i64) (by omega) | simp [*]), (by repeat (first | with_reducible exact c48 | refine Own.far _ _ (by simp <;> omega) ?_ | with_reducible refine Own.alloc ?_ _)), (by repeat (first | with_reducible exact c49 | refine Own.far _ _ (by simp <;> omega) ?_ | with_reducible refine Own.alloc ?_ _)), (by repeat (first | with_reducible exact c50 | refine Own.far _ _ (by simp <;> omega) ?_ | with_reducible refine Own.alloc ?_ _)), (by repeat (first | with_reducible exact hB51 | with_reducible refine bel_alloc ?_ _ | refine Below.setCell ?_ (by first | (simp; done) | (simp; omega) | omega) _)), (by omega), hout, Lib.hid (by rw [HE.out, HD.out, supp_cons]; congr 1; simp [Pl.suppStep, HhT21.out, HhT42.out])⟩
          case measure => simp [intOf] <;> omega
        · skip
          have ce52 := LX.at_ ((HX.out).up kpP hB51) Hhx16.out
          have ce52_ : g2 < w4.heap.size := World.block_lt_of_cell? _ _ ce52.1
          have uce52 := ce52
          simp only [CE, Nat.reduceMul] at uce52
          go_wp2
          go_roundw
          case rel => exact ⟨(k + 1), x15, (by first | rfl | exact congrArg (Value.int .i64) (by omega) | simp [*]), (by repeat (first | with_reducible exact c48 | refine Own.far _ _ (by simp <;> omega) ?_ | with_reducible refine Own.alloc ?_ _)), (by repeat (first | with_reducible exact c49 | refine Own.far _ _ (by simp <;> omega) ?_ | with_reducible refine Own.alloc ?_ _)), (by simp [Own, go_sem, uc48, uc49, uc50, uce52]), (by repeat (first | with_reducible exact hB51 | with_reducible refine bel_alloc ?_ _ | refine Below.setCell ?_ (by first | (simp; done) | (simp; omega) | omega) _)), (by omega), Zhx16.out, Lib.hid (by rw [HE.out, HD.out, supp_cons]; congr 1; simp [Pl.suppStep, HhT21.out, HhT42.out])⟩
          case measure => simp [intOf] <;> omega
      · skip
        go_wp2_with fail
        refine wp_named ?_
        intro W5 hW5
        have hL5 : Below w2.heap.size w2 W5 := by
          rw [hW5]
          repeat (first | with_reducible exact Below.refl _ _ | with_reducible refine bel_alloc ?_ _ | refine Below.setCell ?_ (by first | (simp; done) | (simp; omega) | omega) _)
        have c53 := c28.up hL5
        have c54 := c29.up hL5
        have c55 := c30.up hL5
        have hB56 : Below w.heap.size w W5 := by
          rw [hW5]
          repeat (first | with_reducible exact hB31 | with_reducible refine bel_alloc ?_ _ | refine Below.setCell ?_ (by first | (simp; done) | (simp; omega) | omega) _)
        clear hW5 hL5 uc28 uc29 uc30 c28 c29 c30
        have dc53 := fun p : Bel W5 => c53.bel p; have dc54 := fun p : Bel W5 => c54.bel p; have dc55 := fun p : Bel W5 => c55.bel p
        simp only [At, Own, Nat.reduceAdd, and_true] at dc53 dc54 dc55
        refine wp_region_all (by kernel_rfl) (by kernel_rfl) ?_
        repeat (go_big_quiet_step (fail))
        refine wpQuiet_nil ?_
        intro w5 hb5
        have c57 := c53.up hb5
        have c58 := c54.up hb5
        have c59 := c55.up hb5
        have hB60 : Below w.heap.size w w5 := bel_up hB56 hb5
        clear dc53 dc54 dc55 c53 c54 c55
        have uc57 := c57; have uc58 := c58; have uc59 := c59
        simp only [At, Own, Nat.reduceAdd, and_true] at uc57 uc58 uc59
        have ce61 := LX.at_ ((HX.out).up kpP hB60) Hhx16.out
        have ce61_ : g2 < w5.heap.size := World.block_lt_of_cell? _ _ ce61.1
        have uce61 := ce61
        simp only [CE, Nat.reduceMul] at uce61
        go_wp2
        go_roundw
        case rel => exact ⟨(k + 1), x15, (by first | rfl | exact congrArg (Value.int .i64) (by omega) | simp [*]), (by repeat (first | with_reducible exact c57 | refine Own.far _ _ (by simp <;> omega) ?_ | with_reducible refine Own.alloc ?_ _)), (by repeat (first | with_reducible exact c58 | refine Own.far _ _ (by simp <;> omega) ?_ | with_reducible refine Own.alloc ?_ _)), (by simp [Own, go_sem, uc57, uc58, uc59, uce61]), (by repeat (first | with_reducible exact hB60 | with_reducible refine bel_alloc ?_ _ | refine Below.setCell ?_ (by first | (simp; done) | (simp; omega) | omega) _)), (by omega), Zhx16.out, Lib.hid (by rw [HE.out, HD.out, supp_cons]; congr 1; simp [Pl.suppStep, HhT21.out])⟩
        case measure => simp [intOf] <;> omega
    · skip
      have hkN : N = k := by omega
      subst hkN
      have HD : Hid (l.drop N = []) := Lib.hid (List.drop_eq_nil_of_le (by rw [HN.out]; exact Nat.le_refl _))
      have ub10 := b10; have ub11 := b11; have ub12 := b12
      simp only [At, Own, Nat.reduceAdd, and_true] at ub10 ub11 ub12
      go_wp2
      refine bodyPost_ret (v := .agg #[.bool (ng out.1.num), .string (mg out.1.num.natAbs), .bool false, .string (mg (dn out.1)), .bool (ng out.2.num), .string (mg out.2.num.natAbs), .bool false, .string (mg (dn out.2))]) (by simp [results, Tryz.results33, go_sem, ub10, ub11, ub12]) rfl ⟨(by rw [HE.out, HD.out] <;> rfl), ?_⟩
      repeat (first | with_reducible exact hB13 | with_reducible refine bel_alloc ?_ _ | refine Below.setCell ?_ (by first | (simp; done) | (simp; omega) | omega) _)
end Go.Proofs.YtdkkjfnpinckjaaGreatDoor
