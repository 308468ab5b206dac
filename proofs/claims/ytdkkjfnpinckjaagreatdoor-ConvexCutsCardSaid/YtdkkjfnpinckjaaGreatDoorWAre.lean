/-
 Contracts of the reference for convex sets: twice the area.
-/
import Derived.Test.YtdkkjfnpinckjaaGreatDoorWMo
import Derived.Test.YtdkkjfnpinckjaaGreatDoorWCutA
import Derived.Test.YtdkkjfnpinckjaaGreatDoorWCed
import Derived.Deep.RegionHeld3
import Derived.Deep.DeepCutAuto
set_option maxRecDepth 100000
set_option linter.unusedSimpArgs false
set_option linter.unusedVariables false
namespace Go.Proofs.YtdkkjfnpinckjaaGreatDoor
open Go Go.RowKit

theorem harea_any {S : Nat} (v : Value) (l : List (Rat × Rat)) (w : World) (h : PV w v l) (hs : ∀ q ∈ l, Pl.SzP S q) (hn : l.length ≤ 1000) (hS : S ≤ 1000) :
 Calls Tryz.prog 36 #[v] w fun e w' => e = .returned (qv (Pl.area2 l)) ∧ Below w.heap.size w w' := by
 have HA : Hid (Pl.area2 l = Pl.areaF l l.length) := Lib.hid rfl
 obtain ⟨A, c, rfl, hc, hm, hx⟩ := h.open_
 have HV := Lib.hid h
 have HX := Lib.hid hx
 have HS := Lib.hid hs
 have HF : Hid (l.take l.length = l) := Lib.hid List.take_length
 generalize hN : l.length = N at *
 have HN := Lib.hid hN
 clear h hx hs hN
 go_enter Tryz.func36, Tryz.ntmps36
 go_wp2_with fail
 refine wp_named ?_
 intro W1 hW1
 have hL1 : Below w.heap.size w W1 := by
  rw [hW1]
  exact bB
 have c1 : Own W1 (w.heap.size) 0 [.bool false, .string ⟨#[]⟩, .bool false, .string ⟨#[]⟩] := by
  rw [hW1]
  first
  | (repeat (first | (with_reducible refine own_new (l := [.bool false, .string ⟨#[]⟩, .bool false, .string ⟨#[]⟩]) ?_; (simp; done)) | with_reducible refine Own.alloc ?_ _ | refine Own.far _ _ (by first | (simp; done) | (simp [*]; done) | (simp; omega)) ?_)); done
  | simp [Own, go_sem]
 have c2 : Own W1 (w.heap.size + 1) 0 [.bool false, .string ⟨#[]⟩, .bool false, .string ⟨#[]⟩] := by
  rw [hW1]
  first
  | (repeat (first | (with_reducible refine own_new (l := [.bool false, .string ⟨#[]⟩, .bool false, .string ⟨#[]⟩]) ?_; (simp; done)) | with_reducible refine Own.alloc ?_ _ | refine Own.far _ _ (by first | (simp; done) | (simp [*]; done) | (simp; omega)) ?_)); done
  | simp [Own, go_sem]
 have hB3 : Below w.heap.size w W1 := by
  rw [hW1]
  exact bB
 clear hW1 hL1
 go_loopw [4] (fun s4 wr => ∃ (k : Nat) (out : Rat), s4 = .int .i64 k ∧ Own wr (w.heap.size) 0 [.bool false, .string ⟨#[]⟩, .bool false, .string ⟨#[]⟩] ∧ Own wr (w.heap.size + 1) 0 [.bool (ng out.num), .string (mg out.num.natAbs), .bool false, .string (mg (dn out))] ∧ Below w.heap.size w wr ∧ k ≤ N ∧ Hid (Pl.Sz (1 + 4010 * k) out) ∧ Hid (out = Pl.areaF l k)) (fun s4 _ => N - (intOf s4).toNat)
 case atStart => exact ⟨0, 0, rfl, c1, c2, hB3, (by omega), Lib.hid (Pl.sz_zero.mono (by omega)), Lib.hid rfl⟩
 case round =>
  clear c1 c2 hB3
  obtain ⟨k, out, rfl, b4, b5, hB6, hk, HOUT, HE⟩ := hrel
  obtain ⟨wr7, hwr7⟩ : ∃ W_, W_ = wr := ⟨_, rfl⟩
  subst hwr7
  by_cases hltk : k < N
  ·skip
   have i1k : (k : Int) < N := by omega
   have j0 : ¬ (N : Int) = 0 := by omega
   have j1 : ((N : Int) == 0) = false := by simpa using j0
   obtain ⟨x8, hx9⟩ : ∃ x, l[k]? = some x := ⟨_, List.getElem?_eq_getElem (by rw [HN.out]; omega)⟩
   have Hhx9 := Lib.hid hx9
   have Zhx9 := Lib.hid (HS.out _ (List.mem_of_getElem? hx9))
   clear hx9
   obtain ⟨m, hm1⟩ : ∃ m, m = (k + 1) % N := ⟨_, rfl⟩
   have hm2 : m < N := hm1 ▸ Nat.mod_lt _ (by omega)
   have i2 : (m : Int) < N := by omega
   obtain ⟨r1, r2, r3, r4, r5, r6⟩ := remS k N m hm1 (by omega) (by omega)
   have HM := Lib.hid hm1
   clear hm1
   obtain ⟨x10, hx11⟩ : ∃ x, l[m]? = some x := ⟨_, List.getElem?_eq_getElem (by rw [HN.out]; omega)⟩
   have Hhx11 := Lib.hid hx11
   have Zhx11 := Lib.hid (HS.out _ (List.mem_of_getElem? hx11))
   clear hx11
   have HT : Hid (Pl.areaF l (k + 1) = Pl.areaF l k + Pl.crossP x8 x10) := Lib.hid (by rw [Pl.areaF, Pl.edge, Pl.getD_of Hhx9.out, HN.out, ← HM.out, Pl.getD_of Hhx11.out])
   clear r2 r4 r5 r6 hm2 j0
   have K12 := Lib.hid (fun W => hcross_any x8 x10 W Zhx9.out Zhx11.out (by omega) (by omega))
   have K13 := Lib.hid (fun W => radd_any out (Pl.crossP x8 x10) W (HOUT.out.mono (by omega)) ((Zhx9.out.cross Zhx11.out).mono (by omega)))
   go_wp2_with fail
   refine wp_named ?_
   intro W2 hW2
   have hL2 : Below wr7.heap.size wr7 W2 := by
    rw [hW2]
    exact bB
   have c14 := b4.up hL2
   have c15 := b5.up hL2
   have hB16 : Below w.heap.size w W2 := by
    rw [hW2]
    exact bB
   clear hW2 hL2 b4 b5
   have dc14 := fun p : Bel W2 => c14.bel p; have dc15 := fun p : Bel W2 => c15.bel p
   simp only [At, Own, Nat.reduceAdd, and_true] at dc14 dc15
   obtain ⟨g18, o19, ha20, -⟩ := (HX.out).up kpP hB16 _ _ Hhx9.out
   subst ha20
   have ce17 := LX.at_ ((HX.out).up kpP hB16) Hhx9.out
   have ce17_ : g18 < W2.heap.size := World.block_lt_of_cell? _ _ ce17.1
   have dce17 := fun b : Bel W2 => ce17.bel b
   simp only [CE, Nat.reduceMul] at dce17
   have ce21 := LX.at_ ((HX.out).up kpP hB16) Hhx11.out
   have ce21_ : g18 < W2.heap.size := World.block_lt_of_cell? _ _ ce21.1
   have dce21 := fun b : Bel W2 => ce21.bel b
   simp only [CE, Nat.reduceMul] at dce21
   refine wp_region_tail 15 (by kernel_rfl) (by kernel_rfl) ?_
   simp only [List.take_succ_cons, List.take_zero, List.drop_succ_cons, List.drop_zero]
   repeat (go_big_quiet_step (first | (go_at_call 81; with_reducible exact Calls.bel (K12.out _)) | (go_at_call 29; with_reducible exact Calls.bel (K13.out _))))
   refine wpQuiet_nil ?_
   intro w2 hb2
   have c22 := c14.up hb2
   have c23 := c15.up hb2
   have hB24 : Below w.heap.size w w2 := bel_up hB16 hb2
   clear dc14 dc15 dce17 dce21 c14 c15
   have uc22 := c22; have uc23 := c23
   simp only [At, Own, Nat.reduceAdd, and_true] at uc22 uc23
   go_wp2
   go_roundw
   case rel => exact ⟨(k + 1), (out + (Pl.crossP x8 x10)), (by first | rfl | exact congrArg (Value.int .i64) (by omega) | simp [*]), (by repeat (first | with_reducible exact c22 | refine Own.far _ _ (by simp <;> omega) ?_ | with_reducible refine Own.alloc ?_ _)), (by simp [Own, go_sem, uc22, uc23]), (by exact bB), (by omega), Lib.hid ((HOUT.out.add (Zhx9.out.cross Zhx11.out)).mono (by omega)), Lib.hid (by rw [HT.out, HE.out])⟩
   case measure => simp [intOf] <;> omega
  ·skip
   have hkN : N = k := by omega
   subst hkN
   have ub4 := b4; have ub5 := b5
   simp only [At, Own, Nat.reduceAdd, and_true] at ub4 ub5
   go_wp2
   refine bodyPost_ret (v := .agg #[.bool (ng out.num), .string (mg out.num.natAbs), .bool false, .string (mg (dn out))]) (by simp [results, Tryz.results36, go_sem, ub4, ub5]) rfl ⟨(by rw [HA.out, ← HE.out] <;> rfl), ?_⟩
   exact bB
end Go.Proofs.YtdkkjfnpinckjaaGreatDoor
