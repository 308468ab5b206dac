/-
 Contracts for disks: the size, points turned by right angles.
-/
import Derived.Test.YtdkkjfnpinckjaaGreatDoorYMr
import Derived.Test.YtdkkjfnpinckjaaGreatDoorYDsl
set_option maxRecDepth 100000
set_option linter.unusedSimpArgs false
set_option linter.unusedVariables false
namespace Go.Proofs.YtdkkjfnpinckjaaGreatDoor
open Go Go.RowKit

theorem wi64 (x : Int) (h1 : -9223372036854775808 ≤ x) (h2 : x ≤ 9223372036854775807) : IntKind.i64.wrap x = x ∧ wrap64 x = x := by
 constructor
 ·simp [IntKind.wrap, IntKind.bits, IntKind.signed]; omega
 ·unfold wrap64; omega
theorem rad_sz {a b : Int} (h1 : -32768 ≤ a) (h2 : a ≤ 32767) (h3 : 0 ≤ b) (h4 : b ≤ 255) : Pl.Sz 2 (Rat.divInt a (b + 1)) := by
 obtain ⟨k, hk⟩ : ∃ k : Nat, b + 1 = ((k + 1 : Nat) : Int) := ⟨b.toNat, by omega⟩
 rw [hk, Rat.divInt_ofNat]
 exact Pl.sz_mkRat (by omega) ((Pl.L_le_iff _ _).2 (by omega)) ((Pl.L_le_iff _ _).2 (by omega))
theorem wrong_any (a b l : Int) (w : World) :
 Calls Tryz.prog 39 #[.agg #[.int .i16 a, .int .u8 b, .int .i64 l]] w fun e w' => e = .returned (.bool (decide (a ≤ 0 ∨ l < 1 ∨ 16 < l))) ∧ Below w.heap.size w w' := by
 by_cases h1 : a ≤ 0 <;> by_cases h2 : l < 1 <;> by_cases h3 : 16 < l
 all_goals try (exfalso; omega)
 all_goals
  go_enter Tryz.func39, Tryz.ntmps39
  go_wp2
  go_ret
  refine ⟨by simp [*], ?_⟩
  exact bB

theorem radius_any (a b l : Int) (w : World) (h1 : -32768 ≤ a) (h2 : a ≤ 32767) (h3 : 0 ≤ b) (h4 : b ≤ 255) :
 Calls Tryz.prog 38 #[.agg #[.int .i16 a, .int .u8 b, .int .i64 l]] w fun e w' => e = .returned (qv (Rat.divInt a (b + 1))) ∧ Below w.heap.size w w' := by
 obtain ⟨r1, r2⟩ := wi64 a (by omega) (by omega)
 obtain ⟨r3, r4⟩ := wi64 b (by omega) (by omega)
 obtain ⟨r5, r6⟩ := wi64 (b + 1) (by omega) (by omega)
 go_enter Tryz.func38, Tryz.ntmps38
 have K1 := Lib.hid (fun W => rOf_any a (b + 1) W (by omega) (by omega) (by omega) (by omega) (by omega))
 go_wp2_with (fail)
 refine calls_named ?_
 intro W1 hW1
 have hL1 : Below w.heap.size w W1 := by
  rw [hW1]
  exact bB
 have c2 : Own W1 (w.heap.size) 0 [.int .i16 a, .int .u8 b, .int .i64 l] := by
  rw [hW1]
  first
  | (repeat (first | (with_reducible refine own_new (l := [.int .i16 a, .int .u8 b, .int .i64 l]) ?_; (simp; done)) | with_reducible refine Own.alloc ?_ _ | refine Own.far _ _ (by first | (simp; done) | (simp [*]; done) | (simp; omega)) ?_)); done
  | simp [Own, go_sem]
 have c3 : Own W1 (w.heap.size + 1) 0 [.bool false, .string ⟨#[]⟩, .bool false, .string ⟨#[]⟩] := by
  rw [hW1]
  first
  | (repeat (first | (with_reducible refine own_new (l := [.bool false, .string ⟨#[]⟩, .bool false, .string ⟨#[]⟩]) ?_; (simp; done)) | with_reducible refine Own.alloc ?_ _ | refine Own.far _ _ (by first | (simp; done) | (simp [*]; done) | (simp; omega)) ?_)); done
  | simp [Own, go_sem]
 have hB4 : Below w.heap.size w W1 := by
  rw [hW1]
  exact bB
 clear hW1 hL1
 with_reducible refine (K1.out _).mono ?_
 rintro e w1 ⟨rfl, hb1⟩
 have c5 := c2.up hb1
 have c6 := c3.up hb1
 have hB7 : Below w.heap.size w w1 := bel_up hB4 hb1
 clear c2 c3
 have uc5 := c5; have uc6 := c6
 simp only [At, Own, Nat.reduceAdd, and_true] at uc5 uc6
 go_wp2
 refine bodyPost_ret (v := .agg #[.bool (ng ((Rat.divInt a (b + 1)).num)), .string (mg ((Rat.divInt a (b + 1)).num).natAbs), .bool false, .string (mg (dn (Rat.divInt a (b + 1))))]) (by simp [results, Tryz.results38, go_sem, uc5, uc6]) rfl ⟨rfl, ?_⟩
 exact bB
theorem turned_any (p : Rat × Rat) (N : Nat) (w : World) (hN : N ≤ 1000) :
 Calls Tryz.prog 90 #[pv p, .int .i64 N] w fun e w' => e = .returned (pv (Pl.rotN N p)) ∧ Below w.heap.size w w' := by
 go_enter Tryz.func90, Tryz.ntmps90
 go_wp2_with fail
 refine wp_named ?_
 intro W1 hW1
 have hL1 : Below w.heap.size w W1 := by
  rw [hW1]
  exact bB
 have c1 : Own W1 (w.heap.size) 0 [.bool (ng p.1.num), .string (mg p.1.num.natAbs), .bool false, .string (mg (dn p.1)), .bool (ng p.2.num), .string (mg p.2.num.natAbs), .bool false, .string (mg (dn p.2))] := by
  rw [hW1]
  first
  | (repeat (first | (with_reducible refine own_new (l := [.bool (ng p.1.num), .string (mg p.1.num.natAbs), .bool false, .string (mg (dn p.1)), .bool (ng p.2.num), .string (mg p.2.num.natAbs), .bool false, .string (mg (dn p.2))]) ?_; (simp; done)) | with_reducible refine Own.alloc ?_ _ | refine Own.far _ _ (by first | (simp; done) | (simp [*]; done) | (simp; omega)) ?_)); done
  | simp [Own, go_sem]
 have c2 : Own W1 (w.heap.size + 1) 0 [.bool false, .string ⟨#[]⟩, .bool false, .string ⟨#[]⟩, .bool false, .string ⟨#[]⟩, .bool false, .string ⟨#[]⟩] := by
  rw [hW1]
  first
  | (repeat (first | (with_reducible refine own_new (l := [.bool false, .string ⟨#[]⟩, .bool false, .string ⟨#[]⟩, .bool false, .string ⟨#[]⟩, .bool false, .string ⟨#[]⟩]) ?_; (simp; done)) | with_reducible refine Own.alloc ?_ _ | refine Own.far _ _ (by first | (simp; done) | (simp [*]; done) | (simp; omega)) ?_)); done
  | simp [Own, go_sem]
 have hB3 : Below w.heap.size w W1 := by
  rw [hW1]
  exact bB
 clear hW1 hL1
 go_loopw [5] (fun s5 wr => ∃ (i : Nat) (q : Rat × Rat), s5 = .int .i64 i ∧ Own wr (w.heap.size) 0 [.bool (ng q.1.num), .string (mg q.1.num.natAbs), .bool false, .string (mg (dn q.1)), .bool (ng q.2.num), .string (mg q.2.num.natAbs), .bool false, .string (mg (dn q.2))] ∧ Own wr (w.heap.size + 1) 0 [.bool false, .string ⟨#[]⟩, .bool false, .string ⟨#[]⟩, .bool false, .string ⟨#[]⟩, .bool false, .string ⟨#[]⟩] ∧ Below w.heap.size w wr ∧ i ≤ N ∧ Hid (q = Pl.rotN i p)) (fun s5 _ => N - (intOf s5).toNat)
 case atStart => exact ⟨0, p, rfl, c1, c2, hB3, (by omega), Lib.hid rfl⟩
 case round =>
  clear c1 c2 hB3
  obtain ⟨i, q, rfl, b4, b5, hB6, hi, HE⟩ := hrel
  obtain ⟨wr7, hwr7⟩ : ∃ W_, W_ = wr := ⟨_, rfl⟩
  subst hwr7
  by_cases hlti : i < N
  ·skip
   have i1i : (i : Int) < N := by omega
   have kK8 := fun W => rneg_any q.2 W
   generalize hT10 : -q.2 = nd9 at kK8
   have K8 := Lib.hid kK8
   clear kK8
   have HhT10 := Lib.hid hT10
   clear hT10
   go_wp2_with fail
   refine wp_named ?_
   intro W2 hW2
   have hL2 : Below wr7.heap.size wr7 W2 := by
    rw [hW2]
    exact bB
   have c11 := b4.up hL2
   have c12 := b5.up hL2
   have hB13 : Below w.heap.size w W2 := by
    rw [hW2]
    exact bB
   clear hW2 hL2 b4 b5
   have dc11 := fun p : Bel W2 => c11.bel p; have dc12 := fun p : Bel W2 => c12.bel p
   simp only [At, Own, Nat.reduceAdd, and_true] at dc11 dc12
   refine wp_region_tail 6 (by kernel_rfl) (by kernel_rfl) ?_
   simp only [List.take_succ_cons, List.take_zero, List.drop_succ_cons, List.drop_zero]
   repeat (go_big_quiet_step (first | (go_at_call 97; with_reducible exact Calls.bel (K8.out _))))
   refine wpQuiet_nil ?_
   intro w2 hb2
   have c14 := c11.up hb2
   have c15 := c12.up hb2
   have hB16 : Below w.heap.size w w2 := bel_up hB13 hb2
   clear dc11 dc12 c11 c12
   have uc14 := c14; have uc15 := c15
   simp only [At, Own, Nat.reduceAdd, and_true] at uc14 uc15
   go_wp2
   go_roundw
   case rel => exact ⟨(i + 1), (nd9, q.1), (by first | rfl | exact congrArg (Value.int .i64) (by omega) | simp [*]), (by simp [Own, go_sem, uc14, uc15]), (by repeat (first | with_reducible exact c15 | refine Own.far _ _ (by simp <;> omega) ?_ | with_reducible refine Own.alloc ?_ _)), (by exact bB), (by omega), Lib.hid (by show _ = Pl.rotP (Pl.rotN i p); rw [← HE.out, ← HhT10.out]; rfl)⟩
   case measure => simp [intOf] <;> omega
  ·skip
   have hkN : N = i := by omega
   subst hkN
   have ub4 := b4; have ub5 := b5
   simp only [At, Own, Nat.reduceAdd, and_true] at ub4 ub5
   go_wp2
   refine bodyPost_ret (v := .agg #[.bool (ng q.1.num), .string (mg q.1.num.natAbs), .bool false, .string (mg (dn q.1)), .bool (ng q.2.num), .string (mg q.2.num.natAbs), .bool false, .string (mg (dn q.2))]) (by simp [results, Tryz.results90, go_sem, ub4, ub5]) rfl ⟨(by rw [← HE.out]), ?_⟩
   exact bB
end Go.Proofs.YtdkkjfnpinckjaaGreatDoor
