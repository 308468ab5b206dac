/-
  Contracts of package rational: comparisons; equal structs.
  Contracts of package plane.
  Contracts for the checks of integers.
-/
import Derived.Test.YtldfencaoaikgaaGreatDoorUQ2
import Derived.Test.YtldfencaoaikgaaGreatDoorUMp
set_option linter.unusedSimpArgs false
set_option linter.unusedVariables false
namespace Go.Proofs.YtldfencaoaikgaaGreatDoor
open Go Go.RowKit

theorem eqI_at (d : Nat) (s t : Bool) (m n : Nat) (w : World) : (Op.equalIn (d + 2) 38 (.agg #[.bool s, .string (mg m)]) (.agg #[.bool t, .string (mg n)])).run Tryz.prog w = .ok (s == t && decide (m = n)) w := by
  have ub := Tryz.underlying4
  have us := Tryz.underlying9
  have ab := Tryz.isAgg4
  have zb := Tryz.sizeOf4
  have ag := Tryz.isAgg9
  have zs := Tryz.sizeOf9
  have hS : Tryz.prog.underlying 38 = some (.struct (Tryz.prog.fieldsOf 38)) := by kernel_rfl
  have hp : Tryz.prog.stoodInHeld 38 = false := by kernel_rfl
  rw [show d + 2 = (d + 1) + 1 from rfl, run_equalIn_agg w (d + 1) 38 _ _ hS hp]
  simp only [Program.fieldsOf, Tryz.underlying38]
  go_simp
  have hm := mg_beq m n
  by_cases h1 : s = t <;> by_cases h2 : m = n <;> simp_all
theorem ng_inj {a b : Int} (h : ng a = ng b) (h2 : a.natAbs = b.natAbs) : a = b := by
  unfold ng at h; rw [decide_eq_decide] at h; omega
theorem q_eq {a b : Rat} : ((ng a.num == ng b.num) && decide (a.num.natAbs = b.num.natAbs) && decide (dn a = dn b)) = decide (a = b) := by
  rw [Bool.eq_iff_iff]
  simp only [Bool.and_eq_true, beq_iff_eq, decide_eq_true_eq, dn_eq]
  constructor
  · rintro ⟨⟨h1, h2⟩, h3⟩; exact Rat.ext (ng_inj h1 h2) h3
  · rintro rfl; exact ⟨⟨rfl, rfl⟩, rfl⟩
theorem eqQ_at (d : Nat) (a b : Rat) (w : World) : (Op.equalIn (d + 3) 40 (qv a) (qv b)).run Tryz.prog w = .ok (decide (a = b)) w := by
  have ab := Tryz.isAgg38
  have zb := Tryz.sizeOf38
  have hS : Tryz.prog.underlying 40 = some (.struct (Tryz.prog.fieldsOf 40)) := by kernel_rfl
  have hp : Tryz.prog.stoodInHeld 40 = false := by kernel_rfl
  have E := eqI_at d
  rw [show d + 3 = (d + 2) + 1 from rfl, run_equalIn_agg w (d + 2) 40 _ _ hS hp]
  simp only [Program.fieldsOf, Tryz.underlying40]
  rw [← q_eq]
  go_simp
  by_cases h1 : ng a.num = ng b.num <;> by_cases h2 : a.num.natAbs = b.num.natAbs <;> by_cases h3 : dn a = dn b <;> simp_all
theorem eqQ_in (a b : Rat) (w : World) : (Op.equalIn 10000 40 (.agg #[.bool (ng a.num), .string (mg a.num.natAbs), .bool false, .string (mg (dn a))]) (.agg #[.bool (ng b.num), .string (mg b.num.natAbs), .bool false, .string (mg (dn b))])).run Tryz.prog w = .ok (decide (a = b)) w := eqQ_at 9997 a b w
/-- A point as it is laid: two fractions. -/
abbrev pv (p : Rat × Rat) : Value := .agg #[.bool (ng p.1.num), .string (mg p.1.num.natAbs), .bool false, .string (mg (dn p.1)), .bool (ng p.2.num), .string (mg p.2.num.natAbs), .bool false, .string (mg (dn p.2))]
/-- A segment as it is laid: two points. -/
abbrev sv (s : (Rat × Rat) × (Rat × Rat)) : Value := .agg #[.bool (ng s.1.1.num), .string (mg s.1.1.num.natAbs), .bool false, .string (mg (dn s.1.1)), .bool (ng s.1.2.num), .string (mg s.1.2.num.natAbs), .bool false, .string (mg (dn s.1.2)),
  .bool (ng s.2.1.num), .string (mg s.2.1.num.natAbs), .bool false, .string (mg (dn s.2.1)), .bool (ng s.2.2.num), .string (mg s.2.2.num.natAbs), .bool false, .string (mg (dn s.2.2))]
set_option maxRecDepth 100000 in
theorem qcmp_eq (a : Rat) (b : Rat) (w : World) (h : a = b) :
    Calls Tryz.prog 61 #[qv a, qv b] w fun e w' => e = .returned (.int .i64 0) ∧ Below w.heap.size w w' := by
  have EQ := fun W => eqQ_in a b W
  rw [decide_eq_true h] at EQ
  clear h
  go_enter Tryz.func61, Tryz.ntmps61
  go_wp2
  go_ret
  refine ⟨rfl, ?_⟩
  repeat (first | with_reducible exact Below.refl _ _ | with_reducible refine bel_alloc ?_ _ | refine Below.setCell ?_ (by first | (simp; done) | (simp; omega) | omega) _)

set_option maxRecDepth 100000 in
theorem qcmp_ne (a : Rat) (b : Rat) (w : World) (h : ¬ a = b) (ha : Pl.Sz 16777216 a) (hb : Pl.Sz 16777216 b) :
    Calls Tryz.prog 61 #[qv a, qv b] w fun e w' => e = .returned (.int .i64 (Pl.cmpQ a b)) ∧ Below w.heap.size w w' := by
  have EQ := fun W => eqQ_in a b W
  rw [decide_eq_false h] at EQ
  have kx := fun W => cross_any a b W ha hb
  have kc := fun W => icmp_any (crX a b) (crY a b) W
  simp only [cr_cmp] at kc
  generalize crX a b = X at kx kc
  generalize crY a b = Y at kx kc
  generalize crD a b = D at kx kc
  have KX := Lib.hid kx
  have KC := Lib.hid kc
  clear kx kc
  have K1 := Lib.hid (fun W => KX.out W)
  have K2 := Lib.hid (fun W => KC.out W)
  clear h ha hb
  go_enter Tryz.func61, Tryz.ntmps61
  go_wp2_with fail
  refine calls_named ?_
  intro W1 hW1
  have c1_0 : At W1 (w.heap.size) 0 [.bool (ng a.num), .string (mg a.num.natAbs), .bool false, .string (mg (dn a))] := by rw [hW1]; simp [At, go_sem]
  have c1_1 : At W1 (w.heap.size + 1) 0 [.bool (ng b.num), .string (mg b.num.natAbs), .bool false, .string (mg (dn b))] := by rw [hW1]; simp [At, go_sem]
  have hB1 : Below w.heap.size w W1 := by
    rw [hW1]
    repeat (first | with_reducible exact Below.refl _ _ | with_reducible refine bel_alloc ?_ _ | refine Below.setCell ?_ (by first | (simp; done) | (simp; omega) | omega) _)
  clear hW1
  have uc1_0 := c1_0; have uc1_1 := c1_1
  simp only [At, Own, Nat.reduceAdd, and_true] at uc1_0 uc1_1
  with_reducible refine (K1.out _).mono ?_
  rintro e w1 ⟨rfl, hb1⟩
  have c1_0x := c1_0.up hb1; have c1_1x := c1_1.up hb1
  have hDw1 : Below w.heap.size w w1 := bel_up hB1 hb1
  clear uc1_0 uc1_1 c1_0 c1_1
  have uc1_0x := c1_0x; have uc1_1x := c1_1x
  simp only [At, Own, Nat.reduceAdd, and_true] at uc1_0x uc1_1x
  -- NE
  have nc1_0x_0_ : w.heap.size < w1.heap.size := by have := c1_0x.lt; omega
  have nc1_0x_0 := Nat.ne_of_lt nc1_0x_0_
  have nc1_0x_0' := nc1_0x_0.symm
  have nc1_1x_0_ : w.heap.size + 1 < w1.heap.size := by have := c1_1x.lt; omega
  have nc1_1x_0 := Nat.ne_of_lt nc1_1x_0_
  have nc1_1x_0' := nc1_1x_0.symm
  have nc1_0x_1_ : w.heap.size < w1.heap.size + 1 := by have := c1_0x.lt; omega
  have nc1_0x_1 := Nat.ne_of_lt nc1_0x_1_
  have nc1_0x_1' := nc1_0x_1.symm
  have nc1_1x_1_ : w.heap.size + 1 < w1.heap.size + 1 := by have := c1_1x.lt; omega
  have nc1_1x_1 := Nat.ne_of_lt nc1_1x_1_
  have nc1_1x_1' := nc1_1x_1.symm
  have nc1_0x_2_ : w.heap.size < w1.heap.size + 2 := by have := c1_0x.lt; omega
  have nc1_0x_2 := Nat.ne_of_lt nc1_0x_2_
  have nc1_0x_2' := nc1_0x_2.symm
  have nc1_1x_2_ : w.heap.size + 1 < w1.heap.size + 2 := by have := c1_1x.lt; omega
  have nc1_1x_2 := Nat.ne_of_lt nc1_1x_2_
  have nc1_1x_2' := nc1_1x_2.symm
  go_wp2_with fail
  refine calls_named ?_
  intro W2 hW2
  have hL2 : Below w1.heap.size w1 W2 := by
    rw [hW2]
    repeat (first | with_reducible exact Below.refl _ _ | with_reducible refine bel_alloc ?_ _ | refine Below.setCell ?_ (by first | (simp; done) | (simp; omega) | omega) _)
  have c2_0 := c1_0x.up hL2
  have c2_1 := c1_1x.up hL2
  have c2_2 : Own W2 (w1.heap.size) 0 [.bool (ng X), .string (mg X.natAbs)] := by rw [hW2]; simp [Own, go_sem, uc1_0x, uc1_1x, nc1_0x_0, nc1_0x_0', nc1_0x_0_, nc1_1x_0, nc1_1x_0', nc1_1x_0_, nc1_0x_1, nc1_0x_1', nc1_0x_1_, nc1_1x_1, nc1_1x_1', nc1_1x_1_, nc1_0x_2, nc1_0x_2', nc1_0x_2_, nc1_1x_2, nc1_1x_2', nc1_1x_2_]
  have c2_3 : Own W2 (w1.heap.size + 1) 0 [.bool (ng Y), .string (mg Y.natAbs)] := by rw [hW2]; simp [Own, go_sem, uc1_0x, uc1_1x, nc1_0x_0, nc1_0x_0', nc1_0x_0_, nc1_1x_0, nc1_1x_0', nc1_1x_0_, nc1_0x_1, nc1_0x_1', nc1_0x_1_, nc1_1x_1, nc1_1x_1', nc1_1x_1_, nc1_0x_2, nc1_0x_2', nc1_0x_2_, nc1_1x_2, nc1_1x_2', nc1_1x_2_]
  have c2_4 : Own W2 (w1.heap.size + 2) 0 [.bool false, .string (mg D)] := by rw [hW2]; simp [Own, go_sem, uc1_0x, uc1_1x, nc1_0x_0, nc1_0x_0', nc1_0x_0_, nc1_1x_0, nc1_1x_0', nc1_1x_0_, nc1_0x_1, nc1_0x_1', nc1_0x_1_, nc1_1x_1, nc1_1x_1', nc1_1x_1_, nc1_0x_2, nc1_0x_2', nc1_0x_2_, nc1_1x_2, nc1_1x_2', nc1_1x_2_]
  have hB2 : Below w.heap.size w W2 := by
    rw [hW2]
    repeat (first | with_reducible exact hDw1 | with_reducible refine bel_alloc ?_ _ | refine Below.setCell ?_ (by first | (simp; done) | (simp; omega) | omega) _)
  clear hW2 hL2 uc1_0x uc1_1x c1_0x c1_1x
  have uc2_0 := c2_0; have uc2_1 := c2_1; have uc2_2 := c2_2; have uc2_3 := c2_3; have uc2_4 := c2_4
  simp only [At, Own, Nat.reduceAdd, and_true] at uc2_0 uc2_1 uc2_2 uc2_3 uc2_4
  with_reducible refine (K2.out _).mono ?_
  rintro e w2 ⟨rfl, hb2⟩
  have c2_0x := c2_0.up hb2; have c2_1x := c2_1.up hb2; have c2_2x := c2_2.up hb2; have c2_3x := c2_3.up hb2; have c2_4x := c2_4.up hb2
  have hDw2 : Below w.heap.size w w2 := bel_up hB2 hb2
  clear uc2_0 uc2_1 uc2_2 uc2_3 uc2_4 c2_0 c2_1 c2_2 c2_3 c2_4
  have uc2_0x := c2_0x; have uc2_1x := c2_1x; have uc2_2x := c2_2x; have uc2_3x := c2_3x; have uc2_4x := c2_4x
  simp only [At, Own, Nat.reduceAdd, and_true] at uc2_0x uc2_1x uc2_2x uc2_3x uc2_4x
  -- NE
  go_wp2
  go_ret
  refine ⟨rfl, ?_⟩
  repeat (first | with_reducible exact hDw2 | with_reducible refine bel_alloc ?_ _ | refine Below.setCell ?_ (by first | (simp; done) | (simp; omega) | omega) _)

theorem qcmp_any (a b : Rat) (w : World) (ha : Pl.Sz 16777216 a) (hb : Pl.Sz 16777216 b) :
    Calls Tryz.prog 61 #[qv a, qv b] w fun e w' => e = .returned (.int .i64 (Pl.cmpQ a b)) ∧ Below w.heap.size w w' := by
  by_cases h : a = b
  · rw [(Pl.cmp_zero_iff a b).2 h]; exact qcmp_eq a b w h
  · exact qcmp_ne a b w h ha hb

end Go.Proofs.YtldfencaoaikgaaGreatDoor

namespace Go.Proofs.YtldfencaoaikgaaGreatDoor
open Go Go.RowKit

set_option maxRecDepth 100000 in
theorem padd_any {j k : Nat} (p : Rat × Rat) (q : Rat × Rat) (w : World) (hp : Pl.SzP j p) (hq : Pl.SzP k q) (hj : j ≤ 1000000) (hk : k ≤ 1000000) :
    Calls Tryz.prog 85 #[pv p, pv q] w fun e w' => e = .returned (pv (Pl.addP p q)) ∧ Below w.heap.size w w' := by
  have K1 := Lib.hid (fun W => qadd_any p.1 q.1 W (hp.1.mono (by omega)) (hq.1.mono (by omega)))
  have K2 := Lib.hid (fun W => qadd_any p.2 q.2 W (hp.2.mono (by omega)) (hq.2.mono (by omega)))
  clear hp hq hj hk
  go_enter Tryz.func85, Tryz.ntmps85
  go_wp2_with fail
  refine wp_named ?_
  intro W1 hW1
  have c1_0 : At W1 (w.heap.size) 0 [.bool (ng p.1.num), .string (mg p.1.num.natAbs), .bool false, .string (mg (dn p.1)), .bool (ng p.2.num), .string (mg p.2.num.natAbs), .bool false, .string (mg (dn p.2))] := by rw [hW1]; simp [At, go_sem]
  have c1_1 : At W1 (w.heap.size + 1) 0 [.bool (ng q.1.num), .string (mg q.1.num.natAbs), .bool false, .string (mg (dn q.1)), .bool (ng q.2.num), .string (mg q.2.num.natAbs), .bool false, .string (mg (dn q.2))] := by rw [hW1]; simp [At, go_sem]
  have c1_2 : Own W1 (w.heap.size + 2) 0 [.bool false, .string ⟨#[]⟩, .bool false, .string ⟨#[]⟩, .bool false, .string ⟨#[]⟩, .bool false, .string ⟨#[]⟩] := by rw [hW1]; simp [Own, go_sem]
  have hB1 : Below w.heap.size w W1 := by
    rw [hW1]
    repeat (first | with_reducible exact Below.refl _ _ | with_reducible refine bel_alloc ?_ _ | refine Below.setCell ?_ (by first | (simp; done) | (simp; omega) | omega) _)
  clear hW1
  have dc1_0 := fun p : Bel W1 => c1_0.bel p; have dc1_1 := fun p : Bel W1 => c1_1.bel p; have dc1_2 := fun p : Bel W1 => c1_2.bel p
  simp only [At, Own, Nat.reduceAdd, and_true] at dc1_0 dc1_1 dc1_2
  refine wp_region_tail 11 (by kernel_rfl) (by kernel_rfl) ?_
  simp only [List.take_succ_cons, List.take_zero, List.drop_succ_cons, List.drop_zero]
  repeat (go_big_quiet_step (first | (go_at_call 62; with_reducible exact Calls.bel (K1.out _)) | (go_at_call 62; with_reducible exact Calls.bel (K2.out _))))
  refine wpQuiet_nil ?_
  intro w1 hb1
  have c1_0x := c1_0.up hb1; have c1_1x := c1_1.up hb1; have c1_2x := c1_2.up hb1
  clear dc1_0 dc1_1 dc1_2 c1_0 c1_1 c1_2
  have hD1 : Below w.heap.size w w1 := bel_up hB1 hb1
  have uc1_0x := c1_0x; have uc1_1x := c1_1x; have uc1_2x := c1_2x
  simp only [At, Own, Nat.reduceAdd, and_true] at uc1_0x uc1_1x uc1_2x
  -- NE
  go_wp2
  refine bodyPost_ret (v := .agg #[.bool (ng ((p.1 + q.1).num)), .string (mg ((p.1 + q.1).num).natAbs), .bool false, .string (mg (dn (p.1 + q.1))), .bool (ng ((p.2 + q.2).num)), .string (mg ((p.2 + q.2).num).natAbs), .bool false, .string (mg (dn (p.2 + q.2)))]) (by simp [results, Tryz.results85, go_sem, uc1_2x]) rfl ⟨rfl, ?_⟩
  repeat (first | with_reducible exact hD1 | with_reducible refine bel_alloc ?_ _ | refine Below.setCell ?_ (by first | (simp; done) | (simp; omega) | omega) _)

set_option maxRecDepth 100000 in
theorem psub_any {j k : Nat} (p : Rat × Rat) (q : Rat × Rat) (w : World) (hp : Pl.SzP j p) (hq : Pl.SzP k q) (hj : j ≤ 1000000) (hk : k ≤ 1000000) :
    Calls Tryz.prog 87 #[pv p, pv q] w fun e w' => e = .returned (pv (Pl.subP p q)) ∧ Below w.heap.size w w' := by
  have K1 := Lib.hid (fun W => qsub_any p.1 q.1 W (hp.1.mono (by omega)) (hq.1.mono (by omega)))
  have K2 := Lib.hid (fun W => qsub_any p.2 q.2 W (hp.2.mono (by omega)) (hq.2.mono (by omega)))
  clear hp hq hj hk
  go_enter Tryz.func87, Tryz.ntmps87
  go_wp2_with fail
  refine wp_named ?_
  intro W1 hW1
  have c1_0 : At W1 (w.heap.size) 0 [.bool (ng p.1.num), .string (mg p.1.num.natAbs), .bool false, .string (mg (dn p.1)), .bool (ng p.2.num), .string (mg p.2.num.natAbs), .bool false, .string (mg (dn p.2))] := by rw [hW1]; simp [At, go_sem]
  have c1_1 : At W1 (w.heap.size + 1) 0 [.bool (ng q.1.num), .string (mg q.1.num.natAbs), .bool false, .string (mg (dn q.1)), .bool (ng q.2.num), .string (mg q.2.num.natAbs), .bool false, .string (mg (dn q.2))] := by rw [hW1]; simp [At, go_sem]
  have c1_2 : Own W1 (w.heap.size + 2) 0 [.bool false, .string ⟨#[]⟩, .bool false, .string ⟨#[]⟩, .bool false, .string ⟨#[]⟩, .bool false, .string ⟨#[]⟩] := by rw [hW1]; simp [Own, go_sem]
  have hB1 : Below w.heap.size w W1 := by
    rw [hW1]
    repeat (first | with_reducible exact Below.refl _ _ | with_reducible refine bel_alloc ?_ _ | refine Below.setCell ?_ (by first | (simp; done) | (simp; omega) | omega) _)
  clear hW1
  have dc1_0 := fun p : Bel W1 => c1_0.bel p; have dc1_1 := fun p : Bel W1 => c1_1.bel p; have dc1_2 := fun p : Bel W1 => c1_2.bel p
  simp only [At, Own, Nat.reduceAdd, and_true] at dc1_0 dc1_1 dc1_2
  refine wp_region_tail 11 (by kernel_rfl) (by kernel_rfl) ?_
  simp only [List.take_succ_cons, List.take_zero, List.drop_succ_cons, List.drop_zero]
  repeat (go_big_quiet_step (first | (go_at_call 75; with_reducible exact Calls.bel (K1.out _)) | (go_at_call 75; with_reducible exact Calls.bel (K2.out _))))
  refine wpQuiet_nil ?_
  intro w1 hb1
  have c1_0x := c1_0.up hb1; have c1_1x := c1_1.up hb1; have c1_2x := c1_2.up hb1
  clear dc1_0 dc1_1 dc1_2 c1_0 c1_1 c1_2
  have hD1 : Below w.heap.size w w1 := bel_up hB1 hb1
  have uc1_0x := c1_0x; have uc1_1x := c1_1x; have uc1_2x := c1_2x
  simp only [At, Own, Nat.reduceAdd, and_true] at uc1_0x uc1_1x uc1_2x
  -- NE
  go_wp2
  refine bodyPost_ret (v := .agg #[.bool (ng ((p.1 - q.1).num)), .string (mg ((p.1 - q.1).num).natAbs), .bool false, .string (mg (dn (p.1 - q.1))), .bool (ng ((p.2 - q.2).num)), .string (mg ((p.2 - q.2).num).natAbs), .bool false, .string (mg (dn (p.2 - q.2)))]) (by simp [results, Tryz.results87, go_sem, uc1_2x]) rfl ⟨rfl, ?_⟩
  repeat (first | with_reducible exact hD1 | with_reducible refine bel_alloc ?_ _ | refine Below.setCell ?_ (by first | (simp; done) | (simp; omega) | omega) _)

set_option maxRecDepth 100000 in
theorem pscale_any {j k : Nat} (p : Rat × Rat) (r : Rat) (w : World) (hp : Pl.SzP j p) (hr : Pl.Sz k r) (hj : j ≤ 1000000) (hk : k ≤ 1000000) :
    Calls Tryz.prog 86 #[pv p, qv r] w fun e w' => e = .returned (pv (Pl.scaleP p r)) ∧ Below w.heap.size w w' := by
  have K1 := Lib.hid (fun W => qmul_any p.1 r W (hp.1.mono (by omega)) (hr.mono (by omega)))
  have K2 := Lib.hid (fun W => qmul_any p.2 r W (hp.2.mono (by omega)) (hr.mono (by omega)))
  clear hp hr hj hk
  go_enter Tryz.func86, Tryz.ntmps86
  go_wp2_with fail
  refine wp_named ?_
  intro W1 hW1
  have c1_0 : At W1 (w.heap.size) 0 [.bool (ng p.1.num), .string (mg p.1.num.natAbs), .bool false, .string (mg (dn p.1)), .bool (ng p.2.num), .string (mg p.2.num.natAbs), .bool false, .string (mg (dn p.2))] := by rw [hW1]; simp [At, go_sem]
  have c1_1 : At W1 (w.heap.size + 1) 0 [.bool (ng r.num), .string (mg r.num.natAbs), .bool false, .string (mg (dn r))] := by rw [hW1]; simp [At, go_sem]
  have c1_2 : Own W1 (w.heap.size + 2) 0 [.bool false, .string ⟨#[]⟩, .bool false, .string ⟨#[]⟩, .bool false, .string ⟨#[]⟩, .bool false, .string ⟨#[]⟩] := by rw [hW1]; simp [Own, go_sem]
  have hB1 : Below w.heap.size w W1 := by
    rw [hW1]
    repeat (first | with_reducible exact Below.refl _ _ | with_reducible refine bel_alloc ?_ _ | refine Below.setCell ?_ (by first | (simp; done) | (simp; omega) | omega) _)
  clear hW1
  have dc1_0 := fun p : Bel W1 => c1_0.bel p; have dc1_1 := fun p : Bel W1 => c1_1.bel p; have dc1_2 := fun p : Bel W1 => c1_2.bel p
  simp only [At, Own, Nat.reduceAdd, and_true] at dc1_0 dc1_1 dc1_2
  refine wp_region_tail 9 (by kernel_rfl) (by kernel_rfl) ?_
  simp only [List.take_succ_cons, List.take_zero, List.drop_succ_cons, List.drop_zero]
  repeat (go_big_quiet_step (first | (go_at_call 63; with_reducible exact Calls.bel (K1.out _)) | (go_at_call 63; with_reducible exact Calls.bel (K2.out _))))
  refine wpQuiet_nil ?_
  intro w1 hb1
  have c1_0x := c1_0.up hb1; have c1_1x := c1_1.up hb1; have c1_2x := c1_2.up hb1
  clear dc1_0 dc1_1 dc1_2 c1_0 c1_1 c1_2
  have hD1 : Below w.heap.size w w1 := bel_up hB1 hb1
  have uc1_0x := c1_0x; have uc1_1x := c1_1x; have uc1_2x := c1_2x
  simp only [At, Own, Nat.reduceAdd, and_true] at uc1_0x uc1_1x uc1_2x
  -- NE
  go_wp2
  refine bodyPost_ret (v := .agg #[.bool (ng ((p.1 * r).num)), .string (mg ((p.1 * r).num).natAbs), .bool false, .string (mg (dn (p.1 * r))), .bool (ng ((p.2 * r).num)), .string (mg ((p.2 * r).num).natAbs), .bool false, .string (mg (dn (p.2 * r)))]) (by simp [results, Tryz.results86, go_sem, uc1_2x]) rfl ⟨rfl, ?_⟩
  repeat (first | with_reducible exact hD1 | with_reducible refine bel_alloc ?_ _ | refine Below.setCell ?_ (by first | (simp; done) | (simp; omega) | omega) _)

set_option maxRecDepth 100000 in
theorem pdiv_any {j k : Nat} (s : (Rat × Rat) × (Rat × Rat)) (r : Rat) (w : World) (hs : Pl.SzS j s) (hr : Pl.Sz k r) (hj : j ≤ 100000) (hk : k ≤ 100000) :
    Calls Tryz.prog 57 #[sv s, qv r] w fun e w' => e = .returned (pv (Pl.divide s r)) ∧ Below w.heap.size w w' := by
  have K1 := Lib.hid (fun W => psub_any s.2 s.1 W hs.2 hs.1 (by omega) (by omega))
  have K2 := Lib.hid (fun W => pscale_any (Pl.subP s.2 s.1) r W (hs.2.sub hs.1) hr (by omega) (by omega))
  have K3 := Lib.hid (fun W => padd_any s.1 (Pl.scaleP (Pl.subP s.2 s.1) r) W hs.1 ((hs.2.sub hs.1).scale hr) (by omega) (by omega))
  clear hs hr hj hk
  go_enter Tryz.func57, Tryz.ntmps57
  go_wp2_with fail
  refine wp_named ?_
  intro W1 hW1
  have c1_0 : At W1 (w.heap.size) 0 [.bool (ng s.1.1.num), .string (mg s.1.1.num.natAbs), .bool false, .string (mg (dn s.1.1)), .bool (ng s.1.2.num), .string (mg s.1.2.num.natAbs), .bool false, .string (mg (dn s.1.2)), .bool (ng s.2.1.num), .string (mg s.2.1.num.natAbs), .bool false, .string (mg (dn s.2.1)), .bool (ng s.2.2.num), .string (mg s.2.2.num.natAbs), .bool false, .string (mg (dn s.2.2))] := by rw [hW1]; simp [At, go_sem]
  have c1_1 : At W1 (w.heap.size + 1) 0 [.bool (ng r.num), .string (mg r.num.natAbs), .bool false, .string (mg (dn r))] := by rw [hW1]; simp [At, go_sem]
  have c1_2 : Own W1 (w.heap.size + 2) 0 [.bool false, .string ⟨#[]⟩, .bool false, .string ⟨#[]⟩, .bool false, .string ⟨#[]⟩, .bool false, .string ⟨#[]⟩] := by rw [hW1]; simp [Own, go_sem]
  have hB1 : Below w.heap.size w W1 := by
    rw [hW1]
    repeat (first | with_reducible exact Below.refl _ _ | with_reducible refine bel_alloc ?_ _ | refine Below.setCell ?_ (by first | (simp; done) | (simp; omega) | omega) _)
  clear hW1
  have dc1_0 := fun p : Bel W1 => c1_0.bel p; have dc1_1 := fun p : Bel W1 => c1_1.bel p; have dc1_2 := fun p : Bel W1 => c1_2.bel p
  simp only [At, Own, Nat.reduceAdd, and_true] at dc1_0 dc1_1 dc1_2
  refine wp_region_tail 10 (by kernel_rfl) (by kernel_rfl) ?_
  simp only [List.take_succ_cons, List.take_zero, List.drop_succ_cons, List.drop_zero]
  repeat (go_big_quiet_step (first | (go_at_call 87; with_reducible exact Calls.bel (K1.out _)) | (go_at_call 86; with_reducible exact Calls.bel (K2.out _)) | (go_at_call 85; with_reducible exact Calls.bel (K3.out _))))
  refine wpQuiet_nil ?_
  intro w1 hb1
  have c1_0x := c1_0.up hb1; have c1_1x := c1_1.up hb1; have c1_2x := c1_2.up hb1
  clear dc1_0 dc1_1 dc1_2 c1_0 c1_1 c1_2
  have hD1 : Below w.heap.size w w1 := bel_up hB1 hb1
  have uc1_0x := c1_0x; have uc1_1x := c1_1x; have uc1_2x := c1_2x
  simp only [At, Own, Nat.reduceAdd, and_true] at uc1_0x uc1_1x uc1_2x
  -- NE
  go_wp2
  refine bodyPost_ret (v := .agg #[.bool (ng (((Pl.addP s.1 (Pl.scaleP (Pl.subP s.2 s.1) r)).1).num)), .string (mg (((Pl.addP s.1 (Pl.scaleP (Pl.subP s.2 s.1) r)).1).num).natAbs), .bool false, .string (mg (dn ((Pl.addP s.1 (Pl.scaleP (Pl.subP s.2 s.1) r)).1))), .bool (ng (((Pl.addP s.1 (Pl.scaleP (Pl.subP s.2 s.1) r)).2).num)), .string (mg (((Pl.addP s.1 (Pl.scaleP (Pl.subP s.2 s.1) r)).2).num).natAbs), .bool false, .string (mg (dn ((Pl.addP s.1 (Pl.scaleP (Pl.subP s.2 s.1) r)).2)))]) (by simp [results, Tryz.results57, go_sem, uc1_2x]) rfl ⟨rfl, ?_⟩
  repeat (first | with_reducible exact hD1 | with_reducible refine bel_alloc ?_ _ | refine Below.setCell ?_ (by first | (simp; done) | (simp; omega) | omega) _)

end Go.Proofs.YtldfencaoaikgaaGreatDoor

namespace Go.Proofs.YtldfencaoaikgaaGreatDoor
open Go Go.RowKit

theorem mg_some {n : Nat} (h : n ≠ 0) : (mg n).toList.isEmpty = false := (mg_empty n).trans (decide_eq_false h)

set_option maxRecDepth 100000 in
theorem icheck_zero (w : World) :
    Calls Tryz.prog 88 #[.agg #[.bool false, .string ⟨#[]⟩]] w fun e w' => e = .returned (.int .i64 0) ∧ Below w.heap.size w w' := by
  go_enter Tryz.func88, Tryz.ntmps88
  go_wp2
  go_ret
  refine ⟨rfl, ?_⟩
  repeat (first | with_reducible exact Below.refl _ _ | with_reducible refine bel_alloc ?_ _)
theorem mg_head {n : Nat} (hn : n ≠ 0) (h : 0 < (mg n).size) : ((mg n)[0]'h).toNat ≠ 0 := by
  have hL : 1 ≤ Pl.L n := Pl.L_pos hn
  have g := mg_get n (Pl.L n - 1) (by omega) (by rw [mg_size]; omega)
  have e : ((mg n)[0]'h) = ((mg n)[Pl.L n - 1 - (Pl.L n - 1)]'(by rw [mg_size]; omega)) := by congr 1; omega
  rw [e, g]
  have h1 : n < 256 ^ Pl.L n := (Pl.L_le_iff _ _).1 (Nat.le_refl _)
  have h2 : ¬ n < 256 ^ (Pl.L n - 1) := fun c => by have := (Pl.L_le_iff _ _).2 c; omega
  have h3 : 256 ^ Pl.L n = 256 * 256 ^ (Pl.L n - 1) := by rw [← Nat.pow_succ']; congr 1; omega
  have hp : 0 < 256 ^ (Pl.L n - 1) := Nat.pow_pos (by decide)
  have h4 : 1 ≤ n / 256 ^ (Pl.L n - 1) := (Nat.le_div_iff_mul_le hp).2 (by omega)
  have h5 : n / 256 ^ (Pl.L n - 1) < 256 := (Nat.div_lt_iff_lt_mul hp).2 (by omega)
  omega
set_option maxRecDepth 100000 in
theorem icheck_some (s : Bool) (n : Nat) (hn : n ≠ 0) (w : World) :
    Calls Tryz.prog 88 #[.agg #[.bool s, .string (mg n)]] w fun e w' => e = .returned (.int .i64 0) ∧ Below w.heap.size w w' := by
  have h1 := mg_some hn
  have h2 := mg_size n
  have h3 : 1 ≤ Pl.L n := Pl.L_pos hn
  have h4 : ∀ h : 0 < (mg n).size, ((((mg n)[0]'h).toNat : Int) == 0) = false := fun h => by have := mg_head hn h; simp; omega
  generalize mg n = x at *
  go_enter Tryz.func88, Tryz.ntmps88
  go_wp2
  go_ret
  refine ⟨rfl, ?_⟩
  repeat (first | with_reducible exact Below.refl _ _ | with_reducible refine bel_alloc ?_ _)
theorem icheck_any (z : Int) (w : World) :
    Calls Tryz.prog 88 #[.agg #[.bool (ng z), .string (mg z.natAbs)]] w fun e w' => e = .returned (.int .i64 0) ∧ Below w.heap.size w w' := by
  by_cases h : z = 0
  · subst h; exact icheck_zero w
  · exact icheck_some _ _ (by omega) w
theorem icheckD_any (n : Nat) (w : World) :
    Calls Tryz.prog 88 #[.agg #[.bool false, .string (mg n)]] w fun e w' => e = .returned (.int .i64 0) ∧ Below w.heap.size w w' := by
  by_cases h : n = 0
  · subst h; exact icheck_zero w
  · exact icheck_some _ _ h w
-- by program
set_option maxRecDepth 100000 in
theorem qcheck_frac (z : Int) (d : Nat) (w : World) (hd : 2 ≤ d) (hg : Nat.gcd z.natAbs d = 1) (h1 : Pl.L z.natAbs ≤ 67108864) (h2 : Pl.L d ≤ 67108864) :
    Calls Tryz.prog 59 #[.agg #[.bool (ng z), .string (mg z.natAbs), .bool false, .string (mg d)]] w fun e w' => e = .returned (.int .i64 0) ∧ Below w.heap.size w w' := by
  have EQ0 := fun W => eqI_in false false d 0 W
  rw [decide_eq_false (by omega), mg_zero] at EQ0
  simp only [Bool.and_false] at EQ0
  have EQ1 := fun W => eqI_in false false 1 1 W
  simp only [beq_self_eq_true, decide_true, Bool.and_true] at EQ1
  have KCMP : Hid (∀ W, Calls Tryz.prog 89 #[nv d, nv 1] W fun e w' => e = .returned (.int .i64 1) ∧ Below W.heap.size W w') := Lib.hid (fun W => by
    have h := icmp_any d 1 W
    have e1 : iv (d : Int) = nv d := by simp [iv, nv, ng]
    have e2 : iv (1 : Int) = nv 1 := by simp [iv, nv, ng]
    have e3 : cmpZ (d : Int) 1 = 1 := by unfold cmpZ; rw [if_neg (by omega), if_pos (by omega)]
    rwa [e1, e2, e3] at h)
  have KGCD : Hid (∀ W, Calls Tryz.prog 91 #[.agg #[.bool (ng z), .string (mg z.natAbs)], nv d] W fun e w' => e = .returned (nv 1) ∧ Below W.heap.size W w') := Lib.hid (fun W => by
    have h := gcd_any (ng z) false z.natAbs d W h1 h2
    rwa [hg] at h)
  clear hd hg h1 h2
  go_enter Tryz.func59, Tryz.ntmps59
  have K1 := Lib.hid (fun W => icheck_any z W)
  go_wp2_with (fail)
  refine calls_named ?_
  intro W1 hW1
  have hL1 : Below w.heap.size w W1 := by
    rw [hW1]
    repeat (first | with_reducible exact Below.refl _ _ | with_reducible refine bel_alloc ?_ _ | refine Below.setCell ?_ (by first | (simp; done) | (simp; omega) | omega) _)
  have c2 : Own W1 (w.heap.size) 0 [.bool (ng z), .string (mg z.natAbs), .bool false, .string (mg d)] := by
    rw [hW1]
    first
    | (repeat (first | (with_reducible refine own_new (l := [.bool (ng z), .string (mg z.natAbs), .bool false, .string (mg d)]) ?_; (simp; done)) | with_reducible refine Own.alloc ?_ _ | refine Own.far _ _ (by first | (simp; done) | (simp [*]; done) | (simp; omega)) ?_)); done
    | simp [Own, go_sem]
  have hB3 : Below w.heap.size w W1 := by
    rw [hW1]
    repeat (first | with_reducible exact Below.refl _ _ | with_reducible refine bel_alloc ?_ _ | refine Below.setCell ?_ (by first | (simp; done) | (simp; omega) | omega) _)
  clear hW1 hL1
  with_reducible refine (K1.out _).mono ?_
  rintro e w1 ⟨rfl, hb1⟩
  have c4 := c2.up hb1
  have hB5 : Below w.heap.size w w1 := bel_up hB3 hb1
  clear c2
  have uc4 := c4
  simp only [At, Own, Nat.reduceAdd, and_true] at uc4
  have K6 := Lib.hid (fun W => icheckD_any d W)
  go_wp2_with (fail)
  refine calls_named ?_
  intro W2 hW2
  have hL2 : Below w1.heap.size w1 W2 := by
    rw [hW2]
    repeat (first | with_reducible exact Below.refl _ _ | with_reducible refine bel_alloc ?_ _ | refine Below.setCell ?_ (by first | (simp; done) | (simp; omega) | omega) _)
  have c7 := c4.up hL2
  have hB8 : Below w.heap.size w W2 := by
    rw [hW2]
    repeat (first | with_reducible exact hB5 | with_reducible refine bel_alloc ?_ _ | refine Below.setCell ?_ (by first | (simp; done) | (simp; omega) | omega) _)
  clear hW2 hL2 uc4 c4
  with_reducible refine (K6.out _).mono ?_
  rintro e w2 ⟨rfl, hb2⟩
  have c9 := c7.up hb2
  have hB10 : Below w.heap.size w w2 := bel_up hB8 hb2
  clear c7
  have uc9 := c9
  simp only [At, Own, Nat.reduceAdd, and_true] at uc9
  have K11 := Lib.hid (fun W => one_any W)
  have K12 := Lib.hid (fun W => KCMP.out W)
  have K13 := Lib.hid (fun W => KGCD.out W)
  go_wp2_with fail
  refine wp_named ?_
  intro W3 hW3
  have hL3 : Below w2.heap.size w2 W3 := by
    rw [hW3]
    repeat (first | with_reducible exact Below.refl _ _ | with_reducible refine bel_alloc ?_ _ | refine Below.setCell ?_ (by first | (simp; done) | (simp; omega) | omega) _)
  have c14 := c9.up hL3
  have hB15 : Below w.heap.size w W3 := by
    rw [hW3]
    repeat (first | with_reducible exact hB10 | with_reducible refine bel_alloc ?_ _ | refine Below.setCell ?_ (by first | (simp; done) | (simp; omega) | omega) _)
  clear hW3 hL3 uc9 c9
  have dc14 := fun p : Bel W3 => c14.bel p
  simp only [At, Own, Nat.reduceAdd, and_true] at dc14
  refine wp_region_all (by kernel_rfl) (by kernel_rfl) ?_
  repeat (go_big_quiet_step (first | (go_at_call 90; with_reducible exact Calls.bel (K11.out _)) | (go_at_call 89; with_reducible exact Calls.bel (K12.out _)) | (go_at_call 91; with_reducible exact Calls.bel (K13.out _))))
  refine wpQuiet_nil ?_
  intro w3 hb3
  have c16 := c14.up hb3
  have hB17 : Below w.heap.size w w3 := bel_up hB15 hb3
  clear dc14 c14
  have uc16 := c16
  simp only [At, Own, Nat.reduceAdd, and_true] at uc16
  go_wp2
  go_ret
  refine ⟨rfl, ?_⟩
  repeat (first | with_reducible exact hB17 | with_reducible refine bel_alloc ?_ _ | refine Below.setCell ?_ (by first | (simp; done) | (simp; omega) | omega) _)

set_option maxRecDepth 100000 in
theorem qcheck_whole (z : Int) (w : World) :
    Calls Tryz.prog 59 #[.agg #[.bool (ng z), .string (mg z.natAbs), .bool false, .string ⟨#[]⟩]] w fun e w' => e = .returned (.int .i64 0) ∧ Below w.heap.size w w' := by
  have EQ0 := fun W => eqI_in false false 0 0 W
  rw [mg_zero] at EQ0
  simp only [beq_self_eq_true, decide_true, Bool.and_true] at EQ0
  go_enter Tryz.func59, Tryz.ntmps59
  have K1 := Lib.hid (fun W => icheck_any z W)
  go_wp2_with (fail)
  refine calls_named ?_
  intro W1 hW1
  have hL1 : Below w.heap.size w W1 := by
    rw [hW1]
    repeat (first | with_reducible exact Below.refl _ _ | with_reducible refine bel_alloc ?_ _ | refine Below.setCell ?_ (by first | (simp; done) | (simp; omega) | omega) _)
  have c2 : Own W1 (w.heap.size) 0 [.bool (ng z), .string (mg z.natAbs), .bool false, .string ⟨#[]⟩] := by
    rw [hW1]
    first
    | (repeat (first | (with_reducible refine own_new (l := [.bool (ng z), .string (mg z.natAbs), .bool false, .string ⟨#[]⟩]) ?_; (simp; done)) | with_reducible refine Own.alloc ?_ _ | refine Own.far _ _ (by first | (simp; done) | (simp [*]; done) | (simp; omega)) ?_)); done
    | simp [Own, go_sem]
  have hB3 : Below w.heap.size w W1 := by
    rw [hW1]
    repeat (first | with_reducible exact Below.refl _ _ | with_reducible refine bel_alloc ?_ _ | refine Below.setCell ?_ (by first | (simp; done) | (simp; omega) | omega) _)
  clear hW1 hL1
  with_reducible refine (K1.out _).mono ?_
  rintro e w1 ⟨rfl, hb1⟩
  have c4 := c2.up hb1
  have hB5 : Below w.heap.size w w1 := bel_up hB3 hb1
  clear c2
  have uc4 := c4
  simp only [At, Own, Nat.reduceAdd, and_true] at uc4
  have K6 := Lib.hid (fun W => icheck_zero W)
  go_wp2_with (fail)
  refine calls_named ?_
  intro W2 hW2
  have hL2 : Below w1.heap.size w1 W2 := by
    rw [hW2]
    repeat (first | with_reducible exact Below.refl _ _ | with_reducible refine bel_alloc ?_ _ | refine Below.setCell ?_ (by first | (simp; done) | (simp; omega) | omega) _)
  have c7 := c4.up hL2
  have hB8 : Below w.heap.size w W2 := by
    rw [hW2]
    repeat (first | with_reducible exact hB5 | with_reducible refine bel_alloc ?_ _ | refine Below.setCell ?_ (by first | (simp; done) | (simp; omega) | omega) _)
  clear hW2 hL2 uc4 c4
  with_reducible refine (K6.out _).mono ?_
  rintro e w2 ⟨rfl, hb2⟩
  have c9 := c7.up hb2
  have hB10 : Below w.heap.size w w2 := bel_up hB8 hb2
  clear c7
  have uc9 := c9
  simp only [At, Own, Nat.reduceAdd, and_true] at uc9
  go_wp2
  go_ret
  refine ⟨rfl, ?_⟩
  repeat (first | with_reducible exact hB10 | with_reducible refine bel_alloc ?_ _ | refine Below.setCell ?_ (by first | (simp; done) | (simp; omega) | omega) _)

theorem qcheck_any (q : Rat) (w : World) (h : Pl.Sz 16777216 q) :
    Calls Tryz.prog 59 #[qv q] w fun e w' => e = .returned (.int .i64 0) ∧ Below w.heap.size w w' := by
  by_cases hd : q.den = 1
  · have e : dn q = 0 := by unfold dn; rw [if_pos hd]
    have := qcheck_whole q.num w
    rw [← mg_zero, ← e] at this
    exact this
  · have e : dn q = q.den := by unfold dn; rw [if_neg hd]
    have := qcheck_frac q.num q.den w (by have := q.den_nz; omega) q.reduced (Nat.le_trans h.1 (by decide)) (Nat.le_trans h.2 (by decide))
    rw [← e] at this
    exact this

end Go.Proofs.YtldfencaoaikgaaGreatDoor
