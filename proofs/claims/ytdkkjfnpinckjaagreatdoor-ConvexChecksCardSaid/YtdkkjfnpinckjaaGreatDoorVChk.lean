/-
  Contracts for the checks of integers.
-/
import Derived.Test.YtdkkjfnpinckjaaGreatDoorVMk
set_option linter.unusedSimpArgs false
set_option linter.unusedVariables false
namespace Go.Proofs.YtdkkjfnpinckjaaGreatDoor
open Go Go.RowKit

set_option maxRecDepth 100000 in
theorem icheck_zero (w : World) :
    Calls Tryz.prog 143 #[.agg #[.bool false, .string ⟨#[]⟩]] w fun e w' => e = .returned (.int .i64 0) ∧ Below w.heap.size w w' := by
  go_enter Tryz.func143, Tryz.ntmps143
  go_wp2
  go_ret
  refine ⟨rfl, ?_⟩
  repeat (first | with_reducible exact Below.refl _ _ | with_reducible refine bel_alloc ?_ _)
theorem mg_head {n : Nat} (hn : n ≠ 0) (h : 0 < (mg n).size) : ((mg n)[0]'h).toNat ≠ 0 := by
  have hL : 1 ≤ Pl.L n := Pl.L_pos hn
  have g := mg_get n (Pl.L n - 1) (by omega) (by rw [mg_size]; omega)
  have e : ((mg n)[0]'h) = ((mg n)[Pl.L n - 1 - (Pl.L n - 1)]'(by rw [mg_size]; omega)) := by congr 1; omega
  rw [e, g]
  have h1 : n < 256 ^ Pl.L n := (Pl.L_le_iff _ _).1 (Nat.le_refl _)
  have h2 : ¬ n < 256 ^ (Pl.L n - 1) := fun c => by have := (Pl.L_le_iff _ _).2 c; omega
  have h3 : 256 ^ Pl.L n = 256 * 256 ^ (Pl.L n - 1) := by rw [← Nat.pow_succ']; congr 1; omega
  have hp : 0 < 256 ^ (Pl.L n - 1) := Nat.pow_pos (by decide)
  have h4 : 1 ≤ n / 256 ^ (Pl.L n - 1) := (Nat.le_div_iff_mul_le hp).2 (by omega)
  have h5 : n / 256 ^ (Pl.L n - 1) < 256 := (Nat.div_lt_iff_lt_mul hp).2 (by omega)
  omega
set_option maxRecDepth 100000 in
theorem icheck_some (s : Bool) (n : Nat) (hn : n ≠ 0) (w : World) :
    Calls Tryz.prog 143 #[.agg #[.bool s, .string (mg n)]] w fun e w' => e = .returned (.int .i64 0) ∧ Below w.heap.size w w' := by
  have h1 := mg_some hn
  have h2 := mg_size n
  have h3 : 1 ≤ Pl.L n := Pl.L_pos hn
  have h4 : ∀ h : 0 < (mg n).size, ((((mg n)[0]'h).toNat : Int) == 0) = false := fun h => by have := mg_head hn h; simp; omega
  generalize mg n = x at *
  go_enter Tryz.func143, Tryz.ntmps143
  go_wp2
  go_ret
  refine ⟨rfl, ?_⟩
  repeat (first | with_reducible exact Below.refl _ _ | with_reducible refine bel_alloc ?_ _)
theorem icheck_any (z : Int) (w : World) :
    Calls Tryz.prog 143 #[.agg #[.bool (ng z), .string (mg z.natAbs)]] w fun e w' => e = .returned (.int .i64 0) ∧ Below w.heap.size w w' := by
  by_cases h : z = 0
  · subst h; exact icheck_zero w
  · exact icheck_some _ _ (by omega) w
theorem icheckD_any (n : Nat) (w : World) :
    Calls Tryz.prog 143 #[.agg #[.bool false, .string (mg n)]] w fun e w' => e = .returned (.int .i64 0) ∧ Below w.heap.size w w' := by
  by_cases h : n = 0
  · subst h; exact icheck_zero w
  · exact icheck_some _ _ h w
-- by program
set_option maxRecDepth 100000 in
theorem qcheck_frac (z : Int) (d : Nat) (w : World) (hd : 2 ≤ d) (hg : Nat.gcd z.natAbs d = 1) (h1 : Pl.L z.natAbs ≤ 67108864) (h2 : Pl.L d ≤ 67108864) :
    Calls Tryz.prog 124 #[.agg #[.bool (ng z), .string (mg z.natAbs), .bool false, .string (mg d)]] w fun e w' => e = .returned (.int .i64 0) ∧ Below w.heap.size w w' := by
  have EQ0 := fun W => eqI_in false false d 0 W
  rw [decide_eq_false (by omega), mg_zero] at EQ0
  simp only [Bool.and_false] at EQ0
  have EQ1 := fun W => eqI_in false false 1 1 W
  simp only [beq_self_eq_true, decide_true, Bool.and_true] at EQ1
  have KCMP : Hid (∀ W, Calls Tryz.prog 104 #[nv d, nv 1] W fun e w' => e = .returned (.int .i64 1) ∧ Below W.heap.size W w') := Lib.hid (fun W => by
    have h := icmp_any d 1 W
    have e1 : iv (d : Int) = nv d := by simp [iv, nv, ng]
    have e2 : iv (1 : Int) = nv 1 := by simp [iv, nv, ng]
    have e3 : cmpZ (d : Int) 1 = 1 := by unfold cmpZ; rw [if_neg (by omega), if_pos (by omega)]
    rwa [e1, e2, e3] at h)
  have KGCD : Hid (∀ W, Calls Tryz.prog 137 #[.agg #[.bool (ng z), .string (mg z.natAbs)], nv d] W fun e w' => e = .returned (nv 1) ∧ Below W.heap.size W w') := Lib.hid (fun W => by
    have h := gcd_any (ng z) false z.natAbs d W h1 h2
    rwa [hg] at h)
  clear hd hg h1 h2
  go_enter Tryz.func124, Tryz.ntmps124
  have K1 := Lib.hid (fun W => icheck_any z W)
  go_wp2_with (fail)
  refine calls_named ?_
  intro W1 hW1
  have hL1 : Below w.heap.size w W1 := by
    rw [hW1]
    repeat (first | with_reducible exact Below.refl _ _ | with_reducible refine bel_alloc ?_ _ | refine Below.setCell ?_ (by first | (simp; done) | (simp; omega) | omega) _)
  have c2 : Own W1 (w.heap.size) 0 [.bool (ng z), .string (mg z.natAbs), .bool false, .string (mg d)] := by
    rw [hW1]
    first
    | (repeat (first | (with_reducible refine own_new (l := [.bool (ng z), .string (mg z.natAbs), .bool false, .string (mg d)]) ?_; (simp; done)) | with_reducible refine Own.alloc ?_ _ | refine Own.far _ _ (by first | (simp; done) | (simp [*]; done) | (simp; omega)) ?_)); done
    | simp [Own, go_sem]
  have hB3 : Below w.heap.size w W1 := by
    rw [hW1]
    repeat (first | with_reducible exact Below.refl _ _ | with_reducible refine bel_alloc ?_ _ | refine Below.setCell ?_ (by first | (simp; done) | (simp; omega) | omega) _)
  clear hW1 hL1
  with_reducible refine (K1.out _).mono ?_
  rintro e w1 ⟨rfl, hb1⟩
  have c4 := c2.up hb1
  have hB5 : Below w.heap.size w w1 := bel_up hB3 hb1
  clear c2
  have uc4 := c4
  simp only [At, Own, Nat.reduceAdd, and_true] at uc4
  have K6 := Lib.hid (fun W => icheckD_any d W)
  go_wp2_with (fail)
  refine calls_named ?_
  intro W2 hW2
  have hL2 : Below w1.heap.size w1 W2 := by
    rw [hW2]
    repeat (first | with_reducible exact Below.refl _ _ | with_reducible refine bel_alloc ?_ _ | refine Below.setCell ?_ (by first | (simp; done) | (simp; omega) | omega) _)
  have c7 := c4.up hL2
  have hB8 : Below w.heap.size w W2 := by
    rw [hW2]
    repeat (first | with_reducible exact hB5 | with_reducible refine bel_alloc ?_ _ | refine Below.setCell ?_ (by first | (simp; done) | (simp; omega) | omega) _)
  clear hW2 hL2 uc4 c4
  with_reducible refine (K6.out _).mono ?_
  rintro e w2 ⟨rfl, hb2⟩
  have c9 := c7.up hb2
  have hB10 : Below w.heap.size w w2 := bel_up hB8 hb2
  clear c7
  have uc9 := c9
  simp only [At, Own, Nat.reduceAdd, and_true] at uc9
  have K11 := Lib.hid (fun W => one_any W)
  have K12 := Lib.hid (fun W => KCMP.out W)
  have K13 := Lib.hid (fun W => KGCD.out W)
  go_wp2_with fail
  refine wp_named ?_
  intro W3 hW3
  have hL3 : Below w2.heap.size w2 W3 := by
    rw [hW3]
    repeat (first | with_reducible exact Below.refl _ _ | with_reducible refine bel_alloc ?_ _ | refine Below.setCell ?_ (by first | (simp; done) | (simp; omega) | omega) _)
  have c14 := c9.up hL3
  have hB15 : Below w.heap.size w W3 := by
    rw [hW3]
    repeat (first | with_reducible exact hB10 | with_reducible refine bel_alloc ?_ _ | refine Below.setCell ?_ (by first | (simp; done) | (simp; omega) | omega) _)
  clear hW3 hL3 uc9 c9
  have dc14 := fun p : Bel W3 => c14.bel p
  simp only [At, Own, Nat.reduceAdd, and_true] at dc14
  refine wp_region_all (by kernel_rfl) (by kernel_rfl) ?_
  repeat (go_big_quiet_step (first | (go_at_call 139; with_reducible exact Calls.bel (K11.out _)) | (go_at_call 104; with_reducible exact Calls.bel (K12.out _)) | (go_at_call 137; with_reducible exact Calls.bel (K13.out _))))
  refine wpQuiet_nil ?_
  intro w3 hb3
  have c16 := c14.up hb3
  have hB17 : Below w.heap.size w w3 := bel_up hB15 hb3
  clear dc14 c14
  have uc16 := c16
  simp only [At, Own, Nat.reduceAdd, and_true] at uc16
  go_wp2
  go_ret
  refine ⟨rfl, ?_⟩
  repeat (first | with_reducible exact hB17 | with_reducible refine bel_alloc ?_ _ | refine Below.setCell ?_ (by first | (simp; done) | (simp; omega) | omega) _)

set_option maxRecDepth 100000 in
theorem qcheck_whole (z : Int) (w : World) :
    Calls Tryz.prog 124 #[.agg #[.bool (ng z), .string (mg z.natAbs), .bool false, .string ⟨#[]⟩]] w fun e w' => e = .returned (.int .i64 0) ∧ Below w.heap.size w w' := by
  have EQ0 := fun W => eqI_in false false 0 0 W
  rw [mg_zero] at EQ0
  simp only [beq_self_eq_true, decide_true, Bool.and_true] at EQ0
  go_enter Tryz.func124, Tryz.ntmps124
  have K1 := Lib.hid (fun W => icheck_any z W)
  go_wp2_with (fail)
  refine calls_named ?_
  intro W1 hW1
  have hL1 : Below w.heap.size w W1 := by
    rw [hW1]
    repeat (first | with_reducible exact Below.refl _ _ | with_reducible refine bel_alloc ?_ _ | refine Below.setCell ?_ (by first | (simp; done) | (simp; omega) | omega) _)
  have c2 : Own W1 (w.heap.size) 0 [.bool (ng z), .string (mg z.natAbs), .bool false, .string ⟨#[]⟩] := by
    rw [hW1]
    first
    | (repeat (first | (with_reducible refine own_new (l := [.bool (ng z), .string (mg z.natAbs), .bool false, .string ⟨#[]⟩]) ?_; (simp; done)) | with_reducible refine Own.alloc ?_ _ | refine Own.far _ _ (by first | (simp; done) | (simp [*]; done) | (simp; omega)) ?_)); done
    | simp [Own, go_sem]
  have hB3 : Below w.heap.size w W1 := by
    rw [hW1]
    repeat (first | with_reducible exact Below.refl _ _ | with_reducible refine bel_alloc ?_ _ | refine Below.setCell ?_ (by first | (simp; done) | (simp; omega) | omega) _)
  clear hW1 hL1
  with_reducible refine (K1.out _).mono ?_
  rintro e w1 ⟨rfl, hb1⟩
  have c4 := c2.up hb1
  have hB5 : Below w.heap.size w w1 := bel_up hB3 hb1
  clear c2
  have uc4 := c4
  simp only [At, Own, Nat.reduceAdd, and_true] at uc4
  have K6 := Lib.hid (fun W => icheck_zero W)
  go_wp2_with (fail)
  refine calls_named ?_
  intro W2 hW2
  have hL2 : Below w1.heap.size w1 W2 := by
    rw [hW2]
    repeat (first | with_reducible exact Below.refl _ _ | with_reducible refine bel_alloc ?_ _ | refine Below.setCell ?_ (by first | (simp; done) | (simp; omega) | omega) _)
  have c7 := c4.up hL2
  have hB8 : Below w.heap.size w W2 := by
    rw [hW2]
    repeat (first | with_reducible exact hB5 | with_reducible refine bel_alloc ?_ _ | refine Below.setCell ?_ (by first | (simp; done) | (simp; omega) | omega) _)
  clear hW2 hL2 uc4 c4
  with_reducible refine (K6.out _).mono ?_
  rintro e w2 ⟨rfl, hb2⟩
  have c9 := c7.up hb2
  have hB10 : Below w.heap.size w w2 := bel_up hB8 hb2
  clear c7
  have uc9 := c9
  simp only [At, Own, Nat.reduceAdd, and_true] at uc9
  go_wp2
  go_ret
  refine ⟨rfl, ?_⟩
  repeat (first | with_reducible exact hB10 | with_reducible refine bel_alloc ?_ _ | refine Below.setCell ?_ (by first | (simp; done) | (simp; omega) | omega) _)

theorem qcheck_any (q : Rat) (w : World) (h : Pl.Sz 16777216 q) :
    Calls Tryz.prog 124 #[qv q] w fun e w' => e = .returned (.int .i64 0) ∧ Below w.heap.size w w' := by
  by_cases hd : q.den = 1
  · have e : dn q = 0 := by unfold dn; rw [if_pos hd]
    have := qcheck_whole q.num w
    rw [← mg_zero, ← e] at this
    exact this
  · have e : dn q = q.den := by unfold dn; rw [if_neg hd]
    have := qcheck_frac q.num q.den w (by have := q.den_nz; omega) q.reduced (Nat.le_trans h.1 (by decide)) (Nat.le_trans h.2 (by decide))
    rw [← e] at this
    exact this

set_option maxRecDepth 100000 in
theorem pcheck_any (p : Rat × Rat) (w : World) (hp : Pl.SzP 16777216 p) :
    Calls Tryz.prog 91 #[pv p] w fun e w' => e = .returned (.int .i64 0) ∧ Below w.heap.size w w' := by
  go_enter Tryz.func91, Tryz.ntmps91
  have K1 := Lib.hid (fun W => qcheck_any p.1 W (hp.1.mono (by omega)))
  go_wp2_with (fail)
  refine calls_named ?_
  intro W1 hW1
  have hL1 : Below w.heap.size w W1 := by
    rw [hW1]
    repeat (first | with_reducible exact Below.refl _ _ | with_reducible refine bel_alloc ?_ _ | refine Below.setCell ?_ (by first | (simp; done) | (simp; omega) | omega) _)
  have c2 : Own W1 (w.heap.size) 0 [.bool (ng p.1.num), .string (mg p.1.num.natAbs), .bool false, .string (mg (dn p.1)), .bool (ng p.2.num), .string (mg p.2.num.natAbs), .bool false, .string (mg (dn p.2))] := by
    rw [hW1]
    first
    | (repeat (first | (with_reducible refine own_new (l := [.bool (ng p.1.num), .string (mg p.1.num.natAbs), .bool false, .string (mg (dn p.1)), .bool (ng p.2.num), .string (mg p.2.num.natAbs), .bool false, .string (mg (dn p.2))]) ?_; (simp; done)) | with_reducible refine Own.alloc ?_ _ | refine Own.far _ _ (by first | (simp; done) | (simp [*]; done) | (simp; omega)) ?_)); done
    | simp [Own, go_sem]
  have hB3 : Below w.heap.size w W1 := by
    rw [hW1]
    repeat (first | with_reducible exact Below.refl _ _ | with_reducible refine bel_alloc ?_ _ | refine Below.setCell ?_ (by first | (simp; done) | (simp; omega) | omega) _)
  clear hW1 hL1
  with_reducible refine (K1.out _).mono ?_
  rintro e w1 ⟨rfl, hb1⟩
  have c4 := c2.up hb1
  have hB5 : Below w.heap.size w w1 := bel_up hB3 hb1
  clear c2
  have uc4 := c4
  simp only [At, Own, Nat.reduceAdd, and_true] at uc4
  have K6 := Lib.hid (fun W => qcheck_any p.2 W (hp.2.mono (by omega)))
  go_wp2_with (fail)
  refine calls_named ?_
  intro W2 hW2
  have hL2 : Below w1.heap.size w1 W2 := by
    rw [hW2]
    repeat (first | with_reducible exact Below.refl _ _ | with_reducible refine bel_alloc ?_ _ | refine Below.setCell ?_ (by first | (simp; done) | (simp; omega) | omega) _)
  have c7 := c4.up hL2
  have hB8 : Below w.heap.size w W2 := by
    rw [hW2]
    repeat (first | with_reducible exact hB5 | with_reducible refine bel_alloc ?_ _ | refine Below.setCell ?_ (by first | (simp; done) | (simp; omega) | omega) _)
  clear hW2 hL2 uc4 c4
  with_reducible refine (K6.out _).mono ?_
  rintro e w2 ⟨rfl, hb2⟩
  have c9 := c7.up hb2
  have hB10 : Below w.heap.size w w2 := bel_up hB8 hb2
  clear c7
  have uc9 := c9
  simp only [At, Own, Nat.reduceAdd, and_true] at uc9
  go_wp2
  go_ret
  refine ⟨rfl, ?_⟩
  repeat (first | with_reducible exact hB10 | with_reducible refine bel_alloc ?_ _ | refine Below.setCell ?_ (by first | (simp; done) | (simp; omega) | omega) _)
end Go.Proofs.YtdkkjfnpinckjaaGreatDoor
