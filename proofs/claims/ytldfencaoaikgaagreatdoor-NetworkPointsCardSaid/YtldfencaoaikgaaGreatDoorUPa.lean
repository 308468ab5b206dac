/-
  rational.Check of any pair of strings.
-/
import Derived.Test.YtldfencaoaikgaaGreatDoorUMq
set_option linter.unusedSimpArgs false
set_option linter.unusedVariables false
namespace Go.Proofs.YtldfencaoaikgaaGreatDoor
open Go Go.RowKit

/-- A string that begins with a zero byte. -/
structure ZeroB (x : ByteArray) : Prop where
  ne : x.toList.isEmpty = false
  sz : 1 ≤ x.size
  at_ : ∀ h : 0 < x.size, ((((x)[0]'h).toNat : Int) == 0) = true
/-- What Check of an integer refuses. -/
def IBad (s : Bool) (x : ByteArray) : Prop := (s = true ∧ x = ⟨#[]⟩) ∨ ZeroB x
theorem int_cases (s : Bool) (x : ByteArray) : (∃ z : Int, s = ng z ∧ x = mg z.natAbs) ∨ IBad s x := by
  have hx : x = ⟨x.data.toList.toArray⟩ := rfl
  cases hl : x.data.toList with
  | nil =>
    have e : x = ⟨#[]⟩ := by rw [hx, hl]
    cases s
    · exact .inl ⟨0, rfl, e⟩
    · exact .inr (.inl ⟨rfl, e⟩)
  | cons b t =>
    have hsz : x.size = t.length + 1 := by rw [hx, hl]; simp [ByteArray.size]
    have hne : x.toList.isEmpty = false := by rw [ByteArray.toList_eq, hl]; rfl
    by_cases hb : b = 0
    · refine .inr (.inr ⟨hne, by omega, fun h => ?_⟩)
      have e : (x[0]'h) = x.data.toList[0]'(by rw [hl]; simp) := by simp [ByteArray.getElem_eq_getElem_data]
      rw [e]
      simp [hl, hb]
    · have hc : Pl.canon x.data.toList := .inr (by rw [hl]; simpa using hb)
      have hm : x = mg (Pl.valL x.data.toList) := by
        unfold mg; rw [Pl.magL_valL hc]
      have hn : Pl.valL x.data.toList ≠ 0 := by
        intro h0
        rw [h0] at hm
        rw [hm] at hne
        rw [mg_empty] at hne
        simp at hne
      generalize Pl.valL x.data.toList = n at hm hn
      cases s
      · exact .inl ⟨n, by unfold ng; symm; simp, by simpa using hm⟩
      · exact .inl ⟨-(n : Int), by unfold ng; symm; simp; omega, by simpa using hm⟩
set_option maxRecDepth 100000 in
theorem icheck_neg (w : World) :
    Calls Tryz.prog 88 #[.agg #[.bool true, .string ⟨#[]⟩]] w fun e w' => e = .returned (.int .i64 5) ∧ Below w.heap.size w w' := by
  go_enter Tryz.func88, Tryz.ntmps88
  go_wp2
  go_ret
  refine ⟨rfl, ?_⟩
  repeat (first | with_reducible exact Below.refl _ _ | with_reducible refine bel_alloc ?_ _)
set_option maxRecDepth 100000 in
theorem icheck_zb (s : Bool) (x : ByteArray) (hx : ZeroB x) (w : World) :
    Calls Tryz.prog 88 #[.agg #[.bool s, .string x]] w fun e w' => e = .returned (.int .i64 5) ∧ Below w.heap.size w w' := by
  obtain ⟨h1, h2, h4⟩ := hx
  have h3 : (0 : Int) < x.size := by omega
  go_enter Tryz.func88, Tryz.ntmps88
  go_wp2
  go_ret
  refine ⟨rfl, ?_⟩
  repeat (first | with_reducible exact Below.refl _ _ | with_reducible refine bel_alloc ?_ _)
theorem icheck_ib (s : Bool) (x : ByteArray) (hx : IBad s x) (w : World) :
    Calls Tryz.prog 88 #[.agg #[.bool s, .string x]] w fun e w' => e = .returned (.int .i64 5) ∧ Below w.heap.size w w' := by
  rcases hx with ⟨rfl, rfl⟩ | hx
  · exact icheck_neg w
  · exact icheck_zb s x hx w

set_option maxRecDepth 100000 in
theorem q5a (a : Bool) (x : ByteArray) (b : Bool) (y : ByteArray) (w : World) (hx : IBad a x) :
    Calls Tryz.prog 59 #[.agg #[.bool a, .string x, .bool b, .string y]] w fun e w' => e = .returned (.int .i64 5) ∧ Below w.heap.size w w' := by
  go_enter Tryz.func59, Tryz.ntmps59
  have K1 := Lib.hid (fun W => icheck_ib a x hx W)
  go_wp2_with (fail)
  refine calls_named ?_
  intro W1 hW1
  have hL1 : Below w.heap.size w W1 := by
    rw [hW1]
    repeat (first | with_reducible exact Below.refl _ _ | with_reducible refine bel_alloc ?_ _ | refine Below.setCell ?_ (by first | (simp; done) | (simp; omega) | omega) _)
  have c2 : Own W1 (w.heap.size) 0 [.bool a, .string x, .bool b, .string y] := by
    rw [hW1]
    first
    | (repeat (first | (with_reducible refine own_new (l := [.bool a, .string x, .bool b, .string y]) ?_; (simp; done)) | with_reducible refine Own.alloc ?_ _ | refine Own.far _ _ (by first | (simp; done) | (simp [*]; done) | (simp; omega)) ?_)); done
    | simp [Own, go_sem]
  have hB3 : Below w.heap.size w W1 := by
    rw [hW1]
    repeat (first | with_reducible exact Below.refl _ _ | with_reducible refine bel_alloc ?_ _ | refine Below.setCell ?_ (by first | (simp; done) | (simp; omega) | omega) _)
  clear hW1 hL1
  with_reducible refine (K1.out _).mono ?_
  rintro e w1 ⟨rfl, hb1⟩
  have c4 := c2.up hb1
  have hB5 : Below w.heap.size w w1 := bel_up hB3 hb1
  clear c2
  have uc4 := c4
  simp only [At, Own, Nat.reduceAdd, and_true] at uc4
  go_wp2
  go_ret
  refine ⟨rfl, ?_⟩
  repeat (first | with_reducible exact hB5 | with_reducible refine bel_alloc ?_ _ | refine Below.setCell ?_ (by first | (simp; done) | (simp; omega) | omega) _)

set_option maxRecDepth 100000 in
theorem q5b (z : Int) (b : Bool) (y : ByteArray) (w : World) (hy : IBad b y) :
    Calls Tryz.prog 59 #[.agg #[.bool (ng z), .string (mg z.natAbs), .bool b, .string y]] w fun e w' => e = .returned (.int .i64 5) ∧ Below w.heap.size w w' := by
  go_enter Tryz.func59, Tryz.ntmps59
  have K1 := Lib.hid (fun W => icheck_any z W)
  go_wp2_with (fail)
  refine calls_named ?_
  intro W1 hW1
  have hL1 : Below w.heap.size w W1 := by
    rw [hW1]
    repeat (first | with_reducible exact Below.refl _ _ | with_reducible refine bel_alloc ?_ _ | refine Below.setCell ?_ (by first | (simp; done) | (simp; omega) | omega) _)
  have c2 : Own W1 (w.heap.size) 0 [.bool (ng z), .string (mg z.natAbs), .bool b, .string y] := by
    rw [hW1]
    first
    | (repeat (first | (with_reducible refine own_new (l := [.bool (ng z), .string (mg z.natAbs), .bool b, .string y]) ?_; (simp; done)) | with_reducible refine Own.alloc ?_ _ | refine Own.far _ _ (by first | (simp; done) | (simp [*]; done) | (simp; omega)) ?_)); done
    | simp [Own, go_sem]
  have hB3 : Below w.heap.size w W1 := by
    rw [hW1]
    repeat (first | with_reducible exact Below.refl _ _ | with_reducible refine bel_alloc ?_ _ | refine Below.setCell ?_ (by first | (simp; done) | (simp; omega) | omega) _)
  clear hW1 hL1
  with_reducible refine (K1.out _).mono ?_
  rintro e w1 ⟨rfl, hb1⟩
  have c4 := c2.up hb1
  have hB5 : Below w.heap.size w w1 := bel_up hB3 hb1
  clear c2
  have uc4 := c4
  simp only [At, Own, Nat.reduceAdd, and_true] at uc4
  have K6 := Lib.hid (fun W => icheck_ib b y hy W)
  go_wp2_with (fail)
  refine calls_named ?_
  intro W2 hW2
  have hL2 : Below w1.heap.size w1 W2 := by
    rw [hW2]
    repeat (first | with_reducible exact Below.refl _ _ | with_reducible refine bel_alloc ?_ _ | refine Below.setCell ?_ (by first | (simp; done) | (simp; omega) | omega) _)
  have c7 := c4.up hL2
  have hB8 : Below w.heap.size w W2 := by
    rw [hW2]
    repeat (first | with_reducible exact hB5 | with_reducible refine bel_alloc ?_ _ | refine Below.setCell ?_ (by first | (simp; done) | (simp; omega) | omega) _)
  clear hW2 hL2 uc4 c4
  with_reducible refine (K6.out _).mono ?_
  rintro e w2 ⟨rfl, hb2⟩
  have c9 := c7.up hb2
  have hB10 : Below w.heap.size w w2 := bel_up hB8 hb2
  clear c7
  have uc9 := c9
  simp only [At, Own, Nat.reduceAdd, and_true] at uc9
  go_wp2
  go_ret
  refine ⟨rfl, ?_⟩
  repeat (first | with_reducible exact hB10 | with_reducible refine bel_alloc ?_ _ | refine Below.setCell ?_ (by first | (simp; done) | (simp; omega) | omega) _)

set_option maxRecDepth 100000 in
theorem q5one (z : Int) (w : World) :
    Calls Tryz.prog 59 #[.agg #[.bool (ng z), .string (mg z.natAbs), .bool false, .string (mg 1)]] w fun e w' => e = .returned (.int .i64 5) ∧ Below w.heap.size w w' := by
  have EQ0 := fun W => eqI_in false false 1 0 W
  rw [decide_eq_false (by omega), mg_zero] at EQ0
  simp only [Bool.and_false] at EQ0
  have KCMP : Hid (∀ W, Calls Tryz.prog 89 #[nv 1, nv 1] W fun e w' => e = .returned (.int .i64 0) ∧ Below W.heap.size W w') := Lib.hid (fun W => by
    have h := icmp_any 1 1 W
    have e2 : iv (1 : Int) = nv 1 := by simp [iv, nv, ng]
    have e3 : cmpZ (1 : Int) 1 = 0 := by decide
    rwa [e2, e3] at h)
  go_enter Tryz.func59, Tryz.ntmps59
  have K1 := Lib.hid (fun W => icheck_any z W)
  go_wp2_with (fail)
  refine calls_named ?_
  intro W1 hW1
  have hL1 : Below w.heap.size w W1 := by
    rw [hW1]
    repeat (first | with_reducible exact Below.refl _ _ | with_reducible refine bel_alloc ?_ _ | refine Below.setCell ?_ (by first | (simp; done) | (simp; omega) | omega) _)
  have c2 : Own W1 (w.heap.size) 0 [.bool (ng z), .string (mg z.natAbs), .bool false, .string (mg 1)] := by
    rw [hW1]
    first
    | (repeat (first | (with_reducible refine own_new (l := [.bool (ng z), .string (mg z.natAbs), .bool false, .string (mg 1)]) ?_; (simp; done)) | with_reducible refine Own.alloc ?_ _ | refine Own.far _ _ (by first | (simp; done) | (simp [*]; done) | (simp; omega)) ?_)); done
    | simp [Own, go_sem]
  have hB3 : Below w.heap.size w W1 := by
    rw [hW1]
    repeat (first | with_reducible exact Below.refl _ _ | with_reducible refine bel_alloc ?_ _ | refine Below.setCell ?_ (by first | (simp; done) | (simp; omega) | omega) _)
  clear hW1 hL1
  with_reducible refine (K1.out _).mono ?_
  rintro e w1 ⟨rfl, hb1⟩
  have c4 := c2.up hb1
  have hB5 : Below w.heap.size w w1 := bel_up hB3 hb1
  clear c2
  have uc4 := c4
  simp only [At, Own, Nat.reduceAdd, and_true] at uc4
  have K6 := Lib.hid (fun W => icheckD_any 1 W)
  go_wp2_with (fail)
  refine calls_named ?_
  intro W2 hW2
  have hL2 : Below w1.heap.size w1 W2 := by
    rw [hW2]
    repeat (first | with_reducible exact Below.refl _ _ | with_reducible refine bel_alloc ?_ _ | refine Below.setCell ?_ (by first | (simp; done) | (simp; omega) | omega) _)
  have c7 := c4.up hL2
  have hB8 : Below w.heap.size w W2 := by
    rw [hW2]
    repeat (first | with_reducible exact hB5 | with_reducible refine bel_alloc ?_ _ | refine Below.setCell ?_ (by first | (simp; done) | (simp; omega) | omega) _)
  clear hW2 hL2 uc4 c4
  with_reducible refine (K6.out _).mono ?_
  rintro e w2 ⟨rfl, hb2⟩
  have c9 := c7.up hb2
  have hB10 : Below w.heap.size w w2 := bel_up hB8 hb2
  clear c7
  have uc9 := c9
  simp only [At, Own, Nat.reduceAdd, and_true] at uc9
  have K11 := Lib.hid (fun W => one_any W)
  have K12 := Lib.hid (fun W => KCMP.out W)
  go_wp2_with fail
  refine wp_named ?_
  intro W3 hW3
  have hL3 : Below w2.heap.size w2 W3 := by
    rw [hW3]
    repeat (first | with_reducible exact Below.refl _ _ | with_reducible refine bel_alloc ?_ _ | refine Below.setCell ?_ (by first | (simp; done) | (simp; omega) | omega) _)
  have c13 := c9.up hL3
  have hB14 : Below w.heap.size w W3 := by
    rw [hW3]
    repeat (first | with_reducible exact hB10 | with_reducible refine bel_alloc ?_ _ | refine Below.setCell ?_ (by first | (simp; done) | (simp; omega) | omega) _)
  clear hW3 hL3 uc9 c9
  have dc13 := fun p : Bel W3 => c13.bel p
  simp only [At, Own, Nat.reduceAdd, and_true] at dc13
  refine wp_region_all (by kernel_rfl) (by kernel_rfl) ?_
  repeat (go_big_quiet_step (first | (go_at_call 90; with_reducible exact Calls.bel (K11.out _)) | (go_at_call 89; with_reducible exact Calls.bel (K12.out _))))
  refine wpQuiet_nil ?_
  intro w3 hb3
  have c15 := c13.up hb3
  have hB16 : Below w.heap.size w w3 := bel_up hB14 hb3
  clear dc13 c13
  have uc15 := c15
  simp only [At, Own, Nat.reduceAdd, and_true] at uc15
  go_wp2
  go_ret
  refine ⟨rfl, ?_⟩
  repeat (first | with_reducible exact hB16 | with_reducible refine bel_alloc ?_ _ | refine Below.setCell ?_ (by first | (simp; done) | (simp; omega) | omega) _)

set_option maxRecDepth 100000 in
theorem q5neg (z e : Int) (w : World) (he : e < 0) :
    Calls Tryz.prog 59 #[.agg #[.bool (ng z), .string (mg z.natAbs), .bool (ng e), .string (mg e.natAbs)]] w fun e w' => e = .returned (.int .i64 5) ∧ Below w.heap.size w w' := by
  have EQ0 := fun W => eqI_in (ng e) false e.natAbs 0 W
  rw [decide_eq_false (by omega), mg_zero] at EQ0
  simp only [Bool.and_false] at EQ0
  have KCMP : Hid (∀ W, Calls Tryz.prog 89 #[iv e, nv 1] W fun e w' => e = .returned (.int .i64 (-1)) ∧ Below W.heap.size W w') := Lib.hid (fun W => by
    have h := icmp_any e 1 W
    have e2 : iv (1 : Int) = nv 1 := by simp [iv, nv, ng]
    have e3 : cmpZ e 1 = -1 := by unfold cmpZ; rw [if_pos (by omega)]
    rwa [e2, e3] at h)
  clear he
  go_enter Tryz.func59, Tryz.ntmps59
  have K1 := Lib.hid (fun W => icheck_any z W)
  go_wp2_with (fail)
  refine calls_named ?_
  intro W1 hW1
  have hL1 : Below w.heap.size w W1 := by
    rw [hW1]
    repeat (first | with_reducible exact Below.refl _ _ | with_reducible refine bel_alloc ?_ _ | refine Below.setCell ?_ (by first | (simp; done) | (simp; omega) | omega) _)
  have c2 : Own W1 (w.heap.size) 0 [.bool (ng z), .string (mg z.natAbs), .bool (ng e), .string (mg e.natAbs)] := by
    rw [hW1]
    first
    | (repeat (first | (with_reducible refine own_new (l := [.bool (ng z), .string (mg z.natAbs), .bool (ng e), .string (mg e.natAbs)]) ?_; (simp; done)) | with_reducible refine Own.alloc ?_ _ | refine Own.far _ _ (by first | (simp; done) | (simp [*]; done) | (simp; omega)) ?_)); done
    | simp [Own, go_sem]
  have hB3 : Below w.heap.size w W1 := by
    rw [hW1]
    repeat (first | with_reducible exact Below.refl _ _ | with_reducible refine bel_alloc ?_ _ | refine Below.setCell ?_ (by first | (simp; done) | (simp; omega) | omega) _)
  clear hW1 hL1
  with_reducible refine (K1.out _).mono ?_
  rintro e w1 ⟨rfl, hb1⟩
  have c4 := c2.up hb1
  have hB5 : Below w.heap.size w w1 := bel_up hB3 hb1
  clear c2
  have uc4 := c4
  simp only [At, Own, Nat.reduceAdd, and_true] at uc4
  have K6 := Lib.hid (fun W => icheck_any e W)
  go_wp2_with (fail)
  refine calls_named ?_
  intro W2 hW2
  have hL2 : Below w1.heap.size w1 W2 := by
    rw [hW2]
    repeat (first | with_reducible exact Below.refl _ _ | with_reducible refine bel_alloc ?_ _ | refine Below.setCell ?_ (by first | (simp; done) | (simp; omega) | omega) _)
  have c7 := c4.up hL2
  have hB8 : Below w.heap.size w W2 := by
    rw [hW2]
    repeat (first | with_reducible exact hB5 | with_reducible refine bel_alloc ?_ _ | refine Below.setCell ?_ (by first | (simp; done) | (simp; omega) | omega) _)
  clear hW2 hL2 uc4 c4
  with_reducible refine (K6.out _).mono ?_
  rintro e w2 ⟨rfl, hb2⟩
  have c9 := c7.up hb2
  have hB10 : Below w.heap.size w w2 := bel_up hB8 hb2
  clear c7
  have uc9 := c9
  simp only [At, Own, Nat.reduceAdd, and_true] at uc9
  have K11 := Lib.hid (fun W => one_any W)
  have K12 := Lib.hid (fun W => KCMP.out W)
  go_wp2_with fail
  refine wp_named ?_
  intro W3 hW3
  have hL3 : Below w2.heap.size w2 W3 := by
    rw [hW3]
    repeat (first | with_reducible exact Below.refl _ _ | with_reducible refine bel_alloc ?_ _ | refine Below.setCell ?_ (by first | (simp; done) | (simp; omega) | omega) _)
  have c13 := c9.up hL3
  have hB14 : Below w.heap.size w W3 := by
    rw [hW3]
    repeat (first | with_reducible exact hB10 | with_reducible refine bel_alloc ?_ _ | refine Below.setCell ?_ (by first | (simp; done) | (simp; omega) | omega) _)
  clear hW3 hL3 uc9 c9
  have dc13 := fun p : Bel W3 => c13.bel p
  simp only [At, Own, Nat.reduceAdd, and_true] at dc13
  refine wp_region_all (by kernel_rfl) (by kernel_rfl) ?_
  repeat (go_big_quiet_step (first | (go_at_call 90; with_reducible exact Calls.bel (K11.out _)) | (go_at_call 89; with_reducible exact Calls.bel (K12.out _))))
  refine wpQuiet_nil ?_
  intro w3 hb3
  have c15 := c13.up hb3
  have hB16 : Below w.heap.size w w3 := bel_up hB14 hb3
  clear dc13 c13
  have uc15 := c15
  simp only [At, Own, Nat.reduceAdd, and_true] at uc15
  go_wp2
  go_ret
  refine ⟨rfl, ?_⟩
  repeat (first | with_reducible exact hB16 | with_reducible refine bel_alloc ?_ _ | refine Below.setCell ?_ (by first | (simp; done) | (simp; omega) | omega) _)

set_option maxRecDepth 100000 in
theorem q5gcd (z : Int) (d g : Nat) (w : World) (hd : 2 ≤ d) (hg : Nat.gcd z.natAbs d = g) (hg1 : g ≠ 1) (h1 : Pl.L z.natAbs ≤ 67108864) (h2 : Pl.L d ≤ 67108864) :
    Calls Tryz.prog 59 #[.agg #[.bool (ng z), .string (mg z.natAbs), .bool false, .string (mg d)]] w fun e w' => e = .returned (.int .i64 5) ∧ Below w.heap.size w w' := by
  have EQ0 := fun W => eqI_in false false d 0 W
  rw [decide_eq_false (by omega), mg_zero] at EQ0
  simp only [Bool.and_false] at EQ0
  have EQ1 := fun W => eqI_in false false g 1 W
  rw [decide_eq_false hg1] at EQ1
  simp only [Bool.and_false] at EQ1
  have KCMP : Hid (∀ W, Calls Tryz.prog 89 #[nv d, nv 1] W fun e w' => e = .returned (.int .i64 1) ∧ Below W.heap.size W w') := Lib.hid (fun W => by
    have h := icmp_any d 1 W
    have e1 : iv (d : Int) = nv d := by simp [iv, nv, ng]
    have e2 : iv (1 : Int) = nv 1 := by simp [iv, nv, ng]
    have e3 : cmpZ (d : Int) 1 = 1 := by unfold cmpZ; rw [if_neg (by omega), if_pos (by omega)]
    rwa [e1, e2, e3] at h)
  have KGCD : Hid (∀ W, Calls Tryz.prog 91 #[.agg #[.bool (ng z), .string (mg z.natAbs)], nv d] W fun e w' => e = .returned (nv g) ∧ Below W.heap.size W w') := Lib.hid (fun W => by
    have h := gcd_any (ng z) false z.natAbs d W h1 h2
    rwa [hg] at h)
  clear hd hg h1 h2 hg1
  go_enter Tryz.func59, Tryz.ntmps59
  have K1 := Lib.hid (fun W => icheck_any z W)
  go_wp2_with (fail)
  refine calls_named ?_
  intro W1 hW1
  have hL1 : Below w.heap.size w W1 := by
    rw [hW1]
    repeat (first | with_reducible exact Below.refl _ _ | with_reducible refine bel_alloc ?_ _ | refine Below.setCell ?_ (by first | (simp; done) | (simp; omega) | omega) _)
  have c2 : Own W1 (w.heap.size) 0 [.bool (ng z), .string (mg z.natAbs), .bool false, .string (mg d)] := by
    rw [hW1]
    first
    | (repeat (first | (with_reducible refine own_new (l := [.bool (ng z), .string (mg z.natAbs), .bool false, .string (mg d)]) ?_; (simp; done)) | with_reducible refine Own.alloc ?_ _ | refine Own.far _ _ (by first | (simp; done) | (simp [*]; done) | (simp; omega)) ?_)); done
    | simp [Own, go_sem]
  have hB3 : Below w.heap.size w W1 := by
    rw [hW1]
    repeat (first | with_reducible exact Below.refl _ _ | with_reducible refine bel_alloc ?_ _ | refine Below.setCell ?_ (by first | (simp; done) | (simp; omega) | omega) _)
  clear hW1 hL1
  with_reducible refine (K1.out _).mono ?_
  rintro e w1 ⟨rfl, hb1⟩
  have c4 := c2.up hb1
  have hB5 : Below w.heap.size w w1 := bel_up hB3 hb1
  clear c2
  have uc4 := c4
  simp only [At, Own, Nat.reduceAdd, and_true] at uc4
  have K6 := Lib.hid (fun W => icheckD_any d W)
  go_wp2_with (fail)
  refine calls_named ?_
  intro W2 hW2
  have hL2 : Below w1.heap.size w1 W2 := by
    rw [hW2]
    repeat (first | with_reducible exact Below.refl _ _ | with_reducible refine bel_alloc ?_ _ | refine Below.setCell ?_ (by first | (simp; done) | (simp; omega) | omega) _)
  have c7 := c4.up hL2
  have hB8 : Below w.heap.size w W2 := by
    rw [hW2]
    repeat (first | with_reducible exact hB5 | with_reducible refine bel_alloc ?_ _ | refine Below.setCell ?_ (by first | (simp; done) | (simp; omega) | omega) _)
  clear hW2 hL2 uc4 c4
  with_reducible refine (K6.out _).mono ?_
  rintro e w2 ⟨rfl, hb2⟩
  have c9 := c7.up hb2
  have hB10 : Below w.heap.size w w2 := bel_up hB8 hb2
  clear c7
  have uc9 := c9
  simp only [At, Own, Nat.reduceAdd, and_true] at uc9
  have K11 := Lib.hid (fun W => one_any W)
  have K12 := Lib.hid (fun W => KCMP.out W)
  have K13 := Lib.hid (fun W => KGCD.out W)
  go_wp2_with fail
  refine wp_named ?_
  intro W3 hW3
  have hL3 : Below w2.heap.size w2 W3 := by
    rw [hW3]
    repeat (first | with_reducible exact Below.refl _ _ | with_reducible refine bel_alloc ?_ _ | refine Below.setCell ?_ (by first | (simp; done) | (simp; omega) | omega) _)
  have c14 := c9.up hL3
  have hB15 : Below w.heap.size w W3 := by
    rw [hW3]
    repeat (first | with_reducible exact hB10 | with_reducible refine bel_alloc ?_ _ | refine Below.setCell ?_ (by first | (simp; done) | (simp; omega) | omega) _)
  clear hW3 hL3 uc9 c9
  have dc14 := fun p : Bel W3 => c14.bel p
  simp only [At, Own, Nat.reduceAdd, and_true] at dc14
  refine wp_region_all (by kernel_rfl) (by kernel_rfl) ?_
  repeat (go_big_quiet_step (first | (go_at_call 90; with_reducible exact Calls.bel (K11.out _)) | (go_at_call 89; with_reducible exact Calls.bel (K12.out _)) | (go_at_call 91; with_reducible exact Calls.bel (K13.out _))))
  refine wpQuiet_nil ?_
  intro w3 hb3
  have c16 := c14.up hb3
  have hB17 : Below w.heap.size w w3 := bel_up hB15 hb3
  clear dc14 c14
  have uc16 := c16
  simp only [At, Own, Nat.reduceAdd, and_true] at uc16
  go_wp2
  go_ret
  refine ⟨rfl, ?_⟩
  repeat (first | with_reducible exact hB17 | with_reducible refine bel_alloc ?_ _ | refine Below.setCell ?_ (by first | (simp; done) | (simp; omega) | omega) _)


/-- Two short pairs of a sign and a string: a fraction in its least terms, or Check answers 5. -/
theorem q_cases (a : Bool) (x : ByteArray) (b : Bool) (y : ByteArray) (hs : x.size + y.size ≤ 20) :
    (∃ q : Rat, Pl.Sz 20 q ∧ a = ng q.num ∧ x = mg q.num.natAbs ∧ b = false ∧ y = mg (dn q)) ∨
      Hid (∀ w, Calls Tryz.prog 59 #[.agg #[.bool a, .string x, .bool b, .string y]] w fun e w' => e = .returned (.int .i64 5) ∧ Below w.heap.size w w') := by
  rcases int_cases a x with ⟨z, rfl, rfl⟩ | hx
  · rcases int_cases b y with ⟨e, rfl, rfl⟩ | hy
    · rw [mg_size, mg_size] at hs
      by_cases h0 : e = 0
      · subst h0
        refine .inl ⟨(z : Rat), ⟨?_, ?_⟩, ?_, ?_, rfl, ?_⟩
        · rw [Rat.num_intCast]; omega
        · rw [Rat.den_intCast]; decide
        · rw [Rat.num_intCast]
        · rw [Rat.num_intCast]
        · rw [dn_one (Rat.den_intCast z)]; rfl
      · by_cases hn : e < 0
        · exact .inr (Lib.hid fun w => q5neg z e w hn)
        · obtain ⟨d, rfl⟩ := Int.eq_ofNat_of_zero_le (Int.not_lt.1 hn)
          have e1 : ng (d : Int) = false := by unfold ng; simp
          rw [e1, Int.natAbs_natCast]
          rw [Int.natAbs_natCast] at hs
          by_cases h1 : d = 1
          · subst h1; exact .inr (Lib.hid fun w => q5one z w)
          · have h2 : 2 ≤ d := by omega
            by_cases hg : Nat.gcd z.natAbs d = 1
            · refine .inl ⟨⟨z, d, by omega, hg⟩, ⟨?_, ?_⟩, rfl, rfl, rfl, ?_⟩
              · show Pl.L z.natAbs ≤ 20; omega
              · show Pl.L d ≤ 20; omega
              · unfold dn; rw [if_neg h1]
            · exact .inr (Lib.hid fun w => q5gcd z d _ w h2 rfl hg (by omega) (by omega))
    · exact .inr (Lib.hid fun w => q5b z b y w hy)
  · exact .inr (Lib.hid fun w => q5a a x b y w hx)
end Go.Proofs.YtldfencaoaikgaaGreatDoor
