/-
  The network of the example.
  The example of the statements is as they say.
-/
import Derived.Test.YtldfencaoaikgaaGreatDoorUNwf
set_option linter.unusedSimpArgs false
set_option linter.unusedVariables false
namespace Go.Proofs.YtldfencaoaikgaaGreatDoor
open Go Go.RowKit Nw

def exN : Net := ⟨[⟨1, 0, 0⟩, ⟨2, 3, 4⟩, ⟨3, 3, 0⟩], [⟨1, 1, 2, 5, 1, false⟩, ⟨2, 2, 3, 6, 1, true⟩, ⟨3, 3, 1, 3, 1, true⟩]⟩
theorem sl_lit {w : World} {b n K : Nat} {xs : List Value} (h : Own w b 0 xs) (hl : xs.length = n * K) (hn : n ≤ 1000) : Sl w (.slice (some ⟨b, 0, none⟩) n n) n K xs :=
  ⟨hl, .inr ⟨b, 0, n, rfl, Nat.le_refl _, by simp [maxLen]; omega, fun j u hj => by simpa using At.get h.at_ hj⟩⟩
set_option maxRecDepth 100000 in
theorem example_any (w : World) : Calls Tryz.prog 51 #[] w fun e w' => ∃ v, e = .returned v ∧ NV w' v exN ∧ Below w.heap.size w w' := by
  go_enter Tryz.func51, Tryz.ntmps51
  go_wp2
  refine bodyPost_ret (v := .agg #[.slice (some ⟨w.heap.size + 1, 0, none⟩) 3 3, .slice (some ⟨w.heap.size + 2, 0, none⟩) 3 3]) (by simp [results, Tryz.results51, go_sem]) rfl ⟨_, rfl, ⟨_, _, rfl, ?_, ?_⟩, ?_⟩
  · refine Or.inl (sl_lit (n := 3) (show Own _ _ 0 [.int .i64 1, .int .i64 0, .int .i64 0, .int .i64 2, .int .i64 3, .int .i64 4, .int .i64 3, .int .i64 3, .int .i64 0] from ?_) rfl (by decide))
    repeat (first | (with_reducible refine own_new (l := [.int .i64 1, .int .i64 0, .int .i64 0, .int .i64 2, .int .i64 3, .int .i64 4, .int .i64 3, .int .i64 3, .int .i64 0]) ?_; (simp; done)) | with_reducible refine Own.alloc ?_ _ | refine Own.far _ _ (by first | (simp; done) | (simp; omega)) ?_)
  · refine Or.inl (sl_lit (n := 3) (show Own _ _ 0 [.int .i64 1, .int .i64 1, .int .i64 2, .int .i64 5, .int .i64 1, .bool false, .int .i64 2, .int .i64 2, .int .i64 3, .int .i64 6, .int .i64 1, .bool true, .int .i64 3, .int .i64 3, .int .i64 1, .int .i64 3, .int .i64 1, .bool true] from ?_) rfl (by decide))
    repeat (first | (with_reducible refine own_new (l := [.int .i64 1, .int .i64 1, .int .i64 2, .int .i64 5, .int .i64 1, .bool false, .int .i64 2, .int .i64 2, .int .i64 3, .int .i64 6, .int .i64 1, .bool true, .int .i64 3, .int .i64 3, .int .i64 1, .int .i64 3, .int .i64 1, .bool true]) ?_; (simp; done)) | with_reducible refine Own.alloc ?_ _ | refine Own.far _ _ (by first | (simp; done) | (simp; omega)) ?_)
  · repeat (first | with_reducible exact Below.refl _ _ | with_reducible refine bel_alloc ?_ _ | refine Below.setCell ?_ (by first | (simp; done) | (simp; omega) | omega) _)
/-! ### what the statements' example says, in the plain -/
theorem ex_check : checkE exN = 0 := by decide
theorem ex_vld : Vld exN := vld_of ex_check
theorem ex_next1 : next exN 1 = [2] := by decide
theorem ex_next2 : next exN 2 = [1, 3] := by decide
theorem ex_next3 : next exN 3 = [1] := by decide
theorem ex_all {a : Int} (h : a ∈ ids exN) : Eqv exN 1 a := by
  have h12 : Rch exN 1 2 := .step .refl (by rw [ex_next1]; simp)
  have h13 : Rch exN 1 3 := .step h12 (by rw [ex_next2]; simp)
  have h21 : Rch exN 2 1 := .step .refl (by rw [ex_next2]; simp)
  have h31 : Rch exN 3 1 := .step .refl (by rw [ex_next3]; simp)
  simp only [ids, exN, List.map_cons, List.map_nil, List.mem_cons, List.not_mem_nil, or_false] at h
  rcases h with rfl | rfl | rfl
  · exact .refl _ _
  · exact ⟨h12, h21⟩
  · exact ⟨h13, h31⟩
theorem ex_groups : (groupsE exN).length = 1 := by
  have h1 : rep exN 1 = true := rep_true.2 fun b hb hlt => by simp [ids, exN] at hb; omega
  have h2 : rep exN 2 = false := rep_false.2 fun h => h 1 (by decide) (by decide) (ex_all (by decide))
  have h3 : rep exN 3 = false := rep_false.2 fun h => h 1 (by decide) (by decide) (ex_all (by decide))
  have e : ids exN = [1, 2, 3] := rfl
  unfold groupsE reps
  rw [e]
  simp [h1, h2, h3]
def exR : Rd := ⟨1, 1, 2, 5, 1, false⟩
def exP : Pc := ⟨1, (5 : Rat) / 2⟩
theorem ex_at : Nw.At exN exR exP := ⟨rfl, by decide +kernel, by decide +kernel⟩
theorem ex_point : (pointN exN exR exP.q).2 = (2 : Int) := by decide +kernel
theorem ex_exits : exitsE exR exP.q = [⟨1, (5 : Rat) / 2⟩, ⟨2, (5 : Rat) / 2⟩] := by
  have h : atR exR exP.q = none := by decide +kernel
  unfold exitsE; rw [h]
  have e : ((exR.l : Rat) - exP.q) = (5 : Rat) / 2 := by decide +kernel
  simp only [e]
  rfl
end Go.Proofs.YtldfencaoaikgaaGreatDoor

namespace Go.Proofs.YtldfencaoaikgaaGreatDoor
open Go Go.RowKit Nw

theorem half_any (hf : Rat) (w : World) (h : hf = (5 : Rat) / 2) : Calls Tryz.prog 52 #[.int .i64 5, .int .i64 2] w fun e w' => e = .returned (.tuple #[qv hf, .int .i64 0]) ∧ Below w.heap.size w w' := by
  have e : hf = Rat.divInt 5 2 := by rw [h]; decide +kernel
  rw [e]
  exact fromInts_any 5 2 w (by decide) (by decide) (by decide) (by decide) (by decide)
theorem at_ex (q5 : Rat) (v : Value) (w : World) (h : NV w v exN) (hq : q5 = ((5 : Int) : Rat)) : Calls Tryz.prog 42 #[v, .int .i64 2] w fun e w' => e = .returned (.tuple #[.agg #[.int .i64 1, .bool (ng q5.num), .string (mg q5.num.natAbs), .bool false, .string (mg (dn q5))], .int .i64 0]) ∧ Below w.heap.size w w' :=
  nat_some exN exR q5 ⟨2, 3, 4⟩ 2 v w h ex_vld rfl rfl (by rw [hq]; decide +kernel)

theorem check_ex (v : Value) (w : World) (h : NV w v exN) : Calls Tryz.prog 14 #[v] w fun e w' => e = .returned (.int .i64 0) ∧ Below w.heap.size w w' := by
  have := ncheck_any exN v w h
  rwa [ex_check] at this
theorem groups_ex (v : Value) (w : World) (h : NV w v exN) : Calls Tryz.prog 26 #[v] w fun e w' => (∃ A c, e = .returned (.slice A 1 c)) ∧ Below w.heap.size w w' := by
  have := groups_len exN v w h ex_vld
  rwa [ex_groups] at this

set_option maxRecDepth 100000 in
set_option maxHeartbeats 4000000 in
theorem known_any (w0 : World) :
    Calls Tryz.prog 13 #[] w0 fun e w' => e = .returned (.bool true) ∧ Below w0.heap.size w0 w' := by
  obtain ⟨hf, hhf⟩ : ∃ q : Rat, q = (5 : Rat) / 2 := ⟨_, rfl⟩
  obtain ⟨q5, hq5⟩ : ∃ q : Rat, q = ((5 : Int) : Rat) := ⟨_, rfl⟩
  obtain ⟨q2, hq2⟩ : ∃ q : Rat, q = ((2 : Int) : Rat) := ⟨_, rfl⟩
  obtain ⟨x, hx⟩ : ∃ x : Rat × Rat, x = pointN exN exR (Pc.mk 1 hf).q := ⟨_, rfl⟩
  have ZHF : Pl.Sz 2000 hf := by rw [hhf]; exact ⟨by decide +kernel, by decide +kernel⟩
  have HAT : Hid (Nw.At exN exR (Pc.mk 1 hf)) := Lib.hid (by rw [hhf]; exact ex_at)
  have HVX := Lib.hid ex_vld
  have hx2 : x.2 = q2 := by rw [hx, hq2, hhf]; exact ex_point
  have HX2 := Lib.hid hx2
  have HEX : Hid (exitsE exR (Pc.mk 1 hf).q = [⟨1, hf⟩, ⟨2, hf⟩]) := Lib.hid (by rw [hhf]; exact ex_exits)
  have HX := Lib.hid hx
  have HHF := Lib.hid hhf
  have HQ5 := Lib.hid hq5
  have HQ2 := Lib.hid hq2
  clear hx hx2 hhf hq5 hq2
  go_enter Tryz.func13, Tryz.ntmps13
  go_wp2_with (fail)
  with_reducible refine (example_any w0).mono ?_
  rintro e wx1 ⟨v1, rfl, hv1, hbx1⟩
  obtain ⟨va, vb, rfl, hnb, hrb⟩ := hv1
  obtain ⟨An, cn, hva, -⟩ := hnb.open_
  obtain ⟨Ar, cr, hvb, -⟩ := hrb.open_
  have hva2 : va = .slice An 3 cn := hva
  have hvb2 : vb = .slice Ar 3 cr := hvb
  clear hva hvb
  subst hva2
  subst hvb2
  have HNV1 : Hid (NV wx1 (.agg #[.slice An 3 cn, .slice Ar 3 cr]) exN) := Lib.hid ⟨_, _, rfl, hnb, hrb⟩
  clear hnb hrb
  go_upto_region 2 with fail
  refine wp_named ?_
  intro w hw
  have hLw : Below wx1.heap.size wx1 w := by
    rw [hw]
    repeat (first | with_reducible exact Below.refl _ _ | with_reducible refine bel_alloc ?_ _ | refine Below.setCell ?_ (by first | (simp; done) | (simp; omega) | omega) _)
  have cb1 : Own w wx1.heap.size 0 [.slice An 3 cn, .slice Ar 3 cr] := by
    rw [hw]
    first
    | (repeat (first | (with_reducible refine own_new (l := [.slice An 3 cn, .slice Ar 3 cr]) ?_; (simp; done)) | with_reducible refine Own.alloc ?_ _)); done
    | simp [Own, go_sem]
  have hBw : Below w0.heap.size w0 w := bel_up hbx1 hLw
  have HNV := Lib.hid (HNV1.out.up hLw)
  have hsw1 := cb1.lt
  clear hw hLw HNV1 hbx1
  have K1 := Lib.hid (fun W => half_any hf W HHF.out)
  have ucb1 := cb1
  simp only [At, Own, Nat.reduceAdd, and_true] at ucb1
  go_wp2_with (fail)
  refine calls_named ?_
  intro W1 hW1
  have hL1 : Below w.heap.size w W1 := by
    rw [hW1]
    repeat (first | with_reducible exact Below.refl _ _ | with_reducible refine bel_alloc ?_ _ | refine Below.setCell ?_ (by first | (simp; done) | (simp; omega) | omega) _)
  have c2 := cb1.up hL1
  have hB3 : Below w.heap.size w W1 := by
    rw [hW1]
    repeat (first | with_reducible exact Below.refl _ _ | with_reducible refine bel_alloc ?_ _ | refine Below.setCell ?_ (by first | (simp; done) | (simp; omega) | omega) _)
  clear hW1 hL1 ucb1 cb1
  with_reducible refine (K1.out _).mono ?_
  rintro e w1 ⟨rfl, hb1⟩
  have c4 := c2.up hb1
  have hB5 : Below w.heap.size w w1 := bel_up hB3 hb1
  clear c2
  have ne6_ : wx1.heap.size < w1.heap.size := by have := c4.lt; omega
  have ne6 := Nat.ne_of_lt ne6_
  have ne6' := ne6.symm
  have uc4 := c4
  simp only [At, Own, Nat.reduceAdd, and_true] at uc4
  have ne7_ : wx1.heap.size < w1.heap.size + 1 := by have := c4.lt; omega
  have ne7 := Nat.ne_of_lt ne7_
  have ne7' := ne7.symm
  have K8 := Lib.hid (fun W (hv : NV W (.agg #[((.slice An 3 cn)), ((.slice Ar 3 cr))]) exN) => point_any exN exR (Pc.mk 1 hf) x _ W hv HVX.out HAT.out ZHF HX.out)
  go_wp2_with (fail)
  refine calls_named ?_
  intro W2 hW2
  have hL2 : Below w1.heap.size w1 W2 := by
    rw [hW2]
    repeat (first | with_reducible exact Below.refl _ _ | with_reducible refine bel_alloc ?_ _ | refine Below.setCell ?_ (by first | (simp; done) | (simp; omega) | omega) _)
  have c9 := c4.up hL2
  have c10 : Own W2 (w1.heap.size) 0 [.bool (ng hf.num), .string (mg hf.num.natAbs), .bool false, .string (mg (dn hf))] := by
    rw [hW2]
    first
    | (repeat (first | (with_reducible refine own_new (l := [.bool (ng hf.num), .string (mg hf.num.natAbs), .bool false, .string (mg (dn hf))]) ?_; (simp; done)) | with_reducible refine Own.alloc ?_ _ | refine Own.far _ _ (by first | (simp; done) | (simp [*]; done) | (simp; omega)) ?_)); done
    | simp [Own, go_sem, uc4, ne6, ne6', ne6_, ne7, ne7', ne7_]
  have c11 : Own W2 (w1.heap.size + 1) 0 [.int .i64 1, .bool (ng hf.num), .string (mg hf.num.natAbs), .bool false, .string (mg (dn hf))] := by
    rw [hW2]
    first
    | (repeat (first | (with_reducible refine own_new (l := [.int .i64 1, .bool (ng hf.num), .string (mg hf.num.natAbs), .bool false, .string (mg (dn hf))]) ?_; (simp; done)) | with_reducible refine Own.alloc ?_ _ | refine Own.far _ _ (by first | (simp; done) | (simp [*]; done) | (simp; omega)) ?_)); done
    | simp [Own, go_sem, uc4, ne6, ne6', ne6_, ne7, ne7', ne7_]
  have hB12 : Below w.heap.size w W2 := by
    rw [hW2]
    repeat (first | with_reducible exact hB5 | with_reducible refine bel_alloc ?_ _ | refine Below.setCell ?_ (by first | (simp; done) | (simp; omega) | omega) _)
  clear hW2 hL2 uc4 c4
  with_reducible refine (K8.out _ (HNV.out.up hB12)).mono ?_
  rintro e w2 ⟨rfl, hb2⟩
  have c13 := c9.up hb2
  have c14 := c10.up hb2
  have c15 := c11.up hb2
  have hB16 : Below w.heap.size w w2 := bel_up hB12 hb2
  clear c9 c10 c11
  have ne17_ : wx1.heap.size < w2.heap.size := by have := c13.lt; omega
  have ne17 := Nat.ne_of_lt ne17_
  have ne17' := ne17.symm
  have ne18_ : w1.heap.size < w2.heap.size := by have := c14.lt; omega
  have ne18 := Nat.ne_of_lt ne18_
  have ne18' := ne18.symm
  have ne19_ : w1.heap.size + 1 < w2.heap.size := by have := c15.lt; omega
  have ne19 := Nat.ne_of_lt ne19_
  have ne19' := ne19.symm
  have uc13 := c13; have uc14 := c14; have uc15 := c15
  simp only [At, Own, Nat.reduceAdd, and_true] at uc13 uc14 uc15
  have K20 := Lib.hid (fun W (hv : NV W (.agg #[((.slice An 3 cn)), ((.slice Ar 3 cr))]) exN) => exits_any exN exR (Pc.mk 1 hf) _ W hv HVX.out HAT.out ZHF)
  go_wp2_with (fail)
  refine calls_named ?_
  intro W3 hW3
  have hL3 : Below w2.heap.size w2 W3 := by
    rw [hW3]
    repeat (first | with_reducible exact Below.refl _ _ | with_reducible refine bel_alloc ?_ _ | refine Below.setCell ?_ (by first | (simp; done) | (simp; omega) | omega) _)
  have c21 := c13.up hL3
  have c22 := c14.up hL3
  have c23 := c15.up hL3
  have c24 : Own W3 (w2.heap.size) 0 [.bool (ng x.1.num), .string (mg x.1.num.natAbs), .bool false, .string (mg (dn x.1)), .bool (ng x.2.num), .string (mg x.2.num.natAbs), .bool false, .string (mg (dn x.2))] := by
    rw [hW3]
    first
    | (repeat (first | (with_reducible refine own_new (l := [.bool (ng x.1.num), .string (mg x.1.num.natAbs), .bool false, .string (mg (dn x.1)), .bool (ng x.2.num), .string (mg x.2.num.natAbs), .bool false, .string (mg (dn x.2))]) ?_; (simp; done)) | with_reducible refine Own.alloc ?_ _ | refine Own.far _ _ (by first | (simp; done) | (simp [*]; done) | (simp; omega)) ?_)); done
    | simp [Own, go_sem, uc13, uc14, uc15, ne17, ne17', ne17_, ne18, ne18', ne18_, ne19, ne19', ne19_]
  have hB25 : Below w.heap.size w W3 := by
    rw [hW3]
    repeat (first | with_reducible exact hB16 | with_reducible refine bel_alloc ?_ _ | refine Below.setCell ?_ (by first | (simp; done) | (simp; omega) | omega) _)
  clear hW3 hL3 uc13 uc14 uc15 c13 c14 c15
  with_reducible refine (K20.out _ (HNV.out.up hB25)).mono ?_
  rintro e w3 ⟨v3, rfl, hv3, hb3⟩
  have c26 := c21.up hb3
  have c27 := c22.up hb3
  have c28 := c23.up hb3
  have c29 := c24.up hb3
  have hB30 : Below w.heap.size w w3 := bel_up hB25 hb3
  clear c21 c22 c23 c24
  have PW3 := Lib.hid hv3
  clear hv3
  have uc26 := c26; have uc27 := c27; have uc28 := c28; have uc29 := c29
  simp only [At, Own, Nat.reduceAdd, and_true] at uc26 uc27 uc28 uc29
  have K31 := Lib.hid (fun W (hv : NV W (.agg #[((.slice An 3 cn)), ((.slice Ar 3 cr))]) exN) => at_ex q5 _ W hv HQ5.out)
  go_wp2_with (fail)
  refine calls_named ?_
  intro W4 hW4
  have hL4 : Below w3.heap.size w3 W4 := by
    rw [hW4]
    repeat (first | with_reducible exact Below.refl _ _ | with_reducible refine bel_alloc ?_ _ | refine Below.setCell ?_ (by first | (simp; done) | (simp; omega) | omega) _)
  have c32 := c26.up hL4
  have c33 := c27.up hL4
  have c34 := c28.up hL4
  have c35 := c29.up hL4
  have hA36 := hL4
  have hB37 : Below w.heap.size w W4 := by
    rw [hW4]
    repeat (first | with_reducible exact hB30 | with_reducible refine bel_alloc ?_ _ | refine Below.setCell ?_ (by first | (simp; done) | (simp; omega) | omega) _)
  clear hW4 hL4 uc26 uc27 uc28 uc29 c26 c27 c28 c29
  with_reducible refine (K31.out _ (HNV.out.up hB37)).mono ?_
  rintro e w4 ⟨rfl, hb4⟩
  have c38 := c32.up hb4
  have c39 := c33.up hb4
  have c40 := c34.up hb4
  have c41 := c35.up hb4
  have hA42 := bel_up hA36 hb4
  have hB43 : Below w.heap.size w w4 := bel_up hB37 hb4
  clear c32 c33 c34 c35 hA36
  have an44 : w3.heap.size ≤ w4.heap.size := by have := hA42.size; omega
  have ne45_ : wx1.heap.size < w4.heap.size := by have := c38.lt; omega
  have ne45 := Nat.ne_of_lt ne45_
  have ne45' := ne45.symm
  have ne46_ : w1.heap.size < w4.heap.size := by have := c39.lt; omega
  have ne46 := Nat.ne_of_lt ne46_
  have ne46' := ne46.symm
  have ne47_ : w1.heap.size + 1 < w4.heap.size := by have := c40.lt; omega
  have ne47 := Nat.ne_of_lt ne47_
  have ne47' := ne47.symm
  have ne48_ : w2.heap.size < w4.heap.size := by have := c41.lt; omega
  have ne48 := Nat.ne_of_lt ne48_
  have ne48' := ne48.symm
  have uc38 := c38; have uc39 := c39; have uc40 := c40; have uc41 := c41
  simp only [At, Own, Nat.reduceAdd, and_true] at uc38 uc39 uc40 uc41
  go_upto_region 7 with fail
  refine wp_named ?_
  intro W5 hW5
  have hL5 : Below w4.heap.size w4 W5 := by
    rw [hW5]
    repeat (first | with_reducible exact Below.refl _ _ | with_reducible refine bel_alloc ?_ _ | refine Below.setCell ?_ (by first | (simp; done) | (simp; omega) | omega) _)
  have c49 := c38.up hL5
  have c50 := c39.up hL5
  have c51 := c40.up hL5
  have c52 := c41.up hL5
  have c53 : Own W5 (w4.heap.size) 0 [.int .i64 1, .bool (ng q5.num), .string (mg q5.num.natAbs), .bool false, .string (mg (dn q5))] := by
    rw [hW5]
    first
    | (repeat (first | (with_reducible refine own_new (l := [.int .i64 1, .bool (ng q5.num), .string (mg q5.num.natAbs), .bool false, .string (mg (dn q5))]) ?_; (simp; done)) | with_reducible refine Own.alloc ?_ _ | refine Own.far _ _ (by first | (simp; done) | (simp [*]; done) | (simp; omega)) ?_)); done
    | simp [Own, go_sem, uc38, uc39, uc40, uc41, ne45, ne45', ne45_, ne46, ne46', ne46_, ne47, ne47', ne47_, ne48, ne48', ne48_]
  have hA54 := bel_up hA42 hL5
  have hB55 : Below w.heap.size w W5 := by
    rw [hW5]
    repeat (first | with_reducible exact hB43 | with_reducible refine bel_alloc ?_ _ | refine Below.setCell ?_ (by first | (simp; done) | (simp; omega) | omega) _)
  clear hW5 hL5 uc38 uc39 uc40 uc41 c38 c39 c40 c41 hA42
  have hel := (PW3.out.up hA54)
  rw [HEX.out] at hel
  obtain ⟨Ae, ce, hve0, -, -, hxe⟩ := hel.open_
  have hve : v3 = .slice Ae 2 ce := hve0
  clear hve0
  subst hve
  clear hel
  obtain ⟨ge, oe, rfl, -⟩ := hxe 1 _ rfl
  have ce1 := LX.at_ hxe (show [En.mk 1 hf, En.mk 2 hf][1]? = some _ from rfl)
  have HSS : ∀ w' : World, Below W5.heap.size W5 w' → (w'.cell? ⟨wx1.heap.size, 0, none⟩ = some (((.slice An 3 cn))) ∧ w'.cell? ⟨wx1.heap.size, 1, none⟩ = some (((.slice Ar 3 cr))) ∧ w'.cell? ⟨w1.heap.size, 0, none⟩ = some (.bool (ng hf.num)) ∧ w'.cell? ⟨w1.heap.size, 1, none⟩ = some (.string (mg hf.num.natAbs)) ∧ w'.cell? ⟨w1.heap.size, 2, none⟩ = some (.bool false) ∧ w'.cell? ⟨w1.heap.size, 3, none⟩ = some (.string (mg (dn hf))) ∧ w'.cell? ⟨w2.heap.size, 0, none⟩ = some (.bool (ng x.1.num)) ∧ w'.cell? ⟨w2.heap.size, 1, none⟩ = some (.string (mg x.1.num.natAbs)) ∧ w'.cell? ⟨w2.heap.size, 2, none⟩ = some (.bool false) ∧ w'.cell? ⟨w2.heap.size, 3, none⟩ = some (.string (mg (dn x.1))) ∧ w'.cell? ⟨w2.heap.size, 4, none⟩ = some (.bool (ng x.2.num)) ∧ w'.cell? ⟨w2.heap.size, 5, none⟩ = some (.string (mg x.2.num.natAbs)) ∧ w'.cell? ⟨w2.heap.size, 6, none⟩ = some (.bool false) ∧ w'.cell? ⟨w2.heap.size, 7, none⟩ = some (.string (mg (dn x.2))) ∧ w'.cell? ⟨w4.heap.size, 0, none⟩ = some (.int .i64 1) ∧ w'.cell? ⟨w4.heap.size, 1, none⟩ = some (.bool (ng q5.num)) ∧ w'.cell? ⟨w4.heap.size, 2, none⟩ = some (.string (mg q5.num.natAbs)) ∧ w'.cell? ⟨w4.heap.size, 3, none⟩ = some (.bool false) ∧ w'.cell? ⟨w4.heap.size, 4, none⟩ = some (.string (mg (dn q5))) ∧ w'.cell? ⟨ge, oe + 5, none⟩ = some (.int .i64 2) ∧ w'.cell? ⟨ge, oe + 5 + 1, none⟩ = some (.bool (ng hf.num)) ∧ w'.cell? ⟨ge, oe + 5 + 2, none⟩ = some (.string (mg hf.num.natAbs)) ∧ w'.cell? ⟨ge, oe + 5 + 3, none⟩ = some (.bool false) ∧ w'.cell? ⟨ge, oe + 5 + 4, none⟩ = some (.string (mg (dn hf)))) := fun w' hb => by
    have qc49 := c49.up hb; have qc50 := c50.up hb; have qc52 := c52.up hb; have qc53 := c53.up hb
    have qce := kpE.up ce1 hb
    simp only [CEn, etc, At, Own, Nat.reduceAdd, Nat.reduceMul, Nat.add_assoc, and_true] at qc49 qc50 qc52 qc53 qce
    simp only [Nat.add_assoc, Nat.reduceAdd]
    simp [*]
  have EQ1 := fun W => eqQ_in x.2 q2 W
  rw [decide_eq_true HX2.out] at EQ1
  have EQ2 := fun W => eqEn_in (En.mk 2 hf) (En.mk 2 hf) W
  have EQ3 := fun W => eqPc_in (Pc.mk 1 q5) (Pc.mk 1 q5) W
  rw [decide_eq_true rfl] at EQ2 EQ3
  go_cut [0] (fun x0 wx => x0 = .bool true ∧ Below W5.heap.size W5 wx)
  case first =>
    have hu := HSS W5 (Below.refl _ _)
    go_region_held3 (fun w' => w'.cell? ⟨wx1.heap.size, 0, none⟩ = some (((.slice An 3 cn))) ∧ w'.cell? ⟨wx1.heap.size, 1, none⟩ = some (((.slice Ar 3 cr))) ∧ w'.cell? ⟨w1.heap.size, 0, none⟩ = some (.bool (ng hf.num)) ∧ w'.cell? ⟨w1.heap.size, 1, none⟩ = some (.string (mg hf.num.natAbs)) ∧ w'.cell? ⟨w1.heap.size, 2, none⟩ = some (.bool false) ∧ w'.cell? ⟨w1.heap.size, 3, none⟩ = some (.string (mg (dn hf))) ∧ w'.cell? ⟨w2.heap.size, 0, none⟩ = some (.bool (ng x.1.num)) ∧ w'.cell? ⟨w2.heap.size, 1, none⟩ = some (.string (mg x.1.num.natAbs)) ∧ w'.cell? ⟨w2.heap.size, 2, none⟩ = some (.bool false) ∧ w'.cell? ⟨w2.heap.size, 3, none⟩ = some (.string (mg (dn x.1))) ∧ w'.cell? ⟨w2.heap.size, 4, none⟩ = some (.bool (ng x.2.num)) ∧ w'.cell? ⟨w2.heap.size, 5, none⟩ = some (.string (mg x.2.num.natAbs)) ∧ w'.cell? ⟨w2.heap.size, 6, none⟩ = some (.bool false) ∧ w'.cell? ⟨w2.heap.size, 7, none⟩ = some (.string (mg (dn x.2))) ∧ w'.cell? ⟨w4.heap.size, 0, none⟩ = some (.int .i64 1) ∧ w'.cell? ⟨w4.heap.size, 1, none⟩ = some (.bool (ng q5.num)) ∧ w'.cell? ⟨w4.heap.size, 2, none⟩ = some (.string (mg q5.num.natAbs)) ∧ w'.cell? ⟨w4.heap.size, 3, none⟩ = some (.bool false) ∧ w'.cell? ⟨w4.heap.size, 4, none⟩ = some (.string (mg (dn q5))) ∧ w'.cell? ⟨ge, oe + 5, none⟩ = some (.int .i64 2) ∧ w'.cell? ⟨ge, oe + 5 + 1, none⟩ = some (.bool (ng hf.num)) ∧ w'.cell? ⟨ge, oe + 5 + 2, none⟩ = some (.string (mg hf.num.natAbs)) ∧ w'.cell? ⟨ge, oe + 5 + 3, none⟩ = some (.bool false) ∧ w'.cell? ⟨ge, oe + 5 + 4, none⟩ = some (.string (mg (dn hf)))) (refine HSS _ ?_ <;> (repeat (first | with_reducible exact Below.refl _ _ | with_reducible refine bel_alloc ?_ _ | with_reducible refine Below.drew ?_ | with_reducible refine bel_up ?_ (by with_reducible assumption)))) (first
      | (go_at_call 14; with_reducible refine (check_ex _ _ (HNV.out.up (bel_up hB55 (by (repeat (first | with_reducible exact Below.refl _ _ | with_reducible refine bel_alloc ?_ _ | with_reducible refine Below.drew ?_ | with_reducible refine bel_up ?_ (by with_reducible assumption))))))).mono ?_; rintro e v_1 ⟨rfl, hbq_1⟩)
      | (go_at_call 37; with_reducible refine (qfi_any 2 q2 _ HQ2.out (by decide) (by decide)).mono ?_; rintro e v_2 ⟨rfl, hbq_2⟩)
      | (go_at_call 37; with_reducible refine (qfi_any 5 q5 _ HQ5.out (by decide) (by decide)).mono ?_; rintro e v_3 ⟨rfl, hbq_3⟩)
      | (go_at_call 26; with_reducible refine (groups_ex _ _ (HNV.out.up (bel_up hB55 (by (repeat (first | with_reducible exact Below.refl _ _ | with_reducible refine bel_alloc ?_ _ | with_reducible refine Below.drew ?_ | with_reducible refine bel_up ?_ (by with_reducible assumption))))))).mono ?_; rintro e v_4 ⟨⟨Ag, cg, rfl⟩, hbq_4⟩))
    all_goals
      go_wp2_with fail
      go_meet
      exact ⟨rfl, by (repeat (first | with_reducible exact Below.refl _ _ | with_reducible refine bel_alloc ?_ _ | with_reducible refine Below.drew ?_ | with_reducible refine bel_up ?_ (by with_reducible assumption)))⟩
  case rest =>
    obtain ⟨rfl, hbz⟩ := hcut
    obtain ⟨wz, hwz⟩ : ∃ W_, W_ = wc := ⟨_, rfl⟩
    subst hwz
    clear HSS EQ1 EQ2 EQ3
    have c56 := c49.up hbz
    have c57 := c50.up hbz
    have c58 := c51.up hbz
    have c59 := c52.up hbz
    have c60 := c53.up hbz
    have hA61 := bel_up hA54 hbz
    have hB62 : Below w.heap.size w wz := bel_up hB55 hbz
    clear c49 c50 c51 c52 c53 hA54
    go_wp2
    go_ret
    exact ⟨rfl, bel_up hBw (by repeat (first | with_reducible exact hB62 | with_reducible refine bel_alloc ?_ _ | refine Below.setCell ?_ (by first | (simp; done) | (simp; omega) | omega) _))⟩
end Go.Proofs.YtldfencaoaikgaaGreatDoor
