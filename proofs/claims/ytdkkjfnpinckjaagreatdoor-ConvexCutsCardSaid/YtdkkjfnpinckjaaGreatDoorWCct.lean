/-
 Contracts for convex sets: Cut; lengths of the numbers of cuts and areas.
-/
import Derived.Test.YtdkkjfnpinckjaaGreatDoorWCcu
import Derived.Test.YtdkkjfnpinckjaaGreatDoorWCutA
set_option maxRecDepth 100000
set_option linter.unusedSimpArgs false
set_option linter.unusedVariables false
namespace Go.Proofs.YtdkkjfnpinckjaaGreatDoor
open Go Go.RowKit

theorem cutE_sz1 {I J : Nat} {l : List (Rat × Rat)} {a b : Rat × Rat} (ha : Pl.SzP I a) (hb : Pl.SzP I b) (hs : ∀ q ∈ l, Pl.SzP J q) : ∀ q ∈ Pl.cutE l a b, Pl.SzP (18 * I + 9 * J + 18) q := by
 intro q hq
 rcases Pl.cutE_mem.1 hq with ⟨h, _⟩ | ⟨s, h1, _, rfl⟩
 ·exact (hs q h).mono (by omega)
 ·obtain ⟨m1, m2⟩ := Pl.edges_mem s h1
  exact Pl.crs_sz ha hb (hs _ m1) (hs _ m2)
theorem area_sz {S : Nat} {l : List (Rat × Rat)} (hS1 : 1 ≤ S) (hS : S ≤ 1000) (hs : ∀ q ∈ l, Pl.SzP S q) : ∀ k, Pl.Sz (1 + 4010 * k) (Pl.areaF l k)
 | 0 => Pl.sz_zero
 | k + 1 => by
  have g : ∀ i, Pl.SzP S (l.getD i (0, 0)) := fun i => by
   rcases Nat.lt_or_ge i l.length with hi | hi
   ·rw [Pl.getD_of (List.getElem?_eq_getElem hi)]; exact hs _ (List.getElem_mem hi)
   ·rw [List.getD_eq_getElem?_getD, List.getElem?_eq_none hi]
    exact ⟨Pl.sz_zero.mono hS1, Pl.sz_zero.mono hS1⟩
  rw [Pl.areaF]
  exact ((area_sz hS1 hS hs k).add ((g _).cross (g _))).mono (by omega)

theorem cCut_ok {I J K : Nat} (v : Value) (l : List (Rat × Rat)) (a b : Rat × Rat) (w : World) (h : PV w v l) (hs : ∀ q ∈ l, Pl.SzP J q) (hn : l.length ≤ 400000) (ha : Pl.SzP I a) (hb : Pl.SzP I b) (hIJ : 18 * I + 6 * J + 16 ≤ 100000) (hC : ∀ q ∈ Pl.cutE l a b, Pl.SzP K q) (hK : K ≤ 100000) (hab : a ≠ b) :
 Calls Tryz.prog 34 #[v, .agg #[.bool (ng a.1.num), .string (mg a.1.num.natAbs), .bool false, .string (mg (dn a.1)), .bool (ng a.2.num), .string (mg a.2.num.natAbs), .bool false, .string (mg (dn a.2)), .bool (ng b.1.num), .string (mg b.1.num.natAbs), .bool false, .string (mg (dn b.1)), .bool (ng b.2.num), .string (mg b.2.num.natAbs), .bool false, .string (mg (dn b.2))]] w fun e w' => ∃ v', e = .returned (.tuple #[v', .int .i64 0]) ∧ PV w' v' (Pl.wrap (Pl.cutE l a b)) ∧ Below w.heap.size w w' := by
 obtain ⟨A, c, rfl, hc, hm, hx⟩ := h.open_
 have HV := Lib.hid h
 have HX := Lib.hid hx
 have HS := Lib.hid hs
 have HC := Lib.hid hC
 have EQ0 := fun W => eqP_in a b W
 rw [decide_eq_false hab] at EQ0
 clear hC hab
 have HF : Hid (l.take l.length = l) := Lib.hid List.take_length
 generalize hN : l.length = N at *
 have HN := Lib.hid hN
 clear h hx hs hN
 go_enter Tryz.func34, Tryz.ntmps34
 have K1 := Lib.hid (fun W v (h : PV W v l) => ccut_any v l a b W h HS.out (by rw [HN.out]; exact hn) ha hb hIJ HC.out hK)
 go_wp2_with (fail)
 refine calls_named ?_
 intro W1 hW1
 have hL1 : Below w.heap.size w W1 := by
  rw [hW1]
  exact bB
 have c2 : Own W1 (w.heap.size) 0 [.bool (ng a.1.num), .string (mg a.1.num.natAbs), .bool false, .string (mg (dn a.1)), .bool (ng a.2.num), .string (mg a.2.num.natAbs), .bool false, .string (mg (dn a.2)), .bool (ng b.1.num), .string (mg b.1.num.natAbs), .bool false, .string (mg (dn b.1)), .bool (ng b.2.num), .string (mg b.2.num.natAbs), .bool false, .string (mg (dn b.2))] := by
  rw [hW1]
  first
  | (repeat (first | (with_reducible refine own_new (l := [.bool (ng a.1.num), .string (mg a.1.num.natAbs), .bool false, .string (mg (dn a.1)), .bool (ng a.2.num), .string (mg a.2.num.natAbs), .bool false, .string (mg (dn a.2)), .bool (ng b.1.num), .string (mg b.1.num.natAbs), .bool false, .string (mg (dn b.1)), .bool (ng b.2.num), .string (mg b.2.num.natAbs), .bool false, .string (mg (dn b.2))]) ?_; (simp; done)) | with_reducible refine Own.alloc ?_ _ | refine Own.far _ _ (by first | (simp; done) | (simp [*]; done) | (simp; omega)) ?_)); done
  | simp [Own, go_sem]
 have hB3 : Below w.heap.size w W1 := by
  rw [hW1]
  exact bB
 clear hW1 hL1
 with_reducible refine (K1.out _ _ (HV.out.up hB3)).mono ?_
 rintro e w1 ⟨v1, rfl, hv1, hb1⟩
 have c4 := c2.up hb1
 have hB5 : Below w.heap.size w w1 := bel_up hB3 hb1
 clear c2
 have PW1 := Lib.hid hv1
 clear hv1
 have uc4 := c4
 simp only [At, Own, Nat.reduceAdd, and_true] at uc4
 go_wp2
 go_ret2
 exact ⟨_, rfl, (by skip; exact PW1.out), (by exact bB)⟩

theorem cCut_zero {I : Nat} (v : Value) (a : Rat × Rat) (w : World) (ha : Pl.SzP I a) :
 Calls Tryz.prog 34 #[v, .agg #[.bool (ng a.1.num), .string (mg a.1.num.natAbs), .bool false, .string (mg (dn a.1)), .bool (ng a.2.num), .string (mg a.2.num.natAbs), .bool false, .string (mg (dn a.2)), .bool (ng a.1.num), .string (mg a.1.num.natAbs), .bool false, .string (mg (dn a.1)), .bool (ng a.2.num), .string (mg a.2.num.natAbs), .bool false, .string (mg (dn a.2))]] w fun e w' => e = .returned (.tuple #[.slice none 0 0, .int .i64 6]) ∧ Below w.heap.size w w' := by
 have EQ0 := fun W => eqP_in a a W
 rw [decide_eq_true rfl] at EQ0
 go_enter Tryz.func34, Tryz.ntmps34
 go_wp2
 go_ret2
 refine ⟨rfl, ?_⟩
 exact bB
end Go.Proofs.YtdkkjfnpinckjaaGreatDoor
