/-
  The law: the first error of a network.
-/
import Derived.Test.YtldfencaoaikgaaGreatDoorUNi
set_option linter.unusedSimpArgs false
set_option linter.unusedVariables false
namespace Go.Proofs.YtldfencaoaikgaaGreatDoor
open Go Go.RowKit Nw

/-- One node's, one road's step of the check. -/
def nE (x : Nd) (b r : Int) : Int := if idE x.i b ≠ 0 then idE x.i b else if (wide x.x || wide x.y) = true then 2 else r
def rE (c : Int) (x : Rd) (b r : Int) : Int := if idE x.i b ≠ 0 then idE x.i b else if c ≠ 0 then c else r
theorem id_27 {n b : Int} (h : n < 1 ∨ 1073741824 < n) : idE n b = 27 := by unfold idE; rw [if_pos h]
theorem id_8 {n b : Int} (h1 : ¬ (n < 1 ∨ 1073741824 < n)) (h : n = b) : idE n b = 8 := by unfold idE; rw [if_neg h1, if_pos h]
theorem id_7 {n b : Int} (h1 : ¬ (n < 1 ∨ 1073741824 < n)) (h2 : ¬ n = b) (h : n < b) : idE n b = 7 := by unfold idE; rw [if_neg h1, if_neg h2, if_pos h]
theorem id_0 {n b : Int} (h1 : ¬ (n < 1 ∨ 1073741824 < n)) (h2 : ¬ n = b) (h : ¬ n < b) : idE n b = 0 := by unfold idE; rw [if_neg h1, if_neg h2, if_neg h]
theorem nE_id {x : Nd} {b r c : Int} (h : idE x.i b = c) (hc : c ≠ 0) : nE x b r = c := by unfold nE; rw [h, if_pos hc]
theorem nE_2 {x : Nd} {b r : Int} (h : idE x.i b = 0) (h2 : x.x < -1048576 ∨ 1048576 < x.x ∨ x.y < -1048576 ∨ 1048576 < x.y) : nE x b r = 2 := by
  unfold nE; rw [h, if_neg (by decide), if_pos]
  unfold wide; simp only [Bool.or_eq_true, decide_eq_true_eq]; omega
theorem nE_ok {x : Nd} {b r : Int} (h : idE x.i b = 0) (h2 : ¬ (x.x < -1048576 ∨ 1048576 < x.x ∨ x.y < -1048576 ∨ 1048576 < x.y)) : nE x b r = r := by
  unfold nE; rw [h, if_neg (by decide), if_neg]
  unfold wide; simp only [Bool.or_eq_true, decide_eq_true_eq]; omega
theorem rE_id {x : Rd} {b r c d : Int} (h : idE x.i b = c) (hc : c ≠ 0) : rE d x b r = c := by unfold rE; rw [h, if_pos hc]
theorem rE_c {x : Rd} {b r c : Int} (h : idE x.i b = 0) (hc : c ≠ 0) : rE c x b r = c := by unfold rE; rw [h, if_neg (by decide), if_pos hc]
theorem rE_ok {x : Rd} {b r : Int} (h : idE x.i b = 0) : rE 0 x b r = r := by unfold rE; rw [h, if_neg (by decide), if_neg (by decide)]
theorem rE_cat {ns : List Nd} {x : Rd} {b r c : Int} (hr : roadE ns x = c) (h : idE x.i b = 0) (hc : c ≠ 0) : rE (roadE ns x) x b r = c := by rw [hr]; exact rE_c h hc
theorem rE_okat {ns : List Nd} {x : Rd} {b r : Int} (hr : roadE ns x = 0) (h : idE x.i b = 0) : rE (roadE ns x) x b r = r := by rw [hr]; exact rE_ok h
theorem road_9a {ns : List Nd} {x : Rd} (h : fnd ns x.f = none) : roadE ns x = 9 := by unfold roadE; rw [h]
theorem road_9b {ns : List Nd} {x : Rd} {a : Nd} (h : fnd ns x.f = some a) (h2 : fnd ns x.t = none) : roadE ns x = 9 := by unfold roadE; rw [h, h2]
theorem road_x {ns : List Nd} {x : Rd} {a b : Nd} (h : fnd ns x.f = some a) (h2 : fnd ns x.t = some b) : roadE ns x = roadX a b x := by unfold roadE; rw [h, h2]
theorem roadX_17 {x : Rd} {a b : Nd} (h : x.f = x.t) : roadX a b x = 17 := by unfold roadX; rw [if_pos h]
theorem roadX_2a {x : Rd} {a b : Nd} (h : ¬ x.f = x.t) (h2 : x.m < 1 ∨ 1048576 < x.m ∨ x.l < 1 ∨ 1073741824 < x.l) : roadX a b x = 2 := by
  unfold roadX; rw [if_neg h, if_pos]
  rcases h2 with h2 | h2 | h2 | h2
  · exact .inl h2
  · exact .inr (.inl h2)
  · exact .inr (.inr (.inl h2))
  · exact .inr (.inr (.inr (.inl h2)))
theorem roadX_2b {x : Rd} {a b : Nd} {ll dx dy px py : Int} (h : ¬ x.f = x.t) (e1 : x.l * x.l = ll) (e2 : a.x - b.x = dx) (e3 : a.y - b.y = dy) (e4 : dx * dx = px) (e5 : dy * dy = py) (h2 : ll < px + py) : roadX a b x = 2 := by
  unfold roadX; rw [if_neg h, if_pos]
  exact .inr (.inr (.inr (.inr (by rw [e1, e2, e3, e4, e5]; exact h2))))
theorem roadX_0 {x : Rd} {a b : Nd} {ll dx dy px py : Int} (h : ¬ x.f = x.t) (e1 : x.l * x.l = ll) (e2 : a.x - b.x = dx) (e3 : a.y - b.y = dy) (e4 : dx * dx = px) (e5 : dy * dy = py) (h2 : ¬ (x.m < 1 ∨ 1048576 < x.m ∨ x.l < 1 ∨ 1073741824 < x.l)) (h3 : ¬ ll < px + py) : roadX a b x = 0 := by
  unfold roadX; rw [if_neg h, if_neg]
  rw [e1, e2, e3, e4, e5]
  omega
theorem idx_ne {N : Net} {f t : Int} {a b : Nd} {ja jb : Nat} (hja : N.ns[ja]? = some a) (hjb : N.ns[jb]? = some b) (ha : idxN N.ns f = ja) (hb : idxN N.ns t = jb) (hf : a.i = f) (ht : b.i = t) : (ja : Int) = jb ↔ f = t := by
  constructor
  · intro h
    have e : ja = jb := by omega
    subst e
    rw [hja] at hjb
    injection hjb with hjb
    rw [← hf, ← ht, hjb]
  · intro h; rw [← ha, ← hb, h]
/-- The end of the part before index k. -/
def LastN (l : List Nd) (k : Nat) (b : Int) : Prop := (k = 0 ∧ b = 0) ∨ ∃ m y, k = m + 1 ∧ l[m]? = some y ∧ b = y.i
def LastR (l : List Rd) (k : Nat) (b : Int) : Prop := (k = 0 ∧ b = 0) ∨ ∃ m y, k = m + 1 ∧ l[m]? = some y ∧ b = y.i

theorem wrapb {x : Int} (h1 : -4000000000000000000 ≤ x) (h2 : x ≤ 4000000000000000000) : IntKind.i64.wrap x = x := by simp [IntKind.wrap, IntKind.bits, IntKind.signed]; omega
theorem wrapc {x : Int} (h1 : -4000000000000000000 ≤ x) (h2 : x ≤ 4000000000000000000) : wrap64 x = x := by unfold wrap64; omega

set_option maxRecDepth 100000 in
set_option maxHeartbeats 8000000 in
theorem lcheck_any (N : Net) (v : Value) (w : World) (h : NV w v N) :
    Calls Tryz.prog 15 #[v] w fun e w' => e = .returned (.int .i64 (checkE N)) ∧ Below w.heap.size w w' := by
  obtain ⟨_, _, rfl, hn, hr⟩ := h
  obtain ⟨An, cn, rfl, hcn, hmn, hxn⟩ := hn.open_
  obtain ⟨Ar, cr, rfl, hcr, hmr, hxr⟩ := hr.open_
  have HNV : Hid (NV w (.agg #[.slice An N.ns.length cn, .slice Ar N.rs.length cr]) N) := Lib.hid ⟨_, _, rfl, hn, hr⟩
  have HXN := Lib.hid hxn
  have HXR := Lib.hid hxr
  generalize hNn : N.ns.length = Nn at *
  generalize hNr : N.rs.length = Nr at *
  have HNn := Lib.hid hNn
  have HNr := Lib.hid hNr
  clear hn hr hxn hxr hNn hNr
  go_enter Tryz.func15, Tryz.ntmps15
  by_cases hc1 : (256 : Int) < Nn
  · skip
    have hc1_ : ¬ ((Nn : Int) ≤ 256) := by omega
    go_wp2
    go_ret
    refine ⟨(by unfold checkE; rw [if_pos (by rw [HNn.out, HNr.out]; omega)] <;> rfl), ?_⟩
    repeat (first | with_reducible exact Below.refl _ _ | with_reducible refine bel_alloc ?_ _ | refine Below.setCell ?_ (by first | (simp; done) | (simp; omega) | omega) _)
  · skip
    have hc1_ : ((Nn : Int) ≤ 256) := by omega
    by_cases hc2 : (1024 : Int) < Nr
    · skip
      have hc2_ : ¬ ((Nr : Int) ≤ 1024) := by omega
      go_wp2
      go_ret
      refine ⟨(by unfold checkE; rw [if_pos (by rw [HNn.out, HNr.out]; omega)] <;> rfl), ?_⟩
      repeat (first | with_reducible exact Below.refl _ _ | with_reducible refine bel_alloc ?_ _ | refine Below.setCell ?_ (by first | (simp; done) | (simp; omega) | omega) _)
    · skip
      have hc2_ : ((Nr : Int) ≤ 1024) := by omega
      go_wp2_with fail
      refine wp_named ?_
      intro W1 hW1
      have hL1 : Below w.heap.size w W1 := by
        rw [hW1]
        repeat (first | with_reducible exact Below.refl _ _ | with_reducible refine bel_alloc ?_ _ | refine Below.setCell ?_ (by first | (simp; done) | (simp; omega) | omega) _)
      have c3 : Own W1 (w.heap.size) 0 [.slice An Nn cn, .slice Ar Nr cr] := by
        rw [hW1]
        first
        | (repeat (first | (with_reducible refine own_new (l := [.slice An Nn cn, .slice Ar Nr cr]) ?_; (simp; done)) | with_reducible refine Own.alloc ?_ _ | refine Own.far _ _ (by first | (simp; done) | (simp [*]; done) | (simp; omega)) ?_)); done
        | simp [Own, go_sem]
      have hB4 : Below w.heap.size w W1 := by
        rw [hW1]
        repeat (first | with_reducible exact Below.refl _ _ | with_reducible refine bel_alloc ?_ _ | refine Below.setCell ?_ (by first | (simp; done) | (simp; omega) | omega) _)
      clear hW1 hL1
      go_loopw [3] (fun s3 wr => ∃ (k : Nat) (b : Int), s3 = .int .i64 k ∧ Own wr (w.heap.size) 0 [.slice An Nn cn, .slice Ar Nr cr] ∧ Below w.heap.size w wr ∧ k ≤ Nn ∧ Hid (nodesE (N.ns.drop k) b = nodesE N.ns 0) ∧ Hid (LastN N.ns k b)) (fun s3 _ => Nn - (intOf s3).toNat)
      case atStart => exact ⟨0, 0, rfl, c3, hB4, (by omega), Lib.hid rfl, Lib.hid (.inl ⟨rfl, rfl⟩)⟩
      case round =>
        clear c3 hB4
        obtain ⟨k, b, rfl, b5, hB6, hk, HE, HBk⟩ := hrel
        obtain ⟨wr7, hwr7⟩ : ∃ W_, W_ = wr := ⟨_, rfl⟩
        subst hwr7
        by_cases hltk : k < Nn
        · skip
          have i1k : (k : Int) < Nn := by omega
          obtain ⟨x8, hx9⟩ : ∃ x, N.ns[k]? = some x := ⟨_, List.getElem?_eq_getElem (by rw [HNn.out]; omega)⟩
          have Hhx9 := Lib.hid hx9
          clear hx9
          rcases HBk.out with ⟨hk0, hb0⟩ | ⟨m, y, hkm, hy, hb0⟩
          · skip
            subst hb0
            have hkp : ¬ (0 : Int) < k := by omega
            clear hk0
            have HT : Hid (nodesE (N.ns.drop k) 0 = nE x8 0 (nodesE (N.ns.drop (k + 1)) x8.i)) := Lib.hid (nodesE_get Hhx9.out)
            by_cases hx1 : (x8.i : Int) < 1
            · skip
              have hx1_ : ¬ ((1 : Int) ≤ x8.i) := by omega
              have ub5 := b5
              simp only [At, Own, Nat.reduceAdd, and_true] at ub5
              obtain ⟨g11, o12, ha13, -⟩ := (HXN.out).up kpN hB6 _ _ Hhx9.out
              subst ha13
              have ce10 := LX.at_ ((HXN.out).up kpN hB6) Hhx9.out
              have ce10_ : g11 < wr7.heap.size := World.block_lt_of_cell? _ _ ce10.1
              have uce10 := ce10
              simp only [CN, ndc, At, Nat.reduceMul] at uce10
              have ne14_ : w.heap.size < wr7.heap.size := by have := b5.lt; omega
              have ne14 := Nat.ne_of_lt ne14_
              have ne14' := ne14.symm
              go_wp2
              go_ret
              refine ⟨(by rw [chk_nodes (c := 27) (by rw [HNn.out, HNr.out]; omega) (HE.out.symm.trans (HT.out.trans (nE_id (id_27 (by omega)) (by decide)))) (by decide)] <;> rfl), ?_⟩
              repeat (first | with_reducible exact hB6 | with_reducible refine bel_alloc ?_ _ | refine Below.setCell ?_ (by first | (simp; done) | (simp; omega) | omega) _)
            · skip
              have hx1_ : (1 : Int) ≤ x8.i := by omega
              have hx2 : ¬ (x8.i : Int) = 0 := by omega
              have hx2_ : ((x8.i : Int) == 0) = false := by simpa using hx2
              have hx3 : ¬ (x8.i : Int) < 0 := by omega
              have hx3_ : (0 : Int) ≤ x8.i := by omega
              have ub5 := b5
              simp only [At, Own, Nat.reduceAdd, and_true] at ub5
              obtain ⟨g16, o17, ha18, -⟩ := (HXN.out).up kpN hB6 _ _ Hhx9.out
              subst ha18
              have ce15 := LX.at_ ((HXN.out).up kpN hB6) Hhx9.out
              have ce15_ : g16 < wr7.heap.size := World.block_lt_of_cell? _ _ ce15.1
              have uce15 := ce15
              simp only [CN, ndc, At, Nat.reduceMul] at uce15
              have ne19_ : w.heap.size < wr7.heap.size := by have := b5.lt; omega
              have ne19 := Nat.ne_of_lt ne19_
              have ne19' := ne19.symm
              by_cases hc20 : (1073741824 : Int) < x8.i
              · skip
                have hc20_ : ¬ ((x8.i : Int) ≤ 1073741824) := by omega
                go_wp2
                go_ret
                refine ⟨(by rw [chk_nodes (c := 27) (by rw [HNn.out, HNr.out]; omega) (HE.out.symm.trans (HT.out.trans (nE_id (id_27 (by omega)) (by decide)))) (by decide)] <;> rfl), ?_⟩
                repeat (first | with_reducible exact hB6 | with_reducible refine bel_alloc ?_ _ | refine Below.setCell ?_ (by first | (simp; done) | (simp; omega) | omega) _)
              · skip
                have hc20_ : ((x8.i : Int) ≤ 1073741824) := by omega
                by_cases hc21 : (x8.x : Int) < (-1048576)
                · skip
                  have hc21_ : ¬ (((-1048576) : Int) ≤ x8.x) := by omega
                  go_wp2
                  go_ret
                  refine ⟨(by rw [chk_nodes (c := 2) (by rw [HNn.out, HNr.out]; omega) (HE.out.symm.trans (HT.out.trans (nE_2 (id_0 (by omega) (by omega) (by omega)) (by omega)))) (by decide)] <;> rfl), ?_⟩
                  repeat (first | with_reducible exact hB6 | with_reducible refine bel_alloc ?_ _ | refine Below.setCell ?_ (by first | (simp; done) | (simp; omega) | omega) _)
                · skip
                  have hc21_ : (((-1048576) : Int) ≤ x8.x) := by omega
                  by_cases hc22 : (1048576 : Int) < x8.x
                  · skip
                    have hc22_ : ¬ ((x8.x : Int) ≤ 1048576) := by omega
                    go_wp2
                    go_ret
                    refine ⟨(by rw [chk_nodes (c := 2) (by rw [HNn.out, HNr.out]; omega) (HE.out.symm.trans (HT.out.trans (nE_2 (id_0 (by omega) (by omega) (by omega)) (by omega)))) (by decide)] <;> rfl), ?_⟩
                    repeat (first | with_reducible exact hB6 | with_reducible refine bel_alloc ?_ _ | refine Below.setCell ?_ (by first | (simp; done) | (simp; omega) | omega) _)
                  · skip
                    have hc22_ : ((x8.x : Int) ≤ 1048576) := by omega
                    by_cases hc23 : (x8.y : Int) < (-1048576)
                    · skip
                      have hc23_ : ¬ (((-1048576) : Int) ≤ x8.y) := by omega
                      go_wp2
                      go_ret
                      refine ⟨(by rw [chk_nodes (c := 2) (by rw [HNn.out, HNr.out]; omega) (HE.out.symm.trans (HT.out.trans (nE_2 (id_0 (by omega) (by omega) (by omega)) (by omega)))) (by decide)] <;> rfl), ?_⟩
                      repeat (first | with_reducible exact hB6 | with_reducible refine bel_alloc ?_ _ | refine Below.setCell ?_ (by first | (simp; done) | (simp; omega) | omega) _)
                    · skip
                      have hc23_ : (((-1048576) : Int) ≤ x8.y) := by omega
                      by_cases hc24 : (1048576 : Int) < x8.y
                      · skip
                        have hc24_ : ¬ ((x8.y : Int) ≤ 1048576) := by omega
                        go_wp2
                        go_ret
                        refine ⟨(by rw [chk_nodes (c := 2) (by rw [HNn.out, HNr.out]; omega) (HE.out.symm.trans (HT.out.trans (nE_2 (id_0 (by omega) (by omega) (by omega)) (by omega)))) (by decide)] <;> rfl), ?_⟩
                        repeat (first | with_reducible exact hB6 | with_reducible refine bel_alloc ?_ _ | refine Below.setCell ?_ (by first | (simp; done) | (simp; omega) | omega) _)
                      · skip
                        have hc24_ : ((x8.y : Int) ≤ 1048576) := by omega
                        go_wp2
                        go_roundw
                        case rel => exact ⟨(k + 1), x8.i, (by first | rfl | exact congrArg (Value.int .i64) (by omega) | simp [*]), (by repeat (first | with_reducible exact b5 | refine Own.far _ _ (by simp <;> omega) ?_ | with_reducible refine Own.alloc ?_ _)), (by repeat (first | with_reducible exact hB6 | with_reducible refine bel_alloc ?_ _ | refine Below.setCell ?_ (by first | (simp; done) | (simp; omega) | omega) _)), (by omega), Lib.hid (by rw [← HE.out, HT.out, nE_ok (id_0 (by omega) (by omega) (by omega)) (by omega)]), Lib.hid (.inr ⟨k, x8, rfl, Hhx9.out, rfl⟩)⟩
                        case measure => simp [intOf] <;> omega
          · skip
            subst hb0
            have HY := Lib.hid hy
            have hkp : (0 : Int) < k := by omega
            have hmk : (k : Int) - 1 = m := by omega
            have i1m : (m : Int) < Nn := by omega
            have i0m : (0 : Int) ≤ m := Int.natCast_nonneg _
            obtain ⟨wm1, wm2⟩ := i64_small (a := (m : Int)) (by omega) (by omega)
            clear hy hkm
            have HT : Hid (nodesE (N.ns.drop k) y.i = nE x8 y.i (nodesE (N.ns.drop (k + 1)) x8.i)) := Lib.hid (nodesE_get Hhx9.out)
            have ub5 := b5
            simp only [At, Own, Nat.reduceAdd, and_true] at ub5
            obtain ⟨g26, o27, ha28, -⟩ := (HXN.out).up kpN hB6 _ _ Hhx9.out
            subst ha28
            have ce25 := LX.at_ ((HXN.out).up kpN hB6) Hhx9.out
            have ce25_ : g26 < wr7.heap.size := World.block_lt_of_cell? _ _ ce25.1
            have uce25 := ce25
            simp only [CN, ndc, At, Nat.reduceMul] at uce25
            have ne29_ : w.heap.size < wr7.heap.size := by have := b5.lt; omega
            have ne29 := Nat.ne_of_lt ne29_
            have ne29' := ne29.symm
            have ce30 := LX.at_ ((HXN.out).up kpN hB6) HY.out
            have ce30_ : g26 < wr7.heap.size := World.block_lt_of_cell? _ _ ce30.1
            have uce30 := ce30
            simp only [CN, ndc, At, Nat.reduceMul] at uce30
            by_cases hc31 : (x8.i : Int) < 1
            · skip
              have hc31_ : ¬ ((1 : Int) ≤ x8.i) := by omega
              go_wp2
              go_ret
              refine ⟨(by rw [chk_nodes (c := 27) (by rw [HNn.out, HNr.out]; omega) (HE.out.symm.trans (HT.out.trans (nE_id (id_27 (by omega)) (by decide)))) (by decide)] <;> rfl), ?_⟩
              repeat (first | with_reducible exact hB6 | with_reducible refine bel_alloc ?_ _ | refine Below.setCell ?_ (by first | (simp; done) | (simp; omega) | omega) _)
            · skip
              have hc31_ : ((1 : Int) ≤ x8.i) := by omega
              by_cases hc32 : (1073741824 : Int) < x8.i
              · skip
                have hc32_ : ¬ ((x8.i : Int) ≤ 1073741824) := by omega
                go_wp2
                go_ret
                refine ⟨(by rw [chk_nodes (c := 27) (by rw [HNn.out, HNr.out]; omega) (HE.out.symm.trans (HT.out.trans (nE_id (id_27 (by omega)) (by decide)))) (by decide)] <;> rfl), ?_⟩
                repeat (first | with_reducible exact hB6 | with_reducible refine bel_alloc ?_ _ | refine Below.setCell ?_ (by first | (simp; done) | (simp; omega) | omega) _)
              · skip
                have hc32_ : ((x8.i : Int) ≤ 1073741824) := by omega
                by_cases hc33 : (x8.i : Int) = y.i
                · skip
                  have hc33_ : (((x8.i : Int)) == y.i) = true := by simpa using hc33
                  have Hhc33 := Lib.hid hc33
                  clear hc33
                  go_wp2
                  go_ret
                  refine ⟨(by rw [chk_nodes (c := 8) (by rw [HNn.out, HNr.out]; omega) (HE.out.symm.trans (HT.out.trans (nE_id (id_8 (by omega) (by first | exact Hhc33.out)) (by decide)))) (by decide)] <;> rfl), ?_⟩
                  repeat (first | with_reducible exact hB6 | with_reducible refine bel_alloc ?_ _ | refine Below.setCell ?_ (by first | (simp; done) | (simp; omega) | omega) _)
                · skip
                  have hc33_ : (((x8.i : Int)) == y.i) = false := by simpa using hc33
                  by_cases hc34 : (x8.i : Int) < y.i
                  · skip
                    have hc34_ : ¬ ((y.i : Int) ≤ x8.i) := by omega
                    go_wp2
                    go_ret
                    refine ⟨(by rw [chk_nodes (c := 7) (by rw [HNn.out, HNr.out]; omega) (HE.out.symm.trans (HT.out.trans (nE_id (id_7 (by omega) (by omega) (by omega)) (by decide)))) (by decide)] <;> rfl), ?_⟩
                    repeat (first | with_reducible exact hB6 | with_reducible refine bel_alloc ?_ _ | refine Below.setCell ?_ (by first | (simp; done) | (simp; omega) | omega) _)
                  · skip
                    have hc34_ : ((y.i : Int) ≤ x8.i) := by omega
                    by_cases hc35 : (x8.x : Int) < (-1048576)
                    · skip
                      have hc35_ : ¬ (((-1048576) : Int) ≤ x8.x) := by omega
                      go_wp2
                      go_ret
                      refine ⟨(by rw [chk_nodes (c := 2) (by rw [HNn.out, HNr.out]; omega) (HE.out.symm.trans (HT.out.trans (nE_2 (id_0 (by omega) (by omega) (by omega)) (by omega)))) (by decide)] <;> rfl), ?_⟩
                      repeat (first | with_reducible exact hB6 | with_reducible refine bel_alloc ?_ _ | refine Below.setCell ?_ (by first | (simp; done) | (simp; omega) | omega) _)
                    · skip
                      have hc35_ : (((-1048576) : Int) ≤ x8.x) := by omega
                      by_cases hc36 : (1048576 : Int) < x8.x
                      · skip
                        have hc36_ : ¬ ((x8.x : Int) ≤ 1048576) := by omega
                        go_wp2
                        go_ret
                        refine ⟨(by rw [chk_nodes (c := 2) (by rw [HNn.out, HNr.out]; omega) (HE.out.symm.trans (HT.out.trans (nE_2 (id_0 (by omega) (by omega) (by omega)) (by omega)))) (by decide)] <;> rfl), ?_⟩
                        repeat (first | with_reducible exact hB6 | with_reducible refine bel_alloc ?_ _ | refine Below.setCell ?_ (by first | (simp; done) | (simp; omega) | omega) _)
                      · skip
                        have hc36_ : ((x8.x : Int) ≤ 1048576) := by omega
                        by_cases hc37 : (x8.y : Int) < (-1048576)
                        · skip
                          have hc37_ : ¬ (((-1048576) : Int) ≤ x8.y) := by omega
                          go_wp2
                          go_ret
                          refine ⟨(by rw [chk_nodes (c := 2) (by rw [HNn.out, HNr.out]; omega) (HE.out.symm.trans (HT.out.trans (nE_2 (id_0 (by omega) (by omega) (by omega)) (by omega)))) (by decide)] <;> rfl), ?_⟩
                          repeat (first | with_reducible exact hB6 | with_reducible refine bel_alloc ?_ _ | refine Below.setCell ?_ (by first | (simp; done) | (simp; omega) | omega) _)
                        · skip
                          have hc37_ : (((-1048576) : Int) ≤ x8.y) := by omega
                          by_cases hc38 : (1048576 : Int) < x8.y
                          · skip
                            have hc38_ : ¬ ((x8.y : Int) ≤ 1048576) := by omega
                            go_wp2
                            go_ret
                            refine ⟨(by rw [chk_nodes (c := 2) (by rw [HNn.out, HNr.out]; omega) (HE.out.symm.trans (HT.out.trans (nE_2 (id_0 (by omega) (by omega) (by omega)) (by omega)))) (by decide)] <;> rfl), ?_⟩
                            repeat (first | with_reducible exact hB6 | with_reducible refine bel_alloc ?_ _ | refine Below.setCell ?_ (by first | (simp; done) | (simp; omega) | omega) _)
                          · skip
                            have hc38_ : ((x8.y : Int) ≤ 1048576) := by omega
                            go_wp2
                            go_roundw
                            case rel => exact ⟨(k + 1), x8.i, (by first | rfl | exact congrArg (Value.int .i64) (by omega) | simp [*]), (by repeat (first | with_reducible exact b5 | refine Own.far _ _ (by simp <;> omega) ?_ | with_reducible refine Own.alloc ?_ _)), (by repeat (first | with_reducible exact hB6 | with_reducible refine bel_alloc ?_ _ | refine Below.setCell ?_ (by first | (simp; done) | (simp; omega) | omega) _)), (by omega), Lib.hid (by rw [← HE.out, HT.out, nE_ok (id_0 (by omega) (by omega) (by omega)) (by omega)]), Lib.hid (.inr ⟨k, x8, rfl, Hhx9.out, rfl⟩)⟩
                            case measure => simp [intOf] <;> omega
        · skip
          have i1k : ¬ (k : Int) < Nn := by omega
          have H0 : Hid (nodesE N.ns 0 = 0) := Lib.hid (by rw [← HE.out, List.drop_of_length_le (by rw [HNn.out]; omega)]; rfl)
          have HH : Hid (Half N) := Lib.hid (half_of (by rw [HNn.out]; omega) (by rw [HNr.out]; omega) H0.out)
          have ub5 := b5
          simp only [At, Own, Nat.reduceAdd, and_true] at ub5
          go_wp2_with fail
          go_loopw [6] (fun s6 wr => ∃ (j : Nat) (b2 : Int), s6 = .int .i64 j ∧ Own wr (w.heap.size) 0 [.slice An Nn cn, .slice Ar Nr cr] ∧ Below w.heap.size w wr ∧ j ≤ Nr ∧ Hid (roadsE N.ns (N.rs.drop j) b2 = roadsE N.ns N.rs 0) ∧ Hid (LastR N.rs j b2)) (fun s6 _ => Nr - (intOf s6).toNat)
          case atStart => exact ⟨0, 0, rfl, b5, hB6, (by omega), Lib.hid rfl, Lib.hid (.inl ⟨rfl, rfl⟩)⟩
          case round =>
            clear b5 hB6 ub5
            obtain ⟨j, b2, rfl, b39, hB40, hj, HE2, HBj⟩ := hrel
            obtain ⟨wr41, hwr41⟩ : ∃ W_, W_ = wr := ⟨_, rfl⟩
            subst hwr41
            by_cases hltj : j < Nr
            · skip
              have i1j : (j : Int) < Nr := by omega
              obtain ⟨x42, hx43⟩ : ∃ x, N.rs[j]? = some x := ⟨_, List.getElem?_eq_getElem (by rw [HNr.out]; omega)⟩
              have Hhx43 := Lib.hid hx43
              clear hx43
              rcases HBj.out with ⟨hk0, hb0⟩ | ⟨m, y, hkm, hy, hb0⟩
              · skip
                subst hb0
                have hkp : ¬ (0 : Int) < j := by omega
                clear hk0
                have HT : Hid (roadsE N.ns (N.rs.drop j) 0 = rE (roadE N.ns x42) x42 0 (roadsE N.ns (N.rs.drop (j + 1)) x42.i)) := Lib.hid (roadsE_get Hhx43.out)
                cases hfa : fnd N.ns x42.f with
                | none =>
                  obtain ⟨jt, hjt⟩ : ∃ z, idxN N.ns x42.t = z := ⟨_, rfl⟩
                  have HJB := Lib.hid hjt
                  have HJA := Lib.hid (fnd_no hfa)
                  have HFA := Lib.hid hfa
                  clear hjt hfa
                  by_cases hx1 : (x42.i : Int) < 1
                  · skip
                    have hx1_ : ¬ ((1 : Int) ≤ x42.i) := by omega
                    have ub39 := b39
                    simp only [At, Own, Nat.reduceAdd, and_true] at ub39
                    obtain ⟨g45, o46, ha47, -⟩ := (HXR.out).up kpR hB40 _ _ Hhx43.out
                    subst ha47
                    have ce44 := LX.at_ ((HXR.out).up kpR hB40) Hhx43.out
                    have ce44_ : g45 < wr41.heap.size := World.block_lt_of_cell? _ _ ce44.1
                    have uce44 := ce44
                    simp only [CR, rdc, At, Nat.reduceMul] at uce44
                    have ne48_ : w.heap.size < wr41.heap.size := by have := b39.lt; omega
                    have ne48 := Nat.ne_of_lt ne48_
                    have ne48' := ne48.symm
                    have K49 := Lib.hid (fun W (hv : NV W (.agg #[.slice An Nn cn, .slice (some ⟨g45, o46, none⟩) Nr cr]) N) => lnode_j N x42.f (-1) _ W hv ⟨by rw [HNn.out]; omega, by rw [HNr.out]; omega⟩ HJA.out)
                    have K50 := Lib.hid (fun W (hv : NV W (.agg #[.slice An Nn cn, .slice (some ⟨g45, o46, none⟩) Nr cr]) N) => lnode_j N x42.t jt _ W hv ⟨by rw [HNn.out]; omega, by rw [HNr.out]; omega⟩ HJB.out)
                    go_wp2_with fail
                    refine wp_named ?_
                    intro W2 hW2
                    have hL2 : Below wr41.heap.size wr41 W2 := by
                      rw [hW2]
                      repeat (first | with_reducible exact Below.refl _ _ | with_reducible refine bel_alloc ?_ _ | refine Below.setCell ?_ (by first | (simp; done) | (simp; omega) | omega) _)
                    have c51 := b39.up hL2
                    have c52 : Own W2 (wr41.heap.size) 0 [.int .i64 x42.i, .int .i64 x42.f, .int .i64 x42.t, .int .i64 x42.l, .int .i64 x42.m, .bool x42.o] := by
                      rw [hW2]
                      first
                      | (repeat (first | (with_reducible refine own_new (l := [.int .i64 x42.i, .int .i64 x42.f, .int .i64 x42.t, .int .i64 x42.l, .int .i64 x42.m, .bool x42.o]) ?_; (simp; done)) | with_reducible refine Own.alloc ?_ _ | refine Own.far _ _ (by first | (simp; done) | (simp [*]; done) | (simp; omega)) ?_)); done
                      | simp [Own, go_sem, ub39, uce44, ne48, ne48', ne48_]
                    have hB53 : Below w.heap.size w W2 := by
                      rw [hW2]
                      repeat (first | with_reducible exact hB40 | with_reducible refine bel_alloc ?_ _ | refine Below.setCell ?_ (by first | (simp; done) | (simp; omega) | omega) _)
                    clear hW2 hL2 ub39 uce44 b39
                    have dc51 := fun p : Bel W2 => c51.bel p; have dc52 := fun p : Bel W2 => c52.bel p
                    simp only [At, Own, Nat.reduceAdd, and_true] at dc51 dc52
                    refine wp_region_tail 8 (by kernel_rfl) (by kernel_rfl) ?_
                    simp only [List.take_succ_cons, List.take_zero, List.drop_succ_cons, List.drop_zero]
                    repeat (go_big_quiet_step (first | (go_at_call 27; with_reducible exact Calls.bel (K49.out _ (HNV.out.up (bel_up hB53 (Bel.h _))))) | (go_at_call 27; with_reducible exact Calls.bel (K50.out _ (HNV.out.up (bel_up hB53 (Bel.h _)))))))
                    refine wpQuiet_nil ?_
                    intro w2 hb2
                    have c54 := c51.up hb2
                    have c55 := c52.up hb2
                    have hB56 : Below w.heap.size w w2 := bel_up hB53 hb2
                    clear dc51 dc52 c51 c52
                    have uc54 := c54; have uc55 := c55
                    simp only [At, Own, Nat.reduceAdd, and_true] at uc54 uc55
                    go_wp2
                    go_ret
                    refine ⟨(by rw [chk_roads (by rw [HNn.out, HNr.out]; omega) H0.out, ← HE2.out, HT.out.trans (rE_id (id_27 (by omega)) (by decide))] <;> rfl), ?_⟩
                    repeat (first | with_reducible exact hB56 | with_reducible refine bel_alloc ?_ _ | refine Below.setCell ?_ (by first | (simp; done) | (simp; omega) | omega) _)
                  · skip
                    have hx1_ : (1 : Int) ≤ x42.i := by omega
                    have hx2 : ¬ (x42.i : Int) = 0 := by omega
                    have hx2_ : ((x42.i : Int) == 0) = false := by simpa using hx2
                    have hx3 : ¬ (x42.i : Int) < 0 := by omega
                    have hx3_ : (0 : Int) ≤ x42.i := by omega
                    have ub39 := b39
                    simp only [At, Own, Nat.reduceAdd, and_true] at ub39
                    obtain ⟨g58, o59, ha60, -⟩ := (HXR.out).up kpR hB40 _ _ Hhx43.out
                    subst ha60
                    have ce57 := LX.at_ ((HXR.out).up kpR hB40) Hhx43.out
                    have ce57_ : g58 < wr41.heap.size := World.block_lt_of_cell? _ _ ce57.1
                    have uce57 := ce57
                    simp only [CR, rdc, At, Nat.reduceMul] at uce57
                    have ne61_ : w.heap.size < wr41.heap.size := by have := b39.lt; omega
                    have ne61 := Nat.ne_of_lt ne61_
                    have ne61' := ne61.symm
                    have K62 := Lib.hid (fun W (hv : NV W (.agg #[.slice An Nn cn, .slice (some ⟨g58, o59, none⟩) Nr cr]) N) => lnode_j N x42.f (-1) _ W hv ⟨by rw [HNn.out]; omega, by rw [HNr.out]; omega⟩ HJA.out)
                    have K63 := Lib.hid (fun W (hv : NV W (.agg #[.slice An Nn cn, .slice (some ⟨g58, o59, none⟩) Nr cr]) N) => lnode_j N x42.t jt _ W hv ⟨by rw [HNn.out]; omega, by rw [HNr.out]; omega⟩ HJB.out)
                    go_wp2_with fail
                    refine wp_named ?_
                    intro W3 hW3
                    have hL3 : Below wr41.heap.size wr41 W3 := by
                      rw [hW3]
                      repeat (first | with_reducible exact Below.refl _ _ | with_reducible refine bel_alloc ?_ _ | refine Below.setCell ?_ (by first | (simp; done) | (simp; omega) | omega) _)
                    have c64 := b39.up hL3
                    have c65 : Own W3 (wr41.heap.size) 0 [.int .i64 x42.i, .int .i64 x42.f, .int .i64 x42.t, .int .i64 x42.l, .int .i64 x42.m, .bool x42.o] := by
                      rw [hW3]
                      first
                      | (repeat (first | (with_reducible refine own_new (l := [.int .i64 x42.i, .int .i64 x42.f, .int .i64 x42.t, .int .i64 x42.l, .int .i64 x42.m, .bool x42.o]) ?_; (simp; done)) | with_reducible refine Own.alloc ?_ _ | refine Own.far _ _ (by first | (simp; done) | (simp [*]; done) | (simp; omega)) ?_)); done
                      | simp [Own, go_sem, ub39, uce57, ne61, ne61', ne61_]
                    have hB66 : Below w.heap.size w W3 := by
                      rw [hW3]
                      repeat (first | with_reducible exact hB40 | with_reducible refine bel_alloc ?_ _ | refine Below.setCell ?_ (by first | (simp; done) | (simp; omega) | omega) _)
                    clear hW3 hL3 ub39 uce57 b39
                    have dc64 := fun p : Bel W3 => c64.bel p; have dc65 := fun p : Bel W3 => c65.bel p
                    simp only [At, Own, Nat.reduceAdd, and_true] at dc64 dc65
                    refine wp_region_tail 8 (by kernel_rfl) (by kernel_rfl) ?_
                    simp only [List.take_succ_cons, List.take_zero, List.drop_succ_cons, List.drop_zero]
                    repeat (go_big_quiet_step (first | (go_at_call 27; with_reducible exact Calls.bel (K62.out _ (HNV.out.up (bel_up hB66 (Bel.h _))))) | (go_at_call 27; with_reducible exact Calls.bel (K63.out _ (HNV.out.up (bel_up hB66 (Bel.h _)))))))
                    refine wpQuiet_nil ?_
                    intro w3 hb3
                    have c67 := c64.up hb3
                    have c68 := c65.up hb3
                    have hB69 : Below w.heap.size w w3 := bel_up hB66 hb3
                    clear dc64 dc65 c64 c65
                    have uc67 := c67; have uc68 := c68
                    simp only [At, Own, Nat.reduceAdd, and_true] at uc67 uc68
                    by_cases hc70 : (1073741824 : Int) < x42.i
                    · skip
                      have hc70_ : ¬ ((x42.i : Int) ≤ 1073741824) := by omega
                      go_wp2
                      go_ret
                      refine ⟨(by rw [chk_roads (by rw [HNn.out, HNr.out]; omega) H0.out, ← HE2.out, HT.out.trans (rE_id (id_27 (by omega)) (by decide))] <;> rfl), ?_⟩
                      repeat (first | with_reducible exact hB69 | with_reducible refine bel_alloc ?_ _ | refine Below.setCell ?_ (by first | (simp; done) | (simp; omega) | omega) _)
                    · skip
                      have hc70_ : ((x42.i : Int) ≤ 1073741824) := by omega
                      go_wp2
                      go_ret
                      refine ⟨(by rw [chk_roads (by rw [HNn.out, HNr.out]; omega) H0.out, ← HE2.out, HT.out.trans (rE_cat (road_9a HFA.out) (id_0 (by omega) (by omega) (by omega)) (by decide))] <;> rfl), ?_⟩
                      repeat (first | with_reducible exact hB69 | with_reducible refine bel_alloc ?_ _ | refine Below.setCell ?_ (by first | (simp; done) | (simp; omega) | omega) _)
                | some a =>
                  obtain ⟨ja, hja, hja2⟩ := fnd_idx hfa
                  have hjan : ja < Nn := by have e_ := (List.getElem?_eq_some_iff.1 hja2).1; rw [HNn.out] at e_; exact e_
                  have HFA := Lib.hid hfa
                  have HJA := Lib.hid hja
                  have HJA2 := Lib.hid hja2
                  have i1ja : (ja : Int) < Nn := by omega
                  have i0ja : (0 : Int) ≤ ja := Int.natCast_nonneg _
                  have i2ja : ¬ (ja : Int) < 0 := by omega
                  clear hja hja2 hfa
                  cases hfb : fnd N.ns x42.t with
                  | none =>
                    have HJB := Lib.hid (fnd_no hfb)
                    have HFB := Lib.hid hfb
                    clear hfb
                    by_cases hx1 : (x42.i : Int) < 1
                    · skip
                      have hx1_ : ¬ ((1 : Int) ≤ x42.i) := by omega
                      have ub39 := b39
                      simp only [At, Own, Nat.reduceAdd, and_true] at ub39
                      obtain ⟨g72, o73, ha74, -⟩ := (HXR.out).up kpR hB40 _ _ Hhx43.out
                      subst ha74
                      have ce71 := LX.at_ ((HXR.out).up kpR hB40) Hhx43.out
                      have ce71_ : g72 < wr41.heap.size := World.block_lt_of_cell? _ _ ce71.1
                      have uce71 := ce71
                      simp only [CR, rdc, At, Nat.reduceMul] at uce71
                      have ne75_ : w.heap.size < wr41.heap.size := by have := b39.lt; omega
                      have ne75 := Nat.ne_of_lt ne75_
                      have ne75' := ne75.symm
                      have K76 := Lib.hid (fun W (hv : NV W (.agg #[.slice An Nn cn, .slice (some ⟨g72, o73, none⟩) Nr cr]) N) => lnode_j N x42.f ja _ W hv ⟨by rw [HNn.out]; omega, by rw [HNr.out]; omega⟩ HJA.out)
                      have K77 := Lib.hid (fun W (hv : NV W (.agg #[.slice An Nn cn, .slice (some ⟨g72, o73, none⟩) Nr cr]) N) => lnode_j N x42.t (-1) _ W hv ⟨by rw [HNn.out]; omega, by rw [HNr.out]; omega⟩ HJB.out)
                      go_wp2_with fail
                      refine wp_named ?_
                      intro W4 hW4
                      have hL4 : Below wr41.heap.size wr41 W4 := by
                        rw [hW4]
                        repeat (first | with_reducible exact Below.refl _ _ | with_reducible refine bel_alloc ?_ _ | refine Below.setCell ?_ (by first | (simp; done) | (simp; omega) | omega) _)
                      have c78 := b39.up hL4
                      have c79 : Own W4 (wr41.heap.size) 0 [.int .i64 x42.i, .int .i64 x42.f, .int .i64 x42.t, .int .i64 x42.l, .int .i64 x42.m, .bool x42.o] := by
                        rw [hW4]
                        first
                        | (repeat (first | (with_reducible refine own_new (l := [.int .i64 x42.i, .int .i64 x42.f, .int .i64 x42.t, .int .i64 x42.l, .int .i64 x42.m, .bool x42.o]) ?_; (simp; done)) | with_reducible refine Own.alloc ?_ _ | refine Own.far _ _ (by first | (simp; done) | (simp [*]; done) | (simp; omega)) ?_)); done
                        | simp [Own, go_sem, ub39, uce71, ne75, ne75', ne75_]
                      have hB80 : Below w.heap.size w W4 := by
                        rw [hW4]
                        repeat (first | with_reducible exact hB40 | with_reducible refine bel_alloc ?_ _ | refine Below.setCell ?_ (by first | (simp; done) | (simp; omega) | omega) _)
                      clear hW4 hL4 ub39 uce71 b39
                      have dc78 := fun p : Bel W4 => c78.bel p; have dc79 := fun p : Bel W4 => c79.bel p
                      simp only [At, Own, Nat.reduceAdd, and_true] at dc78 dc79
                      refine wp_region_tail 8 (by kernel_rfl) (by kernel_rfl) ?_
                      simp only [List.take_succ_cons, List.take_zero, List.drop_succ_cons, List.drop_zero]
                      repeat (go_big_quiet_step (first | (go_at_call 27; with_reducible exact Calls.bel (K76.out _ (HNV.out.up (bel_up hB80 (Bel.h _))))) | (go_at_call 27; with_reducible exact Calls.bel (K77.out _ (HNV.out.up (bel_up hB80 (Bel.h _)))))))
                      refine wpQuiet_nil ?_
                      intro w4 hb4
                      have c81 := c78.up hb4
                      have c82 := c79.up hb4
                      have hB83 : Below w.heap.size w w4 := bel_up hB80 hb4
                      clear dc78 dc79 c78 c79
                      have uc81 := c81; have uc82 := c82
                      simp only [At, Own, Nat.reduceAdd, and_true] at uc81 uc82
                      go_wp2
                      go_ret
                      refine ⟨(by rw [chk_roads (by rw [HNn.out, HNr.out]; omega) H0.out, ← HE2.out, HT.out.trans (rE_id (id_27 (by omega)) (by decide))] <;> rfl), ?_⟩
                      repeat (first | with_reducible exact hB83 | with_reducible refine bel_alloc ?_ _ | refine Below.setCell ?_ (by first | (simp; done) | (simp; omega) | omega) _)
                    · skip
                      have hx1_ : (1 : Int) ≤ x42.i := by omega
                      have hx2 : ¬ (x42.i : Int) = 0 := by omega
                      have hx2_ : ((x42.i : Int) == 0) = false := by simpa using hx2
                      have hx3 : ¬ (x42.i : Int) < 0 := by omega
                      have hx3_ : (0 : Int) ≤ x42.i := by omega
                      have ub39 := b39
                      simp only [At, Own, Nat.reduceAdd, and_true] at ub39
                      obtain ⟨g85, o86, ha87, -⟩ := (HXR.out).up kpR hB40 _ _ Hhx43.out
                      subst ha87
                      have ce84 := LX.at_ ((HXR.out).up kpR hB40) Hhx43.out
                      have ce84_ : g85 < wr41.heap.size := World.block_lt_of_cell? _ _ ce84.1
                      have uce84 := ce84
                      simp only [CR, rdc, At, Nat.reduceMul] at uce84
                      have ne88_ : w.heap.size < wr41.heap.size := by have := b39.lt; omega
                      have ne88 := Nat.ne_of_lt ne88_
                      have ne88' := ne88.symm
                      have K89 := Lib.hid (fun W (hv : NV W (.agg #[.slice An Nn cn, .slice (some ⟨g85, o86, none⟩) Nr cr]) N) => lnode_j N x42.f ja _ W hv ⟨by rw [HNn.out]; omega, by rw [HNr.out]; omega⟩ HJA.out)
                      have K90 := Lib.hid (fun W (hv : NV W (.agg #[.slice An Nn cn, .slice (some ⟨g85, o86, none⟩) Nr cr]) N) => lnode_j N x42.t (-1) _ W hv ⟨by rw [HNn.out]; omega, by rw [HNr.out]; omega⟩ HJB.out)
                      go_wp2_with fail
                      refine wp_named ?_
                      intro W5 hW5
                      have hL5 : Below wr41.heap.size wr41 W5 := by
                        rw [hW5]
                        repeat (first | with_reducible exact Below.refl _ _ | with_reducible refine bel_alloc ?_ _ | refine Below.setCell ?_ (by first | (simp; done) | (simp; omega) | omega) _)
                      have c91 := b39.up hL5
                      have c92 : Own W5 (wr41.heap.size) 0 [.int .i64 x42.i, .int .i64 x42.f, .int .i64 x42.t, .int .i64 x42.l, .int .i64 x42.m, .bool x42.o] := by
                        rw [hW5]
                        first
                        | (repeat (first | (with_reducible refine own_new (l := [.int .i64 x42.i, .int .i64 x42.f, .int .i64 x42.t, .int .i64 x42.l, .int .i64 x42.m, .bool x42.o]) ?_; (simp; done)) | with_reducible refine Own.alloc ?_ _ | refine Own.far _ _ (by first | (simp; done) | (simp [*]; done) | (simp; omega)) ?_)); done
                        | simp [Own, go_sem, ub39, uce84, ne88, ne88', ne88_]
                      have hB93 : Below w.heap.size w W5 := by
                        rw [hW5]
                        repeat (first | with_reducible exact hB40 | with_reducible refine bel_alloc ?_ _ | refine Below.setCell ?_ (by first | (simp; done) | (simp; omega) | omega) _)
                      clear hW5 hL5 ub39 uce84 b39
                      have dc91 := fun p : Bel W5 => c91.bel p; have dc92 := fun p : Bel W5 => c92.bel p
                      simp only [At, Own, Nat.reduceAdd, and_true] at dc91 dc92
                      refine wp_region_tail 8 (by kernel_rfl) (by kernel_rfl) ?_
                      simp only [List.take_succ_cons, List.take_zero, List.drop_succ_cons, List.drop_zero]
                      repeat (go_big_quiet_step (first | (go_at_call 27; with_reducible exact Calls.bel (K89.out _ (HNV.out.up (bel_up hB93 (Bel.h _))))) | (go_at_call 27; with_reducible exact Calls.bel (K90.out _ (HNV.out.up (bel_up hB93 (Bel.h _)))))))
                      refine wpQuiet_nil ?_
                      intro w5 hb5
                      have c94 := c91.up hb5
                      have c95 := c92.up hb5
                      have hB96 : Below w.heap.size w w5 := bel_up hB93 hb5
                      clear dc91 dc92 c91 c92
                      have uc94 := c94; have uc95 := c95
                      simp only [At, Own, Nat.reduceAdd, and_true] at uc94 uc95
                      by_cases hc97 : (1073741824 : Int) < x42.i
                      · skip
                        have hc97_ : ¬ ((x42.i : Int) ≤ 1073741824) := by omega
                        go_wp2
                        go_ret
                        refine ⟨(by rw [chk_roads (by rw [HNn.out, HNr.out]; omega) H0.out, ← HE2.out, HT.out.trans (rE_id (id_27 (by omega)) (by decide))] <;> rfl), ?_⟩
                        repeat (first | with_reducible exact hB96 | with_reducible refine bel_alloc ?_ _ | refine Below.setCell ?_ (by first | (simp; done) | (simp; omega) | omega) _)
                      · skip
                        have hc97_ : ((x42.i : Int) ≤ 1073741824) := by omega
                        go_wp2
                        go_ret
                        refine ⟨(by rw [chk_roads (by rw [HNn.out, HNr.out]; omega) H0.out, ← HE2.out, HT.out.trans (rE_cat (road_9b HFA.out HFB.out) (id_0 (by omega) (by omega) (by omega)) (by decide))] <;> rfl), ?_⟩
                        repeat (first | with_reducible exact hB96 | with_reducible refine bel_alloc ?_ _ | refine Below.setCell ?_ (by first | (simp; done) | (simp; omega) | omega) _)
                  | some b =>
                    obtain ⟨jb, hjb, hjb2⟩ := fnd_idx hfb
                    have hjbn : jb < Nn := by have e_ := (List.getElem?_eq_some_iff.1 hjb2).1; rw [HNn.out] at e_; exact e_
                    have HFB := Lib.hid hfb
                    have HJB := Lib.hid hjb
                    have HJB2 := Lib.hid hjb2
                    have i1jb : (jb : Int) < Nn := by omega
                    have i0jb : (0 : Int) ≤ jb := Int.natCast_nonneg _
                    have i2jb : ¬ (jb : Int) < 0 := by omega
                    have HIX := Lib.hid (idx_ne HJA2.out HJB2.out HJA.out HJB.out (fnd_of HFA.out).2 (fnd_of HFB.out).2)
                    clear hjb hjb2 hfb
                    by_cases hx1 : (x42.i : Int) < 1
                    · skip
                      have hx1_ : ¬ ((1 : Int) ≤ x42.i) := by omega
                      have ub39 := b39
                      simp only [At, Own, Nat.reduceAdd, and_true] at ub39
                      obtain ⟨g99, o100, ha101, -⟩ := (HXR.out).up kpR hB40 _ _ Hhx43.out
                      subst ha101
                      have ce98 := LX.at_ ((HXR.out).up kpR hB40) Hhx43.out
                      have ce98_ : g99 < wr41.heap.size := World.block_lt_of_cell? _ _ ce98.1
                      have uce98 := ce98
                      simp only [CR, rdc, At, Nat.reduceMul] at uce98
                      have ne102_ : w.heap.size < wr41.heap.size := by have := b39.lt; omega
                      have ne102 := Nat.ne_of_lt ne102_
                      have ne102' := ne102.symm
                      have K103 := Lib.hid (fun W (hv : NV W (.agg #[.slice An Nn cn, .slice (some ⟨g99, o100, none⟩) Nr cr]) N) => lnode_j N x42.f ja _ W hv ⟨by rw [HNn.out]; omega, by rw [HNr.out]; omega⟩ HJA.out)
                      have K104 := Lib.hid (fun W (hv : NV W (.agg #[.slice An Nn cn, .slice (some ⟨g99, o100, none⟩) Nr cr]) N) => lnode_j N x42.t jb _ W hv ⟨by rw [HNn.out]; omega, by rw [HNr.out]; omega⟩ HJB.out)
                      go_wp2_with fail
                      refine wp_named ?_
                      intro W6 hW6
                      have hL6 : Below wr41.heap.size wr41 W6 := by
                        rw [hW6]
                        repeat (first | with_reducible exact Below.refl _ _ | with_reducible refine bel_alloc ?_ _ | refine Below.setCell ?_ (by first | (simp; done) | (simp; omega) | omega) _)
                      have c105 := b39.up hL6
                      have c106 : Own W6 (wr41.heap.size) 0 [.int .i64 x42.i, .int .i64 x42.f, .int .i64 x42.t, .int .i64 x42.l, .int .i64 x42.m, .bool x42.o] := by
                        rw [hW6]
                        first
                        | (repeat (first | (with_reducible refine own_new (l := [.int .i64 x42.i, .int .i64 x42.f, .int .i64 x42.t, .int .i64 x42.l, .int .i64 x42.m, .bool x42.o]) ?_; (simp; done)) | with_reducible refine Own.alloc ?_ _ | refine Own.far _ _ (by first | (simp; done) | (simp [*]; done) | (simp; omega)) ?_)); done
                        | simp [Own, go_sem, ub39, uce98, ne102, ne102', ne102_]
                      have hB107 : Below w.heap.size w W6 := by
                        rw [hW6]
                        repeat (first | with_reducible exact hB40 | with_reducible refine bel_alloc ?_ _ | refine Below.setCell ?_ (by first | (simp; done) | (simp; omega) | omega) _)
                      clear hW6 hL6 ub39 uce98 b39
                      have dc105 := fun p : Bel W6 => c105.bel p; have dc106 := fun p : Bel W6 => c106.bel p
                      simp only [At, Own, Nat.reduceAdd, and_true] at dc105 dc106
                      refine wp_region_tail 8 (by kernel_rfl) (by kernel_rfl) ?_
                      simp only [List.take_succ_cons, List.take_zero, List.drop_succ_cons, List.drop_zero]
                      repeat (go_big_quiet_step (first | (go_at_call 27; with_reducible exact Calls.bel (K103.out _ (HNV.out.up (bel_up hB107 (Bel.h _))))) | (go_at_call 27; with_reducible exact Calls.bel (K104.out _ (HNV.out.up (bel_up hB107 (Bel.h _)))))))
                      refine wpQuiet_nil ?_
                      intro w6 hb6
                      have c108 := c105.up hb6
                      have c109 := c106.up hb6
                      have hB110 : Below w.heap.size w w6 := bel_up hB107 hb6
                      clear dc105 dc106 c105 c106
                      have uc108 := c108; have uc109 := c109
                      simp only [At, Own, Nat.reduceAdd, and_true] at uc108 uc109
                      go_wp2
                      go_ret
                      refine ⟨(by rw [chk_roads (by rw [HNn.out, HNr.out]; omega) H0.out, ← HE2.out, HT.out.trans (rE_id (id_27 (by omega)) (by decide))] <;> rfl), ?_⟩
                      repeat (first | with_reducible exact hB110 | with_reducible refine bel_alloc ?_ _ | refine Below.setCell ?_ (by first | (simp; done) | (simp; omega) | omega) _)
                    · skip
                      have hx1_ : (1 : Int) ≤ x42.i := by omega
                      have hx2 : ¬ (x42.i : Int) = 0 := by omega
                      have hx2_ : ((x42.i : Int) == 0) = false := by simpa using hx2
                      have hx3 : ¬ (x42.i : Int) < 0 := by omega
                      have hx3_ : (0 : Int) ≤ x42.i := by omega
                      have ub39 := b39
                      simp only [At, Own, Nat.reduceAdd, and_true] at ub39
                      obtain ⟨g112, o113, ha114, -⟩ := (HXR.out).up kpR hB40 _ _ Hhx43.out
                      subst ha114
                      have ce111 := LX.at_ ((HXR.out).up kpR hB40) Hhx43.out
                      have ce111_ : g112 < wr41.heap.size := World.block_lt_of_cell? _ _ ce111.1
                      have uce111 := ce111
                      simp only [CR, rdc, At, Nat.reduceMul] at uce111
                      have ne115_ : w.heap.size < wr41.heap.size := by have := b39.lt; omega
                      have ne115 := Nat.ne_of_lt ne115_
                      have ne115' := ne115.symm
                      have K116 := Lib.hid (fun W (hv : NV W (.agg #[.slice An Nn cn, .slice (some ⟨g112, o113, none⟩) Nr cr]) N) => lnode_j N x42.f ja _ W hv ⟨by rw [HNn.out]; omega, by rw [HNr.out]; omega⟩ HJA.out)
                      have K117 := Lib.hid (fun W (hv : NV W (.agg #[.slice An Nn cn, .slice (some ⟨g112, o113, none⟩) Nr cr]) N) => lnode_j N x42.t jb _ W hv ⟨by rw [HNn.out]; omega, by rw [HNr.out]; omega⟩ HJB.out)
                      go_wp2_with fail
                      refine wp_named ?_
                      intro W7 hW7
                      have hL7 : Below wr41.heap.size wr41 W7 := by
                        rw [hW7]
                        repeat (first | with_reducible exact Below.refl _ _ | with_reducible refine bel_alloc ?_ _ | refine Below.setCell ?_ (by first | (simp; done) | (simp; omega) | omega) _)
                      have c118 := b39.up hL7
                      have c119 : Own W7 (wr41.heap.size) 0 [.int .i64 x42.i, .int .i64 x42.f, .int .i64 x42.t, .int .i64 x42.l, .int .i64 x42.m, .bool x42.o] := by
                        rw [hW7]
                        first
                        | (repeat (first | (with_reducible refine own_new (l := [.int .i64 x42.i, .int .i64 x42.f, .int .i64 x42.t, .int .i64 x42.l, .int .i64 x42.m, .bool x42.o]) ?_; (simp; done)) | with_reducible refine Own.alloc ?_ _ | refine Own.far _ _ (by first | (simp; done) | (simp [*]; done) | (simp; omega)) ?_)); done
                        | simp [Own, go_sem, ub39, uce111, ne115, ne115', ne115_]
                      have hB120 : Below w.heap.size w W7 := by
                        rw [hW7]
                        repeat (first | with_reducible exact hB40 | with_reducible refine bel_alloc ?_ _ | refine Below.setCell ?_ (by first | (simp; done) | (simp; omega) | omega) _)
                      clear hW7 hL7 ub39 uce111 b39
                      have dc118 := fun p : Bel W7 => c118.bel p; have dc119 := fun p : Bel W7 => c119.bel p
                      simp only [At, Own, Nat.reduceAdd, and_true] at dc118 dc119
                      refine wp_region_tail 8 (by kernel_rfl) (by kernel_rfl) ?_
                      simp only [List.take_succ_cons, List.take_zero, List.drop_succ_cons, List.drop_zero]
                      repeat (go_big_quiet_step (first | (go_at_call 27; with_reducible exact Calls.bel (K116.out _ (HNV.out.up (bel_up hB120 (Bel.h _))))) | (go_at_call 27; with_reducible exact Calls.bel (K117.out _ (HNV.out.up (bel_up hB120 (Bel.h _)))))))
                      refine wpQuiet_nil ?_
                      intro w7 hb7
                      have c121 := c118.up hb7
                      have c122 := c119.up hb7
                      have hB123 : Below w.heap.size w w7 := bel_up hB120 hb7
                      clear dc118 dc119 c118 c119
                      have uc121 := c121; have uc122 := c122
                      simp only [At, Own, Nat.reduceAdd, and_true] at uc121 uc122
                      by_cases hc124 : (1073741824 : Int) < x42.i
                      · skip
                        have hc124_ : ¬ ((x42.i : Int) ≤ 1073741824) := by omega
                        go_wp2
                        go_ret
                        refine ⟨(by rw [chk_roads (by rw [HNn.out, HNr.out]; omega) H0.out, ← HE2.out, HT.out.trans (rE_id (id_27 (by omega)) (by decide))] <;> rfl), ?_⟩
                        repeat (first | with_reducible exact hB123 | with_reducible refine bel_alloc ?_ _ | refine Below.setCell ?_ (by first | (simp; done) | (simp; omega) | omega) _)
                      · skip
                        have hc124_ : ((x42.i : Int) ≤ 1073741824) := by omega
                        by_cases hc125 : (ja : Int) = jb
                        · skip
                          have hc125_ : (((ja : Int)) == jb) = true := by simpa using hc125
                          have Hhc125 := Lib.hid hc125
                          clear hc125
                          go_wp2
                          go_ret
                          refine ⟨(by rw [chk_roads (by rw [HNn.out, HNr.out]; omega) H0.out, ← HE2.out, HT.out.trans (rE_cat ((road_x HFA.out HFB.out).trans (roadX_17 (HIX.out.1 (by first | exact Hhc125.out)))) (id_0 (by omega) (by omega) (by omega)) (by decide))] <;> rfl), ?_⟩
                          repeat (first | with_reducible exact hB123 | with_reducible refine bel_alloc ?_ _ | refine Below.setCell ?_ (by first | (simp; done) | (simp; omega) | omega) _)
                        · skip
                          have hc125_ : (((ja : Int)) == jb) = false := by simpa using hc125
                          by_cases hc126 : (x42.m : Int) < 1
                          · skip
                            have hc126_ : ¬ ((1 : Int) ≤ x42.m) := by omega
                            go_wp2
                            go_ret
                            refine ⟨(by rw [chk_roads (by rw [HNn.out, HNr.out]; omega) H0.out, ← HE2.out, HT.out.trans (rE_cat ((road_x HFA.out HFB.out).trans (roadX_2a (fun e_ => absurd (HIX.out.2 e_) (by omega)) (by omega))) (id_0 (by omega) (by omega) (by omega)) (by decide))] <;> rfl), ?_⟩
                            repeat (first | with_reducible exact hB123 | with_reducible refine bel_alloc ?_ _ | refine Below.setCell ?_ (by first | (simp; done) | (simp; omega) | omega) _)
                          · skip
                            have hc126_ : ((1 : Int) ≤ x42.m) := by omega
                            by_cases hc127 : (1048576 : Int) < x42.m
                            · skip
                              have hc127_ : ¬ ((x42.m : Int) ≤ 1048576) := by omega
                              go_wp2
                              go_ret
                              refine ⟨(by rw [chk_roads (by rw [HNn.out, HNr.out]; omega) H0.out, ← HE2.out, HT.out.trans (rE_cat ((road_x HFA.out HFB.out).trans (roadX_2a (fun e_ => absurd (HIX.out.2 e_) (by omega)) (by omega))) (id_0 (by omega) (by omega) (by omega)) (by decide))] <;> rfl), ?_⟩
                              repeat (first | with_reducible exact hB123 | with_reducible refine bel_alloc ?_ _ | refine Below.setCell ?_ (by first | (simp; done) | (simp; omega) | omega) _)
                            · skip
                              have hc127_ : ((x42.m : Int) ≤ 1048576) := by omega
                              by_cases hc128 : (x42.l : Int) < 1
                              · skip
                                have hc128_ : ¬ ((1 : Int) ≤ x42.l) := by omega
                                go_wp2
                                go_ret
                                refine ⟨(by rw [chk_roads (by rw [HNn.out, HNr.out]; omega) H0.out, ← HE2.out, HT.out.trans (rE_cat ((road_x HFA.out HFB.out).trans (roadX_2a (fun e_ => absurd (HIX.out.2 e_) (by omega)) (by omega))) (id_0 (by omega) (by omega) (by omega)) (by decide))] <;> rfl), ?_⟩
                                repeat (first | with_reducible exact hB123 | with_reducible refine bel_alloc ?_ _ | refine Below.setCell ?_ (by first | (simp; done) | (simp; omega) | omega) _)
                              · skip
                                have hc128_ : ((1 : Int) ≤ x42.l) := by omega
                                by_cases hc129 : (1073741824 : Int) < x42.l
                                · skip
                                  have hc129_ : ¬ ((x42.l : Int) ≤ 1073741824) := by omega
                                  go_wp2
                                  go_ret
                                  refine ⟨(by rw [chk_roads (by rw [HNn.out, HNr.out]; omega) H0.out, ← HE2.out, HT.out.trans (rE_cat ((road_x HFA.out HFB.out).trans (roadX_2a (fun e_ => absurd (HIX.out.2 e_) (by omega)) (by omega))) (id_0 (by omega) (by omega) (by omega)) (by decide))] <;> rfl), ?_⟩
                                  repeat (first | with_reducible exact hB123 | with_reducible refine bel_alloc ?_ _ | refine Below.setCell ?_ (by first | (simp; done) | (simp; omega) | omega) _)
                                · skip
                                  have hc129_ : ((x42.l : Int) ≤ 1073741824) := by omega
                                  obtain ⟨a1, a2, a3, a4⟩ := (HH.out.on a (fnd_of HFA.out).1).2.2
                                  obtain ⟨b1, b2_, b3, b4⟩ := (HH.out.on b (fnd_of HFB.out).1).2.2
                                  obtain ⟨dx, hdx⟩ : ∃ d, a.x - b.x = d := ⟨_, rfl⟩
                                  obtain ⟨dy, hdy⟩ : ∃ d, a.y - b.y = d := ⟨_, rfl⟩
                                  obtain ⟨px, hpx⟩ : ∃ d, dx * dx = d := ⟨_, rfl⟩
                                  obtain ⟨py, hpy⟩ : ∃ d, dy * dy = d := ⟨_, rfl⟩
                                  obtain ⟨ll, hll⟩ : ∃ d, x42.l * x42.l = d := ⟨_, rfl⟩
                                  obtain ⟨sx1, sx2⟩ := sq_bd (x := dx) (by omega) (by omega)
                                  obtain ⟨sy1, sy2⟩ := sq_bd (x := dy) (by omega) (by omega)
                                  obtain ⟨sl1, sl2⟩ := sq_bd2 (x := x42.l) (by omega) (by omega)
                                  rw [hpx] at sx1 sx2
                                  rw [hpy] at sy1 sy2
                                  rw [hll] at sl1 sl2
                                  have wx1 : IntKind.i64.wrap dx = dx := wrapb (by omega) (by omega)
                                  have wx2 : wrap64 dx = dx := wrapc (by omega) (by omega)
                                  have wy1 : IntKind.i64.wrap dy = dy := wrapb (by omega) (by omega)
                                  have wy2 : wrap64 dy = dy := wrapc (by omega) (by omega)
                                  have HDX := Lib.hid hdx
                                  have HDY := Lib.hid hdy
                                  have HPX := Lib.hid hpx
                                  have HPY := Lib.hid hpy
                                  have HLL := Lib.hid hll
                                  clear a1 a2 a3 a4 b1 b2_ b3 b4 hpx hpy hll
                                  go_upto_region 38 with fail
                                  obtain ⟨g131, o132, ha133, -⟩ := (HXN.out).up kpN hB123 _ _ HJA2.out
                                  subst ha133
                                  have ce130 := LX.at_ ((HXN.out).up kpN hB123) HJA2.out
                                  have ce130_ : g131 < w7.heap.size := World.block_lt_of_cell? _ _ ce130.1
                                  have ce134 := LX.at_ ((HXN.out).up kpN hB123) HJB2.out
                                  have ce134_ : g131 < w7.heap.size := World.block_lt_of_cell? _ _ ce134.1
                                  have HSS135 : ∀ w' : World, Below w7.heap.size w7 w' → (w'.cell? ⟨w.heap.size, 0, none⟩ = some (.slice (some ⟨g131, o132, none⟩) Nn cn) ∧ w'.cell? ⟨w.heap.size, 1, none⟩ = some (.slice (some ⟨g112, o113, none⟩) Nr cr) ∧ w'.cell? ⟨g131, o132 + ja * 3, none⟩ = some (.int .i64 a.i) ∧ w'.cell? ⟨g131, o132 + ja * 3 + 1, none⟩ = some (.int .i64 a.x) ∧ w'.cell? ⟨g131, o132 + ja * 3 + 2, none⟩ = some (.int .i64 a.y) ∧ w'.cell? ⟨g131, o132 + jb * 3, none⟩ = some (.int .i64 b.i) ∧ w'.cell? ⟨g131, o132 + jb * 3 + 1, none⟩ = some (.int .i64 b.x) ∧ w'.cell? ⟨g131, o132 + jb * 3 + 2, none⟩ = some (.int .i64 b.y)) := fun w' hb => by
                                    have qc121 := c121.up hb; have qce130 := kpN.up ce130 hb; have qce134 := kpN.up ce134 hb
                                    simp only [CN, ndc, At, At, Own, Nat.reduceAdd, Nat.reduceMul, Nat.zero_add, Nat.add_assoc, and_true] at qc121 qce130 qce134
                                    try simp only [Nat.add_assoc, Nat.reduceAdd]
                                    simp [*]
                                  go_cut [11, 12] (fun x11 x12 wx => x11 = .int .i64 dx ∧ x12 = .int .i64 dy ∧ Below w7.heap.size w7 wx)
                                  case first =>
                                    have hu := HSS135 w7 (Below.refl _ _)
                                    go_region_held3 (fun w' => w'.cell? ⟨w.heap.size, 0, none⟩ = some (.slice (some ⟨g131, o132, none⟩) Nn cn) ∧ w'.cell? ⟨w.heap.size, 1, none⟩ = some (.slice (some ⟨g112, o113, none⟩) Nr cr) ∧ w'.cell? ⟨g131, o132 + ja * 3, none⟩ = some (.int .i64 a.i) ∧ w'.cell? ⟨g131, o132 + ja * 3 + 1, none⟩ = some (.int .i64 a.x) ∧ w'.cell? ⟨g131, o132 + ja * 3 + 2, none⟩ = some (.int .i64 a.y) ∧ w'.cell? ⟨g131, o132 + jb * 3, none⟩ = some (.int .i64 b.i) ∧ w'.cell? ⟨g131, o132 + jb * 3 + 1, none⟩ = some (.int .i64 b.x) ∧ w'.cell? ⟨g131, o132 + jb * 3 + 2, none⟩ = some (.int .i64 b.y)) (refine HSS135 _ ?_ <;> (repeat (first | with_reducible exact Below.refl _ _ | with_reducible refine Below.drew ?_))) (fail)
                                    all_goals
                                      go_wp2_with fail
                                      go_meet
                                      exact ⟨rfl, rfl, by (repeat (first | with_reducible exact Below.refl _ _ | with_reducible refine Below.drew ?_))⟩
                                  case rest =>
                                    obtain ⟨rfl, rfl, hbz136⟩ := hcut
                                    obtain ⟨wz136, hwz136⟩ : ∃ W_, W_ = wc := ⟨_, rfl⟩
                                    subst hwz136
                                    clear HSS135
                                    have c137 := c121.up hbz136
                                    have c138 := c122.up hbz136
                                    have hB139 : Below w.heap.size w wz136 := bel_up hB123 hbz136
                                    clear uc121 uc122 c121 c122
                                    clear hdx hdy wx1 wx2 wy1 wy2
                                    have wp1 : IntKind.i64.wrap px = px := wrapb (by omega) (by omega)
                                    have wp2 : wrap64 px = px := wrapc (by omega) (by omega)
                                    have wq1 : IntKind.i64.wrap py = py := wrapb (by omega) (by omega)
                                    have wq2 : wrap64 py = py := wrapc (by omega) (by omega)
                                    have ws1 : IntKind.i64.wrap (px + py) = px + py := wrapb (by omega) (by omega)
                                    have ws2 : wrap64 (px + py) = px + py := wrapc (by omega) (by omega)
                                    have wl1 : IntKind.i64.wrap ll = ll := wrapb (by omega) (by omega)
                                    have wl2 : wrap64 ll = ll := wrapc (by omega) (by omega)
                                    have hpx := HPX.out
                                    have hpy := HPY.out
                                    have hll := HLL.out
                                    have uc137 := c137; have uc138 := c138
                                    simp only [At, Own, Nat.reduceAdd, and_true] at uc137 uc138
                                    by_cases hc140 : (ll : Int) < (px + py)
                                    · skip
                                      have hc140_ : ¬ (((px + py) : Int) ≤ ll) := by omega
                                      go_wp2
                                      go_ret
                                      refine ⟨(by rw [chk_roads (by rw [HNn.out, HNr.out]; omega) H0.out, ← HE2.out, HT.out.trans (rE_cat ((road_x HFA.out HFB.out).trans (roadX_2b (fun e_ => absurd (HIX.out.2 e_) (by omega)) HLL.out HDX.out HDY.out HPX.out HPY.out (by omega))) (id_0 (by omega) (by omega) (by omega)) (by decide))] <;> rfl), ?_⟩
                                      repeat (first | with_reducible exact hB139 | with_reducible refine bel_alloc ?_ _ | refine Below.setCell ?_ (by first | (simp; done) | (simp; omega) | omega) _)
                                    · skip
                                      have hc140_ : (((px + py) : Int) ≤ ll) := by omega
                                      go_wp2
                                      go_roundw
                                      case rel => exact ⟨(j + 1), x42.i, (by first | rfl | exact congrArg (Value.int .i64) (by omega) | simp [*]), (by repeat (first | with_reducible exact c137 | refine Own.far _ _ (by simp <;> omega) ?_ | with_reducible refine Own.alloc ?_ _)), (by repeat (first | with_reducible exact hB139 | with_reducible refine bel_alloc ?_ _ | refine Below.setCell ?_ (by first | (simp; done) | (simp; omega) | omega) _)), (by omega), Lib.hid (by rw [← HE2.out, HT.out, rE_okat ((road_x HFA.out HFB.out).trans (roadX_0 (fun e_ => absurd (HIX.out.2 e_) (by omega)) HLL.out HDX.out HDY.out HPX.out HPY.out (by omega) (by omega))) (id_0 (by omega) (by omega) (by omega))]), Lib.hid (.inr ⟨j, x42, rfl, Hhx43.out, rfl⟩)⟩
                                      case measure => simp [intOf] <;> omega
              · skip
                subst hb0
                have HY := Lib.hid hy
                have hkp : (0 : Int) < j := by omega
                have hmk : (j : Int) - 1 = m := by omega
                have i1m : (m : Int) < Nr := by omega
                have i0m : (0 : Int) ≤ m := Int.natCast_nonneg _
                obtain ⟨wm1, wm2⟩ := i64_small (a := (m : Int)) (by omega) (by omega)
                clear hy hkm
                have HT : Hid (roadsE N.ns (N.rs.drop j) y.i = rE (roadE N.ns x42) x42 y.i (roadsE N.ns (N.rs.drop (j + 1)) x42.i)) := Lib.hid (roadsE_get Hhx43.out)
                cases hfa : fnd N.ns x42.f with
                | none =>
                  obtain ⟨jt, hjt⟩ : ∃ z, idxN N.ns x42.t = z := ⟨_, rfl⟩
                  have HJB := Lib.hid hjt
                  have HJA := Lib.hid (fnd_no hfa)
                  have HFA := Lib.hid hfa
                  clear hjt hfa
                  have ub39 := b39
                  simp only [At, Own, Nat.reduceAdd, and_true] at ub39
                  obtain ⟨g142, o143, ha144, -⟩ := (HXR.out).up kpR hB40 _ _ Hhx43.out
                  subst ha144
                  have ce141 := LX.at_ ((HXR.out).up kpR hB40) Hhx43.out
                  have ce141_ : g142 < wr41.heap.size := World.block_lt_of_cell? _ _ ce141.1
                  have uce141 := ce141
                  simp only [CR, rdc, At, Nat.reduceMul] at uce141
                  have ne145_ : w.heap.size < wr41.heap.size := by have := b39.lt; omega
                  have ne145 := Nat.ne_of_lt ne145_
                  have ne145' := ne145.symm
                  have ce146 := LX.at_ ((HXR.out).up kpR hB40) HY.out
                  have ce146_ : g142 < wr41.heap.size := World.block_lt_of_cell? _ _ ce146.1
                  have uce146 := ce146
                  simp only [CR, rdc, At, Nat.reduceMul] at uce146
                  have K147 := Lib.hid (fun W (hv : NV W (.agg #[.slice An Nn cn, .slice (some ⟨g142, o143, none⟩) Nr cr]) N) => lnode_j N x42.f (-1) _ W hv ⟨by rw [HNn.out]; omega, by rw [HNr.out]; omega⟩ HJA.out)
                  have K148 := Lib.hid (fun W (hv : NV W (.agg #[.slice An Nn cn, .slice (some ⟨g142, o143, none⟩) Nr cr]) N) => lnode_j N x42.t jt _ W hv ⟨by rw [HNn.out]; omega, by rw [HNr.out]; omega⟩ HJB.out)
                  go_wp2_with fail
                  refine wp_named ?_
                  intro W8 hW8
                  have hL8 : Below wr41.heap.size wr41 W8 := by
                    rw [hW8]
                    repeat (first | with_reducible exact Below.refl _ _ | with_reducible refine bel_alloc ?_ _ | refine Below.setCell ?_ (by first | (simp; done) | (simp; omega) | omega) _)
                  have c149 := b39.up hL8
                  have c150 : Own W8 (wr41.heap.size) 0 [.int .i64 x42.i, .int .i64 x42.f, .int .i64 x42.t, .int .i64 x42.l, .int .i64 x42.m, .bool x42.o] := by
                    rw [hW8]
                    first
                    | (repeat (first | (with_reducible refine own_new (l := [.int .i64 x42.i, .int .i64 x42.f, .int .i64 x42.t, .int .i64 x42.l, .int .i64 x42.m, .bool x42.o]) ?_; (simp; done)) | with_reducible refine Own.alloc ?_ _ | refine Own.far _ _ (by first | (simp; done) | (simp [*]; done) | (simp; omega)) ?_)); done
                    | simp [Own, go_sem, ub39, uce141, uce146, ne145, ne145', ne145_]
                  have hB151 : Below w.heap.size w W8 := by
                    rw [hW8]
                    repeat (first | with_reducible exact hB40 | with_reducible refine bel_alloc ?_ _ | refine Below.setCell ?_ (by first | (simp; done) | (simp; omega) | omega) _)
                  clear hW8 hL8 ub39 uce141 uce146 b39
                  have dc149 := fun p : Bel W8 => c149.bel p; have dc150 := fun p : Bel W8 => c150.bel p
                  simp only [At, Own, Nat.reduceAdd, and_true] at dc149 dc150
                  refine wp_region_tail 8 (by kernel_rfl) (by kernel_rfl) ?_
                  simp only [List.take_succ_cons, List.take_zero, List.drop_succ_cons, List.drop_zero]
                  repeat (go_big_quiet_step (first | (go_at_call 27; with_reducible exact Calls.bel (K147.out _ (HNV.out.up (bel_up hB151 (Bel.h _))))) | (go_at_call 27; with_reducible exact Calls.bel (K148.out _ (HNV.out.up (bel_up hB151 (Bel.h _)))))))
                  refine wpQuiet_nil ?_
                  intro w8 hb8
                  have c152 := c149.up hb8
                  have c153 := c150.up hb8
                  have hB154 : Below w.heap.size w w8 := bel_up hB151 hb8
                  clear dc149 dc150 c149 c150
                  have uc152 := c152; have uc153 := c153
                  simp only [At, Own, Nat.reduceAdd, and_true] at uc152 uc153
                  by_cases hc155 : (x42.i : Int) < 1
                  · skip
                    have hc155_ : ¬ ((1 : Int) ≤ x42.i) := by omega
                    go_wp2
                    go_ret
                    refine ⟨(by rw [chk_roads (by rw [HNn.out, HNr.out]; omega) H0.out, ← HE2.out, HT.out.trans (rE_id (id_27 (by omega)) (by decide))] <;> rfl), ?_⟩
                    repeat (first | with_reducible exact hB154 | with_reducible refine bel_alloc ?_ _ | refine Below.setCell ?_ (by first | (simp; done) | (simp; omega) | omega) _)
                  · skip
                    have hc155_ : ((1 : Int) ≤ x42.i) := by omega
                    by_cases hc156 : (1073741824 : Int) < x42.i
                    · skip
                      have hc156_ : ¬ ((x42.i : Int) ≤ 1073741824) := by omega
                      go_wp2
                      go_ret
                      refine ⟨(by rw [chk_roads (by rw [HNn.out, HNr.out]; omega) H0.out, ← HE2.out, HT.out.trans (rE_id (id_27 (by omega)) (by decide))] <;> rfl), ?_⟩
                      repeat (first | with_reducible exact hB154 | with_reducible refine bel_alloc ?_ _ | refine Below.setCell ?_ (by first | (simp; done) | (simp; omega) | omega) _)
                    · skip
                      have hc156_ : ((x42.i : Int) ≤ 1073741824) := by omega
                      by_cases hc157 : (x42.i : Int) = y.i
                      · skip
                        have hc157_ : (((x42.i : Int)) == y.i) = true := by simpa using hc157
                        have Hhc157 := Lib.hid hc157
                        clear hc157
                        go_wp2
                        go_ret
                        refine ⟨(by rw [chk_roads (by rw [HNn.out, HNr.out]; omega) H0.out, ← HE2.out, HT.out.trans (rE_id (id_8 (by omega) (by first | exact Hhc157.out)) (by decide))] <;> rfl), ?_⟩
                        repeat (first | with_reducible exact hB154 | with_reducible refine bel_alloc ?_ _ | refine Below.setCell ?_ (by first | (simp; done) | (simp; omega) | omega) _)
                      · skip
                        have hc157_ : (((x42.i : Int)) == y.i) = false := by simpa using hc157
                        by_cases hc158 : (x42.i : Int) < y.i
                        · skip
                          have hc158_ : ¬ ((y.i : Int) ≤ x42.i) := by omega
                          go_wp2
                          go_ret
                          refine ⟨(by rw [chk_roads (by rw [HNn.out, HNr.out]; omega) H0.out, ← HE2.out, HT.out.trans (rE_id (id_7 (by omega) (by omega) (by omega)) (by decide))] <;> rfl), ?_⟩
                          repeat (first | with_reducible exact hB154 | with_reducible refine bel_alloc ?_ _ | refine Below.setCell ?_ (by first | (simp; done) | (simp; omega) | omega) _)
                        · skip
                          have hc158_ : ((y.i : Int) ≤ x42.i) := by omega
                          go_wp2
                          go_ret
                          refine ⟨(by rw [chk_roads (by rw [HNn.out, HNr.out]; omega) H0.out, ← HE2.out, HT.out.trans (rE_cat (road_9a HFA.out) (id_0 (by omega) (by omega) (by omega)) (by decide))] <;> rfl), ?_⟩
                          repeat (first | with_reducible exact hB154 | with_reducible refine bel_alloc ?_ _ | refine Below.setCell ?_ (by first | (simp; done) | (simp; omega) | omega) _)
                | some a =>
                  obtain ⟨ja, hja, hja2⟩ := fnd_idx hfa
                  have hjan : ja < Nn := by have e_ := (List.getElem?_eq_some_iff.1 hja2).1; rw [HNn.out] at e_; exact e_
                  have HFA := Lib.hid hfa
                  have HJA := Lib.hid hja
                  have HJA2 := Lib.hid hja2
                  have i1ja : (ja : Int) < Nn := by omega
                  have i0ja : (0 : Int) ≤ ja := Int.natCast_nonneg _
                  have i2ja : ¬ (ja : Int) < 0 := by omega
                  clear hja hja2 hfa
                  cases hfb : fnd N.ns x42.t with
                  | none =>
                    have HJB := Lib.hid (fnd_no hfb)
                    have HFB := Lib.hid hfb
                    clear hfb
                    have ub39 := b39
                    simp only [At, Own, Nat.reduceAdd, and_true] at ub39
                    obtain ⟨g160, o161, ha162, -⟩ := (HXR.out).up kpR hB40 _ _ Hhx43.out
                    subst ha162
                    have ce159 := LX.at_ ((HXR.out).up kpR hB40) Hhx43.out
                    have ce159_ : g160 < wr41.heap.size := World.block_lt_of_cell? _ _ ce159.1
                    have uce159 := ce159
                    simp only [CR, rdc, At, Nat.reduceMul] at uce159
                    have ne163_ : w.heap.size < wr41.heap.size := by have := b39.lt; omega
                    have ne163 := Nat.ne_of_lt ne163_
                    have ne163' := ne163.symm
                    have ce164 := LX.at_ ((HXR.out).up kpR hB40) HY.out
                    have ce164_ : g160 < wr41.heap.size := World.block_lt_of_cell? _ _ ce164.1
                    have uce164 := ce164
                    simp only [CR, rdc, At, Nat.reduceMul] at uce164
                    have K165 := Lib.hid (fun W (hv : NV W (.agg #[.slice An Nn cn, .slice (some ⟨g160, o161, none⟩) Nr cr]) N) => lnode_j N x42.f ja _ W hv ⟨by rw [HNn.out]; omega, by rw [HNr.out]; omega⟩ HJA.out)
                    have K166 := Lib.hid (fun W (hv : NV W (.agg #[.slice An Nn cn, .slice (some ⟨g160, o161, none⟩) Nr cr]) N) => lnode_j N x42.t (-1) _ W hv ⟨by rw [HNn.out]; omega, by rw [HNr.out]; omega⟩ HJB.out)
                    go_wp2_with fail
                    refine wp_named ?_
                    intro W9 hW9
                    have hL9 : Below wr41.heap.size wr41 W9 := by
                      rw [hW9]
                      repeat (first | with_reducible exact Below.refl _ _ | with_reducible refine bel_alloc ?_ _ | refine Below.setCell ?_ (by first | (simp; done) | (simp; omega) | omega) _)
                    have c167 := b39.up hL9
                    have c168 : Own W9 (wr41.heap.size) 0 [.int .i64 x42.i, .int .i64 x42.f, .int .i64 x42.t, .int .i64 x42.l, .int .i64 x42.m, .bool x42.o] := by
                      rw [hW9]
                      first
                      | (repeat (first | (with_reducible refine own_new (l := [.int .i64 x42.i, .int .i64 x42.f, .int .i64 x42.t, .int .i64 x42.l, .int .i64 x42.m, .bool x42.o]) ?_; (simp; done)) | with_reducible refine Own.alloc ?_ _ | refine Own.far _ _ (by first | (simp; done) | (simp [*]; done) | (simp; omega)) ?_)); done
                      | simp [Own, go_sem, ub39, uce159, uce164, ne163, ne163', ne163_]
                    have hB169 : Below w.heap.size w W9 := by
                      rw [hW9]
                      repeat (first | with_reducible exact hB40 | with_reducible refine bel_alloc ?_ _ | refine Below.setCell ?_ (by first | (simp; done) | (simp; omega) | omega) _)
                    clear hW9 hL9 ub39 uce159 uce164 b39
                    have dc167 := fun p : Bel W9 => c167.bel p; have dc168 := fun p : Bel W9 => c168.bel p
                    simp only [At, Own, Nat.reduceAdd, and_true] at dc167 dc168
                    refine wp_region_tail 8 (by kernel_rfl) (by kernel_rfl) ?_
                    simp only [List.take_succ_cons, List.take_zero, List.drop_succ_cons, List.drop_zero]
                    repeat (go_big_quiet_step (first | (go_at_call 27; with_reducible exact Calls.bel (K165.out _ (HNV.out.up (bel_up hB169 (Bel.h _))))) | (go_at_call 27; with_reducible exact Calls.bel (K166.out _ (HNV.out.up (bel_up hB169 (Bel.h _)))))))
                    refine wpQuiet_nil ?_
                    intro w9 hb9
                    have c170 := c167.up hb9
                    have c171 := c168.up hb9
                    have hB172 : Below w.heap.size w w9 := bel_up hB169 hb9
                    clear dc167 dc168 c167 c168
                    have uc170 := c170; have uc171 := c171
                    simp only [At, Own, Nat.reduceAdd, and_true] at uc170 uc171
                    by_cases hc173 : (x42.i : Int) < 1
                    · skip
                      have hc173_ : ¬ ((1 : Int) ≤ x42.i) := by omega
                      go_wp2
                      go_ret
                      refine ⟨(by rw [chk_roads (by rw [HNn.out, HNr.out]; omega) H0.out, ← HE2.out, HT.out.trans (rE_id (id_27 (by omega)) (by decide))] <;> rfl), ?_⟩
                      repeat (first | with_reducible exact hB172 | with_reducible refine bel_alloc ?_ _ | refine Below.setCell ?_ (by first | (simp; done) | (simp; omega) | omega) _)
                    · skip
                      have hc173_ : ((1 : Int) ≤ x42.i) := by omega
                      by_cases hc174 : (1073741824 : Int) < x42.i
                      · skip
                        have hc174_ : ¬ ((x42.i : Int) ≤ 1073741824) := by omega
                        go_wp2
                        go_ret
                        refine ⟨(by rw [chk_roads (by rw [HNn.out, HNr.out]; omega) H0.out, ← HE2.out, HT.out.trans (rE_id (id_27 (by omega)) (by decide))] <;> rfl), ?_⟩
                        repeat (first | with_reducible exact hB172 | with_reducible refine bel_alloc ?_ _ | refine Below.setCell ?_ (by first | (simp; done) | (simp; omega) | omega) _)
                      · skip
                        have hc174_ : ((x42.i : Int) ≤ 1073741824) := by omega
                        by_cases hc175 : (x42.i : Int) = y.i
                        · skip
                          have hc175_ : (((x42.i : Int)) == y.i) = true := by simpa using hc175
                          have Hhc175 := Lib.hid hc175
                          clear hc175
                          go_wp2
                          go_ret
                          refine ⟨(by rw [chk_roads (by rw [HNn.out, HNr.out]; omega) H0.out, ← HE2.out, HT.out.trans (rE_id (id_8 (by omega) (by first | exact Hhc175.out)) (by decide))] <;> rfl), ?_⟩
                          repeat (first | with_reducible exact hB172 | with_reducible refine bel_alloc ?_ _ | refine Below.setCell ?_ (by first | (simp; done) | (simp; omega) | omega) _)
                        · skip
                          have hc175_ : (((x42.i : Int)) == y.i) = false := by simpa using hc175
                          by_cases hc176 : (x42.i : Int) < y.i
                          · skip
                            have hc176_ : ¬ ((y.i : Int) ≤ x42.i) := by omega
                            go_wp2
                            go_ret
                            refine ⟨(by rw [chk_roads (by rw [HNn.out, HNr.out]; omega) H0.out, ← HE2.out, HT.out.trans (rE_id (id_7 (by omega) (by omega) (by omega)) (by decide))] <;> rfl), ?_⟩
                            repeat (first | with_reducible exact hB172 | with_reducible refine bel_alloc ?_ _ | refine Below.setCell ?_ (by first | (simp; done) | (simp; omega) | omega) _)
                          · skip
                            have hc176_ : ((y.i : Int) ≤ x42.i) := by omega
                            go_wp2
                            go_ret
                            refine ⟨(by rw [chk_roads (by rw [HNn.out, HNr.out]; omega) H0.out, ← HE2.out, HT.out.trans (rE_cat (road_9b HFA.out HFB.out) (id_0 (by omega) (by omega) (by omega)) (by decide))] <;> rfl), ?_⟩
                            repeat (first | with_reducible exact hB172 | with_reducible refine bel_alloc ?_ _ | refine Below.setCell ?_ (by first | (simp; done) | (simp; omega) | omega) _)
                  | some b =>
                    obtain ⟨jb, hjb, hjb2⟩ := fnd_idx hfb
                    have hjbn : jb < Nn := by have e_ := (List.getElem?_eq_some_iff.1 hjb2).1; rw [HNn.out] at e_; exact e_
                    have HFB := Lib.hid hfb
                    have HJB := Lib.hid hjb
                    have HJB2 := Lib.hid hjb2
                    have i1jb : (jb : Int) < Nn := by omega
                    have i0jb : (0 : Int) ≤ jb := Int.natCast_nonneg _
                    have i2jb : ¬ (jb : Int) < 0 := by omega
                    have HIX := Lib.hid (idx_ne HJA2.out HJB2.out HJA.out HJB.out (fnd_of HFA.out).2 (fnd_of HFB.out).2)
                    clear hjb hjb2 hfb
                    have ub39 := b39
                    simp only [At, Own, Nat.reduceAdd, and_true] at ub39
                    obtain ⟨g178, o179, ha180, -⟩ := (HXR.out).up kpR hB40 _ _ Hhx43.out
                    subst ha180
                    have ce177 := LX.at_ ((HXR.out).up kpR hB40) Hhx43.out
                    have ce177_ : g178 < wr41.heap.size := World.block_lt_of_cell? _ _ ce177.1
                    have uce177 := ce177
                    simp only [CR, rdc, At, Nat.reduceMul] at uce177
                    have ne181_ : w.heap.size < wr41.heap.size := by have := b39.lt; omega
                    have ne181 := Nat.ne_of_lt ne181_
                    have ne181' := ne181.symm
                    have ce182 := LX.at_ ((HXR.out).up kpR hB40) HY.out
                    have ce182_ : g178 < wr41.heap.size := World.block_lt_of_cell? _ _ ce182.1
                    have uce182 := ce182
                    simp only [CR, rdc, At, Nat.reduceMul] at uce182
                    have K183 := Lib.hid (fun W (hv : NV W (.agg #[.slice An Nn cn, .slice (some ⟨g178, o179, none⟩) Nr cr]) N) => lnode_j N x42.f ja _ W hv ⟨by rw [HNn.out]; omega, by rw [HNr.out]; omega⟩ HJA.out)
                    have K184 := Lib.hid (fun W (hv : NV W (.agg #[.slice An Nn cn, .slice (some ⟨g178, o179, none⟩) Nr cr]) N) => lnode_j N x42.t jb _ W hv ⟨by rw [HNn.out]; omega, by rw [HNr.out]; omega⟩ HJB.out)
                    go_wp2_with fail
                    refine wp_named ?_
                    intro W10 hW10
                    have hL10 : Below wr41.heap.size wr41 W10 := by
                      rw [hW10]
                      repeat (first | with_reducible exact Below.refl _ _ | with_reducible refine bel_alloc ?_ _ | refine Below.setCell ?_ (by first | (simp; done) | (simp; omega) | omega) _)
                    have c185 := b39.up hL10
                    have c186 : Own W10 (wr41.heap.size) 0 [.int .i64 x42.i, .int .i64 x42.f, .int .i64 x42.t, .int .i64 x42.l, .int .i64 x42.m, .bool x42.o] := by
                      rw [hW10]
                      first
                      | (repeat (first | (with_reducible refine own_new (l := [.int .i64 x42.i, .int .i64 x42.f, .int .i64 x42.t, .int .i64 x42.l, .int .i64 x42.m, .bool x42.o]) ?_; (simp; done)) | with_reducible refine Own.alloc ?_ _ | refine Own.far _ _ (by first | (simp; done) | (simp [*]; done) | (simp; omega)) ?_)); done
                      | simp [Own, go_sem, ub39, uce177, uce182, ne181, ne181', ne181_]
                    have hB187 : Below w.heap.size w W10 := by
                      rw [hW10]
                      repeat (first | with_reducible exact hB40 | with_reducible refine bel_alloc ?_ _ | refine Below.setCell ?_ (by first | (simp; done) | (simp; omega) | omega) _)
                    clear hW10 hL10 ub39 uce177 uce182 b39
                    have dc185 := fun p : Bel W10 => c185.bel p; have dc186 := fun p : Bel W10 => c186.bel p
                    simp only [At, Own, Nat.reduceAdd, and_true] at dc185 dc186
                    refine wp_region_tail 8 (by kernel_rfl) (by kernel_rfl) ?_
                    simp only [List.take_succ_cons, List.take_zero, List.drop_succ_cons, List.drop_zero]
                    repeat (go_big_quiet_step (first | (go_at_call 27; with_reducible exact Calls.bel (K183.out _ (HNV.out.up (bel_up hB187 (Bel.h _))))) | (go_at_call 27; with_reducible exact Calls.bel (K184.out _ (HNV.out.up (bel_up hB187 (Bel.h _)))))))
                    refine wpQuiet_nil ?_
                    intro w10 hb10
                    have c188 := c185.up hb10
                    have c189 := c186.up hb10
                    have hB190 : Below w.heap.size w w10 := bel_up hB187 hb10
                    clear dc185 dc186 c185 c186
                    have uc188 := c188; have uc189 := c189
                    simp only [At, Own, Nat.reduceAdd, and_true] at uc188 uc189
                    by_cases hc191 : (x42.i : Int) < 1
                    · skip
                      have hc191_ : ¬ ((1 : Int) ≤ x42.i) := by omega
                      go_wp2
                      go_ret
                      refine ⟨(by rw [chk_roads (by rw [HNn.out, HNr.out]; omega) H0.out, ← HE2.out, HT.out.trans (rE_id (id_27 (by omega)) (by decide))] <;> rfl), ?_⟩
                      repeat (first | with_reducible exact hB190 | with_reducible refine bel_alloc ?_ _ | refine Below.setCell ?_ (by first | (simp; done) | (simp; omega) | omega) _)
                    · skip
                      have hc191_ : ((1 : Int) ≤ x42.i) := by omega
                      by_cases hc192 : (1073741824 : Int) < x42.i
                      · skip
                        have hc192_ : ¬ ((x42.i : Int) ≤ 1073741824) := by omega
                        go_wp2
                        go_ret
                        refine ⟨(by rw [chk_roads (by rw [HNn.out, HNr.out]; omega) H0.out, ← HE2.out, HT.out.trans (rE_id (id_27 (by omega)) (by decide))] <;> rfl), ?_⟩
                        repeat (first | with_reducible exact hB190 | with_reducible refine bel_alloc ?_ _ | refine Below.setCell ?_ (by first | (simp; done) | (simp; omega) | omega) _)
                      · skip
                        have hc192_ : ((x42.i : Int) ≤ 1073741824) := by omega
                        by_cases hc193 : (x42.i : Int) = y.i
                        · skip
                          have hc193_ : (((x42.i : Int)) == y.i) = true := by simpa using hc193
                          have Hhc193 := Lib.hid hc193
                          clear hc193
                          go_wp2
                          go_ret
                          refine ⟨(by rw [chk_roads (by rw [HNn.out, HNr.out]; omega) H0.out, ← HE2.out, HT.out.trans (rE_id (id_8 (by omega) (by first | exact Hhc193.out)) (by decide))] <;> rfl), ?_⟩
                          repeat (first | with_reducible exact hB190 | with_reducible refine bel_alloc ?_ _ | refine Below.setCell ?_ (by first | (simp; done) | (simp; omega) | omega) _)
                        · skip
                          have hc193_ : (((x42.i : Int)) == y.i) = false := by simpa using hc193
                          by_cases hc194 : (x42.i : Int) < y.i
                          · skip
                            have hc194_ : ¬ ((y.i : Int) ≤ x42.i) := by omega
                            go_wp2
                            go_ret
                            refine ⟨(by rw [chk_roads (by rw [HNn.out, HNr.out]; omega) H0.out, ← HE2.out, HT.out.trans (rE_id (id_7 (by omega) (by omega) (by omega)) (by decide))] <;> rfl), ?_⟩
                            repeat (first | with_reducible exact hB190 | with_reducible refine bel_alloc ?_ _ | refine Below.setCell ?_ (by first | (simp; done) | (simp; omega) | omega) _)
                          · skip
                            have hc194_ : ((y.i : Int) ≤ x42.i) := by omega
                            by_cases hc195 : (ja : Int) = jb
                            · skip
                              have hc195_ : (((ja : Int)) == jb) = true := by simpa using hc195
                              have Hhc195 := Lib.hid hc195
                              clear hc195
                              go_wp2
                              go_ret
                              refine ⟨(by rw [chk_roads (by rw [HNn.out, HNr.out]; omega) H0.out, ← HE2.out, HT.out.trans (rE_cat ((road_x HFA.out HFB.out).trans (roadX_17 (HIX.out.1 (by first | exact Hhc195.out)))) (id_0 (by omega) (by omega) (by omega)) (by decide))] <;> rfl), ?_⟩
                              repeat (first | with_reducible exact hB190 | with_reducible refine bel_alloc ?_ _ | refine Below.setCell ?_ (by first | (simp; done) | (simp; omega) | omega) _)
                            · skip
                              have hc195_ : (((ja : Int)) == jb) = false := by simpa using hc195
                              by_cases hc196 : (x42.m : Int) < 1
                              · skip
                                have hc196_ : ¬ ((1 : Int) ≤ x42.m) := by omega
                                go_wp2
                                go_ret
                                refine ⟨(by rw [chk_roads (by rw [HNn.out, HNr.out]; omega) H0.out, ← HE2.out, HT.out.trans (rE_cat ((road_x HFA.out HFB.out).trans (roadX_2a (fun e_ => absurd (HIX.out.2 e_) (by omega)) (by omega))) (id_0 (by omega) (by omega) (by omega)) (by decide))] <;> rfl), ?_⟩
                                repeat (first | with_reducible exact hB190 | with_reducible refine bel_alloc ?_ _ | refine Below.setCell ?_ (by first | (simp; done) | (simp; omega) | omega) _)
                              · skip
                                have hc196_ : ((1 : Int) ≤ x42.m) := by omega
                                by_cases hc197 : (1048576 : Int) < x42.m
                                · skip
                                  have hc197_ : ¬ ((x42.m : Int) ≤ 1048576) := by omega
                                  go_wp2
                                  go_ret
                                  refine ⟨(by rw [chk_roads (by rw [HNn.out, HNr.out]; omega) H0.out, ← HE2.out, HT.out.trans (rE_cat ((road_x HFA.out HFB.out).trans (roadX_2a (fun e_ => absurd (HIX.out.2 e_) (by omega)) (by omega))) (id_0 (by omega) (by omega) (by omega)) (by decide))] <;> rfl), ?_⟩
                                  repeat (first | with_reducible exact hB190 | with_reducible refine bel_alloc ?_ _ | refine Below.setCell ?_ (by first | (simp; done) | (simp; omega) | omega) _)
                                · skip
                                  have hc197_ : ((x42.m : Int) ≤ 1048576) := by omega
                                  by_cases hc198 : (x42.l : Int) < 1
                                  · skip
                                    have hc198_ : ¬ ((1 : Int) ≤ x42.l) := by omega
                                    go_wp2
                                    go_ret
                                    refine ⟨(by rw [chk_roads (by rw [HNn.out, HNr.out]; omega) H0.out, ← HE2.out, HT.out.trans (rE_cat ((road_x HFA.out HFB.out).trans (roadX_2a (fun e_ => absurd (HIX.out.2 e_) (by omega)) (by omega))) (id_0 (by omega) (by omega) (by omega)) (by decide))] <;> rfl), ?_⟩
                                    repeat (first | with_reducible exact hB190 | with_reducible refine bel_alloc ?_ _ | refine Below.setCell ?_ (by first | (simp; done) | (simp; omega) | omega) _)
                                  · skip
                                    have hc198_ : ((1 : Int) ≤ x42.l) := by omega
                                    by_cases hc199 : (1073741824 : Int) < x42.l
                                    · skip
                                      have hc199_ : ¬ ((x42.l : Int) ≤ 1073741824) := by omega
                                      go_wp2
                                      go_ret
                                      refine ⟨(by rw [chk_roads (by rw [HNn.out, HNr.out]; omega) H0.out, ← HE2.out, HT.out.trans (rE_cat ((road_x HFA.out HFB.out).trans (roadX_2a (fun e_ => absurd (HIX.out.2 e_) (by omega)) (by omega))) (id_0 (by omega) (by omega) (by omega)) (by decide))] <;> rfl), ?_⟩
                                      repeat (first | with_reducible exact hB190 | with_reducible refine bel_alloc ?_ _ | refine Below.setCell ?_ (by first | (simp; done) | (simp; omega) | omega) _)
                                    · skip
                                      have hc199_ : ((x42.l : Int) ≤ 1073741824) := by omega
                                      obtain ⟨a1, a2, a3, a4⟩ := (HH.out.on a (fnd_of HFA.out).1).2.2
                                      obtain ⟨b1, b2_, b3, b4⟩ := (HH.out.on b (fnd_of HFB.out).1).2.2
                                      obtain ⟨dx, hdx⟩ : ∃ d, a.x - b.x = d := ⟨_, rfl⟩
                                      obtain ⟨dy, hdy⟩ : ∃ d, a.y - b.y = d := ⟨_, rfl⟩
                                      obtain ⟨px, hpx⟩ : ∃ d, dx * dx = d := ⟨_, rfl⟩
                                      obtain ⟨py, hpy⟩ : ∃ d, dy * dy = d := ⟨_, rfl⟩
                                      obtain ⟨ll, hll⟩ : ∃ d, x42.l * x42.l = d := ⟨_, rfl⟩
                                      obtain ⟨sx1, sx2⟩ := sq_bd (x := dx) (by omega) (by omega)
                                      obtain ⟨sy1, sy2⟩ := sq_bd (x := dy) (by omega) (by omega)
                                      obtain ⟨sl1, sl2⟩ := sq_bd2 (x := x42.l) (by omega) (by omega)
                                      rw [hpx] at sx1 sx2
                                      rw [hpy] at sy1 sy2
                                      rw [hll] at sl1 sl2
                                      have wx1 : IntKind.i64.wrap dx = dx := wrapb (by omega) (by omega)
                                      have wx2 : wrap64 dx = dx := wrapc (by omega) (by omega)
                                      have wy1 : IntKind.i64.wrap dy = dy := wrapb (by omega) (by omega)
                                      have wy2 : wrap64 dy = dy := wrapc (by omega) (by omega)
                                      have HDX := Lib.hid hdx
                                      have HDY := Lib.hid hdy
                                      have HPX := Lib.hid hpx
                                      have HPY := Lib.hid hpy
                                      have HLL := Lib.hid hll
                                      clear a1 a2 a3 a4 b1 b2_ b3 b4 hpx hpy hll
                                      go_upto_region 38 with fail
                                      obtain ⟨g201, o202, ha203, -⟩ := (HXN.out).up kpN hB190 _ _ HJA2.out
                                      subst ha203
                                      have ce200 := LX.at_ ((HXN.out).up kpN hB190) HJA2.out
                                      have ce200_ : g201 < w10.heap.size := World.block_lt_of_cell? _ _ ce200.1
                                      have ce204 := LX.at_ ((HXN.out).up kpN hB190) HJB2.out
                                      have ce204_ : g201 < w10.heap.size := World.block_lt_of_cell? _ _ ce204.1
                                      have HSS205 : ∀ w' : World, Below w10.heap.size w10 w' → (w'.cell? ⟨w.heap.size, 0, none⟩ = some (.slice (some ⟨g201, o202, none⟩) Nn cn) ∧ w'.cell? ⟨w.heap.size, 1, none⟩ = some (.slice (some ⟨g178, o179, none⟩) Nr cr) ∧ w'.cell? ⟨g201, o202 + ja * 3, none⟩ = some (.int .i64 a.i) ∧ w'.cell? ⟨g201, o202 + ja * 3 + 1, none⟩ = some (.int .i64 a.x) ∧ w'.cell? ⟨g201, o202 + ja * 3 + 2, none⟩ = some (.int .i64 a.y) ∧ w'.cell? ⟨g201, o202 + jb * 3, none⟩ = some (.int .i64 b.i) ∧ w'.cell? ⟨g201, o202 + jb * 3 + 1, none⟩ = some (.int .i64 b.x) ∧ w'.cell? ⟨g201, o202 + jb * 3 + 2, none⟩ = some (.int .i64 b.y)) := fun w' hb => by
                                        have qc188 := c188.up hb; have qce200 := kpN.up ce200 hb; have qce204 := kpN.up ce204 hb
                                        simp only [CN, ndc, At, At, Own, Nat.reduceAdd, Nat.reduceMul, Nat.zero_add, Nat.add_assoc, and_true] at qc188 qce200 qce204
                                        try simp only [Nat.add_assoc, Nat.reduceAdd]
                                        simp [*]
                                      go_cut [11, 12] (fun x11 x12 wx => x11 = .int .i64 dx ∧ x12 = .int .i64 dy ∧ Below w10.heap.size w10 wx)
                                      case first =>
                                        have hu := HSS205 w10 (Below.refl _ _)
                                        go_region_held3 (fun w' => w'.cell? ⟨w.heap.size, 0, none⟩ = some (.slice (some ⟨g201, o202, none⟩) Nn cn) ∧ w'.cell? ⟨w.heap.size, 1, none⟩ = some (.slice (some ⟨g178, o179, none⟩) Nr cr) ∧ w'.cell? ⟨g201, o202 + ja * 3, none⟩ = some (.int .i64 a.i) ∧ w'.cell? ⟨g201, o202 + ja * 3 + 1, none⟩ = some (.int .i64 a.x) ∧ w'.cell? ⟨g201, o202 + ja * 3 + 2, none⟩ = some (.int .i64 a.y) ∧ w'.cell? ⟨g201, o202 + jb * 3, none⟩ = some (.int .i64 b.i) ∧ w'.cell? ⟨g201, o202 + jb * 3 + 1, none⟩ = some (.int .i64 b.x) ∧ w'.cell? ⟨g201, o202 + jb * 3 + 2, none⟩ = some (.int .i64 b.y)) (refine HSS205 _ ?_ <;> (repeat (first | with_reducible exact Below.refl _ _ | with_reducible refine Below.drew ?_))) (fail)
                                        all_goals
                                          go_wp2_with fail
                                          go_meet
                                          exact ⟨rfl, rfl, by (repeat (first | with_reducible exact Below.refl _ _ | with_reducible refine Below.drew ?_))⟩
                                      case rest =>
                                        obtain ⟨rfl, rfl, hbz206⟩ := hcut
                                        obtain ⟨wz206, hwz206⟩ : ∃ W_, W_ = wc := ⟨_, rfl⟩
                                        subst hwz206
                                        clear HSS205
                                        have c207 := c188.up hbz206
                                        have c208 := c189.up hbz206
                                        have hB209 : Below w.heap.size w wz206 := bel_up hB190 hbz206
                                        clear uc188 uc189 c188 c189
                                        clear hdx hdy wx1 wx2 wy1 wy2
                                        have wp1 : IntKind.i64.wrap px = px := wrapb (by omega) (by omega)
                                        have wp2 : wrap64 px = px := wrapc (by omega) (by omega)
                                        have wq1 : IntKind.i64.wrap py = py := wrapb (by omega) (by omega)
                                        have wq2 : wrap64 py = py := wrapc (by omega) (by omega)
                                        have ws1 : IntKind.i64.wrap (px + py) = px + py := wrapb (by omega) (by omega)
                                        have ws2 : wrap64 (px + py) = px + py := wrapc (by omega) (by omega)
                                        have wl1 : IntKind.i64.wrap ll = ll := wrapb (by omega) (by omega)
                                        have wl2 : wrap64 ll = ll := wrapc (by omega) (by omega)
                                        have hpx := HPX.out
                                        have hpy := HPY.out
                                        have hll := HLL.out
                                        have uc207 := c207; have uc208 := c208
                                        simp only [At, Own, Nat.reduceAdd, and_true] at uc207 uc208
                                        by_cases hc210 : (ll : Int) < (px + py)
                                        · skip
                                          have hc210_ : ¬ (((px + py) : Int) ≤ ll) := by omega
                                          go_wp2
                                          go_ret
                                          refine ⟨(by rw [chk_roads (by rw [HNn.out, HNr.out]; omega) H0.out, ← HE2.out, HT.out.trans (rE_cat ((road_x HFA.out HFB.out).trans (roadX_2b (fun e_ => absurd (HIX.out.2 e_) (by omega)) HLL.out HDX.out HDY.out HPX.out HPY.out (by omega))) (id_0 (by omega) (by omega) (by omega)) (by decide))] <;> rfl), ?_⟩
                                          repeat (first | with_reducible exact hB209 | with_reducible refine bel_alloc ?_ _ | refine Below.setCell ?_ (by first | (simp; done) | (simp; omega) | omega) _)
                                        · skip
                                          have hc210_ : (((px + py) : Int) ≤ ll) := by omega
                                          go_wp2
                                          go_roundw
                                          case rel => exact ⟨(j + 1), x42.i, (by first | rfl | exact congrArg (Value.int .i64) (by omega) | simp [*]), (by repeat (first | with_reducible exact c207 | refine Own.far _ _ (by simp <;> omega) ?_ | with_reducible refine Own.alloc ?_ _)), (by repeat (first | with_reducible exact hB209 | with_reducible refine bel_alloc ?_ _ | refine Below.setCell ?_ (by first | (simp; done) | (simp; omega) | omega) _)), (by omega), Lib.hid (by rw [← HE2.out, HT.out, rE_okat ((road_x HFA.out HFB.out).trans (roadX_0 (fun e_ => absurd (HIX.out.2 e_) (by omega)) HLL.out HDX.out HDY.out HPX.out HPY.out (by omega) (by omega))) (id_0 (by omega) (by omega) (by omega))]), Lib.hid (.inr ⟨j, x42, rfl, Hhx43.out, rfl⟩)⟩
                                          case measure => simp [intOf] <;> omega
            · skip
              have i1j : ¬ (j : Int) < Nr := by omega
              have H1 : Hid (roadsE N.ns N.rs 0 = 0) := Lib.hid (by rw [← HE2.out, List.drop_of_length_le (by rw [HNr.out]; omega)]; rfl)
              have ub39 := b39
              simp only [At, Own, Nat.reduceAdd, and_true] at ub39
              go_wp2
              go_ret
              refine ⟨(by rw [chk_roads (by rw [HNn.out, HNr.out]; omega) H0.out, H1.out] <;> rfl), ?_⟩
              repeat (first | with_reducible exact hB40 | with_reducible refine bel_alloc ?_ _ | refine Below.setCell ?_ (by first | (simp; done) | (simp; omega) | omega) _)
end Go.Proofs.YtldfencaoaikgaaGreatDoor
