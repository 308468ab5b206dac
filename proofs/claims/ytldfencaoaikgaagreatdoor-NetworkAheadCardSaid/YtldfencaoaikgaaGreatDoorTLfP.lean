/-
 The law: a place of a network.
-/
import Derived.Test.YtldfencaoaikgaaGreatDoorTNi
set_option maxRecDepth 100000
set_option linter.unusedSimpArgs false
set_option linter.unusedVariables false
namespace Go.Proofs.YtldfencaoaikgaaGreatDoor
open Go Go.RowKit Nw

/-- The road and the offset of a place by small numbers. -/
def roadP (N : Net) (wr : Int) : Nat := (wr % (N.rs.length : Int)).toNat
def offP (r : Rd) (wp : Int) : Rat := if wp < 128 then ((r.l * (wp % 5) : Int) : Rat) / 4 else ((wp % (r.l + 1) : Int) : Rat)
theorem fromQ_any (m : Int) (q : Rat) (w : World) (h : q = (m : Rat) / 4) (h1 : 0 ≤ m) (h2 : m ≤ 1000) : Calls Tryz.prog 52 #[.int .i64 m, .int .i64 4] w fun e w' => e = .returned (.tuple #[qv q, .int .i64 0]) ∧ Below w.heap.size w w' := by
 have e : q = Rat.divInt m 4 := by rw [h, Rat.divInt_eq_div]; rfl
 rw [e]
 exact fromInts_any m 4 w (by decide) (by omega) (by omega) (by decide) (by decide)
theorem offP_bd {r : Rd} {wp : Int} (h1 : 1 ≤ r.l) (h2 : r.l ≤ 50) (hp : U8 wp) : 0 ≤ offP r wp ∧ offP r wp ≤ (r.l : Rat) ∧ Pl.Sz 20 (offP r wp) := by
 unfold offP
 have hl : (1 : Rat) ≤ (r.l : Rat) := by exact_mod_cast h1
 split
 ·have k1 := Int.emod_nonneg wp (show (5 : Int) ≠ 0 by decide)
  have k2 := Int.emod_lt_of_pos wp (show (0 : Int) < 5 by decide)
  generalize wp % 5 = k at *
  have m1 : 0 ≤ r.l * k := Int.mul_nonneg (by omega) k1
  have m2 : r.l * k ≤ r.l * 4 := Int.mul_le_mul_of_nonneg_left (by omega) (by omega)
  generalize r.l * k = m at *
  have c1 : (0 : Rat) ≤ (m : Rat) := by exact_mod_cast m1
  have c2 : (m : Rat) ≤ (r.l : Rat) * 4 := by exact_mod_cast m2
  refine ⟨by grind, by grind, ?_⟩
  exact ((sz_small (n := m) (by omega) (by omega)).div (sz_small (n := 4) (by decide) (by decide))).mono (by decide)
 ·have k1 := Int.emod_nonneg wp (show r.l + 1 ≠ 0 by omega)
  have k2 := Int.emod_lt_of_pos wp (show 0 < r.l + 1 by omega)
  generalize wp % (r.l + 1) = k at *
  exact ⟨by exact_mod_cast k1, by exact_mod_cast (show k ≤ r.l by omega), (sz_small (n := k) (by omega) (by omega)).mono (by decide)⟩
theorem place_at {N : Net} (ok : Gok N) {r : Rd} {p : Pc} {wr wp : Int} (hp : U8 wp) (hr : N.rs[roadP N wr]? = some r) (h : p = ⟨r.i, offP r wp⟩) : Nw.At N r p ∧ Pl.Sz 20 p.q := by
 have hm := List.mem_of_getElem? hr
 have hok := ok.g.or r hm
 obtain ⟨b1, b2, b3⟩ := offP_bd hok.2.2.1 (ok.ll r hm) hp
 subst h
 exact ⟨⟨frd_in ok.g.sr hm, b1, b2⟩, b3⟩
theorem place_ex {N : Net} (ok : Gok N) (wr wp : Int) : ∃ r p, N.rs[roadP N wr]? = some r ∧ p = (⟨r.i, offP r wp⟩ : Pc) := by
 have h : roadP N wr < N.rs.length := by
  have h0 := ok.r1
  have k1 := Int.emod_nonneg wr (show (N.rs.length : Int) ≠ 0 by omega)
  have k2 := Int.emod_lt_of_pos wr (show (0 : Int) < (N.rs.length : Int) by omega)
  unfold roadP; omega
 exact ⟨_, _, List.getElem?_eq_getElem h, rfl⟩
theorem rem_any {x : Int} (h : U8 x) (m : Int) (h0 : 0 < m) (h1 : m ≤ 255) : ∃ a, Hid (a = x % m) ∧ Hid (x % m = a ∧ x.tmod m = a ∧ IntKind.u8.wrap a = a ∧ IntKind.i64.wrap a = a ∧ wrap64 a = a ∧ IntKind.i64.wrap x = x ∧ wrap64 x = x) ∧ 0 ≤ a ∧ a < m := by
 obtain ⟨a, e, h2, h3, h4, h5, h6, h7, h8⟩ := u8_rem h m h0 h1
 obtain ⟨q1, q2⟩ := i64_small (a := x) (by have := h.1; omega) (by have := h.2; omega)
 exact ⟨a, Lib.hid e, Lib.hid ⟨h2, h3, h4, h5, h6, q1, q2⟩, h7, h8⟩

set_option maxHeartbeats 1000000 in
theorem place_any (N : Net) (r : Rd) (p : Pc) (wr wp : Int) (v : Value) (w : World) (h : NV w v N) (ok : Gok N) (hwr : U8 wr) (hwp : U8 wp) (hr : N.rs[roadP N wr]? = some r) (hp : p = ⟨r.i, offP r wp⟩) :
 Calls Tryz.prog 18 #[v, .agg #[.int .u8 wr, .int .u8 wp]] w fun e w' => e = .returned (.agg #[.int .i64 p.r, .bool (ng p.q.num), .string (mg p.q.num.natAbs), .bool false, .string (mg (dn p.q))]) ∧ Below w.heap.size w w' := by
 have hr1 := ok.r1
 have hr13 := ok.r13
 have hm := List.mem_of_getElem? hr
 have hl1 := (ok.g.or r hm).2.2.1
 have hl2 := ok.ll r hm
 have g := ok.g
 obtain ⟨ia, hia, hial⟩ := int_remH hwr (show 0 < N.rs.length by omega) (by omega)
 have hj : roadP N wr = ia := by unfold roadP; rw [hia.out.1]; rfl
 rw [hj] at hr
 have HJ2 := Lib.hid hr
 obtain ⟨a5v, HE5, HA5, ha5, ha6⟩ := rem_any hwp 5 (by decide) (by decide)
 obtain ⟨b, HEB, HB5, hb1, hb2⟩ := rem_any hwp (r.l + 1) (by omega) (by omega)
 obtain ⟨m, hm_⟩ : ∃ m : Int, m = r.l * a5v := ⟨_, rfl⟩
 have hm1 : 0 ≤ m := by rw [hm_]; exact Int.mul_nonneg (by omega) ha5
 have hm2 : m ≤ 200 := by
  have h_ : r.l * a5v ≤ r.l * 4 := Int.mul_le_mul_of_nonneg_left (by omega) (by omega)
  rw [hm_]; omega
 have HMM : Hid (r.l * a5v = m ∧ IntKind.i64.wrap m = m ∧ wrap64 m = m) := Lib.hid ⟨hm_.symm, (i64_small (by omega) (by omega)).1, (i64_small (by omega) (by omega)).2⟩
 have HLL := Lib.hid (i64_small (a := r.l + 1) (by omega) (by omega))
 obtain ⟨q, hq⟩ : ∃ q : Rat, q = (m : Rat) / 4 := ⟨_, rfl⟩
 obtain ⟨q2, hq2⟩ : ∃ q : Rat, q = (b : Rat) := ⟨_, rfl⟩
 have ZQ : Pl.Sz 20 q := by rw [hq]; exact ((sz_small (n := m) (by omega) (by omega)).div (sz_small (n := 4) (by decide) (by decide))).mono (by decide)
 have ZQ2 : Pl.Sz 20 q2 := by rw [hq2]; exact (sz_small (n := b) (by omega) (by omega)).mono (by decide)
 have HP1 : wp < 128 → Hid (p = ⟨r.i, q⟩) := fun h_ => Lib.hid (by rw [hp]; unfold offP; rw [if_pos h_, ← HE5.out, ← hm_, hq])
 have HP2 : ¬ wp < 128 → Hid (p = ⟨r.i, q2⟩) := fun h_ => Lib.hid (by rw [hp]; unfold offP; rw [if_neg h_, ← HEB.out, hq2])
 have HQ := Lib.hid hq
 have HQ2 := Lib.hid hq2
 have hwp1 := hwp.1
 have hwp2 := hwp.2
 clear hq hq2 hm_ hr hj hm hp hwr hwp
 obtain ⟨_, _, rfl, hn, hr⟩ := h
 obtain ⟨An, cn, rfl, hcn, hmn, hxn⟩ := hn.open_
 obtain ⟨Ar, cr, rfl, hcr, hmr, hxr⟩ := hr.open_
 have HNV : Hid (NV w (.agg #[.slice An N.ns.length cn, .slice Ar N.rs.length cr]) N) := Lib.hid ⟨_, _, rfl, hn, hr⟩
 have HXN := Lib.hid hxn
 have HXR := Lib.hid hxr
 have HG := Lib.hid g
 have hln := g.ln
 have hlr := g.lr
 generalize hNn : N.ns.length = Nn at *
 generalize hNr : N.rs.length = Nr at *
 have HNn := Lib.hid hNn
 have HNr := Lib.hid hNr
 clear hn hr hxn hxr g hNn hNr
 clear ok
 have i1j : (ia : Int) < Nr := by omega
 have i0j : (0 : Int) ≤ ia := Int.natCast_nonneg _
 go_enter Tryz.func18, Tryz.ntmps18
 obtain ⟨ia1, ia2, ia3, ia4, ia5_, ia6_⟩ := hia.out
 go_upto_region 1 with fail
 refine wp_named ?_
 intro W1 hW1
 have hL1 : Below w.heap.size w W1 := by
  rw [hW1]
  exact bB8
 have c1 : Own W1 (w.heap.size) 0 [.slice An Nn cn, .slice Ar Nr cr] := by
  rw [hW1]
  first
  | (repeat (first | (with_reducible refine own_new (l := [.slice An Nn cn, .slice Ar Nr cr]) ?_; (simp; done)) | with_reducible refine Own.alloc ?_ _ | refine Own.far _ _ (by first | (simp; done) | (simp [*]; done) | (simp; omega)) ?_)); done
  | simp [Own, go_sem]
 have c2 : Own W1 (w.heap.size + 1) 0 [.int .u8 wr, .int .u8 wp] := by
  rw [hW1]
  first
  | (repeat (first | (with_reducible refine own_new (l := [.int .u8 wr, .int .u8 wp]) ?_; (simp; done)) | with_reducible refine Own.alloc ?_ _ | refine Own.far _ _ (by first | (simp; done) | (simp [*]; done) | (simp; omega)) ?_)); done
  | simp [Own, go_sem]
 have c3 : Own W1 (w.heap.size + 2) 0 [.int .i64 0, .bool false, .string ⟨#[]⟩, .bool false, .string ⟨#[]⟩] := by
  rw [hW1]
  first
  | (repeat (first | (with_reducible refine own_new (l := [.int .i64 0, .bool false, .string ⟨#[]⟩, .bool false, .string ⟨#[]⟩]) ?_; (simp; done)) | with_reducible refine Own.alloc ?_ _ | refine Own.far _ _ (by first | (simp; done) | (simp [*]; done) | (simp; omega)) ?_)); done
  | simp [Own, go_sem]
 have hB4 : Below w.heap.size w W1 := by
  rw [hW1]
  exact bB8
 clear hW1 hL1
 obtain ⟨g8, o9, ha10, -⟩ := (HXR.out).up kpR hB4 _ _ HJ2.out
 subst ha10
 have ce7 := LX.at_ ((HXR.out).up kpR hB4) HJ2.out
 have ce7_ : g8 < W1.heap.size := World.block_lt_of_cell? _ _ ce7.1
 refine wp_region_new1 12 11 5 [.int .i64 0, .int .i64 0, .int .i64 0, .int .i64 0, .int .i64 0, .bool false] 67 (by kernel_rfl) (by kernel_rfl) rfl rfl rfl rfl (by intro h_; cases h_) (by simp) (run_alloc_zero Tryz.zeroValue67 rfl) (by kernel_rfl) ?_
 intro V_5 hV_5
 have vc1 := c1.up hV_5; have dc1 := fun p : Bel V_5 => vc1.bel p
 have vc2 := c2.up hV_5; have dc2 := fun p : Bel V_5 => vc2.bel p
 have vc3 := c3.up hV_5; have dc3 := fun p : Bel V_5 => vc3.bel p
 simp only [At, Own, Nat.reduceAdd, and_true] at dc1 dc2 dc3
 have vce7 := ce7.up hV_5; have dce7 := fun b : Bel V_5 => vce7.bel b
 simp only [CR, rdc, At, Nat.reduceMul] at dce7
 have hBV_5 := bel_up hB4 hV_5
 simp only [List.map_cons, List.map_nil, maskOp, List.take_succ_cons, List.take_zero]
 repeat (go_big_quiet_step (fail))
 refine wpQuiet_nil ?_
 refine ⟨[.int .i64 r.i, .int .i64 r.f, .int .i64 r.t, .int .i64 r.l, .int .i64 r.m, .bool r.o], rfl, rfl, by simp [Value.oneCell'], ?_⟩
 intro bq6 wn_5 hbn_5 lbq6 mbq6 c11
 simp only [Act.put, List.setIfInBounds_toArray, List.set_cons_zero, List.set_cons_succ]
 have ne12 : w.heap.size ≠ bq6 := by have := c1.lt; omega
 have ne12' := ne12.symm
 have ne13 : w.heap.size + 1 ≠ bq6 := by have := c2.lt; omega
 have ne13' := ne13.symm
 have ne14 : w.heap.size + 2 ≠ bq6 := by have := c3.lt; omega
 have ne14' := ne14.symm
 have wbq6 := Nat.le_trans hB4.size lbq6
 clear hBV_5 dce7 vce7 dc3 vc3 dc2 vc2 dc1 vc1 hV_5 V_5
 have c15 := c1.up hbn_5
 have c16 := c2.up hbn_5
 have c17 := c3.up hbn_5
 have hB18 : Below w.heap.size w wn_5 := bel_up hB4 hbn_5
 clear c1 c2 c3
 clear ia1 ia2 ia3 ia4 ia5_ ia6_
 obtain ⟨a1, a2, a3, a4, a5, a6, a7⟩ := HA5.out
 obtain ⟨m1, m2, m3⟩ := HMM.out
 have uc15 := c15; have uc16 := c16; have uc17 := c17; have uc11 := c11
 simp only [At, Own, Nat.reduceAdd, and_true] at uc15 uc16 uc17 uc11
 have K19 := Lib.hid (fun W => fromQ_any m q W HQ.out (by omega) (by omega))
 go_wp2_with (fail)
 refine calls_named ?_
 intro W2 hW2
 have hL2 : Below wn_5.heap.size wn_5 W2 := by
  rw [hW2]
  exact bB8
 have c20 := c15.up hL2
 have c21 := c16.up hL2
 have c22 := c17.up hL2
 have c23 := c11.up hL2
 have hB24 : Below w.heap.size w W2 := by
  rw [hW2]
  exact bB8
 clear hW2 hL2 uc15 uc16 uc17 uc11 c15 c16 c17 c11
 with_reducible refine (K19.out _).mono ?_
 rintro e w2 ⟨rfl, hb2⟩
 have c25 := c20.up hb2
 have c26 := c21.up hb2
 have c27 := c22.up hb2
 have c28 := c23.up hb2
 have hB29 : Below w.heap.size w w2 := bel_up hB24 hb2
 clear c20 c21 c22 c23
 have ne30_ : w.heap.size < w2.heap.size := by have := c25.lt; omega
 have ne30 := Nat.ne_of_lt ne30_
 have ne30' := ne30.symm
 have ne31_ : w.heap.size + 1 < w2.heap.size := by have := c26.lt; omega
 have ne31 := Nat.ne_of_lt ne31_
 have ne31' := ne31.symm
 have ne32_ : w.heap.size + 2 < w2.heap.size := by have := c27.lt; omega
 have ne32 := Nat.ne_of_lt ne32_
 have ne32' := ne32.symm
 have ne33_ : bq6 < w2.heap.size := by have := c28.lt; omega
 have ne33 := Nat.ne_of_lt ne33_
 have ne33' := ne33.symm
 have uc25 := c25; have uc26 := c26; have uc27 := c27; have uc28 := c28
 simp only [At, Own, Nat.reduceAdd, and_true] at uc25 uc26 uc27 uc28
 clear a1 a2 a3 a4 a5 a6 a7 m1 m2 m3
 by_cases hc34 : (wp : Int) < 128
 ·skip
  have hc34_ : ¬ ((128 : Int) ≤ wp) := by omega
  go_upto_region 5 with fail
  refine wp_named ?_
  intro W3 hW3
  have hL3 : Below w2.heap.size w2 W3 := by
   rw [hW3]
   exact bB8
  have c35 := c25.up hL3
  have c36 := c26.up hL3
  have c37 := c27.up hL3
  have c38 := c28.up hL3
  have c39 : Own W3 (w2.heap.size) 0 [.bool (ng q.num), .string (mg q.num.natAbs), .bool false, .string (mg (dn q))] := by
   rw [hW3]
   first
   | (repeat (first | (with_reducible refine own_new (l := [.bool (ng q.num), .string (mg q.num.natAbs), .bool false, .string (mg (dn q))]) ?_; (simp; done)) | with_reducible refine Own.alloc ?_ _ | refine Own.far _ _ (by first | (simp; done) | (simp [*]; done) | (simp; omega)) ?_)); done
   | simp [Own, go_sem, uc25, uc26, uc27, uc28, ne30, ne30', ne30_, ne31, ne31', ne31_, ne32, ne32', ne32_, ne33, ne33', ne33_, ne12, ne12', ne13, ne13', ne14, ne14']
  have hB40 : Below w.heap.size w W3 := by
   rw [hW3]
   exact bB8
  clear hW3 hL3 uc25 uc26 uc27 uc28 c25 c26 c27 c28
  have uc35 := c35; have uc36 := c36; have uc37 := c37; have uc38 := c38; have uc39 := c39
  simp only [At, Own, Nat.reduceAdd, and_true] at uc35 uc36 uc37 uc38 uc39
  go_wp2
  refine bodyPost_ret (v := .agg #[.int .i64 r.i, .bool (ng q.num), .string (mg q.num.natAbs), .bool false, .string (mg (dn q))]) (by simp [results, Tryz.results18, go_sem, uc35, uc36, uc37, uc38, uc39]) rfl ⟨(by have e_ := (HP1 hc34).out; subst e_; rfl), ?_⟩
  exact bB8
 ·skip
  have hc34_ : ((128 : Int) ≤ wp) := by omega
  obtain ⟨b1, b2, b3, b4, b5, b6, b7⟩ := HB5.out
  obtain ⟨l1, l2⟩ := HLL.out
  have K41 := Lib.hid (fun W => qfi_any b q2 W HQ2.out (by omega) (by omega))
  go_wp2_with (fail)
  refine calls_named ?_
  intro W4 hW4
  have hL4 : Below w2.heap.size w2 W4 := by
   rw [hW4]
   exact bB8
  have c42 := c25.up hL4
  have c43 := c26.up hL4
  have c44 := c27.up hL4
  have c45 := c28.up hL4
  have c46 : Own W4 (w2.heap.size) 0 [.bool (ng q.num), .string (mg q.num.natAbs), .bool false, .string (mg (dn q))] := by
   rw [hW4]
   first
   | (repeat (first | (with_reducible refine own_new (l := [.bool (ng q.num), .string (mg q.num.natAbs), .bool false, .string (mg (dn q))]) ?_; (simp; done)) | with_reducible refine Own.alloc ?_ _ | refine Own.far _ _ (by first | (simp; done) | (simp [*]; done) | (simp; omega)) ?_)); done
   | simp [Own, go_sem, uc25, uc26, uc27, uc28, ne30, ne30', ne30_, ne31, ne31', ne31_, ne32, ne32', ne32_, ne33, ne33', ne33_, ne12, ne12', ne13, ne13', ne14, ne14']
  have hB47 : Below w.heap.size w W4 := by
   rw [hW4]
   exact bB8
  clear hW4 hL4 uc25 uc26 uc27 uc28 c25 c26 c27 c28
  with_reducible refine (K41.out _).mono ?_
  rintro e w4 ⟨rfl, hb4⟩
  have c48 := c42.up hb4
  have c49 := c43.up hb4
  have c50 := c44.up hb4
  have c51 := c45.up hb4
  have c52 := c46.up hb4
  have hB53 : Below w.heap.size w w4 := bel_up hB47 hb4
  clear c42 c43 c44 c45 c46
  have uc48 := c48; have uc49 := c49; have uc50 := c50; have uc51 := c51; have uc52 := c52
  simp only [At, Own, Nat.reduceAdd, and_true] at uc48 uc49 uc50 uc51 uc52
  go_upto_region 5 with fail
  refine wp_named ?_
  intro W5 hW5
  have c54 : Own W5 (w.heap.size) 0 [.slice An Nn cn, .slice (some ⟨g8, o9, none⟩) Nr cr] := by rw [hW5]; simp [Own, go_sem, uc48, uc49, uc50, uc51, uc52, ne12, ne12', ne13, ne13', ne14, ne14']
  have c55 : Own W5 (w.heap.size + 1) 0 [.int .u8 wr, .int .u8 wp] := by rw [hW5]; simp [Own, go_sem, uc48, uc49, uc50, uc51, uc52, ne12, ne12', ne13, ne13', ne14, ne14']
  have c56 : Own W5 (w.heap.size + 2) 0 [.int .i64 0, .bool false, .string ⟨#[]⟩, .bool false, .string ⟨#[]⟩] := by rw [hW5]; simp [Own, go_sem, uc48, uc49, uc50, uc51, uc52, ne12, ne12', ne13, ne13', ne14, ne14']
  have c57 : Own W5 (bq6) 0 [.int .i64 r.i, .int .i64 r.f, .int .i64 r.t, .int .i64 r.l, .int .i64 r.m, .bool r.o] := by rw [hW5]; simp [Own, go_sem, uc48, uc49, uc50, uc51, uc52, ne12, ne12', ne13, ne13', ne14, ne14']
  have c58 : Own W5 (w2.heap.size) 0 [.bool (ng q2.num), .string (mg q2.num.natAbs), .bool false, .string (mg (dn q2))] := by rw [hW5]; simp [Own, go_sem, uc48, uc49, uc50, uc51, uc52, ne12, ne12', ne13, ne13', ne14, ne14']
  have hB59 : Below w.heap.size w W5 := by
   rw [hW5]
   exact bB8
  clear hW5 uc48 uc49 uc50 uc51 uc52 c48 c49 c50 c51 c52
  have uc54 := c54; have uc55 := c55; have uc56 := c56; have uc57 := c57; have uc58 := c58
  simp only [At, Own, Nat.reduceAdd, and_true] at uc54 uc55 uc56 uc57 uc58
  go_wp2
  refine bodyPost_ret (v := .agg #[.int .i64 r.i, .bool (ng q2.num), .string (mg q2.num.natAbs), .bool false, .string (mg (dn q2))]) (by simp [results, Tryz.results18, go_sem, uc54, uc55, uc56, uc57, uc58]) rfl ⟨(by have e_ := (HP2 hc34).out; subst e_; rfl), ?_⟩
  exact bB8
end Go.Proofs.YtldfencaoaikgaaGreatDoor
