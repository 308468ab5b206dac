/-
 The law ConvexGrows: the squared distance from a set.
-/
import Derived.Test.YtdkkjfnpinckjaaGreatDoorYMo
import Derived.Test.YtdkkjfnpinckjaaGreatDoorYReg3
import Derived.Test.YtdkkjfnpinckjaaGreatDoorYGrP
import Derived.Test.YtdkkjfnpinckjaaGreatDoorYCed
import Derived.Deep.RegionHeld3
import Derived.Deep.DeepCutAuto
set_option maxRecDepth 100000
set_option linter.unusedSimpArgs false
set_option linter.unusedVariables false
namespace Go.Proofs.YtdkkjfnpinckjaaGreatDoor
open Go Go.RowKit

theorem near_zero {l : List (Rat × Rat)} {p : Rat × Rat} {t : Int} (h : Pl.locR l p = t) (ht : ¬ t < 0) : Pl.nearR l p = 0 := by
 unfold Pl.nearR; rw [if_pos (by omega)]
theorem near_out {l : List (Rat × Rat)} {p : Rat × Rat} {t : Int} (h : Pl.locR l p = t) (ht : t < 0) : Pl.nearR l p = Pl.nearF l p l.length := by
 unfold Pl.nearR; rw [if_neg (by omega)]
theorem nearF_succ {l : List (Rat × Rat)} {p x y : Rat × Rat} {k m N : Nat} (hN : l.length = N) (hm : m = (k + 1) % N) (hx : l[k]? = some x) (hy : l[m]? = some y) :
 Pl.nearF l p (k + 1) = if Pl.nearE p x y < Pl.nearF l p k then Pl.nearE p x y else Pl.nearF l p k := by
 rw [Pl.nearF, Pl.edge, Pl.getD_of hx, hN, ← hm, Pl.getD_of hy]
/-- What the law reckons of an edge, in names. -/
structure EV (p x y d : Rat × Rat) (n e0 t e1 : Rat) (tn tt tz : Int) : Prop where
 hd : Pl.subP y x = d
 hn : Pl.dotP d d = n
 h0 : Pl.dotP (Pl.subP x p) (Pl.subP x p) = e0
 ht : Pl.dotP (Pl.subP p x) d / n = t
 h1 : Pl.dotP (Pl.subP (Pl.addP x (Pl.scaleP d t)) p) (Pl.subP (Pl.addP x (Pl.scaleP d t)) p) = e1
 sn : Pl.sgn n = tn
 st : Pl.sgn t = tt
 so : Pl.cmpQ t (Rat.divInt 1 1) = tz
theorem one_div1 : Rat.divInt 1 1 = 1 := by decide
theorem EV.yes {p x y d : Rat × Rat} {n e0 t e1 : Rat} {tn tt tz : Int} (h : EV p x y d n e0 t e1 tn tt tz) (a : 0 < tn) (b : 0 < tt) (c : tz < 0) : Pl.nearE p x y = e1 := by
 obtain ⟨rfl, rfl, rfl, rfl, rfl, rfl, rfl, rfl⟩ := h
 unfold Pl.nearE
 rw [if_pos ((Pl.sgn_gt_iff _).1 a), if_pos ⟨(Pl.sgn_gt_iff _).1 b, by have := (Pl.cmp_lt_iff _ _).1 c; rwa [one_div1] at this⟩]; rfl
theorem EV.no {p x y d : Rat × Rat} {n e0 t e1 : Rat} {tn tt tz : Int} (h : EV p x y d n e0 t e1 tn tt tz) (a : ¬ 0 < tn ∨ ¬ 0 < tt ∨ ¬ tz < 0) : Pl.nearE p x y = e0 := by
 obtain ⟨rfl, rfl, rfl, rfl, rfl, rfl, rfl, rfl⟩ := h
 unfold Pl.nearE
 split
 ·rename_i h1
  rw [if_neg]; rfl
  rintro ⟨h2, h3⟩
  rcases a with a | a | a
  ·exact a ((Pl.sgn_gt_iff _).2 h1)
  ·exact a ((Pl.sgn_gt_iff _).2 h2)
  ·exact a ((Pl.cmp_lt_iff _ _).2 (by rw [one_div1]; exact h3))
 ·rfl
theorem near_lt {F F' D E e : Rat} {c : Int} (h : F' = if E < F then E else F) (hD : D = F) (he : E = e) (hc : Pl.cmpQ e D = c) (hl : c < 0) : e = F' := by
 subst hD he hc; rw [h, if_pos ((Pl.cmp_lt_iff _ _).1 hl)]
theorem near_ge {F F' D E e : Rat} {c : Int} (h : F' = if E < F then E else F) (hD : D = F) (he : E = e) (hc : Pl.cmpQ e D = c) (hl : ¬ c < 0) : D = F' := by
 subst hD he hc; rw [h, if_neg (fun h => hl ((Pl.cmp_lt_iff _ _).2 h))]

theorem getD_sz {l : List (Rat × Rat)} (hs : ∀ q ∈ l, Pl.SzP 1 q) (i : Nat) : Pl.SzP 1 (l.getD i (0, 0)) := by
 rcases Nat.lt_or_ge i l.length with h | h
 ·rw [Pl.getD_of (List.getElem?_eq_getElem h)]; exact hs _ (List.getElem_mem h)
 ·rw [List.getD_eq_getElem?_getD, List.getElem?_eq_none h]; exact ⟨Pl.sz_zero, Pl.sz_zero⟩
theorem nearE_sz {p x y : Rat × Rat} (hp : Pl.SzP 1 p) (hx : Pl.SzP 1 x) (hy : Pl.SzP 1 y) : Pl.Sz 133 (Pl.nearE p x y) := by
 have d := hy.sub hx
 have e0 : Pl.Sz 133 (Pl.dist2 x p) := ((hx.sub hp).dot (hx.sub hp)).mono (by omega)
 have t := ((hp.sub hx).dot d).div (d.dot d)
 have z := (hx.add (d.scale t)).sub hp
 unfold Pl.nearE
 split
 ·split
  ·exact (z.dot z).mono (by omega)
  ·exact e0
 ·exact e0
theorem nearF_sz {l : List (Rat × Rat)} {p : Rat × Rat} (hs : ∀ q ∈ l, Pl.SzP 1 q) (hp : Pl.SzP 1 p) : ∀ k, Pl.Sz 133 (Pl.nearF l p k)
 | 0 => (((getD_sz hs 0).sub hp).dot ((getD_sz hs 0).sub hp)).mono (by omega)
 | k + 1 => by
  rw [Pl.nearF]
  split
  ·exact nearE_sz hp (getD_sz hs _) (getD_sz hs _)
  ·exact nearF_sz hs hp k
theorem nearR_sz {l : List (Rat × Rat)} {p : Rat × Rat} (hs : ∀ q ∈ l, Pl.SzP 1 q) (hp : Pl.SzP 1 p) : Pl.Sz 16777216 (Pl.nearR l p) := by
 unfold Pl.nearR
 split
 ·exact Pl.sz_zero.mono (by decide)
 ·exact (nearF_sz hs hp _).mono (by decide)

set_option maxHeartbeats 1000000 in
theorem near_in (v : Value) (l : List (Rat × Rat)) (p : Rat × Rat) (w : World) (h : PV w v l) (hs : ∀ q ∈ l, Pl.SzP 1 q) (hn : l.length ≤ 1000000) (hp : Pl.SzP 1 p) (hl : ¬ Pl.locR l p < 0) :
 Calls Tryz.prog 46 #[v, pv p] w fun e w' => e = .returned (qv (Pl.nearR l p)) ∧ Below w.heap.size w w' := by
 obtain ⟨t, ht⟩ : ∃ t, Pl.locR l p = t := ⟨_, rfl⟩
 have HT := Lib.hid ht
 rw [ht] at hl
 rw [near_zero ht hl]
 clear ht
 obtain ⟨A, c, rfl, hc, hm, hx⟩ := h.open_
 have HV := Lib.hid h
 have HX := Lib.hid hx
 have HS := Lib.hid hs
 have HF : Hid (l.take l.length = l) := Lib.hid List.take_length
 generalize hN : l.length = N at *
 have HN := Lib.hid hN
 clear h hx hs hN
 go_enter Tryz.func46, Tryz.ntmps46
 have K1 := Lib.hid (fun W (h : PV W (.slice A N c) l) => HT.out ▸ hloc_any (.slice A N c) l p W h HS.out (by rw [HN.out]; omega) (by decide : 1 ≤ 100000) hp)
 go_wp2_with (fail)
 refine calls_named ?_
 intro W1 hW1
 have hL1 : Below w.heap.size w W1 := by
  rw [hW1]
  exact bB
 have c2 : Own W1 (w.heap.size) 0 [.bool (ng p.1.num), .string (mg p.1.num.natAbs), .bool false, .string (mg (dn p.1)), .bool (ng p.2.num), .string (mg p.2.num.natAbs), .bool false, .string (mg (dn p.2))] := by
  rw [hW1]
  first
  | (repeat (first | (with_reducible refine own_new (l := [.bool (ng p.1.num), .string (mg p.1.num.natAbs), .bool false, .string (mg (dn p.1)), .bool (ng p.2.num), .string (mg p.2.num.natAbs), .bool false, .string (mg (dn p.2))]) ?_; (simp; done)) | with_reducible refine Own.alloc ?_ _ | refine Own.far _ _ (by first | (simp; done) | (simp [*]; done) | (simp; omega)) ?_)); done
  | simp [Own, go_sem]
 have c3 : Own W1 (w.heap.size + 1) 0 [.bool false, .string ⟨#[]⟩, .bool false, .string ⟨#[]⟩] := by
  rw [hW1]
  first
  | (repeat (first | (with_reducible refine own_new (l := [.bool false, .string ⟨#[]⟩, .bool false, .string ⟨#[]⟩]) ?_; (simp; done)) | with_reducible refine Own.alloc ?_ _ | refine Own.far _ _ (by first | (simp; done) | (simp [*]; done) | (simp; omega)) ?_)); done
  | simp [Own, go_sem]
 have hB4 : Below w.heap.size w W1 := by
  rw [hW1]
  exact bB
 clear hW1 hL1
 with_reducible refine (K1.out _ (HV.out.up hB4)).mono ?_
 rintro e w1 ⟨rfl, hb1⟩
 have c5 := c2.up hb1
 have c6 := c3.up hb1
 have hB7 : Below w.heap.size w w1 := bel_up hB4 hb1
 clear c2 c3
 have uc5 := c5; have uc6 := c6
 simp only [At, Own, Nat.reduceAdd, and_true] at uc5 uc6
 go_wp2
 refine bodyPost_ret (v := .agg #[.bool false, .string ⟨#[]⟩, .bool false, .string ⟨#[]⟩]) (by simp [results, Tryz.results46, go_sem, uc5, uc6]) rfl ⟨rfl, ?_⟩
 exact bB
set_option maxHeartbeats 4000000 in
theorem near_far (v : Value) (l : List (Rat × Rat)) (p : Rat × Rat) (w : World) (h : PV w v l) (hs : ∀ q ∈ l, Pl.SzP 1 q) (hn : l.length ≤ 1000000) (hp : Pl.SzP 1 p) (h0 : 0 < l.length) (hl : Pl.locR l p < 0) :
 Calls Tryz.prog 46 #[v, pv p] w fun e w' => e = .returned (qv (Pl.nearR l p)) ∧ Below w.heap.size w w' := by
 obtain ⟨t, ht⟩ : ∃ t, Pl.locR l p = t := ⟨_, rfl⟩
 have HT := Lib.hid ht
 rw [ht] at hl
 have HA : Hid (Pl.nearR l p = Pl.nearF l p l.length) := Lib.hid (near_out ht hl)
 have HZ1 : Hid (Pl.Sz 1 (Rat.divInt 1 1)) := Lib.hid (by rw [one_div1]; exact ⟨by decide, by decide⟩)
 clear ht
 obtain ⟨A, c, rfl, hc, hm, hx⟩ := h.open_
 have HV := Lib.hid h
 have HX := Lib.hid hx
 have HS := Lib.hid hs
 have HF : Hid (l.take l.length = l) := Lib.hid List.take_length
 generalize hN : l.length = N at *
 have HN := Lib.hid hN
 clear h hx hs hN
 go_enter Tryz.func46, Tryz.ntmps46
 have K1 := Lib.hid (fun W (h : PV W (.slice A N c) l) => HT.out ▸ hloc_any (.slice A N c) l p W h HS.out (by rw [HN.out]; omega) (by decide : 1 ≤ 100000) hp)
 go_wp2_with (fail)
 refine calls_named ?_
 intro W1 hW1
 have hL1 : Below w.heap.size w W1 := by
  rw [hW1]
  exact bB
 have c2 : Own W1 (w.heap.size) 0 [.bool (ng p.1.num), .string (mg p.1.num.natAbs), .bool false, .string (mg (dn p.1)), .bool (ng p.2.num), .string (mg p.2.num.natAbs), .bool false, .string (mg (dn p.2))] := by
  rw [hW1]
  first
  | (repeat (first | (with_reducible refine own_new (l := [.bool (ng p.1.num), .string (mg p.1.num.natAbs), .bool false, .string (mg (dn p.1)), .bool (ng p.2.num), .string (mg p.2.num.natAbs), .bool false, .string (mg (dn p.2))]) ?_; (simp; done)) | with_reducible refine Own.alloc ?_ _ | refine Own.far _ _ (by first | (simp; done) | (simp [*]; done) | (simp; omega)) ?_)); done
  | simp [Own, go_sem]
 have c3 : Own W1 (w.heap.size + 1) 0 [.bool false, .string ⟨#[]⟩, .bool false, .string ⟨#[]⟩] := by
  rw [hW1]
  first
  | (repeat (first | (with_reducible refine own_new (l := [.bool false, .string ⟨#[]⟩, .bool false, .string ⟨#[]⟩]) ?_; (simp; done)) | with_reducible refine Own.alloc ?_ _ | refine Own.far _ _ (by first | (simp; done) | (simp [*]; done) | (simp; omega)) ?_)); done
  | simp [Own, go_sem]
 have hB4 : Below w.heap.size w W1 := by
  rw [hW1]
  exact bB
 clear hW1 hL1
 with_reducible refine (K1.out _ (HV.out.up hB4)).mono ?_
 rintro e w1 ⟨rfl, hb1⟩
 have c5 := c2.up hb1
 have c6 := c3.up hb1
 have hB7 : Below w.heap.size w w1 := bel_up hB4 hb1
 clear c2 c3
 obtain ⟨x0, hx8⟩ : ∃ x, l[0]? = some x := ⟨_, List.getElem?_eq_getElem (by rw [HN.out]; omega)⟩
 have Hhx8 := Lib.hid hx8
 have Zhx8 := Lib.hid (HS.out _ (List.mem_of_getElem? hx8))
 clear hx8
 go_upto_region 3 with fail
 refine wp_named ?_
 intro W2 hW2
 have hL2 : Below w1.heap.size w1 W2 := by
  rw [hW2]
  exact bB
 have c9 := c5.up hL2
 have c10 := c6.up hL2
 have hB11 : Below w.heap.size w W2 := by
  rw [hW2]
  exact bB
 clear hW2 hL2 c5 c6
 have K13 := Lib.hid (fun W => hsub_any x0 p W Zhx8.out hp (by omega) (by omega))
 have K14 := Lib.hid (fun W => hdot_any (Pl.subP x0 p) (Pl.subP x0 p) W (Zhx8.out.sub hp) (Zhx8.out.sub hp) (by omega) (by omega))
 obtain ⟨g17, o18, ha19, -⟩ := (HX.out).up kpP hB11 _ _ Hhx8.out
 subst ha19
 have ce16 := LX.at_ ((HX.out).up kpP hB11) Hhx8.out
 have ce16_ : g17 < W2.heap.size := World.block_lt_of_cell? _ _ ce16.1
 refine wp_region_new1 12 11 5 [.bool false, .string ⟨#[]⟩, .bool false, .string ⟨#[]⟩] 33 (by kernel_rfl) (by kernel_rfl) rfl rfl rfl rfl (by intro h_; cases h_) (by simp) (run_alloc_zero Tryz.zeroValue33 rfl) (by kernel_rfl) ?_
 intro V_12 hV_12
 have vc9 := c9.up hV_12; have dc9 := fun p : Bel V_12 => vc9.bel p
 have vc10 := c10.up hV_12; have dc10 := fun p : Bel V_12 => vc10.bel p
 simp only [At, Own, Nat.reduceAdd, and_true] at dc9 dc10
 have vce16 := ce16.up hV_12; have dce16 := fun b : Bel V_12 => vce16.bel b
 simp only [CE, Nat.reduceMul, Nat.zero_mul, Nat.add_zero, Nat.add_assoc, Nat.reduceAdd] at dce16
 have hBV_12 := bel_up hB11 hV_12
 simp only [List.map_cons, List.map_nil, maskOp, List.take_succ_cons, List.take_zero]
 repeat (go_big_quiet_step (first | (go_at_call 30; with_reducible exact Calls.bel (K13.out _)) | (go_at_call 28; with_reducible exact Calls.bel (K14.out _))))
 refine wpQuiet_nil ?_
 refine ⟨[.bool (ng ((Pl.dotP (Pl.subP x0 p) (Pl.subP x0 p)).num)), .string (mg ((Pl.dotP (Pl.subP x0 p) (Pl.subP x0 p)).num).natAbs), .bool false, .string (mg (dn (Pl.dotP (Pl.subP x0 p) (Pl.subP x0 p))))], rfl, rfl, by simp [Value.oneCell'], ?_⟩
 intro bq15 wn_12 hbn_12 lbq15 mbq15 c20
 simp only [Act.put, List.setIfInBounds_toArray, List.set_cons_zero, List.set_cons_succ]
 have ne21 : w.heap.size ≠ bq15 := by have := c9.lt; omega
 have ne21' := ne21.symm
 have ne22 : w.heap.size + 1 ≠ bq15 := by have := c10.lt; omega
 have ne22' := ne22.symm
 have ne23 : g17 ≠ bq15 := by omega
 have ne23' := ne23.symm
 have wbq15 := Nat.le_trans hB11.size lbq15
 clear hBV_12 dce16 vce16 dc10 vc10 dc9 vc9 hV_12 V_12
 have c24 := c9.up hbn_12
 have c25 := c10.up hbn_12
 have hB26 : Below w.heap.size w wn_12 := bel_up hB11 hbn_12
 clear c9 c10
 go_wp2_with fail
 go_loopw [6] (fun s6 wr => ∃ (i : Nat) (D : Rat), s6 = .int .i64 i ∧ Own wr (w.heap.size) 0 [.bool (ng p.1.num), .string (mg p.1.num.natAbs), .bool false, .string (mg (dn p.1)), .bool (ng p.2.num), .string (mg p.2.num.natAbs), .bool false, .string (mg (dn p.2))] ∧ Own wr (w.heap.size + 1) 0 [.bool false, .string ⟨#[]⟩, .bool false, .string ⟨#[]⟩] ∧ Own wr (bq15) 0 [.bool (ng D.num), .string (mg D.num.natAbs), .bool false, .string (mg (dn D))] ∧ Below w.heap.size w wr ∧ i ≤ N ∧ Hid (Pl.Sz 133 D) ∧ Hid (D = Pl.nearF l p i)) (fun s6 _ => N - (intOf s6).toNat)
 case atStart => exact ⟨0, (Pl.dotP (Pl.subP x0 p) (Pl.subP x0 p)), rfl, c24, c25, c20, hB26, (by omega), Lib.hid (((Zhx8.out.sub hp).dot (Zhx8.out.sub hp)).mono (by omega)), Lib.hid (by rw [Pl.nearF, Pl.getD_of Hhx8.out]; rfl)⟩
 case round =>
  clear c24 c25 c20 hB26
  obtain ⟨i, D, rfl, b27, b28, b29, hB30, hi, hD, HE⟩ := hrel
  obtain ⟨wr31, hwr31⟩ : ∃ W_, W_ = wr := ⟨_, rfl⟩
  subst hwr31
  by_cases hlti : i < N
  ·skip
   have i1i : (i : Int) < N := by omega
   have j0 : ¬ (N : Int) = 0 := by omega
   have j3 : ¬ N = 0 := by omega
   have j1 : ((N : Int) == 0) = false := by simpa using j0
   obtain ⟨m, hm1⟩ : ∃ m, m = (i + 1) % N := ⟨_, rfl⟩
   have hm2 : m < N := hm1 ▸ Nat.mod_lt _ (by omega)
   have i2 : (m : Int) < N := by omega
   have HRM := Lib.hid (remS i N m hm1 (by omega) (by omega))
   have HM := Lib.hid hm1
   clear hm1
   obtain ⟨x, hx32⟩ : ∃ x, l[i]? = some x := ⟨_, List.getElem?_eq_getElem (by rw [HN.out]; omega)⟩
   have Hhx32 := Lib.hid hx32
   have Zhx32 := Lib.hid (HS.out _ (List.mem_of_getElem? hx32))
   clear hx32
   obtain ⟨y, hx33⟩ : ∃ x, l[m]? = some x := ⟨_, List.getElem?_eq_getElem (by rw [HN.out]; omega)⟩
   have Hhx33 := Lib.hid hx33
   have Zhx33 := Lib.hid (HS.out _ (List.mem_of_getElem? hx33))
   clear hx33
   have HF := Lib.hid (nearF_succ (p := p) HN.out HM.out Hhx32.out Hhx33.out)
   obtain ⟨d, hd⟩ : ∃ z_, Pl.subP y x = z_ := ⟨_, rfl⟩
   have HZd : Hid (Pl.SzP 3 d) := Lib.hid (by rw [← hd]; exact (Zhx33.out.sub Zhx32.out))
   obtain ⟨n, hn⟩ : ∃ z_, Pl.dotP d d = z_ := ⟨_, rfl⟩
   have HZn : Hid (Pl.Sz 13 n) := Lib.hid (by rw [← hn]; exact (HZd.out.dot HZd.out))
   obtain ⟨e0, he0⟩ : ∃ z_, Pl.dotP (Pl.subP x p) (Pl.subP x p) = z_ := ⟨_, rfl⟩
   have HZe0 : Hid (Pl.Sz 13 e0) := Lib.hid (by rw [← he0]; exact ((Zhx32.out.sub hp).dot (Zhx32.out.sub hp)))
   obtain ⟨t, ht⟩ : ∃ z_, Pl.dotP (Pl.subP p x) d / n = z_ := ⟨_, rfl⟩
   have HZt : Hid (Pl.Sz 26 t) := Lib.hid (by rw [← ht]; exact (((hp.sub Zhx32.out).dot HZd.out).div HZn.out))
   obtain ⟨z, hz⟩ : ∃ z_, Pl.subP (Pl.addP x (Pl.scaleP d t)) p = z_ := ⟨_, rfl⟩
   have HZz : Hid (Pl.SzP 33 z) := Lib.hid (by rw [← hz]; exact ((Zhx32.out.add (HZd.out.scale HZt.out)).sub hp).mono (by omega))
   obtain ⟨e1, he1⟩ : ∃ z_, Pl.dotP z z = z_ := ⟨_, rfl⟩
   have HZe1 : Hid (Pl.Sz 133 e1) := Lib.hid (by rw [← he1]; exact (HZz.out.dot HZz.out))
   obtain ⟨tn, hsn⟩ : ∃ z, Pl.sgn n = z := ⟨_, rfl⟩
   obtain ⟨tt, hst⟩ : ∃ z, Pl.sgn t = z := ⟨_, rfl⟩
   obtain ⟨tz, hso⟩ : ∃ z, Pl.cmpQ t (Rat.divInt 1 1) = z := ⟨_, rfl⟩
   obtain ⟨c0, hc0⟩ : ∃ z, Pl.cmpQ e0 D = z := ⟨_, rfl⟩
   obtain ⟨c1, hc1⟩ : ∃ z, Pl.cmpQ e1 D = z := ⟨_, rfl⟩
   have HEV : Hid (EV p x y d n e0 t e1 tn tt tz) := Lib.hid ⟨hd, hn, he0, ht, by rw [hz]; exact he1, hsn, hst, hso⟩
   have HNE : Hid (0 < tn → n ≠ 0) := Lib.hid fun h e => by rw [← hsn, e] at h; revert h; decide
   have H_d := Lib.hid hd
   have H_n := Lib.hid hn
   have H_e0 := Lib.hid he0
   have H_t := Lib.hid ht
   have H_z := Lib.hid hz
   have H_e1 := Lib.hid he1
   have H_sn := Lib.hid hsn
   have H_st := Lib.hid hst
   have H_so := Lib.hid hso
   have H_c0 := Lib.hid hc0
   have H_c1 := Lib.hid hc1
   clear hc1 hc0 hso hst hsn he1 hz ht he0 hn hd
   go_upto_region 7 with fail
   refine wp_named ?_
   intro W3 hW3
   have hL3 : Below wr31.heap.size wr31 W3 := by
    rw [hW3]
    exact bB
   have c34 := b27.up hL3
   have c35 := b28.up hL3
   have c36 := b29.up hL3
   have hB37 : Below w.heap.size w W3 := by
    rw [hW3]
    exact bB
   clear hW3 hL3 b27 b28 b29
   obtain ⟨r1, r2, r3, r4, r5, r6⟩ := HRM.out
   have ce40 := LX.at_ ((HX.out).up kpP hB37) Hhx32.out
   have ce40_ : g17 < W3.heap.size := World.block_lt_of_cell? _ _ ce40.1
   have ce41 := LX.at_ ((HX.out).up kpP hB37) Hhx33.out
   have ce41_ : g17 < W3.heap.size := World.block_lt_of_cell? _ _ ce41.1
   have HSS42 : ∀ w' : World, Below W3.heap.size W3 w' → (w'.cell? ⟨w.heap.size, 0, none⟩ = some (.bool (ng p.1.num)) ∧ w'.cell? ⟨w.heap.size, 1, none⟩ = some (.string (mg p.1.num.natAbs)) ∧ w'.cell? ⟨w.heap.size, 2, none⟩ = some (.bool false) ∧ w'.cell? ⟨w.heap.size, 3, none⟩ = some (.string (mg (dn p.1))) ∧ w'.cell? ⟨w.heap.size, 4, none⟩ = some (.bool (ng p.2.num)) ∧ w'.cell? ⟨w.heap.size, 5, none⟩ = some (.string (mg p.2.num.natAbs)) ∧ w'.cell? ⟨w.heap.size, 6, none⟩ = some (.bool false) ∧ w'.cell? ⟨w.heap.size, 7, none⟩ = some (.string (mg (dn p.2))) ∧ w'.cell? ⟨w.heap.size + 1, 0, none⟩ = some (.bool false) ∧ w'.cell? ⟨w.heap.size + 1, 1, none⟩ = some (.string ⟨#[]⟩) ∧ w'.cell? ⟨w.heap.size + 1, 2, none⟩ = some (.bool false) ∧ w'.cell? ⟨w.heap.size + 1, 3, none⟩ = some (.string ⟨#[]⟩) ∧ w'.cell? ⟨bq15, 0, none⟩ = some (.bool (ng D.num)) ∧ w'.cell? ⟨bq15, 1, none⟩ = some (.string (mg D.num.natAbs)) ∧ w'.cell? ⟨bq15, 2, none⟩ = some (.bool false) ∧ w'.cell? ⟨bq15, 3, none⟩ = some (.string (mg (dn D))) ∧ w'.cell? ⟨g17, o18 + i * 8, none⟩ = some (.bool (ng x.1.num)) ∧ w'.cell? ⟨g17, o18 + i * 8 + 1, none⟩ = some (.string (mg x.1.num.natAbs)) ∧ w'.cell? ⟨g17, o18 + i * 8 + 2, none⟩ = some (.bool false) ∧ w'.cell? ⟨g17, o18 + i * 8 + 3, none⟩ = some (.string (mg (dn x.1))) ∧ w'.cell? ⟨g17, o18 + i * 8 + 4, none⟩ = some (.bool (ng x.2.num)) ∧ w'.cell? ⟨g17, o18 + i * 8 + 5, none⟩ = some (.string (mg x.2.num.natAbs)) ∧ w'.cell? ⟨g17, o18 + i * 8 + 6, none⟩ = some (.bool false) ∧ w'.cell? ⟨g17, o18 + i * 8 + 7, none⟩ = some (.string (mg (dn x.2))) ∧ w'.cell? ⟨g17, o18 + m * 8, none⟩ = some (.bool (ng y.1.num)) ∧ w'.cell? ⟨g17, o18 + m * 8 + 1, none⟩ = some (.string (mg y.1.num.natAbs)) ∧ w'.cell? ⟨g17, o18 + m * 8 + 2, none⟩ = some (.bool false) ∧ w'.cell? ⟨g17, o18 + m * 8 + 3, none⟩ = some (.string (mg (dn y.1))) ∧ w'.cell? ⟨g17, o18 + m * 8 + 4, none⟩ = some (.bool (ng y.2.num)) ∧ w'.cell? ⟨g17, o18 + m * 8 + 5, none⟩ = some (.string (mg y.2.num.natAbs)) ∧ w'.cell? ⟨g17, o18 + m * 8 + 6, none⟩ = some (.bool false) ∧ w'.cell? ⟨g17, o18 + m * 8 + 7, none⟩ = some (.string (mg (dn y.2)))) := fun w' hb => by
    have qc34 := c34.up hb; have qc35 := c35.up hb; have qc36 := c36.up hb; have qce40 := ce40.up hb; have qce41 := ce41.up hb
    simp only [At, Own, CE, CS, Nat.reduceAdd, Nat.reduceMul, Nat.zero_mul, Nat.add_zero, Nat.add_assoc, and_true] at qc34 qc35 qc36 qce40 qce41
    try simp only [Nat.add_assoc, Nat.reduceAdd]
    simp [*]
   go_cut [7, 8] (fun x7 x8 wx => ∃ bq38 bq39, x7 = .pointer (some ⟨bq38, 0, none⟩) ∧ x8 = .pointer (some ⟨bq39, 0, none⟩) ∧ W3.heap.size ≤ bq38 ∧ W3.heap.size ≤ bq39 ∧ bq38 ≠ bq39 ∧ Own wx bq38 0 [.bool (ng x.1.num), .string (mg x.1.num.natAbs), .bool false, .string (mg (dn x.1)), .bool (ng x.2.num), .string (mg x.2.num.natAbs), .bool false, .string (mg (dn x.2))] ∧ Own wx bq39 0 [.bool (ng y.1.num), .string (mg y.1.num.natAbs), .bool false, .string (mg (dn y.1)), .bool (ng y.2.num), .string (mg y.2.num.natAbs), .bool false, .string (mg (dn y.2))] ∧ Below W3.heap.size W3 wx)
   case first =>
    have hu := HSS42 W3 (Below.refl _ _)
    go_region_held3 (fun w' => w'.cell? ⟨w.heap.size, 0, none⟩ = some (.bool (ng p.1.num)) ∧ w'.cell? ⟨w.heap.size, 1, none⟩ = some (.string (mg p.1.num.natAbs)) ∧ w'.cell? ⟨w.heap.size, 2, none⟩ = some (.bool false) ∧ w'.cell? ⟨w.heap.size, 3, none⟩ = some (.string (mg (dn p.1))) ∧ w'.cell? ⟨w.heap.size, 4, none⟩ = some (.bool (ng p.2.num)) ∧ w'.cell? ⟨w.heap.size, 5, none⟩ = some (.string (mg p.2.num.natAbs)) ∧ w'.cell? ⟨w.heap.size, 6, none⟩ = some (.bool false) ∧ w'.cell? ⟨w.heap.size, 7, none⟩ = some (.string (mg (dn p.2))) ∧ w'.cell? ⟨w.heap.size + 1, 0, none⟩ = some (.bool false) ∧ w'.cell? ⟨w.heap.size + 1, 1, none⟩ = some (.string ⟨#[]⟩) ∧ w'.cell? ⟨w.heap.size + 1, 2, none⟩ = some (.bool false) ∧ w'.cell? ⟨w.heap.size + 1, 3, none⟩ = some (.string ⟨#[]⟩) ∧ w'.cell? ⟨bq15, 0, none⟩ = some (.bool (ng D.num)) ∧ w'.cell? ⟨bq15, 1, none⟩ = some (.string (mg D.num.natAbs)) ∧ w'.cell? ⟨bq15, 2, none⟩ = some (.bool false) ∧ w'.cell? ⟨bq15, 3, none⟩ = some (.string (mg (dn D))) ∧ w'.cell? ⟨g17, o18 + i * 8, none⟩ = some (.bool (ng x.1.num)) ∧ w'.cell? ⟨g17, o18 + i * 8 + 1, none⟩ = some (.string (mg x.1.num.natAbs)) ∧ w'.cell? ⟨g17, o18 + i * 8 + 2, none⟩ = some (.bool false) ∧ w'.cell? ⟨g17, o18 + i * 8 + 3, none⟩ = some (.string (mg (dn x.1))) ∧ w'.cell? ⟨g17, o18 + i * 8 + 4, none⟩ = some (.bool (ng x.2.num)) ∧ w'.cell? ⟨g17, o18 + i * 8 + 5, none⟩ = some (.string (mg x.2.num.natAbs)) ∧ w'.cell? ⟨g17, o18 + i * 8 + 6, none⟩ = some (.bool false) ∧ w'.cell? ⟨g17, o18 + i * 8 + 7, none⟩ = some (.string (mg (dn x.2))) ∧ w'.cell? ⟨g17, o18 + m * 8, none⟩ = some (.bool (ng y.1.num)) ∧ w'.cell? ⟨g17, o18 + m * 8 + 1, none⟩ = some (.string (mg y.1.num.natAbs)) ∧ w'.cell? ⟨g17, o18 + m * 8 + 2, none⟩ = some (.bool false) ∧ w'.cell? ⟨g17, o18 + m * 8 + 3, none⟩ = some (.string (mg (dn y.1))) ∧ w'.cell? ⟨g17, o18 + m * 8 + 4, none⟩ = some (.bool (ng y.2.num)) ∧ w'.cell? ⟨g17, o18 + m * 8 + 5, none⟩ = some (.string (mg y.2.num.natAbs)) ∧ w'.cell? ⟨g17, o18 + m * 8 + 6, none⟩ = some (.bool false) ∧ w'.cell? ⟨g17, o18 + m * 8 + 7, none⟩ = some (.string (mg (dn y.2)))) (refine HSS42 _ ?_ <;> (repeat (first | with_reducible exact Below.refl _ _ | with_reducible refine bel_alloc ?_ _ | with_reducible refine Below.drew ?_ | (refine Below.setCell ?_ (by first | (simp; done) | (simp; omega) | omega) _) | with_reducible refine bel_up ?_ (by with_reducible assumption)))) (first
     | fail)
    all_goals
     go_wp2_with fail
     go_meet
     refine ⟨_, _, rfl, rfl, (by first | (simp; done) | (simp; omega) | omega), (by first | (simp; done) | (simp; omega) | omega), (by first | (simp; done) | (simp; omega) | omega), ?_, ?_, ?_⟩
     ·first
      | (repeat (first | (with_reducible refine own_new (l := [.bool (ng x.1.num), .string (mg x.1.num.natAbs), .bool false, .string (mg (dn x.1)), .bool (ng x.2.num), .string (mg x.2.num.natAbs), .bool false, .string (mg (dn x.2))]) ?_; (simp; done)) | with_reducible refine Own.alloc ?_ _ | with_reducible refine Own.drew ?_)); done
      | (refine own_setL (olds := [.bool false, .string ⟨#[]⟩, .bool false, .string ⟨#[]⟩, .bool false, .string ⟨#[]⟩, .bool false, .string ⟨#[]⟩]) ?_ rfl; with_reducible assumption)
      | simp [Own, go_sem, *]
     ·first
      | (repeat (first | (with_reducible refine own_new (l := [.bool (ng y.1.num), .string (mg y.1.num.natAbs), .bool false, .string (mg (dn y.1)), .bool (ng y.2.num), .string (mg y.2.num.natAbs), .bool false, .string (mg (dn y.2))]) ?_; (simp; done)) | with_reducible refine Own.alloc ?_ _ | with_reducible refine Own.drew ?_)); done
      | (refine own_setL (olds := [.bool false, .string ⟨#[]⟩, .bool false, .string ⟨#[]⟩, .bool false, .string ⟨#[]⟩, .bool false, .string ⟨#[]⟩]) ?_ rfl; with_reducible assumption)
      | simp [Own, go_sem, *]
     ·(repeat (first | with_reducible exact Below.refl _ _ | with_reducible refine bel_alloc ?_ _ | with_reducible refine Below.drew ?_ | (refine Below.setCell ?_ (by first | (simp; done) | (simp; omega) | omega) _) | with_reducible refine bel_up ?_ (by with_reducible assumption)))
   case rest =>
    obtain ⟨bq38, bq39, rfl, rfl, hq43, hq44, nq45, c46, c47, hbz3⟩ := hcut
    obtain ⟨wz3, hwz3⟩ : ∃ W_, W_ = wc := ⟨_, rfl⟩
    subst hwz3
    have ne48 : w.heap.size ≠ bq38 := by have := c34.lt; omega
    have ne48' := ne48.symm
    have ne49 : w.heap.size + 1 ≠ bq38 := by have := c35.lt; omega
    have ne49' := ne49.symm
    have ne50 : bq15 ≠ bq38 := by have := c36.lt; omega
    have ne50' := ne50.symm
    have ne51 : w.heap.size ≠ bq39 := by have := c34.lt; omega
    have ne51' := ne51.symm
    have ne52 : w.heap.size + 1 ≠ bq39 := by have := c35.lt; omega
    have ne52' := ne52.symm
    have ne53 : bq15 ≠ bq39 := by have := c36.lt; omega
    have ne53' := ne53.symm
    have whq43 := Nat.le_trans hB37.size hq43
    have whq44 := Nat.le_trans hB37.size hq44
    have nq45' := nq45.symm
    clear HSS42
    have c54 := c34.up hbz3
    have c55 := c35.up hbz3
    have c56 := c36.up hbz3
    have hB57 : Below w.heap.size w wz3 := bel_up hB37 hbz3
    clear c34 c35 c36
    clear r1 r2 r3 r4 r5 r6
    go_upto_region 8 with fail
    refine wp_named ?_
    intro W4 hW4
    have hL4 : Below wz3.heap.size wz3 W4 := by
     rw [hW4]
     exact bB
    have c58 := c54.up hL4
    have c59 := c55.up hL4
    have c60 := c56.up hL4
    have c61 := c46.up hL4
    have c62 := c47.up hL4
    have hB63 : Below w.heap.size w W4 := by
     rw [hW4]
     exact bB
    clear hW4 hL4 c54 c55 c56 c46 c47
    have K65 := Lib.hid (fun W => hsub_any x p W Zhx32.out hp (by omega) (by omega))
    have K66 := Lib.hid (fun W => H_e0.out ▸ hdot_any (Pl.subP x p) (Pl.subP x p) W (Zhx32.out.sub hp) (Zhx32.out.sub hp) (by omega) (by omega))
    refine wp_region_new1 8 7 9 [.bool false, .string ⟨#[]⟩, .bool false, .string ⟨#[]⟩] 33 (by kernel_rfl) (by kernel_rfl) rfl rfl rfl rfl (by intro h_; cases h_) (by simp) (run_alloc_zero Tryz.zeroValue33 rfl) (by kernel_rfl) ?_
    intro V_64 hV_64
    have vc58 := c58.up hV_64; have dc58 := fun p : Bel V_64 => vc58.bel p
    have vc59 := c59.up hV_64; have dc59 := fun p : Bel V_64 => vc59.bel p
    have vc60 := c60.up hV_64; have dc60 := fun p : Bel V_64 => vc60.bel p
    have vc61 := c61.up hV_64; have dc61 := fun p : Bel V_64 => vc61.bel p
    have vc62 := c62.up hV_64; have dc62 := fun p : Bel V_64 => vc62.bel p
    simp only [At, Own, Nat.reduceAdd, and_true] at dc58 dc59 dc60 dc61 dc62
    have hBV_64 := bel_up hB63 hV_64
    simp only [List.map_cons, List.map_nil, maskOp, List.take_succ_cons, List.take_zero]
    repeat (go_big_quiet_step (first | (go_at_call 30; with_reducible exact Calls.bel (K65.out _)) | (go_at_call 28; with_reducible exact Calls.bel (K66.out _))))
    refine wpQuiet_nil ?_
    refine ⟨[.bool (ng e0.num), .string (mg e0.num.natAbs), .bool false, .string (mg (dn e0))], rfl, rfl, by simp [Value.oneCell'], ?_⟩
    intro bq67 wn_64 hbn_64 lbq67 mbq67 c68
    simp only [Act.put, List.setIfInBounds_toArray, List.set_cons_zero, List.set_cons_succ]
    have ne69 : w.heap.size ≠ bq67 := by have := c58.lt; omega
    have ne69' := ne69.symm
    have ne70 : w.heap.size + 1 ≠ bq67 := by have := c59.lt; omega
    have ne70' := ne70.symm
    have ne71 : bq15 ≠ bq67 := by have := c60.lt; omega
    have ne71' := ne71.symm
    have ne72 : bq38 ≠ bq67 := by have := c61.lt; omega
    have ne72' := ne72.symm
    have ne73 : bq39 ≠ bq67 := by have := c62.lt; omega
    have ne73' := ne73.symm
    have wbq67 := Nat.le_trans hB63.size lbq67
    clear hBV_64 dc62 vc62 dc61 vc61 dc60 vc60 dc59 vc59 dc58 vc58 hV_64 V_64
    have c74 := c58.up hbn_64
    have c75 := c59.up hbn_64
    have c76 := c60.up hbn_64
    have c77 := c61.up hbn_64
    have c78 := c62.up hbn_64
    have hB79 : Below w.heap.size w wn_64 := bel_up hB63 hbn_64
    clear c58 c59 c60 c61 c62
    have uc74 := c74; have uc75 := c75; have uc76 := c76; have uc77 := c77; have uc78 := c78; have uc68 := c68
    simp only [At, Own, Nat.reduceAdd, and_true] at uc74 uc75 uc76 uc77 uc78 uc68
    have K80 := Lib.hid (fun W => H_d.out ▸ hsub_any y x W Zhx33.out Zhx32.out (by omega) (by omega))
    go_wp2_with (fail)
    refine calls_named ?_
    intro W5 hW5
    have hL5 : Below wn_64.heap.size wn_64 W5 := by
     rw [hW5]
     exact bB
    have c81 := c74.up hL5
    have c82 := c75.up hL5
    have c83 := c76.up hL5
    have c84 := c77.up hL5
    have c85 := c78.up hL5
    have c86 := c68.up hL5
    have hB87 : Below w.heap.size w W5 := by
     rw [hW5]
     exact bB
    clear hW5 hL5 uc74 uc75 uc76 uc77 uc78 uc68 c74 c75 c76 c77 c78 c68
    with_reducible refine (K80.out _).mono ?_
    rintro e w5 ⟨rfl, hb5⟩
    have c88 := c81.up hb5
    have c89 := c82.up hb5
    have c90 := c83.up hb5
    have c91 := c84.up hb5
    have c92 := c85.up hb5
    have c93 := c86.up hb5
    have hB94 : Below w.heap.size w w5 := bel_up hB87 hb5
    clear c81 c82 c83 c84 c85 c86
    have ne95_ : w.heap.size < w5.heap.size := by have := c88.lt; omega
    have ne95 := Nat.ne_of_lt ne95_
    have ne95' := ne95.symm
    have ne96_ : w.heap.size + 1 < w5.heap.size := by have := c89.lt; omega
    have ne96 := Nat.ne_of_lt ne96_
    have ne96' := ne96.symm
    have ne97_ : bq15 < w5.heap.size := by have := c90.lt; omega
    have ne97 := Nat.ne_of_lt ne97_
    have ne97' := ne97.symm
    have ne98_ : bq38 < w5.heap.size := by have := c91.lt; omega
    have ne98 := Nat.ne_of_lt ne98_
    have ne98' := ne98.symm
    have ne99_ : bq39 < w5.heap.size := by have := c92.lt; omega
    have ne99 := Nat.ne_of_lt ne99_
    have ne99' := ne99.symm
    have ne100_ : bq67 < w5.heap.size := by have := c93.lt; omega
    have ne100 := Nat.ne_of_lt ne100_
    have ne100' := ne100.symm
    have ne101_ : g17 < w5.heap.size := by omega
    have ne101 := Nat.ne_of_lt ne101_
    have ne101' := ne101.symm
    have uc88 := c88; have uc89 := c89; have uc90 := c90; have uc91 := c91; have uc92 := c92; have uc93 := c93
    simp only [At, Own, Nat.reduceAdd, and_true] at uc88 uc89 uc90 uc91 uc92 uc93
    skip
    have K102 := Lib.hid (fun W => H_n.out ▸ hdot_any d d W HZd.out HZd.out (by omega) (by omega))
    go_wp2_with (fail)
    refine calls_named ?_
    intro W6 hW6
    have hL6 : Below w5.heap.size w5 W6 := by
     rw [hW6]
     exact bB
    have c103 := c88.up hL6
    have c104 := c89.up hL6
    have c105 := c90.up hL6
    have c106 := c91.up hL6
    have c107 := c93.up hL6
    have c108 : Own W6 (w5.heap.size) 0 [.bool (ng d.1.num), .string (mg d.1.num.natAbs), .bool false, .string (mg (dn d.1)), .bool (ng d.2.num), .string (mg d.2.num.natAbs), .bool false, .string (mg (dn d.2))] := by
     rw [hW6]
     first
     | (repeat (first | (with_reducible refine own_new (l := [.bool (ng d.1.num), .string (mg d.1.num.natAbs), .bool false, .string (mg (dn d.1)), .bool (ng d.2.num), .string (mg d.2.num.natAbs), .bool false, .string (mg (dn d.2))]) ?_; (simp; done)) | with_reducible refine Own.alloc ?_ _ | refine Own.far _ _ (by first | (simp; done) | (simp [*]; done) | (simp; omega)) ?_)); done
     | simp [Own, go_sem, uc88, uc89, uc90, uc91, uc92, uc93, ne95, ne95', ne95_, ne96, ne96', ne96_, ne97, ne97', ne97_, ne98, ne98', ne98_, ne99, ne99', ne99_, ne100, ne100', ne100_, ne101, ne101', ne101_, ne21, ne21', ne22, ne22', ne23, ne23', ne48, ne48', ne49, ne49', ne50, ne50', ne51, ne51', ne52, ne52', ne53, ne53', nq45, nq45', ne69, ne69', ne70, ne70', ne71, ne71', ne72, ne72', ne73, ne73']
    have hB109 : Below w.heap.size w W6 := by
     rw [hW6]
     exact bB
    clear hW6 hL6 uc88 uc89 uc90 uc91 uc92 uc93 c88 c89 c90 c91 c93
    with_reducible refine (K102.out _).mono ?_
    rintro e w6 ⟨rfl, hb6⟩
    have c110 := c103.up hb6
    have c111 := c104.up hb6
    have c112 := c105.up hb6
    have c113 := c106.up hb6
    have c114 := c107.up hb6
    have c115 := c108.up hb6
    have hB116 : Below w.heap.size w w6 := bel_up hB109 hb6
    clear c103 c104 c105 c106 c107 c108
    have ne117_ : w.heap.size < w6.heap.size := by have := c110.lt; omega
    have ne117 := Nat.ne_of_lt ne117_
    have ne117' := ne117.symm
    have ne118_ : w.heap.size + 1 < w6.heap.size := by have := c111.lt; omega
    have ne118 := Nat.ne_of_lt ne118_
    have ne118' := ne118.symm
    have ne119_ : bq15 < w6.heap.size := by have := c112.lt; omega
    have ne119 := Nat.ne_of_lt ne119_
    have ne119' := ne119.symm
    have ne120_ : bq38 < w6.heap.size := by have := c113.lt; omega
    have ne120 := Nat.ne_of_lt ne120_
    have ne120' := ne120.symm
    have ne121_ : bq67 < w6.heap.size := by have := c114.lt; omega
    have ne121 := Nat.ne_of_lt ne121_
    have ne121' := ne121.symm
    have ne122_ : w5.heap.size < w6.heap.size := by have := c115.lt; omega
    have ne122 := Nat.ne_of_lt ne122_
    have ne122' := ne122.symm
    have ne123_ : g17 < w6.heap.size := by omega
    have ne123 := Nat.ne_of_lt ne123_
    have ne123' := ne123.symm
    have uc110 := c110; have uc111 := c111; have uc112 := c112; have uc113 := c113; have uc114 := c114; have uc115 := c115
    simp only [At, Own, Nat.reduceAdd, and_true] at uc110 uc111 uc112 uc113 uc114 uc115
    have K124 := Lib.hid (fun W => H_sn.out ▸ rsign_any n W)
    go_wp2_with (fail)
    refine calls_named ?_
    intro W7 hW7
    have hL7 : Below w6.heap.size w6 W7 := by
     rw [hW7]
     exact bB
    have c125 := c110.up hL7
    have c126 := c111.up hL7
    have c127 := c112.up hL7
    have c128 := c113.up hL7
    have c129 := c114.up hL7
    have c130 := c115.up hL7
    have c131 : Own W7 (w6.heap.size) 0 [.bool (ng n.num), .string (mg n.num.natAbs), .bool false, .string (mg (dn n))] := by
     rw [hW7]
     first
     | (repeat (first | (with_reducible refine own_new (l := [.bool (ng n.num), .string (mg n.num.natAbs), .bool false, .string (mg (dn n))]) ?_; (simp; done)) | with_reducible refine Own.alloc ?_ _ | refine Own.far _ _ (by first | (simp; done) | (simp [*]; done) | (simp; omega)) ?_)); done
     | simp [Own, go_sem, uc110, uc111, uc112, uc113, uc114, uc115, ne117, ne117', ne117_, ne118, ne118', ne118_, ne119, ne119', ne119_, ne120, ne120', ne120_, ne121, ne121', ne121_, ne122, ne122', ne122_, ne123, ne123', ne123_, ne21, ne21', ne22, ne22', ne23, ne23', ne48, ne48', ne49, ne49', ne50, ne50', ne51, ne51', ne52, ne52', ne53, ne53', nq45, nq45', ne69, ne69', ne70, ne70', ne71, ne71', ne72, ne72', ne73, ne73']
    have hB132 : Below w.heap.size w W7 := by
     rw [hW7]
     exact bB
    clear hW7 hL7 uc110 uc111 uc112 uc113 uc114 uc115 c110 c111 c112 c113 c114 c115
    with_reducible refine (K124.out _).mono ?_
    rintro e w7 ⟨rfl, hb7⟩
    have c133 := c125.up hb7
    have c134 := c126.up hb7
    have c135 := c127.up hb7
    have c136 := c128.up hb7
    have c137 := c129.up hb7
    have c138 := c130.up hb7
    have c139 := c131.up hb7
    have hB140 : Below w.heap.size w w7 := bel_up hB132 hb7
    clear c125 c126 c127 c128 c129 c130 c131
    by_cases hc141 : (0 : Int) < tn
    ·skip
     have hc141_d : decide ((0 : Int) < tn) = true := decide_eq_true hc141
     have hc141_ : ¬ ((tn : Int) ≤ 0) := by omega
     go_upto_region 12 with fail
     refine wp_named ?_
     intro W8 hW8
     have hL8 : Below w7.heap.size w7 W8 := by
      rw [hW8]
      exact bB
     have c142 := c133.up hL8
     have c143 := c134.up hL8
     have c144 := c135.up hL8
     have c145 := c136.up hL8
     have c146 := c137.up hL8
     have c147 := c138.up hL8
     have c148 := c139.up hL8
     have hB149 : Below w.heap.size w W8 := by
      rw [hW8]
      exact bB
     clear hW8 hL8 c133 c134 c135 c136 c137 c138 c139
     have K151 := Lib.hid (fun W => hsub_any p x W hp Zhx32.out (by omega) (by omega))
     have K152 := Lib.hid (fun W => hdot_any (Pl.subP p x) d W (hp.sub Zhx32.out) HZd.out (by omega) (by omega))
     have K153 := Lib.hid (fun W => H_t.out ▸ rdiv_any (Pl.dotP (Pl.subP p x) d) n W (HNE.out (by omega)) (((hp.sub Zhx32.out).dot HZd.out).mono (by omega)) (HZn.out.mono (by omega)))
     refine wp_region_new1 8 7 12 [.bool false, .string ⟨#[]⟩, .bool false, .string ⟨#[]⟩] 33 (by kernel_rfl) (by kernel_rfl) rfl rfl rfl rfl (by intro h_; cases h_) (by simp) (run_alloc_zero Tryz.zeroValue33 rfl) (by kernel_rfl) ?_
     intro V_150 hV_150
     have vc142 := c142.up hV_150; have dc142 := fun p : Bel V_150 => vc142.bel p
     have vc143 := c143.up hV_150; have dc143 := fun p : Bel V_150 => vc143.bel p
     have vc144 := c144.up hV_150; have dc144 := fun p : Bel V_150 => vc144.bel p
     have vc145 := c145.up hV_150; have dc145 := fun p : Bel V_150 => vc145.bel p
     have vc146 := c146.up hV_150; have dc146 := fun p : Bel V_150 => vc146.bel p
     have vc147 := c147.up hV_150; have dc147 := fun p : Bel V_150 => vc147.bel p
     have vc148 := c148.up hV_150; have dc148 := fun p : Bel V_150 => vc148.bel p
     simp only [At, Own, Nat.reduceAdd, and_true] at dc142 dc143 dc144 dc145 dc146 dc147 dc148
     have hBV_150 := bel_up hB149 hV_150
     simp only [List.map_cons, List.map_nil, maskOp, List.take_succ_cons, List.take_zero]
     repeat (go_big_quiet_step (first | (go_at_call 30; with_reducible exact Calls.bel (K151.out _)) | (go_at_call 28; with_reducible exact Calls.bel (K152.out _)) | (go_at_call 42; with_reducible exact Calls.bel (K153.out _))))
     refine wpQuiet_nil ?_
     refine ⟨[.bool (ng t.num), .string (mg t.num.natAbs), .bool false, .string (mg (dn t))], rfl, rfl, by simp [Value.oneCell'], ?_⟩
     intro bq154 wn_150 hbn_150 lbq154 mbq154 c155
     simp only [Act.put, List.setIfInBounds_toArray, List.set_cons_zero, List.set_cons_succ]
     have ne156 : w.heap.size ≠ bq154 := by have := c142.lt; omega
     have ne156' := ne156.symm
     have ne157 : w.heap.size + 1 ≠ bq154 := by have := c143.lt; omega
     have ne157' := ne157.symm
     have ne158 : bq15 ≠ bq154 := by have := c144.lt; omega
     have ne158' := ne158.symm
     have ne159 : bq38 ≠ bq154 := by have := c145.lt; omega
     have ne159' := ne159.symm
     have ne160 : bq67 ≠ bq154 := by have := c146.lt; omega
     have ne160' := ne160.symm
     have ne161 : w5.heap.size ≠ bq154 := by have := c147.lt; omega
     have ne161' := ne161.symm
     have ne162 : w6.heap.size ≠ bq154 := by have := c148.lt; omega
     have ne162' := ne162.symm
     have wbq154 := Nat.le_trans hB149.size lbq154
     clear hBV_150 dc148 vc148 dc147 vc147 dc146 vc146 dc145 vc145 dc144 vc144 dc143 vc143 dc142 vc142 hV_150 V_150
     have c163 := c142.up hbn_150
     have c164 := c143.up hbn_150
     have c165 := c144.up hbn_150
     have c166 := c145.up hbn_150
     have c167 := c146.up hbn_150
     have c168 := c147.up hbn_150
     have c169 := c148.up hbn_150
     have hB170 : Below w.heap.size w wn_150 := bel_up hB149 hbn_150
     clear c142 c143 c144 c145 c146 c147 c148
     clear c169
     by_cases hc172 : (0 : Int) < tt
     ·skip
      have hc172_d : decide ((0 : Int) < tt) = true := decide_eq_true hc172
      have hc172_ : ¬ ((tt : Int) ≤ 0) := by omega
      have K173 := Lib.hid (fun W => H_st.out ▸ rsign_any t W)
      have K174 := Lib.hid (fun W => rOf_any 1 1 W (by decide) (by decide) (by decide) (by decide) (by decide))
      have K175 := Lib.hid (fun W => H_so.out ▸ rcompare_any t (Rat.divInt 1 1) W (HZt.out.mono (by omega)) (HZ1.out.mono (by omega)))
      go_wp2_with fail
      refine wp_named ?_
      intro W9 hW9
      have hL9 : Below wn_150.heap.size wn_150 W9 := by
       rw [hW9]
       exact bB
      have c176 := c163.up hL9
      have c177 := c164.up hL9
      have c178 := c165.up hL9
      have c179 := c166.up hL9
      have c180 := c167.up hL9
      have c181 := c168.up hL9
      have c182 := c155.up hL9
      have hB183 : Below w.heap.size w W9 := by
       rw [hW9]
       exact bB
      clear hW9 hL9 c163 c164 c165 c166 c167 c168 c155
      have dc176 := fun p : Bel W9 => c176.bel p; have dc177 := fun p : Bel W9 => c177.bel p; have dc178 := fun p : Bel W9 => c178.bel p; have dc179 := fun p : Bel W9 => c179.bel p; have dc180 := fun p : Bel W9 => c180.bel p; have dc181 := fun p : Bel W9 => c181.bel p; have dc182 := fun p : Bel W9 => c182.bel p
      simp only [At, Own, Nat.reduceAdd, and_true] at dc176 dc177 dc178 dc179 dc180 dc181 dc182
      refine wp_region_all (by kernel_rfl) (by kernel_rfl) ?_
      repeat (go_big_quiet_step (first | (go_at_call 76; with_reducible exact Calls.bel (K173.out _)) | (go_at_call 21; with_reducible exact Calls.bel (K174.out _)) | (go_at_call 31; with_reducible exact Calls.bel (K175.out _))))
      refine wpQuiet_nil ?_
      intro w9 hb9
      have c184 := c176.up hb9
      have c185 := c177.up hb9
      have c186 := c178.up hb9
      have c187 := c179.up hb9
      have c188 := c180.up hb9
      have c189 := c181.up hb9
      have c190 := c182.up hb9
      have hB191 : Below w.heap.size w w9 := bel_up hB183 hb9
      clear dc176 dc177 dc178 dc179 dc180 dc181 dc182 c176 c177 c178 c179 c180 c181 c182
      have uc184 := c184; have uc185 := c185; have uc186 := c186; have uc187 := c187; have uc188 := c188; have uc189 := c189; have uc190 := c190
      simp only [At, Own, Nat.reduceAdd, and_true] at uc184 uc185 uc186 uc187 uc188 uc189 uc190
      by_cases hc192 : (tz : Int) < 0
      ·skip
       have hc192_d : decide ((tz : Int) < 0) = true := decide_eq_true hc192
       have hc192_ : ¬ ((0 : Int) ≤ tz) := by omega
       go_upto_region 14 with fail
       refine wp_named ?_
       intro W10 hW10
       have hL10 : Below w9.heap.size w9 W10 := by
        rw [hW10]
        exact bB
       have c193 := c184.up hL10
       have c194 := c185.up hL10
       have c195 := c186.up hL10
       have c196 := c187.up hL10
       have c197 := c188.up hL10
       have c198 := c189.up hL10
       have c199 := c190.up hL10
       have hB200 : Below w.heap.size w W10 := by
        rw [hW10]
        exact bB
       clear hW10 hL10 uc184 uc185 uc186 uc187 uc188 uc189 uc190 c184 c185 c186 c187 c188 c189 c190
       have K202 := Lib.hid (fun W => hscale_any d t W HZd.out HZt.out (by omega) (by omega))
       have K203 := Lib.hid (fun W => hadd_any x (Pl.scaleP d t) W Zhx32.out (HZd.out.scale HZt.out) (by omega) (by omega))
       have K204 := Lib.hid (fun W => H_z.out ▸ hsub_any (Pl.addP x (Pl.scaleP d t)) p W (Zhx32.out.add (HZd.out.scale HZt.out)) hp (by omega) (by omega))
       refine wp_region_new1 8 7 13 [.bool false, .string ⟨#[]⟩, .bool false, .string ⟨#[]⟩, .bool false, .string ⟨#[]⟩, .bool false, .string ⟨#[]⟩] 35 (by kernel_rfl) (by kernel_rfl) rfl rfl rfl rfl (by intro h_; cases h_) (by simp) (run_alloc_zero Tryz.zeroValue35 rfl) (by kernel_rfl) ?_
       intro V_201 hV_201
       have vc193 := c193.up hV_201; have dc193 := fun p : Bel V_201 => vc193.bel p
       have vc194 := c194.up hV_201; have dc194 := fun p : Bel V_201 => vc194.bel p
       have vc195 := c195.up hV_201; have dc195 := fun p : Bel V_201 => vc195.bel p
       have vc196 := c196.up hV_201; have dc196 := fun p : Bel V_201 => vc196.bel p
       have vc197 := c197.up hV_201; have dc197 := fun p : Bel V_201 => vc197.bel p
       have vc198 := c198.up hV_201; have dc198 := fun p : Bel V_201 => vc198.bel p
       have vc199 := c199.up hV_201; have dc199 := fun p : Bel V_201 => vc199.bel p
       simp only [At, Own, Nat.reduceAdd, and_true] at dc193 dc194 dc195 dc196 dc197 dc198 dc199
       have hBV_201 := bel_up hB200 hV_201
       simp only [List.map_cons, List.map_nil, maskOp, List.take_succ_cons, List.take_zero]
       repeat (go_big_quiet_step (first | (go_at_call 82; with_reducible exact Calls.bel (K202.out _)) | (go_at_call 67; with_reducible exact Calls.bel (K203.out _)) | (go_at_call 30; with_reducible exact Calls.bel (K204.out _))))
       refine wpQuiet_nil ?_
       refine ⟨[.bool (ng z.1.num), .string (mg z.1.num.natAbs), .bool false, .string (mg (dn z.1)), .bool (ng z.2.num), .string (mg z.2.num.natAbs), .bool false, .string (mg (dn z.2))], rfl, rfl, by simp [Value.oneCell'], ?_⟩
       intro bq205 wn_201 hbn_201 lbq205 mbq205 c206
       simp only [Act.put, List.setIfInBounds_toArray, List.set_cons_zero, List.set_cons_succ]
       have ne207 : w.heap.size ≠ bq205 := by have := c193.lt; omega
       have ne207' := ne207.symm
       have ne208 : w.heap.size + 1 ≠ bq205 := by have := c194.lt; omega
       have ne208' := ne208.symm
       have ne209 : bq15 ≠ bq205 := by have := c195.lt; omega
       have ne209' := ne209.symm
       have ne210 : bq38 ≠ bq205 := by have := c196.lt; omega
       have ne210' := ne210.symm
       have ne211 : bq67 ≠ bq205 := by have := c197.lt; omega
       have ne211' := ne211.symm
       have ne212 : w5.heap.size ≠ bq205 := by have := c198.lt; omega
       have ne212' := ne212.symm
       have ne213 : bq154 ≠ bq205 := by have := c199.lt; omega
       have ne213' := ne213.symm
       have wbq205 := Nat.le_trans hB200.size lbq205
       clear hBV_201 dc199 vc199 dc198 vc198 dc197 vc197 dc196 vc196 dc195 vc195 dc194 vc194 dc193 vc193 hV_201 V_201
       have c214 := c193.up hbn_201
       have c215 := c194.up hbn_201
       have c216 := c195.up hbn_201
       have c217 := c196.up hbn_201
       have c218 := c197.up hbn_201
       have c219 := c198.up hbn_201
       have c220 := c199.up hbn_201
       have hB221 : Below w.heap.size w wn_201 := bel_up hB200 hbn_201
       clear c193 c194 c195 c196 c197 c198 c199
       clear c217 c219 c220
       have uc214 := c214; have uc215 := c215; have uc216 := c216; have uc218 := c218; have uc206 := c206
       simp only [At, Own, Nat.reduceAdd, and_true] at uc214 uc215 uc216 uc218 uc206
       have K222 := Lib.hid (fun W => H_e1.out ▸ hdot_any z z W HZz.out HZz.out (by omega) (by omega))
       go_wp2_with (fail)
       refine calls_named ?_
       intro W11 hW11
       have hL11 : Below wn_201.heap.size wn_201 W11 := by
        rw [hW11]
        exact bB
       have c223 := c214.up hL11
       have c224 := c215.up hL11
       have c225 := c216.up hL11
       have c226 := c218.up hL11
       have c227 := c206.up hL11
       have hB228 : Below w.heap.size w W11 := by
        rw [hW11]
        exact bB
       clear hW11 hL11 uc214 uc215 uc216 uc218 uc206 c214 c215 c216 c218 c206
       with_reducible refine (K222.out _).mono ?_
       rintro e w11 ⟨rfl, hb11⟩
       have c229 := c223.up hb11
       have c230 := c224.up hb11
       have c231 := c225.up hb11
       have c232 := c226.up hb11
       have c233 := c227.up hb11
       have hB234 : Below w.heap.size w w11 := bel_up hB228 hb11
       clear c223 c224 c225 c226 c227
       have uc229 := c229; have uc230 := c230; have uc231 := c231; have uc232 := c232; have uc233 := c233
       simp only [At, Own, Nat.reduceAdd, and_true] at uc229 uc230 uc231 uc232 uc233
       skip
       have K235 := Lib.hid (fun W => H_c1.out ▸ rcompare_any e1 D W (HZe1.out.mono (by omega)) (hD.out.mono (by omega)))
       go_wp2_with (fail)
       refine calls_named ?_
       intro W12 hW12
       have c236 : Own W12 (w.heap.size) 0 [.bool (ng p.1.num), .string (mg p.1.num.natAbs), .bool false, .string (mg (dn p.1)), .bool (ng p.2.num), .string (mg p.2.num.natAbs), .bool false, .string (mg (dn p.2))] := by rw [hW12]; first | (repeat (first | with_reducible exact c229 | with_reducible refine Own.alloc ?_ _ | refine Own.far _ _ (by first | (dsimp only; with_reducible assumption) | (simp; omega) | omega) ?_)); done | simp [Own, go_sem, uc229, uc230, uc231, uc232, uc233, ne21, ne21', ne22, ne22', ne23, ne23', ne48, ne48', ne49, ne49', ne50, ne50', ne51, ne51', ne52, ne52', ne53, ne53', nq45, nq45', ne69, ne69', ne70, ne70', ne71, ne71', ne72, ne72', ne73, ne73', ne156, ne156', ne157, ne157', ne158, ne158', ne159, ne159', ne160, ne160', ne161, ne161', ne162, ne162', ne207, ne207', ne208, ne208', ne209, ne209', ne210, ne210', ne211, ne211', ne212, ne212', ne213, ne213']
       have c237 : Own W12 (w.heap.size + 1) 0 [.bool false, .string ⟨#[]⟩, .bool false, .string ⟨#[]⟩] := by rw [hW12]; first | (repeat (first | with_reducible exact c230 | with_reducible refine Own.alloc ?_ _ | refine Own.far _ _ (by first | (dsimp only; with_reducible assumption) | (simp; omega) | omega) ?_)); done | simp [Own, go_sem, uc229, uc230, uc231, uc232, uc233, ne21, ne21', ne22, ne22', ne23, ne23', ne48, ne48', ne49, ne49', ne50, ne50', ne51, ne51', ne52, ne52', ne53, ne53', nq45, nq45', ne69, ne69', ne70, ne70', ne71, ne71', ne72, ne72', ne73, ne73', ne156, ne156', ne157, ne157', ne158, ne158', ne159, ne159', ne160, ne160', ne161, ne161', ne162, ne162', ne207, ne207', ne208, ne208', ne209, ne209', ne210, ne210', ne211, ne211', ne212, ne212', ne213, ne213']
       have c238 : Own W12 (bq15) 0 [.bool (ng D.num), .string (mg D.num.natAbs), .bool false, .string (mg (dn D))] := by rw [hW12]; first | (repeat (first | with_reducible exact c231 | with_reducible refine Own.alloc ?_ _ | refine Own.far _ _ (by first | (dsimp only; with_reducible assumption) | (simp; omega) | omega) ?_)); done | simp [Own, go_sem, uc229, uc230, uc231, uc232, uc233, ne21, ne21', ne22, ne22', ne23, ne23', ne48, ne48', ne49, ne49', ne50, ne50', ne51, ne51', ne52, ne52', ne53, ne53', nq45, nq45', ne69, ne69', ne70, ne70', ne71, ne71', ne72, ne72', ne73, ne73', ne156, ne156', ne157, ne157', ne158, ne158', ne159, ne159', ne160, ne160', ne161, ne161', ne162, ne162', ne207, ne207', ne208, ne208', ne209, ne209', ne210, ne210', ne211, ne211', ne212, ne212', ne213, ne213']
       have c239 : Own W12 (bq67) 0 [.bool (ng e1.num), .string (mg e1.num.natAbs), .bool false, .string (mg (dn e1))] := by rw [hW12]; simp [Own, go_sem, uc229, uc230, uc231, uc232, uc233, ne21, ne21', ne22, ne22', ne23, ne23', ne48, ne48', ne49, ne49', ne50, ne50', ne51, ne51', ne52, ne52', ne53, ne53', nq45, nq45', ne69, ne69', ne70, ne70', ne71, ne71', ne72, ne72', ne73, ne73', ne156, ne156', ne157, ne157', ne158, ne158', ne159, ne159', ne160, ne160', ne161, ne161', ne162, ne162', ne207, ne207', ne208, ne208', ne209, ne209', ne210, ne210', ne211, ne211', ne212, ne212', ne213, ne213']
       have hB240 : Below w.heap.size w W12 := by
        rw [hW12]
        exact bB
       clear hW12 uc229 uc230 uc231 uc232 uc233 c229 c230 c231 c232
       with_reducible refine (K235.out _).mono ?_
       rintro e w12 ⟨rfl, hb12⟩
       have c241 := c236.up hb12
       have c242 := c237.up hb12
       have c243 := c238.up hb12
       have c244 := c239.up hb12
       have hB245 : Below w.heap.size w w12 := bel_up hB240 hb12
       clear c236 c237 c238 c239
       by_cases hc246 : (c1 : Int) < 0
       ·skip
        have hc246_d : decide ((c1 : Int) < 0) = true := decide_eq_true hc246
        have hc246_ : ¬ ((0 : Int) ≤ c1) := by omega
        have uc241 := c241; have uc242 := c242; have uc243 := c243; have uc244 := c244
        simp only [At, Own, Nat.reduceAdd, and_true] at uc241 uc242 uc243 uc244
        skip
        go_wp2
        go_roundw
        case rel => exact ⟨(i + 1), e1, (by first | rfl | exact congrArg (Value.int .i64) (by omega) | simp [*]), (by repeat (first | with_reducible exact c241 | refine Own.far _ _ (by simp <;> omega) ?_ | with_reducible refine Own.alloc ?_ _)), (by repeat (first | with_reducible exact c242 | refine Own.far _ _ (by simp <;> omega) ?_ | with_reducible refine Own.alloc ?_ _)), (by simp [Own, go_sem, uc241, uc242, uc243, uc244, ne21, ne21', ne22, ne22', ne23, ne23', ne48, ne48', ne49, ne49', ne50, ne50', ne51, ne51', ne52, ne52', ne53, ne53', nq45, nq45', ne69, ne69', ne70, ne70', ne71, ne71', ne72, ne72', ne73, ne73', ne156, ne156', ne157, ne157', ne158, ne158', ne159, ne159', ne160, ne160', ne161, ne161', ne162, ne162', ne207, ne207', ne208, ne208', ne209, ne209', ne210, ne210', ne211, ne211', ne212, ne212', ne213, ne213']), (by exact bB), (by omega), Lib.hid (HZe1.out.mono (by omega)), Lib.hid (by first | exact near_lt HF.out HE.out (by first | exact HEV.out.yes (by omega) (by omega) (by omega) | exact HEV.out.no (by omega)) H_c0.out (by omega) | exact near_lt HF.out HE.out (by first | exact HEV.out.yes (by omega) (by omega) (by omega) | exact HEV.out.no (by omega)) H_c1.out (by omega) | exact near_ge HF.out HE.out (by first | exact HEV.out.yes (by omega) (by omega) (by omega) | exact HEV.out.no (by omega)) H_c0.out (by omega) | exact near_ge HF.out HE.out (by first | exact HEV.out.yes (by omega) (by omega) (by omega) | exact HEV.out.no (by omega)) H_c1.out (by omega))⟩
        case measure => simp [intOf] <;> omega
       ·skip
        have hc246_d : decide ((c1 : Int) < 0) = false := decide_eq_false hc246
        have hc246_ : ((0 : Int) ≤ c1) := by omega
        clear c244
        have uc241 := c241; have uc242 := c242; have uc243 := c243
        simp only [At, Own, Nat.reduceAdd, and_true] at uc241 uc242 uc243
        go_wp2
        go_roundw
        case rel => exact ⟨(i + 1), D, (by first | rfl | exact congrArg (Value.int .i64) (by omega) | simp [*]), (by repeat (first | with_reducible exact c241 | refine Own.far _ _ (by simp <;> omega) ?_ | with_reducible refine Own.alloc ?_ _)), (by repeat (first | with_reducible exact c242 | refine Own.far _ _ (by simp <;> omega) ?_ | with_reducible refine Own.alloc ?_ _)), (by repeat (first | with_reducible exact c243 | refine Own.far _ _ (by simp <;> omega) ?_ | with_reducible refine Own.alloc ?_ _)), (by exact bB), (by omega), Lib.hid (hD.out.mono (by omega)), Lib.hid (by first | exact near_lt HF.out HE.out (by first | exact HEV.out.yes (by omega) (by omega) (by omega) | exact HEV.out.no (by omega)) H_c0.out (by omega) | exact near_lt HF.out HE.out (by first | exact HEV.out.yes (by omega) (by omega) (by omega) | exact HEV.out.no (by omega)) H_c1.out (by omega) | exact near_ge HF.out HE.out (by first | exact HEV.out.yes (by omega) (by omega) (by omega) | exact HEV.out.no (by omega)) H_c0.out (by omega) | exact near_ge HF.out HE.out (by first | exact HEV.out.yes (by omega) (by omega) (by omega) | exact HEV.out.no (by omega)) H_c1.out (by omega))⟩
        case measure => simp [intOf] <;> omega
      ·skip
       have hc192_d : decide ((tz : Int) < 0) = false := decide_eq_false hc192
       have hc192_ : ((0 : Int) ≤ tz) := by omega
       skip
       have K247 := Lib.hid (fun W => H_c0.out ▸ rcompare_any e0 D W (HZe0.out.mono (by omega)) (hD.out.mono (by omega)))
       go_wp2_with (fail)
       refine calls_named ?_
       intro W13 hW13
       have hL13 : Below w9.heap.size w9 W13 := by
        rw [hW13]
        exact bB
       have c248 := c184.up hL13
       have c249 := c185.up hL13
       have c250 := c186.up hL13
       have c251 := c188.up hL13
       have hB252 : Below w.heap.size w W13 := by
        rw [hW13]
        exact bB
       clear hW13 hL13 uc184 uc185 uc186 uc187 uc188 uc189 uc190 c184 c185 c186 c188
       with_reducible refine (K247.out _).mono ?_
       rintro e w13 ⟨rfl, hb13⟩
       have c253 := c248.up hb13
       have c254 := c249.up hb13
       have c255 := c250.up hb13
       have c256 := c251.up hb13
       have hB257 : Below w.heap.size w w13 := bel_up hB252 hb13
       clear c248 c249 c250 c251
       by_cases hc258 : (c0 : Int) < 0
       ·skip
        have hc258_d : decide ((c0 : Int) < 0) = true := decide_eq_true hc258
        have hc258_ : ¬ ((0 : Int) ≤ c0) := by omega
        have uc253 := c253; have uc254 := c254; have uc255 := c255; have uc256 := c256
        simp only [At, Own, Nat.reduceAdd, and_true] at uc253 uc254 uc255 uc256
        skip
        go_wp2
        go_roundw
        case rel => exact ⟨(i + 1), e0, (by first | rfl | exact congrArg (Value.int .i64) (by omega) | simp [*]), (by repeat (first | with_reducible exact c253 | refine Own.far _ _ (by simp <;> omega) ?_ | with_reducible refine Own.alloc ?_ _)), (by repeat (first | with_reducible exact c254 | refine Own.far _ _ (by simp <;> omega) ?_ | with_reducible refine Own.alloc ?_ _)), (by simp [Own, go_sem, uc253, uc254, uc255, uc256, ne21, ne21', ne22, ne22', ne23, ne23', ne48, ne48', ne49, ne49', ne50, ne50', ne51, ne51', ne52, ne52', ne53, ne53', nq45, nq45', ne69, ne69', ne70, ne70', ne71, ne71', ne72, ne72', ne73, ne73', ne156, ne156', ne157, ne157', ne158, ne158', ne159, ne159', ne160, ne160', ne161, ne161', ne162, ne162']), (by exact bB), (by omega), Lib.hid (HZe0.out.mono (by omega)), Lib.hid (by first | exact near_lt HF.out HE.out (by first | exact HEV.out.yes (by omega) (by omega) (by omega) | exact HEV.out.no (by omega)) H_c0.out (by omega) | exact near_lt HF.out HE.out (by first | exact HEV.out.yes (by omega) (by omega) (by omega) | exact HEV.out.no (by omega)) H_c1.out (by omega) | exact near_ge HF.out HE.out (by first | exact HEV.out.yes (by omega) (by omega) (by omega) | exact HEV.out.no (by omega)) H_c0.out (by omega) | exact near_ge HF.out HE.out (by first | exact HEV.out.yes (by omega) (by omega) (by omega) | exact HEV.out.no (by omega)) H_c1.out (by omega))⟩
        case measure => simp [intOf] <;> omega
       ·skip
        have hc258_d : decide ((c0 : Int) < 0) = false := decide_eq_false hc258
        have hc258_ : ((0 : Int) ≤ c0) := by omega
        clear c256
        have uc253 := c253; have uc254 := c254; have uc255 := c255
        simp only [At, Own, Nat.reduceAdd, and_true] at uc253 uc254 uc255
        go_wp2
        go_roundw
        case rel => exact ⟨(i + 1), D, (by first | rfl | exact congrArg (Value.int .i64) (by omega) | simp [*]), (by repeat (first | with_reducible exact c253 | refine Own.far _ _ (by simp <;> omega) ?_ | with_reducible refine Own.alloc ?_ _)), (by repeat (first | with_reducible exact c254 | refine Own.far _ _ (by simp <;> omega) ?_ | with_reducible refine Own.alloc ?_ _)), (by repeat (first | with_reducible exact c255 | refine Own.far _ _ (by simp <;> omega) ?_ | with_reducible refine Own.alloc ?_ _)), (by exact bB), (by omega), Lib.hid (hD.out.mono (by omega)), Lib.hid (by first | exact near_lt HF.out HE.out (by first | exact HEV.out.yes (by omega) (by omega) (by omega) | exact HEV.out.no (by omega)) H_c0.out (by omega) | exact near_lt HF.out HE.out (by first | exact HEV.out.yes (by omega) (by omega) (by omega) | exact HEV.out.no (by omega)) H_c1.out (by omega) | exact near_ge HF.out HE.out (by first | exact HEV.out.yes (by omega) (by omega) (by omega) | exact HEV.out.no (by omega)) H_c0.out (by omega) | exact near_ge HF.out HE.out (by first | exact HEV.out.yes (by omega) (by omega) (by omega) | exact HEV.out.no (by omega)) H_c1.out (by omega))⟩
        case measure => simp [intOf] <;> omega
     ·skip
      have hc172_d : decide ((0 : Int) < tt) = false := decide_eq_false hc172
      have hc172_ : ((tt : Int) ≤ 0) := by omega
      have K259 := Lib.hid (fun W => H_st.out ▸ rsign_any t W)
      go_wp2_with fail
      refine wp_named ?_
      intro W14 hW14
      have hL14 : Below wn_150.heap.size wn_150 W14 := by
       rw [hW14]
       exact bB
      have c260 := c163.up hL14
      have c261 := c164.up hL14
      have c262 := c165.up hL14
      have c263 := c166.up hL14
      have c264 := c167.up hL14
      have c265 := c168.up hL14
      have c266 := c155.up hL14
      have hB267 : Below w.heap.size w W14 := by
       rw [hW14]
       exact bB
      clear hW14 hL14 c163 c164 c165 c166 c167 c168 c155
      have dc260 := fun p : Bel W14 => c260.bel p; have dc261 := fun p : Bel W14 => c261.bel p; have dc262 := fun p : Bel W14 => c262.bel p; have dc263 := fun p : Bel W14 => c263.bel p; have dc264 := fun p : Bel W14 => c264.bel p; have dc265 := fun p : Bel W14 => c265.bel p; have dc266 := fun p : Bel W14 => c266.bel p
      simp only [At, Own, Nat.reduceAdd, and_true] at dc260 dc261 dc262 dc263 dc264 dc265 dc266
      refine wp_region_all (by kernel_rfl) (by kernel_rfl) ?_
      repeat (go_big_quiet_step (first | (go_at_call 76; with_reducible exact Calls.bel (K259.out _))))
      refine wpQuiet_nil ?_
      intro w14 hb14
      have c268 := c260.up hb14
      have c269 := c261.up hb14
      have c270 := c262.up hb14
      have c271 := c263.up hb14
      have c272 := c264.up hb14
      have c273 := c265.up hb14
      have c274 := c266.up hb14
      have hB275 : Below w.heap.size w w14 := bel_up hB267 hb14
      clear dc260 dc261 dc262 dc263 dc264 dc265 dc266 c260 c261 c262 c263 c264 c265 c266
      have uc268 := c268; have uc269 := c269; have uc270 := c270; have uc271 := c271; have uc272 := c272; have uc273 := c273; have uc274 := c274
      simp only [At, Own, Nat.reduceAdd, and_true] at uc268 uc269 uc270 uc271 uc272 uc273 uc274
      skip
      have K276 := Lib.hid (fun W => H_c0.out ▸ rcompare_any e0 D W (HZe0.out.mono (by omega)) (hD.out.mono (by omega)))
      go_wp2_with (fail)
      refine calls_named ?_
      intro W15 hW15
      have hL15 : Below w14.heap.size w14 W15 := by
       rw [hW15]
       exact bB
      have c277 := c268.up hL15
      have c278 := c269.up hL15
      have c279 := c270.up hL15
      have c280 := c272.up hL15
      have hB281 : Below w.heap.size w W15 := by
       rw [hW15]
       exact bB
      clear hW15 hL15 uc268 uc269 uc270 uc271 uc272 uc273 uc274 c268 c269 c270 c272
      with_reducible refine (K276.out _).mono ?_
      rintro e w15 ⟨rfl, hb15⟩
      have c282 := c277.up hb15
      have c283 := c278.up hb15
      have c284 := c279.up hb15
      have c285 := c280.up hb15
      have hB286 : Below w.heap.size w w15 := bel_up hB281 hb15
      clear c277 c278 c279 c280
      by_cases hc287 : (c0 : Int) < 0
      ·skip
       have hc287_d : decide ((c0 : Int) < 0) = true := decide_eq_true hc287
       have hc287_ : ¬ ((0 : Int) ≤ c0) := by omega
       have uc282 := c282; have uc283 := c283; have uc284 := c284; have uc285 := c285
       simp only [At, Own, Nat.reduceAdd, and_true] at uc282 uc283 uc284 uc285
       skip
       go_wp2
       go_roundw
       case rel => exact ⟨(i + 1), e0, (by first | rfl | exact congrArg (Value.int .i64) (by omega) | simp [*]), (by repeat (first | with_reducible exact c282 | refine Own.far _ _ (by simp <;> omega) ?_ | with_reducible refine Own.alloc ?_ _)), (by repeat (first | with_reducible exact c283 | refine Own.far _ _ (by simp <;> omega) ?_ | with_reducible refine Own.alloc ?_ _)), (by simp [Own, go_sem, uc282, uc283, uc284, uc285, ne21, ne21', ne22, ne22', ne23, ne23', ne48, ne48', ne49, ne49', ne50, ne50', ne51, ne51', ne52, ne52', ne53, ne53', nq45, nq45', ne69, ne69', ne70, ne70', ne71, ne71', ne72, ne72', ne73, ne73', ne156, ne156', ne157, ne157', ne158, ne158', ne159, ne159', ne160, ne160', ne161, ne161', ne162, ne162']), (by exact bB), (by omega), Lib.hid (HZe0.out.mono (by omega)), Lib.hid (by first | exact near_lt HF.out HE.out (by first | exact HEV.out.yes (by omega) (by omega) (by omega) | exact HEV.out.no (by omega)) H_c0.out (by omega) | exact near_lt HF.out HE.out (by first | exact HEV.out.yes (by omega) (by omega) (by omega) | exact HEV.out.no (by omega)) H_c1.out (by omega) | exact near_ge HF.out HE.out (by first | exact HEV.out.yes (by omega) (by omega) (by omega) | exact HEV.out.no (by omega)) H_c0.out (by omega) | exact near_ge HF.out HE.out (by first | exact HEV.out.yes (by omega) (by omega) (by omega) | exact HEV.out.no (by omega)) H_c1.out (by omega))⟩
       case measure => simp [intOf] <;> omega
      ·skip
       have hc287_d : decide ((c0 : Int) < 0) = false := decide_eq_false hc287
       have hc287_ : ((0 : Int) ≤ c0) := by omega
       clear c285
       have uc282 := c282; have uc283 := c283; have uc284 := c284
       simp only [At, Own, Nat.reduceAdd, and_true] at uc282 uc283 uc284
       go_wp2
       go_roundw
       case rel => exact ⟨(i + 1), D, (by first | rfl | exact congrArg (Value.int .i64) (by omega) | simp [*]), (by repeat (first | with_reducible exact c282 | refine Own.far _ _ (by simp <;> omega) ?_ | with_reducible refine Own.alloc ?_ _)), (by repeat (first | with_reducible exact c283 | refine Own.far _ _ (by simp <;> omega) ?_ | with_reducible refine Own.alloc ?_ _)), (by repeat (first | with_reducible exact c284 | refine Own.far _ _ (by simp <;> omega) ?_ | with_reducible refine Own.alloc ?_ _)), (by exact bB), (by omega), Lib.hid (hD.out.mono (by omega)), Lib.hid (by first | exact near_lt HF.out HE.out (by first | exact HEV.out.yes (by omega) (by omega) (by omega) | exact HEV.out.no (by omega)) H_c0.out (by omega) | exact near_lt HF.out HE.out (by first | exact HEV.out.yes (by omega) (by omega) (by omega) | exact HEV.out.no (by omega)) H_c1.out (by omega) | exact near_ge HF.out HE.out (by first | exact HEV.out.yes (by omega) (by omega) (by omega) | exact HEV.out.no (by omega)) H_c0.out (by omega) | exact near_ge HF.out HE.out (by first | exact HEV.out.yes (by omega) (by omega) (by omega) | exact HEV.out.no (by omega)) H_c1.out (by omega))⟩
       case measure => simp [intOf] <;> omega
    ·skip
     have hc141_d : decide ((0 : Int) < tn) = false := decide_eq_false hc141
     have hc141_ : ((tn : Int) ≤ 0) := by omega
     clear c136 c138 c139
     have uc133 := c133; have uc134 := c134; have uc135 := c135; have uc137 := c137
     simp only [At, Own, Nat.reduceAdd, and_true] at uc133 uc134 uc135 uc137
     have K288 := Lib.hid (fun W => H_c0.out ▸ rcompare_any e0 D W (HZe0.out.mono (by omega)) (hD.out.mono (by omega)))
     go_wp2_with (fail)
     refine calls_named ?_
     intro W16 hW16
     have hL16 : Below w7.heap.size w7 W16 := by
      rw [hW16]
      exact bB
     have c289 := c133.up hL16
     have c290 := c134.up hL16
     have c291 := c135.up hL16
     have c292 := c137.up hL16
     have hB293 : Below w.heap.size w W16 := by
      rw [hW16]
      exact bB
     clear hW16 hL16 uc133 uc134 uc135 uc137 c133 c134 c135 c137
     with_reducible refine (K288.out _).mono ?_
     rintro e w16 ⟨rfl, hb16⟩
     have c294 := c289.up hb16
     have c295 := c290.up hb16
     have c296 := c291.up hb16
     have c297 := c292.up hb16
     have hB298 : Below w.heap.size w w16 := bel_up hB293 hb16
     clear c289 c290 c291 c292
     by_cases hc299 : (c0 : Int) < 0
     ·skip
      have hc299_d : decide ((c0 : Int) < 0) = true := decide_eq_true hc299
      have hc299_ : ¬ ((0 : Int) ≤ c0) := by omega
      have uc294 := c294; have uc295 := c295; have uc296 := c296; have uc297 := c297
      simp only [At, Own, Nat.reduceAdd, and_true] at uc294 uc295 uc296 uc297
      skip
      go_wp2
      go_roundw
      case rel => exact ⟨(i + 1), e0, (by first | rfl | exact congrArg (Value.int .i64) (by omega) | simp [*]), (by repeat (first | with_reducible exact c294 | refine Own.far _ _ (by simp <;> omega) ?_ | with_reducible refine Own.alloc ?_ _)), (by repeat (first | with_reducible exact c295 | refine Own.far _ _ (by simp <;> omega) ?_ | with_reducible refine Own.alloc ?_ _)), (by simp [Own, go_sem, uc294, uc295, uc296, uc297, ne21, ne21', ne22, ne22', ne23, ne23', ne48, ne48', ne49, ne49', ne50, ne50', ne51, ne51', ne52, ne52', ne53, ne53', nq45, nq45', ne69, ne69', ne70, ne70', ne71, ne71', ne72, ne72', ne73, ne73']), (by exact bB), (by omega), Lib.hid (HZe0.out.mono (by omega)), Lib.hid (by first | exact near_lt HF.out HE.out (by first | exact HEV.out.yes (by omega) (by omega) (by omega) | exact HEV.out.no (by omega)) H_c0.out (by omega) | exact near_lt HF.out HE.out (by first | exact HEV.out.yes (by omega) (by omega) (by omega) | exact HEV.out.no (by omega)) H_c1.out (by omega) | exact near_ge HF.out HE.out (by first | exact HEV.out.yes (by omega) (by omega) (by omega) | exact HEV.out.no (by omega)) H_c0.out (by omega) | exact near_ge HF.out HE.out (by first | exact HEV.out.yes (by omega) (by omega) (by omega) | exact HEV.out.no (by omega)) H_c1.out (by omega))⟩
      case measure => simp [intOf] <;> omega
     ·skip
      have hc299_d : decide ((c0 : Int) < 0) = false := decide_eq_false hc299
      have hc299_ : ((0 : Int) ≤ c0) := by omega
      clear c297
      have uc294 := c294; have uc295 := c295; have uc296 := c296
      simp only [At, Own, Nat.reduceAdd, and_true] at uc294 uc295 uc296
      go_wp2
      go_roundw
      case rel => exact ⟨(i + 1), D, (by first | rfl | exact congrArg (Value.int .i64) (by omega) | simp [*]), (by repeat (first | with_reducible exact c294 | refine Own.far _ _ (by simp <;> omega) ?_ | with_reducible refine Own.alloc ?_ _)), (by repeat (first | with_reducible exact c295 | refine Own.far _ _ (by simp <;> omega) ?_ | with_reducible refine Own.alloc ?_ _)), (by repeat (first | with_reducible exact c296 | refine Own.far _ _ (by simp <;> omega) ?_ | with_reducible refine Own.alloc ?_ _)), (by exact bB), (by omega), Lib.hid (hD.out.mono (by omega)), Lib.hid (by first | exact near_lt HF.out HE.out (by first | exact HEV.out.yes (by omega) (by omega) (by omega) | exact HEV.out.no (by omega)) H_c0.out (by omega) | exact near_lt HF.out HE.out (by first | exact HEV.out.yes (by omega) (by omega) (by omega) | exact HEV.out.no (by omega)) H_c1.out (by omega) | exact near_ge HF.out HE.out (by first | exact HEV.out.yes (by omega) (by omega) (by omega) | exact HEV.out.no (by omega)) H_c0.out (by omega) | exact near_ge HF.out HE.out (by first | exact HEV.out.yes (by omega) (by omega) (by omega) | exact HEV.out.no (by omega)) H_c1.out (by omega))⟩
      case measure => simp [intOf] <;> omega
  ·skip
   have hkN : N = i := by omega
   subst hkN
   have ub27 := b27; have ub28 := b28; have ub29 := b29
   simp only [At, Own, Nat.reduceAdd, and_true] at ub27 ub28 ub29
   go_wp2
   refine bodyPost_ret (v := .agg #[.bool (ng D.num), .string (mg D.num.natAbs), .bool false, .string (mg (dn D))]) (by simp [results, Tryz.results46, go_sem, ub27, ub28, ub29]) rfl ⟨(by rw [HA.out, ← HE.out]), ?_⟩
   exact bB
theorem near_any (v : Value) (l : List (Rat × Rat)) (p : Rat × Rat) (w : World) (h : PV w v l) (hs : ∀ q ∈ l, Pl.SzP 1 q) (hn : l.length ≤ 1000000) (hp : Pl.SzP 1 p) (h0 : 0 < l.length) :
 Calls Tryz.prog 46 #[v, pv p] w fun e w' => e = .returned (qv (Pl.nearR l p)) ∧ Below w.heap.size w w' := by
 by_cases hl : Pl.locR l p < 0
 ·exact near_far v l p w h hs hn hp h0 hl
 ·exact near_in v l p w h hs hn hp hl
end Go.Proofs.YtdkkjfnpinckjaaGreatDoor
