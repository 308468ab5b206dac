/-
 The law: the way ahead along a road.
-/
import Derived.Test.YtldfencaoaikgaaGreatDoorTLfS
import Derived.Test.YtldfencaoaikgaaGreatDoorTNk
set_option maxRecDepth 100000
set_option linter.unusedSimpArgs false
set_option linter.unusedVariables false
namespace Go.Proofs.YtldfencaoaikgaaGreatDoor
open Go Go.RowKit Nw

/-- Rows of fractions. -/
def qc (q : Rat) : List Value := [.bool (ng q.num), .string (mg q.num.natAbs), .bool false, .string (mg (dn q))]
def qls (l : List Rat) : List Value := l.flatMap qc
def CQ (w : World) (g i : Nat) (x : Rat) : Prop := At w g i (qc x)
theorem CQ.bel {W : World} {g i : Nat} {x : Rat} (h : CQ W g i x) (b : Bel W) : CQ b.w1 g i x := At.up h b.h
theorem kpQ : Kp CQ := ⟨fun h hb => At.up h hb⟩
def QL (w : World) (v : Value) (l : List Rat) : Prop := Sl w v l.length 4 (qls l)
theorem QL.up {w w1 : World} {v : Value} {l : List Rat} (h : QL w v l) (hb : Below w.heap.size w w1) : QL w1 v l := Sl.up h hb
theorem QL.open_ {w : World} {v : Value} {l : List Rat} (h : QL w v l) : ∃ A c, v = .slice A l.length c ∧ l.length ≤ c ∧ c ≤ maxLen ∧ LX CQ 4 w A l :=
 sl_open qc 4 (fun _ => rfl) (fun _ _ _ x H => At.mk _ _ fun j u hj => H j u (by have := (List.getElem?_eq_some_iff.1 hj).1; simpa [qc] using this) hj) h
theorem ql_nil (w : World) : QL w (.slice none 0 0) [] := Sl.nil w 4
theorem qc_one (x : Rat) : ∀ u ∈ qc x, u.oneCell' = true := by
 intro u hu
 simp only [qc, List.mem_cons, List.not_mem_nil, or_false] at hu
 rcases hu with rfl | rfl | rfl | rfl <;> rfl
theorem ti_q : TI Tryz.prog 132 40 4 48 := ⟨Tryz.underlying132, by kernel_rfl, by decide⟩
theorem ql_own {w : World} {base n : Nat} {v : Value} {l : List Rat} (h : w.ownsRow base 40 4 v n (qls l)) : QL w v l := by
 have e : n = l.length := by have := h.1; rw [qls, flat_length qc 4 (fun _ => rfl)] at this; omega
 subst e
 exact Sl.of_own h
theorem ql_one (w : World) (x : Rat) : QL (w.alloc (.cells (qc x).toArray 40)) (.slice (some ⟨w.heap.size, 0, none⟩) 1 1) [x] := by
 have := World.ownsRow_lit (base := 0) (e := 40) (size := 4) w (qc x).toArray 1 (Nat.zero_le _) (by simp [maxLen]) (by simp [qc])
 exact ql_own (by simpa [qls] using this)

set_option maxHeartbeats 1000000 in
theorem loffs_oe (N : Net) (r0 x : Rd) (p : Pc) (v : Value) (w : World) (h : NV w v N) (g : Vld N) (hr : frd N.rs p.r = some r0) (hq : Pl.Sz 2000 p.q) (h1 : -1073741824 ≤ x.l) (h2 : x.l ≤ 1073741824) (hk : latE r0 p.q = 0) (hx : p.r = x.i) :
 Calls Tryz.prog 81 #[v, .agg #[.int .i64 p.r, .bool (ng p.q.num), .string (mg p.q.num.natAbs), .bool false, .string (mg (dn p.q))], .agg #[.int .i64 x.i, .int .i64 x.f, .int .i64 x.t, .int .i64 x.l, .int .i64 x.m, .bool x.o]] w fun e w' => ∃ v', e = .returned v' ∧ QL w' v' ([p.q]) ∧ Below w.heap.size w w' := by
 have HR := Lib.hid hr
 have HK := Lib.hid hk
 obtain ⟨lq, hlq⟩ : ∃ q : Rat, q = (x.l : Rat) := ⟨_, rfl⟩
 have ZLQ : Pl.Sz 4 lq := by rw [hlq]; exact sz_small (by omega) (by omega)
 have HLQ := Lib.hid hlq
 clear hr hk hlq
 have hx_ : (((p.r : Int)) == x.i) = true := by simpa using hx
 have hx2 := Lib.hid hx
 clear hx
 obtain ⟨_, _, rfl, hn, hr⟩ := h
 obtain ⟨An, cn, rfl, hcn, hmn, hxn⟩ := hn.open_
 obtain ⟨Ar, cr, rfl, hcr, hmr, hxr⟩ := hr.open_
 have HNV : Hid (NV w (.agg #[.slice An N.ns.length cn, .slice Ar N.rs.length cr]) N) := Lib.hid ⟨_, _, rfl, hn, hr⟩
 have HXN := Lib.hid hxn
 have HXR := Lib.hid hxr
 have HG := Lib.hid g
 have hln := g.ln
 have hlr := g.lr
 generalize hNn : N.ns.length = Nn at *
 generalize hNr : N.rs.length = Nr at *
 have HNn := Lib.hid hNn
 have HNr := Lib.hid hNr
 clear hn hr hxn hxr g hNn hNr
 go_enter Tryz.func81, Tryz.ntmps81
 have K1 := Lib.hid (fun W (hv : NV W (.agg #[.slice An Nn cn, .slice Ar Nr cr]) N) => lnodeat_any N r0 p 0 _ W hv HG.out HR.out hq HK.out)
 go_wp2_with (fail)
 refine calls_named ?_
 intro W1 hW1
 have hL1 : Below w.heap.size w W1 := by
  rw [hW1]
  exact bB7
 have c2 : Own W1 (w.heap.size) 0 [.slice An Nn cn, .slice Ar Nr cr] := by
  rw [hW1]
  first
  | (repeat (first | (with_reducible refine own_new (l := [.slice An Nn cn, .slice Ar Nr cr]) ?_; (simp; done)) | with_reducible refine Own.alloc ?_ _ | refine Own.far _ _ (by first | (simp; done) | (simp [*]; done) | (simp; omega)) ?_)); done
  | simp [Own, go_sem]
 have c3 : Own W1 (w.heap.size + 1) 0 [.int .i64 p.r, .bool (ng p.q.num), .string (mg p.q.num.natAbs), .bool false, .string (mg (dn p.q))] := by
  rw [hW1]
  first
  | (repeat (first | (with_reducible refine own_new (l := [.int .i64 p.r, .bool (ng p.q.num), .string (mg p.q.num.natAbs), .bool false, .string (mg (dn p.q))]) ?_; (simp; done)) | with_reducible refine Own.alloc ?_ _ | refine Own.far _ _ (by first | (simp; done) | (simp [*]; done) | (simp; omega)) ?_)); done
  | simp [Own, go_sem]
 have c4 : Own W1 (w.heap.size + 2) 0 [.int .i64 x.i, .int .i64 x.f, .int .i64 x.t, .int .i64 x.l, .int .i64 x.m, .bool x.o] := by
  rw [hW1]
  first
  | (repeat (first | (with_reducible refine own_new (l := [.int .i64 x.i, .int .i64 x.f, .int .i64 x.t, .int .i64 x.l, .int .i64 x.m, .bool x.o]) ?_; (simp; done)) | with_reducible refine Own.alloc ?_ _ | refine Own.far _ _ (by first | (simp; done) | (simp [*]; done) | (simp; omega)) ?_)); done
  | simp [Own, go_sem]
 have hB5 : Below w.heap.size w W1 := by
  rw [hW1]
  exact bB7
 clear hW1 hL1
 with_reducible refine (K1.out _ (HNV.out.up hB5)).mono ?_
 rintro e w1 ⟨rfl, hb1⟩
 have c6 := c2.up hb1
 have c7 := c3.up hb1
 have c8 := c4.up hb1
 have hB9 : Below w.heap.size w w1 := bel_up hB5 hb1
 clear c2 c3 c4
 have uc6 := c6; have uc7 := c7; have uc8 := c8
 simp only [At, Own, Nat.reduceAdd, and_true] at uc6 uc7 uc8
 go_wp2
 go_ret
 exact ⟨_, rfl, (by skip; exact ql_one _ p.q), (by exact bB7)⟩

set_option maxHeartbeats 1000000 in
theorem loffs_on (N : Net) (r0 x : Rd) (p : Pc) (v : Value) (w : World) (h : NV w v N) (g : Vld N) (hr : frd N.rs p.r = some r0) (hq : Pl.Sz 2000 p.q) (h1 : -1073741824 ≤ x.l) (h2 : x.l ≤ 1073741824) (hk : latE r0 p.q = 0) (hx : ¬ p.r = x.i) :
 Calls Tryz.prog 81 #[v, .agg #[.int .i64 p.r, .bool (ng p.q.num), .string (mg p.q.num.natAbs), .bool false, .string (mg (dn p.q))], .agg #[.int .i64 x.i, .int .i64 x.f, .int .i64 x.t, .int .i64 x.l, .int .i64 x.m, .bool x.o]] w fun e w' => ∃ v', e = .returned v' ∧ QL w' v' ([]) ∧ Below w.heap.size w w' := by
 have HR := Lib.hid hr
 have HK := Lib.hid hk
 obtain ⟨lq, hlq⟩ : ∃ q : Rat, q = (x.l : Rat) := ⟨_, rfl⟩
 have ZLQ : Pl.Sz 4 lq := by rw [hlq]; exact sz_small (by omega) (by omega)
 have HLQ := Lib.hid hlq
 clear hr hk hlq
 have hx_ : (((p.r : Int)) == x.i) = false := by simpa using hx
 obtain ⟨_, _, rfl, hn, hr⟩ := h
 obtain ⟨An, cn, rfl, hcn, hmn, hxn⟩ := hn.open_
 obtain ⟨Ar, cr, rfl, hcr, hmr, hxr⟩ := hr.open_
 have HNV : Hid (NV w (.agg #[.slice An N.ns.length cn, .slice Ar N.rs.length cr]) N) := Lib.hid ⟨_, _, rfl, hn, hr⟩
 have HXN := Lib.hid hxn
 have HXR := Lib.hid hxr
 have HG := Lib.hid g
 have hln := g.ln
 have hlr := g.lr
 generalize hNn : N.ns.length = Nn at *
 generalize hNr : N.rs.length = Nr at *
 have HNn := Lib.hid hNn
 have HNr := Lib.hid hNr
 clear hn hr hxn hxr g hNn hNr
 go_enter Tryz.func81, Tryz.ntmps81
 have K1 := Lib.hid (fun W (hv : NV W (.agg #[.slice An Nn cn, .slice Ar Nr cr]) N) => lnodeat_any N r0 p 0 _ W hv HG.out HR.out hq HK.out)
 go_wp2_with (fail)
 refine calls_named ?_
 intro W1 hW1
 have hL1 : Below w.heap.size w W1 := by
  rw [hW1]
  exact bB7
 have c2 : Own W1 (w.heap.size) 0 [.slice An Nn cn, .slice Ar Nr cr] := by
  rw [hW1]
  first
  | (repeat (first | (with_reducible refine own_new (l := [.slice An Nn cn, .slice Ar Nr cr]) ?_; (simp; done)) | with_reducible refine Own.alloc ?_ _ | refine Own.far _ _ (by first | (simp; done) | (simp [*]; done) | (simp; omega)) ?_)); done
  | simp [Own, go_sem]
 have c3 : Own W1 (w.heap.size + 1) 0 [.int .i64 p.r, .bool (ng p.q.num), .string (mg p.q.num.natAbs), .bool false, .string (mg (dn p.q))] := by
  rw [hW1]
  first
  | (repeat (first | (with_reducible refine own_new (l := [.int .i64 p.r, .bool (ng p.q.num), .string (mg p.q.num.natAbs), .bool false, .string (mg (dn p.q))]) ?_; (simp; done)) | with_reducible refine Own.alloc ?_ _ | refine Own.far _ _ (by first | (simp; done) | (simp [*]; done) | (simp; omega)) ?_)); done
  | simp [Own, go_sem]
 have c4 : Own W1 (w.heap.size + 2) 0 [.int .i64 x.i, .int .i64 x.f, .int .i64 x.t, .int .i64 x.l, .int .i64 x.m, .bool x.o] := by
  rw [hW1]
  first
  | (repeat (first | (with_reducible refine own_new (l := [.int .i64 x.i, .int .i64 x.f, .int .i64 x.t, .int .i64 x.l, .int .i64 x.m, .bool x.o]) ?_; (simp; done)) | with_reducible refine Own.alloc ?_ _ | refine Own.far _ _ (by first | (simp; done) | (simp [*]; done) | (simp; omega)) ?_)); done
  | simp [Own, go_sem]
 have hB5 : Below w.heap.size w W1 := by
  rw [hW1]
  exact bB7
 clear hW1 hL1
 with_reducible refine (K1.out _ (HNV.out.up hB5)).mono ?_
 rintro e w1 ⟨rfl, hb1⟩
 have c6 := c2.up hb1
 have c7 := c3.up hb1
 have c8 := c4.up hb1
 have hB9 : Below w.heap.size w w1 := bel_up hB5 hb1
 clear c2 c3 c4
 have uc6 := c6; have uc7 := c7; have uc8 := c8
 simp only [At, Own, Nat.reduceAdd, and_true] at uc6 uc7 uc8
 go_wp2
 go_ret
 exact ⟨_, rfl, (by skip; exact ql_nil _), (by exact bB7)⟩

set_option maxHeartbeats 1000000 in
theorem loffs_nf (N : Net) (r0 x : Rd) (p : Pc) (k : Int) (v : Value) (w : World) (h : NV w v N) (g : Vld N) (hr : frd N.rs p.r = some r0) (hq : Pl.Sz 2000 p.q) (h1 : -1073741824 ≤ x.l) (h2 : x.l ≤ 1073741824) (hk : latE r0 p.q = k) (hk1 : 1 ≤ k) (hf : x.f = k) (ht : ¬ x.t = k) :
 Calls Tryz.prog 81 #[v, .agg #[.int .i64 p.r, .bool (ng p.q.num), .string (mg p.q.num.natAbs), .bool false, .string (mg (dn p.q))], .agg #[.int .i64 x.i, .int .i64 x.f, .int .i64 x.t, .int .i64 x.l, .int .i64 x.m, .bool x.o]] w fun e w' => ∃ v', e = .returned v' ∧ QL w' v' ([(0 : Rat)]) ∧ Below w.heap.size w w' := by
 have HR := Lib.hid hr
 have HK := Lib.hid hk
 obtain ⟨lq, hlq⟩ : ∃ q : Rat, q = (x.l : Rat) := ⟨_, rfl⟩
 have ZLQ : Pl.Sz 4 lq := by rw [hlq]; exact sz_small (by omega) (by omega)
 have HLQ := Lib.hid hlq
 clear hr hk hlq
 have hk0 : ¬ (k : Int) = 0 := by omega
 have hk0_ : (((k : Int)) == 0) = false := by simpa using hk0
 have hk2 : (0 : Int) < k := by omega
 have hk2_ : ¬ (k : Int) ≤ 0 := by omega
 have hf_ : (((x.f : Int)) == k) = true := by simpa using hf
 have hf2 := Lib.hid hf
 clear hf
 have ht_ : (((x.t : Int)) == k) = false := by simpa using ht
 obtain ⟨_, _, rfl, hn, hr⟩ := h
 obtain ⟨An, cn, rfl, hcn, hmn, hxn⟩ := hn.open_
 obtain ⟨Ar, cr, rfl, hcr, hmr, hxr⟩ := hr.open_
 have HNV : Hid (NV w (.agg #[.slice An N.ns.length cn, .slice Ar N.rs.length cr]) N) := Lib.hid ⟨_, _, rfl, hn, hr⟩
 have HXN := Lib.hid hxn
 have HXR := Lib.hid hxr
 have HG := Lib.hid g
 have hln := g.ln
 have hlr := g.lr
 generalize hNn : N.ns.length = Nn at *
 generalize hNr : N.rs.length = Nr at *
 have HNn := Lib.hid hNn
 have HNr := Lib.hid hNr
 clear hn hr hxn hxr g hNn hNr
 go_enter Tryz.func81, Tryz.ntmps81
 have K1 := Lib.hid (fun W (hv : NV W (.agg #[.slice An Nn cn, .slice Ar Nr cr]) N) => lnodeat_any N r0 p k _ W hv HG.out HR.out hq HK.out)
 go_wp2_with (fail)
 refine calls_named ?_
 intro W1 hW1
 have hL1 : Below w.heap.size w W1 := by
  rw [hW1]
  exact bB7
 have c2 : Own W1 (w.heap.size) 0 [.slice An Nn cn, .slice Ar Nr cr] := by
  rw [hW1]
  first
  | (repeat (first | (with_reducible refine own_new (l := [.slice An Nn cn, .slice Ar Nr cr]) ?_; (simp; done)) | with_reducible refine Own.alloc ?_ _ | refine Own.far _ _ (by first | (simp; done) | (simp [*]; done) | (simp; omega)) ?_)); done
  | simp [Own, go_sem]
 have c3 : Own W1 (w.heap.size + 1) 0 [.int .i64 p.r, .bool (ng p.q.num), .string (mg p.q.num.natAbs), .bool false, .string (mg (dn p.q))] := by
  rw [hW1]
  first
  | (repeat (first | (with_reducible refine own_new (l := [.int .i64 p.r, .bool (ng p.q.num), .string (mg p.q.num.natAbs), .bool false, .string (mg (dn p.q))]) ?_; (simp; done)) | with_reducible refine Own.alloc ?_ _ | refine Own.far _ _ (by first | (simp; done) | (simp [*]; done) | (simp; omega)) ?_)); done
  | simp [Own, go_sem]
 have c4 : Own W1 (w.heap.size + 2) 0 [.int .i64 x.i, .int .i64 x.f, .int .i64 x.t, .int .i64 x.l, .int .i64 x.m, .bool x.o] := by
  rw [hW1]
  first
  | (repeat (first | (with_reducible refine own_new (l := [.int .i64 x.i, .int .i64 x.f, .int .i64 x.t, .int .i64 x.l, .int .i64 x.m, .bool x.o]) ?_; (simp; done)) | with_reducible refine Own.alloc ?_ _ | refine Own.far _ _ (by first | (simp; done) | (simp [*]; done) | (simp; omega)) ?_)); done
  | simp [Own, go_sem]
 have hB5 : Below w.heap.size w W1 := by
  rw [hW1]
  exact bB7
 clear hW1 hL1
 with_reducible refine (K1.out _ (HNV.out.up hB5)).mono ?_
 rintro e w1 ⟨rfl, hb1⟩
 have c6 := c2.up hb1
 have c7 := c3.up hb1
 have c8 := c4.up hb1
 have hB9 : Below w.heap.size w w1 := bel_up hB5 hb1
 clear c2 c3 c4
 have uc6 := c6; have uc7 := c7; have uc8 := c8
 simp only [At, Own, Nat.reduceAdd, and_true] at uc6 uc7 uc8
 go_wp2_with (at_builtin; refine wpList_appF rfl _ _ _ rfl ti_q (World.ownsRow_nil _ w.heap.size _ _) (hB9).size rfl rfl rfl rfl (qc_one (0 : Rat)) (by omega) (by decide) ?_)
 intro v10 w_v10 hown_v10 hst_v10
 have O12 : Hid (w_v10.ownsRow w.heap.size 40 4 v10 (0 + 1) (qls [(0 : Rat)])) := Lib.hid (by first | exact hown_v10 | simpa [qls] using hown_v10)
 have c13 := Own.step hst_v10 (by simp [Value.ownBlock]) c6
 have f14 := hst_v10.far _ c6.lt (by simp [Value.ownBlock])
 have c15 := Own.step hst_v10 (by simp [Value.ownBlock]) c7
 have f16 := hst_v10.far _ c7.lt (by simp [Value.ownBlock])
 have c17 := Own.step hst_v10 (by simp [Value.ownBlock]) c8
 have f18 := hst_v10.far _ c8.lt (by simp [Value.ownBlock])
 have hB19 : Below w.heap.size w w_v10 := hst_v10.below hB9 (hB9).size (fun r hr => by simp [Value.ownBlock] at hr)
 clear uc6 uc7 uc8 hown_v10 c6 c7 c8
 have uc13 := c13; have uc15 := c15; have uc17 := c17
 simp only [At, Own, Nat.reduceAdd, and_true] at uc13 uc15 uc17
 go_wp2
 go_ret
 exact ⟨_, rfl, (by skip; exact ql_own O12.out), (by exact bB7)⟩

set_option maxHeartbeats 1000000 in
theorem loffs_nt (N : Net) (r0 x : Rd) (p : Pc) (k : Int) (lq : Rat) (v : Value) (w : World) (h : NV w v N) (g : Vld N) (hr : frd N.rs p.r = some r0) (hq : Pl.Sz 2000 p.q) (h1 : -1073741824 ≤ x.l) (h2 : x.l ≤ 1073741824) (hk : latE r0 p.q = k) (hk1 : 1 ≤ k) (hf : ¬ x.f = k) (ht : x.t = k) (hlq : lq = (x.l : Rat)) :
 Calls Tryz.prog 81 #[v, .agg #[.int .i64 p.r, .bool (ng p.q.num), .string (mg p.q.num.natAbs), .bool false, .string (mg (dn p.q))], .agg #[.int .i64 x.i, .int .i64 x.f, .int .i64 x.t, .int .i64 x.l, .int .i64 x.m, .bool x.o]] w fun e w' => ∃ v', e = .returned v' ∧ QL w' v' ([lq]) ∧ Below w.heap.size w w' := by
 have HR := Lib.hid hr
 have HK := Lib.hid hk
 have ZLQ : Pl.Sz 4 lq := by rw [hlq]; exact sz_small (by omega) (by omega)
 have HLQ := Lib.hid hlq
 clear hr hk hlq
 have hk0 : ¬ (k : Int) = 0 := by omega
 have hk0_ : (((k : Int)) == 0) = false := by simpa using hk0
 have hk2 : (0 : Int) < k := by omega
 have hk2_ : ¬ (k : Int) ≤ 0 := by omega
 have hf_ : (((x.f : Int)) == k) = false := by simpa using hf
 have ht_ : (((x.t : Int)) == k) = true := by simpa using ht
 have ht2 := Lib.hid ht
 clear ht
 obtain ⟨_, _, rfl, hn, hr⟩ := h
 obtain ⟨An, cn, rfl, hcn, hmn, hxn⟩ := hn.open_
 obtain ⟨Ar, cr, rfl, hcr, hmr, hxr⟩ := hr.open_
 have HNV : Hid (NV w (.agg #[.slice An N.ns.length cn, .slice Ar N.rs.length cr]) N) := Lib.hid ⟨_, _, rfl, hn, hr⟩
 have HXN := Lib.hid hxn
 have HXR := Lib.hid hxr
 have HG := Lib.hid g
 have hln := g.ln
 have hlr := g.lr
 generalize hNn : N.ns.length = Nn at *
 generalize hNr : N.rs.length = Nr at *
 have HNn := Lib.hid hNn
 have HNr := Lib.hid hNr
 clear hn hr hxn hxr g hNn hNr
 go_enter Tryz.func81, Tryz.ntmps81
 have K1 := Lib.hid (fun W (hv : NV W (.agg #[.slice An Nn cn, .slice Ar Nr cr]) N) => lnodeat_any N r0 p k _ W hv HG.out HR.out hq HK.out)
 go_wp2_with (fail)
 refine calls_named ?_
 intro W1 hW1
 have hL1 : Below w.heap.size w W1 := by
  rw [hW1]
  exact bB7
 have c2 : Own W1 (w.heap.size) 0 [.slice An Nn cn, .slice Ar Nr cr] := by
  rw [hW1]
  first
  | (repeat (first | (with_reducible refine own_new (l := [.slice An Nn cn, .slice Ar Nr cr]) ?_; (simp; done)) | with_reducible refine Own.alloc ?_ _ | refine Own.far _ _ (by first | (simp; done) | (simp [*]; done) | (simp; omega)) ?_)); done
  | simp [Own, go_sem]
 have c3 : Own W1 (w.heap.size + 1) 0 [.int .i64 p.r, .bool (ng p.q.num), .string (mg p.q.num.natAbs), .bool false, .string (mg (dn p.q))] := by
  rw [hW1]
  first
  | (repeat (first | (with_reducible refine own_new (l := [.int .i64 p.r, .bool (ng p.q.num), .string (mg p.q.num.natAbs), .bool false, .string (mg (dn p.q))]) ?_; (simp; done)) | with_reducible refine Own.alloc ?_ _ | refine Own.far _ _ (by first | (simp; done) | (simp [*]; done) | (simp; omega)) ?_)); done
  | simp [Own, go_sem]
 have c4 : Own W1 (w.heap.size + 2) 0 [.int .i64 x.i, .int .i64 x.f, .int .i64 x.t, .int .i64 x.l, .int .i64 x.m, .bool x.o] := by
  rw [hW1]
  first
  | (repeat (first | (with_reducible refine own_new (l := [.int .i64 x.i, .int .i64 x.f, .int .i64 x.t, .int .i64 x.l, .int .i64 x.m, .bool x.o]) ?_; (simp; done)) | with_reducible refine Own.alloc ?_ _ | refine Own.far _ _ (by first | (simp; done) | (simp [*]; done) | (simp; omega)) ?_)); done
  | simp [Own, go_sem]
 have hB5 : Below w.heap.size w W1 := by
  rw [hW1]
  exact bB7
 clear hW1 hL1
 with_reducible refine (K1.out _ (HNV.out.up hB5)).mono ?_
 rintro e w1 ⟨rfl, hb1⟩
 have c6 := c2.up hb1
 have c7 := c3.up hb1
 have c8 := c4.up hb1
 have hB9 : Below w.heap.size w w1 := bel_up hB5 hb1
 clear c2 c3 c4
 have uc6 := c6; have uc7 := c7; have uc8 := c8
 simp only [At, Own, Nat.reduceAdd, and_true] at uc6 uc7 uc8
 have K10 := Lib.hid (fun W => qfi_any x.l lq W HLQ.out (by omega) (by omega))
 go_wp2_with (fail)
 refine calls_named ?_
 intro W2 hW2
 have hL2 : Below w1.heap.size w1 W2 := by
  rw [hW2]
  exact bB7
 have c11 := c6.up hL2
 have c12 := c7.up hL2
 have c13 := c8.up hL2
 have hB14 : Below w.heap.size w W2 := by
  rw [hW2]
  exact bB7
 clear hW2 hL2 uc6 uc7 uc8 c6 c7 c8
 with_reducible refine (K10.out _).mono ?_
 rintro e w2 ⟨rfl, hb2⟩
 have c15 := c11.up hb2
 have c16 := c12.up hb2
 have c17 := c13.up hb2
 have hB18 : Below w.heap.size w w2 := bel_up hB14 hb2
 clear c11 c12 c13
 have uc15 := c15; have uc16 := c16; have uc17 := c17
 simp only [At, Own, Nat.reduceAdd, and_true] at uc15 uc16 uc17
 go_wp2_with (at_builtin; refine wpList_appF rfl _ _ _ rfl ti_q (World.ownsRow_nil _ w.heap.size _ _) (hB18).size rfl rfl rfl rfl (qc_one lq) (by omega) (by decide) ?_)
 intro v19 w_v19 hown_v19 hst_v19
 have O21 : Hid (w_v19.ownsRow w.heap.size 40 4 v19 (0 + 1) (qls [lq])) := Lib.hid (by first | exact hown_v19 | simpa [qls] using hown_v19)
 have c22 := Own.step hst_v19 (by simp [Value.ownBlock]) c15
 have f23 := hst_v19.far _ c15.lt (by simp [Value.ownBlock])
 have c24 := Own.step hst_v19 (by simp [Value.ownBlock]) c16
 have f25 := hst_v19.far _ c16.lt (by simp [Value.ownBlock])
 have c26 := Own.step hst_v19 (by simp [Value.ownBlock]) c17
 have f27 := hst_v19.far _ c17.lt (by simp [Value.ownBlock])
 have hB28 : Below w.heap.size w w_v19 := hst_v19.below hB18 (hB18).size (fun r hr => by simp [Value.ownBlock] at hr)
 clear uc15 uc16 uc17 hown_v19 c15 c16 c17
 have uc22 := c22; have uc24 := c24; have uc26 := c26
 simp only [At, Own, Nat.reduceAdd, and_true] at uc22 uc24 uc26
 go_wp2
 go_ret
 exact ⟨_, rfl, (by skip; exact ql_own O21.out), (by exact bB7)⟩

set_option maxHeartbeats 1000000 in
theorem loffs_nn (N : Net) (r0 x : Rd) (p : Pc) (k : Int) (v : Value) (w : World) (h : NV w v N) (g : Vld N) (hr : frd N.rs p.r = some r0) (hq : Pl.Sz 2000 p.q) (h1 : -1073741824 ≤ x.l) (h2 : x.l ≤ 1073741824) (hk : latE r0 p.q = k) (hk1 : 1 ≤ k) (hf : ¬ x.f = k) (ht : ¬ x.t = k) :
 Calls Tryz.prog 81 #[v, .agg #[.int .i64 p.r, .bool (ng p.q.num), .string (mg p.q.num.natAbs), .bool false, .string (mg (dn p.q))], .agg #[.int .i64 x.i, .int .i64 x.f, .int .i64 x.t, .int .i64 x.l, .int .i64 x.m, .bool x.o]] w fun e w' => ∃ v', e = .returned v' ∧ QL w' v' ([]) ∧ Below w.heap.size w w' := by
 have HR := Lib.hid hr
 have HK := Lib.hid hk
 obtain ⟨lq, hlq⟩ : ∃ q : Rat, q = (x.l : Rat) := ⟨_, rfl⟩
 have ZLQ : Pl.Sz 4 lq := by rw [hlq]; exact sz_small (by omega) (by omega)
 have HLQ := Lib.hid hlq
 clear hr hk hlq
 have hk0 : ¬ (k : Int) = 0 := by omega
 have hk0_ : (((k : Int)) == 0) = false := by simpa using hk0
 have hk2 : (0 : Int) < k := by omega
 have hk2_ : ¬ (k : Int) ≤ 0 := by omega
 have hf_ : (((x.f : Int)) == k) = false := by simpa using hf
 have ht_ : (((x.t : Int)) == k) = false := by simpa using ht
 obtain ⟨_, _, rfl, hn, hr⟩ := h
 obtain ⟨An, cn, rfl, hcn, hmn, hxn⟩ := hn.open_
 obtain ⟨Ar, cr, rfl, hcr, hmr, hxr⟩ := hr.open_
 have HNV : Hid (NV w (.agg #[.slice An N.ns.length cn, .slice Ar N.rs.length cr]) N) := Lib.hid ⟨_, _, rfl, hn, hr⟩
 have HXN := Lib.hid hxn
 have HXR := Lib.hid hxr
 have HG := Lib.hid g
 have hln := g.ln
 have hlr := g.lr
 generalize hNn : N.ns.length = Nn at *
 generalize hNr : N.rs.length = Nr at *
 have HNn := Lib.hid hNn
 have HNr := Lib.hid hNr
 clear hn hr hxn hxr g hNn hNr
 go_enter Tryz.func81, Tryz.ntmps81
 have K1 := Lib.hid (fun W (hv : NV W (.agg #[.slice An Nn cn, .slice Ar Nr cr]) N) => lnodeat_any N r0 p k _ W hv HG.out HR.out hq HK.out)
 go_wp2_with (fail)
 refine calls_named ?_
 intro W1 hW1
 have hL1 : Below w.heap.size w W1 := by
  rw [hW1]
  exact bB7
 have c2 : Own W1 (w.heap.size) 0 [.slice An Nn cn, .slice Ar Nr cr] := by
  rw [hW1]
  first
  | (repeat (first | (with_reducible refine own_new (l := [.slice An Nn cn, .slice Ar Nr cr]) ?_; (simp; done)) | with_reducible refine Own.alloc ?_ _ | refine Own.far _ _ (by first | (simp; done) | (simp [*]; done) | (simp; omega)) ?_)); done
  | simp [Own, go_sem]
 have c3 : Own W1 (w.heap.size + 1) 0 [.int .i64 p.r, .bool (ng p.q.num), .string (mg p.q.num.natAbs), .bool false, .string (mg (dn p.q))] := by
  rw [hW1]
  first
  | (repeat (first | (with_reducible refine own_new (l := [.int .i64 p.r, .bool (ng p.q.num), .string (mg p.q.num.natAbs), .bool false, .string (mg (dn p.q))]) ?_; (simp; done)) | with_reducible refine Own.alloc ?_ _ | refine Own.far _ _ (by first | (simp; done) | (simp [*]; done) | (simp; omega)) ?_)); done
  | simp [Own, go_sem]
 have c4 : Own W1 (w.heap.size + 2) 0 [.int .i64 x.i, .int .i64 x.f, .int .i64 x.t, .int .i64 x.l, .int .i64 x.m, .bool x.o] := by
  rw [hW1]
  first
  | (repeat (first | (with_reducible refine own_new (l := [.int .i64 x.i, .int .i64 x.f, .int .i64 x.t, .int .i64 x.l, .int .i64 x.m, .bool x.o]) ?_; (simp; done)) | with_reducible refine Own.alloc ?_ _ | refine Own.far _ _ (by first | (simp; done) | (simp [*]; done) | (simp; omega)) ?_)); done
  | simp [Own, go_sem]
 have hB5 : Below w.heap.size w W1 := by
  rw [hW1]
  exact bB7
 clear hW1 hL1
 with_reducible refine (K1.out _ (HNV.out.up hB5)).mono ?_
 rintro e w1 ⟨rfl, hb1⟩
 have c6 := c2.up hb1
 have c7 := c3.up hb1
 have c8 := c4.up hb1
 have hB9 : Below w.heap.size w w1 := bel_up hB5 hb1
 clear c2 c3 c4
 have uc6 := c6; have uc7 := c7; have uc8 := c8
 simp only [At, Own, Nat.reduceAdd, and_true] at uc6 uc7 uc8
 go_wp2
 go_ret
 exact ⟨_, rfl, (by skip; exact ql_nil _), (by exact bB7)⟩

theorem offs_none {x r0 : Rd} {q : Rat} (h : atR r0 q = none) (hi : ¬ r0.i = x.i) : offsE x r0 q = none := by unfold offsE; rw [if_neg hi, h]
theorem offs_self {x r0 : Rd} {q : Rat} (hi : r0.i = x.i) : offsE x r0 q = some q := by unfold offsE; rw [if_pos hi]
theorem offs_at {N : Net} (g : Vld N) {x r0 : Rd} (hx : x ∈ N.rs) (h0 : r0 ∈ N.rs) {q : Rat} {k : Int} (h : atR r0 q = some k) : offsE x r0 q = if offTo x k then some (offE x k) else none := by
 unfold offsE
 by_cases hi : r0.i = x.i
 ·have e : r0 = x := by
   have e1 := frd_in g.sr h0
   rw [hi, frd_in g.sr hx] at e1
   injection e1 with e1; exact e1.symm
  subst e
  rw [if_pos rfl, if_pos (atR_some h).1, (atR_some h).2]
 ·rw [if_neg hi, h]
theorem loffs_l (N : Net) (r0 x : Rd) (p : Pc) (l : List Rat) (v : Value) (w : World) (h : NV w v N) (g : Vld N) (hat : Nw.At N r0 p) (hq : Pl.Sz 2000 p.q) (hx : x ∈ N.rs) (hl : (offsE x r0 p.q).toList = l) :
 Calls Tryz.prog 81 #[v, .agg #[.int .i64 p.r, .bool (ng p.q.num), .string (mg p.q.num.natAbs), .bool false, .string (mg (dn p.q))], .agg #[.int .i64 x.i, .int .i64 x.f, .int .i64 x.t, .int .i64 x.l, .int .i64 x.m, .bool x.o]] w fun e w' => ∃ v', e = .returned v' ∧ QL w' v' (l) ∧ Below w.heap.size w w' := by
 subst hl
 have h0 := (frd_of hat.f).1
 have hi := (frd_of hat.f).2
 have hok := g.or x hx
 have b1 : -1073741824 ≤ x.l := by have := hok.2.2.1; omega
 have b2 := hok.2.2.2.1
 rcases lat_pos g hat with ⟨h1, h2⟩ | ⟨n, h1, h2, h3⟩
 ·by_cases hxi : p.r = x.i
  ·rw [offs_self (hi.trans hxi)]
   exact loffs_oe N r0 x p v w h g hat.f hq b1 b2 h2 hxi
  ·rw [offs_none h1 (by rw [hi]; exact hxi)]
   exact loffs_on N r0 x p v w h g hat.f hq b1 b2 h2 hxi
 ·rw [offs_at g hx h0 h1]
  by_cases hf : x.f = n
  ·have ht : ¬ x.t = n := fun e => hok.2.2.2.2.2.2.1 (hf.trans e.symm)
   rw [if_pos (offTo_iff.2 (.inl hf)), show offE x n = 0 from by unfold offE; rw [if_pos hf]]
   exact loffs_nf N r0 x p n v w h g hat.f hq b1 b2 h2 h3 hf ht
  ·by_cases ht : x.t = n
   ·rw [if_pos (offTo_iff.2 (.inr ht)), show offE x n = (x.l : Rat) from by unfold offE; rw [if_neg hf]]
    exact loffs_nt N r0 x p n _ v w h g hat.f hq b1 b2 h2 h3 hf ht rfl
   ·rw [if_neg (fun e => (offTo_iff.1 e).elim hf ht)]
    exact loffs_nn N r0 x p n v w h g hat.f hq b1 b2 h2 h3 hf ht

set_option maxHeartbeats 1000000 in
theorem lahead_same (N : Net) (r1 r2 : Rd) (p q m1 m2 : Pc) (v : Value) (w : World) (h : NV w v N) (g : Vld N) (hat1 : Nw.At N r1 p) (hat2 : Nw.At N r2 q) (hq : Pl.Sz 2000 p.q) (hq2 : Pl.Sz 2000 q.q) (hm1 : normE N r1 p = m1) (hm2 : normE N r2 q = m2) (he : m1 = m2) :
 Calls Tryz.prog 50 #[v, .agg #[.int .i64 p.r, .bool (ng p.q.num), .string (mg p.q.num.natAbs), .bool false, .string (mg (dn p.q))], .agg #[.int .i64 q.r, .bool (ng q.q.num), .string (mg q.q.num.natAbs), .bool false, .string (mg (dn q.q))]] w fun e w' => e = .returned (.tuple #[.agg #[.bool false, .string ⟨#[]⟩, .bool false, .string ⟨#[]⟩], .bool true]) ∧ Below w.heap.size w w' := by
 have HAT1 := Lib.hid hat1
 have HAT2 := Lib.hid hat2
 have HM1 := Lib.hid hm1
 have HM2 := Lib.hid hm2
 clear hat1 hat2 hm1 hm2
 have EQa := fun W => eqPc_in m1 m2 W
 rw [decide_eq_true he] at EQa
 clear he
 obtain ⟨_, _, rfl, hn, hr⟩ := h
 obtain ⟨An, cn, rfl, hcn, hmn, hxn⟩ := hn.open_
 obtain ⟨Ar, cr, rfl, hcr, hmr, hxr⟩ := hr.open_
 have HNV : Hid (NV w (.agg #[.slice An N.ns.length cn, .slice Ar N.rs.length cr]) N) := Lib.hid ⟨_, _, rfl, hn, hr⟩
 have HXN := Lib.hid hxn
 have HXR := Lib.hid hxr
 have HG := Lib.hid g
 have hln := g.ln
 have hlr := g.lr
 generalize hNn : N.ns.length = Nn at *
 generalize hNr : N.rs.length = Nr at *
 have HNn := Lib.hid hNn
 have HNr := Lib.hid hNr
 clear hn hr hxn hxr g hNn hNr
 go_enter Tryz.func50, Tryz.ntmps50
 have K1 := Lib.hid (fun W (hv : NV W (.agg #[.slice An Nn cn, .slice Ar Nr cr]) N) => lnormal_any N r1 p m1 _ W hv HG.out HAT1.out hq HM1.out)
 have K2 := Lib.hid (fun W (hv : NV W (.agg #[.slice An Nn cn, .slice Ar Nr cr]) N) => lnormal_any N r2 q m2 _ W hv HG.out HAT2.out hq2 HM2.out)
 go_wp2_with fail
 refine wp_named ?_
 intro W1 hW1
 have hL1 : Below w.heap.size w W1 := by
  rw [hW1]
  exact bB7
 have c3 : Own W1 (w.heap.size) 0 [.slice An Nn cn, .slice Ar Nr cr] := by
  rw [hW1]
  first
  | (repeat (first | (with_reducible refine own_new (l := [.slice An Nn cn, .slice Ar Nr cr]) ?_; (simp; done)) | with_reducible refine Own.alloc ?_ _ | refine Own.far _ _ (by first | (simp; done) | (simp [*]; done) | (simp; omega)) ?_)); done
  | simp [Own, go_sem]
 have c4 : Own W1 (w.heap.size + 1) 0 [.int .i64 p.r, .bool (ng p.q.num), .string (mg p.q.num.natAbs), .bool false, .string (mg (dn p.q))] := by
  rw [hW1]
  first
  | (repeat (first | (with_reducible refine own_new (l := [.int .i64 p.r, .bool (ng p.q.num), .string (mg p.q.num.natAbs), .bool false, .string (mg (dn p.q))]) ?_; (simp; done)) | with_reducible refine Own.alloc ?_ _ | refine Own.far _ _ (by first | (simp; done) | (simp [*]; done) | (simp; omega)) ?_)); done
  | simp [Own, go_sem]
 have c5 : Own W1 (w.heap.size + 2) 0 [.int .i64 q.r, .bool (ng q.q.num), .string (mg q.q.num.natAbs), .bool false, .string (mg (dn q.q))] := by
  rw [hW1]
  first
  | (repeat (first | (with_reducible refine own_new (l := [.int .i64 q.r, .bool (ng q.q.num), .string (mg q.q.num.natAbs), .bool false, .string (mg (dn q.q))]) ?_; (simp; done)) | with_reducible refine Own.alloc ?_ _ | refine Own.far _ _ (by first | (simp; done) | (simp [*]; done) | (simp; omega)) ?_)); done
  | simp [Own, go_sem]
 have c6 : Own W1 (w.heap.size + 3) 0 [.bool false, .string ⟨#[]⟩, .bool false, .string ⟨#[]⟩] := by
  rw [hW1]
  first
  | (repeat (first | (with_reducible refine own_new (l := [.bool false, .string ⟨#[]⟩, .bool false, .string ⟨#[]⟩]) ?_; (simp; done)) | with_reducible refine Own.alloc ?_ _ | refine Own.far _ _ (by first | (simp; done) | (simp [*]; done) | (simp; omega)) ?_)); done
  | simp [Own, go_sem]
 have hB7 : Below w.heap.size w W1 := by
  rw [hW1]
  exact bB7
 clear hW1 hL1
 have dc3 := fun p : Bel W1 => c3.bel p; have dc4 := fun p : Bel W1 => c4.bel p; have dc5 := fun p : Bel W1 => c5.bel p; have dc6 := fun p : Bel W1 => c6.bel p
 simp only [At, Own, Nat.reduceAdd, and_true] at dc3 dc4 dc5 dc6
 refine wp_region_all (by kernel_rfl) (by kernel_rfl) ?_
 repeat (go_big_quiet_step (first | (go_at_call 46; with_reducible exact Calls.bel (K1.out _ (HNV.out.up (bel_up hB7 (Bel.h _))))) | (go_at_call 46; with_reducible exact Calls.bel (K2.out _ (HNV.out.up (bel_up hB7 (Bel.h _)))))))
 refine wpQuiet_nil ?_
 intro w1 hb1
 have c8 := c3.up hb1
 have c9 := c4.up hb1
 have c10 := c5.up hb1
 have c11 := c6.up hb1
 have hB12 : Below w.heap.size w w1 := bel_up hB7 hb1
 clear dc3 dc4 dc5 dc6 c3 c4 c5 c6
 have uc8 := c8; have uc9 := c9; have uc10 := c10; have uc11 := c11
 simp only [At, Own, Nat.reduceAdd, and_true] at uc8 uc9 uc10 uc11
 go_wp2
 refine bodyPost_ret (v := .tuple #[.agg #[.bool false, .string ⟨#[]⟩, .bool false, .string ⟨#[]⟩], .bool true]) (by simp [results, Tryz.results50, go_sem, uc8, uc9, uc10, uc11]) rfl ⟨rfl, ?_⟩
 exact bB7

set_option maxHeartbeats 8000000 in
theorem lahead_diff (N : Net) (r1 r2 : Rd) (p q m1 m2 : Pc) (x : Rat) (b : Bool) (v : Value) (w : World) (h : NV w v N) (g : Vld N) (hat1 : Nw.At N r1 p) (hat2 : Nw.At N r2 q) (hq : Pl.Sz 2000 p.q) (hq2 : Pl.Sz 2000 q.q) (hm1 : normE N r1 p = m1) (hm2 : normE N r2 q = m2) (he : ¬ m1 = m2) (hx : LeaR (aheadL r1 r2 p.q q.q N.rs none) x b) :
 Calls Tryz.prog 50 #[v, .agg #[.int .i64 p.r, .bool (ng p.q.num), .string (mg p.q.num.natAbs), .bool false, .string (mg (dn p.q))], .agg #[.int .i64 q.r, .bool (ng q.q.num), .string (mg q.q.num.natAbs), .bool false, .string (mg (dn q.q))]] w fun e w' => e = .returned (.tuple #[qv x, .bool b]) ∧ Below w.heap.size w w' := by
 have HAT1 := Lib.hid hat1
 have HAT2 := Lib.hid hat2
 have HM1 := Lib.hid hm1
 have HM2 := Lib.hid hm2
 clear hat1 hat2 hm1 hm2
 have HX := Lib.hid hx
 have EQa := fun W => eqPc_in m1 m2 W
 rw [decide_eq_false he] at EQa
 clear he hx
 obtain ⟨_, _, rfl, hn, hr⟩ := h
 obtain ⟨An, cn, rfl, hcn, hmn, hxn⟩ := hn.open_
 obtain ⟨Ar, cr, rfl, hcr, hmr, hxr⟩ := hr.open_
 have HNV : Hid (NV w (.agg #[.slice An N.ns.length cn, .slice Ar N.rs.length cr]) N) := Lib.hid ⟨_, _, rfl, hn, hr⟩
 have HXN := Lib.hid hxn
 have HXR := Lib.hid hxr
 have HG := Lib.hid g
 have hln := g.ln
 have hlr := g.lr
 generalize hNn : N.ns.length = Nn at *
 generalize hNr : N.rs.length = Nr at *
 have HNn := Lib.hid hNn
 have HNr := Lib.hid hNr
 clear hn hr hxn hxr g hNn hNr
 go_enter Tryz.func50, Tryz.ntmps50
 have K1 := Lib.hid (fun W (hv : NV W (.agg #[.slice An Nn cn, .slice Ar Nr cr]) N) => lnormal_any N r1 p m1 _ W hv HG.out HAT1.out hq HM1.out)
 have K2 := Lib.hid (fun W (hv : NV W (.agg #[.slice An Nn cn, .slice Ar Nr cr]) N) => lnormal_any N r2 q m2 _ W hv HG.out HAT2.out hq2 HM2.out)
 go_wp2_with fail
 refine wp_named ?_
 intro W1 hW1
 have hL1 : Below w.heap.size w W1 := by
  rw [hW1]
  exact bB7
 have c3 : Own W1 (w.heap.size) 0 [.slice An Nn cn, .slice Ar Nr cr] := by
  rw [hW1]
  first
  | (repeat (first | (with_reducible refine own_new (l := [.slice An Nn cn, .slice Ar Nr cr]) ?_; (simp; done)) | with_reducible refine Own.alloc ?_ _ | refine Own.far _ _ (by first | (simp; done) | (simp [*]; done) | (simp; omega)) ?_)); done
  | simp [Own, go_sem]
 have c4 : Own W1 (w.heap.size + 1) 0 [.int .i64 p.r, .bool (ng p.q.num), .string (mg p.q.num.natAbs), .bool false, .string (mg (dn p.q))] := by
  rw [hW1]
  first
  | (repeat (first | (with_reducible refine own_new (l := [.int .i64 p.r, .bool (ng p.q.num), .string (mg p.q.num.natAbs), .bool false, .string (mg (dn p.q))]) ?_; (simp; done)) | with_reducible refine Own.alloc ?_ _ | refine Own.far _ _ (by first | (simp; done) | (simp [*]; done) | (simp; omega)) ?_)); done
  | simp [Own, go_sem]
 have c5 : Own W1 (w.heap.size + 2) 0 [.int .i64 q.r, .bool (ng q.q.num), .string (mg q.q.num.natAbs), .bool false, .string (mg (dn q.q))] := by
  rw [hW1]
  first
  | (repeat (first | (with_reducible refine own_new (l := [.int .i64 q.r, .bool (ng q.q.num), .string (mg q.q.num.natAbs), .bool false, .string (mg (dn q.q))]) ?_; (simp; done)) | with_reducible refine Own.alloc ?_ _ | refine Own.far _ _ (by first | (simp; done) | (simp [*]; done) | (simp; omega)) ?_)); done
  | simp [Own, go_sem]
 have c6 : Own W1 (w.heap.size + 3) 0 [.bool false, .string ⟨#[]⟩, .bool false, .string ⟨#[]⟩] := by
  rw [hW1]
  first
  | (repeat (first | (with_reducible refine own_new (l := [.bool false, .string ⟨#[]⟩, .bool false, .string ⟨#[]⟩]) ?_; (simp; done)) | with_reducible refine Own.alloc ?_ _ | refine Own.far _ _ (by first | (simp; done) | (simp [*]; done) | (simp; omega)) ?_)); done
  | simp [Own, go_sem]
 have hB7 : Below w.heap.size w W1 := by
  rw [hW1]
  exact bB7
 clear hW1 hL1
 have dc3 := fun p : Bel W1 => c3.bel p; have dc4 := fun p : Bel W1 => c4.bel p; have dc5 := fun p : Bel W1 => c5.bel p; have dc6 := fun p : Bel W1 => c6.bel p
 simp only [At, Own, Nat.reduceAdd, and_true] at dc3 dc4 dc5 dc6
 refine wp_region_all (by kernel_rfl) (by kernel_rfl) ?_
 repeat (go_big_quiet_step (first | (go_at_call 46; with_reducible exact Calls.bel (K1.out _ (HNV.out.up (bel_up hB7 (Bel.h _))))) | (go_at_call 46; with_reducible exact Calls.bel (K2.out _ (HNV.out.up (bel_up hB7 (Bel.h _)))))))
 refine wpQuiet_nil ?_
 intro w1 hb1
 have c8 := c3.up hb1
 have c9 := c4.up hb1
 have c10 := c5.up hb1
 have c11 := c6.up hb1
 have hB12 : Below w.heap.size w w1 := bel_up hB7 hb1
 clear dc3 dc4 dc5 dc6 c3 c4 c5 c6
 have uc8 := c8; have uc9 := c9; have uc10 := c10; have uc11 := c11
 simp only [At, Own, Nat.reduceAdd, and_true] at uc8 uc9 uc10 uc11
 have ne13_ : w.heap.size < w1.heap.size := by have := c8.lt; omega
 have ne13 := Nat.ne_of_lt ne13_
 have ne13' := ne13.symm
 have ne14_ : w.heap.size + 1 < w1.heap.size := by have := c9.lt; omega
 have ne14 := Nat.ne_of_lt ne14_
 have ne14' := ne14.symm
 have ne15_ : w.heap.size + 2 < w1.heap.size := by have := c10.lt; omega
 have ne15 := Nat.ne_of_lt ne15_
 have ne15' := ne15.symm
 have ne16_ : w.heap.size + 3 < w1.heap.size := by have := c11.lt; omega
 have ne16 := Nat.ne_of_lt ne16_
 have ne16' := ne16.symm
 go_wp2_with fail
 refine wp_named ?_
 intro W2 hW2
 have hL2 : Below w1.heap.size w1 W2 := by
  rw [hW2]
  exact bB7
 have c17 := c8.up hL2
 have c18 := c9.up hL2
 have c19 := c10.up hL2
 have c20 := c11.up hL2
 have c21 : Own W2 (w1.heap.size) 0 [.bool false, .string ⟨#[]⟩, .bool false, .string ⟨#[]⟩] := by
  rw [hW2]
  first
  | (repeat (first | (with_reducible refine own_new (l := [.bool false, .string ⟨#[]⟩, .bool false, .string ⟨#[]⟩]) ?_; (simp; done)) | with_reducible refine Own.alloc ?_ _ | refine Own.far _ _ (by first | (simp; done) | (simp [*]; done) | (simp; omega)) ?_)); done
  | simp [Own, go_sem, uc8, uc9, uc10, uc11, ne13, ne13', ne13_, ne14, ne14', ne14_, ne15, ne15', ne15_, ne16, ne16', ne16_]
 have hB22 : Below w.heap.size w W2 := by
  rw [hW2]
  exact bB7
 clear hW2 hL2 uc8 uc9 uc10 uc11 c8 c9 c10 c11
 go_loopw [9, 10] (fun s9 s10 wr => ∃ (i : Nat) (m : Rat) (fd : Bool), s9 = .bool fd ∧ s10 = .int .i64 i ∧ Own wr (w.heap.size) 0 [.slice An Nn cn, .slice Ar Nr cr] ∧ Own wr (w.heap.size + 1) 0 [.int .i64 p.r, .bool (ng p.q.num), .string (mg p.q.num.natAbs), .bool false, .string (mg (dn p.q))] ∧ Own wr (w.heap.size + 2) 0 [.int .i64 q.r, .bool (ng q.q.num), .string (mg q.q.num.natAbs), .bool false, .string (mg (dn q.q))] ∧ Own wr (w.heap.size + 3) 0 [.bool false, .string ⟨#[]⟩, .bool false, .string ⟨#[]⟩] ∧ Own wr (w1.heap.size) 0 [.bool (ng m.num), .string (mg m.num.natAbs), .bool false, .string (mg (dn m))] ∧ Below w.heap.size w wr ∧ i ≤ Nr ∧ Hid (LeaR (aheadL r1 r2 p.q q.q (N.rs.take i) none) m fd) ∧ Pl.Sz 5000 m) (fun _ s10 _ => Nr - (intOf s10).toNat)
 case atStart => exact ⟨0, 0, false, rfl, rfl, c17, c18, c19, c20, c21, hB22, (by omega), Lib.hid (.inr ⟨rfl, rfl, rfl⟩), (Pl.sz_zero.mono (by decide))⟩
 case round =>
  clear c17 c18 c19 c20 c21 hB22
  obtain ⟨i, m, fd, rfl, rfl, b23, b24, b25, b26, b27, hB28, hi, HL, ZM⟩ := hrel
  obtain ⟨wr29, hwr29⟩ : ∃ W_, W_ = wr := ⟨_, rfl⟩
  subst hwr29
  by_cases hlti : i < Nr
  ·skip
   have i1i : (i : Int) < Nr := by omega
   obtain ⟨x30, hx31⟩ : ∃ x, N.rs[i]? = some x := ⟨_, List.getElem?_eq_getElem (by rw [HNr.out]; omega)⟩
   have Hhx31 := Lib.hid hx31
   clear hx31
   have HXM := Lib.hid (List.mem_of_getElem? Hhx31.out)
   have hxok := HG.out.or _ HXM.out
   have hxl1 := hxok.2.2.1
   have hxl2 := hxok.2.2.2.1
   clear hxok
   obtain ⟨x1, b1, ho1⟩ := offR_ex x30 r1 p.q
   obtain ⟨x2, b2, ho2⟩ := offR_ex x30 r2 q.q
   have ZX1 := ho1.sz hq (by omega) (by omega)
   have ZX2 := ho2.sz hq2 (by omega) (by omega)
   have HO1 := Lib.hid ho1
   have HO2 := Lib.hid ho2
   clear ho1 ho2
   cases b1
   ·skip
    have HLA : Hid ((offsE x30 r1 p.q).toList = []) := Lib.hid (by rcases HO1.out with ⟨e_, h_⟩ | ⟨e_, h_, _⟩ <;> first | (cases e_; done) | (rw [h_]; rfl))
    obtain ⟨lB, hlB⟩ : ∃ l_, (offsE x30 r2 q.q).toList = l_ := ⟨_, rfl⟩
    have HLB := Lib.hid hlB
    clear hlB
    have ub23 := b23; have ub24 := b24; have ub25 := b25; have ub26 := b26; have ub27 := b27
    simp only [At, Own, Nat.reduceAdd, and_true] at ub23 ub24 ub25 ub26 ub27
    go_upto_region 7 with fail
    refine wp_named ?_
    intro W3 hW3
    have hL3 : Below wr29.heap.size wr29 W3 := by
     rw [hW3]
     exact bB7
    have c32 := b23.up hL3
    have c33 := b24.up hL3
    have c34 := b25.up hL3
    have c35 := b26.up hL3
    have c36 := b27.up hL3
    have hB37 : Below w.heap.size w W3 := by
     rw [hW3]
     exact bB7
    clear hW3 hL3 ub23 ub24 ub25 ub26 ub27 b23 b24 b25 b26 b27
    have K38 := Lib.hid (fun W (hv : NV W (.agg #[.slice An Nn cn, .slice Ar Nr cr]) N) => loffs_l N r1 x30 p ([] : List Rat) _ W hv HG.out HAT1.out hq HXM.out HLA.out)
    have K40 := Lib.hid (fun W (hv : NV W (.agg #[.slice An Nn cn, .slice Ar Nr cr]) N) => loffs_l N r2 x30 q lB _ W hv HG.out HAT2.out hq2 HXM.out HLB.out)
    obtain ⟨g43, o44, ha45, -⟩ := (HXR.out).up kpR hB37 _ _ Hhx31.out
    subst ha45
    have ce42 := LX.at_ ((HXR.out).up kpR hB37) Hhx31.out
    have ce42_ : g43 < W3.heap.size := World.block_lt_of_cell? _ _ ce42.1
    have HSS46 : ∀ w' : World, Below W3.heap.size W3 w' → (w'.cell? ⟨w.heap.size, 0, none⟩ = some (.slice An Nn cn) ∧ w'.cell? ⟨w.heap.size, 1, none⟩ = some (.slice (some ⟨g43, o44, none⟩) Nr cr) ∧ w'.cell? ⟨w.heap.size + 1, 0, none⟩ = some (.int .i64 p.r) ∧ w'.cell? ⟨w.heap.size + 1, 1, none⟩ = some (.bool (ng p.q.num)) ∧ w'.cell? ⟨w.heap.size + 1, 2, none⟩ = some (.string (mg p.q.num.natAbs)) ∧ w'.cell? ⟨w.heap.size + 1, 3, none⟩ = some (.bool false) ∧ w'.cell? ⟨w.heap.size + 1, 4, none⟩ = some (.string (mg (dn p.q))) ∧ w'.cell? ⟨w.heap.size + 2, 0, none⟩ = some (.int .i64 q.r) ∧ w'.cell? ⟨w.heap.size + 2, 1, none⟩ = some (.bool (ng q.q.num)) ∧ w'.cell? ⟨w.heap.size + 2, 2, none⟩ = some (.string (mg q.q.num.natAbs)) ∧ w'.cell? ⟨w.heap.size + 2, 3, none⟩ = some (.bool false) ∧ w'.cell? ⟨w.heap.size + 2, 4, none⟩ = some (.string (mg (dn q.q))) ∧ w'.cell? ⟨w.heap.size + 3, 0, none⟩ = some (.bool false) ∧ w'.cell? ⟨w.heap.size + 3, 1, none⟩ = some (.string ⟨#[]⟩) ∧ w'.cell? ⟨w.heap.size + 3, 2, none⟩ = some (.bool false) ∧ w'.cell? ⟨w.heap.size + 3, 3, none⟩ = some (.string ⟨#[]⟩) ∧ w'.cell? ⟨w1.heap.size, 0, none⟩ = some (.bool (ng m.num)) ∧ w'.cell? ⟨w1.heap.size, 1, none⟩ = some (.string (mg m.num.natAbs)) ∧ w'.cell? ⟨w1.heap.size, 2, none⟩ = some (.bool false) ∧ w'.cell? ⟨w1.heap.size, 3, none⟩ = some (.string (mg (dn m))) ∧ w'.cell? ⟨g43, o44 + i * 6, none⟩ = some (.int .i64 x30.i) ∧ w'.cell? ⟨g43, o44 + i * 6 + 1, none⟩ = some (.int .i64 x30.f) ∧ w'.cell? ⟨g43, o44 + i * 6 + 2, none⟩ = some (.int .i64 x30.t) ∧ w'.cell? ⟨g43, o44 + i * 6 + 3, none⟩ = some (.int .i64 x30.l) ∧ w'.cell? ⟨g43, o44 + i * 6 + 4, none⟩ = some (.int .i64 x30.m) ∧ w'.cell? ⟨g43, o44 + i * 6 + 5, none⟩ = some (.bool x30.o)) := fun w' hb => by
     have qc32 := c32.up hb; have qc33 := c33.up hb; have qc34 := c34.up hb; have qc35 := c35.up hb; have qc36 := c36.up hb; have qce42 := ce42.up hb
     simp only [At, Own, CE, CS, CR, rdc, At, Nat.reduceAdd, Nat.reduceMul, Nat.zero_mul, Nat.add_zero, Nat.add_assoc, and_true] at qc32 qc33 qc34 qc35 qc36 qce42
     try simp only [Nat.add_assoc, Nat.reduceAdd]
     simp [*]
    go_cut [11, 12] (fun x11 x12 wx => QL wx x11 ([] : List Rat) ∧ QL wx x12 lB ∧ Below W3.heap.size W3 wx)
    case first =>
     have hu := HSS46 W3 (Below.refl _ _)
     go_region_held3 (fun w' => w'.cell? ⟨w.heap.size, 0, none⟩ = some (.slice An Nn cn) ∧ w'.cell? ⟨w.heap.size, 1, none⟩ = some (.slice (some ⟨g43, o44, none⟩) Nr cr) ∧ w'.cell? ⟨w.heap.size + 1, 0, none⟩ = some (.int .i64 p.r) ∧ w'.cell? ⟨w.heap.size + 1, 1, none⟩ = some (.bool (ng p.q.num)) ∧ w'.cell? ⟨w.heap.size + 1, 2, none⟩ = some (.string (mg p.q.num.natAbs)) ∧ w'.cell? ⟨w.heap.size + 1, 3, none⟩ = some (.bool false) ∧ w'.cell? ⟨w.heap.size + 1, 4, none⟩ = some (.string (mg (dn p.q))) ∧ w'.cell? ⟨w.heap.size + 2, 0, none⟩ = some (.int .i64 q.r) ∧ w'.cell? ⟨w.heap.size + 2, 1, none⟩ = some (.bool (ng q.q.num)) ∧ w'.cell? ⟨w.heap.size + 2, 2, none⟩ = some (.string (mg q.q.num.natAbs)) ∧ w'.cell? ⟨w.heap.size + 2, 3, none⟩ = some (.bool false) ∧ w'.cell? ⟨w.heap.size + 2, 4, none⟩ = some (.string (mg (dn q.q))) ∧ w'.cell? ⟨w.heap.size + 3, 0, none⟩ = some (.bool false) ∧ w'.cell? ⟨w.heap.size + 3, 1, none⟩ = some (.string ⟨#[]⟩) ∧ w'.cell? ⟨w.heap.size + 3, 2, none⟩ = some (.bool false) ∧ w'.cell? ⟨w.heap.size + 3, 3, none⟩ = some (.string ⟨#[]⟩) ∧ w'.cell? ⟨w1.heap.size, 0, none⟩ = some (.bool (ng m.num)) ∧ w'.cell? ⟨w1.heap.size, 1, none⟩ = some (.string (mg m.num.natAbs)) ∧ w'.cell? ⟨w1.heap.size, 2, none⟩ = some (.bool false) ∧ w'.cell? ⟨w1.heap.size, 3, none⟩ = some (.string (mg (dn m))) ∧ w'.cell? ⟨g43, o44 + i * 6, none⟩ = some (.int .i64 x30.i) ∧ w'.cell? ⟨g43, o44 + i * 6 + 1, none⟩ = some (.int .i64 x30.f) ∧ w'.cell? ⟨g43, o44 + i * 6 + 2, none⟩ = some (.int .i64 x30.t) ∧ w'.cell? ⟨g43, o44 + i * 6 + 3, none⟩ = some (.int .i64 x30.l) ∧ w'.cell? ⟨g43, o44 + i * 6 + 4, none⟩ = some (.int .i64 x30.m) ∧ w'.cell? ⟨g43, o44 + i * 6 + 5, none⟩ = some (.bool x30.o)) (refine HSS46 _ ?_ <;> (repeat (first | with_reducible exact Below.refl _ _ | with_reducible refine bel_alloc ?_ _ | with_reducible refine Below.drew ?_ | (refine Below.setCell ?_ (by first | (simp; done) | (simp; omega) | omega) _) | with_reducible refine bel_up ?_ (by with_reducible assumption)))) (first
      | (go_at_call 81; with_reducible refine (K38.out _ (HNV.out.up (bel_up hB37 (by (repeat (first | with_reducible exact Below.refl _ _ | with_reducible refine bel_alloc ?_ _ | with_reducible refine Below.drew ?_ | (refine Below.setCell ?_ (by first | (simp; done) | (simp; omega) | omega) _) | with_reducible refine bel_up ?_ (by with_reducible assumption))))))).mono ?_; rintro e v_39 ⟨vv_39, rfl, hv_39, hbq_39⟩; have hsz_39 := hbq_39.size; (try simp [size_drewC] at hsz_39))
      | (go_at_call 81; with_reducible refine (K40.out _ (HNV.out.up (bel_up hB37 (by (repeat (first | with_reducible exact Below.refl _ _ | with_reducible refine bel_alloc ?_ _ | with_reducible refine Below.drew ?_ | (refine Below.setCell ?_ (by first | (simp; done) | (simp; omega) | omega) _) | with_reducible refine bel_up ?_ (by with_reducible assumption))))))).mono ?_; rintro e v_41 ⟨vv_41, rfl, hv_41, hbq_41⟩; have hsz_41 := hbq_41.size; (try simp [size_drewC] at hsz_41)))
     all_goals
      go_wp2_with fail
      go_meet
      refine ⟨(hv_39.up (by repeat (first | with_reducible exact Below.refl _ _ | with_reducible refine bel_alloc ?_ _ | with_reducible refine Below.drew ?_ | (refine Below.setCell ?_ (by first | (simp; done) | (simp; omega) | omega) _) | with_reducible refine bel_up ?_ (by with_reducible assumption)))), (hv_41.up (by repeat (first | with_reducible exact Below.refl _ _ | with_reducible refine bel_alloc ?_ _ | with_reducible refine Below.drew ?_ | (refine Below.setCell ?_ (by first | (simp; done) | (simp; omega) | omega) _) | with_reducible refine bel_up ?_ (by with_reducible assumption)))), ?_⟩
      ·(repeat (first | with_reducible exact Below.refl _ _ | with_reducible refine bel_alloc ?_ _ | with_reducible refine Below.drew ?_ | (refine Below.setCell ?_ (by first | (simp; done) | (simp; omega) | omega) _) | with_reducible refine bel_up ?_ (by with_reducible assumption)))
    case rest =>
     obtain ⟨lv47, lv48, hbz3⟩ := hcut
     obtain ⟨wz3, hwz3⟩ : ∃ W_, W_ = wc := ⟨_, rfl⟩
     subst hwz3
     clear HSS46
     have c49 := c32.up hbz3
     have c50 := c33.up hbz3
     have c51 := c34.up hbz3
     have c52 := c35.up hbz3
     have c53 := c36.up hbz3
     have hB54 : Below w.heap.size w wz3 := bel_up hB37 hbz3
     clear c32 c33 c34 c35 c36
     have PV55 := Lib.hid lv47
     clear lv47
     have PV57 := Lib.hid lv48
     clear lv48
     obtain ⟨Ala, cla, hvla, -, -, hxla⟩ := (PV55.out).open_
     have hv2la : u11 = .slice Ala 0 cla := hvla
     clear hvla
     subst hv2la
     have HXla := Lib.hid hxla
     clear hxla
     go_wp2_with fail
     go_loopw [9, 13] (fun s9 s13 wr => ∃ (j : Nat) (mj : Rat) (fj : Bool), s9 = .bool fj ∧ s13 = .int .i64 j ∧ Own wr (w.heap.size) 0 [.slice An Nn cn, .slice (some ⟨g43, o44, none⟩) Nr cr] ∧ Own wr (w.heap.size + 1) 0 [.int .i64 p.r, .bool (ng p.q.num), .string (mg p.q.num.natAbs), .bool false, .string (mg (dn p.q))] ∧ Own wr (w.heap.size + 2) 0 [.int .i64 q.r, .bool (ng q.q.num), .string (mg q.q.num.natAbs), .bool false, .string (mg (dn q.q))] ∧ Own wr (w.heap.size + 3) 0 [.bool false, .string ⟨#[]⟩, .bool false, .string ⟨#[]⟩] ∧ Own wr (w1.heap.size) 0 [.bool (ng mj.num), .string (mg mj.num.natAbs), .bool false, .string (mg (dn mj))] ∧ (j = 0 → Below wz3.heap.size wz3 wr) ∧ Below w.heap.size w wr ∧ j ≤ 0 ∧ Hid ((j = 0 → LeaR (aheadL r1 r2 p.q q.q (N.rs.take i) none) mj fj) ∧ (1 ≤ j → LeaR (lessE (aheadL r1 r2 p.q q.q (N.rs.take i) none) (wayE x30 (offsE x30 r1 p.q) (offsE x30 r2 q.q))) mj fj)) ∧ Pl.Sz 5000 mj) (fun _ s13 _ => 0 - (intOf s13).toNat)
     case atStart => exact ⟨0, m, fd, rfl, rfl, c49, c50, c51, c52, c53, fun _ => Below.refl _ _, hB54, (by omega), Lib.hid ⟨fun _ => HL.out, fun h_ => absurd h_ (by decide)⟩, ZM⟩
     case round =>
      clear c49 c50 c51 c52 c53 hB54
      obtain ⟨j, mj, fj, rfl, rfl, b60, b61, b62, b63, b64, hA65, hB66, hj, HJ, ZMj⟩ := hrel
      obtain ⟨wr67, hwr67⟩ : ∃ W_, W_ = wr := ⟨_, rfl⟩
      subst hwr67
      have i1j : ¬ (j : Int) < 0 := by omega
      skip
      have ub60 := b60; have ub61 := b61; have ub62 := b62; have ub63 := b63; have ub64 := b64
      simp only [At, Own, Nat.reduceAdd, and_true] at ub60 ub61 ub62 ub63 ub64
      go_wp2
      go_roundw
      case rel => exact ⟨(i + 1), mj, fj, (by first | rfl | exact congrArg (Value.int .i64) (by omega) | simp [*]), (by first | rfl | exact congrArg (Value.int .i64) (by omega) | simp [*]), oF7, oF7, oF7, oF7, oF7, (by exact bB7), (by omega), Lib.hid (by rw [ahead_succ Hhx31.out]; exact lea_skip (HJ.out.1 (by first | trivial | omega)) (way_none1 HO1.out)), ZMj⟩
      case measure => simp [intOf] <;> omega
   ·skip
    have HLA : Hid ((offsE x30 r1 p.q).toList = [x1]) := Lib.hid (by rcases HO1.out with ⟨e_, h_⟩ | ⟨e_, h_, _⟩ <;> first | (cases e_; done) | (rw [h_]; rfl))
    cases b2
    ·skip
     have HLB : Hid ((offsE x30 r2 q.q).toList = []) := Lib.hid (by rcases HO2.out with ⟨e_, h_⟩ | ⟨e_, h_, _⟩ <;> first | (cases e_; done) | (rw [h_]; rfl))
     have ub23 := b23; have ub24 := b24; have ub25 := b25; have ub26 := b26; have ub27 := b27
     simp only [At, Own, Nat.reduceAdd, and_true] at ub23 ub24 ub25 ub26 ub27
     go_upto_region 7 with fail
     refine wp_named ?_
     intro W4 hW4
     have hL4 : Below wr29.heap.size wr29 W4 := by
      rw [hW4]
      exact bB7
     have c68 := b23.up hL4
     have c69 := b24.up hL4
     have c70 := b25.up hL4
     have c71 := b26.up hL4
     have c72 := b27.up hL4
     have hB73 : Below w.heap.size w W4 := by
      rw [hW4]
      exact bB7
     clear hW4 hL4 ub23 ub24 ub25 ub26 ub27 b23 b24 b25 b26 b27
     have K74 := Lib.hid (fun W (hv : NV W (.agg #[.slice An Nn cn, .slice Ar Nr cr]) N) => loffs_l N r1 x30 p [x1] _ W hv HG.out HAT1.out hq HXM.out HLA.out)
     have K76 := Lib.hid (fun W (hv : NV W (.agg #[.slice An Nn cn, .slice Ar Nr cr]) N) => loffs_l N r2 x30 q ([] : List Rat) _ W hv HG.out HAT2.out hq2 HXM.out HLB.out)
     obtain ⟨g79, o80, ha81, -⟩ := (HXR.out).up kpR hB73 _ _ Hhx31.out
     subst ha81
     have ce78 := LX.at_ ((HXR.out).up kpR hB73) Hhx31.out
     have ce78_ : g79 < W4.heap.size := World.block_lt_of_cell? _ _ ce78.1
     have HSS82 : ∀ w' : World, Below W4.heap.size W4 w' → (w'.cell? ⟨w.heap.size, 0, none⟩ = some (.slice An Nn cn) ∧ w'.cell? ⟨w.heap.size, 1, none⟩ = some (.slice (some ⟨g79, o80, none⟩) Nr cr) ∧ w'.cell? ⟨w.heap.size + 1, 0, none⟩ = some (.int .i64 p.r) ∧ w'.cell? ⟨w.heap.size + 1, 1, none⟩ = some (.bool (ng p.q.num)) ∧ w'.cell? ⟨w.heap.size + 1, 2, none⟩ = some (.string (mg p.q.num.natAbs)) ∧ w'.cell? ⟨w.heap.size + 1, 3, none⟩ = some (.bool false) ∧ w'.cell? ⟨w.heap.size + 1, 4, none⟩ = some (.string (mg (dn p.q))) ∧ w'.cell? ⟨w.heap.size + 2, 0, none⟩ = some (.int .i64 q.r) ∧ w'.cell? ⟨w.heap.size + 2, 1, none⟩ = some (.bool (ng q.q.num)) ∧ w'.cell? ⟨w.heap.size + 2, 2, none⟩ = some (.string (mg q.q.num.natAbs)) ∧ w'.cell? ⟨w.heap.size + 2, 3, none⟩ = some (.bool false) ∧ w'.cell? ⟨w.heap.size + 2, 4, none⟩ = some (.string (mg (dn q.q))) ∧ w'.cell? ⟨w.heap.size + 3, 0, none⟩ = some (.bool false) ∧ w'.cell? ⟨w.heap.size + 3, 1, none⟩ = some (.string ⟨#[]⟩) ∧ w'.cell? ⟨w.heap.size + 3, 2, none⟩ = some (.bool false) ∧ w'.cell? ⟨w.heap.size + 3, 3, none⟩ = some (.string ⟨#[]⟩) ∧ w'.cell? ⟨w1.heap.size, 0, none⟩ = some (.bool (ng m.num)) ∧ w'.cell? ⟨w1.heap.size, 1, none⟩ = some (.string (mg m.num.natAbs)) ∧ w'.cell? ⟨w1.heap.size, 2, none⟩ = some (.bool false) ∧ w'.cell? ⟨w1.heap.size, 3, none⟩ = some (.string (mg (dn m))) ∧ w'.cell? ⟨g79, o80 + i * 6, none⟩ = some (.int .i64 x30.i) ∧ w'.cell? ⟨g79, o80 + i * 6 + 1, none⟩ = some (.int .i64 x30.f) ∧ w'.cell? ⟨g79, o80 + i * 6 + 2, none⟩ = some (.int .i64 x30.t) ∧ w'.cell? ⟨g79, o80 + i * 6 + 3, none⟩ = some (.int .i64 x30.l) ∧ w'.cell? ⟨g79, o80 + i * 6 + 4, none⟩ = some (.int .i64 x30.m) ∧ w'.cell? ⟨g79, o80 + i * 6 + 5, none⟩ = some (.bool x30.o)) := fun w' hb => by
      have qc68 := c68.up hb; have qc69 := c69.up hb; have qc70 := c70.up hb; have qc71 := c71.up hb; have qc72 := c72.up hb; have qce78 := ce78.up hb
      simp only [At, Own, CE, CS, CR, rdc, At, Nat.reduceAdd, Nat.reduceMul, Nat.zero_mul, Nat.add_zero, Nat.add_assoc, and_true] at qc68 qc69 qc70 qc71 qc72 qce78
      try simp only [Nat.add_assoc, Nat.reduceAdd]
      simp [*]
     go_cut [11, 12] (fun x11 x12 wx => QL wx x11 ([x1]) ∧ QL wx x12 ([] : List Rat) ∧ Below W4.heap.size W4 wx)
     case first =>
      have hu := HSS82 W4 (Below.refl _ _)
      go_region_held3 (fun w' => w'.cell? ⟨w.heap.size, 0, none⟩ = some (.slice An Nn cn) ∧ w'.cell? ⟨w.heap.size, 1, none⟩ = some (.slice (some ⟨g79, o80, none⟩) Nr cr) ∧ w'.cell? ⟨w.heap.size + 1, 0, none⟩ = some (.int .i64 p.r) ∧ w'.cell? ⟨w.heap.size + 1, 1, none⟩ = some (.bool (ng p.q.num)) ∧ w'.cell? ⟨w.heap.size + 1, 2, none⟩ = some (.string (mg p.q.num.natAbs)) ∧ w'.cell? ⟨w.heap.size + 1, 3, none⟩ = some (.bool false) ∧ w'.cell? ⟨w.heap.size + 1, 4, none⟩ = some (.string (mg (dn p.q))) ∧ w'.cell? ⟨w.heap.size + 2, 0, none⟩ = some (.int .i64 q.r) ∧ w'.cell? ⟨w.heap.size + 2, 1, none⟩ = some (.bool (ng q.q.num)) ∧ w'.cell? ⟨w.heap.size + 2, 2, none⟩ = some (.string (mg q.q.num.natAbs)) ∧ w'.cell? ⟨w.heap.size + 2, 3, none⟩ = some (.bool false) ∧ w'.cell? ⟨w.heap.size + 2, 4, none⟩ = some (.string (mg (dn q.q))) ∧ w'.cell? ⟨w.heap.size + 3, 0, none⟩ = some (.bool false) ∧ w'.cell? ⟨w.heap.size + 3, 1, none⟩ = some (.string ⟨#[]⟩) ∧ w'.cell? ⟨w.heap.size + 3, 2, none⟩ = some (.bool false) ∧ w'.cell? ⟨w.heap.size + 3, 3, none⟩ = some (.string ⟨#[]⟩) ∧ w'.cell? ⟨w1.heap.size, 0, none⟩ = some (.bool (ng m.num)) ∧ w'.cell? ⟨w1.heap.size, 1, none⟩ = some (.string (mg m.num.natAbs)) ∧ w'.cell? ⟨w1.heap.size, 2, none⟩ = some (.bool false) ∧ w'.cell? ⟨w1.heap.size, 3, none⟩ = some (.string (mg (dn m))) ∧ w'.cell? ⟨g79, o80 + i * 6, none⟩ = some (.int .i64 x30.i) ∧ w'.cell? ⟨g79, o80 + i * 6 + 1, none⟩ = some (.int .i64 x30.f) ∧ w'.cell? ⟨g79, o80 + i * 6 + 2, none⟩ = some (.int .i64 x30.t) ∧ w'.cell? ⟨g79, o80 + i * 6 + 3, none⟩ = some (.int .i64 x30.l) ∧ w'.cell? ⟨g79, o80 + i * 6 + 4, none⟩ = some (.int .i64 x30.m) ∧ w'.cell? ⟨g79, o80 + i * 6 + 5, none⟩ = some (.bool x30.o)) (refine HSS82 _ ?_ <;> (repeat (first | with_reducible exact Below.refl _ _ | with_reducible refine bel_alloc ?_ _ | with_reducible refine Below.drew ?_ | (refine Below.setCell ?_ (by first | (simp; done) | (simp; omega) | omega) _) | with_reducible refine bel_up ?_ (by with_reducible assumption)))) (first
       | (go_at_call 81; with_reducible refine (K74.out _ (HNV.out.up (bel_up hB73 (by (repeat (first | with_reducible exact Below.refl _ _ | with_reducible refine bel_alloc ?_ _ | with_reducible refine Below.drew ?_ | (refine Below.setCell ?_ (by first | (simp; done) | (simp; omega) | omega) _) | with_reducible refine bel_up ?_ (by with_reducible assumption))))))).mono ?_; rintro e v_75 ⟨vv_75, rfl, hv_75, hbq_75⟩; have hsz_75 := hbq_75.size; (try simp [size_drewC] at hsz_75))
       | (go_at_call 81; with_reducible refine (K76.out _ (HNV.out.up (bel_up hB73 (by (repeat (first | with_reducible exact Below.refl _ _ | with_reducible refine bel_alloc ?_ _ | with_reducible refine Below.drew ?_ | (refine Below.setCell ?_ (by first | (simp; done) | (simp; omega) | omega) _) | with_reducible refine bel_up ?_ (by with_reducible assumption))))))).mono ?_; rintro e v_77 ⟨vv_77, rfl, hv_77, hbq_77⟩; have hsz_77 := hbq_77.size; (try simp [size_drewC] at hsz_77)))
      all_goals
       go_wp2_with fail
       go_meet
       refine ⟨(hv_75.up (by repeat (first | with_reducible exact Below.refl _ _ | with_reducible refine bel_alloc ?_ _ | with_reducible refine Below.drew ?_ | (refine Below.setCell ?_ (by first | (simp; done) | (simp; omega) | omega) _) | with_reducible refine bel_up ?_ (by with_reducible assumption)))), (hv_77.up (by repeat (first | with_reducible exact Below.refl _ _ | with_reducible refine bel_alloc ?_ _ | with_reducible refine Below.drew ?_ | (refine Below.setCell ?_ (by first | (simp; done) | (simp; omega) | omega) _) | with_reducible refine bel_up ?_ (by with_reducible assumption)))), ?_⟩
       ·(repeat (first | with_reducible exact Below.refl _ _ | with_reducible refine bel_alloc ?_ _ | with_reducible refine Below.drew ?_ | (refine Below.setCell ?_ (by first | (simp; done) | (simp; omega) | omega) _) | with_reducible refine bel_up ?_ (by with_reducible assumption)))
     case rest =>
      obtain ⟨lv83, lv84, hbz4⟩ := hcut
      obtain ⟨wz4, hwz4⟩ : ∃ W_, W_ = wc := ⟨_, rfl⟩
      subst hwz4
      clear HSS82
      have c85 := c68.up hbz4
      have c86 := c69.up hbz4
      have c87 := c70.up hbz4
      have c88 := c71.up hbz4
      have c89 := c72.up hbz4
      have hB90 : Below w.heap.size w wz4 := bel_up hB73 hbz4
      clear c68 c69 c70 c71 c72
      have PV91 := Lib.hid lv83
      clear lv83
      have PV93 := Lib.hid lv84
      clear lv84
      obtain ⟨Ala, cla, hvla, -, -, hxla⟩ := (PV91.out).open_
      have hv2la : u11 = .slice Ala 1 cla := hvla
      clear hvla
      subst hv2la
      have HXla := Lib.hid hxla
      clear hxla
      obtain ⟨Alb, clb, hvlb, -, -, hxlb⟩ := (PV93.out).open_
      have hv2lb : u12 = .slice Alb 0 clb := hvlb
      clear hvlb
      subst hv2lb
      have HXlb := Lib.hid hxlb
      clear hxlb
      go_wp2_with fail
      go_loopw [9, 13] (fun s9 s13 wr => ∃ (j : Nat) (mj : Rat) (fj : Bool), s9 = .bool fj ∧ s13 = .int .i64 j ∧ Own wr (w.heap.size) 0 [.slice An Nn cn, .slice (some ⟨g79, o80, none⟩) Nr cr] ∧ Own wr (w.heap.size + 1) 0 [.int .i64 p.r, .bool (ng p.q.num), .string (mg p.q.num.natAbs), .bool false, .string (mg (dn p.q))] ∧ Own wr (w.heap.size + 2) 0 [.int .i64 q.r, .bool (ng q.q.num), .string (mg q.q.num.natAbs), .bool false, .string (mg (dn q.q))] ∧ Own wr (w.heap.size + 3) 0 [.bool false, .string ⟨#[]⟩, .bool false, .string ⟨#[]⟩] ∧ Own wr (w1.heap.size) 0 [.bool (ng mj.num), .string (mg mj.num.natAbs), .bool false, .string (mg (dn mj))] ∧ (j = 0 → Below wz4.heap.size wz4 wr) ∧ Below w.heap.size w wr ∧ j ≤ 1 ∧ Hid ((j = 0 → LeaR (aheadL r1 r2 p.q q.q (N.rs.take i) none) mj fj) ∧ (1 ≤ j → LeaR (lessE (aheadL r1 r2 p.q q.q (N.rs.take i) none) (wayE x30 (offsE x30 r1 p.q) (offsE x30 r2 q.q))) mj fj)) ∧ Pl.Sz 5000 mj) (fun _ s13 _ => 1 - (intOf s13).toNat)
      case atStart => exact ⟨0, m, fd, rfl, rfl, c85, c86, c87, c88, c89, fun _ => Below.refl _ _, hB90, (by omega), Lib.hid ⟨fun _ => HL.out, fun h_ => absurd h_ (by decide)⟩, ZM⟩
      case round =>
       clear c85 c86 c87 c88 c89 hB90
       obtain ⟨j, mj, fj, rfl, rfl, b97, b98, b99, b100, b101, hA102, hB103, hj, HJ, ZMj⟩ := hrel
       obtain ⟨wr104, hwr104⟩ : ∃ W_, W_ = wr := ⟨_, rfl⟩
       subst hwr104
       rcases (show j = 0 ∨ j = 1 by omega) with rfl | rfl
       ·skip
        have hA105 := hA102 (by first | rfl | trivial)
        go_wp2_with fail
        go_loopw [9, 14] (fun s9 s14 wr => ∃ (k : Nat) (mk : Rat) (fk : Bool), s9 = .bool fk ∧ s14 = .int .i64 k ∧ Own wr (w.heap.size) 0 [.slice An Nn cn, .slice (some ⟨g79, o80, none⟩) Nr cr] ∧ Own wr (w.heap.size + 1) 0 [.int .i64 p.r, .bool (ng p.q.num), .string (mg p.q.num.natAbs), .bool false, .string (mg (dn p.q))] ∧ Own wr (w.heap.size + 2) 0 [.int .i64 q.r, .bool (ng q.q.num), .string (mg q.q.num.natAbs), .bool false, .string (mg (dn q.q))] ∧ Own wr (w.heap.size + 3) 0 [.bool false, .string ⟨#[]⟩, .bool false, .string ⟨#[]⟩] ∧ Own wr (w1.heap.size) 0 [.bool (ng mk.num), .string (mg mk.num.natAbs), .bool false, .string (mg (dn mk))] ∧ (k = 0 → Below wz4.heap.size wz4 wr) ∧ Below w.heap.size w wr ∧ k ≤ 0 ∧ Hid ((k = 0 → LeaR (aheadL r1 r2 p.q q.q (N.rs.take i) none) mk fk) ∧ (1 ≤ k → LeaR (lessE (aheadL r1 r2 p.q q.q (N.rs.take i) none) (wayE x30 (offsE x30 r1 p.q) (offsE x30 r2 q.q))) mk fk)) ∧ Pl.Sz 5000 mk) (fun _ s14 _ => 0 - (intOf s14).toNat)
        case atStart => exact ⟨0, mj, fj, rfl, rfl, b97, b98, b99, b100, b101, fun _ => hA105, hB103, (by omega), Lib.hid ⟨fun _ => HJ.out.1 (by first | rfl | trivial), fun h_ => absurd h_ (by decide)⟩, ZMj⟩
        case round =>
         clear b97 b98 b99 b100 b101 hB103 hA105
         obtain ⟨k, mk, fk, rfl, rfl, b106, b107, b108, b109, b110, hA111, hB112, hk, HK, ZMk⟩ := hrel
         obtain ⟨wr113, hwr113⟩ : ∃ W_, W_ = wr := ⟨_, rfl⟩
         subst hwr113
         have i1k : ¬ (k : Int) < 0 := by omega
         skip
         have ub106 := b106; have ub107 := b107; have ub108 := b108; have ub109 := b109; have ub110 := b110
         simp only [At, Own, Nat.reduceAdd, and_true] at ub106 ub107 ub108 ub109 ub110
         go_wp2
         go_roundw
         case rel => exact ⟨1, mk, fk, (by first | rfl | exact congrArg (Value.int .i64) (by omega) | simp [*]), rfl, oF7, oF7, oF7, oF7, oF7, (fun h_ => absurd h_ (by decide)), (by exact bB7), (by omega), Lib.hid ⟨fun h_ => absurd h_ (by decide), fun _ => lea_skip (HK.out.1 (by first | trivial | omega)) (way_none2 HO2.out)⟩, ZMk⟩
         case measure => simp [intOf] <;> omega
       ·skip
        have ub97 := b97; have ub98 := b98; have ub99 := b99; have ub100 := b100; have ub101 := b101
        simp only [At, Own, Nat.reduceAdd, and_true] at ub97 ub98 ub99 ub100 ub101
        go_wp2
        go_roundw
        case rel => exact ⟨(i + 1), mj, fj, (by first | rfl | exact congrArg (Value.int .i64) (by omega) | simp [*]), (by first | rfl | exact congrArg (Value.int .i64) (by omega) | simp [*]), oF7, oF7, oF7, oF7, oF7, (by exact bB7), (by omega), Lib.hid (by rw [ahead_succ Hhx31.out]; exact HJ.out.2 (by decide)), ZMj⟩
        case measure => simp [intOf] <;> omega
    ·skip
     have HLB : Hid ((offsE x30 r2 q.q).toList = [x2]) := Lib.hid (by rcases HO2.out with ⟨e_, h_⟩ | ⟨e_, h_, _⟩ <;> first | (cases e_; done) | (rw [h_]; rfl))
     have ub23 := b23; have ub24 := b24; have ub25 := b25; have ub26 := b26; have ub27 := b27
     simp only [At, Own, Nat.reduceAdd, and_true] at ub23 ub24 ub25 ub26 ub27
     go_upto_region 7 with fail
     refine wp_named ?_
     intro W5 hW5
     have hL5 : Below wr29.heap.size wr29 W5 := by
      rw [hW5]
      exact bB7
     have c114 := b23.up hL5
     have c115 := b24.up hL5
     have c116 := b25.up hL5
     have c117 := b26.up hL5
     have c118 := b27.up hL5
     have hB119 : Below w.heap.size w W5 := by
      rw [hW5]
      exact bB7
     clear hW5 hL5 ub23 ub24 ub25 ub26 ub27 b23 b24 b25 b26 b27
     have K120 := Lib.hid (fun W (hv : NV W (.agg #[.slice An Nn cn, .slice Ar Nr cr]) N) => loffs_l N r1 x30 p [x1] _ W hv HG.out HAT1.out hq HXM.out HLA.out)
     have K122 := Lib.hid (fun W (hv : NV W (.agg #[.slice An Nn cn, .slice Ar Nr cr]) N) => loffs_l N r2 x30 q [x2] _ W hv HG.out HAT2.out hq2 HXM.out HLB.out)
     obtain ⟨g125, o126, ha127, -⟩ := (HXR.out).up kpR hB119 _ _ Hhx31.out
     subst ha127
     have ce124 := LX.at_ ((HXR.out).up kpR hB119) Hhx31.out
     have ce124_ : g125 < W5.heap.size := World.block_lt_of_cell? _ _ ce124.1
     have HSS128 : ∀ w' : World, Below W5.heap.size W5 w' → (w'.cell? ⟨w.heap.size, 0, none⟩ = some (.slice An Nn cn) ∧ w'.cell? ⟨w.heap.size, 1, none⟩ = some (.slice (some ⟨g125, o126, none⟩) Nr cr) ∧ w'.cell? ⟨w.heap.size + 1, 0, none⟩ = some (.int .i64 p.r) ∧ w'.cell? ⟨w.heap.size + 1, 1, none⟩ = some (.bool (ng p.q.num)) ∧ w'.cell? ⟨w.heap.size + 1, 2, none⟩ = some (.string (mg p.q.num.natAbs)) ∧ w'.cell? ⟨w.heap.size + 1, 3, none⟩ = some (.bool false) ∧ w'.cell? ⟨w.heap.size + 1, 4, none⟩ = some (.string (mg (dn p.q))) ∧ w'.cell? ⟨w.heap.size + 2, 0, none⟩ = some (.int .i64 q.r) ∧ w'.cell? ⟨w.heap.size + 2, 1, none⟩ = some (.bool (ng q.q.num)) ∧ w'.cell? ⟨w.heap.size + 2, 2, none⟩ = some (.string (mg q.q.num.natAbs)) ∧ w'.cell? ⟨w.heap.size + 2, 3, none⟩ = some (.bool false) ∧ w'.cell? ⟨w.heap.size + 2, 4, none⟩ = some (.string (mg (dn q.q))) ∧ w'.cell? ⟨w.heap.size + 3, 0, none⟩ = some (.bool false) ∧ w'.cell? ⟨w.heap.size + 3, 1, none⟩ = some (.string ⟨#[]⟩) ∧ w'.cell? ⟨w.heap.size + 3, 2, none⟩ = some (.bool false) ∧ w'.cell? ⟨w.heap.size + 3, 3, none⟩ = some (.string ⟨#[]⟩) ∧ w'.cell? ⟨w1.heap.size, 0, none⟩ = some (.bool (ng m.num)) ∧ w'.cell? ⟨w1.heap.size, 1, none⟩ = some (.string (mg m.num.natAbs)) ∧ w'.cell? ⟨w1.heap.size, 2, none⟩ = some (.bool false) ∧ w'.cell? ⟨w1.heap.size, 3, none⟩ = some (.string (mg (dn m))) ∧ w'.cell? ⟨g125, o126 + i * 6, none⟩ = some (.int .i64 x30.i) ∧ w'.cell? ⟨g125, o126 + i * 6 + 1, none⟩ = some (.int .i64 x30.f) ∧ w'.cell? ⟨g125, o126 + i * 6 + 2, none⟩ = some (.int .i64 x30.t) ∧ w'.cell? ⟨g125, o126 + i * 6 + 3, none⟩ = some (.int .i64 x30.l) ∧ w'.cell? ⟨g125, o126 + i * 6 + 4, none⟩ = some (.int .i64 x30.m) ∧ w'.cell? ⟨g125, o126 + i * 6 + 5, none⟩ = some (.bool x30.o)) := fun w' hb => by
      have qc114 := c114.up hb; have qc115 := c115.up hb; have qc116 := c116.up hb; have qc117 := c117.up hb; have qc118 := c118.up hb; have qce124 := ce124.up hb
      simp only [At, Own, CE, CS, CR, rdc, At, Nat.reduceAdd, Nat.reduceMul, Nat.zero_mul, Nat.add_zero, Nat.add_assoc, and_true] at qc114 qc115 qc116 qc117 qc118 qce124
      try simp only [Nat.add_assoc, Nat.reduceAdd]
      simp [*]
     go_cut [11, 12] (fun x11 x12 wx => QL wx x11 ([x1]) ∧ QL wx x12 ([x2]) ∧ Below W5.heap.size W5 wx)
     case first =>
      have hu := HSS128 W5 (Below.refl _ _)
      go_region_held3 (fun w' => w'.cell? ⟨w.heap.size, 0, none⟩ = some (.slice An Nn cn) ∧ w'.cell? ⟨w.heap.size, 1, none⟩ = some (.slice (some ⟨g125, o126, none⟩) Nr cr) ∧ w'.cell? ⟨w.heap.size + 1, 0, none⟩ = some (.int .i64 p.r) ∧ w'.cell? ⟨w.heap.size + 1, 1, none⟩ = some (.bool (ng p.q.num)) ∧ w'.cell? ⟨w.heap.size + 1, 2, none⟩ = some (.string (mg p.q.num.natAbs)) ∧ w'.cell? ⟨w.heap.size + 1, 3, none⟩ = some (.bool false) ∧ w'.cell? ⟨w.heap.size + 1, 4, none⟩ = some (.string (mg (dn p.q))) ∧ w'.cell? ⟨w.heap.size + 2, 0, none⟩ = some (.int .i64 q.r) ∧ w'.cell? ⟨w.heap.size + 2, 1, none⟩ = some (.bool (ng q.q.num)) ∧ w'.cell? ⟨w.heap.size + 2, 2, none⟩ = some (.string (mg q.q.num.natAbs)) ∧ w'.cell? ⟨w.heap.size + 2, 3, none⟩ = some (.bool false) ∧ w'.cell? ⟨w.heap.size + 2, 4, none⟩ = some (.string (mg (dn q.q))) ∧ w'.cell? ⟨w.heap.size + 3, 0, none⟩ = some (.bool false) ∧ w'.cell? ⟨w.heap.size + 3, 1, none⟩ = some (.string ⟨#[]⟩) ∧ w'.cell? ⟨w.heap.size + 3, 2, none⟩ = some (.bool false) ∧ w'.cell? ⟨w.heap.size + 3, 3, none⟩ = some (.string ⟨#[]⟩) ∧ w'.cell? ⟨w1.heap.size, 0, none⟩ = some (.bool (ng m.num)) ∧ w'.cell? ⟨w1.heap.size, 1, none⟩ = some (.string (mg m.num.natAbs)) ∧ w'.cell? ⟨w1.heap.size, 2, none⟩ = some (.bool false) ∧ w'.cell? ⟨w1.heap.size, 3, none⟩ = some (.string (mg (dn m))) ∧ w'.cell? ⟨g125, o126 + i * 6, none⟩ = some (.int .i64 x30.i) ∧ w'.cell? ⟨g125, o126 + i * 6 + 1, none⟩ = some (.int .i64 x30.f) ∧ w'.cell? ⟨g125, o126 + i * 6 + 2, none⟩ = some (.int .i64 x30.t) ∧ w'.cell? ⟨g125, o126 + i * 6 + 3, none⟩ = some (.int .i64 x30.l) ∧ w'.cell? ⟨g125, o126 + i * 6 + 4, none⟩ = some (.int .i64 x30.m) ∧ w'.cell? ⟨g125, o126 + i * 6 + 5, none⟩ = some (.bool x30.o)) (refine HSS128 _ ?_ <;> (repeat (first | with_reducible exact Below.refl _ _ | with_reducible refine bel_alloc ?_ _ | with_reducible refine Below.drew ?_ | (refine Below.setCell ?_ (by first | (simp; done) | (simp; omega) | omega) _) | with_reducible refine bel_up ?_ (by with_reducible assumption)))) (first
       | (go_at_call 81; with_reducible refine (K120.out _ (HNV.out.up (bel_up hB119 (by (repeat (first | with_reducible exact Below.refl _ _ | with_reducible refine bel_alloc ?_ _ | with_reducible refine Below.drew ?_ | (refine Below.setCell ?_ (by first | (simp; done) | (simp; omega) | omega) _) | with_reducible refine bel_up ?_ (by with_reducible assumption))))))).mono ?_; rintro e v_121 ⟨vv_121, rfl, hv_121, hbq_121⟩; have hsz_121 := hbq_121.size; (try simp [size_drewC] at hsz_121))
       | (go_at_call 81; with_reducible refine (K122.out _ (HNV.out.up (bel_up hB119 (by (repeat (first | with_reducible exact Below.refl _ _ | with_reducible refine bel_alloc ?_ _ | with_reducible refine Below.drew ?_ | (refine Below.setCell ?_ (by first | (simp; done) | (simp; omega) | omega) _) | with_reducible refine bel_up ?_ (by with_reducible assumption))))))).mono ?_; rintro e v_123 ⟨vv_123, rfl, hv_123, hbq_123⟩; have hsz_123 := hbq_123.size; (try simp [size_drewC] at hsz_123)))
      all_goals
       go_wp2_with fail
       go_meet
       refine ⟨(hv_121.up (by repeat (first | with_reducible exact Below.refl _ _ | with_reducible refine bel_alloc ?_ _ | with_reducible refine Below.drew ?_ | (refine Below.setCell ?_ (by first | (simp; done) | (simp; omega) | omega) _) | with_reducible refine bel_up ?_ (by with_reducible assumption)))), (hv_123.up (by repeat (first | with_reducible exact Below.refl _ _ | with_reducible refine bel_alloc ?_ _ | with_reducible refine Below.drew ?_ | (refine Below.setCell ?_ (by first | (simp; done) | (simp; omega) | omega) _) | with_reducible refine bel_up ?_ (by with_reducible assumption)))), ?_⟩
       ·(repeat (first | with_reducible exact Below.refl _ _ | with_reducible refine bel_alloc ?_ _ | with_reducible refine Below.drew ?_ | (refine Below.setCell ?_ (by first | (simp; done) | (simp; omega) | omega) _) | with_reducible refine bel_up ?_ (by with_reducible assumption)))
     case rest =>
      obtain ⟨lv129, lv130, hbz5⟩ := hcut
      obtain ⟨wz5, hwz5⟩ : ∃ W_, W_ = wc := ⟨_, rfl⟩
      subst hwz5
      clear HSS128
      have c131 := c114.up hbz5
      have c132 := c115.up hbz5
      have c133 := c116.up hbz5
      have c134 := c117.up hbz5
      have c135 := c118.up hbz5
      have hB136 : Below w.heap.size w wz5 := bel_up hB119 hbz5
      clear c114 c115 c116 c117 c118
      have PV137 := Lib.hid lv129
      clear lv129
      have PV139 := Lib.hid lv130
      clear lv130
      obtain ⟨Ala, cla, hvla, -, -, hxla⟩ := (PV137.out).open_
      have hv2la : u11 = .slice Ala 1 cla := hvla
      clear hvla
      subst hv2la
      have HXla := Lib.hid hxla
      clear hxla
      obtain ⟨Alb, clb, hvlb, -, -, hxlb⟩ := (PV139.out).open_
      have hv2lb : u12 = .slice Alb 1 clb := hvlb
      clear hvlb
      subst hv2lb
      have HXlb := Lib.hid hxlb
      clear hxlb
      go_wp2_with fail
      go_loopw [9, 13] (fun s9 s13 wr => ∃ (j : Nat) (mj : Rat) (fj : Bool), s9 = .bool fj ∧ s13 = .int .i64 j ∧ Own wr (w.heap.size) 0 [.slice An Nn cn, .slice (some ⟨g125, o126, none⟩) Nr cr] ∧ Own wr (w.heap.size + 1) 0 [.int .i64 p.r, .bool (ng p.q.num), .string (mg p.q.num.natAbs), .bool false, .string (mg (dn p.q))] ∧ Own wr (w.heap.size + 2) 0 [.int .i64 q.r, .bool (ng q.q.num), .string (mg q.q.num.natAbs), .bool false, .string (mg (dn q.q))] ∧ Own wr (w.heap.size + 3) 0 [.bool false, .string ⟨#[]⟩, .bool false, .string ⟨#[]⟩] ∧ Own wr (w1.heap.size) 0 [.bool (ng mj.num), .string (mg mj.num.natAbs), .bool false, .string (mg (dn mj))] ∧ (j = 0 → Below wz5.heap.size wz5 wr) ∧ Below w.heap.size w wr ∧ j ≤ 1 ∧ Hid ((j = 0 → LeaR (aheadL r1 r2 p.q q.q (N.rs.take i) none) mj fj) ∧ (1 ≤ j → LeaR (lessE (aheadL r1 r2 p.q q.q (N.rs.take i) none) (wayE x30 (offsE x30 r1 p.q) (offsE x30 r2 q.q))) mj fj)) ∧ Pl.Sz 5000 mj) (fun _ s13 _ => 1 - (intOf s13).toNat)
      case atStart => exact ⟨0, m, fd, rfl, rfl, c131, c132, c133, c134, c135, fun _ => Below.refl _ _, hB136, (by omega), Lib.hid ⟨fun _ => HL.out, fun h_ => absurd h_ (by decide)⟩, ZM⟩
      case round =>
       clear c131 c132 c133 c134 c135 hB136
       obtain ⟨j, mj, fj, rfl, rfl, b143, b144, b145, b146, b147, hA148, hB149, hj, HJ, ZMj⟩ := hrel
       obtain ⟨wr150, hwr150⟩ : ∃ W_, W_ = wr := ⟨_, rfl⟩
       subst hwr150
       rcases (show j = 0 ∨ j = 1 by omega) with rfl | rfl
       ·skip
        have hA151 := hA148 (by first | rfl | trivial)
        go_wp2_with fail
        go_loopw [9, 14] (fun s9 s14 wr => ∃ (k : Nat) (mk : Rat) (fk : Bool), s9 = .bool fk ∧ s14 = .int .i64 k ∧ Own wr (w.heap.size) 0 [.slice An Nn cn, .slice (some ⟨g125, o126, none⟩) Nr cr] ∧ Own wr (w.heap.size + 1) 0 [.int .i64 p.r, .bool (ng p.q.num), .string (mg p.q.num.natAbs), .bool false, .string (mg (dn p.q))] ∧ Own wr (w.heap.size + 2) 0 [.int .i64 q.r, .bool (ng q.q.num), .string (mg q.q.num.natAbs), .bool false, .string (mg (dn q.q))] ∧ Own wr (w.heap.size + 3) 0 [.bool false, .string ⟨#[]⟩, .bool false, .string ⟨#[]⟩] ∧ Own wr (w1.heap.size) 0 [.bool (ng mk.num), .string (mg mk.num.natAbs), .bool false, .string (mg (dn mk))] ∧ (k = 0 → Below wz5.heap.size wz5 wr) ∧ Below w.heap.size w wr ∧ k ≤ 1 ∧ Hid ((k = 0 → LeaR (aheadL r1 r2 p.q q.q (N.rs.take i) none) mk fk) ∧ (1 ≤ k → LeaR (lessE (aheadL r1 r2 p.q q.q (N.rs.take i) none) (wayE x30 (offsE x30 r1 p.q) (offsE x30 r2 q.q))) mk fk)) ∧ Pl.Sz 5000 mk) (fun _ s14 _ => 1 - (intOf s14).toNat)
        case atStart => exact ⟨0, mj, fj, rfl, rfl, b143, b144, b145, b146, b147, fun _ => hA151, hB149, (by omega), Lib.hid ⟨fun _ => HJ.out.1 (by first | rfl | trivial), fun h_ => absurd h_ (by decide)⟩, ZMj⟩
        case round =>
         clear b143 b144 b145 b146 b147 hB149 hA151
         obtain ⟨k, mk, fk, rfl, rfl, b152, b153, b154, b155, b156, hA157, hB158, hk, HK, ZMk⟩ := hrel
         obtain ⟨wr159, hwr159⟩ : ∃ W_, W_ = wr := ⟨_, rfl⟩
         subst hwr159
         rcases (show k = 0 ∨ k = 1 by omega) with rfl | rfl
         ·skip
          have hA160 := hA157 (by first | rfl | trivial)
          go_upto_region 14 with fail
          refine wp_named ?_
          intro W6 hW6
          have hL6 : Below wr159.heap.size wr159 W6 := by
           rw [hW6]
           exact bB7
          have c161 := b152.up hL6
          have c162 := b153.up hL6
          have c163 := b154.up hL6
          have c164 := b155.up hL6
          have c165 := b156.up hL6
          have hA166 := bel_up hA160 hL6
          have hB167 : Below w.heap.size w W6 := by
           rw [hW6]
           exact bB7
          clear hW6 hL6 b152 b153 b154 b155 b156 hA160
          have K169 := Lib.hid (fun W => qsub_any x2 x1 W (ZX2.mono (by decide)) (ZX1.mono (by decide)))
          obtain ⟨g172, o173, ha174, -⟩ := (LX.up HXlb.out kpQ hA166) _ _ (show [x2][0]? = some x2 from rfl)
          subst ha174
          have ce171 := LX.at_ ((LX.up HXlb.out kpQ hA166)) (show [x2][0]? = some x2 from rfl)
          have ce171_ : g172 < W6.heap.size := World.block_lt_of_cell? _ _ ce171.1
          obtain ⟨g176, o177, ha178, -⟩ := (LX.up HXla.out kpQ hA166) _ _ (show [x1][0]? = some x1 from rfl)
          subst ha178
          have ce175 := LX.at_ ((LX.up HXla.out kpQ hA166)) (show [x1][0]? = some x1 from rfl)
          have ce175_ : g176 < W6.heap.size := World.block_lt_of_cell? _ _ ce175.1
          refine wp_region_new1 10 9 15 [.bool false, .string ⟨#[]⟩, .bool false, .string ⟨#[]⟩] 40 (by kernel_rfl) (by kernel_rfl) rfl rfl rfl rfl (by intro h_; cases h_) (by simp) (run_alloc_zero Tryz.zeroValue40 rfl) (by kernel_rfl) ?_
          intro V_168 hV_168
          have vc161 := c161.up hV_168; have dc161 := fun p : Bel V_168 => vc161.bel p
          have vc162 := c162.up hV_168; have dc162 := fun p : Bel V_168 => vc162.bel p
          have vc163 := c163.up hV_168; have dc163 := fun p : Bel V_168 => vc163.bel p
          have vc164 := c164.up hV_168; have dc164 := fun p : Bel V_168 => vc164.bel p
          have vc165 := c165.up hV_168; have dc165 := fun p : Bel V_168 => vc165.bel p
          simp only [At, Own, Nat.reduceAdd, and_true] at dc161 dc162 dc163 dc164 dc165
          have vce171 := ce171.up hV_168; have dce171 := fun b : Bel V_168 => vce171.bel b
          simp only [CQ, qc, At, Nat.reduceMul, Nat.zero_mul, Nat.add_zero, Nat.add_assoc, Nat.reduceAdd] at dce171
          have vce175 := ce175.up hV_168; have dce175 := fun b : Bel V_168 => vce175.bel b
          simp only [CQ, qc, At, Nat.reduceMul, Nat.zero_mul, Nat.add_zero, Nat.add_assoc, Nat.reduceAdd] at dce175
          have hBV_168 := bel_up hB167 hV_168
          have hA179 := bel_up hA166 hV_168
          simp only [List.map_cons, List.map_nil, maskOp, List.take_succ_cons, List.take_zero]
          repeat (go_big_quiet_step (first | (go_at_call 75; with_reducible exact Calls.bel (K169.out _))))
          refine wpQuiet_nil ?_
          refine ⟨[.bool (ng ((x2 - x1).num)), .string (mg ((x2 - x1).num).natAbs), .bool false, .string (mg (dn (x2 - x1)))], rfl, rfl, by simp [Value.oneCell'], ?_⟩
          intro bq170 wn_168 hbn_168 lbq170 mbq170 c180
          simp only [Act.put, List.setIfInBounds_toArray, List.set_cons_zero, List.set_cons_succ]
          have ne181 : w.heap.size ≠ bq170 := by have := c161.lt; omega
          have ne181' := ne181.symm
          have ne182 : w.heap.size + 1 ≠ bq170 := by have := c162.lt; omega
          have ne182' := ne182.symm
          have ne183 : w.heap.size + 2 ≠ bq170 := by have := c163.lt; omega
          have ne183' := ne183.symm
          have ne184 : w.heap.size + 3 ≠ bq170 := by have := c164.lt; omega
          have ne184' := ne184.symm
          have ne185 : w1.heap.size ≠ bq170 := by have := c165.lt; omega
          have ne185' := ne185.symm
          have ne186 : g176 ≠ bq170 := by omega
          have ne186' := ne186.symm
          have ne187 : g172 ≠ bq170 := by omega
          have ne187' := ne187.symm
          have wbq170 := Nat.le_trans hB167.size lbq170
          have an188 : wz5.heap.size ≤ bq170 := Nat.le_trans hA166.size lbq170
          clear hA179 hBV_168 dce175 vce175 dce171 vce171 dc165 vc165 dc164 vc164 dc163 vc163 dc162 vc162 dc161 vc161 hV_168 V_168
          have c189 := c161.up hbn_168
          have c190 := c162.up hbn_168
          have c191 := c163.up hbn_168
          have c192 := c164.up hbn_168
          have c193 := c165.up hbn_168
          have hA194 := bel_up hA166 hbn_168
          have hB195 : Below w.heap.size w wn_168 := bel_up hB167 hbn_168
          clear c161 c162 c163 c164 c165 hA166
          have kK196 := fun W => qsign_any (x2 - x1) W
          generalize hT198 : Pl.sgn (x2 - x1) = t197 at kK196
          have K196 := Lib.hid kK196
          clear kK196
          have T199 := Lib.hid (sgnS hT198)
          have HhT198 := Lib.hid hT198
          clear hT198
          rcases T199.out with rfl | rfl | rfl
          ·skip
           have uc189 := c189; have uc190 := c190; have uc191 := c191; have uc192 := c192; have uc193 := c193; have uc180 := c180
           simp only [At, Own, Nat.reduceAdd, and_true] at uc189 uc190 uc191 uc192 uc193 uc180
           go_wp2_with (fail)
           refine calls_named ?_
           intro W8 hW8
           have hL8 : Below wn_168.heap.size wn_168 W8 := by
            rw [hW8]
            exact bB7
           have c216 := c189.up hL8
           have c217 := c190.up hL8
           have c218 := c191.up hL8
           have c219 := c192.up hL8
           have c220 := c193.up hL8
           have c221 := c180.up hL8
           have hA222 := bel_up hA194 hL8
           have hB223 : Below w.heap.size w W8 := by
            rw [hW8]
            exact bB7
           clear hW8 hL8 uc189 uc190 uc191 uc192 uc193 uc180 c189 c190 c191 c192 c193 c180 hA194
           with_reducible refine (K196.out _).mono ?_
           rintro e w8 ⟨rfl, hb8⟩
           have c224 := c216.up hb8
           have c225 := c217.up hb8
           have c226 := c218.up hb8
           have c227 := c219.up hb8
           have c228 := c220.up hb8
           have c229 := c221.up hb8
           have hA230 := bel_up hA222 hb8
           have hB231 : Below w.heap.size w w8 := bel_up hB223 hb8
           clear c216 c217 c218 c219 c220 c221 hA222
           have uc224 := c224; have uc225 := c225; have uc226 := c226; have uc227 := c227; have uc228 := c228; have uc229 := c229
           simp only [At, Own, Nat.reduceAdd, and_true] at uc224 uc225 uc226 uc227 uc228 uc229
           have ce232 := LX.at_ ((HXR.out).up kpR hB231) Hhx31.out
           have ce232_ : g125 < w8.heap.size := World.block_lt_of_cell? _ _ ce232.1
           have uce232 := ce232
           simp only [CR, rdc, At, Nat.reduceMul] at uce232
           rcases hb233 : x30.o with _ | _
           ·skip
            have K234 := Lib.hid (fun W => qabs_any (x2 - x1) W)
            go_wp2_with (fail)
            refine calls_named ?_
            intro W9 hW9
            have hL9 : Below w8.heap.size w8 W9 := by
             rw [hW9]
             exact bB7
            have c235 := c224.up hL9
            have c236 := c225.up hL9
            have c237 := c226.up hL9
            have c238 := c227.up hL9
            have c239 := c228.up hL9
            have c240 := c229.up hL9
            have hA241 := bel_up hA230 hL9
            have hB242 : Below w.heap.size w W9 := by
             rw [hW9]
             exact bB7
            clear hW9 hL9 uc224 uc225 uc226 uc227 uc228 uc229 uce232 c224 c225 c226 c227 c228 c229 hA230
            with_reducible refine (K234.out _).mono ?_
            rintro e w9 ⟨rfl, hb9⟩
            have c243 := c235.up hb9
            have c244 := c236.up hb9
            have c245 := c237.up hb9
            have c246 := c238.up hb9
            have c247 := c239.up hb9
            have c248 := c240.up hb9
            have hA249 := bel_up hA241 hb9
            have hB250 : Below w.heap.size w w9 := bel_up hB242 hb9
            clear c235 c236 c237 c238 c239 c240 hA241
            have uc243 := c243; have uc244 := c244; have uc245 := c245; have uc246 := c246; have uc247 := c247; have uc248 := c248
            simp only [At, Own, Nat.reduceAdd, and_true] at uc243 uc244 uc245 uc246 uc247 uc248
            have kK251 := fun W => qcmp_any (absQ (x2 - x1)) mk W ((absQ_sz (ZX2.sub ZX1)).mono (by decide)) (ZMk.mono (by decide))
            generalize hT253 : Pl.cmpQ (absQ (x2 - x1)) mk = t252 at kK251
            have K251 := Lib.hid kK251
            clear kK251
            have T254 := Lib.hid (sgnQ hT253)
            have HhT253 := Lib.hid hT253
            clear hT253
            cases fk
            ·skip
             go_wp2
             go_roundw
             case rel => exact ⟨1, (absQ (x2 - x1)), true, (by first | rfl | exact congrArg (Value.int .i64) (by omega) | simp [*]), rfl, oF7, oF7, oF7, oF7, (by simp [Own, go_sem, uc243, uc244, uc245, uc246, uc247, uc248, ne181, ne181', ne182, ne182', ne183, ne183', ne184, ne184', ne185, ne185', ne186, ne186', ne187, ne187']), (fun h_ => absurd h_ (by decide)), (by exact bB7), (by omega), Lib.hid ⟨fun h_ => absurd h_ (by decide), fun _ => lea_first (HK.out.1 (by first | rfl | trivial)) (way_two HO1.out HO2.out hb233)⟩, ((absQ_sz (ZX2.sub ZX1)).mono (by decide))⟩
             case measure => simp [intOf] <;> omega
            ·skip
             go_wp2_with (fail)
             refine calls_named ?_
             intro W10 hW10
             have c255 : Own W10 (w.heap.size) 0 [.slice An Nn cn, .slice (some ⟨g125, o126, none⟩) Nr cr] := by rw [hW10]; simp [Own, go_sem, uc243, uc244, uc245, uc246, uc247, uc248, ne181, ne181', ne182, ne182', ne183, ne183', ne184, ne184', ne185, ne185', ne186, ne186', ne187, ne187']
             have c256 : Own W10 (w.heap.size + 1) 0 [.int .i64 p.r, .bool (ng p.q.num), .string (mg p.q.num.natAbs), .bool false, .string (mg (dn p.q))] := by rw [hW10]; simp [Own, go_sem, uc243, uc244, uc245, uc246, uc247, uc248, ne181, ne181', ne182, ne182', ne183, ne183', ne184, ne184', ne185, ne185', ne186, ne186', ne187, ne187']
             have c257 : Own W10 (w.heap.size + 2) 0 [.int .i64 q.r, .bool (ng q.q.num), .string (mg q.q.num.natAbs), .bool false, .string (mg (dn q.q))] := by rw [hW10]; simp [Own, go_sem, uc243, uc244, uc245, uc246, uc247, uc248, ne181, ne181', ne182, ne182', ne183, ne183', ne184, ne184', ne185, ne185', ne186, ne186', ne187, ne187']
             have c258 : Own W10 (w.heap.size + 3) 0 [.bool false, .string ⟨#[]⟩, .bool false, .string ⟨#[]⟩] := by rw [hW10]; simp [Own, go_sem, uc243, uc244, uc245, uc246, uc247, uc248, ne181, ne181', ne182, ne182', ne183, ne183', ne184, ne184', ne185, ne185', ne186, ne186', ne187, ne187']
             have c259 : Own W10 (w1.heap.size) 0 [.bool (ng mk.num), .string (mg mk.num.natAbs), .bool false, .string (mg (dn mk))] := by rw [hW10]; simp [Own, go_sem, uc243, uc244, uc245, uc246, uc247, uc248, ne181, ne181', ne182, ne182', ne183, ne183', ne184, ne184', ne185, ne185', ne186, ne186', ne187, ne187']
             have c260 : Own W10 (bq170) 0 [.bool (ng ((absQ (x2 - x1)).num)), .string (mg ((absQ (x2 - x1)).num).natAbs), .bool false, .string (mg (dn (absQ (x2 - x1))))] := by rw [hW10]; simp [Own, go_sem, uc243, uc244, uc245, uc246, uc247, uc248, ne181, ne181', ne182, ne182', ne183, ne183', ne184, ne184', ne185, ne185', ne186, ne186', ne187, ne187']
             have hA261 : Below wz5.heap.size wz5 W10 := by
              rw [hW10]
              exact bB7
             have hB262 : Below w.heap.size w W10 := by
              rw [hW10]
              exact bB7
             clear hW10 uc243 uc244 uc245 uc246 uc247 uc248 c243 c244 c245 c246 c247 c248 hA249
             with_reducible refine (K251.out _).mono ?_
             rintro e w10 ⟨rfl, hb10⟩
             have c263 := c255.up hb10
             have c264 := c256.up hb10
             have c265 := c257.up hb10
             have c266 := c258.up hb10
             have c267 := c259.up hb10
             have c268 := c260.up hb10
             have hA269 := bel_up hA261 hb10
             have hB270 : Below w.heap.size w w10 := bel_up hB262 hb10
             clear c255 c256 c257 c258 c259 c260 hA261
             rcases T254.out with rfl | rfl | rfl
             ·skip
              have uc263 := c263; have uc264 := c264; have uc265 := c265; have uc266 := c266; have uc267 := c267; have uc268 := c268
              simp only [At, Own, Nat.reduceAdd, and_true] at uc263 uc264 uc265 uc266 uc267 uc268
              go_wp2
              go_roundw
              case rel => exact ⟨1, (absQ (x2 - x1)), true, (by first | rfl | exact congrArg (Value.int .i64) (by omega) | simp [*]), rfl, oF7, oF7, oF7, oF7, (by simp [Own, go_sem, uc263, uc264, uc265, uc266, uc267, uc268, ne181, ne181', ne182, ne182', ne183, ne183', ne184, ne184', ne185, ne185', ne186, ne186', ne187, ne187']), (fun h_ => absurd h_ (by decide)), (by exact bB7), (by omega), Lib.hid ⟨fun h_ => absurd h_ (by decide), fun _ => lea_less (HK.out.1 (by first | rfl | trivial)) (way_two HO1.out HO2.out hb233) (by rw [HhT253.out]; decide)⟩, ((absQ_sz (ZX2.sub ZX1)).mono (by decide))⟩
              case measure => simp [intOf] <;> omega
             ·skip
              have uc263 := c263; have uc264 := c264; have uc265 := c265; have uc266 := c266; have uc267 := c267; have uc268 := c268
              simp only [At, Own, Nat.reduceAdd, and_true] at uc263 uc264 uc265 uc266 uc267 uc268
              go_wp2
              go_roundw
              case rel => exact ⟨1, mk, true, (by first | rfl | exact congrArg (Value.int .i64) (by omega) | simp [*]), rfl, oF7, oF7, oF7, oF7, oF7, (fun h_ => absurd h_ (by decide)), (by exact bB7), (by omega), Lib.hid ⟨fun h_ => absurd h_ (by decide), fun _ => lea_keep (HK.out.1 (by first | rfl | trivial)) (way_two HO1.out HO2.out hb233) (by rw [HhT253.out]; decide)⟩, ZMk⟩
              case measure => simp [intOf] <;> omega
             ·skip
              have uc263 := c263; have uc264 := c264; have uc265 := c265; have uc266 := c266; have uc267 := c267; have uc268 := c268
              simp only [At, Own, Nat.reduceAdd, and_true] at uc263 uc264 uc265 uc266 uc267 uc268
              go_wp2
              go_roundw
              case rel => exact ⟨1, mk, true, (by first | rfl | exact congrArg (Value.int .i64) (by omega) | simp [*]), rfl, oF7, oF7, oF7, oF7, oF7, (fun h_ => absurd h_ (by decide)), (by exact bB7), (by omega), Lib.hid ⟨fun h_ => absurd h_ (by decide), fun _ => lea_keep (HK.out.1 (by first | rfl | trivial)) (way_two HO1.out HO2.out hb233) (by rw [HhT253.out]; decide)⟩, ZMk⟩
              case measure => simp [intOf] <;> omega
           ·skip
            go_wp2
            go_roundw
            case rel => exact ⟨1, mk, fk, (by first | rfl | exact congrArg (Value.int .i64) (by omega) | simp [*]), rfl, oF7, oF7, oF7, oF7, oF7, (fun h_ => absurd h_ (by decide)), (by exact bB7), (by omega), Lib.hid ⟨fun h_ => absurd h_ (by decide), fun _ => lea_skip (HK.out.1 (by first | rfl | trivial)) (way_back HO1.out HO2.out hb233 (by rw [HhT198.out]; decide))⟩, ZMk⟩
            case measure => simp [intOf] <;> omega
          ·skip
           have uc189 := c189; have uc190 := c190; have uc191 := c191; have uc192 := c192; have uc193 := c193; have uc180 := c180
           simp only [At, Own, Nat.reduceAdd, and_true] at uc189 uc190 uc191 uc192 uc193 uc180
           go_wp2_with (fail)
           refine calls_named ?_
           intro W11 hW11
           have hL11 : Below wn_168.heap.size wn_168 W11 := by
            rw [hW11]
            exact bB7
           have c271 := c189.up hL11
           have c272 := c190.up hL11
           have c273 := c191.up hL11
           have c274 := c192.up hL11
           have c275 := c193.up hL11
           have c276 := c180.up hL11
           have hA277 := bel_up hA194 hL11
           have hB278 : Below w.heap.size w W11 := by
            rw [hW11]
            exact bB7
           clear hW11 hL11 uc189 uc190 uc191 uc192 uc193 uc180 c189 c190 c191 c192 c193 c180 hA194
           with_reducible refine (K196.out _).mono ?_
           rintro e w11 ⟨rfl, hb11⟩
           have c279 := c271.up hb11
           have c280 := c272.up hb11
           have c281 := c273.up hb11
           have c282 := c274.up hb11
           have c283 := c275.up hb11
           have c284 := c276.up hb11
           have hA285 := bel_up hA277 hb11
           have hB286 : Below w.heap.size w w11 := bel_up hB278 hb11
           clear c271 c272 c273 c274 c275 c276 hA277
           have uc279 := c279; have uc280 := c280; have uc281 := c281; have uc282 := c282; have uc283 := c283; have uc284 := c284
           simp only [At, Own, Nat.reduceAdd, and_true] at uc279 uc280 uc281 uc282 uc283 uc284
           have K287 := Lib.hid (fun W => qabs_any (x2 - x1) W)
           go_wp2_with (fail)
           refine calls_named ?_
           intro W12 hW12
           have hL12 : Below w11.heap.size w11 W12 := by
            rw [hW12]
            exact bB7
           have c288 := c279.up hL12
           have c289 := c280.up hL12
           have c290 := c281.up hL12
           have c291 := c282.up hL12
           have c292 := c283.up hL12
           have c293 := c284.up hL12
           have hA294 := bel_up hA285 hL12
           have hB295 : Below w.heap.size w W12 := by
            rw [hW12]
            exact bB7
           clear hW12 hL12 uc279 uc280 uc281 uc282 uc283 uc284 c279 c280 c281 c282 c283 c284 hA285
           with_reducible refine (K287.out _).mono ?_
           rintro e w12 ⟨rfl, hb12⟩
           have c296 := c288.up hb12
           have c297 := c289.up hb12
           have c298 := c290.up hb12
           have c299 := c291.up hb12
           have c300 := c292.up hb12
           have c301 := c293.up hb12
           have hA302 := bel_up hA294 hb12
           have hB303 : Below w.heap.size w w12 := bel_up hB295 hb12
           clear c288 c289 c290 c291 c292 c293 hA294
           have uc296 := c296; have uc297 := c297; have uc298 := c298; have uc299 := c299; have uc300 := c300; have uc301 := c301
           simp only [At, Own, Nat.reduceAdd, and_true] at uc296 uc297 uc298 uc299 uc300 uc301
           have kK304 := fun W => qcmp_any (absQ (x2 - x1)) mk W ((absQ_sz (ZX2.sub ZX1)).mono (by decide)) (ZMk.mono (by decide))
           generalize hT306 : Pl.cmpQ (absQ (x2 - x1)) mk = t305 at kK304
           have K304 := Lib.hid kK304
           clear kK304
           have T307 := Lib.hid (sgnQ hT306)
           have HhT306 := Lib.hid hT306
           clear hT306
           cases fk
           ·skip
            go_wp2
            go_roundw
            case rel => exact ⟨1, (absQ (x2 - x1)), true, (by first | rfl | exact congrArg (Value.int .i64) (by omega) | simp [*]), rfl, oF7, oF7, oF7, oF7, (by simp [Own, go_sem, uc296, uc297, uc298, uc299, uc300, uc301, ne181, ne181', ne182, ne182', ne183, ne183', ne184, ne184', ne185, ne185', ne186, ne186', ne187, ne187']), (fun h_ => absurd h_ (by decide)), (by exact bB7), (by omega), Lib.hid ⟨fun h_ => absurd h_ (by decide), fun _ => lea_first (HK.out.1 (by first | rfl | trivial)) (way_one HO1.out HO2.out (by rw [HhT198.out]; decide))⟩, ((absQ_sz (ZX2.sub ZX1)).mono (by decide))⟩
            case measure => simp [intOf] <;> omega
           ·skip
            go_wp2_with (fail)
            refine calls_named ?_
            intro W13 hW13
            have c308 : Own W13 (w.heap.size) 0 [.slice An Nn cn, .slice (some ⟨g125, o126, none⟩) Nr cr] := by rw [hW13]; simp [Own, go_sem, uc296, uc297, uc298, uc299, uc300, uc301, ne181, ne181', ne182, ne182', ne183, ne183', ne184, ne184', ne185, ne185', ne186, ne186', ne187, ne187']
            have c309 : Own W13 (w.heap.size + 1) 0 [.int .i64 p.r, .bool (ng p.q.num), .string (mg p.q.num.natAbs), .bool false, .string (mg (dn p.q))] := by rw [hW13]; simp [Own, go_sem, uc296, uc297, uc298, uc299, uc300, uc301, ne181, ne181', ne182, ne182', ne183, ne183', ne184, ne184', ne185, ne185', ne186, ne186', ne187, ne187']
            have c310 : Own W13 (w.heap.size + 2) 0 [.int .i64 q.r, .bool (ng q.q.num), .string (mg q.q.num.natAbs), .bool false, .string (mg (dn q.q))] := by rw [hW13]; simp [Own, go_sem, uc296, uc297, uc298, uc299, uc300, uc301, ne181, ne181', ne182, ne182', ne183, ne183', ne184, ne184', ne185, ne185', ne186, ne186', ne187, ne187']
            have c311 : Own W13 (w.heap.size + 3) 0 [.bool false, .string ⟨#[]⟩, .bool false, .string ⟨#[]⟩] := by rw [hW13]; simp [Own, go_sem, uc296, uc297, uc298, uc299, uc300, uc301, ne181, ne181', ne182, ne182', ne183, ne183', ne184, ne184', ne185, ne185', ne186, ne186', ne187, ne187']
            have c312 : Own W13 (w1.heap.size) 0 [.bool (ng mk.num), .string (mg mk.num.natAbs), .bool false, .string (mg (dn mk))] := by rw [hW13]; simp [Own, go_sem, uc296, uc297, uc298, uc299, uc300, uc301, ne181, ne181', ne182, ne182', ne183, ne183', ne184, ne184', ne185, ne185', ne186, ne186', ne187, ne187']
            have c313 : Own W13 (bq170) 0 [.bool (ng ((absQ (x2 - x1)).num)), .string (mg ((absQ (x2 - x1)).num).natAbs), .bool false, .string (mg (dn (absQ (x2 - x1))))] := by rw [hW13]; simp [Own, go_sem, uc296, uc297, uc298, uc299, uc300, uc301, ne181, ne181', ne182, ne182', ne183, ne183', ne184, ne184', ne185, ne185', ne186, ne186', ne187, ne187']
            have hA314 : Below wz5.heap.size wz5 W13 := by
             rw [hW13]
             exact bB7
            have hB315 : Below w.heap.size w W13 := by
             rw [hW13]
             exact bB7
            clear hW13 uc296 uc297 uc298 uc299 uc300 uc301 c296 c297 c298 c299 c300 c301 hA302
            with_reducible refine (K304.out _).mono ?_
            rintro e w13 ⟨rfl, hb13⟩
            have c316 := c308.up hb13
            have c317 := c309.up hb13
            have c318 := c310.up hb13
            have c319 := c311.up hb13
            have c320 := c312.up hb13
            have c321 := c313.up hb13
            have hA322 := bel_up hA314 hb13
            have hB323 : Below w.heap.size w w13 := bel_up hB315 hb13
            clear c308 c309 c310 c311 c312 c313 hA314
            rcases T307.out with rfl | rfl | rfl
            ·skip
             have uc316 := c316; have uc317 := c317; have uc318 := c318; have uc319 := c319; have uc320 := c320; have uc321 := c321
             simp only [At, Own, Nat.reduceAdd, and_true] at uc316 uc317 uc318 uc319 uc320 uc321
             go_wp2
             go_roundw
             case rel => exact ⟨1, (absQ (x2 - x1)), true, (by first | rfl | exact congrArg (Value.int .i64) (by omega) | simp [*]), rfl, oF7, oF7, oF7, oF7, (by simp [Own, go_sem, uc316, uc317, uc318, uc319, uc320, uc321, ne181, ne181', ne182, ne182', ne183, ne183', ne184, ne184', ne185, ne185', ne186, ne186', ne187, ne187']), (fun h_ => absurd h_ (by decide)), (by exact bB7), (by omega), Lib.hid ⟨fun h_ => absurd h_ (by decide), fun _ => lea_less (HK.out.1 (by first | rfl | trivial)) (way_one HO1.out HO2.out (by rw [HhT198.out]; decide)) (by rw [HhT306.out]; decide)⟩, ((absQ_sz (ZX2.sub ZX1)).mono (by decide))⟩
             case measure => simp [intOf] <;> omega
            ·skip
             have uc316 := c316; have uc317 := c317; have uc318 := c318; have uc319 := c319; have uc320 := c320; have uc321 := c321
             simp only [At, Own, Nat.reduceAdd, and_true] at uc316 uc317 uc318 uc319 uc320 uc321
             go_wp2
             go_roundw
             case rel => exact ⟨1, mk, true, (by first | rfl | exact congrArg (Value.int .i64) (by omega) | simp [*]), rfl, oF7, oF7, oF7, oF7, oF7, (fun h_ => absurd h_ (by decide)), (by exact bB7), (by omega), Lib.hid ⟨fun h_ => absurd h_ (by decide), fun _ => lea_keep (HK.out.1 (by first | rfl | trivial)) (way_one HO1.out HO2.out (by rw [HhT198.out]; decide)) (by rw [HhT306.out]; decide)⟩, ZMk⟩
             case measure => simp [intOf] <;> omega
            ·skip
             have uc316 := c316; have uc317 := c317; have uc318 := c318; have uc319 := c319; have uc320 := c320; have uc321 := c321
             simp only [At, Own, Nat.reduceAdd, and_true] at uc316 uc317 uc318 uc319 uc320 uc321
             go_wp2
             go_roundw
             case rel => exact ⟨1, mk, true, (by first | rfl | exact congrArg (Value.int .i64) (by omega) | simp [*]), rfl, oF7, oF7, oF7, oF7, oF7, (fun h_ => absurd h_ (by decide)), (by exact bB7), (by omega), Lib.hid ⟨fun h_ => absurd h_ (by decide), fun _ => lea_keep (HK.out.1 (by first | rfl | trivial)) (way_one HO1.out HO2.out (by rw [HhT198.out]; decide)) (by rw [HhT306.out]; decide)⟩, ZMk⟩
             case measure => simp [intOf] <;> omega
          ·skip
           have uc189 := c189; have uc190 := c190; have uc191 := c191; have uc192 := c192; have uc193 := c193; have uc180 := c180
           simp only [At, Own, Nat.reduceAdd, and_true] at uc189 uc190 uc191 uc192 uc193 uc180
           go_wp2_with (fail)
           refine calls_named ?_
           intro W14 hW14
           have hL14 : Below wn_168.heap.size wn_168 W14 := by
            rw [hW14]
            exact bB7
           have c324 := c189.up hL14
           have c325 := c190.up hL14
           have c326 := c191.up hL14
           have c327 := c192.up hL14
           have c328 := c193.up hL14
           have c329 := c180.up hL14
           have hA330 := bel_up hA194 hL14
           have hB331 : Below w.heap.size w W14 := by
            rw [hW14]
            exact bB7
           clear hW14 hL14 uc189 uc190 uc191 uc192 uc193 uc180 c189 c190 c191 c192 c193 c180 hA194
           with_reducible refine (K196.out _).mono ?_
           rintro e w14 ⟨rfl, hb14⟩
           have c332 := c324.up hb14
           have c333 := c325.up hb14
           have c334 := c326.up hb14
           have c335 := c327.up hb14
           have c336 := c328.up hb14
           have c337 := c329.up hb14
           have hA338 := bel_up hA330 hb14
           have hB339 : Below w.heap.size w w14 := bel_up hB331 hb14
           clear c324 c325 c326 c327 c328 c329 hA330
           have uc332 := c332; have uc333 := c333; have uc334 := c334; have uc335 := c335; have uc336 := c336; have uc337 := c337
           simp only [At, Own, Nat.reduceAdd, and_true] at uc332 uc333 uc334 uc335 uc336 uc337
           have K340 := Lib.hid (fun W => qabs_any (x2 - x1) W)
           go_wp2_with (fail)
           refine calls_named ?_
           intro W15 hW15
           have hL15 : Below w14.heap.size w14 W15 := by
            rw [hW15]
            exact bB7
           have c341 := c332.up hL15
           have c342 := c333.up hL15
           have c343 := c334.up hL15
           have c344 := c335.up hL15
           have c345 := c336.up hL15
           have c346 := c337.up hL15
           have hA347 := bel_up hA338 hL15
           have hB348 : Below w.heap.size w W15 := by
            rw [hW15]
            exact bB7
           clear hW15 hL15 uc332 uc333 uc334 uc335 uc336 uc337 c332 c333 c334 c335 c336 c337 hA338
           with_reducible refine (K340.out _).mono ?_
           rintro e w15 ⟨rfl, hb15⟩
           have c349 := c341.up hb15
           have c350 := c342.up hb15
           have c351 := c343.up hb15
           have c352 := c344.up hb15
           have c353 := c345.up hb15
           have c354 := c346.up hb15
           have hA355 := bel_up hA347 hb15
           have hB356 : Below w.heap.size w w15 := bel_up hB348 hb15
           clear c341 c342 c343 c344 c345 c346 hA347
           have uc349 := c349; have uc350 := c350; have uc351 := c351; have uc352 := c352; have uc353 := c353; have uc354 := c354
           simp only [At, Own, Nat.reduceAdd, and_true] at uc349 uc350 uc351 uc352 uc353 uc354
           have kK357 := fun W => qcmp_any (absQ (x2 - x1)) mk W ((absQ_sz (ZX2.sub ZX1)).mono (by decide)) (ZMk.mono (by decide))
           generalize hT359 : Pl.cmpQ (absQ (x2 - x1)) mk = t358 at kK357
           have K357 := Lib.hid kK357
           clear kK357
           have T360 := Lib.hid (sgnQ hT359)
           have HhT359 := Lib.hid hT359
           clear hT359
           cases fk
           ·skip
            go_wp2
            go_roundw
            case rel => exact ⟨1, (absQ (x2 - x1)), true, (by first | rfl | exact congrArg (Value.int .i64) (by omega) | simp [*]), rfl, oF7, oF7, oF7, oF7, (by simp [Own, go_sem, uc349, uc350, uc351, uc352, uc353, uc354, ne181, ne181', ne182, ne182', ne183, ne183', ne184, ne184', ne185, ne185', ne186, ne186', ne187, ne187']), (fun h_ => absurd h_ (by decide)), (by exact bB7), (by omega), Lib.hid ⟨fun h_ => absurd h_ (by decide), fun _ => lea_first (HK.out.1 (by first | rfl | trivial)) (way_one HO1.out HO2.out (by rw [HhT198.out]; decide))⟩, ((absQ_sz (ZX2.sub ZX1)).mono (by decide))⟩
            case measure => simp [intOf] <;> omega
           ·skip
            go_wp2_with (fail)
            refine calls_named ?_
            intro W16 hW16
            have c361 : Own W16 (w.heap.size) 0 [.slice An Nn cn, .slice (some ⟨g125, o126, none⟩) Nr cr] := by rw [hW16]; simp [Own, go_sem, uc349, uc350, uc351, uc352, uc353, uc354, ne181, ne181', ne182, ne182', ne183, ne183', ne184, ne184', ne185, ne185', ne186, ne186', ne187, ne187']
            have c362 : Own W16 (w.heap.size + 1) 0 [.int .i64 p.r, .bool (ng p.q.num), .string (mg p.q.num.natAbs), .bool false, .string (mg (dn p.q))] := by rw [hW16]; simp [Own, go_sem, uc349, uc350, uc351, uc352, uc353, uc354, ne181, ne181', ne182, ne182', ne183, ne183', ne184, ne184', ne185, ne185', ne186, ne186', ne187, ne187']
            have c363 : Own W16 (w.heap.size + 2) 0 [.int .i64 q.r, .bool (ng q.q.num), .string (mg q.q.num.natAbs), .bool false, .string (mg (dn q.q))] := by rw [hW16]; simp [Own, go_sem, uc349, uc350, uc351, uc352, uc353, uc354, ne181, ne181', ne182, ne182', ne183, ne183', ne184, ne184', ne185, ne185', ne186, ne186', ne187, ne187']
            have c364 : Own W16 (w.heap.size + 3) 0 [.bool false, .string ⟨#[]⟩, .bool false, .string ⟨#[]⟩] := by rw [hW16]; simp [Own, go_sem, uc349, uc350, uc351, uc352, uc353, uc354, ne181, ne181', ne182, ne182', ne183, ne183', ne184, ne184', ne185, ne185', ne186, ne186', ne187, ne187']
            have c365 : Own W16 (w1.heap.size) 0 [.bool (ng mk.num), .string (mg mk.num.natAbs), .bool false, .string (mg (dn mk))] := by rw [hW16]; simp [Own, go_sem, uc349, uc350, uc351, uc352, uc353, uc354, ne181, ne181', ne182, ne182', ne183, ne183', ne184, ne184', ne185, ne185', ne186, ne186', ne187, ne187']
            have c366 : Own W16 (bq170) 0 [.bool (ng ((absQ (x2 - x1)).num)), .string (mg ((absQ (x2 - x1)).num).natAbs), .bool false, .string (mg (dn (absQ (x2 - x1))))] := by rw [hW16]; simp [Own, go_sem, uc349, uc350, uc351, uc352, uc353, uc354, ne181, ne181', ne182, ne182', ne183, ne183', ne184, ne184', ne185, ne185', ne186, ne186', ne187, ne187']
            have hA367 : Below wz5.heap.size wz5 W16 := by
             rw [hW16]
             exact bB7
            have hB368 : Below w.heap.size w W16 := by
             rw [hW16]
             exact bB7
            clear hW16 uc349 uc350 uc351 uc352 uc353 uc354 c349 c350 c351 c352 c353 c354 hA355
            with_reducible refine (K357.out _).mono ?_
            rintro e w16 ⟨rfl, hb16⟩
            have c369 := c361.up hb16
            have c370 := c362.up hb16
            have c371 := c363.up hb16
            have c372 := c364.up hb16
            have c373 := c365.up hb16
            have c374 := c366.up hb16
            have hA375 := bel_up hA367 hb16
            have hB376 : Below w.heap.size w w16 := bel_up hB368 hb16
            clear c361 c362 c363 c364 c365 c366 hA367
            rcases T360.out with rfl | rfl | rfl
            ·skip
             have uc369 := c369; have uc370 := c370; have uc371 := c371; have uc372 := c372; have uc373 := c373; have uc374 := c374
             simp only [At, Own, Nat.reduceAdd, and_true] at uc369 uc370 uc371 uc372 uc373 uc374
             go_wp2
             go_roundw
             case rel => exact ⟨1, (absQ (x2 - x1)), true, (by first | rfl | exact congrArg (Value.int .i64) (by omega) | simp [*]), rfl, oF7, oF7, oF7, oF7, (by simp [Own, go_sem, uc369, uc370, uc371, uc372, uc373, uc374, ne181, ne181', ne182, ne182', ne183, ne183', ne184, ne184', ne185, ne185', ne186, ne186', ne187, ne187']), (fun h_ => absurd h_ (by decide)), (by exact bB7), (by omega), Lib.hid ⟨fun h_ => absurd h_ (by decide), fun _ => lea_less (HK.out.1 (by first | rfl | trivial)) (way_one HO1.out HO2.out (by rw [HhT198.out]; decide)) (by rw [HhT359.out]; decide)⟩, ((absQ_sz (ZX2.sub ZX1)).mono (by decide))⟩
             case measure => simp [intOf] <;> omega
            ·skip
             have uc369 := c369; have uc370 := c370; have uc371 := c371; have uc372 := c372; have uc373 := c373; have uc374 := c374
             simp only [At, Own, Nat.reduceAdd, and_true] at uc369 uc370 uc371 uc372 uc373 uc374
             go_wp2
             go_roundw
             case rel => exact ⟨1, mk, true, (by first | rfl | exact congrArg (Value.int .i64) (by omega) | simp [*]), rfl, oF7, oF7, oF7, oF7, oF7, (fun h_ => absurd h_ (by decide)), (by exact bB7), (by omega), Lib.hid ⟨fun h_ => absurd h_ (by decide), fun _ => lea_keep (HK.out.1 (by first | rfl | trivial)) (way_one HO1.out HO2.out (by rw [HhT198.out]; decide)) (by rw [HhT359.out]; decide)⟩, ZMk⟩
             case measure => simp [intOf] <;> omega
            ·skip
             have uc369 := c369; have uc370 := c370; have uc371 := c371; have uc372 := c372; have uc373 := c373; have uc374 := c374
             simp only [At, Own, Nat.reduceAdd, and_true] at uc369 uc370 uc371 uc372 uc373 uc374
             go_wp2
             go_roundw
             case rel => exact ⟨1, mk, true, (by first | rfl | exact congrArg (Value.int .i64) (by omega) | simp [*]), rfl, oF7, oF7, oF7, oF7, oF7, (fun h_ => absurd h_ (by decide)), (by exact bB7), (by omega), Lib.hid ⟨fun h_ => absurd h_ (by decide), fun _ => lea_keep (HK.out.1 (by first | rfl | trivial)) (way_one HO1.out HO2.out (by rw [HhT198.out]; decide)) (by rw [HhT359.out]; decide)⟩, ZMk⟩
             case measure => simp [intOf] <;> omega
         ·skip
          have ub152 := b152; have ub153 := b153; have ub154 := b154; have ub155 := b155; have ub156 := b156
          simp only [At, Own, Nat.reduceAdd, and_true] at ub152 ub153 ub154 ub155 ub156
          go_wp2
          go_roundw
          case rel => exact ⟨1, mk, fk, (by first | rfl | exact congrArg (Value.int .i64) (by omega) | simp [*]), rfl, oF7, oF7, oF7, oF7, oF7, (fun h_ => absurd h_ (by decide)), (by exact bB7), (by omega), Lib.hid ⟨fun h_ => absurd h_ (by decide), fun _ => HK.out.2 (by decide)⟩, ZMk⟩
          case measure => simp [intOf] <;> omega
       ·skip
        have ub143 := b143; have ub144 := b144; have ub145 := b145; have ub146 := b146; have ub147 := b147
        simp only [At, Own, Nat.reduceAdd, and_true] at ub143 ub144 ub145 ub146 ub147
        go_wp2
        go_roundw
        case rel => exact ⟨(i + 1), mj, fj, (by first | rfl | exact congrArg (Value.int .i64) (by omega) | simp [*]), (by first | rfl | exact congrArg (Value.int .i64) (by omega) | simp [*]), oF7, oF7, oF7, oF7, oF7, (by exact bB7), (by omega), Lib.hid (by rw [ahead_succ Hhx31.out]; exact HJ.out.2 (by decide)), ZMj⟩
        case measure => simp [intOf] <;> omega
  ·skip
   have i1i : ¬ (i : Int) < Nr := by omega
   have ub23 := b23; have ub24 := b24; have ub25 := b25; have ub26 := b26; have ub27 := b27
   simp only [At, Own, Nat.reduceAdd, and_true] at ub23 ub24 ub25 ub26 ub27
   go_wp2
   refine bodyPost_ret (v := .tuple #[.agg #[.bool (ng m.num), .string (mg m.num.natAbs), .bool false, .string (mg (dn m))], .bool fd]) (by simp [results, Tryz.results50, go_sem, ub23, ub24, ub25, ub26, ub27]) rfl ⟨(by obtain ⟨rfl, rfl⟩ := lea_eq HX.out (by have h_ := HL.out; rwa [List.take_of_length_le (by rw [HNr.out]; omega)] at h_); rfl), ?_⟩
   exact bB7
end Go.Proofs.YtldfencaoaikgaaGreatDoor
