/-
 Contracts of package network: the offset of a position on a road.
 Contracts of package network: the way ahead along a road.
-/
import Derived.Test.YtldfencaoaikgaaGreatDoorUNw9
set_option maxRecDepth 100000
set_option linter.unusedSimpArgs false
set_option linter.unusedVariables false
namespace Go.Proofs.YtldfencaoaikgaaGreatDoor
open Go Go.RowKit Nw

/-- A world behind blocks that are laid and stores to them. -/
theorem bB7 {p : Prop} (h : p := by repeat (first | with_reducible assumption | with_reducible exact Below.refl _ _ | with_reducible refine bel_alloc ?_ _ | refine Below.setCell ?_ (by first | (simp; done) | (simp; omega) | omega) _)) : p := h
/-- Cells behind blocks that are laid and stores elsewhere. -/
theorem oF7 {p : Prop} (h : p := by repeat (first | with_reducible assumption | refine Own.far _ _ (by simp <;> omega) ?_ | with_reducible refine Own.alloc ?_ _)) : p := h

theorem iabs_any (z : Int) (w : World) : Calls Tryz.prog 103 #[iv z] w fun e w' => e = .returned (iv (z.natAbs : Int)) ∧ Below w.heap.size w w' := by
 have HN : Hid (ng (z.natAbs : Int) = (false && !decide (z.natAbs = 0))) := Lib.hid (by unfold ng; simp)
 have HM : Hid ((z.natAbs : Int).natAbs = z.natAbs) := Lib.hid rfl
 go_enter Tryz.func103, Tryz.ntmps103
 go_wp2_with (go_at_call 100; refine (made_any _ _ _).mono ?_; rintro e w1 ⟨rfl, hb⟩; obtain ⟨hc, hf⟩ := bcell hb)
 have hz := hb.size
 refine bodyPost_ret (v := .agg #[.bool (false && !decide (z.natAbs = 0)), .string (mg z.natAbs)]) (by simp [results, Tryz.results103, go_sem, hc]) rfl ⟨by rw [iv, HN.out, HM.out], ?_⟩
 repeat (refine Below.setCell ?_ (by simp) _)
 exact bel_up (by repeat (first | with_reducible exact Below.refl _ _ | refine Below.drew ?_ | refine Below.alloc ?_ (by first | (simp; done) | (simp; omega) | omega) _ | refine Below.setCell ?_ (by first | (simp; done) | (simp; omega) | omega) _)) hb
theorem absQ_num (a : Rat) : (absQ a).num = (a.num.natAbs : Int) ∧ (absQ a).den = a.den := by
 unfold absQ
 split
 ·rename_i h
  rw [Rat.neg_num, Rat.neg_den]
  have : a.num < 0 := Int.not_le.1 fun q => Rat.not_lt.2 (Rat.num_nonneg.1 q) h
  exact ⟨by omega, rfl⟩
 ·rename_i h
  have : 0 ≤ a.num := Rat.num_nonneg.2 (Rat.not_lt.1 h)
  exact ⟨by omega, rfl⟩
theorem absQ_dn (a : Rat) : dn (absQ a) = dn a := by unfold dn; rw [(absQ_num a).2]
theorem absQ_sz {k : Nat} {a : Rat} (h : Pl.Sz k a) : Pl.Sz k (absQ a) := by
 unfold absQ; split
 ·exact h.neg
 ·exact h

theorem qabs_any (a : Rat) (w : World) :
 Calls Tryz.prog 80 #[qv a] w fun e w' => e = .returned (qv (absQ a)) ∧ Below w.heap.size w w' := by
 go_enter Tryz.func80, Tryz.ntmps80
 have K1 := Lib.hid (fun W => iabs_any a.num W)
 go_wp2_with fail
 refine wp_named ?_
 intro W1 hW1
 have hL1 : Below w.heap.size w W1 := by
  rw [hW1]
  exact bB7
 have c2 : Own W1 (w.heap.size) 0 [.bool (ng a.num), .string (mg a.num.natAbs), .bool false, .string (mg (dn a))] := by
  rw [hW1]
  first
  | (repeat (first | (with_reducible refine own_new (l := [.bool (ng a.num), .string (mg a.num.natAbs), .bool false, .string (mg (dn a))]) ?_; (simp; done)) | with_reducible refine Own.alloc ?_ _ | refine Own.far _ _ (by first | (simp; done) | (simp [*]; done) | (simp; omega)) ?_)); done
  | simp [Own, go_sem]
 have c3 : Own W1 (w.heap.size + 1) 0 [.bool false, .string ⟨#[]⟩, .bool false, .string ⟨#[]⟩] := by
  rw [hW1]
  first
  | (repeat (first | (with_reducible refine own_new (l := [.bool false, .string ⟨#[]⟩, .bool false, .string ⟨#[]⟩]) ?_; (simp; done)) | with_reducible refine Own.alloc ?_ _ | refine Own.far _ _ (by first | (simp; done) | (simp [*]; done) | (simp; omega)) ?_)); done
  | simp [Own, go_sem]
 have hB4 : Below w.heap.size w W1 := by
  rw [hW1]
  exact bB7
 clear hW1 hL1
 have dc2 := fun p : Bel W1 => c2.bel p; have dc3 := fun p : Bel W1 => c3.bel p
 simp only [At, Own, Nat.reduceAdd, and_true] at dc2 dc3
 refine wp_region_tail 6 (by kernel_rfl) (by kernel_rfl) ?_
 simp only [List.take_succ_cons, List.take_zero, List.drop_succ_cons, List.drop_zero]
 repeat (go_big_quiet_step (first | (go_at_call 103; with_reducible exact Calls.bel (K1.out _))))
 refine wpQuiet_nil ?_
 intro w1 hb1
 have c5 := c2.up hb1
 have c6 := c3.up hb1
 have hB7 : Below w.heap.size w w1 := bel_up hB4 hb1
 clear dc2 dc3 c2 c3
 have uc5 := c5; have uc6 := c6
 simp only [At, Own, Nat.reduceAdd, and_true] at uc5 uc6
 go_wp2
 refine bodyPost_ret (v := .agg #[.bool (ng (a.num.natAbs : Int)), .string (mg (a.num.natAbs : Int).natAbs), .bool false, .string (mg (dn a))]) (by simp [results, Tryz.results80, go_sem, uc5, uc6]) rfl ⟨(by unfold qv; rw [(absQ_num a).1, absQ_dn]), ?_⟩
 exact bB7

/-- What offsets returns. -/
def OffR (r r0 : Rd) (q : Rat) (x : Rat) (b : Bool) : Prop := (b = true ∧ offsE r r0 q = some x) ∨ (b = false ∧ offsE r r0 q = none ∧ x = 0)
theorem offR_ex (r r0 : Rd) (q : Rat) : ∃ x b, OffR r r0 q x b := by
 cases h : offsE r r0 q with
 | none => exact ⟨0, false, .inr ⟨rfl, h, rfl⟩⟩
 | some x => exact ⟨x, true, .inl ⟨rfl, h⟩⟩
theorem offR_own {r r0 : Rd} {q x : Rat} {b : Bool} (h : OffR r r0 q x b) (e : r0.i = r.i) : x = q ∧ b = true := by
 have : offsE r r0 q = some q := by unfold offsE; rw [if_pos e]
 rcases h with ⟨h1, h2⟩ | ⟨_, h2, _⟩
 ·rw [this] at h2; injection h2 with h2; exact ⟨h2.symm, h1⟩
 ·rw [this] at h2; cases h2
theorem offR_to {r r0 : Rd} {q x : Rat} {b : Bool} {k : Int} (h : OffR r r0 q x b) (e : ¬ r0.i = r.i) (ha : atR r0 q = some k) (ho : offTo r k = true) : x = offE r k ∧ b = true := by
 have : offsE r r0 q = some (offE r k) := by unfold offsE; rw [if_neg e]; simp only [ha, ho, if_true]
 rcases h with ⟨h1, h2⟩ | ⟨_, h2, _⟩
 ·rw [this] at h2; injection h2 with h2; exact ⟨h2.symm, h1⟩
 ·rw [this] at h2; cases h2
theorem offR_no {r r0 : Rd} {q x : Rat} {b : Bool} {k : Int} (h : OffR r r0 q x b) (e : ¬ r0.i = r.i) (ha : atR r0 q = some k) (ho : offTo r k = false) : x = 0 ∧ b = false := by
 have : offsE r r0 q = none := by unfold offsE; rw [if_neg e]; simp only [ha, ho]; rfl
 rcases h with ⟨_, h2⟩ | ⟨h1, _, h2⟩
 ·rw [this] at h2; cases h2
 ·exact ⟨h2, h1⟩
theorem offR_none {r r0 : Rd} {q x : Rat} {b : Bool} (h : OffR r r0 q x b) (e : ¬ r0.i = r.i) (ha : atR r0 q = none) : x = 0 ∧ b = false := by
 have : offsE r r0 q = none := by unfold offsE; rw [if_neg e]; simp only [ha]
 rcases h with ⟨_, h2⟩ | ⟨h1, _, h2⟩
 ·rw [this] at h2; cases h2
 ·exact ⟨h2, h1⟩
theorem OffR.sz {r r0 : Rd} {q x : Rat} {b : Bool} (h : OffR r r0 q x b) (hq : Pl.Sz 2000 q) (h1 : -1073741824 ≤ r.l) (h2 : r.l ≤ 1073741824) : Pl.Sz 2000 x := by
 rcases h with ⟨_, h⟩ | ⟨_, _, rfl⟩
 ·unfold offsE at h
  split at h
  ·injection h with h; subst h; exact hq
  ·split at h
   ·split at h
    ·injection h with h; subst h; exact (off_sz rfl h1 h2).mono (by decide)
    ·cases h
   ·cases h
 ·exact Pl.sz_zero.mono (by decide)

theorem offs_own (N : Net) (r r0 : Rd) (p : Pc) (x : Rat) (b : Bool) (v : Value) (w : World) (h : NV w v N) (g : Vld N) (hat : Nw.At N r0 p) (hq : Pl.Sz 2000 p.q) (h1 : -1073741824 ≤ r.l) (h2 : r.l ≤ 1073741824) (ho : OffR r r0 p.q x b) (he : p.r = r.i) :
 Calls Tryz.prog 79 #[v, .agg #[.int .i64 r.i, .int .i64 r.f, .int .i64 r.t, .int .i64 r.l, .int .i64 r.m, .bool r.o], .agg #[.int .i64 p.r, .bool (ng p.q.num), .string (mg p.q.num.natAbs), .bool false, .string (mg (dn p.q))]] w fun e w' => e = .returned (.tuple #[qv x, .bool b]) ∧ Below w.heap.size w w' := by
 obtain ⟨rfl, rfl⟩ := offR_own ho ((frd_of hat.f).2.trans he)
 have he_ : (((p.r : Int)) == r.i) = true := by simpa using he
 have HE := Lib.hid he
 clear ho hat he
 obtain ⟨_, _, rfl, hn, hr⟩ := h
 obtain ⟨An, cn, rfl, hcn, hmn, hxn⟩ := hn.open_
 obtain ⟨Ar, cr, rfl, hcr, hmr, hxr⟩ := hr.open_
 have HNV : Hid (NV w (.agg #[.slice An N.ns.length cn, .slice Ar N.rs.length cr]) N) := Lib.hid ⟨_, _, rfl, hn, hr⟩
 have HXN := Lib.hid hxn
 have HXR := Lib.hid hxr
 have HG := Lib.hid g
 have hln := g.ln
 have hlr := g.lr
 generalize hNn : N.ns.length = Nn at *
 generalize hNr : N.rs.length = Nr at *
 have HNn := Lib.hid hNn
 have HNr := Lib.hid hNr
 clear hn hr hxn hxr g hNn hNr
 go_enter Tryz.func79, Tryz.ntmps79
 go_wp2
 refine bodyPost_ret (v := .tuple #[.agg #[.bool (ng p.q.num), .string (mg p.q.num.natAbs), .bool false, .string (mg (dn p.q))], .bool true]) (by simp [results, Tryz.results79, go_sem, ]) rfl ⟨rfl, ?_⟩
 exact bB7

theorem offs_off (N : Net) (r r0 : Rd) (p : Pc) (x : Rat) (b : Bool) (k : Int) (v : Value) (w : World) (h : NV w v N) (g : Vld N) (hat : Nw.At N r0 p) (hq : Pl.Sz 2000 p.q) (h1 : -1073741824 ≤ r.l) (h2 : r.l ≤ 1073741824) (ho : OffR r r0 p.q x b) (he : ¬ p.r = r.i) (ha : AtRes r0 p.q k false) :
 Calls Tryz.prog 79 #[v, .agg #[.int .i64 r.i, .int .i64 r.f, .int .i64 r.t, .int .i64 r.l, .int .i64 r.m, .bool r.o], .agg #[.int .i64 p.r, .bool (ng p.q.num), .string (mg p.q.num.natAbs), .bool false, .string (mg (dn p.q))]] w fun e w' => e = .returned (.tuple #[qv x, .bool b]) ∧ Below w.heap.size w w' := by
 obtain ⟨rfl, rfl⟩ := offR_none ho (fun e => he ((frd_of hat.f).2.symm.trans e)) (ha.elim (fun h_ => absurd h_.1 (by decide)) fun h_ => h_.2.1)
 have he_ : (((p.r : Int)) == r.i) = false := by simpa using he
 have HR := Lib.hid hat.f
 have HP := Lib.hid ((at_iff hat.f).2 hat)
 have HA := Lib.hid ha
 clear ho hat he ha
 obtain ⟨_, _, rfl, hn, hr⟩ := h
 obtain ⟨An, cn, rfl, hcn, hmn, hxn⟩ := hn.open_
 obtain ⟨Ar, cr, rfl, hcr, hmr, hxr⟩ := hr.open_
 have HNV : Hid (NV w (.agg #[.slice An N.ns.length cn, .slice Ar N.rs.length cr]) N) := Lib.hid ⟨_, _, rfl, hn, hr⟩
 have HXN := Lib.hid hxn
 have HXR := Lib.hid hxr
 have HG := Lib.hid g
 have hln := g.ln
 have hlr := g.lr
 generalize hNn : N.ns.length = Nn at *
 generalize hNr : N.rs.length = Nr at *
 have HNn := Lib.hid hNn
 have HNr := Lib.hid hNr
 clear hn hr hxn hxr g hNn hNr
 go_enter Tryz.func79, Tryz.ntmps79
 have K1 := Lib.hid (fun W (hv : NV W (.agg #[.slice An Nn cn, .slice Ar Nr cr]) N) => nodeat_any N r0 p k false _ W hv HG.out HR.out hq HP.out HA.out)
 go_wp2_with (fail)
 refine calls_named ?_
 intro W1 hW1
 have hL1 : Below w.heap.size w W1 := by
  rw [hW1]
  exact bB7
 have c2 : Own W1 (w.heap.size) 0 [.slice An Nn cn, .slice Ar Nr cr] := by
  rw [hW1]
  first
  | (repeat (first | (with_reducible refine own_new (l := [.slice An Nn cn, .slice Ar Nr cr]) ?_; (simp; done)) | with_reducible refine Own.alloc ?_ _ | refine Own.far _ _ (by first | (simp; done) | (simp [*]; done) | (simp; omega)) ?_)); done
  | simp [Own, go_sem]
 have c3 : Own W1 (w.heap.size + 1) 0 [.int .i64 r.i, .int .i64 r.f, .int .i64 r.t, .int .i64 r.l, .int .i64 r.m, .bool r.o] := by
  rw [hW1]
  first
  | (repeat (first | (with_reducible refine own_new (l := [.int .i64 r.i, .int .i64 r.f, .int .i64 r.t, .int .i64 r.l, .int .i64 r.m, .bool r.o]) ?_; (simp; done)) | with_reducible refine Own.alloc ?_ _ | refine Own.far _ _ (by first | (simp; done) | (simp [*]; done) | (simp; omega)) ?_)); done
  | simp [Own, go_sem]
 have c4 : Own W1 (w.heap.size + 2) 0 [.int .i64 p.r, .bool (ng p.q.num), .string (mg p.q.num.natAbs), .bool false, .string (mg (dn p.q))] := by
  rw [hW1]
  first
  | (repeat (first | (with_reducible refine own_new (l := [.int .i64 p.r, .bool (ng p.q.num), .string (mg p.q.num.natAbs), .bool false, .string (mg (dn p.q))]) ?_; (simp; done)) | with_reducible refine Own.alloc ?_ _ | refine Own.far _ _ (by first | (simp; done) | (simp [*]; done) | (simp; omega)) ?_)); done
  | simp [Own, go_sem]
 have c5 : Own W1 (w.heap.size + 3) 0 [.bool false, .string ⟨#[]⟩, .bool false, .string ⟨#[]⟩] := by
  rw [hW1]
  first
  | (repeat (first | (with_reducible refine own_new (l := [.bool false, .string ⟨#[]⟩, .bool false, .string ⟨#[]⟩]) ?_; (simp; done)) | with_reducible refine Own.alloc ?_ _ | refine Own.far _ _ (by first | (simp; done) | (simp [*]; done) | (simp; omega)) ?_)); done
  | simp [Own, go_sem]
 have hB6 : Below w.heap.size w W1 := by
  rw [hW1]
  exact bB7
 clear hW1 hL1
 with_reducible refine (K1.out _ (HNV.out.up hB6)).mono ?_
 rintro e w1 ⟨rfl, hb1⟩
 have c7 := c2.up hb1
 have c8 := c3.up hb1
 have c9 := c4.up hb1
 have c10 := c5.up hb1
 have hB11 : Below w.heap.size w w1 := bel_up hB6 hb1
 clear c2 c3 c4 c5
 have uc7 := c7; have uc8 := c8; have uc9 := c9; have uc10 := c10
 simp only [At, Own, Nat.reduceAdd, and_true] at uc7 uc8 uc9 uc10
 go_wp2
 refine bodyPost_ret (v := .tuple #[.agg #[.bool false, .string ⟨#[]⟩, .bool false, .string ⟨#[]⟩], .bool false]) (by simp [results, Tryz.results79, go_sem, uc7, uc8, uc9, uc10]) rfl ⟨rfl, ?_⟩
 exact bB7

theorem offs_on (N : Net) (r r0 : Rd) (p : Pc) (x : Rat) (b : Bool) (k : Int) (v : Value) (w : World) (h : NV w v N) (g : Vld N) (hat : Nw.At N r0 p) (hq : Pl.Sz 2000 p.q) (h1 : -1073741824 ≤ r.l) (h2 : r.l ≤ 1073741824) (ho : OffR r r0 p.q x b) (he : ¬ p.r = r.i) (ha : AtRes r0 p.q k true) :
 Calls Tryz.prog 79 #[v, .agg #[.int .i64 r.i, .int .i64 r.f, .int .i64 r.t, .int .i64 r.l, .int .i64 r.m, .bool r.o], .agg #[.int .i64 p.r, .bool (ng p.q.num), .string (mg p.q.num.natAbs), .bool false, .string (mg (dn p.q))]] w fun e w' => e = .returned (.tuple #[qv x, .bool b]) ∧ Below w.heap.size w w' := by
 have hak : atR r0 p.q = some k := ha.elim (fun h_ => h_.2) fun h_ => absurd h_.1 (by decide)
 obtain ⟨o, hoo⟩ : ∃ o : Rat, o = offE r k := ⟨_, rfl⟩
 have ZO := off_sz hoo (by omega) (by omega)
 have HOO := Lib.hid hoo
 have he_ : (((p.r : Int)) == r.i) = false := by simpa using he
 have HE : Hid (¬ r0.i = r.i) := Lib.hid fun e => he ((frd_of hat.f).2.symm.trans e)
 have HO := Lib.hid ho
 have HAK := Lib.hid hak
 have HR := Lib.hid hat.f
 have HP := Lib.hid ((at_iff hat.f).2 hat)
 have HA := Lib.hid ha
 clear ho hat he ha hak hoo
 obtain ⟨_, _, rfl, hn, hr⟩ := h
 obtain ⟨An, cn, rfl, hcn, hmn, hxn⟩ := hn.open_
 obtain ⟨Ar, cr, rfl, hcr, hmr, hxr⟩ := hr.open_
 have HNV : Hid (NV w (.agg #[.slice An N.ns.length cn, .slice Ar N.rs.length cr]) N) := Lib.hid ⟨_, _, rfl, hn, hr⟩
 have HXN := Lib.hid hxn
 have HXR := Lib.hid hxr
 have HG := Lib.hid g
 have hln := g.ln
 have hlr := g.lr
 generalize hNn : N.ns.length = Nn at *
 generalize hNr : N.rs.length = Nr at *
 have HNn := Lib.hid hNn
 have HNr := Lib.hid hNr
 clear hn hr hxn hxr g hNn hNr
 go_enter Tryz.func79, Tryz.ntmps79
 have K1 := Lib.hid (fun W (hv : NV W (.agg #[.slice An Nn cn, .slice Ar Nr cr]) N) => nodeat_any N r0 p k true _ W hv HG.out HR.out hq HP.out HA.out)
 go_wp2_with (fail)
 refine calls_named ?_
 intro W1 hW1
 have hL1 : Below w.heap.size w W1 := by
  rw [hW1]
  exact bB7
 have c2 : Own W1 (w.heap.size) 0 [.slice An Nn cn, .slice Ar Nr cr] := by
  rw [hW1]
  first
  | (repeat (first | (with_reducible refine own_new (l := [.slice An Nn cn, .slice Ar Nr cr]) ?_; (simp; done)) | with_reducible refine Own.alloc ?_ _ | refine Own.far _ _ (by first | (simp; done) | (simp [*]; done) | (simp; omega)) ?_)); done
  | simp [Own, go_sem]
 have c3 : Own W1 (w.heap.size + 1) 0 [.int .i64 r.i, .int .i64 r.f, .int .i64 r.t, .int .i64 r.l, .int .i64 r.m, .bool r.o] := by
  rw [hW1]
  first
  | (repeat (first | (with_reducible refine own_new (l := [.int .i64 r.i, .int .i64 r.f, .int .i64 r.t, .int .i64 r.l, .int .i64 r.m, .bool r.o]) ?_; (simp; done)) | with_reducible refine Own.alloc ?_ _ | refine Own.far _ _ (by first | (simp; done) | (simp [*]; done) | (simp; omega)) ?_)); done
  | simp [Own, go_sem]
 have c4 : Own W1 (w.heap.size + 2) 0 [.int .i64 p.r, .bool (ng p.q.num), .string (mg p.q.num.natAbs), .bool false, .string (mg (dn p.q))] := by
  rw [hW1]
  first
  | (repeat (first | (with_reducible refine own_new (l := [.int .i64 p.r, .bool (ng p.q.num), .string (mg p.q.num.natAbs), .bool false, .string (mg (dn p.q))]) ?_; (simp; done)) | with_reducible refine Own.alloc ?_ _ | refine Own.far _ _ (by first | (simp; done) | (simp [*]; done) | (simp; omega)) ?_)); done
  | simp [Own, go_sem]
 have c5 : Own W1 (w.heap.size + 3) 0 [.bool false, .string ⟨#[]⟩, .bool false, .string ⟨#[]⟩] := by
  rw [hW1]
  first
  | (repeat (first | (with_reducible refine own_new (l := [.bool false, .string ⟨#[]⟩, .bool false, .string ⟨#[]⟩]) ?_; (simp; done)) | with_reducible refine Own.alloc ?_ _ | refine Own.far _ _ (by first | (simp; done) | (simp [*]; done) | (simp; omega)) ?_)); done
  | simp [Own, go_sem]
 have hB6 : Below w.heap.size w W1 := by
  rw [hW1]
  exact bB7
 clear hW1 hL1
 with_reducible refine (K1.out _ (HNV.out.up hB6)).mono ?_
 rintro e w1 ⟨rfl, hb1⟩
 have c7 := c2.up hb1
 have c8 := c3.up hb1
 have c9 := c4.up hb1
 have c10 := c5.up hb1
 have hB11 : Below w.heap.size w w1 := bel_up hB6 hb1
 clear c2 c3 c4 c5
 by_cases hc12 : (r.f : Int) = k
 ·skip
  have hc12_ : (((r.f : Int)) == k) = true := by simpa using hc12
  have Hhc12 := Lib.hid hc12
  clear hc12
  have uc7 := c7; have uc8 := c8; have uc9 := c9; have uc10 := c10
  simp only [At, Own, Nat.reduceAdd, and_true] at uc7 uc8 uc9 uc10
  have K13 := Lib.hid (fun W => offset_any r k o W HOO.out (by omega) (by omega))
  go_wp2_with (fail)
  refine calls_named ?_
  intro W2 hW2
  have hL2 : Below w1.heap.size w1 W2 := by
   rw [hW2]
   exact bB7
  have c14 := c7.up hL2
  have c15 := c8.up hL2
  have c16 := c9.up hL2
  have c17 := c10.up hL2
  have hB18 : Below w.heap.size w W2 := by
   rw [hW2]
   exact bB7
  clear hW2 hL2 uc7 uc8 uc9 uc10 c7 c8 c9 c10
  with_reducible refine (K13.out _).mono ?_
  rintro e w2 ⟨rfl, hb2⟩
  have c19 := c14.up hb2
  have c20 := c15.up hb2
  have c21 := c16.up hb2
  have c22 := c17.up hb2
  have hB23 : Below w.heap.size w w2 := bel_up hB18 hb2
  clear c14 c15 c16 c17
  have uc19 := c19; have uc20 := c20; have uc21 := c21; have uc22 := c22
  simp only [At, Own, Nat.reduceAdd, and_true] at uc19 uc20 uc21 uc22
  go_wp2
  refine bodyPost_ret (v := .tuple #[.agg #[.bool (ng o.num), .string (mg o.num.natAbs), .bool false, .string (mg (dn o))], .bool true]) (by simp [results, Tryz.results79, go_sem, uc19, uc20, uc21, uc22]) rfl ⟨(by obtain ⟨rfl, rfl⟩ := offR_to HO.out HE.out HAK.out (by unfold offTo; simp [Hhc12.out]); rw [HOO.out]), ?_⟩
  exact bB7
 ·skip
  have hc12_ : (((r.f : Int)) == k) = false := by simpa using hc12
  have uc7 := c7; have uc8 := c8; have uc9 := c9; have uc10 := c10
  simp only [At, Own, Nat.reduceAdd, and_true] at uc7 uc8 uc9 uc10
  by_cases hc24 : (r.t : Int) = k
  ·skip
   have hc24_ : (((r.t : Int)) == k) = true := by simpa using hc24
   have Hhc24 := Lib.hid hc24
   clear hc24
   have K25 := Lib.hid (fun W => offset_any r k o W HOO.out (by omega) (by omega))
   go_wp2_with (fail)
   refine calls_named ?_
   intro W3 hW3
   have hL3 : Below w1.heap.size w1 W3 := by
    rw [hW3]
    exact bB7
   have c26 := c7.up hL3
   have c27 := c8.up hL3
   have c28 := c9.up hL3
   have c29 := c10.up hL3
   have hB30 : Below w.heap.size w W3 := by
    rw [hW3]
    exact bB7
   clear hW3 hL3 uc7 uc8 uc9 uc10 c7 c8 c9 c10
   with_reducible refine (K25.out _).mono ?_
   rintro e w3 ⟨rfl, hb3⟩
   have c31 := c26.up hb3
   have c32 := c27.up hb3
   have c33 := c28.up hb3
   have c34 := c29.up hb3
   have hB35 : Below w.heap.size w w3 := bel_up hB30 hb3
   clear c26 c27 c28 c29
   have uc31 := c31; have uc32 := c32; have uc33 := c33; have uc34 := c34
   simp only [At, Own, Nat.reduceAdd, and_true] at uc31 uc32 uc33 uc34
   go_wp2
   refine bodyPost_ret (v := .tuple #[.agg #[.bool (ng o.num), .string (mg o.num.natAbs), .bool false, .string (mg (dn o))], .bool true]) (by simp [results, Tryz.results79, go_sem, uc31, uc32, uc33, uc34]) rfl ⟨(by obtain ⟨rfl, rfl⟩ := offR_to HO.out HE.out HAK.out (by unfold offTo; simp [hc12, Hhc24.out]); rw [HOO.out]), ?_⟩
   exact bB7
  ·skip
   have hc24_ : (((r.t : Int)) == k) = false := by simpa using hc24
   go_wp2
   refine bodyPost_ret (v := .tuple #[.agg #[.bool false, .string ⟨#[]⟩, .bool false, .string ⟨#[]⟩], .bool false]) (by simp [results, Tryz.results79, go_sem, uc7, uc8, uc9, uc10]) rfl ⟨(by obtain ⟨rfl, rfl⟩ := offR_no HO.out HE.out HAK.out (by unfold offTo; simp [hc12, hc24]); rfl), ?_⟩
   exact bB7

theorem offs_any (N : Net) (r r0 : Rd) (p : Pc) (x : Rat) (b : Bool) (v : Value) (w : World) (h : NV w v N) (g : Vld N) (hat : Nw.At N r0 p) (hq : Pl.Sz 2000 p.q) (h1 : -1073741824 ≤ r.l) (h2 : r.l ≤ 1073741824) (ho : OffR r r0 p.q x b) :
 Calls Tryz.prog 79 #[v, .agg #[.int .i64 r.i, .int .i64 r.f, .int .i64 r.t, .int .i64 r.l, .int .i64 r.m, .bool r.o], .agg #[.int .i64 p.r, .bool (ng p.q.num), .string (mg p.q.num.natAbs), .bool false, .string (mg (dn p.q))]] w fun e w' => e = .returned (.tuple #[qv x, .bool b]) ∧ Below w.heap.size w w' := by
 by_cases he : p.r = r.i
 ·exact offs_own N r r0 p x b v w h g hat hq h1 h2 ho he
 ·obtain ⟨k, c, hk⟩ := atres_ex r0 p.q
  cases c
  ·exact offs_off N r r0 p x b k v w h g hat hq h1 h2 ho he hk
  ·exact offs_on N r r0 p x b k v w h g hat hq h1 h2 ho he hk
end Go.Proofs.YtldfencaoaikgaaGreatDoor

namespace Go.Proofs.YtldfencaoaikgaaGreatDoor
open Go Go.RowKit Nw

/-- The least way so far. -/
def LeaR (o : Option Rat) (m : Rat) (fd : Bool) : Prop := (fd = true ∧ o = some m) ∨ (fd = false ∧ o = none ∧ m = 0)
theorem lea_eq {o : Option Rat} {m m' : Rat} {fd fd' : Bool} (h : LeaR o m fd) (h' : LeaR o m' fd') : m = m' ∧ fd = fd' := by
 rcases h with ⟨rfl, rfl⟩ | ⟨rfl, rfl, rfl⟩ <;> rcases h' with ⟨rfl, h⟩ | ⟨rfl, h, rfl⟩
 ·injection h with h; exact ⟨h, rfl⟩
 ·cases h
 ·cases h
 ·exact ⟨rfl, rfl⟩
theorem lea_skip {o w : Option Rat} {m : Rat} {fd : Bool} (h : LeaR o m fd) (hw : w = none) : LeaR (lessE o w) m fd := by subst hw; exact h
theorem lea_first {o w : Option Rat} {m d : Rat} (h : LeaR o m false) (hw : w = some d) : LeaR (lessE o w) d true := by
 subst hw
 rcases h with ⟨h, _⟩ | ⟨_, rfl, _⟩
 ·cases h
 ·exact .inl ⟨rfl, rfl⟩
theorem lea_less {o w : Option Rat} {m d : Rat} (h : LeaR o m true) (hw : w = some d) (hc : Pl.cmpQ d m < 0) : LeaR (lessE o w) d true := by
 subst hw
 rcases h with ⟨_, rfl⟩ | ⟨h, _⟩
 ·exact .inl ⟨rfl, by simp only [lessE]; rw [if_pos ((Pl.cmp_lt_iff _ _).1 hc)]⟩
 ·cases h
theorem lea_keep {o w : Option Rat} {m d : Rat} (h : LeaR o m true) (hw : w = some d) (hc : ¬ Pl.cmpQ d m < 0) : LeaR (lessE o w) m true := by
 subst hw
 rcases h with ⟨_, rfl⟩ | ⟨h, _⟩
 ·exact .inl ⟨rfl, by simp only [lessE]; rw [if_neg (fun q => hc ((Pl.cmp_lt_iff _ _).2 q))]⟩
 ·cases h
theorem way_none1 {r r1 : Rd} {q x : Rat} {y : Option Rat} (h : OffR r r1 q x false) : wayE r (offsE r r1 q) y = none := by
 rcases h with ⟨h, _⟩ | ⟨_, h, _⟩
 ·cases h
 ·rw [h]; rfl
theorem way_none2 {r r1 : Rd} {q x : Rat} {y : Option Rat} (h : OffR r r1 q x false) : wayE r y (offsE r r1 q) = none := by
 rcases h with ⟨h, _⟩ | ⟨_, h, _⟩
 ·cases h
 ·rw [h]; cases y <;> rfl
theorem way_yes {r r1 r2 : Rd} {q1 q2 x1 x2 : Rat} (h1 : OffR r r1 q1 x1 true) (h2 : OffR r r2 q2 x2 true) : wayE r (offsE r r1 q1) (offsE r r2 q2) = if r.o = true ∧ x2 - x1 < 0 then none else some (absQ (x2 - x1)) := by
 rcases h1 with ⟨_, h1⟩ | ⟨h1, _⟩
 ·rcases h2 with ⟨_, h2⟩ | ⟨h2, _⟩
  ·rw [h1, h2]; rfl
  ·cases h2
 ·cases h1
theorem way_back {r r1 r2 : Rd} {q1 q2 x1 x2 : Rat} (h1 : OffR r r1 q1 x1 true) (h2 : OffR r r2 q2 x2 true) (ho : r.o = true) (hs : Pl.sgn (x2 - x1) < 0) : wayE r (offsE r r1 q1) (offsE r r2 q2) = none := by
 rw [way_yes h1 h2, if_pos ⟨ho, (Pl.sgn_lt_iff _).1 hs⟩]
theorem way_two {r r1 r2 : Rd} {q1 q2 x1 x2 : Rat} (h1 : OffR r r1 q1 x1 true) (h2 : OffR r r2 q2 x2 true) (ho : r.o = false) : wayE r (offsE r r1 q1) (offsE r r2 q2) = some (absQ (x2 - x1)) := by
 rw [way_yes h1 h2, if_neg (fun h => by rw [ho] at h; cases h.1)]
theorem way_one {r r1 r2 : Rd} {q1 q2 x1 x2 : Rat} (h1 : OffR r r1 q1 x1 true) (h2 : OffR r r2 q2 x2 true) (hs : ¬ Pl.sgn (x2 - x1) < 0) : wayE r (offsE r r1 q1) (offsE r r2 q2) = some (absQ (x2 - x1)) := by
 rw [way_yes h1 h2, if_neg (fun h => hs ((Pl.sgn_lt_iff _).2 h.2))]
theorem ahead_succ {r1 r2 x : Rd} {q1 q2 : Rat} {l : List Rd} {k : Nat} {m : Option Rat} (h : l[k]? = some x) : aheadL r1 r2 q1 q2 (l.take (k + 1)) m = lessE (aheadL r1 r2 q1 q2 (l.take k) m) (wayE x (offsE x r1 q1) (offsE x r2 q2)) := by
 unfold aheadL; rw [List.take_add_one, h]; simp

theorem same_is (N : Net) (r1 r2 : Rd) (p q m1 m2 : Pc) (c : Bool) (v : Value) (w : World) (h : NV w v N) (g : Vld N) (hat1 : Nw.At N r1 p) (hat2 : Nw.At N r2 q) (hq : Pl.Sz 2000 p.q) (hq2 : Pl.Sz 2000 q.q) (hm1 : normE N r1 p = m1) (hm2 : normE N r2 q = m2) (hc : decide (m1 = m2) = c) :
 Calls Tryz.prog 48 #[v, .agg #[.int .i64 p.r, .bool (ng p.q.num), .string (mg p.q.num.natAbs), .bool false, .string (mg (dn p.q))], .agg #[.int .i64 q.r, .bool (ng q.q.num), .string (mg q.q.num.natAbs), .bool false, .string (mg (dn q.q))]] w fun e w' => e = .returned (.bool c) ∧ Below w.heap.size w w' := by
 subst hc; exact same_any N r1 r2 p q m1 m2 v w h g hat1 hat2 hq hq2 hm1 hm2

theorem ahead_same (N : Net) (r1 r2 : Rd) (p q m1 m2 : Pc) (v : Value) (w : World) (h : NV w v N) (g : Vld N) (hat1 : Nw.At N r1 p) (hat2 : Nw.At N r2 q) (hq : Pl.Sz 2000 p.q) (hq2 : Pl.Sz 2000 q.q) (hm1 : normE N r1 p = m1) (hm2 : normE N r2 q = m2) (hde : decide (m1 = m2) = true) :
 Calls Tryz.prog 49 #[v, .agg #[.int .i64 p.r, .bool (ng p.q.num), .string (mg p.q.num.natAbs), .bool false, .string (mg (dn p.q))], .agg #[.int .i64 q.r, .bool (ng q.q.num), .string (mg q.q.num.natAbs), .bool false, .string (mg (dn q.q))]] w fun e w' => e = .returned (.tuple #[.agg #[.bool false, .string ⟨#[]⟩, .bool false, .string ⟨#[]⟩], .bool true]) ∧ Below w.heap.size w w' := by
 have HP1 := Lib.hid ((at_iff hat1.f).2 hat1)
 have HP2 := Lib.hid ((at_iff hat2.f).2 hat2)
 have HDE := Lib.hid hde
 clear hde
 have HAT1 := Lib.hid hat1
 have HAT2 := Lib.hid hat2
 have HM1 := Lib.hid hm1
 have HM2 := Lib.hid hm2
 clear hat1 hat2 hm1 hm2
 obtain ⟨_, _, rfl, hn, hr⟩ := h
 obtain ⟨An, cn, rfl, hcn, hmn, hxn⟩ := hn.open_
 obtain ⟨Ar, cr, rfl, hcr, hmr, hxr⟩ := hr.open_
 have HNV : Hid (NV w (.agg #[.slice An N.ns.length cn, .slice Ar N.rs.length cr]) N) := Lib.hid ⟨_, _, rfl, hn, hr⟩
 have HXN := Lib.hid hxn
 have HXR := Lib.hid hxr
 have HG := Lib.hid g
 have hln := g.ln
 have hlr := g.lr
 generalize hNn : N.ns.length = Nn at *
 generalize hNr : N.rs.length = Nr at *
 have HNn := Lib.hid hNn
 have HNr := Lib.hid hNr
 clear hn hr hxn hxr g hNn hNr
 go_enter Tryz.func49, Tryz.ntmps49
 have K1 := Lib.hid (fun W (hv : NV W (.agg #[.slice An Nn cn, .slice Ar Nr cr]) N) => cplace_any N p _ W hv HG.out hq 0 HP1.out)
 go_wp2_with (fail)
 refine calls_named ?_
 intro W1 hW1
 have hL1 : Below w.heap.size w W1 := by
  rw [hW1]
  exact bB7
 have c2 : Own W1 (w.heap.size) 0 [.slice An Nn cn, .slice Ar Nr cr] := by
  rw [hW1]
  first
  | (repeat (first | (with_reducible refine own_new (l := [.slice An Nn cn, .slice Ar Nr cr]) ?_; (simp; done)) | with_reducible refine Own.alloc ?_ _ | refine Own.far _ _ (by first | (simp; done) | (simp [*]; done) | (simp; omega)) ?_)); done
  | simp [Own, go_sem]
 have c3 : Own W1 (w.heap.size + 1) 0 [.int .i64 p.r, .bool (ng p.q.num), .string (mg p.q.num.natAbs), .bool false, .string (mg (dn p.q))] := by
  rw [hW1]
  first
  | (repeat (first | (with_reducible refine own_new (l := [.int .i64 p.r, .bool (ng p.q.num), .string (mg p.q.num.natAbs), .bool false, .string (mg (dn p.q))]) ?_; (simp; done)) | with_reducible refine Own.alloc ?_ _ | refine Own.far _ _ (by first | (simp; done) | (simp [*]; done) | (simp; omega)) ?_)); done
  | simp [Own, go_sem]
 have c4 : Own W1 (w.heap.size + 2) 0 [.int .i64 q.r, .bool (ng q.q.num), .string (mg q.q.num.natAbs), .bool false, .string (mg (dn q.q))] := by
  rw [hW1]
  first
  | (repeat (first | (with_reducible refine own_new (l := [.int .i64 q.r, .bool (ng q.q.num), .string (mg q.q.num.natAbs), .bool false, .string (mg (dn q.q))]) ?_; (simp; done)) | with_reducible refine Own.alloc ?_ _ | refine Own.far _ _ (by first | (simp; done) | (simp [*]; done) | (simp; omega)) ?_)); done
  | simp [Own, go_sem]
 have c5 : Own W1 (w.heap.size + 3) 0 [.bool false, .string ⟨#[]⟩, .bool false, .string ⟨#[]⟩] := by
  rw [hW1]
  first
  | (repeat (first | (with_reducible refine own_new (l := [.bool false, .string ⟨#[]⟩, .bool false, .string ⟨#[]⟩]) ?_; (simp; done)) | with_reducible refine Own.alloc ?_ _ | refine Own.far _ _ (by first | (simp; done) | (simp [*]; done) | (simp; omega)) ?_)); done
  | simp [Own, go_sem]
 have hB6 : Below w.heap.size w W1 := by
  rw [hW1]
  exact bB7
 clear hW1 hL1
 with_reducible refine (K1.out _ (HNV.out.up hB6)).mono ?_
 rintro e w1 ⟨rfl, hb1⟩
 have c7 := c2.up hb1
 have c8 := c3.up hb1
 have c9 := c4.up hb1
 have c10 := c5.up hb1
 have hB11 : Below w.heap.size w w1 := bel_up hB6 hb1
 clear c2 c3 c4 c5
 have uc7 := c7; have uc8 := c8; have uc9 := c9; have uc10 := c10
 simp only [At, Own, Nat.reduceAdd, and_true] at uc7 uc8 uc9 uc10
 have K12 := Lib.hid (fun W (hv : NV W (.agg #[.slice An Nn cn, .slice Ar Nr cr]) N) => cplace_any N q _ W hv HG.out hq2 0 HP2.out)
 go_wp2_with (fail)
 refine calls_named ?_
 intro W2 hW2
 have hL2 : Below w1.heap.size w1 W2 := by
  rw [hW2]
  exact bB7
 have c13 := c7.up hL2
 have c14 := c8.up hL2
 have c15 := c9.up hL2
 have c16 := c10.up hL2
 have hB17 : Below w.heap.size w W2 := by
  rw [hW2]
  exact bB7
 clear hW2 hL2 uc7 uc8 uc9 uc10 c7 c8 c9 c10
 with_reducible refine (K12.out _ (HNV.out.up hB17)).mono ?_
 rintro e w2 ⟨rfl, hb2⟩
 have c18 := c13.up hb2
 have c19 := c14.up hb2
 have c20 := c15.up hb2
 have c21 := c16.up hb2
 have hB22 : Below w.heap.size w w2 := bel_up hB17 hb2
 clear c13 c14 c15 c16
 have uc18 := c18; have uc19 := c19; have uc20 := c20; have uc21 := c21
 simp only [At, Own, Nat.reduceAdd, and_true] at uc18 uc19 uc20 uc21
 have K23 := Lib.hid (fun W (hv : NV W (.agg #[.slice An Nn cn, .slice Ar Nr cr]) N) => same_is N r1 r2 p q m1 m2 true _ W hv HG.out HAT1.out HAT2.out hq hq2 HM1.out HM2.out HDE.out)
 go_wp2_with (fail)
 refine calls_named ?_
 intro W3 hW3
 have hL3 : Below w2.heap.size w2 W3 := by
  rw [hW3]
  exact bB7
 have c24 := c18.up hL3
 have c25 := c19.up hL3
 have c26 := c20.up hL3
 have c27 := c21.up hL3
 have hB28 : Below w.heap.size w W3 := by
  rw [hW3]
  exact bB7
 clear hW3 hL3 uc18 uc19 uc20 uc21 c18 c19 c20 c21
 with_reducible refine (K23.out _ (HNV.out.up hB28)).mono ?_
 rintro e w3 ⟨rfl, hb3⟩
 have c29 := c24.up hb3
 have c30 := c25.up hb3
 have c31 := c26.up hb3
 have c32 := c27.up hb3
 have hB33 : Below w.heap.size w w3 := bel_up hB28 hb3
 clear c24 c25 c26 c27
 have uc29 := c29; have uc30 := c30; have uc31 := c31; have uc32 := c32
 simp only [At, Own, Nat.reduceAdd, and_true] at uc29 uc30 uc31 uc32
 go_wp2
 refine bodyPost_ret (v := .tuple #[.agg #[.bool false, .string ⟨#[]⟩, .bool false, .string ⟨#[]⟩], .bool true]) (by simp [results, Tryz.results49, go_sem, uc29, uc30, uc31, uc32]) rfl ⟨rfl, ?_⟩
 exact bB7

theorem ahead_bad (N : Net) (p q : Pc) (c : Int) (v : Value) (w : World) (h : NV w v N) (g : Vld N) (hq : Pl.Sz 2000 p.q) (hq2 : Pl.Sz 2000 q.q) (hp1 : placeE N p = 0) (hp2 : placeE N q = c) (hc0 : ¬ c = 0) :
 Calls Tryz.prog 49 #[v, .agg #[.int .i64 p.r, .bool (ng p.q.num), .string (mg p.q.num.natAbs), .bool false, .string (mg (dn p.q))], .agg #[.int .i64 q.r, .bool (ng q.q.num), .string (mg q.q.num.natAbs), .bool false, .string (mg (dn q.q))]] w fun e w' => e = .returned (.tuple #[.agg #[.bool false, .string ⟨#[]⟩, .bool false, .string ⟨#[]⟩], .bool false]) ∧ Below w.heap.size w w' := by
 have HP1 := Lib.hid hp1
 have HP2 := Lib.hid hp2
 have hc0_ : (((c : Int)) == 0) = false := by simpa using hc0
 clear hp1 hp2
 obtain ⟨_, _, rfl, hn, hr⟩ := h
 obtain ⟨An, cn, rfl, hcn, hmn, hxn⟩ := hn.open_
 obtain ⟨Ar, cr, rfl, hcr, hmr, hxr⟩ := hr.open_
 have HNV : Hid (NV w (.agg #[.slice An N.ns.length cn, .slice Ar N.rs.length cr]) N) := Lib.hid ⟨_, _, rfl, hn, hr⟩
 have HXN := Lib.hid hxn
 have HXR := Lib.hid hxr
 have HG := Lib.hid g
 have hln := g.ln
 have hlr := g.lr
 generalize hNn : N.ns.length = Nn at *
 generalize hNr : N.rs.length = Nr at *
 have HNn := Lib.hid hNn
 have HNr := Lib.hid hNr
 clear hn hr hxn hxr g hNn hNr
 go_enter Tryz.func49, Tryz.ntmps49
 have K1 := Lib.hid (fun W (hv : NV W (.agg #[.slice An Nn cn, .slice Ar Nr cr]) N) => cplace_any N p _ W hv HG.out hq 0 HP1.out)
 go_wp2_with (fail)
 refine calls_named ?_
 intro W1 hW1
 have hL1 : Below w.heap.size w W1 := by
  rw [hW1]
  exact bB7
 have c2 : Own W1 (w.heap.size) 0 [.slice An Nn cn, .slice Ar Nr cr] := by
  rw [hW1]
  first
  | (repeat (first | (with_reducible refine own_new (l := [.slice An Nn cn, .slice Ar Nr cr]) ?_; (simp; done)) | with_reducible refine Own.alloc ?_ _ | refine Own.far _ _ (by first | (simp; done) | (simp [*]; done) | (simp; omega)) ?_)); done
  | simp [Own, go_sem]
 have c3 : Own W1 (w.heap.size + 1) 0 [.int .i64 p.r, .bool (ng p.q.num), .string (mg p.q.num.natAbs), .bool false, .string (mg (dn p.q))] := by
  rw [hW1]
  first
  | (repeat (first | (with_reducible refine own_new (l := [.int .i64 p.r, .bool (ng p.q.num), .string (mg p.q.num.natAbs), .bool false, .string (mg (dn p.q))]) ?_; (simp; done)) | with_reducible refine Own.alloc ?_ _ | refine Own.far _ _ (by first | (simp; done) | (simp [*]; done) | (simp; omega)) ?_)); done
  | simp [Own, go_sem]
 have c4 : Own W1 (w.heap.size + 2) 0 [.int .i64 q.r, .bool (ng q.q.num), .string (mg q.q.num.natAbs), .bool false, .string (mg (dn q.q))] := by
  rw [hW1]
  first
  | (repeat (first | (with_reducible refine own_new (l := [.int .i64 q.r, .bool (ng q.q.num), .string (mg q.q.num.natAbs), .bool false, .string (mg (dn q.q))]) ?_; (simp; done)) | with_reducible refine Own.alloc ?_ _ | refine Own.far _ _ (by first | (simp; done) | (simp [*]; done) | (simp; omega)) ?_)); done
  | simp [Own, go_sem]
 have c5 : Own W1 (w.heap.size + 3) 0 [.bool false, .string ⟨#[]⟩, .bool false, .string ⟨#[]⟩] := by
  rw [hW1]
  first
  | (repeat (first | (with_reducible refine own_new (l := [.bool false, .string ⟨#[]⟩, .bool false, .string ⟨#[]⟩]) ?_; (simp; done)) | with_reducible refine Own.alloc ?_ _ | refine Own.far _ _ (by first | (simp; done) | (simp [*]; done) | (simp; omega)) ?_)); done
  | simp [Own, go_sem]
 have hB6 : Below w.heap.size w W1 := by
  rw [hW1]
  exact bB7
 clear hW1 hL1
 with_reducible refine (K1.out _ (HNV.out.up hB6)).mono ?_
 rintro e w1 ⟨rfl, hb1⟩
 have c7 := c2.up hb1
 have c8 := c3.up hb1
 have c9 := c4.up hb1
 have c10 := c5.up hb1
 have hB11 : Below w.heap.size w w1 := bel_up hB6 hb1
 clear c2 c3 c4 c5
 have uc7 := c7; have uc8 := c8; have uc9 := c9; have uc10 := c10
 simp only [At, Own, Nat.reduceAdd, and_true] at uc7 uc8 uc9 uc10
 have K12 := Lib.hid (fun W (hv : NV W (.agg #[.slice An Nn cn, .slice Ar Nr cr]) N) => cplace_any N q _ W hv HG.out hq2 c HP2.out)
 go_wp2_with (fail)
 refine calls_named ?_
 intro W2 hW2
 have hL2 : Below w1.heap.size w1 W2 := by
  rw [hW2]
  exact bB7
 have c13 := c7.up hL2
 have c14 := c8.up hL2
 have c15 := c9.up hL2
 have c16 := c10.up hL2
 have hB17 : Below w.heap.size w W2 := by
  rw [hW2]
  exact bB7
 clear hW2 hL2 uc7 uc8 uc9 uc10 c7 c8 c9 c10
 with_reducible refine (K12.out _ (HNV.out.up hB17)).mono ?_
 rintro e w2 ⟨rfl, hb2⟩
 have c18 := c13.up hb2
 have c19 := c14.up hb2
 have c20 := c15.up hb2
 have c21 := c16.up hb2
 have hB22 : Below w.heap.size w w2 := bel_up hB17 hb2
 clear c13 c14 c15 c16
 have uc18 := c18; have uc19 := c19; have uc20 := c20; have uc21 := c21
 simp only [At, Own, Nat.reduceAdd, and_true] at uc18 uc19 uc20 uc21
 go_wp2
 refine bodyPost_ret (v := .tuple #[.agg #[.bool false, .string ⟨#[]⟩, .bool false, .string ⟨#[]⟩], .bool false]) (by simp [results, Tryz.results49, go_sem, uc18, uc19, uc20, uc21]) rfl ⟨rfl, ?_⟩
 exact bB7

set_option maxHeartbeats 2000000 in
theorem ahead_diff (N : Net) (r1 r2 : Rd) (p q m1 m2 : Pc) (x : Rat) (b : Bool) (v : Value) (w : World) (h : NV w v N) (g : Vld N) (hat1 : Nw.At N r1 p) (hat2 : Nw.At N r2 q) (hq : Pl.Sz 2000 p.q) (hq2 : Pl.Sz 2000 q.q) (hm1 : normE N r1 p = m1) (hm2 : normE N r2 q = m2) (hde : decide (m1 = m2) = false) (hx : LeaR (aheadL r1 r2 p.q q.q N.rs none) x b) :
 Calls Tryz.prog 49 #[v, .agg #[.int .i64 p.r, .bool (ng p.q.num), .string (mg p.q.num.natAbs), .bool false, .string (mg (dn p.q))], .agg #[.int .i64 q.r, .bool (ng q.q.num), .string (mg q.q.num.natAbs), .bool false, .string (mg (dn q.q))]] w fun e w' => e = .returned (.tuple #[qv x, .bool b]) ∧ Below w.heap.size w w' := by
 have HP1 := Lib.hid ((at_iff hat1.f).2 hat1)
 have HP2 := Lib.hid ((at_iff hat2.f).2 hat2)
 have HDE := Lib.hid hde
 have HX := Lib.hid hx
 clear hde hx
 have HAT1 := Lib.hid hat1
 have HAT2 := Lib.hid hat2
 have HM1 := Lib.hid hm1
 have HM2 := Lib.hid hm2
 clear hat1 hat2 hm1 hm2
 obtain ⟨_, _, rfl, hn, hr⟩ := h
 obtain ⟨An, cn, rfl, hcn, hmn, hxn⟩ := hn.open_
 obtain ⟨Ar, cr, rfl, hcr, hmr, hxr⟩ := hr.open_
 have HNV : Hid (NV w (.agg #[.slice An N.ns.length cn, .slice Ar N.rs.length cr]) N) := Lib.hid ⟨_, _, rfl, hn, hr⟩
 have HXN := Lib.hid hxn
 have HXR := Lib.hid hxr
 have HG := Lib.hid g
 have hln := g.ln
 have hlr := g.lr
 generalize hNn : N.ns.length = Nn at *
 generalize hNr : N.rs.length = Nr at *
 have HNn := Lib.hid hNn
 have HNr := Lib.hid hNr
 clear hn hr hxn hxr g hNn hNr
 go_enter Tryz.func49, Tryz.ntmps49
 have K1 := Lib.hid (fun W (hv : NV W (.agg #[.slice An Nn cn, .slice Ar Nr cr]) N) => cplace_any N p _ W hv HG.out hq 0 HP1.out)
 go_wp2_with (fail)
 refine calls_named ?_
 intro W1 hW1
 have hL1 : Below w.heap.size w W1 := by
  rw [hW1]
  exact bB7
 have c2 : Own W1 (w.heap.size) 0 [.slice An Nn cn, .slice Ar Nr cr] := by
  rw [hW1]
  first
  | (repeat (first | (with_reducible refine own_new (l := [.slice An Nn cn, .slice Ar Nr cr]) ?_; (simp; done)) | with_reducible refine Own.alloc ?_ _ | refine Own.far _ _ (by first | (simp; done) | (simp [*]; done) | (simp; omega)) ?_)); done
  | simp [Own, go_sem]
 have c3 : Own W1 (w.heap.size + 1) 0 [.int .i64 p.r, .bool (ng p.q.num), .string (mg p.q.num.natAbs), .bool false, .string (mg (dn p.q))] := by
  rw [hW1]
  first
  | (repeat (first | (with_reducible refine own_new (l := [.int .i64 p.r, .bool (ng p.q.num), .string (mg p.q.num.natAbs), .bool false, .string (mg (dn p.q))]) ?_; (simp; done)) | with_reducible refine Own.alloc ?_ _ | refine Own.far _ _ (by first | (simp; done) | (simp [*]; done) | (simp; omega)) ?_)); done
  | simp [Own, go_sem]
 have c4 : Own W1 (w.heap.size + 2) 0 [.int .i64 q.r, .bool (ng q.q.num), .string (mg q.q.num.natAbs), .bool false, .string (mg (dn q.q))] := by
  rw [hW1]
  first
  | (repeat (first | (with_reducible refine own_new (l := [.int .i64 q.r, .bool (ng q.q.num), .string (mg q.q.num.natAbs), .bool false, .string (mg (dn q.q))]) ?_; (simp; done)) | with_reducible refine Own.alloc ?_ _ | refine Own.far _ _ (by first | (simp; done) | (simp [*]; done) | (simp; omega)) ?_)); done
  | simp [Own, go_sem]
 have c5 : Own W1 (w.heap.size + 3) 0 [.bool false, .string ⟨#[]⟩, .bool false, .string ⟨#[]⟩] := by
  rw [hW1]
  first
  | (repeat (first | (with_reducible refine own_new (l := [.bool false, .string ⟨#[]⟩, .bool false, .string ⟨#[]⟩]) ?_; (simp; done)) | with_reducible refine Own.alloc ?_ _ | refine Own.far _ _ (by first | (simp; done) | (simp [*]; done) | (simp; omega)) ?_)); done
  | simp [Own, go_sem]
 have hB6 : Below w.heap.size w W1 := by
  rw [hW1]
  exact bB7
 clear hW1 hL1
 with_reducible refine (K1.out _ (HNV.out.up hB6)).mono ?_
 rintro e w1 ⟨rfl, hb1⟩
 have c7 := c2.up hb1
 have c8 := c3.up hb1
 have c9 := c4.up hb1
 have c10 := c5.up hb1
 have hB11 : Below w.heap.size w w1 := bel_up hB6 hb1
 clear c2 c3 c4 c5
 have uc7 := c7; have uc8 := c8; have uc9 := c9; have uc10 := c10
 simp only [At, Own, Nat.reduceAdd, and_true] at uc7 uc8 uc9 uc10
 have K12 := Lib.hid (fun W (hv : NV W (.agg #[.slice An Nn cn, .slice Ar Nr cr]) N) => cplace_any N q _ W hv HG.out hq2 0 HP2.out)
 go_wp2_with (fail)
 refine calls_named ?_
 intro W2 hW2
 have hL2 : Below w1.heap.size w1 W2 := by
  rw [hW2]
  exact bB7
 have c13 := c7.up hL2
 have c14 := c8.up hL2
 have c15 := c9.up hL2
 have c16 := c10.up hL2
 have hB17 : Below w.heap.size w W2 := by
  rw [hW2]
  exact bB7
 clear hW2 hL2 uc7 uc8 uc9 uc10 c7 c8 c9 c10
 with_reducible refine (K12.out _ (HNV.out.up hB17)).mono ?_
 rintro e w2 ⟨rfl, hb2⟩
 have c18 := c13.up hb2
 have c19 := c14.up hb2
 have c20 := c15.up hb2
 have c21 := c16.up hb2
 have hB22 : Below w.heap.size w w2 := bel_up hB17 hb2
 clear c13 c14 c15 c16
 have uc18 := c18; have uc19 := c19; have uc20 := c20; have uc21 := c21
 simp only [At, Own, Nat.reduceAdd, and_true] at uc18 uc19 uc20 uc21
 have K23 := Lib.hid (fun W (hv : NV W (.agg #[.slice An Nn cn, .slice Ar Nr cr]) N) => same_is N r1 r2 p q m1 m2 false _ W hv HG.out HAT1.out HAT2.out hq hq2 HM1.out HM2.out HDE.out)
 go_wp2_with (fail)
 refine calls_named ?_
 intro W3 hW3
 have hL3 : Below w2.heap.size w2 W3 := by
  rw [hW3]
  exact bB7
 have c24 := c18.up hL3
 have c25 := c19.up hL3
 have c26 := c20.up hL3
 have c27 := c21.up hL3
 have hB28 : Below w.heap.size w W3 := by
  rw [hW3]
  exact bB7
 clear hW3 hL3 uc18 uc19 uc20 uc21 c18 c19 c20 c21
 with_reducible refine (K23.out _ (HNV.out.up hB28)).mono ?_
 rintro e w3 ⟨rfl, hb3⟩
 have c29 := c24.up hb3
 have c30 := c25.up hb3
 have c31 := c26.up hb3
 have c32 := c27.up hb3
 have hB33 : Below w.heap.size w w3 := bel_up hB28 hb3
 clear c24 c25 c26 c27
 have ne34_ : w.heap.size < w3.heap.size := by have := c29.lt; omega
 have ne34 := Nat.ne_of_lt ne34_
 have ne34' := ne34.symm
 have ne35_ : w.heap.size + 1 < w3.heap.size := by have := c30.lt; omega
 have ne35 := Nat.ne_of_lt ne35_
 have ne35' := ne35.symm
 have ne36_ : w.heap.size + 2 < w3.heap.size := by have := c31.lt; omega
 have ne36 := Nat.ne_of_lt ne36_
 have ne36' := ne36.symm
 have ne37_ : w.heap.size + 3 < w3.heap.size := by have := c32.lt; omega
 have ne37 := Nat.ne_of_lt ne37_
 have ne37' := ne37.symm
 have uc29 := c29; have uc30 := c30; have uc31 := c31; have uc32 := c32
 simp only [At, Own, Nat.reduceAdd, and_true] at uc29 uc30 uc31 uc32
 go_wp2_with fail
 refine wp_named ?_
 intro W4 hW4
 have hL4 : Below w3.heap.size w3 W4 := by
  rw [hW4]
  exact bB7
 have c38 := c29.up hL4
 have c39 := c30.up hL4
 have c40 := c31.up hL4
 have c41 := c32.up hL4
 have c42 : Own W4 (w3.heap.size) 0 [.bool false, .string ⟨#[]⟩, .bool false, .string ⟨#[]⟩] := by
  rw [hW4]
  first
  | (repeat (first | (with_reducible refine own_new (l := [.bool false, .string ⟨#[]⟩, .bool false, .string ⟨#[]⟩]) ?_; (simp; done)) | with_reducible refine Own.alloc ?_ _ | refine Own.far _ _ (by first | (simp; done) | (simp [*]; done) | (simp; omega)) ?_)); done
  | simp [Own, go_sem, uc29, uc30, uc31, uc32, ne34, ne34', ne34_, ne35, ne35', ne35_, ne36, ne36', ne36_, ne37, ne37', ne37_]
 have hB43 : Below w.heap.size w W4 := by
  rw [hW4]
  exact bB7
 clear hW4 hL4 uc29 uc30 uc31 uc32 c29 c30 c31 c32
 go_loopw [9, 36] (fun s9 s36 wr => ∃ (k : Nat) (m : Rat) (fd : Bool), s9 = .bool fd ∧ s36 = .int .i64 k ∧ Own wr (w.heap.size) 0 [.slice An Nn cn, .slice Ar Nr cr] ∧ Own wr (w.heap.size + 1) 0 [.int .i64 p.r, .bool (ng p.q.num), .string (mg p.q.num.natAbs), .bool false, .string (mg (dn p.q))] ∧ Own wr (w.heap.size + 2) 0 [.int .i64 q.r, .bool (ng q.q.num), .string (mg q.q.num.natAbs), .bool false, .string (mg (dn q.q))] ∧ Own wr (w.heap.size + 3) 0 [.bool false, .string ⟨#[]⟩, .bool false, .string ⟨#[]⟩] ∧ Own wr (w3.heap.size) 0 [.bool (ng m.num), .string (mg m.num.natAbs), .bool false, .string (mg (dn m))] ∧ Below w.heap.size w wr ∧ k ≤ Nr ∧ Hid (LeaR (aheadL r1 r2 p.q q.q (N.rs.take k) none) m fd) ∧ Pl.Sz 5000 m) (fun _ s36 _ => Nr - (intOf s36).toNat)
 case atStart => exact ⟨0, 0, false, rfl, rfl, c38, c39, c40, c41, c42, hB43, (by omega), Lib.hid (.inr ⟨rfl, rfl, rfl⟩), (Pl.sz_zero.mono (by decide))⟩
 case round =>
  clear c38 c39 c40 c41 c42 hB43
  obtain ⟨k, m, fd, rfl, rfl, b44, b45, b46, b47, b48, hB49, hk, HL, ZM⟩ := hrel
  obtain ⟨wr50, hwr50⟩ : ∃ W_, W_ = wr := ⟨_, rfl⟩
  subst hwr50
  by_cases hltk : k < Nr
  ·skip
   have i1k : (k : Int) < Nr := by omega
   obtain ⟨x51, hx52⟩ : ∃ x, N.rs[k]? = some x := ⟨_, List.getElem?_eq_getElem (by rw [HNr.out]; omega)⟩
   have Hhx52 := Lib.hid hx52
   clear hx52
   have hxok := HG.out.or _ (List.mem_of_getElem? Hhx52.out)
   have hxl1 := hxok.2.2.1
   have hxl2 := hxok.2.2.2.1
   clear hxok
   obtain ⟨x1, b1, ho1⟩ := offR_ex x51 r1 p.q
   obtain ⟨x2, b2, ho2⟩ := offR_ex x51 r2 q.q
   have ZX1 := ho1.sz hq (by omega) (by omega)
   have ZX2 := ho2.sz hq2 (by omega) (by omega)
   have HO1 := Lib.hid ho1
   have HO2 := Lib.hid ho2
   clear ho1 ho2
   obtain ⟨g54, o55, ha56, -⟩ := (HXR.out).up kpR hB49 _ _ Hhx52.out
   subst ha56
   have ce53 := LX.at_ ((HXR.out).up kpR hB49) Hhx52.out
   have ce53_ : g54 < wr50.heap.size := World.block_lt_of_cell? _ _ ce53.1
   have uce53 := ce53
   simp only [CR, rdc, At, Nat.reduceMul] at uce53
   have ne57_ : w.heap.size < wr50.heap.size := by have := b44.lt; omega
   have ne57 := Nat.ne_of_lt ne57_
   have ne57' := ne57.symm
   have ne58_ : w.heap.size + 1 < wr50.heap.size := by have := b45.lt; omega
   have ne58 := Nat.ne_of_lt ne58_
   have ne58' := ne58.symm
   have ne59_ : w.heap.size + 2 < wr50.heap.size := by have := b46.lt; omega
   have ne59 := Nat.ne_of_lt ne59_
   have ne59' := ne59.symm
   have ne60_ : w.heap.size + 3 < wr50.heap.size := by have := b47.lt; omega
   have ne60 := Nat.ne_of_lt ne60_
   have ne60' := ne60.symm
   have ne61_ : w3.heap.size < wr50.heap.size := by have := b48.lt; omega
   have ne61 := Nat.ne_of_lt ne61_
   have ne61' := ne61.symm
   have ub44 := b44; have ub45 := b45; have ub46 := b46; have ub47 := b47; have ub48 := b48
   simp only [At, Own, Nat.reduceAdd, and_true] at ub44 ub45 ub46 ub47 ub48
   have K62 := Lib.hid (fun W (hv : NV W (.agg #[.slice An Nn cn, .slice (some ⟨g54, o55, none⟩) Nr cr]) N) => offs_any N x51 r1 p x1 b1 _ W hv HG.out HAT1.out hq (by omega) (by omega) HO1.out)
   go_wp2_with (fail)
   refine calls_named ?_
   intro W5 hW5
   have hL5 : Below wr50.heap.size wr50 W5 := by
    rw [hW5]
    exact bB7
   have c63 := b44.up hL5
   have c64 := b45.up hL5
   have c65 := b46.up hL5
   have c66 := b47.up hL5
   have c67 := b48.up hL5
   have c68 : Own W5 (wr50.heap.size) 0 [.int .i64 x51.i, .int .i64 x51.f, .int .i64 x51.t, .int .i64 x51.l, .int .i64 x51.m, .bool x51.o] := by
    rw [hW5]
    first
    | (repeat (first | (with_reducible refine own_new (l := [.int .i64 x51.i, .int .i64 x51.f, .int .i64 x51.t, .int .i64 x51.l, .int .i64 x51.m, .bool x51.o]) ?_; (simp; done)) | with_reducible refine Own.alloc ?_ _ | refine Own.far _ _ (by first | (simp; done) | (simp [*]; done) | (simp; omega)) ?_)); done
    | simp [Own, go_sem, uce53, ub44, ub45, ub46, ub47, ub48, ne57, ne57', ne57_, ne58, ne58', ne58_, ne59, ne59', ne59_, ne60, ne60', ne60_, ne61, ne61', ne61_]
   have hB69 : Below w.heap.size w W5 := by
    rw [hW5]
    exact bB7
   clear hW5 hL5 uce53 ub44 ub45 ub46 ub47 ub48 b44 b45 b46 b47 b48
   with_reducible refine (K62.out _ (HNV.out.up hB69)).mono ?_
   rintro e w5 ⟨rfl, hb5⟩
   have c70 := c63.up hb5
   have c71 := c64.up hb5
   have c72 := c65.up hb5
   have c73 := c66.up hb5
   have c74 := c67.up hb5
   have c75 := c68.up hb5
   have hB76 : Below w.heap.size w w5 := bel_up hB69 hb5
   clear c63 c64 c65 c66 c67 c68
   have ne77_ : w.heap.size < w5.heap.size := by have := c70.lt; omega
   have ne77 := Nat.ne_of_lt ne77_
   have ne77' := ne77.symm
   have ne78_ : w.heap.size + 1 < w5.heap.size := by have := c71.lt; omega
   have ne78 := Nat.ne_of_lt ne78_
   have ne78' := ne78.symm
   have ne79_ : w.heap.size + 2 < w5.heap.size := by have := c72.lt; omega
   have ne79 := Nat.ne_of_lt ne79_
   have ne79' := ne79.symm
   have ne80_ : w.heap.size + 3 < w5.heap.size := by have := c73.lt; omega
   have ne80 := Nat.ne_of_lt ne80_
   have ne80' := ne80.symm
   have ne81_ : w3.heap.size < w5.heap.size := by have := c74.lt; omega
   have ne81 := Nat.ne_of_lt ne81_
   have ne81' := ne81.symm
   have ne82_ : wr50.heap.size < w5.heap.size := by have := c75.lt; omega
   have ne82 := Nat.ne_of_lt ne82_
   have ne82' := ne82.symm
   have uc70 := c70; have uc71 := c71; have uc72 := c72; have uc73 := c73; have uc74 := c74; have uc75 := c75
   simp only [At, Own, Nat.reduceAdd, and_true] at uc70 uc71 uc72 uc73 uc74 uc75
   have K83 := Lib.hid (fun W (hv : NV W (.agg #[.slice An Nn cn, .slice (some ⟨g54, o55, none⟩) Nr cr]) N) => offs_any N x51 r2 q x2 b2 _ W hv HG.out HAT2.out hq2 (by omega) (by omega) HO2.out)
   go_wp2_with (fail)
   refine calls_named ?_
   intro W6 hW6
   have hL6 : Below w5.heap.size w5 W6 := by
    rw [hW6]
    exact bB7
   have c84 := c70.up hL6
   have c85 := c71.up hL6
   have c86 := c72.up hL6
   have c87 := c73.up hL6
   have c88 := c74.up hL6
   have c89 := c75.up hL6
   have c90 : Own W6 (w5.heap.size) 0 [.bool (ng x1.num), .string (mg x1.num.natAbs), .bool false, .string (mg (dn x1))] := by
    rw [hW6]
    first
    | (repeat (first | (with_reducible refine own_new (l := [.bool (ng x1.num), .string (mg x1.num.natAbs), .bool false, .string (mg (dn x1))]) ?_; (simp; done)) | with_reducible refine Own.alloc ?_ _ | refine Own.far _ _ (by first | (simp; done) | (simp [*]; done) | (simp; omega)) ?_)); done
    | simp [Own, go_sem, uc70, uc71, uc72, uc73, uc74, uc75, ne77, ne77', ne77_, ne78, ne78', ne78_, ne79, ne79', ne79_, ne80, ne80', ne80_, ne81, ne81', ne81_, ne82, ne82', ne82_]
   have hB91 : Below w.heap.size w W6 := by
    rw [hW6]
    exact bB7
   clear hW6 hL6 uc70 uc71 uc72 uc73 uc74 uc75 c70 c71 c72 c73 c74 c75
   with_reducible refine (K83.out _ (HNV.out.up hB91)).mono ?_
   rintro e w6 ⟨rfl, hb6⟩
   have c92 := c84.up hb6
   have c93 := c85.up hb6
   have c94 := c86.up hb6
   have c95 := c87.up hb6
   have c96 := c88.up hb6
   have c97 := c89.up hb6
   have c98 := c90.up hb6
   have hB99 : Below w.heap.size w w6 := bel_up hB91 hb6
   clear c84 c85 c86 c87 c88 c89 c90
   have ne100_ : w.heap.size < w6.heap.size := by have := c92.lt; omega
   have ne100 := Nat.ne_of_lt ne100_
   have ne100' := ne100.symm
   have ne101_ : w.heap.size + 1 < w6.heap.size := by have := c93.lt; omega
   have ne101 := Nat.ne_of_lt ne101_
   have ne101' := ne101.symm
   have ne102_ : w.heap.size + 2 < w6.heap.size := by have := c94.lt; omega
   have ne102 := Nat.ne_of_lt ne102_
   have ne102' := ne102.symm
   have ne103_ : w.heap.size + 3 < w6.heap.size := by have := c95.lt; omega
   have ne103 := Nat.ne_of_lt ne103_
   have ne103' := ne103.symm
   have ne104_ : w3.heap.size < w6.heap.size := by have := c96.lt; omega
   have ne104 := Nat.ne_of_lt ne104_
   have ne104' := ne104.symm
   have ne105_ : wr50.heap.size < w6.heap.size := by have := c97.lt; omega
   have ne105 := Nat.ne_of_lt ne105_
   have ne105' := ne105.symm
   have ne106_ : w5.heap.size < w6.heap.size := by have := c98.lt; omega
   have ne106 := Nat.ne_of_lt ne106_
   have ne106' := ne106.symm
   have uc92 := c92; have uc93 := c93; have uc94 := c94; have uc95 := c95; have uc96 := c96; have uc97 := c97; have uc98 := c98
   simp only [At, Own, Nat.reduceAdd, and_true] at uc92 uc93 uc94 uc95 uc96 uc97 uc98
   have K107 := Lib.hid (fun W => qsub_any x2 x1 W (ZX2.mono (by decide)) (ZX1.mono (by decide)))
   go_wp2_with (fail)
   refine calls_named ?_
   intro W7 hW7
   have hL7 : Below w6.heap.size w6 W7 := by
    rw [hW7]
    exact bB7
   have c108 := c92.up hL7
   have c109 := c93.up hL7
   have c110 := c94.up hL7
   have c111 := c95.up hL7
   have c112 := c96.up hL7
   have c113 := c97.up hL7
   have c114 := c98.up hL7
   have c115 : Own W7 (w6.heap.size) 0 [.bool (ng x2.num), .string (mg x2.num.natAbs), .bool false, .string (mg (dn x2))] := by
    rw [hW7]
    first
    | (repeat (first | (with_reducible refine own_new (l := [.bool (ng x2.num), .string (mg x2.num.natAbs), .bool false, .string (mg (dn x2))]) ?_; (simp; done)) | with_reducible refine Own.alloc ?_ _ | refine Own.far _ _ (by first | (simp; done) | (simp [*]; done) | (simp; omega)) ?_)); done
    | simp [Own, go_sem, uc92, uc93, uc94, uc95, uc96, uc97, uc98, ne100, ne100', ne100_, ne101, ne101', ne101_, ne102, ne102', ne102_, ne103, ne103', ne103_, ne104, ne104', ne104_, ne105, ne105', ne105_, ne106, ne106', ne106_]
   have hB116 : Below w.heap.size w W7 := by
    rw [hW7]
    exact bB7
   clear hW7 hL7 uc92 uc93 uc94 uc95 uc96 uc97 uc98 c92 c93 c94 c95 c96 c97 c98
   with_reducible refine (K107.out _).mono ?_
   rintro e w7 ⟨rfl, hb7⟩
   have c117 := c108.up hb7
   have c118 := c109.up hb7
   have c119 := c110.up hb7
   have c120 := c111.up hb7
   have c121 := c112.up hb7
   have c122 := c113.up hb7
   have c123 := c114.up hb7
   have c124 := c115.up hb7
   have hB125 : Below w.heap.size w w7 := bel_up hB116 hb7
   clear c108 c109 c110 c111 c112 c113 c114 c115
   have ne126_ : w.heap.size < w7.heap.size := by have := c117.lt; omega
   have ne126 := Nat.ne_of_lt ne126_
   have ne126' := ne126.symm
   have ne127_ : w.heap.size + 1 < w7.heap.size := by have := c118.lt; omega
   have ne127 := Nat.ne_of_lt ne127_
   have ne127' := ne127.symm
   have ne128_ : w.heap.size + 2 < w7.heap.size := by have := c119.lt; omega
   have ne128 := Nat.ne_of_lt ne128_
   have ne128' := ne128.symm
   have ne129_ : w.heap.size + 3 < w7.heap.size := by have := c120.lt; omega
   have ne129 := Nat.ne_of_lt ne129_
   have ne129' := ne129.symm
   have ne130_ : w3.heap.size < w7.heap.size := by have := c121.lt; omega
   have ne130 := Nat.ne_of_lt ne130_
   have ne130' := ne130.symm
   have ne131_ : wr50.heap.size < w7.heap.size := by have := c122.lt; omega
   have ne131 := Nat.ne_of_lt ne131_
   have ne131' := ne131.symm
   have ne132_ : w5.heap.size < w7.heap.size := by have := c123.lt; omega
   have ne132 := Nat.ne_of_lt ne132_
   have ne132' := ne132.symm
   have ne133_ : w6.heap.size < w7.heap.size := by have := c124.lt; omega
   have ne133 := Nat.ne_of_lt ne133_
   have ne133' := ne133.symm
   have uc117 := c117; have uc118 := c118; have uc119 := c119; have uc120 := c120; have uc121 := c121; have uc122 := c122; have uc123 := c123; have uc124 := c124
   simp only [At, Own, Nat.reduceAdd, and_true] at uc117 uc118 uc119 uc120 uc121 uc122 uc123 uc124
   cases b1
   ·skip
    go_wp2
    go_roundw
    case rel => exact ⟨(k + 1), m, fd, (by first | rfl | exact congrArg (Value.int .i64) (by omega) | simp [*]), (by first | rfl | exact congrArg (Value.int .i64) (by omega) | simp [*]), oF7, oF7, oF7, oF7, oF7, (by exact bB7), (by omega), Lib.hid (by rw [ahead_succ Hhx52.out]; exact lea_skip HL.out (way_none1 HO1.out)), ZM⟩
    case measure => simp [intOf] <;> omega
   ·skip
    cases b2
    ·skip
     go_wp2
     go_roundw
     case rel => exact ⟨(k + 1), m, fd, (by first | rfl | exact congrArg (Value.int .i64) (by omega) | simp [*]), (by first | rfl | exact congrArg (Value.int .i64) (by omega) | simp [*]), oF7, oF7, oF7, oF7, oF7, (by exact bB7), (by omega), Lib.hid (by rw [ahead_succ Hhx52.out]; exact lea_skip HL.out (way_none2 HO2.out)), ZM⟩
     case measure => simp [intOf] <;> omega
    ·skip
     rcases hb134 : x51.o with _ | _
     ·skip
      have K135 := Lib.hid (fun W => qabs_any (x2 - x1) W)
      go_wp2_with (fail)
      refine calls_named ?_
      intro W8 hW8
      have hL8 : Below w7.heap.size w7 W8 := by
       rw [hW8]
       exact bB7
      have c136 := c117.up hL8
      have c137 := c118.up hL8
      have c138 := c119.up hL8
      have c139 := c120.up hL8
      have c140 := c121.up hL8
      have c141 := c122.up hL8
      have c142 := c123.up hL8
      have c143 := c124.up hL8
      have c144 : Own W8 (w7.heap.size) 0 [.bool (ng ((x2 - x1).num)), .string (mg ((x2 - x1).num).natAbs), .bool false, .string (mg (dn (x2 - x1)))] := by
       rw [hW8]
       first
       | (repeat (first | (with_reducible refine own_new (l := [.bool (ng ((x2 - x1).num)), .string (mg ((x2 - x1).num).natAbs), .bool false, .string (mg (dn (x2 - x1)))]) ?_; (simp; done)) | with_reducible refine Own.alloc ?_ _ | refine Own.far _ _ (by first | (simp; done) | (simp [*]; done) | (simp; omega)) ?_)); done
       | simp [Own, go_sem, uc117, uc118, uc119, uc120, uc121, uc122, uc123, uc124, ne126, ne126', ne126_, ne127, ne127', ne127_, ne128, ne128', ne128_, ne129, ne129', ne129_, ne130, ne130', ne130_, ne131, ne131', ne131_, ne132, ne132', ne132_, ne133, ne133', ne133_]
      have hB145 : Below w.heap.size w W8 := by
       rw [hW8]
       exact bB7
      clear hW8 hL8 uc117 uc118 uc119 uc120 uc121 uc122 uc123 uc124 c117 c118 c119 c120 c121 c122 c123 c124
      with_reducible refine (K135.out _).mono ?_
      rintro e w8 ⟨rfl, hb8⟩
      have c146 := c136.up hb8
      have c147 := c137.up hb8
      have c148 := c138.up hb8
      have c149 := c139.up hb8
      have c150 := c140.up hb8
      have c151 := c141.up hb8
      have c152 := c142.up hb8
      have c153 := c143.up hb8
      have c154 := c144.up hb8
      have hB155 : Below w.heap.size w w8 := bel_up hB145 hb8
      clear c136 c137 c138 c139 c140 c141 c142 c143 c144
      have uc146 := c146; have uc147 := c147; have uc148 := c148; have uc149 := c149; have uc150 := c150; have uc151 := c151; have uc152 := c152; have uc153 := c153; have uc154 := c154
      simp only [At, Own, Nat.reduceAdd, and_true] at uc146 uc147 uc148 uc149 uc150 uc151 uc152 uc153 uc154
      cases fd
      ·skip
       go_wp2
       go_roundw
       case rel => exact ⟨(k + 1), (absQ (x2 - x1)), true, (by first | rfl | exact congrArg (Value.int .i64) (by omega) | simp [*]), (by first | rfl | exact congrArg (Value.int .i64) (by omega) | simp [*]), oF7, oF7, oF7, oF7, (by simp [Own, go_sem, uc146, uc147, uc148, uc149, uc150, uc151, uc152, uc153, uc154]), (by exact bB7), (by omega), Lib.hid (by rw [ahead_succ Hhx52.out]; exact lea_first HL.out (way_two HO1.out HO2.out hb134)), ((absQ_sz (ZX2.sub ZX1)).mono (by decide))⟩
       case measure => simp [intOf] <;> omega
      ·skip
       have kK156 := fun W => qcmp_any (absQ (x2 - x1)) m W ((absQ_sz (ZX2.sub ZX1)).mono (by decide)) (ZM.mono (by decide))
       generalize hT158 : Pl.cmpQ (absQ (x2 - x1)) m = t157 at kK156
       have K156 := Lib.hid kK156
       clear kK156
       have T159 := Lib.hid (sgnQ hT158)
       have HhT158 := Lib.hid hT158
       clear hT158
       go_wp2_with (fail)
       refine calls_named ?_
       intro W9 hW9
       have c160 : Own W9 (w.heap.size) 0 [.slice An Nn cn, .slice (some ⟨g54, o55, none⟩) Nr cr] := by rw [hW9]; simp [Own, go_sem, uc146, uc147, uc148, uc149, uc150, uc151, uc152, uc153, uc154]
       have c161 : Own W9 (w.heap.size + 1) 0 [.int .i64 p.r, .bool (ng p.q.num), .string (mg p.q.num.natAbs), .bool false, .string (mg (dn p.q))] := by rw [hW9]; simp [Own, go_sem, uc146, uc147, uc148, uc149, uc150, uc151, uc152, uc153, uc154]
       have c162 : Own W9 (w.heap.size + 2) 0 [.int .i64 q.r, .bool (ng q.q.num), .string (mg q.q.num.natAbs), .bool false, .string (mg (dn q.q))] := by rw [hW9]; simp [Own, go_sem, uc146, uc147, uc148, uc149, uc150, uc151, uc152, uc153, uc154]
       have c163 : Own W9 (w.heap.size + 3) 0 [.bool false, .string ⟨#[]⟩, .bool false, .string ⟨#[]⟩] := by rw [hW9]; simp [Own, go_sem, uc146, uc147, uc148, uc149, uc150, uc151, uc152, uc153, uc154]
       have c164 : Own W9 (w3.heap.size) 0 [.bool (ng m.num), .string (mg m.num.natAbs), .bool false, .string (mg (dn m))] := by rw [hW9]; simp [Own, go_sem, uc146, uc147, uc148, uc149, uc150, uc151, uc152, uc153, uc154]
       have c165 : Own W9 (wr50.heap.size) 0 [.int .i64 x51.i, .int .i64 x51.f, .int .i64 x51.t, .int .i64 x51.l, .int .i64 x51.m, .bool x51.o] := by rw [hW9]; simp [Own, go_sem, uc146, uc147, uc148, uc149, uc150, uc151, uc152, uc153, uc154]
       have c166 : Own W9 (w5.heap.size) 0 [.bool (ng x1.num), .string (mg x1.num.natAbs), .bool false, .string (mg (dn x1))] := by rw [hW9]; simp [Own, go_sem, uc146, uc147, uc148, uc149, uc150, uc151, uc152, uc153, uc154]
       have c167 : Own W9 (w6.heap.size) 0 [.bool (ng x2.num), .string (mg x2.num.natAbs), .bool false, .string (mg (dn x2))] := by rw [hW9]; simp [Own, go_sem, uc146, uc147, uc148, uc149, uc150, uc151, uc152, uc153, uc154]
       have c168 : Own W9 (w7.heap.size) 0 [.bool (ng ((absQ (x2 - x1)).num)), .string (mg ((absQ (x2 - x1)).num).natAbs), .bool false, .string (mg (dn (absQ (x2 - x1))))] := by rw [hW9]; simp [Own, go_sem, uc146, uc147, uc148, uc149, uc150, uc151, uc152, uc153, uc154]
       have hB169 : Below w.heap.size w W9 := by
        rw [hW9]
        exact bB7
       clear hW9 uc146 uc147 uc148 uc149 uc150 uc151 uc152 uc153 uc154 c146 c147 c148 c149 c150 c151 c152 c153 c154
       with_reducible refine (K156.out _).mono ?_
       rintro e w9 ⟨rfl, hb9⟩
       have c170 := c160.up hb9
       have c171 := c161.up hb9
       have c172 := c162.up hb9
       have c173 := c163.up hb9
       have c174 := c164.up hb9
       have c175 := c165.up hb9
       have c176 := c166.up hb9
       have c177 := c167.up hb9
       have c178 := c168.up hb9
       have hB179 : Below w.heap.size w w9 := bel_up hB169 hb9
       clear c160 c161 c162 c163 c164 c165 c166 c167 c168
       rcases T159.out with rfl | rfl | rfl
       ·skip
        have uc170 := c170; have uc171 := c171; have uc172 := c172; have uc173 := c173; have uc174 := c174; have uc175 := c175; have uc176 := c176; have uc177 := c177; have uc178 := c178
        simp only [At, Own, Nat.reduceAdd, and_true] at uc170 uc171 uc172 uc173 uc174 uc175 uc176 uc177 uc178
        go_wp2
        go_roundw
        case rel => exact ⟨(k + 1), (absQ (x2 - x1)), true, (by first | rfl | exact congrArg (Value.int .i64) (by omega) | simp [*]), (by first | rfl | exact congrArg (Value.int .i64) (by omega) | simp [*]), oF7, oF7, oF7, oF7, (by simp [Own, go_sem, uc170, uc171, uc172, uc173, uc174, uc175, uc176, uc177, uc178]), (by exact bB7), (by omega), Lib.hid (by rw [ahead_succ Hhx52.out]; exact lea_less HL.out (way_two HO1.out HO2.out hb134) (by rw [HhT158.out]; decide)), ((absQ_sz (ZX2.sub ZX1)).mono (by decide))⟩
        case measure => simp [intOf] <;> omega
       ·skip
        have uc170 := c170; have uc171 := c171; have uc172 := c172; have uc173 := c173; have uc174 := c174; have uc175 := c175; have uc176 := c176; have uc177 := c177; have uc178 := c178
        simp only [At, Own, Nat.reduceAdd, and_true] at uc170 uc171 uc172 uc173 uc174 uc175 uc176 uc177 uc178
        go_wp2
        go_roundw
        case rel => exact ⟨(k + 1), m, true, (by first | rfl | exact congrArg (Value.int .i64) (by omega) | simp [*]), (by first | rfl | exact congrArg (Value.int .i64) (by omega) | simp [*]), oF7, oF7, oF7, oF7, oF7, (by exact bB7), (by omega), Lib.hid (by rw [ahead_succ Hhx52.out]; exact lea_keep HL.out (way_two HO1.out HO2.out hb134) (by rw [HhT158.out]; decide)), ZM⟩
        case measure => simp [intOf] <;> omega
       ·skip
        have uc170 := c170; have uc171 := c171; have uc172 := c172; have uc173 := c173; have uc174 := c174; have uc175 := c175; have uc176 := c176; have uc177 := c177; have uc178 := c178
        simp only [At, Own, Nat.reduceAdd, and_true] at uc170 uc171 uc172 uc173 uc174 uc175 uc176 uc177 uc178
        go_wp2
        go_roundw
        case rel => exact ⟨(k + 1), m, true, (by first | rfl | exact congrArg (Value.int .i64) (by omega) | simp [*]), (by first | rfl | exact congrArg (Value.int .i64) (by omega) | simp [*]), oF7, oF7, oF7, oF7, oF7, (by exact bB7), (by omega), Lib.hid (by rw [ahead_succ Hhx52.out]; exact lea_keep HL.out (way_two HO1.out HO2.out hb134) (by rw [HhT158.out]; decide)), ZM⟩
        case measure => simp [intOf] <;> omega
     ·skip
      have kK180 := fun W => qsign_any (x2 - x1) W
      generalize hT182 : Pl.sgn (x2 - x1) = t181 at kK180
      have K180 := Lib.hid kK180
      clear kK180
      have T183 := Lib.hid (sgnS hT182)
      have HhT182 := Lib.hid hT182
      clear hT182
      go_wp2_with (fail)
      refine calls_named ?_
      intro W10 hW10
      have hL10 : Below w7.heap.size w7 W10 := by
       rw [hW10]
       exact bB7
      have c184 := c117.up hL10
      have c185 := c118.up hL10
      have c186 := c119.up hL10
      have c187 := c120.up hL10
      have c188 := c121.up hL10
      have c189 := c122.up hL10
      have c190 := c123.up hL10
      have c191 := c124.up hL10
      have c192 : Own W10 (w7.heap.size) 0 [.bool (ng ((x2 - x1).num)), .string (mg ((x2 - x1).num).natAbs), .bool false, .string (mg (dn (x2 - x1)))] := by
       rw [hW10]
       first
       | (repeat (first | (with_reducible refine own_new (l := [.bool (ng ((x2 - x1).num)), .string (mg ((x2 - x1).num).natAbs), .bool false, .string (mg (dn (x2 - x1)))]) ?_; (simp; done)) | with_reducible refine Own.alloc ?_ _ | refine Own.far _ _ (by first | (simp; done) | (simp [*]; done) | (simp; omega)) ?_)); done
       | simp [Own, go_sem, uc117, uc118, uc119, uc120, uc121, uc122, uc123, uc124, ne126, ne126', ne126_, ne127, ne127', ne127_, ne128, ne128', ne128_, ne129, ne129', ne129_, ne130, ne130', ne130_, ne131, ne131', ne131_, ne132, ne132', ne132_, ne133, ne133', ne133_]
      have hB193 : Below w.heap.size w W10 := by
       rw [hW10]
       exact bB7
      clear hW10 hL10 uc117 uc118 uc119 uc120 uc121 uc122 uc123 uc124 c117 c118 c119 c120 c121 c122 c123 c124
      with_reducible refine (K180.out _).mono ?_
      rintro e w10 ⟨rfl, hb10⟩
      have c194 := c184.up hb10
      have c195 := c185.up hb10
      have c196 := c186.up hb10
      have c197 := c187.up hb10
      have c198 := c188.up hb10
      have c199 := c189.up hb10
      have c200 := c190.up hb10
      have c201 := c191.up hb10
      have c202 := c192.up hb10
      have hB203 : Below w.heap.size w w10 := bel_up hB193 hb10
      clear c184 c185 c186 c187 c188 c189 c190 c191 c192
      rcases T183.out with rfl | rfl | rfl
      ·skip
       have uc194 := c194; have uc195 := c195; have uc196 := c196; have uc197 := c197; have uc198 := c198; have uc199 := c199; have uc200 := c200; have uc201 := c201; have uc202 := c202
       simp only [At, Own, Nat.reduceAdd, and_true] at uc194 uc195 uc196 uc197 uc198 uc199 uc200 uc201 uc202
       go_wp2
       go_roundw
       case rel => exact ⟨(k + 1), m, fd, (by first | rfl | exact congrArg (Value.int .i64) (by omega) | simp [*]), (by first | rfl | exact congrArg (Value.int .i64) (by omega) | simp [*]), oF7, oF7, oF7, oF7, oF7, (by exact bB7), (by omega), Lib.hid (by rw [ahead_succ Hhx52.out]; exact lea_skip HL.out (way_back HO1.out HO2.out hb134 (by rw [HhT182.out]; decide))), ZM⟩
       case measure => simp [intOf] <;> omega
      ·skip
       have uc194 := c194; have uc195 := c195; have uc196 := c196; have uc197 := c197; have uc198 := c198; have uc199 := c199; have uc200 := c200; have uc201 := c201; have uc202 := c202
       simp only [At, Own, Nat.reduceAdd, and_true] at uc194 uc195 uc196 uc197 uc198 uc199 uc200 uc201 uc202
       have K204 := Lib.hid (fun W => qabs_any (x2 - x1) W)
       go_wp2_with (fail)
       refine calls_named ?_
       intro W11 hW11
       have hL11 : Below w10.heap.size w10 W11 := by
        rw [hW11]
        exact bB7
       have c205 := c194.up hL11
       have c206 := c195.up hL11
       have c207 := c196.up hL11
       have c208 := c197.up hL11
       have c209 := c198.up hL11
       have c210 := c199.up hL11
       have c211 := c200.up hL11
       have c212 := c201.up hL11
       have c213 := c202.up hL11
       have hB214 : Below w.heap.size w W11 := by
        rw [hW11]
        exact bB7
       clear hW11 hL11 uc194 uc195 uc196 uc197 uc198 uc199 uc200 uc201 uc202 c194 c195 c196 c197 c198 c199 c200 c201 c202
       with_reducible refine (K204.out _).mono ?_
       rintro e w11 ⟨rfl, hb11⟩
       have c215 := c205.up hb11
       have c216 := c206.up hb11
       have c217 := c207.up hb11
       have c218 := c208.up hb11
       have c219 := c209.up hb11
       have c220 := c210.up hb11
       have c221 := c211.up hb11
       have c222 := c212.up hb11
       have c223 := c213.up hb11
       have hB224 : Below w.heap.size w w11 := bel_up hB214 hb11
       clear c205 c206 c207 c208 c209 c210 c211 c212 c213
       have uc215 := c215; have uc216 := c216; have uc217 := c217; have uc218 := c218; have uc219 := c219; have uc220 := c220; have uc221 := c221; have uc222 := c222; have uc223 := c223
       simp only [At, Own, Nat.reduceAdd, and_true] at uc215 uc216 uc217 uc218 uc219 uc220 uc221 uc222 uc223
       cases fd
       ·skip
        go_wp2
        go_roundw
        case rel => exact ⟨(k + 1), (absQ (x2 - x1)), true, (by first | rfl | exact congrArg (Value.int .i64) (by omega) | simp [*]), (by first | rfl | exact congrArg (Value.int .i64) (by omega) | simp [*]), oF7, oF7, oF7, oF7, (by simp [Own, go_sem, uc215, uc216, uc217, uc218, uc219, uc220, uc221, uc222, uc223]), (by exact bB7), (by omega), Lib.hid (by rw [ahead_succ Hhx52.out]; exact lea_first HL.out (way_one HO1.out HO2.out (by rw [HhT182.out]; decide))), ((absQ_sz (ZX2.sub ZX1)).mono (by decide))⟩
        case measure => simp [intOf] <;> omega
       ·skip
        have kK225 := fun W => qcmp_any (absQ (x2 - x1)) m W ((absQ_sz (ZX2.sub ZX1)).mono (by decide)) (ZM.mono (by decide))
        generalize hT227 : Pl.cmpQ (absQ (x2 - x1)) m = t226 at kK225
        have K225 := Lib.hid kK225
        clear kK225
        have T228 := Lib.hid (sgnQ hT227)
        have HhT227 := Lib.hid hT227
        clear hT227
        go_wp2_with (fail)
        refine calls_named ?_
        intro W12 hW12
        have c229 : Own W12 (w.heap.size) 0 [.slice An Nn cn, .slice (some ⟨g54, o55, none⟩) Nr cr] := by rw [hW12]; simp [Own, go_sem, uc215, uc216, uc217, uc218, uc219, uc220, uc221, uc222, uc223]
        have c230 : Own W12 (w.heap.size + 1) 0 [.int .i64 p.r, .bool (ng p.q.num), .string (mg p.q.num.natAbs), .bool false, .string (mg (dn p.q))] := by rw [hW12]; simp [Own, go_sem, uc215, uc216, uc217, uc218, uc219, uc220, uc221, uc222, uc223]
        have c231 : Own W12 (w.heap.size + 2) 0 [.int .i64 q.r, .bool (ng q.q.num), .string (mg q.q.num.natAbs), .bool false, .string (mg (dn q.q))] := by rw [hW12]; simp [Own, go_sem, uc215, uc216, uc217, uc218, uc219, uc220, uc221, uc222, uc223]
        have c232 : Own W12 (w.heap.size + 3) 0 [.bool false, .string ⟨#[]⟩, .bool false, .string ⟨#[]⟩] := by rw [hW12]; simp [Own, go_sem, uc215, uc216, uc217, uc218, uc219, uc220, uc221, uc222, uc223]
        have c233 : Own W12 (w3.heap.size) 0 [.bool (ng m.num), .string (mg m.num.natAbs), .bool false, .string (mg (dn m))] := by rw [hW12]; simp [Own, go_sem, uc215, uc216, uc217, uc218, uc219, uc220, uc221, uc222, uc223]
        have c234 : Own W12 (wr50.heap.size) 0 [.int .i64 x51.i, .int .i64 x51.f, .int .i64 x51.t, .int .i64 x51.l, .int .i64 x51.m, .bool x51.o] := by rw [hW12]; simp [Own, go_sem, uc215, uc216, uc217, uc218, uc219, uc220, uc221, uc222, uc223]
        have c235 : Own W12 (w5.heap.size) 0 [.bool (ng x1.num), .string (mg x1.num.natAbs), .bool false, .string (mg (dn x1))] := by rw [hW12]; simp [Own, go_sem, uc215, uc216, uc217, uc218, uc219, uc220, uc221, uc222, uc223]
        have c236 : Own W12 (w6.heap.size) 0 [.bool (ng x2.num), .string (mg x2.num.natAbs), .bool false, .string (mg (dn x2))] := by rw [hW12]; simp [Own, go_sem, uc215, uc216, uc217, uc218, uc219, uc220, uc221, uc222, uc223]
        have c237 : Own W12 (w7.heap.size) 0 [.bool (ng ((absQ (x2 - x1)).num)), .string (mg ((absQ (x2 - x1)).num).natAbs), .bool false, .string (mg (dn (absQ (x2 - x1))))] := by rw [hW12]; simp [Own, go_sem, uc215, uc216, uc217, uc218, uc219, uc220, uc221, uc222, uc223]
        have hB238 : Below w.heap.size w W12 := by
         rw [hW12]
         exact bB7
        clear hW12 uc215 uc216 uc217 uc218 uc219 uc220 uc221 uc222 uc223 c215 c216 c217 c218 c219 c220 c221 c222 c223
        with_reducible refine (K225.out _).mono ?_
        rintro e w12 ⟨rfl, hb12⟩
        have c239 := c229.up hb12
        have c240 := c230.up hb12
        have c241 := c231.up hb12
        have c242 := c232.up hb12
        have c243 := c233.up hb12
        have c244 := c234.up hb12
        have c245 := c235.up hb12
        have c246 := c236.up hb12
        have c247 := c237.up hb12
        have hB248 : Below w.heap.size w w12 := bel_up hB238 hb12
        clear c229 c230 c231 c232 c233 c234 c235 c236 c237
        rcases T228.out with rfl | rfl | rfl
        ·skip
         have uc239 := c239; have uc240 := c240; have uc241 := c241; have uc242 := c242; have uc243 := c243; have uc244 := c244; have uc245 := c245; have uc246 := c246; have uc247 := c247
         simp only [At, Own, Nat.reduceAdd, and_true] at uc239 uc240 uc241 uc242 uc243 uc244 uc245 uc246 uc247
         go_wp2
         go_roundw
         case rel => exact ⟨(k + 1), (absQ (x2 - x1)), true, (by first | rfl | exact congrArg (Value.int .i64) (by omega) | simp [*]), (by first | rfl | exact congrArg (Value.int .i64) (by omega) | simp [*]), oF7, oF7, oF7, oF7, (by simp [Own, go_sem, uc239, uc240, uc241, uc242, uc243, uc244, uc245, uc246, uc247]), (by exact bB7), (by omega), Lib.hid (by rw [ahead_succ Hhx52.out]; exact lea_less HL.out (way_one HO1.out HO2.out (by rw [HhT182.out]; decide)) (by rw [HhT227.out]; decide)), ((absQ_sz (ZX2.sub ZX1)).mono (by decide))⟩
         case measure => simp [intOf] <;> omega
        ·skip
         have uc239 := c239; have uc240 := c240; have uc241 := c241; have uc242 := c242; have uc243 := c243; have uc244 := c244; have uc245 := c245; have uc246 := c246; have uc247 := c247
         simp only [At, Own, Nat.reduceAdd, and_true] at uc239 uc240 uc241 uc242 uc243 uc244 uc245 uc246 uc247
         go_wp2
         go_roundw
         case rel => exact ⟨(k + 1), m, true, (by first | rfl | exact congrArg (Value.int .i64) (by omega) | simp [*]), (by first | rfl | exact congrArg (Value.int .i64) (by omega) | simp [*]), oF7, oF7, oF7, oF7, oF7, (by exact bB7), (by omega), Lib.hid (by rw [ahead_succ Hhx52.out]; exact lea_keep HL.out (way_one HO1.out HO2.out (by rw [HhT182.out]; decide)) (by rw [HhT227.out]; decide)), ZM⟩
         case measure => simp [intOf] <;> omega
        ·skip
         have uc239 := c239; have uc240 := c240; have uc241 := c241; have uc242 := c242; have uc243 := c243; have uc244 := c244; have uc245 := c245; have uc246 := c246; have uc247 := c247
         simp only [At, Own, Nat.reduceAdd, and_true] at uc239 uc240 uc241 uc242 uc243 uc244 uc245 uc246 uc247
         go_wp2
         go_roundw
         case rel => exact ⟨(k + 1), m, true, (by first | rfl | exact congrArg (Value.int .i64) (by omega) | simp [*]), (by first | rfl | exact congrArg (Value.int .i64) (by omega) | simp [*]), oF7, oF7, oF7, oF7, oF7, (by exact bB7), (by omega), Lib.hid (by rw [ahead_succ Hhx52.out]; exact lea_keep HL.out (way_one HO1.out HO2.out (by rw [HhT182.out]; decide)) (by rw [HhT227.out]; decide)), ZM⟩
         case measure => simp [intOf] <;> omega
      ·skip
       have uc194 := c194; have uc195 := c195; have uc196 := c196; have uc197 := c197; have uc198 := c198; have uc199 := c199; have uc200 := c200; have uc201 := c201; have uc202 := c202
       simp only [At, Own, Nat.reduceAdd, and_true] at uc194 uc195 uc196 uc197 uc198 uc199 uc200 uc201 uc202
       have K249 := Lib.hid (fun W => qabs_any (x2 - x1) W)
       go_wp2_with (fail)
       refine calls_named ?_
       intro W13 hW13
       have hL13 : Below w10.heap.size w10 W13 := by
        rw [hW13]
        exact bB7
       have c250 := c194.up hL13
       have c251 := c195.up hL13
       have c252 := c196.up hL13
       have c253 := c197.up hL13
       have c254 := c198.up hL13
       have c255 := c199.up hL13
       have c256 := c200.up hL13
       have c257 := c201.up hL13
       have c258 := c202.up hL13
       have hB259 : Below w.heap.size w W13 := by
        rw [hW13]
        exact bB7
       clear hW13 hL13 uc194 uc195 uc196 uc197 uc198 uc199 uc200 uc201 uc202 c194 c195 c196 c197 c198 c199 c200 c201 c202
       with_reducible refine (K249.out _).mono ?_
       rintro e w13 ⟨rfl, hb13⟩
       have c260 := c250.up hb13
       have c261 := c251.up hb13
       have c262 := c252.up hb13
       have c263 := c253.up hb13
       have c264 := c254.up hb13
       have c265 := c255.up hb13
       have c266 := c256.up hb13
       have c267 := c257.up hb13
       have c268 := c258.up hb13
       have hB269 : Below w.heap.size w w13 := bel_up hB259 hb13
       clear c250 c251 c252 c253 c254 c255 c256 c257 c258
       have uc260 := c260; have uc261 := c261; have uc262 := c262; have uc263 := c263; have uc264 := c264; have uc265 := c265; have uc266 := c266; have uc267 := c267; have uc268 := c268
       simp only [At, Own, Nat.reduceAdd, and_true] at uc260 uc261 uc262 uc263 uc264 uc265 uc266 uc267 uc268
       cases fd
       ·skip
        go_wp2
        go_roundw
        case rel => exact ⟨(k + 1), (absQ (x2 - x1)), true, (by first | rfl | exact congrArg (Value.int .i64) (by omega) | simp [*]), (by first | rfl | exact congrArg (Value.int .i64) (by omega) | simp [*]), oF7, oF7, oF7, oF7, (by simp [Own, go_sem, uc260, uc261, uc262, uc263, uc264, uc265, uc266, uc267, uc268]), (by exact bB7), (by omega), Lib.hid (by rw [ahead_succ Hhx52.out]; exact lea_first HL.out (way_one HO1.out HO2.out (by rw [HhT182.out]; decide))), ((absQ_sz (ZX2.sub ZX1)).mono (by decide))⟩
        case measure => simp [intOf] <;> omega
       ·skip
        have kK270 := fun W => qcmp_any (absQ (x2 - x1)) m W ((absQ_sz (ZX2.sub ZX1)).mono (by decide)) (ZM.mono (by decide))
        generalize hT272 : Pl.cmpQ (absQ (x2 - x1)) m = t271 at kK270
        have K270 := Lib.hid kK270
        clear kK270
        have T273 := Lib.hid (sgnQ hT272)
        have HhT272 := Lib.hid hT272
        clear hT272
        go_wp2_with (fail)
        refine calls_named ?_
        intro W14 hW14
        have c274 : Own W14 (w.heap.size) 0 [.slice An Nn cn, .slice (some ⟨g54, o55, none⟩) Nr cr] := by rw [hW14]; simp [Own, go_sem, uc260, uc261, uc262, uc263, uc264, uc265, uc266, uc267, uc268]
        have c275 : Own W14 (w.heap.size + 1) 0 [.int .i64 p.r, .bool (ng p.q.num), .string (mg p.q.num.natAbs), .bool false, .string (mg (dn p.q))] := by rw [hW14]; simp [Own, go_sem, uc260, uc261, uc262, uc263, uc264, uc265, uc266, uc267, uc268]
        have c276 : Own W14 (w.heap.size + 2) 0 [.int .i64 q.r, .bool (ng q.q.num), .string (mg q.q.num.natAbs), .bool false, .string (mg (dn q.q))] := by rw [hW14]; simp [Own, go_sem, uc260, uc261, uc262, uc263, uc264, uc265, uc266, uc267, uc268]
        have c277 : Own W14 (w.heap.size + 3) 0 [.bool false, .string ⟨#[]⟩, .bool false, .string ⟨#[]⟩] := by rw [hW14]; simp [Own, go_sem, uc260, uc261, uc262, uc263, uc264, uc265, uc266, uc267, uc268]
        have c278 : Own W14 (w3.heap.size) 0 [.bool (ng m.num), .string (mg m.num.natAbs), .bool false, .string (mg (dn m))] := by rw [hW14]; simp [Own, go_sem, uc260, uc261, uc262, uc263, uc264, uc265, uc266, uc267, uc268]
        have c279 : Own W14 (wr50.heap.size) 0 [.int .i64 x51.i, .int .i64 x51.f, .int .i64 x51.t, .int .i64 x51.l, .int .i64 x51.m, .bool x51.o] := by rw [hW14]; simp [Own, go_sem, uc260, uc261, uc262, uc263, uc264, uc265, uc266, uc267, uc268]
        have c280 : Own W14 (w5.heap.size) 0 [.bool (ng x1.num), .string (mg x1.num.natAbs), .bool false, .string (mg (dn x1))] := by rw [hW14]; simp [Own, go_sem, uc260, uc261, uc262, uc263, uc264, uc265, uc266, uc267, uc268]
        have c281 : Own W14 (w6.heap.size) 0 [.bool (ng x2.num), .string (mg x2.num.natAbs), .bool false, .string (mg (dn x2))] := by rw [hW14]; simp [Own, go_sem, uc260, uc261, uc262, uc263, uc264, uc265, uc266, uc267, uc268]
        have c282 : Own W14 (w7.heap.size) 0 [.bool (ng ((absQ (x2 - x1)).num)), .string (mg ((absQ (x2 - x1)).num).natAbs), .bool false, .string (mg (dn (absQ (x2 - x1))))] := by rw [hW14]; simp [Own, go_sem, uc260, uc261, uc262, uc263, uc264, uc265, uc266, uc267, uc268]
        have hB283 : Below w.heap.size w W14 := by
         rw [hW14]
         exact bB7
        clear hW14 uc260 uc261 uc262 uc263 uc264 uc265 uc266 uc267 uc268 c260 c261 c262 c263 c264 c265 c266 c267 c268
        with_reducible refine (K270.out _).mono ?_
        rintro e w14 ⟨rfl, hb14⟩
        have c284 := c274.up hb14
        have c285 := c275.up hb14
        have c286 := c276.up hb14
        have c287 := c277.up hb14
        have c288 := c278.up hb14
        have c289 := c279.up hb14
        have c290 := c280.up hb14
        have c291 := c281.up hb14
        have c292 := c282.up hb14
        have hB293 : Below w.heap.size w w14 := bel_up hB283 hb14
        clear c274 c275 c276 c277 c278 c279 c280 c281 c282
        rcases T273.out with rfl | rfl | rfl
        ·skip
         have uc284 := c284; have uc285 := c285; have uc286 := c286; have uc287 := c287; have uc288 := c288; have uc289 := c289; have uc290 := c290; have uc291 := c291; have uc292 := c292
         simp only [At, Own, Nat.reduceAdd, and_true] at uc284 uc285 uc286 uc287 uc288 uc289 uc290 uc291 uc292
         go_wp2
         go_roundw
         case rel => exact ⟨(k + 1), (absQ (x2 - x1)), true, (by first | rfl | exact congrArg (Value.int .i64) (by omega) | simp [*]), (by first | rfl | exact congrArg (Value.int .i64) (by omega) | simp [*]), oF7, oF7, oF7, oF7, (by simp [Own, go_sem, uc284, uc285, uc286, uc287, uc288, uc289, uc290, uc291, uc292]), (by exact bB7), (by omega), Lib.hid (by rw [ahead_succ Hhx52.out]; exact lea_less HL.out (way_one HO1.out HO2.out (by rw [HhT182.out]; decide)) (by rw [HhT272.out]; decide)), ((absQ_sz (ZX2.sub ZX1)).mono (by decide))⟩
         case measure => simp [intOf] <;> omega
        ·skip
         have uc284 := c284; have uc285 := c285; have uc286 := c286; have uc287 := c287; have uc288 := c288; have uc289 := c289; have uc290 := c290; have uc291 := c291; have uc292 := c292
         simp only [At, Own, Nat.reduceAdd, and_true] at uc284 uc285 uc286 uc287 uc288 uc289 uc290 uc291 uc292
         go_wp2
         go_roundw
         case rel => exact ⟨(k + 1), m, true, (by first | rfl | exact congrArg (Value.int .i64) (by omega) | simp [*]), (by first | rfl | exact congrArg (Value.int .i64) (by omega) | simp [*]), oF7, oF7, oF7, oF7, oF7, (by exact bB7), (by omega), Lib.hid (by rw [ahead_succ Hhx52.out]; exact lea_keep HL.out (way_one HO1.out HO2.out (by rw [HhT182.out]; decide)) (by rw [HhT272.out]; decide)), ZM⟩
         case measure => simp [intOf] <;> omega
        ·skip
         have uc284 := c284; have uc285 := c285; have uc286 := c286; have uc287 := c287; have uc288 := c288; have uc289 := c289; have uc290 := c290; have uc291 := c291; have uc292 := c292
         simp only [At, Own, Nat.reduceAdd, and_true] at uc284 uc285 uc286 uc287 uc288 uc289 uc290 uc291 uc292
         go_wp2
         go_roundw
         case rel => exact ⟨(k + 1), m, true, (by first | rfl | exact congrArg (Value.int .i64) (by omega) | simp [*]), (by first | rfl | exact congrArg (Value.int .i64) (by omega) | simp [*]), oF7, oF7, oF7, oF7, oF7, (by exact bB7), (by omega), Lib.hid (by rw [ahead_succ Hhx52.out]; exact lea_keep HL.out (way_one HO1.out HO2.out (by rw [HhT182.out]; decide)) (by rw [HhT272.out]; decide)), ZM⟩
         case measure => simp [intOf] <;> omega
  ·skip
   have hkN : Nr = k := by omega
   subst hkN
   have ub44 := b44; have ub45 := b45; have ub46 := b46; have ub47 := b47; have ub48 := b48
   simp only [At, Own, Nat.reduceAdd, and_true] at ub44 ub45 ub46 ub47 ub48
   go_wp2
   refine bodyPost_ret (v := .tuple #[.agg #[.bool (ng m.num), .string (mg m.num.natAbs), .bool false, .string (mg (dn m))], .bool fd]) (by simp [results, Tryz.results49, go_sem, ub44, ub45, ub46, ub47, ub48]) rfl ⟨(by obtain ⟨rfl, rfl⟩ := lea_eq HX.out (by have h_ := HL.out; rwa [List.take_of_length_le (by rw [HNr.out]; exact Nat.le_refl _)] at h_); rfl), ?_⟩
   exact bB7
end Go.Proofs.YtldfencaoaikgaaGreatDoor
