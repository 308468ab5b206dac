/-
  Contracts of package network: the groups, whole.
-/
import Derived.Test.YtldfencaoaikgaaGreatDoorUNwf
set_option linter.unusedSimpArgs false
set_option linter.unusedVariables false
namespace Go.Proofs.YtldfencaoaikgaaGreatDoor
open Go Go.RowKit Go.Maps Nw

/-- None of the rows lies in the block. -/
def FarB (L : List Value) (b : Nat) : Prop := ∀ u ∈ L, u.ownBlock ≠ some b
/-- None of the rows shares a block with the value. -/
def FarG (L : List Value) (x : Value) : Prop := ∀ u ∈ L, FarR u x
/-- The rows of a row of rows, all of the call's own. -/
structure GrR (w : World) (base : Nat) (L : List Value) (Gs : List (List Int)) : Prop where
  len : L.length = Gs.length
  at_ : ∀ (i : Nat) (u : Value) (l : List Int), L[i]? = some u → Gs[i]? = some l → ∃ n, w.ownsRow base 3 1 u n (its l)
namespace GrR
variable {w w' : World} {base : Nat} {L : List Value} {Gs : List (List Int)}
theorem mem (h : GrR w base L Gs) {u : Value} (hu : u ∈ L) : ∃ n l, w.ownsRow base 3 1 u n (its l) := by
  obtain ⟨i, hi, rfl⟩ := List.mem_iff_getElem.1 hu
  have hj : i < Gs.length := by rw [← h.len]; exact hi
  obtain ⟨n, hn⟩ := h.at_ i _ _ (List.getElem?_eq_getElem hi) (List.getElem?_eq_getElem hj)
  exact ⟨n, _, hn⟩
theorem lt (h : GrR w base L Gs) {u : Value} (hu : u ∈ L) : ∀ r, u.ownBlock = some r → base ≤ r ∧ r < w.heap.size := by
  obtain ⟨n, l, hn⟩ := h.mem hu
  exact hn.lt
theorem nil (w : World) (base : Nat) : GrR w base [] [] := ⟨rfl, fun i u l h => by simp at h⟩
theorem up (h : GrR w base L Gs) (hb : Below w.heap.size w w') : GrR w' base L Gs := ⟨h.len, fun i u l hu hl => (h.at_ i u l hu hl).imp fun _ hn => owns_up hn hb⟩
theorem alloc (h : GrR w base L Gs) (o : Obj) : GrR (w.alloc o) base L Gs := h.up ((Below.refl _ _).alloc (Nat.le_refl _) o)
theorem far (h : GrR w base L Gs) (p : Addr) (hp : FarB L p.block) (u : Value) : GrR (w.setCell p u) base L Gs :=
  ⟨h.len, fun i v l hu hl => (h.at_ i v l hu hl).imp fun _ hn => owns_far hn p (hp v (List.mem_of_getElem? hu)) u⟩
theorem step {v v' : Value} (s : Step w w' v v') (h : GrR w base L Gs) (hf : FarG L v) : GrR w' base L Gs :=
  ⟨h.len, fun i u l hu hl => (h.at_ i u l hu hl).imp fun _ hn => owns_step s hn (hf u (List.mem_of_getElem? hu))⟩
theorem newB (h : GrR w base L Gs) {b : Nat} (hb : w.heap.size ≤ b) : FarB L b := fun u hu e => by have := (h.lt hu b e).2; omega
theorem snoc (h : GrR w base L Gs) {u : Value} {n : Nat} {l : List Int} (hn : w.ownsRow base 3 1 u n (its l)) : GrR w base (L ++ [u]) (Gs ++ [l]) := by
  refine ⟨by simp [h.len], fun i v m hv hm => ?_⟩
  by_cases hi : i < L.length
  · rw [List.getElem?_append_left hi] at hv
    rw [List.getElem?_append_left (by rw [← h.len]; exact hi)] at hm
    exact h.at_ i v m hv hm
  · rw [List.getElem?_append_right (by omega)] at hv
    rw [List.getElem?_append_right (by rw [← h.len]; omega), ← h.len] at hm
    have e : i - L.length = 0 := by
      have := (List.getElem?_eq_some_iff.1 hv).1
      simp at this; omega
    rw [e] at hv hm
    simp at hv hm
    subst hv; subst hm
    exact ⟨n, hn⟩
theorem mono (h : GrR w base L Gs) {B : Nat} (hB : B ≤ base) : GrR w B L Gs := ⟨h.len, fun i u l hu hl => (h.at_ i u l hu hl).imp fun _ hn => hn.mono hB⟩
end GrR
theorem FarG.new {w : World} {base : Nat} {L : List Value} {Gs : List (List Int)} {x : Value} (h : GrR w base L Gs) (hx : ∀ r, x.ownBlock = some r → w.heap.size ≤ r) : FarG L x := fun u hu r hr e => by
  have := (h.lt hu r hr).2
  have := hx r e
  omega
theorem FarG.step {w w' : World} {base : Nat} {L : List Value} {Gs : List (List Int)} {v v' : Value} (s : Step w w' v v') (h : GrR w base L Gs) (hf : FarG L v) : FarG L v' := fun u hu =>
  s.farR (fun r hr => (h.lt hu r hr).2) (hf u hu)
theorem FarG.snoc {L : List Value} {x u : Value} (h : FarG L x) (h2 : FarR u x) : FarG (L ++ [u]) x := fun v hv => by
  rcases List.mem_append.1 hv with q | q
  · exact h v q
  · simp at q; subst q; exact h2
theorem FarB.snoc {L : List Value} {b : Nat} {u : Value} (h : FarB L b) (h2 : u.ownBlock ≠ some b) : FarB (L ++ [u]) b := fun v hv => by
  rcases List.mem_append.1 hv with q | q
  · exact h v q
  · simp at q; subst q; exact h2
/-- A row of rows of numbers. -/
def GLs (w : World) (v : Value) (Gs : List (List Int)) : Prop :=
  ∃ (L : List Value) (base n : Nat), w.ownsRow base 55 1 v n (vls L) ∧ GrR w base L Gs
theorem filt_get {l : List Int} {p : Int → Bool} {k : Nat} {a : Int} (h : l[k]? = some a) (hp : p a = true) : (l.filter p)[((l.take k).filter p).length]? = some a := by
  obtain ⟨hk, e0⟩ := List.getElem?_eq_some_iff.1 h
  have e : l = l.take k ++ a :: l.drop (k + 1) := by
    conv => lhs; rw [← List.take_append_drop k l]
    rw [List.drop_eq_getElem_cons hk, e0]
  have e2 : l.filter p = (l.take k).filter p ++ a :: (l.drop (k + 1)).filter p := by
    conv => lhs; rw [e]
    rw [List.filter_append, List.filter_cons, if_pos hp]
  rw [e2, List.getElem?_append_right (Nat.le_refl _), Nat.sub_self]; rfl
theorem reps_get {N : Net} {k : Nat} {x : Nd} (h : N.ns[k]? = some x) (hr : rep N x.i = true) : (groupsE N)[repsTo N k]? = some (grp N x.i) := by
  unfold groupsE reps repsTo
  rw [List.getElem?_map, filt_get (ids_get h) hr]; rfl
theorem gs_next {N : Net} {k n : Nat} {x : Nd} {Gs : List (List Int)} {G : List Int} (h : N.ns[k]? = some x) (hr : rep N x.i = true) (hn : n = repsTo N k) (hG : Gs = (groupsE N).take n) (hg : G = grp N x.i) : Gs ++ [G] = (groupsE N).take (n + 1) := by
  subst hn; subst hG; subst hg
  rw [List.take_add_one, reps_get h hr]; rfl

set_option maxRecDepth 100000 in
set_option maxHeartbeats 4000000 in
theorem groups_any (N : Net) (v : Value) (w0 : World) (h : NV w0 v N) (g : Vld N) :
    Calls Tryz.prog 26 #[v] w0 fun e w' => ∃ v', e = .returned v' ∧ GLs w' v' (groupsE N) ∧ Below w0.heap.size w0 w' := by
  obtain ⟨_, _, rfl, hn, hr⟩ := h
  obtain ⟨An, cn, rfl, hcn, hmn, hxn⟩ := hn.open_
  obtain ⟨Ar, cr, rfl, hcr, hmr, hxr⟩ := hr.open_
  have HNV0 : Hid (NV w0 (.agg #[.slice An N.ns.length cn, .slice Ar N.rs.length cr]) N) := Lib.hid ⟨_, _, rfl, hn, hr⟩
  have HXN0 := Lib.hid hxn
  have HXR0 := Lib.hid hxr
  have HG := Lib.hid g
  have hln := g.ln
  have hlr := g.lr
  generalize hNn : N.ns.length = Nn at *
  generalize hNr : N.rs.length = Nr at *
  have HNn := Lib.hid hNn
  have HNr := Lib.hid hNr
  clear hn hr hxn hxr g hNn hNr
  go_enter Tryz.func26, Tryz.ntmps26
  go_upto_region 1 with fail
  refine wp_named ?_
  intro W0 hW0
  have c0 : Own W0 w0.heap.size 0 [.slice An Nn cn, .slice Ar Nr cr] := by rw [hW0]; simp [Own, go_sem]
  have hB0 : Below w0.heap.size w0 W0 := by
    rw [hW0]
    repeat (first | with_reducible exact Below.refl _ _ | with_reducible refine bel_alloc ?_ _ | refine Below.setCell ?_ (by first | (simp; done) | (simp; omega) | omega) _)
  clear hW0
  have uc0 := c0
  simp only [At, Own, Nat.reduceAdd, and_true] at uc0
  go_wp2_with (fail)
  with_reducible refine (reverse_any N _ _ (HNV0.out.up hB0) HG.out).mono ?_
  rintro e w1 ⟨v1, rfl, hv1, hb1⟩
  obtain ⟨_, _, rfl, hnb, hrb⟩ := hv1
  obtain ⟨An2, cn2, rfl, hcn2, hmn2, hxn2⟩ := hnb.open_
  obtain ⟨Ar2, cr2, rfl, hcr2, hmr2, hxr2⟩ := hrb.open_
  have HNB1 : Hid (NV w1 (.agg #[.slice An2 (rev N).ns.length cn2, .slice Ar2 (rev N).rs.length cr2]) (rev N)) := Lib.hid ⟨_, _, rfl, hnb, hrb⟩
  have hB1 : Below w0.heap.size w0 w1 := bel_up hB0 hb1
  have c0' := c0.up hb1
  clear uc0 c0 hnb hrb hxn2 hxr2 hcn2 hmn2 hcr2 hmr2
  have hlt0 := c0'.lt
  go_upto_region 2 with fail
  refine wp_named ?_
  intro w hw
  have hLw : Below w1.heap.size w1 w := by
    rw [hw]
    repeat (first | with_reducible exact Below.refl _ _ | with_reducible refine bel_alloc ?_ _ | refine Below.setCell ?_ (by first | (simp; done) | (simp; omega) | omega) _)
  have cb1 : Own w w1.heap.size 0 [.slice An2 (rev N).ns.length cn2, .slice Ar2 (rev N).rs.length cr2] := by
    rw [hw]
    first
    | (repeat (first | (with_reducible refine own_new (l := [.slice An2 (rev N).ns.length cn2, .slice Ar2 (rev N).rs.length cr2]) ?_; (simp; done)) | with_reducible refine Own.alloc ?_ _)); done
    | simp [Own, go_sem]
  have cb0 := c0'.up hLw
  have hBw : Below w0.heap.size w0 w := bel_up hB1 hLw
  have HNB := Lib.hid (HNB1.out.up hLw)
  have HNV := Lib.hid (HNV0.out.up hBw)
  have HXN := Lib.hid (HXN0.out.up kpN hBw)
  have HXR := Lib.hid (HXR0.out.up kpR hBw)
  have HGR := Lib.hid (rev_vld HG.out)
  have hsw0 := cb0.lt
  have hsw1 := cb1.lt
  clear hw hLw c0' HNB1 HNV0 HXN0 HXR0 hB0 hb1 hB1
  have ucb0 := cb0; have ucb1 := cb1
  simp only [At, Own, Nat.reduceAdd, and_true] at ucb0 ucb1
  have hmm := @run_makeMap Tryz.prog
  go_upto_region 3 with fail
  refine wp_named ?_
  intro WM hWM
  clear hmm
  have hbM : Below w.heap.size w WM := by rw [hWM]; exact (Below.refl _ _).alloc (Nat.le_refl _) _
  have OS0 : Hid (SetM WM w.heap.size w.heap.size []) := Lib.hid (by rw [hWM]; exact sm_made w (Nat.le_refl _))
  clear hWM
  have f1 : Value.ownBlock (mblk w.heap.size) ≠ some (w0.heap.size) := fun e_ => by have := mblk_block.1 e_; have := cb0.lt; omega
  have f2 : Value.ownBlock (mblk w.heap.size) ≠ some (w1.heap.size) := fun e_ => by have := mblk_block.1 e_; have := cb1.lt; omega
  have c3 := cb0.up hbM
  have c4 := cb1.up hbM
  have hB5 := hbM
  clear ucb0 ucb1 cb0 cb1
  have OG0 : Hid (GrR WM w.heap.size [] []) := Lib.hid (GrR.nil _ _)
  have fB6 : FarB [] (w0.heap.size) := fun u_ h_ => absurd h_ (by simp)
  have fB7 : FarB [] (w1.heap.size) := fun u_ h_ => absurd h_ (by simp)
  have fG8 : FarG [] (mblk w.heap.size) := fun u_ h_ => absurd h_ (by simp)
  have uc3 := c3; have uc4 := c4
  simp only [At, Own, Nat.reduceAdd, and_true] at uc3 uc4
  go_wp2_with fail
  go_loopw [5, 18] (fun s5 s18 wr => ∃ (k : Nat) (n : Nat) (L : List Value) (S : List Int) (Gs : List (List Int)), s18 = .int .i64 k ∧ Own wr (w0.heap.size) 0 [.slice An Nn cn, .slice Ar Nr cr] ∧ Own wr (w1.heap.size) 0 [((.slice An2 (rev N).ns.length cn2)), ((.slice Ar2 (rev N).rs.length cr2))] ∧ wr.ownsRow w.heap.size 55 1 s5 n (vls L) ∧ Value.ownBlock s5 ≠ some (w0.heap.size) ∧ Value.ownBlock s5 ≠ some (w1.heap.size) ∧ GrR wr w.heap.size L Gs ∧ FarB L (w0.heap.size) ∧ FarB L (w1.heap.size) ∧ SetM wr w.heap.size w.heap.size S ∧ FarG L s5 ∧ FarR (mblk w.heap.size) s5 ∧ FarG L (mblk w.heap.size) ∧ Below w.heap.size w wr ∧ k ≤ Nn ∧ n ≤ k ∧ Hid (n = repsTo N k) ∧ Hid (Gd N k S) ∧ S.length ≤ 256 ∧ Hid (Gs = (groupsE N).take n)) (fun _ s18 _ => Nn - (intOf s18).toNat)
  case atStart => exact ⟨0, 0, ([]), ([]), ([]), rfl, c3, c4, World.ownsRow_nil _ _ _ _, by simp [Value.ownBlock], by simp [Value.ownBlock], OG0.out, fB6, fB7, OS0.out, (fun u_ _ r_ _ h_ => by cases h_), (fun r_ _ h_ => by cases h_), fG8, hB5, (by omega), (by omega), Lib.hid rfl, Lib.hid (gd_zero N), (by simp), Lib.hid rfl⟩
  case round =>
    clear c3 c4 hB5 uc3 uc4 OS0 OG0
    obtain ⟨k, n, L, S, Gs, rfl, b9, b10, o11, f12, f13, o14, f15, f16, o17, ff18, ff19, ff20, hB21, hk, hn, HC, HS, hS, HGs⟩ := hrel
    obtain ⟨wr22, hwr22⟩ : ∃ W_, W_ = wr := ⟨_, rfl⟩
    subst hwr22
    have O23 := Lib.hid o11
    clear o11
    have O24 := Lib.hid o14
    clear o14
    have O25 := Lib.hid o17
    clear o17
    have ff18' := ff18
    have ff19' := FarR.symm ff19
    have ff20' := ff20
    by_cases hltk : k < Nn
    · skip
      have i1k : (k : Int) < Nn := by omega
      obtain ⟨x26, hx27⟩ : ∃ x, N.ns[k]? = some x := ⟨_, List.getElem?_eq_getElem (by rw [HNn.out]; omega)⟩
      have Hhx27 := Lib.hid hx27
      clear hx27
      have hxb := id_bd HG.out (show x26.i ∈ ids N from List.mem_map.2 ⟨_, List.mem_of_getElem? Hhx27.out, rfl⟩)
      obtain ⟨g29, o30, ha31, -⟩ := (HXN.out).up kpN hB21 _ _ Hhx27.out
      subst ha31
      have ce28 := LX.at_ ((HXN.out).up kpN hB21) Hhx27.out
      have ce28_ : g29 < wr22.heap.size := World.block_lt_of_cell? _ _ ce28.1
      have uce28 := ce28
      simp only [CN, ndc, At, Nat.reduceMul] at uce28
      have f32 := owns_new0 O23.out
      have f33 : FarB L (wr22.heap.size) := GrR.newB O24.out (by omega)
      have f34 : Value.ownBlock (mblk w.heap.size) ≠ some (wr22.heap.size) := fun e_ => by have := (O25.out.lt _ e_).2; omega
      have ne35_ : w0.heap.size < wr22.heap.size := by have := b9.lt; omega
      have ne35 := Nat.ne_of_lt ne35_
      have ne35' := ne35.symm
      have ne36_ : w1.heap.size < wr22.heap.size := by have := b10.lt; omega
      have ne36 := Nat.ne_of_lt ne36_
      have ne36' := ne36.symm
      have ub9 := b9; have ub10 := b10
      simp only [At, Own, Nat.reduceAdd, and_true] at ub9 ub10
      by_cases hm44 : x26.i ∈ S
      · skip
        have hm44_ : decide (x26.i ∈ S) = true := decide_eq_true hm44
        have Hhm44 := Lib.hid hm44
        clear hm44
        go_upto_region 7 with fail
        refine wp_named ?_
        intro W2 hW2
        have hL2 : Below wr22.heap.size wr22 W2 := by
          rw [hW2]
          repeat (first | with_reducible exact Below.refl _ _ | with_reducible refine bel_alloc ?_ _ | refine Below.setCell ?_ (by first | (simp; done) | (simp; omega) | omega) _)
        have c45 := b9.up hL2
        have c46 := b10.up hL2
        have c47 : Own W2 (wr22.heap.size) 0 [.int .i64 x26.i, .int .i64 x26.x, .int .i64 x26.y] := by
          rw [hW2]
          first
          | (repeat (first | (with_reducible refine own_new (l := [.int .i64 x26.i, .int .i64 x26.x, .int .i64 x26.y]) ?_; (simp; done)) | with_reducible refine Own.alloc ?_ _ | refine Own.far _ _ (by first | (simp; done) | (simp [*]; done) | (simp; omega)) ?_)); done
          | simp [Own, go_sem, uce28, ub9, ub10, ne35, ne35', ne35_, ne36, ne36', ne36_]
        have O48 := Lib.hid (owns_up O23.out hL2)
        have O49 := Lib.hid (GrR.up O24.out hL2)
        have O50 := Lib.hid (SetM.up O25.out hL2)
        have hB51 : Below w.heap.size w W2 := by
          rw [hW2]
          repeat (first | with_reducible exact hB21 | with_reducible refine bel_alloc ?_ _ | refine Below.setCell ?_ (by first | (simp; done) | (simp; omega) | omega) _)
        clear hW2 hL2 uce28 ub9 ub10 b9 b10
        have uc45 := c45; have uc46 := c46; have uc47 := c47
        simp only [At, Own, Nat.reduceAdd, and_true] at uc45 uc46 uc47
        go_wp2_with ((at_lookup; refine wpList_lookup_set rfl _ _ rfl x26.i O50.out (wf_k (by omega)) rfl rfl ?_; rw [hm44_]))
        go_roundw
        case rel => exact ⟨(k + 1), n, L, S, Gs, (by first | rfl | exact congrArg (Value.int .i64) (by omega) | simp [*]), (by repeat (first | with_reducible exact c45 | refine Own.far _ _ (by simp <;> omega) ?_ | with_reducible refine Own.alloc ?_ _)), (by repeat (first | with_reducible exact c46 | refine Own.far _ _ (by simp <;> omega) ?_ | with_reducible refine Own.alloc ?_ _)), (by repeat (first | with_reducible exact O48.out | refine owns_far ?_ _ (by first | exact f12 | exact f13 | exact f32) _ | with_reducible refine World.ownsRow.alloc ?_ _)), f12, f13, (by repeat (first | with_reducible exact O49.out | refine GrR.far ?_ _ (by first | exact f15 | exact f16 | exact f33) _ | with_reducible refine GrR.alloc ?_ _)), f15, f16, (by repeat (first | with_reducible exact O50.out | refine SetM.far ?_ _ (by first | exact f1 | exact f2 | exact f34) _ | with_reducible refine SetM.alloc ?_ _)), ff18, ff19, ff20, (by repeat (first | with_reducible exact hB51 | with_reducible refine bel_alloc ?_ _ | refine Below.setCell ?_ (by first | (simp; done) | (simp; omega) | omega) _)), (by omega), (by omega), Lib.hid (by rw [reps_no Hhx27.out ((HS.out.rep HG.out Hhx27.out).2 Hhm44.out), HC.out]), Lib.hid (HS.out.skip Hhx27.out Hhm44.out), hS, HGs⟩
        case measure => simp [intOf] <;> omega
      · skip
        have hm44_ : decide (x26.i ∈ S) = false := decide_eq_false hm44
        have Hhm44 := Lib.hid hm44
        clear hm44
        go_upto_region 7 with fail
        refine wp_named ?_
        intro W3 hW3
        have hL3 : Below wr22.heap.size wr22 W3 := by
          rw [hW3]
          repeat (first | with_reducible exact Below.refl _ _ | with_reducible refine bel_alloc ?_ _ | refine Below.setCell ?_ (by first | (simp; done) | (simp; omega) | omega) _)
        have c52 := b9.up hL3
        have c53 := b10.up hL3
        have c54 : Own W3 (wr22.heap.size) 0 [.int .i64 x26.i, .int .i64 x26.x, .int .i64 x26.y] := by
          rw [hW3]
          first
          | (repeat (first | (with_reducible refine own_new (l := [.int .i64 x26.i, .int .i64 x26.x, .int .i64 x26.y]) ?_; (simp; done)) | with_reducible refine Own.alloc ?_ _ | refine Own.far _ _ (by first | (simp; done) | (simp [*]; done) | (simp; omega)) ?_)); done
          | simp [Own, go_sem, uce28, ub9, ub10, ne35, ne35', ne35_, ne36, ne36', ne36_]
        have O55 := Lib.hid (owns_up O23.out hL3)
        have O56 := Lib.hid (GrR.up O24.out hL3)
        have O57 := Lib.hid (SetM.up O25.out hL3)
        have hB58 : Below w.heap.size w W3 := by
          rw [hW3]
          repeat (first | with_reducible exact hB21 | with_reducible refine bel_alloc ?_ _ | refine Below.setCell ?_ (by first | (simp; done) | (simp; omega) | omega) _)
        clear hW3 hL3 uce28 ub9 ub10 b9 b10
        have uc52 := c52; have uc53 := c53; have uc54 := c54
        simp only [At, Own, Nat.reduceAdd, and_true] at uc52 uc53 uc54
        have K59 := Lib.hid (fun W (hv : NV W (.agg #[((.slice An2 (rev N).ns.length cn2)), ((.slice Ar2 (rev N).rs.length cr2))]) (rev N)) => reach_any (rev N) x26.i _ W hv HGR.out)
        go_wp2_with ((at_lookup; refine wpList_lookup_set rfl _ _ rfl x26.i O57.out (wf_k (by omega)) rfl rfl ?_; rw [hm44_]))
        refine calls_named ?_
        intro W4 hW4
        have hL4 : Below W3.heap.size W3 W4 := by
          rw [hW4]
          repeat (first | with_reducible exact Below.refl _ _ | with_reducible refine bel_alloc ?_ _ | refine Below.setCell ?_ (by first | (simp; done) | (simp; omega) | omega) _)
        have c60 := c52.up hL4
        have c61 := c53.up hL4
        have c62 := c54.up hL4
        have O63 := Lib.hid (owns_up O55.out hL4)
        have O64 := Lib.hid (GrR.up O56.out hL4)
        have O65 := Lib.hid (SetM.up O57.out hL4)
        have hB66 : Below w.heap.size w W4 := by
          rw [hW4]
          repeat (first | with_reducible exact hB58 | with_reducible refine bel_alloc ?_ _ | refine Below.setCell ?_ (by first | (simp; done) | (simp; omega) | omega) _)
        clear hW4 hL4 uc52 uc53 uc54 c52 c53 c54
        with_reducible refine (K59.out _ (HNB.out.up hB66)).mono ?_
        rintro e w4 ⟨v4, n4, rfl, ho4, hb4⟩
        have f67 : Value.ownBlock v4 ≠ some (w0.heap.size) := fun e_ => by have := (ho4.lt _ e_).1; have := c60.lt; omega
        have f68 : Value.ownBlock v4 ≠ some (w1.heap.size) := fun e_ => by have := (ho4.lt _ e_).1; have := c61.lt; omega
        have f69 : Value.ownBlock v4 ≠ some (wr22.heap.size) := fun e_ => by have := (ho4.lt _ e_).1; have := c62.lt; omega
        have ff70 : FarR v4 u5 := far_new ho4 O63.out
        have ff70' := FarR.symm ff70
        have ff71 : FarG L v4 := FarG.new O64.out (fun r hr => (ho4.lt r hr).1)
        have ff71' := ff71
        have ff72 : FarR v4 (mblk w.heap.size) := FarR.of (fun r hr => (ho4.lt r hr).1) (fun r hr => (O65.out.lt r hr).2)
        have ff72' := FarR.symm ff72
        have OC4 := Lib.hid (ho4.mono (hB66).size)
        clear ho4
        have c73 := c60.up hb4
        have c74 := c61.up hb4
        have c75 := c62.up hb4
        have O76 := Lib.hid (owns_up O63.out hb4)
        have O77 := Lib.hid (GrR.up O64.out hb4)
        have O78 := Lib.hid (SetM.up O65.out hb4)
        have hB79 : Below w.heap.size w w4 := bel_up hB66 hb4
        clear c60 c61 c62 O63 O64 O65
        obtain ⟨ATo, cTo, hvTo, hnTo⟩ := owns_openI OC4.out
        subst hvTo
        have hlTo : n4 ≤ 256 := by rw [hnTo]; exact Nat.le_trans (reach_le (rev N) _) (by first | (rw [HNn.out]; exact hln) | exact (rev_vld HG.out).ln)
        have HNTo := Lib.hid hnTo
        clear hnTo
        have uc73 := c73; have uc74 := c74; have uc75 := c75
        simp only [At, Own, Nat.reduceAdd, and_true] at uc73 uc74 uc75
        have K80 := Lib.hid (fun W (hv : NV W (.agg #[.slice (some ⟨g29, o30, none⟩) Nn cn, .slice Ar Nr cr]) N) => reach_any N x26.i _ W hv HG.out)
        go_wp2_with (fail)
        refine calls_named ?_
        intro W5 hW5
        have hL5 : Below w4.heap.size w4 W5 := by
          rw [hW5]
          repeat (first | with_reducible exact Below.refl _ _ | with_reducible refine bel_alloc ?_ _ | refine Below.setCell ?_ (by first | (simp; done) | (simp; omega) | omega) _)
        have c81 := c73.up hL5
        have c82 := c74.up hL5
        have c83 := c75.up hL5
        have O84 := Lib.hid (owns_up O76.out hL5)
        have O85 := Lib.hid (GrR.up O77.out hL5)
        have O86 := Lib.hid (SetM.up O78.out hL5)
        have O87 := Lib.hid (owns_up OC4.out hL5)
        have hB88 : Below w.heap.size w W5 := by
          rw [hW5]
          repeat (first | with_reducible exact hB79 | with_reducible refine bel_alloc ?_ _ | refine Below.setCell ?_ (by first | (simp; done) | (simp; omega) | omega) _)
        clear hW5 hL5 uc73 uc74 uc75 c73 c74 c75
        with_reducible refine (K80.out _ (HNV.out.up hB88)).mono ?_
        rintro e w5 ⟨v5, n5, rfl, ho5, hb5⟩
        have f89 : Value.ownBlock v5 ≠ some (w0.heap.size) := fun e_ => by have := (ho5.lt _ e_).1; have := c81.lt; omega
        have f90 : Value.ownBlock v5 ≠ some (w1.heap.size) := fun e_ => by have := (ho5.lt _ e_).1; have := c82.lt; omega
        have f91 : Value.ownBlock v5 ≠ some (wr22.heap.size) := fun e_ => by have := (ho5.lt _ e_).1; have := c83.lt; omega
        have ff92 : FarR v5 u5 := far_new ho5 O84.out
        have ff92' := FarR.symm ff92
        have ff93 : FarG L v5 := FarG.new O85.out (fun r hr => (ho5.lt r hr).1)
        have ff93' := ff93
        have ff94 : FarR v5 (mblk w.heap.size) := FarR.of (fun r hr => (ho5.lt r hr).1) (fun r hr => (O86.out.lt r hr).2)
        have ff94' := FarR.symm ff94
        have ff95 : FarR v5 (.slice ATo n4 cTo) := far_new ho5 O87.out
        have ff95' := FarR.symm ff95
        have OC5 := Lib.hid (ho5.mono (hB88).size)
        clear ho5
        have c96 := c81.up hb5
        have c97 := c82.up hb5
        have c98 := c83.up hb5
        have O99 := Lib.hid (owns_up O84.out hb5)
        have O100 := Lib.hid (GrR.up O85.out hb5)
        have O101 := Lib.hid (SetM.up O86.out hb5)
        have O102 := Lib.hid (owns_up O87.out hb5)
        have hB103 : Below w.heap.size w w5 := bel_up hB88 hb5
        clear c81 c82 c83 O84 O85 O86 O87
        obtain ⟨AFr, cFr, hvFr, hnFr⟩ := owns_openI OC5.out
        subst hvFr
        have hlFr : n5 ≤ 256 := by rw [hnFr]; exact Nat.le_trans (reach_le N _) (by first | (rw [HNn.out]; exact hln) | exact (rev_vld HG.out).ln)
        have HNFr := Lib.hid hnFr
        clear hnFr
        go_wp2_with fail
        go_loopw [9, 35] (fun s9 s35 wr => ∃ (j : Nat) (n9 : Nat) (G : List Int) (S2 : List Int), s35 = .int .i64 j ∧ Own wr (w0.heap.size) 0 [.slice (some ⟨g29, o30, none⟩) Nn cn, .slice Ar Nr cr] ∧ Own wr (w1.heap.size) 0 [((.slice An2 (rev N).ns.length cn2)), ((.slice Ar2 (rev N).rs.length cr2))] ∧ Own wr (wr22.heap.size) 0 [.int .i64 x26.i, .int .i64 x26.x, .int .i64 x26.y] ∧ wr.ownsRow w.heap.size 3 1 s9 n9 (its G) ∧ Value.ownBlock s9 ≠ some (w0.heap.size) ∧ Value.ownBlock s9 ≠ some (w1.heap.size) ∧ Value.ownBlock s9 ≠ some (wr22.heap.size) ∧ SetM wr w.heap.size w.heap.size S2 ∧ wr.ownsRow w.heap.size 3 1 (.slice ATo n4 cTo) n4 (its (reachE (rev N) x26.i)) ∧ wr.ownsRow w.heap.size 3 1 (.slice AFr n5 cFr) n5 (its (reachE N x26.i)) ∧ wr.ownsRow w.heap.size 55 1 u5 n (vls L) ∧ GrR wr w.heap.size L Gs ∧ FarR (mblk w.heap.size) s9 ∧ FarR (.slice ATo n4 cTo) s9 ∧ FarR (.slice AFr n5 cFr) s9 ∧ FarR u5 s9 ∧ FarG L s9 ∧ Below w.heap.size w wr ∧ j ≤ n5 ∧ n9 ≤ j ∧ Hid (Gi N x26.i S S2 G j) ∧ S2.length ≤ 256) (fun _ s35 _ => n5 - (intOf s35).toNat)
        case atStart => exact ⟨0, 0, ([]), S, rfl, c96, c97, c98, World.ownsRow_nil _ _ _ _, by simp [Value.ownBlock], by simp [Value.ownBlock], by simp [Value.ownBlock], O101.out, O102.out, OC5.out, O99.out, O100.out, (fun r_ _ h_ => by cases h_), (fun r_ _ h_ => by cases h_), (fun r_ _ h_ => by cases h_), (fun r_ _ h_ => by cases h_), (fun u_ _ r_ _ h_ => by cases h_), hB103, (by omega), (by omega), Lib.hid (Gi.zero HS.out.d), hS⟩
        case round =>
          clear c96 c97 c98 hB103 O99 O100 O101 O102 OC5
          obtain ⟨j, n9, G, S2, rfl, b104, b105, b106, o107, f108, f109, f110, o111, o112, o113, o114, o115, ff116, ff117, ff118, ff119, ff120, hB121, hj, hn9, HGI, hS2⟩ := hrel
          obtain ⟨wr122, hwr122⟩ : ∃ W_, W_ = wr := ⟨_, rfl⟩
          subst hwr122
          have O123 := Lib.hid o107
          clear o107
          have O124 := Lib.hid o111
          clear o111
          have O125 := Lib.hid o112
          clear o112
          have O126 := Lib.hid o113
          clear o113
          have O127 := Lib.hid o114
          clear o114
          have O128 := Lib.hid o115
          clear o115
          have ff116' := FarR.symm ff116
          have ff117' := FarR.symm ff117
          have ff118' := FarR.symm ff118
          have ff119' := FarR.symm ff119
          have ff120' := ff120
          by_cases hltj : j < n5
          · skip
            have i1j : (j : Int) < n5 := by omega
            obtain ⟨gFr, cpFr, hvvFr, _, _, hgFr, _⟩ := owns_form O126.out (by omega)
            injection hvvFr with hvA _ hvC
            subst hvA; subst hvC
            obtain ⟨y, hy⟩ : ∃ r, (reachE N x26.i)[j]? = some r := ⟨_, List.getElem?_eq_getElem (by rw [← HNFr.out]; omega)⟩
            have HY := Lib.hid hy
            have hyb := id_bd HG.out (reach_ids (List.mem_of_getElem? hy))
            clear hy
            have ce129 := LX.at_ (owns_viewI O126.out) HY.out
            have uce129 := ce129
            simp only [CI, itc, At, Nat.mul_one, Nat.reduceMul, Nat.zero_add] at uce129
            have K130 := Lib.hid (fun W (hl_ : IL W (.slice ATo n4 cTo) (reachE (rev N) x26.i)) => has_any (.slice ATo n4 cTo) (reachE (rev N) x26.i) y W hl_ (by rw [← HNTo.out]; omega))
            have ub104 := b104; have ub105 := b105; have ub106 := b106
            simp only [At, Own, Nat.reduceAdd, and_true] at ub104 ub105 ub106
            go_wp2_with (fail)
            refine calls_named ?_
            intro W6 hW6
            have hL6 : Below wr122.heap.size wr122 W6 := by
              rw [hW6]
              repeat (first | with_reducible exact Below.refl _ _ | with_reducible refine bel_alloc ?_ _ | refine Below.setCell ?_ (by first | (simp; done) | (simp; omega) | omega) _)
            have c131 := b104.up hL6
            have c132 := b105.up hL6
            have c133 := b106.up hL6
            have O134 := Lib.hid (owns_up O123.out hL6)
            have O135 := Lib.hid (SetM.up O124.out hL6)
            have O136 := Lib.hid (owns_up O125.out hL6)
            have O137 := Lib.hid (owns_up O126.out hL6)
            have O138 := Lib.hid (owns_up O127.out hL6)
            have O139 := Lib.hid (GrR.up O128.out hL6)
            have hB140 : Below w.heap.size w W6 := by
              rw [hW6]
              repeat (first | with_reducible exact hB121 | with_reducible refine bel_alloc ?_ _ | refine Below.setCell ?_ (by first | (simp; done) | (simp; omega) | omega) _)
            clear hW6 hL6 uce129 ub104 ub105 ub106 b104 b105 b106
            with_reducible refine (K130.out _ (il_own O136.out)).mono ?_
            rintro e w6 ⟨rfl, hb6⟩
            have c141 := c131.up hb6
            have c142 := c132.up hb6
            have c143 := c133.up hb6
            have O144 := Lib.hid (owns_up O134.out hb6)
            have O145 := Lib.hid (SetM.up O135.out hb6)
            have O146 := Lib.hid (owns_up O136.out hb6)
            have O147 := Lib.hid (owns_up O137.out hb6)
            have O148 := Lib.hid (owns_up O138.out hb6)
            have O149 := Lib.hid (GrR.up O139.out hb6)
            have hB150 : Below w.heap.size w w6 := bel_up hB140 hb6
            clear c131 c132 c133 O134 O135 O136 O137 O138 O139
            by_cases hm151 : y ∈ (reachE (rev N) x26.i)
            · skip
              have hm151_ : decide (y ∈ (reachE (rev N) x26.i)) = true := decide_eq_true hm151
              have Hhm151 := Lib.hid hm151
              clear hm151
              have uc141 := c141; have uc142 := c142; have uc143 := c143
              simp only [At, Own, Nat.reduceAdd, and_true] at uc141 uc142 uc143
              go_wp2_with (at_builtin; refine wpList_appF rfl _ _ _ rfl ti_it O144.out (hB150).size rfl rfl rfl rfl (itc_one y) (by omega) (by decide) ?_)
              intro v152 w_v152 hown_v152 hst_v152
              have O154 : Hid (w_v152.ownsRow w.heap.size 3 1 v152 ((n9 + 1)) (its (G ++ [y]))) := Lib.hid (by rw [its_snoc]; exact hown_v152)
              have c155 := Own.step hst_v152 f108 c141
              have f156 := hst_v152.far _ c141.lt f108
              have c157 := Own.step hst_v152 f109 c142
              have f158 := hst_v152.far _ c142.lt f109
              have c159 := Own.step hst_v152 f110 c143
              have f160 := hst_v152.far _ c143.lt f110
              have O161 := Lib.hid (SetM.step hst_v152 O145.out ff116)
              have ff162 : FarR (mblk w.heap.size) v152 := Step.farR hst_v152 (fun r hr => (O145.out.lt r hr).2) ff116
              have ff162' := FarR.symm ff162
              have O163 := Lib.hid (owns_step hst_v152 O146.out ff117)
              have ff164 : FarR (.slice ATo n4 cTo) v152 := FarR.step hst_v152 O146.out ff117
              have ff164' := FarR.symm ff164
              have O165 := Lib.hid (owns_step hst_v152 O147.out ff118)
              have ff166 : FarR (.slice (some ⟨gFr, 0, none⟩) n5 cFr) v152 := FarR.step hst_v152 O147.out ff118
              have ff166' := FarR.symm ff166
              have O167 := Lib.hid (owns_step hst_v152 O148.out ff119)
              have ff168 : FarR u5 v152 := FarR.step hst_v152 O148.out ff119
              have ff168' := FarR.symm ff168
              have O169 := Lib.hid (GrR.step hst_v152 O149.out ff120)
              have ff170 : FarG L v152 := FarG.step hst_v152 O149.out ff120
              have ff170' := ff170
              have hB171 : Below w.heap.size w w_v152 := hst_v152.below hB150 (hB150).size (fun r hr => (O144.out.lt r hr).1)
              clear uc141 uc142 uc143 hown_v152 c141 c142 c143 O145 O146 O147 O148 O149
              have uc155 := c155; have uc157 := c157; have uc159 := c159
              simp only [At, Own, Nat.reduceAdd, and_true] at uc155 uc157 uc159
              go_wp2_with (at_mapUpdate; refine wpList_update_set rfl _ _ _ (.inl rfl) y O161.out (by simp [maxLen]; omega) (wf_k (by omega)) rfl rfl rfl ?_)
              intro wm172 hm_172 hst172
              have O173 : Hid (SetM wm172 w.heap.size w.heap.size (ins S2 y)) := Lib.hid hm_172
              clear hm_172
              have c174 := Own.step hst172 f1 c155
              have c175 := Own.step hst172 f2 c157
              have c176 := Own.step hst172 f34 c159
              have O177 := Lib.hid (owns_step hst172 O163.out ff72)
              have O178 := Lib.hid (owns_step hst172 O165.out ff94)
              have O179 := Lib.hid (owns_step hst172 O167.out ff19')
              have O180 := Lib.hid (GrR.step hst172 O169.out ff20')
              have O181 := Lib.hid (owns_step hst172 O154.out ff162')
              have hB182 : Below w.heap.size w wm172 := hst172.below hB171 (hB171).size (fun r hr => (O161.out.lt r hr).1)
              clear uc155 uc157 uc159 c155 c157 c159 O163 O165 O167 O169 O154 O161 hB171
              have uc174 := c174; have uc175 := c175; have uc176 := c176
              simp only [At, Own, Nat.reduceAdd, and_true] at uc174 uc175 uc176
              go_wp2
              go_roundw
              case rel => exact ⟨(j + 1), (n9 + 1), (G ++ [y]), (ins S2 y), (by first | rfl | exact congrArg (Value.int .i64) (by omega) | simp [*]), (by repeat (first | with_reducible exact c174 | refine Own.far _ _ (by simp <;> omega) ?_ | with_reducible refine Own.alloc ?_ _)), (by repeat (first | with_reducible exact c175 | refine Own.far _ _ (by simp <;> omega) ?_ | with_reducible refine Own.alloc ?_ _)), (by repeat (first | with_reducible exact c176 | refine Own.far _ _ (by simp <;> omega) ?_ | with_reducible refine Own.alloc ?_ _)), (by repeat (first | with_reducible exact O181.out | refine owns_far ?_ _ (by first | exact f156 | exact f158 | exact f160) _ | with_reducible refine World.ownsRow.alloc ?_ _)), f156, f158, f160, (by repeat (first | with_reducible exact O173.out | refine SetM.far ?_ _ (by first | exact f1 | exact f2 | exact f34) _ | with_reducible refine SetM.alloc ?_ _)), (by repeat (first | with_reducible exact O177.out | refine owns_far ?_ _ (by first | exact f67 | exact f68 | exact f69) _ | with_reducible refine World.ownsRow.alloc ?_ _)), (by repeat (first | with_reducible exact O178.out | refine owns_far ?_ _ (by first | exact f89 | exact f90 | exact f91) _ | with_reducible refine World.ownsRow.alloc ?_ _)), (by repeat (first | with_reducible exact O179.out | refine owns_far ?_ _ (by first | exact f12 | exact f13 | exact f32) _ | with_reducible refine World.ownsRow.alloc ?_ _)), (by repeat (first | with_reducible exact O180.out | refine GrR.far ?_ _ (by first | exact f15 | exact f16 | exact f33) _ | with_reducible refine GrR.alloc ?_ _)), ff162, ff164, ff166, ff168, ff170, (by repeat (first | with_reducible exact hB182 | with_reducible refine bel_alloc ?_ _ | refine Below.setCell ?_ (by first | (simp; done) | (simp; omega) | omega) _)), (by omega), (by omega), Lib.hid (HGI.out.yes HY.out Hhm151.out), (by have h_ := Gi.len HS.out (HGI.out.yes HY.out Hhm151.out); rw [HNn.out] at h_; omega)⟩
              case measure => simp [intOf] <;> omega
            · skip
              have hm151_ : decide (y ∈ (reachE (rev N) x26.i)) = false := decide_eq_false hm151
              have Hhm151 := Lib.hid hm151
              clear hm151
              have uc141 := c141; have uc142 := c142; have uc143 := c143
              simp only [At, Own, Nat.reduceAdd, and_true] at uc141 uc142 uc143
              go_wp2
              go_roundw
              case rel => exact ⟨(j + 1), n9, G, S2, (by first | rfl | exact congrArg (Value.int .i64) (by omega) | simp [*]), (by repeat (first | with_reducible exact c141 | refine Own.far _ _ (by simp <;> omega) ?_ | with_reducible refine Own.alloc ?_ _)), (by repeat (first | with_reducible exact c142 | refine Own.far _ _ (by simp <;> omega) ?_ | with_reducible refine Own.alloc ?_ _)), (by repeat (first | with_reducible exact c143 | refine Own.far _ _ (by simp <;> omega) ?_ | with_reducible refine Own.alloc ?_ _)), (by repeat (first | with_reducible exact O144.out | refine owns_far ?_ _ (by first | exact f108 | exact f109 | exact f110) _ | with_reducible refine World.ownsRow.alloc ?_ _)), f108, f109, f110, (by repeat (first | with_reducible exact O145.out | refine SetM.far ?_ _ (by first | exact f1 | exact f2 | exact f34) _ | with_reducible refine SetM.alloc ?_ _)), (by repeat (first | with_reducible exact O146.out | refine owns_far ?_ _ (by first | exact f67 | exact f68 | exact f69) _ | with_reducible refine World.ownsRow.alloc ?_ _)), (by repeat (first | with_reducible exact O147.out | refine owns_far ?_ _ (by first | exact f89 | exact f90 | exact f91) _ | with_reducible refine World.ownsRow.alloc ?_ _)), (by repeat (first | with_reducible exact O148.out | refine owns_far ?_ _ (by first | exact f12 | exact f13 | exact f32) _ | with_reducible refine World.ownsRow.alloc ?_ _)), (by repeat (first | with_reducible exact O149.out | refine GrR.far ?_ _ (by first | exact f15 | exact f16 | exact f33) _ | with_reducible refine GrR.alloc ?_ _)), ff116, ff117, ff118, ff119, ff120, (by repeat (first | with_reducible exact hB150 | with_reducible refine bel_alloc ?_ _ | refine Below.setCell ?_ (by first | (simp; done) | (simp; omega) | omega) _)), (by omega), (by omega), Lib.hid (HGI.out.no HY.out Hhm151.out), hS2⟩
              case measure => simp [intOf] <;> omega
          · skip
            have hkN : n5 = j := by omega
            subst hkN
            obtain ⟨A9, c9, hv9, -⟩ := owns_openI O123.out
            subst hv9
            have ub104 := b104; have ub105 := b105; have ub106 := b106
            simp only [At, Own, Nat.reduceAdd, and_true] at ub104 ub105 ub106
            go_wp2_with (at_builtin; refine wpList_appF rfl _ _ _ rfl ti_vl O127.out (hB121).size rfl rfl rfl rfl ((fun (_ : Value) => vlc_one A9 n9 c9) (.slice A9 n9 c9)) (by omega) (by decide) ?_)
            intro v183 w_v183 hown_v183 hst_v183
            have O185 : Hid (w_v183.ownsRow w.heap.size 55 1 v183 ((n + 1)) (vls (L ++ [(.slice A9 n9 c9)]))) := Lib.hid (by rw [vls_snoc]; exact hown_v183)
            have c186 := Own.step hst_v183 f12 b104
            have f187 := hst_v183.far _ b104.lt f12
            have c188 := Own.step hst_v183 f13 b105
            have f189 := hst_v183.far _ b105.lt f13
            have c190 := Own.step hst_v183 f32 b106
            have f191 := hst_v183.far _ b106.lt f32
            have O192 := Lib.hid (owns_step hst_v183 O123.out ff119')
            have ff193 : FarR (.slice A9 n9 c9) v183 := FarR.step hst_v183 O123.out ff119'
            have ff193' := FarR.symm ff193
            have O194 := Lib.hid (SetM.step hst_v183 O124.out ff19)
            have ff195 : FarR (mblk w.heap.size) v183 := Step.farR hst_v183 (fun r hr => (O124.out.lt r hr).2) ff19
            have ff195' := FarR.symm ff195
            have O196 := Lib.hid (owns_step hst_v183 O125.out ff70)
            have ff197 : FarR (.slice ATo n4 cTo) v183 := FarR.step hst_v183 O125.out ff70
            have ff197' := FarR.symm ff197
            have O198 := Lib.hid (owns_step hst_v183 O126.out ff92)
            have ff199 : FarR (.slice AFr n5 cFr) v183 := FarR.step hst_v183 O126.out ff92
            have ff199' := FarR.symm ff199
            have O200 := Lib.hid (GrR.step hst_v183 O128.out ff18)
            have ff201 : FarG L v183 := FarG.step hst_v183 O128.out ff18
            have ff201' := ff201
            have hB202 : Below w.heap.size w w_v183 := hst_v183.below hB121 (hB121).size (fun r hr => (O127.out.lt r hr).1)
            clear ub104 ub105 ub106 hown_v183 b104 b105 b106 O123 O124 O125 O126 O128
            have OG203 := Lib.hid (GrR.snoc O200.out O192.out)
            have fB204 := FarB.snoc f15 f108
            have fB205 := FarB.snoc f16 f109
            have fB206 := FarB.snoc f33 f110
            have fG207 := FarG.snoc ff20' ff116'
            have fG208 := FarG.snoc ff71' ff117'
            have fG209 := FarG.snoc ff93' ff118'
            have fG210 := FarG.snoc ff201 ff193
            clear O200
            have uc186 := c186; have uc188 := c188; have uc190 := c190
            simp only [At, Own, Nat.reduceAdd, and_true] at uc186 uc188 uc190
            go_wp2
            go_roundw
            case rel => exact ⟨(k + 1), (n + 1), (L ++ [(.slice A9 n9 c9)]), S2, (Gs ++ [G]), (by first | rfl | exact congrArg (Value.int .i64) (by omega) | simp [*]), (by repeat (first | with_reducible exact c186 | refine Own.far _ _ (by simp <;> omega) ?_ | with_reducible refine Own.alloc ?_ _)), (by repeat (first | with_reducible exact c188 | refine Own.far _ _ (by simp <;> omega) ?_ | with_reducible refine Own.alloc ?_ _)), (by repeat (first | with_reducible exact O185.out | refine owns_far ?_ _ (by first | exact f187 | exact f189 | exact f191) _ | with_reducible refine World.ownsRow.alloc ?_ _)), f187, f189, (by repeat (first | with_reducible exact OG203.out | refine GrR.far ?_ _ (by first | exact fB204 | exact fB205 | exact fB206) _ | with_reducible refine GrR.alloc ?_ _)), fB204, fB205, (by repeat (first | with_reducible exact O194.out | refine SetM.far ?_ _ (by first | exact f1 | exact f2 | exact f34) _ | with_reducible refine SetM.alloc ?_ _)), fG210, ff195, fG207, (by repeat (first | with_reducible exact hB202 | with_reducible refine bel_alloc ?_ _ | refine Below.setCell ?_ (by first | (simp; done) | (simp; omega) | omega) _)), (by omega), (by omega), Lib.hid (by rw [reps_yes Hhx27.out (HS.out.rep_t HG.out Hhx27.out Hhm44.out), HC.out]), Lib.hid (HS.out.next Hhx27.out HGI.out (by rw [← HNFr.out]; exact Nat.le_refl _)), hS2, Lib.hid (gs_next Hhx27.out (HS.out.rep_t HG.out Hhx27.out Hhm44.out) HC.out HGs.out (HGI.out.grp (by rw [← HNFr.out]; exact Nat.le_refl _)))⟩
            case measure => simp [intOf] <;> omega
    · skip
      have hkN : Nn = k := by omega
      subst hkN
      have ub9 := b9; have ub10 := b10
      simp only [At, Own, Nat.reduceAdd, and_true] at ub9 ub10
      go_wp2
      go_ret
      exact ⟨u5, rfl, ⟨_, _, _, O23.out, (by rw [show groupsE N = Gs from by rw [HGs.out, List.take_of_length_le (by rw [HC.out, reps_all (k := Nn) (by rw [HNn.out]; exact Nat.le_refl _)]; exact Nat.le_refl _)]]; exact O24.out)⟩, bel_up hBw (by repeat (first | with_reducible exact hB21 | with_reducible refine bel_alloc ?_ _ | refine Below.setCell ?_ (by first | (simp; done) | (simp; omega) | omega) _))⟩
end Go.Proofs.YtldfencaoaikgaaGreatDoor
