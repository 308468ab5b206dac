/-
  Contracts of package network: the groups, their number.
-/
import Derived.Test.YtldfencaoaikgaaGreatDoorUNwe
set_option linter.unusedSimpArgs false
set_option linter.unusedVariables false
namespace Go.Proofs.YtldfencaoaikgaaGreatDoor
open Go Go.RowKit Go.Maps Nw

theorem has_any (v : Value) (l : List Int) (x : Int) (w : World) (h : IL w v l) (hl : l.length ≤ 1000000) :
    Calls Tryz.prog 64 #[v, .int .i64 x] w fun e w' => e = .returned (.bool (decide (x ∈ l))) ∧ Below w.heap.size w w' := by
  obtain ⟨A, c, rfl, hc, hm, hx⟩ := h.open_
  by_cases h0 : l = []
  · subst h0
    exact (Tryz.slices_Contains_int_empty A c x w).mono fun _ _ ⟨h1, h2⟩ => ⟨by rw [h1]; simp, by subst h2; exact Below.refl _ _⟩
  · obtain ⟨a, t, rfl⟩ := List.exists_cons_of_ne_nil h0
    obtain ⟨g, o, rfl, -⟩ := hx 0 a rfl
    have hcell : ∀ j, j < (a :: t).length → w.cell? ⟨g, o + j, none⟩ = some (.int .i64 ((a :: t).getD j 0)) := fun j hj => by
      have := LX.at_ hx (List.getElem?_eq_getElem hj)
      simp only [CI, itc, At, Nat.mul_one, and_true] at this
      rw [this, List.getD_eq_getElem?_getD, List.getElem?_eq_getElem hj]; rfl
    exact (Tryz.slices_Contains_int g o (a :: t).length c (a :: t) x w (Nat.le_refl _) (by omega) hcell).mono fun _ _ ⟨h1, h2⟩ => ⟨by rw [h1, List.take_length]; congr 2; simp [List.contains_eq_mem], by subst h2; exact Below.refl _ _⟩
def vlc (x : Value) : List Value := [x]
def vls (l : List Value) : List Value := l.flatMap vlc
theorem vls_snoc (l : List Value) (x : Value) : vls (l ++ [x]) = vls l ++ vlc x := by simp [vls]
theorem ti_vl : TI Tryz.prog 58 55 1 24 := ⟨Tryz.underlying58, by kernel_rfl, by decide⟩
theorem vlc_one (A : Option Addr) (n c : Nat) : ∀ u ∈ vlc (.slice A n c), u.oneCell' = true := by
  intro u hu
  simp only [vlc, List.mem_cons, List.not_mem_nil, or_false] at hu
  subst hu; rfl
theorem owns_openV {w : World} {base n : Nat} {v : Value} {l : List Value} (h : w.ownsRow base 55 1 v n (vls l)) : ∃ A c, v = .slice A n c ∧ n = l.length := by
  have e : n = l.length := by have := h.1; rw [vls, flat_length vlc 1 (fun _ => rfl)] at this; omega
  rcases h.2 with ⟨rfl, h0⟩ | ⟨g, cap, cur, rfl, _⟩
  · exact ⟨none, 0, by rw [h0], e⟩
  · exact ⟨_, cap, rfl, e⟩
/-- How many groups begin with one of the first k nodes. -/
noncomputable def repsTo (N : Net) (k : Nat) : Nat := (((ids N).take k).filter (rep N)).length
theorem ids_get {N : Net} {k : Nat} {x : Nd} (h : N.ns[k]? = some x) : (ids N)[k]? = some x.i := by unfold ids; rw [List.getElem?_map, h]; rfl
theorem reps_yes {N : Net} {k : Nat} {x : Nd} (h : N.ns[k]? = some x) (hr : rep N x.i = true) : repsTo N (k + 1) = repsTo N k + 1 := by
  unfold repsTo; rw [List.take_add_one, ids_get h, List.filter_append]; simp [hr]
theorem reps_no {N : Net} {k : Nat} {x : Nd} (h : N.ns[k]? = some x) (hr : rep N x.i = false) : repsTo N (k + 1) = repsTo N k := by
  unfold repsTo; rw [List.take_add_one, ids_get h, List.filter_append]; simp [hr]
theorem reps_all {N : Net} {k : Nat} (hk : N.ns.length ≤ k) : repsTo N k = (groupsE N).length := by
  unfold repsTo groupsE reps; rw [List.length_map, List.take_of_length_le (by simpa [ids] using hk)]
/-- The nodes whose group is known. -/
structure Gd (N : Net) (k : Nat) (S : List Int) : Prop where
  d : S.Nodup
  m : ∀ x, x ∈ S ↔ x ∈ ids N ∧ ∃ y ∈ (ids N).take k, Eqv N y x
theorem Gd.len {N : Net} {k : Nat} {S : List Int} (h : Gd N k S) : S.length ≤ N.ns.length := by
  have := nodup_le h.d fun x hx => ((h.m x).1 hx).1
  simpa [ids] using this
theorem gd_zero (N : Net) : Gd N 0 [] := ⟨List.nodup_nil, fun x => by simp⟩
theorem Gd.rep {N : Net} (g : Vld N) {k : Nat} {S : List Int} {x : Nd} (h : Gd N k S) (hx : N.ns[k]? = some x) : rep N x.i = false ↔ x.i ∈ S := by
  rw [rep_of g (ids_get hx), h.m]
  exact ⟨fun q => ⟨List.mem_of_getElem? (ids_get hx), q⟩, fun q => q.2⟩
theorem Gd.rep_t {N : Net} (g : Vld N) {k : Nat} {S : List Int} {x : Nd} (h : Gd N k S) (hx : N.ns[k]? = some x) (hn : x.i ∉ S) : Nw.rep N x.i = true := by
  cases hr : Nw.rep N x.i with
  | true => rfl
  | false => exact absurd ((h.rep g hx).1 hr) hn
theorem Gd.skip {N : Net} {k : Nat} {S : List Int} {x : Nd} (h : Gd N k S) (hx : N.ns[k]? = some x) (hm : x.i ∈ S) : Gd N (k + 1) S := by
  obtain ⟨hi, y0, hy0, he⟩ := (h.m _).1 hm
  refine ⟨h.d, fun z => ?_⟩
  rw [h.m, List.take_add_one, ids_get hx]
  constructor
  · rintro ⟨h1, y, hy, h2⟩; exact ⟨h1, y, List.mem_append_left _ hy, h2⟩
  · rintro ⟨h1, y, hy, h2⟩
    rcases List.mem_append.1 hy with hy | hy
    · exact ⟨h1, y, hy, h2⟩
    · simp at hy; subst hy
      exact ⟨h1, y0, hy0, he.trans h2⟩
/-- While the group of a is gone through: its first j nodes. -/
structure Gi (N : Net) (a : Int) (S0 S G : List Int) (j : Nat) : Prop where
  d : S.Nodup
  m : ∀ z, z ∈ S ↔ z ∈ S0 ∨ z ∈ G
  e : G = ((reachE N a).take j).filter fun z => decide (z ∈ reachE (rev N) a)
theorem Gi.zero {N : Net} {a : Int} {S : List Int} (h : S.Nodup) : Gi N a S S [] 0 := ⟨h, fun z => by simp, by simp⟩
theorem ins_nodup {S : List Int} (h : S.Nodup) (x : Int) : (ins S x).Nodup := by
  unfold ins; split
  · exact h
  · rename_i e; exact List.nodup_cons.2 ⟨e, h⟩
theorem Gi.yes {N : Net} {a y : Int} {S0 S G : List Int} {j : Nat} (h : Gi N a S0 S G j) (hy : (reachE N a)[j]? = some y) (hm : y ∈ reachE (rev N) a) : Gi N a S0 (ins S y) (G ++ [y]) (j + 1) := by
  refine ⟨ins_nodup h.d y, fun z => ?_, ?_⟩
  · rw [mem_ins, h.m, List.mem_append, List.mem_singleton]
    exact ⟨fun q => q.elim (fun e => .inr (.inr e)) fun q => q.elim .inl fun q => .inr (.inl q), fun q => q.elim (fun q => .inr (.inl q)) fun q => q.elim (fun q => .inr (.inr q)) .inl⟩
  · rw [List.take_add_one, hy, List.filter_append, ← h.e]; simp [hm]
theorem Gi.no {N : Net} {a y : Int} {S0 S G : List Int} {j : Nat} (h : Gi N a S0 S G j) (hy : (reachE N a)[j]? = some y) (hm : y ∉ reachE (rev N) a) : Gi N a S0 S G (j + 1) :=
  ⟨h.d, h.m, by rw [List.take_add_one, hy, List.filter_append, ← h.e]; simp [hm]⟩
theorem Gi.grp {N : Net} {a : Int} {S0 S G : List Int} {j : Nat} (h : Gi N a S0 S G j) (hj : (reachE N a).length ≤ j) : G = grp N a := by
  rw [h.e, List.take_of_length_le hj]; rfl
theorem Gd.next {N : Net} {k j : Nat} {S0 S G : List Int} {x : Nd} (h : Gd N k S0) (hx : N.ns[k]? = some x) (hi : Gi N x.i S0 S G j) (hj : (reachE N x.i).length ≤ j) : Gd N (k + 1) S := by
  have ha := List.mem_of_getElem? (ids_get hx)
  have hg := hi.grp hj
  refine ⟨hi.d, fun z => ?_⟩
  rw [hi.m, h.m, hg, mem_grp ha, List.take_add_one, ids_get hx]
  constructor
  · rintro (⟨h1, y, hy, h2⟩ | ⟨h1, h2⟩)
    · exact ⟨h1, y, List.mem_append_left _ hy, h2⟩
    · exact ⟨h1, x.i, by simp, h2⟩
  · rintro ⟨h1, y, hy, h2⟩
    rcases List.mem_append.1 hy with hy | hy
    · exact .inl ⟨h1, y, hy, h2⟩
    · simp at hy; subst hy; exact .inr ⟨h1, h2⟩
theorem Gi.len {N : Net} {k j : Nat} {S0 S G : List Int} {a : Int} (h0 : Gd N k S0) (h : Gi N a S0 S G j) : S.length ≤ N.ns.length := by
  have := nodup_le h.d (l := ids N) fun x hx => by
    rcases (h.m x).1 hx with q | q
    · exact ((h0.m x).1 q).1
    · rw [h.e] at q
      have q := List.mem_of_mem_take (List.mem_filter.1 q).1
      unfold reachE at q; split at q
      · exact (List.mem_filter.1 q).1
      · cases q
  simpa [ids] using this
theorem reach_ids {N : Net} {a y : Int} (h : y ∈ reachE N a) : y ∈ ids N := by
  unfold reachE at h; split at h
  · exact (List.mem_filter.1 h).1
  · cases h
theorem reach_le (N : Net) (a : Int) : (reachE N a).length ≤ N.ns.length := by
  unfold reachE; split
  · exact Nat.le_trans (List.length_filter_le _ _) (by simp [ids])
  · simp

set_option maxRecDepth 100000 in
set_option maxHeartbeats 4000000 in
theorem groups_len (N : Net) (v : Value) (w0 : World) (h : NV w0 v N) (g : Vld N) :
    Calls Tryz.prog 26 #[v] w0 fun e w' => (∃ A c, e = .returned (.slice A (groupsE N).length c)) ∧ Below w0.heap.size w0 w' := by
  obtain ⟨_, _, rfl, hn, hr⟩ := h
  obtain ⟨An, cn, rfl, hcn, hmn, hxn⟩ := hn.open_
  obtain ⟨Ar, cr, rfl, hcr, hmr, hxr⟩ := hr.open_
  have HNV0 : Hid (NV w0 (.agg #[.slice An N.ns.length cn, .slice Ar N.rs.length cr]) N) := Lib.hid ⟨_, _, rfl, hn, hr⟩
  have HXN0 := Lib.hid hxn
  have HXR0 := Lib.hid hxr
  have HG := Lib.hid g
  have hln := g.ln
  have hlr := g.lr
  generalize hNn : N.ns.length = Nn at *
  generalize hNr : N.rs.length = Nr at *
  have HNn := Lib.hid hNn
  have HNr := Lib.hid hNr
  clear hn hr hxn hxr g hNn hNr
  go_enter Tryz.func26, Tryz.ntmps26
  go_upto_region 1 with fail
  refine wp_named ?_
  intro W0 hW0
  have c0 : Own W0 w0.heap.size 0 [.slice An Nn cn, .slice Ar Nr cr] := by rw [hW0]; simp [Own, go_sem]
  have hB0 : Below w0.heap.size w0 W0 := by
    rw [hW0]
    repeat (first | with_reducible exact Below.refl _ _ | with_reducible refine bel_alloc ?_ _ | refine Below.setCell ?_ (by first | (simp; done) | (simp; omega) | omega) _)
  clear hW0
  have uc0 := c0
  simp only [At, Own, Nat.reduceAdd, and_true] at uc0
  go_wp2_with (fail)
  with_reducible refine (reverse_any N _ _ (HNV0.out.up hB0) HG.out).mono ?_
  rintro e w1 ⟨v1, rfl, hv1, hb1⟩
  obtain ⟨_, _, rfl, hnb, hrb⟩ := hv1
  obtain ⟨An2, cn2, rfl, hcn2, hmn2, hxn2⟩ := hnb.open_
  obtain ⟨Ar2, cr2, rfl, hcr2, hmr2, hxr2⟩ := hrb.open_
  have HNB1 : Hid (NV w1 (.agg #[.slice An2 (rev N).ns.length cn2, .slice Ar2 (rev N).rs.length cr2]) (rev N)) := Lib.hid ⟨_, _, rfl, hnb, hrb⟩
  have hB1 : Below w0.heap.size w0 w1 := bel_up hB0 hb1
  have c0' := c0.up hb1
  clear uc0 c0 hnb hrb hxn2 hxr2 hcn2 hmn2 hcr2 hmr2
  have hlt0 := c0'.lt
  go_upto_region 2 with fail
  refine wp_named ?_
  intro w hw
  have hLw : Below w1.heap.size w1 w := by
    rw [hw]
    repeat (first | with_reducible exact Below.refl _ _ | with_reducible refine bel_alloc ?_ _ | refine Below.setCell ?_ (by first | (simp; done) | (simp; omega) | omega) _)
  have cb1 : Own w w1.heap.size 0 [.slice An2 (rev N).ns.length cn2, .slice Ar2 (rev N).rs.length cr2] := by
    rw [hw]
    first
    | (repeat (first | (with_reducible refine own_new (l := [.slice An2 (rev N).ns.length cn2, .slice Ar2 (rev N).rs.length cr2]) ?_; (simp; done)) | with_reducible refine Own.alloc ?_ _)); done
    | simp [Own, go_sem]
  have cb0 := c0'.up hLw
  have hBw : Below w0.heap.size w0 w := bel_up hB1 hLw
  have HNB := Lib.hid (HNB1.out.up hLw)
  have HNV := Lib.hid (HNV0.out.up hBw)
  have HXN := Lib.hid (HXN0.out.up kpN hBw)
  have HXR := Lib.hid (HXR0.out.up kpR hBw)
  have HGR := Lib.hid (rev_vld HG.out)
  have hsw0 := cb0.lt
  have hsw1 := cb1.lt
  clear hw hLw c0' HNB1 HNV0 HXN0 HXR0 hB0 hb1 hB1
  have ucb0 := cb0; have ucb1 := cb1
  simp only [At, Own, Nat.reduceAdd, and_true] at ucb0 ucb1
  have hmm := @run_makeMap Tryz.prog
  go_upto_region 3 with fail
  refine wp_named ?_
  intro WM hWM
  clear hmm
  have hbM : Below w.heap.size w WM := by rw [hWM]; exact (Below.refl _ _).alloc (Nat.le_refl _) _
  have OS0 : Hid (SetM WM w.heap.size w.heap.size []) := Lib.hid (by rw [hWM]; exact sm_made w (Nat.le_refl _))
  clear hWM
  have f1 : Value.ownBlock (mblk w.heap.size) ≠ some (w0.heap.size) := fun e_ => by have := mblk_block.1 e_; have := cb0.lt; omega
  have f2 : Value.ownBlock (mblk w.heap.size) ≠ some (w1.heap.size) := fun e_ => by have := mblk_block.1 e_; have := cb1.lt; omega
  have c3 := cb0.up hbM
  have c4 := cb1.up hbM
  have hB5 := hbM
  clear ucb0 ucb1 cb0 cb1
  have uc3 := c3; have uc4 := c4
  simp only [At, Own, Nat.reduceAdd, and_true] at uc3 uc4
  go_wp2_with fail
  go_loopw [5, 18] (fun s5 s18 wr => ∃ (k : Nat) (n : Nat) (L : List Value) (S : List Int), s18 = .int .i64 k ∧ Own wr (w0.heap.size) 0 [.slice An Nn cn, .slice Ar Nr cr] ∧ Own wr (w1.heap.size) 0 [((.slice An2 (rev N).ns.length cn2)), ((.slice Ar2 (rev N).rs.length cr2))] ∧ wr.ownsRow w.heap.size 55 1 s5 n (vls L) ∧ Value.ownBlock s5 ≠ some (w0.heap.size) ∧ Value.ownBlock s5 ≠ some (w1.heap.size) ∧ SetM wr w.heap.size w.heap.size S ∧ FarR (mblk w.heap.size) s5 ∧ Below w.heap.size w wr ∧ k ≤ Nn ∧ n ≤ k ∧ Hid (n = repsTo N k) ∧ Hid (Gd N k S) ∧ S.length ≤ 256) (fun _ s18 _ => Nn - (intOf s18).toNat)
  case atStart => exact ⟨0, 0, ([]), ([]), rfl, c3, c4, World.ownsRow_nil _ _ _ _, by simp [Value.ownBlock], by simp [Value.ownBlock], OS0.out, (fun r_ _ h_ => by cases h_), hB5, (by omega), (by omega), Lib.hid rfl, Lib.hid (gd_zero N), (by simp)⟩
  case round =>
    clear c3 c4 hB5 uc3 uc4 OS0
    obtain ⟨k, n, L, S, rfl, b6, b7, o8, f9, f10, o11, ff12, hB13, hk, hn, HC, HS, hS⟩ := hrel
    obtain ⟨wr14, hwr14⟩ : ∃ W_, W_ = wr := ⟨_, rfl⟩
    subst hwr14
    have O15 := Lib.hid o8
    clear o8
    have O16 := Lib.hid o11
    clear o11
    have ff12' := FarR.symm ff12
    by_cases hltk : k < Nn
    · skip
      have i1k : (k : Int) < Nn := by omega
      obtain ⟨x17, hx18⟩ : ∃ x, N.ns[k]? = some x := ⟨_, List.getElem?_eq_getElem (by rw [HNn.out]; omega)⟩
      have Hhx18 := Lib.hid hx18
      clear hx18
      have hxb := id_bd HG.out (show x17.i ∈ ids N from List.mem_map.2 ⟨_, List.mem_of_getElem? Hhx18.out, rfl⟩)
      obtain ⟨g20, o21, ha22, -⟩ := (HXN.out).up kpN hB13 _ _ Hhx18.out
      subst ha22
      have ce19 := LX.at_ ((HXN.out).up kpN hB13) Hhx18.out
      have ce19_ : g20 < wr14.heap.size := World.block_lt_of_cell? _ _ ce19.1
      have uce19 := ce19
      simp only [CN, ndc, At, Nat.reduceMul] at uce19
      have f23 := owns_new0 O15.out
      have f24 : Value.ownBlock (mblk w.heap.size) ≠ some (wr14.heap.size) := fun e_ => by have := (O16.out.lt _ e_).2; omega
      have ne25_ : w0.heap.size < wr14.heap.size := by have := b6.lt; omega
      have ne25 := Nat.ne_of_lt ne25_
      have ne25' := ne25.symm
      have ne26_ : w1.heap.size < wr14.heap.size := by have := b7.lt; omega
      have ne26 := Nat.ne_of_lt ne26_
      have ne26' := ne26.symm
      have ub6 := b6; have ub7 := b7
      simp only [At, Own, Nat.reduceAdd, and_true] at ub6 ub7
      by_cases hm33 : x17.i ∈ S
      · skip
        have hm33_ : decide (x17.i ∈ S) = true := decide_eq_true hm33
        have Hhm33 := Lib.hid hm33
        clear hm33
        go_upto_region 7 with fail
        refine wp_named ?_
        intro W2 hW2
        have hL2 : Below wr14.heap.size wr14 W2 := by
          rw [hW2]
          repeat (first | with_reducible exact Below.refl _ _ | with_reducible refine bel_alloc ?_ _ | refine Below.setCell ?_ (by first | (simp; done) | (simp; omega) | omega) _)
        have c34 := b6.up hL2
        have c35 := b7.up hL2
        have c36 : Own W2 (wr14.heap.size) 0 [.int .i64 x17.i, .int .i64 x17.x, .int .i64 x17.y] := by
          rw [hW2]
          first
          | (repeat (first | (with_reducible refine own_new (l := [.int .i64 x17.i, .int .i64 x17.x, .int .i64 x17.y]) ?_; (simp; done)) | with_reducible refine Own.alloc ?_ _ | refine Own.far _ _ (by first | (simp; done) | (simp [*]; done) | (simp; omega)) ?_)); done
          | simp [Own, go_sem, uce19, ub6, ub7, ne25, ne25', ne25_, ne26, ne26', ne26_]
        have O37 := Lib.hid (owns_up O15.out hL2)
        have O38 := Lib.hid (SetM.up O16.out hL2)
        have hB39 : Below w.heap.size w W2 := by
          rw [hW2]
          repeat (first | with_reducible exact hB13 | with_reducible refine bel_alloc ?_ _ | refine Below.setCell ?_ (by first | (simp; done) | (simp; omega) | omega) _)
        clear hW2 hL2 uce19 ub6 ub7 b6 b7
        have uc34 := c34; have uc35 := c35; have uc36 := c36
        simp only [At, Own, Nat.reduceAdd, and_true] at uc34 uc35 uc36
        go_wp2_with ((at_lookup; refine wpList_lookup_set rfl _ _ rfl x17.i O38.out (wf_k (by omega)) rfl rfl ?_; rw [hm33_]))
        go_roundw
        case rel => exact ⟨(k + 1), n, L, S, (by first | rfl | exact congrArg (Value.int .i64) (by omega) | simp [*]), (by repeat (first | with_reducible exact c34 | refine Own.far _ _ (by simp <;> omega) ?_ | with_reducible refine Own.alloc ?_ _)), (by repeat (first | with_reducible exact c35 | refine Own.far _ _ (by simp <;> omega) ?_ | with_reducible refine Own.alloc ?_ _)), (by repeat (first | with_reducible exact O37.out | refine owns_far ?_ _ (by first | exact f9 | exact f10 | exact f23) _ | with_reducible refine World.ownsRow.alloc ?_ _)), f9, f10, (by repeat (first | with_reducible exact O38.out | refine SetM.far ?_ _ (by first | exact f1 | exact f2 | exact f24) _ | with_reducible refine SetM.alloc ?_ _)), ff12, (by repeat (first | with_reducible exact hB39 | with_reducible refine bel_alloc ?_ _ | refine Below.setCell ?_ (by first | (simp; done) | (simp; omega) | omega) _)), (by omega), (by omega), Lib.hid (by rw [reps_no Hhx18.out ((HS.out.rep HG.out Hhx18.out).2 Hhm33.out), HC.out]), Lib.hid (HS.out.skip Hhx18.out Hhm33.out), hS⟩
        case measure => simp [intOf] <;> omega
      · skip
        have hm33_ : decide (x17.i ∈ S) = false := decide_eq_false hm33
        have Hhm33 := Lib.hid hm33
        clear hm33
        go_upto_region 7 with fail
        refine wp_named ?_
        intro W3 hW3
        have hL3 : Below wr14.heap.size wr14 W3 := by
          rw [hW3]
          repeat (first | with_reducible exact Below.refl _ _ | with_reducible refine bel_alloc ?_ _ | refine Below.setCell ?_ (by first | (simp; done) | (simp; omega) | omega) _)
        have c40 := b6.up hL3
        have c41 := b7.up hL3
        have c42 : Own W3 (wr14.heap.size) 0 [.int .i64 x17.i, .int .i64 x17.x, .int .i64 x17.y] := by
          rw [hW3]
          first
          | (repeat (first | (with_reducible refine own_new (l := [.int .i64 x17.i, .int .i64 x17.x, .int .i64 x17.y]) ?_; (simp; done)) | with_reducible refine Own.alloc ?_ _ | refine Own.far _ _ (by first | (simp; done) | (simp [*]; done) | (simp; omega)) ?_)); done
          | simp [Own, go_sem, uce19, ub6, ub7, ne25, ne25', ne25_, ne26, ne26', ne26_]
        have O43 := Lib.hid (owns_up O15.out hL3)
        have O44 := Lib.hid (SetM.up O16.out hL3)
        have hB45 : Below w.heap.size w W3 := by
          rw [hW3]
          repeat (first | with_reducible exact hB13 | with_reducible refine bel_alloc ?_ _ | refine Below.setCell ?_ (by first | (simp; done) | (simp; omega) | omega) _)
        clear hW3 hL3 uce19 ub6 ub7 b6 b7
        have uc40 := c40; have uc41 := c41; have uc42 := c42
        simp only [At, Own, Nat.reduceAdd, and_true] at uc40 uc41 uc42
        have K46 := Lib.hid (fun W (hv : NV W (.agg #[((.slice An2 (rev N).ns.length cn2)), ((.slice Ar2 (rev N).rs.length cr2))]) (rev N)) => reach_any (rev N) x17.i _ W hv HGR.out)
        go_wp2_with ((at_lookup; refine wpList_lookup_set rfl _ _ rfl x17.i O44.out (wf_k (by omega)) rfl rfl ?_; rw [hm33_]))
        refine calls_named ?_
        intro W4 hW4
        have hL4 : Below W3.heap.size W3 W4 := by
          rw [hW4]
          repeat (first | with_reducible exact Below.refl _ _ | with_reducible refine bel_alloc ?_ _ | refine Below.setCell ?_ (by first | (simp; done) | (simp; omega) | omega) _)
        have c47 := c40.up hL4
        have c48 := c41.up hL4
        have c49 := c42.up hL4
        have O50 := Lib.hid (owns_up O43.out hL4)
        have O51 := Lib.hid (SetM.up O44.out hL4)
        have hB52 : Below w.heap.size w W4 := by
          rw [hW4]
          repeat (first | with_reducible exact hB45 | with_reducible refine bel_alloc ?_ _ | refine Below.setCell ?_ (by first | (simp; done) | (simp; omega) | omega) _)
        clear hW4 hL4 uc40 uc41 uc42 c40 c41 c42
        with_reducible refine (K46.out _ (HNB.out.up hB52)).mono ?_
        rintro e w4 ⟨v4, n4, rfl, ho4, hb4⟩
        have f53 : Value.ownBlock v4 ≠ some (w0.heap.size) := fun e_ => by have := (ho4.lt _ e_).1; have := c47.lt; omega
        have f54 : Value.ownBlock v4 ≠ some (w1.heap.size) := fun e_ => by have := (ho4.lt _ e_).1; have := c48.lt; omega
        have f55 : Value.ownBlock v4 ≠ some (wr14.heap.size) := fun e_ => by have := (ho4.lt _ e_).1; have := c49.lt; omega
        have ff56 : FarR v4 u5 := far_new ho4 O50.out
        have ff56' := FarR.symm ff56
        have ff57 : FarR v4 (mblk w.heap.size) := FarR.of (fun r hr => (ho4.lt r hr).1) (fun r hr => (O51.out.lt r hr).2)
        have ff57' := FarR.symm ff57
        have OC4 := Lib.hid (ho4.mono (hB52).size)
        clear ho4
        have c58 := c47.up hb4
        have c59 := c48.up hb4
        have c60 := c49.up hb4
        have O61 := Lib.hid (owns_up O50.out hb4)
        have O62 := Lib.hid (SetM.up O51.out hb4)
        have hB63 : Below w.heap.size w w4 := bel_up hB52 hb4
        clear c47 c48 c49 O50 O51
        obtain ⟨ATo, cTo, hvTo, hnTo⟩ := owns_openI OC4.out
        subst hvTo
        have hlTo : n4 ≤ 256 := by rw [hnTo]; exact Nat.le_trans (reach_le (rev N) _) (by first | (rw [HNn.out]; exact hln) | exact (rev_vld HG.out).ln)
        have HNTo := Lib.hid hnTo
        clear hnTo
        have uc58 := c58; have uc59 := c59; have uc60 := c60
        simp only [At, Own, Nat.reduceAdd, and_true] at uc58 uc59 uc60
        have K64 := Lib.hid (fun W (hv : NV W (.agg #[.slice (some ⟨g20, o21, none⟩) Nn cn, .slice Ar Nr cr]) N) => reach_any N x17.i _ W hv HG.out)
        go_wp2_with (fail)
        refine calls_named ?_
        intro W5 hW5
        have hL5 : Below w4.heap.size w4 W5 := by
          rw [hW5]
          repeat (first | with_reducible exact Below.refl _ _ | with_reducible refine bel_alloc ?_ _ | refine Below.setCell ?_ (by first | (simp; done) | (simp; omega) | omega) _)
        have c65 := c58.up hL5
        have c66 := c59.up hL5
        have c67 := c60.up hL5
        have O68 := Lib.hid (owns_up O61.out hL5)
        have O69 := Lib.hid (SetM.up O62.out hL5)
        have O70 := Lib.hid (owns_up OC4.out hL5)
        have hB71 : Below w.heap.size w W5 := by
          rw [hW5]
          repeat (first | with_reducible exact hB63 | with_reducible refine bel_alloc ?_ _ | refine Below.setCell ?_ (by first | (simp; done) | (simp; omega) | omega) _)
        clear hW5 hL5 uc58 uc59 uc60 c58 c59 c60
        with_reducible refine (K64.out _ (HNV.out.up hB71)).mono ?_
        rintro e w5 ⟨v5, n5, rfl, ho5, hb5⟩
        have f72 : Value.ownBlock v5 ≠ some (w0.heap.size) := fun e_ => by have := (ho5.lt _ e_).1; have := c65.lt; omega
        have f73 : Value.ownBlock v5 ≠ some (w1.heap.size) := fun e_ => by have := (ho5.lt _ e_).1; have := c66.lt; omega
        have f74 : Value.ownBlock v5 ≠ some (wr14.heap.size) := fun e_ => by have := (ho5.lt _ e_).1; have := c67.lt; omega
        have ff75 : FarR v5 u5 := far_new ho5 O68.out
        have ff75' := FarR.symm ff75
        have ff76 : FarR v5 (mblk w.heap.size) := FarR.of (fun r hr => (ho5.lt r hr).1) (fun r hr => (O69.out.lt r hr).2)
        have ff76' := FarR.symm ff76
        have ff77 : FarR v5 (.slice ATo n4 cTo) := far_new ho5 O70.out
        have ff77' := FarR.symm ff77
        have OC5 := Lib.hid (ho5.mono (hB71).size)
        clear ho5
        have c78 := c65.up hb5
        have c79 := c66.up hb5
        have c80 := c67.up hb5
        have O81 := Lib.hid (owns_up O68.out hb5)
        have O82 := Lib.hid (SetM.up O69.out hb5)
        have O83 := Lib.hid (owns_up O70.out hb5)
        have hB84 : Below w.heap.size w w5 := bel_up hB71 hb5
        clear c65 c66 c67 O68 O69 O70
        obtain ⟨AFr, cFr, hvFr, hnFr⟩ := owns_openI OC5.out
        subst hvFr
        have hlFr : n5 ≤ 256 := by rw [hnFr]; exact Nat.le_trans (reach_le N _) (by first | (rw [HNn.out]; exact hln) | exact (rev_vld HG.out).ln)
        have HNFr := Lib.hid hnFr
        clear hnFr
        go_wp2_with fail
        go_loopw [9, 35] (fun s9 s35 wr => ∃ (j : Nat) (n9 : Nat) (G : List Int) (S2 : List Int), s35 = .int .i64 j ∧ Own wr (w0.heap.size) 0 [.slice (some ⟨g20, o21, none⟩) Nn cn, .slice Ar Nr cr] ∧ Own wr (w1.heap.size) 0 [((.slice An2 (rev N).ns.length cn2)), ((.slice Ar2 (rev N).rs.length cr2))] ∧ Own wr (wr14.heap.size) 0 [.int .i64 x17.i, .int .i64 x17.x, .int .i64 x17.y] ∧ wr.ownsRow w.heap.size 3 1 s9 n9 (its G) ∧ Value.ownBlock s9 ≠ some (w0.heap.size) ∧ Value.ownBlock s9 ≠ some (w1.heap.size) ∧ Value.ownBlock s9 ≠ some (wr14.heap.size) ∧ SetM wr w.heap.size w.heap.size S2 ∧ wr.ownsRow w.heap.size 3 1 (.slice ATo n4 cTo) n4 (its (reachE (rev N) x17.i)) ∧ wr.ownsRow w.heap.size 3 1 (.slice AFr n5 cFr) n5 (its (reachE N x17.i)) ∧ wr.ownsRow w.heap.size 55 1 u5 n (vls L) ∧ FarR (mblk w.heap.size) s9 ∧ FarR (.slice ATo n4 cTo) s9 ∧ FarR (.slice AFr n5 cFr) s9 ∧ FarR u5 s9 ∧ Below w.heap.size w wr ∧ j ≤ n5 ∧ n9 ≤ j ∧ Hid (Gi N x17.i S S2 G j) ∧ S2.length ≤ 256) (fun _ s35 _ => n5 - (intOf s35).toNat)
        case atStart => exact ⟨0, 0, ([]), S, rfl, c78, c79, c80, World.ownsRow_nil _ _ _ _, by simp [Value.ownBlock], by simp [Value.ownBlock], by simp [Value.ownBlock], O82.out, O83.out, OC5.out, O81.out, (fun r_ _ h_ => by cases h_), (fun r_ _ h_ => by cases h_), (fun r_ _ h_ => by cases h_), (fun r_ _ h_ => by cases h_), hB84, (by omega), (by omega), Lib.hid (Gi.zero HS.out.d), hS⟩
        case round =>
          clear c78 c79 c80 hB84 O81 O82 O83 OC5
          obtain ⟨j, n9, G, S2, rfl, b85, b86, b87, o88, f89, f90, f91, o92, o93, o94, o95, ff96, ff97, ff98, ff99, hB100, hj, hn9, HGI, hS2⟩ := hrel
          obtain ⟨wr101, hwr101⟩ : ∃ W_, W_ = wr := ⟨_, rfl⟩
          subst hwr101
          have O102 := Lib.hid o88
          clear o88
          have O103 := Lib.hid o92
          clear o92
          have O104 := Lib.hid o93
          clear o93
          have O105 := Lib.hid o94
          clear o94
          have O106 := Lib.hid o95
          clear o95
          have ff96' := FarR.symm ff96
          have ff97' := FarR.symm ff97
          have ff98' := FarR.symm ff98
          have ff99' := FarR.symm ff99
          by_cases hltj : j < n5
          · skip
            have i1j : (j : Int) < n5 := by omega
            obtain ⟨gFr, cpFr, hvvFr, _, _, hgFr, _⟩ := owns_form O105.out (by omega)
            injection hvvFr with hvA _ hvC
            subst hvA; subst hvC
            obtain ⟨y, hy⟩ : ∃ r, (reachE N x17.i)[j]? = some r := ⟨_, List.getElem?_eq_getElem (by rw [← HNFr.out]; omega)⟩
            have HY := Lib.hid hy
            have hyb := id_bd HG.out (reach_ids (List.mem_of_getElem? hy))
            clear hy
            have ce107 := LX.at_ (owns_viewI O105.out) HY.out
            have uce107 := ce107
            simp only [CI, itc, At, Nat.mul_one, Nat.reduceMul, Nat.zero_add] at uce107
            have K108 := Lib.hid (fun W (hl_ : IL W (.slice ATo n4 cTo) (reachE (rev N) x17.i)) => has_any (.slice ATo n4 cTo) (reachE (rev N) x17.i) y W hl_ (by rw [← HNTo.out]; omega))
            have ub85 := b85; have ub86 := b86; have ub87 := b87
            simp only [At, Own, Nat.reduceAdd, and_true] at ub85 ub86 ub87
            go_wp2_with (fail)
            refine calls_named ?_
            intro W6 hW6
            have hL6 : Below wr101.heap.size wr101 W6 := by
              rw [hW6]
              repeat (first | with_reducible exact Below.refl _ _ | with_reducible refine bel_alloc ?_ _ | refine Below.setCell ?_ (by first | (simp; done) | (simp; omega) | omega) _)
            have c109 := b85.up hL6
            have c110 := b86.up hL6
            have c111 := b87.up hL6
            have O112 := Lib.hid (owns_up O102.out hL6)
            have O113 := Lib.hid (SetM.up O103.out hL6)
            have O114 := Lib.hid (owns_up O104.out hL6)
            have O115 := Lib.hid (owns_up O105.out hL6)
            have O116 := Lib.hid (owns_up O106.out hL6)
            have hB117 : Below w.heap.size w W6 := by
              rw [hW6]
              repeat (first | with_reducible exact hB100 | with_reducible refine bel_alloc ?_ _ | refine Below.setCell ?_ (by first | (simp; done) | (simp; omega) | omega) _)
            clear hW6 hL6 uce107 ub85 ub86 ub87 b85 b86 b87
            with_reducible refine (K108.out _ (il_own O114.out)).mono ?_
            rintro e w6 ⟨rfl, hb6⟩
            have c118 := c109.up hb6
            have c119 := c110.up hb6
            have c120 := c111.up hb6
            have O121 := Lib.hid (owns_up O112.out hb6)
            have O122 := Lib.hid (SetM.up O113.out hb6)
            have O123 := Lib.hid (owns_up O114.out hb6)
            have O124 := Lib.hid (owns_up O115.out hb6)
            have O125 := Lib.hid (owns_up O116.out hb6)
            have hB126 : Below w.heap.size w w6 := bel_up hB117 hb6
            clear c109 c110 c111 O112 O113 O114 O115 O116
            by_cases hm127 : y ∈ (reachE (rev N) x17.i)
            · skip
              have hm127_ : decide (y ∈ (reachE (rev N) x17.i)) = true := decide_eq_true hm127
              have Hhm127 := Lib.hid hm127
              clear hm127
              have uc118 := c118; have uc119 := c119; have uc120 := c120
              simp only [At, Own, Nat.reduceAdd, and_true] at uc118 uc119 uc120
              go_wp2_with (at_builtin; refine wpList_appF rfl _ _ _ rfl ti_it O121.out (hB126).size rfl rfl rfl rfl (itc_one y) (by omega) (by decide) ?_)
              intro v128 w_v128 hown_v128 hst_v128
              have O130 : Hid (w_v128.ownsRow w.heap.size 3 1 v128 ((n9 + 1)) (its (G ++ [y]))) := Lib.hid (by rw [its_snoc]; exact hown_v128)
              have c131 := Own.step hst_v128 f89 c118
              have f132 := hst_v128.far _ c118.lt f89
              have c133 := Own.step hst_v128 f90 c119
              have f134 := hst_v128.far _ c119.lt f90
              have c135 := Own.step hst_v128 f91 c120
              have f136 := hst_v128.far _ c120.lt f91
              have O137 := Lib.hid (SetM.step hst_v128 O122.out ff96)
              have ff138 : FarR (mblk w.heap.size) v128 := Step.farR hst_v128 (fun r hr => (O122.out.lt r hr).2) ff96
              have ff138' := FarR.symm ff138
              have O139 := Lib.hid (owns_step hst_v128 O123.out ff97)
              have ff140 : FarR (.slice ATo n4 cTo) v128 := FarR.step hst_v128 O123.out ff97
              have ff140' := FarR.symm ff140
              have O141 := Lib.hid (owns_step hst_v128 O124.out ff98)
              have ff142 : FarR (.slice (some ⟨gFr, 0, none⟩) n5 cFr) v128 := FarR.step hst_v128 O124.out ff98
              have ff142' := FarR.symm ff142
              have O143 := Lib.hid (owns_step hst_v128 O125.out ff99)
              have ff144 : FarR u5 v128 := FarR.step hst_v128 O125.out ff99
              have ff144' := FarR.symm ff144
              have hB145 : Below w.heap.size w w_v128 := hst_v128.below hB126 (hB126).size (fun r hr => (O121.out.lt r hr).1)
              clear uc118 uc119 uc120 hown_v128 c118 c119 c120 O122 O123 O124 O125
              have uc131 := c131; have uc133 := c133; have uc135 := c135
              simp only [At, Own, Nat.reduceAdd, and_true] at uc131 uc133 uc135
              go_wp2_with (at_mapUpdate; refine wpList_update_set rfl _ _ _ (.inl rfl) y O137.out (by simp [maxLen]; omega) (wf_k (by omega)) rfl rfl rfl ?_)
              intro wm146 hm_146 hst146
              have O147 : Hid (SetM wm146 w.heap.size w.heap.size (ins S2 y)) := Lib.hid hm_146
              clear hm_146
              have c148 := Own.step hst146 f1 c131
              have c149 := Own.step hst146 f2 c133
              have c150 := Own.step hst146 f24 c135
              have O151 := Lib.hid (owns_step hst146 O139.out ff57)
              have O152 := Lib.hid (owns_step hst146 O141.out ff76)
              have O153 := Lib.hid (owns_step hst146 O143.out ff12')
              have O154 := Lib.hid (owns_step hst146 O130.out ff138')
              have hB155 : Below w.heap.size w wm146 := hst146.below hB145 (hB145).size (fun r hr => (O137.out.lt r hr).1)
              clear uc131 uc133 uc135 c131 c133 c135 O139 O141 O143 O130 O137 hB145
              have uc148 := c148; have uc149 := c149; have uc150 := c150
              simp only [At, Own, Nat.reduceAdd, and_true] at uc148 uc149 uc150
              go_wp2
              go_roundw
              case rel => exact ⟨(j + 1), (n9 + 1), (G ++ [y]), (ins S2 y), (by first | rfl | exact congrArg (Value.int .i64) (by omega) | simp [*]), (by repeat (first | with_reducible exact c148 | refine Own.far _ _ (by simp <;> omega) ?_ | with_reducible refine Own.alloc ?_ _)), (by repeat (first | with_reducible exact c149 | refine Own.far _ _ (by simp <;> omega) ?_ | with_reducible refine Own.alloc ?_ _)), (by repeat (first | with_reducible exact c150 | refine Own.far _ _ (by simp <;> omega) ?_ | with_reducible refine Own.alloc ?_ _)), (by repeat (first | with_reducible exact O154.out | refine owns_far ?_ _ (by first | exact f132 | exact f134 | exact f136) _ | with_reducible refine World.ownsRow.alloc ?_ _)), f132, f134, f136, (by repeat (first | with_reducible exact O147.out | refine SetM.far ?_ _ (by first | exact f1 | exact f2 | exact f24) _ | with_reducible refine SetM.alloc ?_ _)), (by repeat (first | with_reducible exact O151.out | refine owns_far ?_ _ (by first | exact f53 | exact f54 | exact f55) _ | with_reducible refine World.ownsRow.alloc ?_ _)), (by repeat (first | with_reducible exact O152.out | refine owns_far ?_ _ (by first | exact f72 | exact f73 | exact f74) _ | with_reducible refine World.ownsRow.alloc ?_ _)), (by repeat (first | with_reducible exact O153.out | refine owns_far ?_ _ (by first | exact f9 | exact f10 | exact f23) _ | with_reducible refine World.ownsRow.alloc ?_ _)), ff138, ff140, ff142, ff144, (by repeat (first | with_reducible exact hB155 | with_reducible refine bel_alloc ?_ _ | refine Below.setCell ?_ (by first | (simp; done) | (simp; omega) | omega) _)), (by omega), (by omega), Lib.hid (HGI.out.yes HY.out Hhm127.out), (by have h_ := Gi.len HS.out (HGI.out.yes HY.out Hhm127.out); rw [HNn.out] at h_; omega)⟩
              case measure => simp [intOf] <;> omega
            · skip
              have hm127_ : decide (y ∈ (reachE (rev N) x17.i)) = false := decide_eq_false hm127
              have Hhm127 := Lib.hid hm127
              clear hm127
              have uc118 := c118; have uc119 := c119; have uc120 := c120
              simp only [At, Own, Nat.reduceAdd, and_true] at uc118 uc119 uc120
              go_wp2
              go_roundw
              case rel => exact ⟨(j + 1), n9, G, S2, (by first | rfl | exact congrArg (Value.int .i64) (by omega) | simp [*]), (by repeat (first | with_reducible exact c118 | refine Own.far _ _ (by simp <;> omega) ?_ | with_reducible refine Own.alloc ?_ _)), (by repeat (first | with_reducible exact c119 | refine Own.far _ _ (by simp <;> omega) ?_ | with_reducible refine Own.alloc ?_ _)), (by repeat (first | with_reducible exact c120 | refine Own.far _ _ (by simp <;> omega) ?_ | with_reducible refine Own.alloc ?_ _)), (by repeat (first | with_reducible exact O121.out | refine owns_far ?_ _ (by first | exact f89 | exact f90 | exact f91) _ | with_reducible refine World.ownsRow.alloc ?_ _)), f89, f90, f91, (by repeat (first | with_reducible exact O122.out | refine SetM.far ?_ _ (by first | exact f1 | exact f2 | exact f24) _ | with_reducible refine SetM.alloc ?_ _)), (by repeat (first | with_reducible exact O123.out | refine owns_far ?_ _ (by first | exact f53 | exact f54 | exact f55) _ | with_reducible refine World.ownsRow.alloc ?_ _)), (by repeat (first | with_reducible exact O124.out | refine owns_far ?_ _ (by first | exact f72 | exact f73 | exact f74) _ | with_reducible refine World.ownsRow.alloc ?_ _)), (by repeat (first | with_reducible exact O125.out | refine owns_far ?_ _ (by first | exact f9 | exact f10 | exact f23) _ | with_reducible refine World.ownsRow.alloc ?_ _)), ff96, ff97, ff98, ff99, (by repeat (first | with_reducible exact hB126 | with_reducible refine bel_alloc ?_ _ | refine Below.setCell ?_ (by first | (simp; done) | (simp; omega) | omega) _)), (by omega), (by omega), Lib.hid (HGI.out.no HY.out Hhm127.out), hS2⟩
              case measure => simp [intOf] <;> omega
          · skip
            have hkN : n5 = j := by omega
            subst hkN
            obtain ⟨A9, c9, hv9, -⟩ := owns_openI O102.out
            subst hv9
            have ub85 := b85; have ub86 := b86; have ub87 := b87
            simp only [At, Own, Nat.reduceAdd, and_true] at ub85 ub86 ub87
            go_wp2_with (at_builtin; refine wpList_appF rfl _ _ _ rfl ti_vl O106.out (hB100).size rfl rfl rfl rfl ((fun (_ : Value) => vlc_one A9 n9 c9) (.slice A9 n9 c9)) (by omega) (by decide) ?_)
            intro v156 w_v156 hown_v156 hst_v156
            have O158 : Hid (w_v156.ownsRow w.heap.size 55 1 v156 ((n + 1)) (vls (L ++ [(.slice A9 n9 c9)]))) := Lib.hid (by rw [vls_snoc]; exact hown_v156)
            have c159 := Own.step hst_v156 f9 b85
            have f160 := hst_v156.far _ b85.lt f9
            have c161 := Own.step hst_v156 f10 b86
            have f162 := hst_v156.far _ b86.lt f10
            have c163 := Own.step hst_v156 f23 b87
            have f164 := hst_v156.far _ b87.lt f23
            have O165 := Lib.hid (owns_step hst_v156 O102.out ff99')
            have ff166 : FarR (.slice A9 n9 c9) v156 := FarR.step hst_v156 O102.out ff99'
            have ff166' := FarR.symm ff166
            have O167 := Lib.hid (SetM.step hst_v156 O103.out ff12)
            have ff168 : FarR (mblk w.heap.size) v156 := Step.farR hst_v156 (fun r hr => (O103.out.lt r hr).2) ff12
            have ff168' := FarR.symm ff168
            have O169 := Lib.hid (owns_step hst_v156 O104.out ff56)
            have ff170 : FarR (.slice ATo n4 cTo) v156 := FarR.step hst_v156 O104.out ff56
            have ff170' := FarR.symm ff170
            have O171 := Lib.hid (owns_step hst_v156 O105.out ff75)
            have ff172 : FarR (.slice AFr n5 cFr) v156 := FarR.step hst_v156 O105.out ff75
            have ff172' := FarR.symm ff172
            have hB173 : Below w.heap.size w w_v156 := hst_v156.below hB100 (hB100).size (fun r hr => (O106.out.lt r hr).1)
            clear ub85 ub86 ub87 hown_v156 b85 b86 b87 O102 O103 O104 O105
            have uc159 := c159; have uc161 := c161; have uc163 := c163
            simp only [At, Own, Nat.reduceAdd, and_true] at uc159 uc161 uc163
            go_wp2
            go_roundw
            case rel => exact ⟨(k + 1), (n + 1), (L ++ [(.slice A9 n9 c9)]), S2, (by first | rfl | exact congrArg (Value.int .i64) (by omega) | simp [*]), (by repeat (first | with_reducible exact c159 | refine Own.far _ _ (by simp <;> omega) ?_ | with_reducible refine Own.alloc ?_ _)), (by repeat (first | with_reducible exact c161 | refine Own.far _ _ (by simp <;> omega) ?_ | with_reducible refine Own.alloc ?_ _)), (by repeat (first | with_reducible exact O158.out | refine owns_far ?_ _ (by first | exact f160 | exact f162 | exact f164) _ | with_reducible refine World.ownsRow.alloc ?_ _)), f160, f162, (by repeat (first | with_reducible exact O167.out | refine SetM.far ?_ _ (by first | exact f1 | exact f2 | exact f24) _ | with_reducible refine SetM.alloc ?_ _)), ff168, (by repeat (first | with_reducible exact hB173 | with_reducible refine bel_alloc ?_ _ | refine Below.setCell ?_ (by first | (simp; done) | (simp; omega) | omega) _)), (by omega), (by omega), Lib.hid (by rw [reps_yes Hhx18.out (HS.out.rep_t HG.out Hhx18.out Hhm33.out), HC.out]), Lib.hid (HS.out.next Hhx18.out HGI.out (by rw [← HNFr.out]; exact Nat.le_refl _)), hS2⟩
            case measure => simp [intOf] <;> omega
    · skip
      have hkN : Nn = k := by omega
      subst hkN
      have ub6 := b6; have ub7 := b7
      simp only [At, Own, Nat.reduceAdd, and_true] at ub6 ub7
      obtain ⟨A5, c5, hv5, -⟩ := owns_openV O15.out
      subst hv5
      go_wp2
      go_ret
      exact ⟨⟨A5, c5, by rw [← reps_all (k := Nn) (by rw [HNn.out]; exact Nat.le_refl _), ← HC.out]; rfl⟩, bel_up hBw (by repeat (first | with_reducible exact hB13 | with_reducible refine bel_alloc ?_ _ | refine Below.setCell ?_ (by first | (simp; done) | (simp; omega) | omega) _))⟩
end Go.Proofs.YtldfencaoaikgaaGreatDoor
