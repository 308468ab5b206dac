/-
  Contracts of package network: the nodes that can be reached.
-/
import Derived.Test.YtldfencaoaikgaaGreatDoorUNe
import Derived.Deep.LoopGhost
set_option linter.unusedSimpArgs false
set_option linter.unusedVariables false
namespace Go.Proofs.YtldfencaoaikgaaGreatDoor
open Go Go.RowKit Nw

theorem owns_openI {w : World} {base n : Nat} {v : Value} {l : List Int} (h : w.ownsRow base 3 1 v n (its l)) : ∃ A c, v = .slice A n c ∧ n = l.length := by
  have e : n = l.length := by have := h.1; rw [its, flat_length itc 1 (fun _ => rfl)] at this; omega
  subst e
  obtain ⟨A, c, hv, _⟩ := (il_own h).open_
  exact ⟨A, c, hv, rfl⟩
theorem owns_viewI {w : World} {base n g cap : Nat} {l : List Int} (h : w.ownsRow base 3 1 (.slice (some ⟨g, 0, none⟩) n cap) n (its l)) : LX CI 1 w (some ⟨g, 0, none⟩) l := by
  obtain ⟨A, c, hv, _, _, hx⟩ := (il_own h).open_
  have e : n = l.length := by have := h.1; rw [its, flat_length itc 1 (fun _ => rfl)] at this; omega
  subst e
  cases hv
  exact hx
theorem id_bd {N : Net} (g : Vld N) {x : Int} (h : x ∈ ids N) : 1 ≤ x ∧ x ≤ 1073741824 := by
  obtain ⟨y, hy, rfl⟩ := List.mem_map.1 h
  exact ⟨(g.on y hy).1, (g.on y hy).2.1⟩
theorem fnd_ids {N : Net} {x : Int} {a : Nd} (h : fnd N.ns x = some a) : x ∈ ids N := ids_of (by rw [h]; rfl)
theorem ids_at {N : Net} {a : Int} {k : Nat} {r : Rd} (h : (outR N a)[k]? = some r) : (idsOf (outP a) N.rs)[k]? = some r.i := by
  unfold idsOf; rw [List.getElem?_map]
  show Option.map _ ((outR N a)[k]?) = _
  rw [h]; rfl
theorem out_len (N : Net) (a : Int) : (idsOf (outP a) N.rs).length = (outR N a).length := by unfold idsOf; rw [List.length_map]; rfl
theorem out_le (N : Net) (a : Int) : (outR N a).length ≤ N.rs.length := List.length_filter_le _ _
theorem next_len (N : Net) (a : Int) : (next N a).length = (outR N a).length := by unfold next; rw [List.length_map]
theorem next_at {N : Net} {a : Int} {k : Nat} {r : Rd} (h : (outR N a)[k]? = some r) : (next N a)[k]? = some (r.f + r.t - a) := by
  unfold next; rw [List.getElem?_map, h]; rfl
theorem out_mem {N : Net} {a : Int} {k : Nat} {r : Rd} (h : (outR N a)[k]? = some r) : r ∈ N.rs := (List.mem_filter.1 (List.mem_of_getElem? h)).1
theorem end_bd {N : Net} (g : Vld N) {r : Rd} (h : r ∈ N.rs) : (1 ≤ r.f ∧ r.f ≤ 1073741824) ∧ (1 ≤ r.t ∧ r.t ≤ 1073741824) := by
  have := g.or r h
  exact ⟨id_bd g (ids_of this.2.2.2.2.2.2.2.1), id_bd g (ids_of this.2.2.2.2.2.2.2.2)⟩
theorem wr_next {f t a : Int} (h1 : 1 ≤ f ∧ f ≤ 1073741824) (h2 : 1 ≤ t ∧ t ≤ 1073741824) (h3 : 1 ≤ a ∧ a ≤ 1073741824) :
    IntKind.i64.wrap (f + t) = f + t ∧ wrap64 (f + t) = f + t ∧ IntKind.i64.wrap (f + t - a) = f + t - a ∧ wrap64 (f + t - a) = f + t - a := by
  refine ⟨?_, ?_, ?_, ?_⟩
  · simp [IntKind.wrap, IntKind.bits, IntKind.signed]; omega
  · unfold wrap64; omega
  · simp [IntKind.wrap, IntKind.bits, IntKind.signed]; omega
  · unfold wrap64; omega
theorem fold_at {l : List Int} {k : Nat} {x : Int} (h : l[k]? = some x) (p : List Int × List Int) : (l.take (k + 1)).foldl push p = push ((l.take k).foldl push p) x := by
  rw [List.take_add_one, h]; simp [List.foldl_append]
theorem push_no {S W : List Int} {x : Int} (h : x ∈ S) : push (S, W) x = (S, W) := by unfold push; rw [if_pos h]
theorem push_yes {S W : List Int} {x : Int} (h : x ∉ S) : push (S, W) x = (x :: S, W ++ [x]) := by unfold push; rw [if_neg h]
theorem wl_round {N : Net} {s a : Int} {S W S2 W2 : List Int} (h : Wl N s S (a :: W) (fun _ => False)) (hi : ∀ x ∈ next N a, x ∈ ids N) (hf : (next N a).foldl push (S, W) = (S2, W2)) : Wl N s S2 W2 (fun _ => False) := by
  have := h.round hi
  rw [hf] at this; exact this
/-- The nodes seen, in order. -/
def seenL (N : Net) (S : List Int) (k : Nat) : List Int := ((N.ns.take k).map fun x => x.i).filter fun x => decide (x ∈ S)
theorem seen_yes {N : Net} {S : List Int} {k : Nat} {x : Nd} (h : N.ns[k]? = some x) (hp : x.i ∈ S) : seenL N S (k + 1) = seenL N S k ++ [x.i] := by
  unfold seenL; rw [List.take_add_one, h]; simp [hp]
theorem seen_no {N : Net} {S : List Int} {k : Nat} {x : Nd} (h : N.ns[k]? = some x) (hp : x.i ∉ S) : seenL N S (k + 1) = seenL N S k := by
  unfold seenL; rw [List.take_add_one, h]; simp [hp]
theorem seen_all {N : Net} {s : Int} {S : List Int} (h : Wl N s S [] (fun _ => False)) {k : Nat} (hk : N.ns.length ≤ k) : seenL N S k = reachE N s := by
  rw [reachE_of h]; unfold seenL ids; rw [List.take_of_length_le hk]

set_option maxRecDepth 100000 in
theorem reach_none (N : Net) (id : Int) (v : Value) (w : World) (h : NV w v N) (g : Vld N) (ha : fnd N.ns id = none) :
    Calls Tryz.prog 24 #[v, .int .i64 id] w fun e w' => e = .returned (.slice none 0 0) ∧ Below w.heap.size w w' := by
  have HA := Lib.hid ha
  clear ha
  obtain ⟨_, _, rfl, hn, hr⟩ := h
  obtain ⟨An, cn, rfl, hcn, hmn, hxn⟩ := hn.open_
  obtain ⟨Ar, cr, rfl, hcr, hmr, hxr⟩ := hr.open_
  have HNV : Hid (NV w (.agg #[.slice An N.ns.length cn, .slice Ar N.rs.length cr]) N) := Lib.hid ⟨_, _, rfl, hn, hr⟩
  have HXN := Lib.hid hxn
  have HXR := Lib.hid hxr
  have HG := Lib.hid g
  have hln := g.ln
  have hlr := g.lr
  generalize hNn : N.ns.length = Nn at *
  generalize hNr : N.rs.length = Nr at *
  have HNn := Lib.hid hNn
  have HNr := Lib.hid hNr
  clear hn hr hxn hxr g hNn hNr
  go_enter Tryz.func24, Tryz.ntmps24
  have K1 := Lib.hid (fun W (hv : NV W (.agg #[.slice An Nn cn, .slice Ar Nr cr]) N) => node_none N id _ W hv HG.out.half HA.out)
  go_wp2_with (fail)
  refine calls_named ?_
  intro W1 hW1
  have hL1 : Below w.heap.size w W1 := by
    rw [hW1]
    repeat (first | with_reducible exact Below.refl _ _ | with_reducible refine bel_alloc ?_ _ | refine Below.setCell ?_ (by first | (simp; done) | (simp; omega) | omega) _)
  have c2 : Own W1 (w.heap.size) 0 [.slice An Nn cn, .slice Ar Nr cr] := by
    rw [hW1]
    first
    | (repeat (first | (with_reducible refine own_new (l := [.slice An Nn cn, .slice Ar Nr cr]) ?_; (simp; done)) | with_reducible refine Own.alloc ?_ _ | refine Own.far _ _ (by first | (simp; done) | (simp [*]; done) | (simp; omega)) ?_)); done
    | simp [Own, go_sem]
  have hB3 : Below w.heap.size w W1 := by
    rw [hW1]
    repeat (first | with_reducible exact Below.refl _ _ | with_reducible refine bel_alloc ?_ _ | refine Below.setCell ?_ (by first | (simp; done) | (simp; omega) | omega) _)
  clear hW1 hL1
  with_reducible refine (K1.out _ (HNV.out.up hB3)).mono ?_
  rintro e w1 ⟨rfl, hb1⟩
  have c4 := c2.up hb1
  have hB5 : Below w.heap.size w w1 := bel_up hB3 hb1
  clear c2
  have ne6_ : w.heap.size < w1.heap.size := by have := c4.lt; omega
  have ne6 := Nat.ne_of_lt ne6_
  have ne6' := ne6.symm
  have uc4 := c4
  simp only [At, Own, Nat.reduceAdd, and_true] at uc4
  go_wp2
  go_ret
  refine ⟨rfl, ?_⟩
  repeat (first | with_reducible exact hB5 | with_reducible refine bel_alloc ?_ _ | refine Below.setCell ?_ (by first | (simp; done) | (simp; omega) | omega) _)

theorem hs_mem {N : Net} {s a : Int} {S W : List Int} {E : Int → Prop} (_h : Wl N s S W E) (h : a ∈ S) : a ∈ S := h

set_option maxRecDepth 100000 in
set_option maxHeartbeats 4000000 in
theorem reach_some (N : Net) (id : Int) (a : Nd) (v : Value) (w : World) (h : NV w v N) (g : Vld N) (ha : fnd N.ns id = some a) :
    Calls Tryz.prog 24 #[v, .int .i64 id] w fun e w' => ∃ v' n', e = .returned v' ∧ w'.ownsRow w.heap.size 3 1 v' n' (its (reachE N id)) ∧ Below w.heap.size w w' := by
  have hidb := id_bd g (fnd_ids ha)
  have HA := Lib.hid ha
  clear ha
  obtain ⟨_, _, rfl, hn, hr⟩ := h
  obtain ⟨An, cn, rfl, hcn, hmn, hxn⟩ := hn.open_
  obtain ⟨Ar, cr, rfl, hcr, hmr, hxr⟩ := hr.open_
  have HNV : Hid (NV w (.agg #[.slice An N.ns.length cn, .slice Ar N.rs.length cr]) N) := Lib.hid ⟨_, _, rfl, hn, hr⟩
  have HXN := Lib.hid hxn
  have HXR := Lib.hid hxr
  have HG := Lib.hid g
  have hln := g.ln
  have hlr := g.lr
  generalize hNn : N.ns.length = Nn at *
  generalize hNr : N.rs.length = Nr at *
  have HNn := Lib.hid hNn
  have HNr := Lib.hid hNr
  clear hn hr hxn hxr g hNn hNr
  go_enter Tryz.func24, Tryz.ntmps24
  have K1 := Lib.hid (fun W (hv : NV W (.agg #[.slice An Nn cn, .slice Ar Nr cr]) N) => node_some N a id _ W hv HG.out.half HA.out)
  go_wp2_with (fail)
  refine calls_named ?_
  intro W1 hW1
  have hL1 : Below w.heap.size w W1 := by
    rw [hW1]
    repeat (first | with_reducible exact Below.refl _ _ | with_reducible refine bel_alloc ?_ _ | refine Below.setCell ?_ (by first | (simp; done) | (simp; omega) | omega) _)
  have c2 : Own W1 (w.heap.size) 0 [.slice An Nn cn, .slice Ar Nr cr] := by
    rw [hW1]
    first
    | (repeat (first | (with_reducible refine own_new (l := [.slice An Nn cn, .slice Ar Nr cr]) ?_; (simp; done)) | with_reducible refine Own.alloc ?_ _ | refine Own.far _ _ (by first | (simp; done) | (simp [*]; done) | (simp; omega)) ?_)); done
    | simp [Own, go_sem]
  have hB3 : Below w.heap.size w W1 := by
    rw [hW1]
    repeat (first | with_reducible exact Below.refl _ _ | with_reducible refine bel_alloc ?_ _ | refine Below.setCell ?_ (by first | (simp; done) | (simp; omega) | omega) _)
  clear hW1 hL1
  with_reducible refine (K1.out _ (HNV.out.up hB3)).mono ?_
  rintro e w1 ⟨rfl, hb1⟩
  have c4 := c2.up hb1
  have hB5 : Below w.heap.size w w1 := bel_up hB3 hb1
  clear c2
  have ne6_ : w.heap.size < w1.heap.size := by have := c4.lt; omega
  have ne6 := Nat.ne_of_lt ne6_
  have ne6' := ne6.symm
  have uc4 := c4
  simp only [At, Own, Nat.reduceAdd, and_true] at uc4
  go_upto_region 4 with fail
  refine wp_named ?_
  intro W2 hW2
  have hL2 : Below w1.heap.size w1 W2 := by
    rw [hW2]
    repeat (first | with_reducible exact Below.refl _ _ | with_reducible refine bel_alloc ?_ _ | refine Below.setCell ?_ (by first | (simp; done) | (simp; omega) | omega) _)
  have c7 := c4.up hL2
  have c8 : Own W2 (w1.heap.size) 0 [.int .i64 a.i, .int .i64 a.x, .int .i64 a.y] := by
    rw [hW2]
    first
    | (repeat (first | (with_reducible refine own_new (l := [.int .i64 a.i, .int .i64 a.x, .int .i64 a.y]) ?_; (simp; done)) | with_reducible refine Own.alloc ?_ _ | refine Own.far _ _ (by first | (simp; done) | (simp [*]; done) | (simp; omega)) ?_)); done
    | simp [Own, go_sem, uc4, ne6, ne6', ne6_]
  have hB9 : Below w.heap.size w W2 := by
    rw [hW2]
    repeat (first | with_reducible exact hB5 | with_reducible refine bel_alloc ?_ _ | refine Below.setCell ?_ (by first | (simp; done) | (simp; omega) | omega) _)
  clear hW2 hL2 uc4 c4
  have uc7 := c7; have uc8 := c8
  simp only [At, Own, Nat.reduceAdd, and_true] at uc7 uc8
  have hmm10 := @run_makeMap Tryz.prog
  go_wp2_with (refine wpList_update_set rfl _ _ _ (.inr rfl) id (sm_made W2 (hB9).size) (by simp [maxLen]) (wf_k (by omega)) rfl rfl rfl ?_)
  intro wm10 hm_10 hst10
  clear hmm10
  have hb_10 : Below W2.heap.size W2 wm10 := hst10.below ((Below.refl _ _).alloc (Nat.le_refl _) _) (by simp) (fun r hr => by have := mblk_block.1 hr; omega)
  have f11 : Value.ownBlock (mblk W2.heap.size) ≠ some (w.heap.size) := fun e_ => by have := mblk_block.1 e_; have := c7.lt; omega
  have f12 : Value.ownBlock (mblk W2.heap.size) ≠ some (w1.heap.size) := fun e_ => by have := mblk_block.1 e_; have := c8.lt; omega
  have OS10 : Hid (SetM wm10 w.heap.size W2.heap.size ([id])) := Lib.hid hm_10
  clear hm_10
  have c13 := c7.up hb_10
  have c14 := c8.up hb_10
  have hB15 : Below w.heap.size w wm10 := bel_up hB9 hb_10
  clear uc7 uc8 c7 c8
  go_upto_region 5 with fail
  have uc13 := c13; have uc14 := c14
  simp only [At, Own, Nat.reduceAdd, and_true] at uc13 uc14
  go_wp2_with fail
  refine wp_named ?_
  intro WT16 hWT16
  have hb_16 : Below wm10.heap.size wm10 WT16 := by rw [hWT16]; exact (Below.refl _ _).alloc (Nat.le_refl _) _
  have OT16 : Hid (TailR WT16 w.heap.size (.slice (some ⟨wm10.heap.size, 0, none⟩) 1 1) ([id])) := Lib.hid (by rw [hWT16]; exact tr_one (hB15).size id)
  clear hWT16
  have f17 : Value.ownBlock (.slice (some ⟨wm10.heap.size, 0, none⟩) 1 1) ≠ some (w.heap.size) := fun e_ => by have := mblk_block.1 e_; have := c13.lt; omega
  have f18 : Value.ownBlock (.slice (some ⟨wm10.heap.size, 0, none⟩) 1 1) ≠ some (w1.heap.size) := fun e_ => by have := mblk_block.1 e_; have := c14.lt; omega
  have ff19 : FarR (.slice (some ⟨wm10.heap.size, 0, none⟩) 1 1) (mblk W2.heap.size) := FarR.of (fun r hr => Nat.le_of_eq (mblk_block.1 hr)) (fun r hr => (OS10.out.lt r hr).2)
  have ff19' := FarR.symm ff19
  have c20 := c13.up hb_16
  have c21 := c14.up hb_16
  have O22 := Lib.hid (SetM.up OS10.out hb_16)
  have hB23 : Below w.heap.size w WT16 := bel_up hB15 hb_16
  clear uc13 uc14 c13 c14 OS10
  go_loopg [8] (2 * (256 - [id].length) + [id].length) (fun gk s8 wr => ∃ (Wt : List Int) (S : List Int), Own wr (w.heap.size) 0 [.slice An Nn cn, .slice Ar Nr cr] ∧ TailR wr w.heap.size s8 Wt ∧ Value.ownBlock s8 ≠ some (w.heap.size) ∧ SetM wr w.heap.size W2.heap.size S ∧ FarR (mblk W2.heap.size) s8 ∧ Below w.heap.size w wr ∧ Hid (Wl N id S Wt (fun _ => False)) ∧ Wt.length ≤ S.length ∧ S.length ≤ 256 ∧ Hid (gk = 2 * (256 - S.length) + Wt.length))
  case atStart => exact ⟨([id]), ([id]), c20, OT16.out, f17, O22.out, ff19', hB23, Lib.hid (Wl.start (fnd_ids HA.out)), (by simp), (by simp), Lib.hid rfl⟩
  case round =>
    clear c20 hB23 O22 OT16
    obtain ⟨Wt, S, b24, o25, f26, o27, ff28, hB29, HW, hWS, hS, HGK30⟩ := hrel
    obtain ⟨wr31, hwr31⟩ : ∃ W_, W_ = wr := ⟨_, rfl⟩
    subst hwr31
    obtain ⟨gk32, hgk32⟩ : ∃ W_, W_ = gk := ⟨_, rfl⟩
    subst hgk32
    have O33 := Lib.hid o25
    clear o25
    have O34 := Lib.hid o27
    clear o27
    have ff28' := FarR.symm ff28
    rcases Wt with _ | ⟨v0, Wt⟩
    · skip
      obtain ⟨g8, of8, cp8, hv8, hc8⟩ := O33.out.form (n := 0) rfl
      subst hv8
      have ub24 := b24
      simp only [At, Own, Nat.reduceAdd, and_true] at ub24
      go_wp2_with fail
      go_loopw [15, 74] (fun s15 s74 wr => ∃ (k : Nat) (n : Nat) (L : List Int), s74 = .int .i64 k ∧ wr.ownsRow w.heap.size 3 1 s15 n (its L) ∧ SetM wr w.heap.size W2.heap.size S ∧ FarR (mblk W2.heap.size) s15 ∧ Below w.heap.size w wr ∧ k ≤ Nn ∧ n ≤ k ∧ Hid (L = seenL N S k)) (fun _ s74 _ => Nn - (intOf s74).toNat)
      case atStart => exact ⟨0, 0, ([]), rfl, World.ownsRow_nil _ _ _ _, O34.out, (fun r_ _ h_ => by cases h_), hB29, (by omega), (by omega), Lib.hid rfl⟩
      case round =>
        clear hB29 ub24 O33 O34
        obtain ⟨k, n, L, rfl, o36, o37, ff38, hB39, hk, hn, HE⟩ := hrel
        obtain ⟨wr40, hwr40⟩ : ∃ W_, W_ = wr := ⟨_, rfl⟩
        subst hwr40
        have O41 := Lib.hid o36
        clear o36
        have O42 := Lib.hid o37
        clear o37
        have ff38' := FarR.symm ff38
        by_cases hltk : k < Nn
        · skip
          have i1k : (k : Int) < Nn := by omega
          obtain ⟨x43, hx44⟩ : ∃ x, N.ns[k]? = some x := ⟨_, List.getElem?_eq_getElem (by rw [HNn.out]; omega)⟩
          have Hhx44 := Lib.hid hx44
          clear hx44
          have hxb := id_bd HG.out (show x43.i ∈ ids N from List.mem_map.2 ⟨_, List.mem_of_getElem? Hhx44.out, rfl⟩)
          obtain ⟨g46, o47, ha48, -⟩ := (HXN.out).up kpN hB39 _ _ Hhx44.out
          subst ha48
          have ce45 := LX.at_ ((HXN.out).up kpN hB39) Hhx44.out
          have ce45_ : g46 < wr40.heap.size := World.block_lt_of_cell? _ _ ce45.1
          have uce45 := ce45
          simp only [CN, ndc, At, Nat.reduceMul] at uce45
          have f49 := owns_new0 O41.out
          have f50 : Value.ownBlock (mblk W2.heap.size) ≠ some (wr40.heap.size) := fun e_ => by have := (O42.out.lt _ e_).2; omega
          by_cases hm55 : x43.i ∈ S
          · skip
            have hm55_ : decide (x43.i ∈ S) = true := decide_eq_true hm55
            have Hhm55 := Lib.hid hm55
            clear hm55
            go_upto_region 22 with fail
            refine wp_named ?_
            intro W4 hW4
            have hL4 : Below wr40.heap.size wr40 W4 := by
              rw [hW4]
              repeat (first | with_reducible exact Below.refl _ _ | with_reducible refine bel_alloc ?_ _ | refine Below.setCell ?_ (by first | (simp; done) | (simp; omega) | omega) _)
            have c56 : Own W4 (wr40.heap.size) 0 [.int .i64 x43.i, .int .i64 x43.x, .int .i64 x43.y] := by
              rw [hW4]
              first
              | (repeat (first | (with_reducible refine own_new (l := [.int .i64 x43.i, .int .i64 x43.x, .int .i64 x43.y]) ?_; (simp; done)) | with_reducible refine Own.alloc ?_ _ | refine Own.far _ _ (by first | (simp; done) | (simp [*]; done) | (simp; omega)) ?_)); done
              | simp [Own, go_sem, uce45]
            have O57 := Lib.hid (owns_up O41.out hL4)
            have O58 := Lib.hid (SetM.up O42.out hL4)
            have hB59 : Below w.heap.size w W4 := by
              rw [hW4]
              repeat (first | with_reducible exact hB39 | with_reducible refine bel_alloc ?_ _ | refine Below.setCell ?_ (by first | (simp; done) | (simp; omega) | omega) _)
            clear hW4 hL4 uce45
            have uc56 := c56
            simp only [At, Own, Nat.reduceAdd, and_true] at uc56
            go_wp2_with (first | (at_lookup; refine wpList_lookup_set rfl _ _ rfl x43.i O58.out (wf_k (by omega)) rfl rfl ?_; rw [hm55_]) | (at_builtin; refine wpList_appF rfl _ _ _ rfl ti_it O57.out (hB59).size rfl rfl rfl rfl (itc_one x43.i) (by omega) (by decide) ?_))
            intro v60 w_v60 hown_v60 hst_v60
            have O62 : Hid (w_v60.ownsRow w.heap.size 3 1 v60 ((n + 1)) (its (L ++ [x43.i]))) := Lib.hid (by rw [its_snoc]; exact hown_v60)
            have c63 := Own.step hst_v60 f49 c56
            have f64 := hst_v60.far _ c56.lt f49
            have O65 := Lib.hid (SetM.step hst_v60 O58.out ff38)
            have ff66 : FarR (mblk W2.heap.size) v60 := Step.farR hst_v60 (fun r hr => (O58.out.lt r hr).2) ff38
            have ff66' := FarR.symm ff66
            have hB67 : Below w.heap.size w w_v60 := hst_v60.below hB59 (hB59).size (fun r hr => (O57.out.lt r hr).1)
            clear uc56 hown_v60 c56 O58
            have uc63 := c63
            simp only [At, Own, Nat.reduceAdd, and_true] at uc63
            go_wp2
            go_roundw
            case rel => exact ⟨(k + 1), (n + 1), (L ++ [x43.i]), (by first | rfl | exact congrArg (Value.int .i64) (by omega) | simp [*]), (by repeat (first | with_reducible exact O62.out | refine owns_far ?_ _ (by first | exact f64) _ | with_reducible refine World.ownsRow.alloc ?_ _)), (by repeat (first | with_reducible exact O65.out | refine SetM.far ?_ _ (by first | exact f11 | exact f12 | exact f50) _ | with_reducible refine SetM.alloc ?_ _)), ff66, (by repeat (first | with_reducible exact hB67 | with_reducible refine bel_alloc ?_ _ | refine Below.setCell ?_ (by first | (simp; done) | (simp; omega) | omega) _)), (by omega), (by omega), Lib.hid (by rw [seen_yes Hhx44.out Hhm55.out, HE.out])⟩
            case measure => simp [intOf] <;> omega
          · skip
            have hm55_ : decide (x43.i ∈ S) = false := decide_eq_false hm55
            have Hhm55 := Lib.hid hm55
            clear hm55
            go_upto_region 22 with fail
            refine wp_named ?_
            intro W5 hW5
            have hL5 : Below wr40.heap.size wr40 W5 := by
              rw [hW5]
              repeat (first | with_reducible exact Below.refl _ _ | with_reducible refine bel_alloc ?_ _ | refine Below.setCell ?_ (by first | (simp; done) | (simp; omega) | omega) _)
            have c68 : Own W5 (wr40.heap.size) 0 [.int .i64 x43.i, .int .i64 x43.x, .int .i64 x43.y] := by
              rw [hW5]
              first
              | (repeat (first | (with_reducible refine own_new (l := [.int .i64 x43.i, .int .i64 x43.x, .int .i64 x43.y]) ?_; (simp; done)) | with_reducible refine Own.alloc ?_ _ | refine Own.far _ _ (by first | (simp; done) | (simp [*]; done) | (simp; omega)) ?_)); done
              | simp [Own, go_sem, uce45]
            have O69 := Lib.hid (owns_up O41.out hL5)
            have O70 := Lib.hid (SetM.up O42.out hL5)
            have hB71 : Below w.heap.size w W5 := by
              rw [hW5]
              repeat (first | with_reducible exact hB39 | with_reducible refine bel_alloc ?_ _ | refine Below.setCell ?_ (by first | (simp; done) | (simp; omega) | omega) _)
            clear hW5 hL5 uce45
            have uc68 := c68
            simp only [At, Own, Nat.reduceAdd, and_true] at uc68
            go_wp2_with ((at_lookup; refine wpList_lookup_set rfl _ _ rfl x43.i O70.out (wf_k (by omega)) rfl rfl ?_; rw [hm55_]))
            go_roundw
            case rel => exact ⟨(k + 1), n, L, (by first | rfl | exact congrArg (Value.int .i64) (by omega) | simp [*]), (by repeat (first | with_reducible exact O69.out | refine owns_far ?_ _ (by first | exact f49) _ | with_reducible refine World.ownsRow.alloc ?_ _)), (by repeat (first | with_reducible exact O70.out | refine SetM.far ?_ _ (by first | exact f11 | exact f12 | exact f50) _ | with_reducible refine SetM.alloc ?_ _)), ff38, (by repeat (first | with_reducible exact hB71 | with_reducible refine bel_alloc ?_ _ | refine Below.setCell ?_ (by first | (simp; done) | (simp; omega) | omega) _)), (by omega), (by omega), Lib.hid (by rw [seen_no Hhx44.out Hhm55.out, HE.out])⟩
            case measure => simp [intOf] <;> omega
        · skip
          have hkN : Nn = k := by omega
          subst hkN
          go_wp2
          go_ret
          exact ⟨_, _, rfl, (by rw [← seen_all HW.out (k := Nn) (by rw [HNn.out]; exact Nat.le_refl _), ← HE.out]; exact O41.out), (by repeat (first | with_reducible exact hB39 | with_reducible refine bel_alloc ?_ _ | refine Below.setCell ?_ (by first | (simp; done) | (simp; omega) | omega) _))⟩
    · skip
      obtain ⟨g8, of8, cp8, hv8, hc8⟩ := O33.out.form (n := (Wt.length + 1)) rfl
      subst hv8
      have hc8_ := hc8 v0 Wt rfl
      clear hc8
      have i18 : (0 : Int) < (Wt.length : Int) + 1 := by omega
      have HV0 : Hid (v0 ∈ S) := Lib.hid (HW.out.w v0 (by simp))
      have HI0 : Hid (v0 ∈ ids N) := Lib.hid (HW.out.i v0 HV0.out)
      have hbd0 := id_bd HG.out HI0.out
      have hol : (outR N v0).length ≤ 1024 := Nat.le_trans (out_le N v0) (by rw [HNr.out]; exact hlr)
      have hWS0 : Wt.length + 1 ≤ S.length := by simpa using hWS
      clear hWS
      have ub24 := b24
      simp only [At, Own, Nat.reduceAdd, and_true] at ub24
      go_wp2_with (refine wpList_slice_tail rfl _ _ rfl O33.out rfl rfl ?_)
      intro vt73 htl73 hbk73
      have O74 := Lib.hid htl73
      clear htl73
      have f75 : Value.ownBlock vt73 ≠ some (w.heap.size) := by rw [hbk73]; exact f26
      have ff76 : FarR vt73 (mblk W2.heap.size) := fun r hr => ff28' r (by rw [← hbk73]; exact hr)
      have ff76' := FarR.symm ff76
      have K77 := Lib.hid (fun W (hv : NV W (.agg #[.slice An Nn cn, .slice Ar Nr cr]) N) => out_any N v0 _ W hv HG.out)
      go_wp2_with (fail)
      refine calls_named ?_
      intro W6 hW6
      have hL6 : Below wr31.heap.size wr31 W6 := by
        rw [hW6]
        repeat (first | with_reducible exact Below.refl _ _ | with_reducible refine bel_alloc ?_ _ | refine Below.setCell ?_ (by first | (simp; done) | (simp; omega) | omega) _)
      have c78 := b24.up hL6
      have O79 := Lib.hid (SetM.up O34.out hL6)
      have O80 := Lib.hid (TailR.up O74.out hL6)
      have hB81 : Below w.heap.size w W6 := by
        rw [hW6]
        repeat (first | with_reducible exact hB29 | with_reducible refine bel_alloc ?_ _ | refine Below.setCell ?_ (by first | (simp; done) | (simp; omega) | omega) _)
      clear hW6 hL6 ub24 b24
      with_reducible refine (K77.out _ (HNV.out.up hB81)).mono ?_
      rintro e w6 ⟨v6, n6, rfl, ho6, hb6⟩
      have f82 : Value.ownBlock v6 ≠ some (w.heap.size) := fun e_ => by have := (ho6.lt _ e_).1; have := c78.lt; omega
      have ff83 : FarR v6 (mblk W2.heap.size) := FarR.of (fun r hr => (ho6.lt r hr).1) (fun r hr => (O79.out.lt r hr).2)
      have ff83' := FarR.symm ff83
      have ff84 : FarR v6 vt73 := FarR.of (fun r hr => (ho6.lt r hr).1) (fun r hr => (O80.out.lt r hr).2)
      have ff84' := FarR.symm ff84
      have OC6 := Lib.hid (ho6.mono (hB81).size)
      clear ho6
      have c85 := c78.up hb6
      have O86 := Lib.hid (SetM.up O79.out hb6)
      have O87 := Lib.hid (TailR.up O80.out hb6)
      have hB88 : Below w.heap.size w w6 := bel_up hB81 hb6
      clear c78 O79 O80
      obtain ⟨A41, c41, hv41, hn41⟩ := owns_openI OC6.out
      subst hv41
      rw [out_len] at hn41
      have hl41 : n6 ≤ 1024 := by rw [hn41]; exact hol
      have HN41 := Lib.hid hn41
      clear hn41
      go_wp2_with fail
      go_loopw [8, 43] (fun s8 s43 wr => ∃ (k : Nat) (Wt2 : List Int) (S2 : List Int), s43 = .int .i64 k ∧ Own wr (w.heap.size) 0 [.slice An Nn cn, .slice Ar Nr cr] ∧ TailR wr w.heap.size s8 Wt2 ∧ Value.ownBlock s8 ≠ some (w.heap.size) ∧ SetM wr w.heap.size W2.heap.size S2 ∧ wr.ownsRow w.heap.size 3 1 (.slice A41 n6 c41) n6 (its (idsOf (outP v0) N.rs)) ∧ FarR (mblk W2.heap.size) s8 ∧ FarR (.slice A41 n6 c41) s8 ∧ Below w.heap.size w wr ∧ k ≤ n6 ∧ Hid (((next N v0).take k).foldl push (S, Wt) = (S2, Wt2)) ∧ Hid (Wl N id S2 Wt2 (fun x => x = v0)) ∧ Hid (v0 ∈ S2) ∧ S2.length ≤ 256 ∧ Wt2.length + S.length = S2.length + Wt.length ∧ S.length ≤ S2.length) (fun _ s43 _ => n6 - (intOf s43).toNat)
      case atStart => exact ⟨0, Wt, S, rfl, c85, O87.out, f75, O86.out, OC6.out, ff76', ff84, hB88, (by omega), Lib.hid rfl, Lib.hid HW.out.pop, HV0, hS, (by omega), (Nat.le_refl _)⟩
      case round =>
        clear c85 hB88 O86 O87 OC6
        obtain ⟨k, Wt2, S2, rfl, b89, o90, f91, o92, o93, ff94, ff95, hB96, hk, HF, HWi, HV2, hS2, hW2, hSS⟩ := hrel
        obtain ⟨wr97, hwr97⟩ : ∃ W_, W_ = wr := ⟨_, rfl⟩
        subst hwr97
        have O98 := Lib.hid o90
        clear o90
        have O99 := Lib.hid o92
        clear o92
        have O100 := Lib.hid o93
        clear o93
        have ff94' := FarR.symm ff94
        have ff95' := FarR.symm ff95
        by_cases hltk : k < n6
        · skip
          have i1k : (k : Int) < n6 := by omega
          obtain ⟨g41, cp41, hvv41, _, _, hg41, _⟩ := owns_form O100.out (by omega)
          injection hvv41 with hvA _ hvC
          subst hvA; subst hvC
          obtain ⟨rd, hrd⟩ : ∃ r, (outR N v0)[k]? = some r := ⟨_, List.getElem?_eq_getElem (by rw [← HN41.out]; omega)⟩
          have HRX := Lib.hid hrd
          have HIX : Hid ((idsOf (outP v0) N.rs)[k]? = some rd.i) := Lib.hid (ids_at hrd)
          have HRD : Hid (frd N.rs rd.i = some rd) := Lib.hid (frd_in HG.out.sr (out_mem hrd))
          obtain ⟨hfb, htb⟩ := end_bd HG.out (out_mem hrd)
          obtain ⟨wn1, wn2, wn3, wn4⟩ := wr_next hfb htb hbd0
          have HNX : Hid ((next N v0)[k]? = some (rd.f + rd.t - v0)) := Lib.hid (next_at hrd)
          have HNI : Hid (rd.f + rd.t - v0 ∈ ids N) := Lib.hid (next_ids HG.out (List.mem_of_getElem? (next_at hrd)))
          clear hrd
          have ce101 := LX.at_ (owns_viewI O100.out) HIX.out
          have uce101 := ce101
          simp only [CI, itc, At, Nat.mul_one, Nat.reduceMul, Nat.zero_add] at uce101
          have ub89 := b89
          simp only [At, Own, Nat.reduceAdd, and_true] at ub89
          have K102 := Lib.hid (fun W (hv : NV W (.agg #[.slice An Nn cn, .slice Ar Nr cr]) N) => road_some N rd rd.i _ W hv HG.out HRD.out)
          go_wp2_with (fail)
          refine calls_named ?_
          intro W7 hW7
          have hL7 : Below wr97.heap.size wr97 W7 := by
            rw [hW7]
            repeat (first | with_reducible exact Below.refl _ _ | with_reducible refine bel_alloc ?_ _ | refine Below.setCell ?_ (by first | (simp; done) | (simp; omega) | omega) _)
          have c103 := b89.up hL7
          have O104 := Lib.hid (TailR.up O98.out hL7)
          have O105 := Lib.hid (SetM.up O99.out hL7)
          have O106 := Lib.hid (owns_up O100.out hL7)
          have hB107 : Below w.heap.size w W7 := by
            rw [hW7]
            repeat (first | with_reducible exact hB96 | with_reducible refine bel_alloc ?_ _ | refine Below.setCell ?_ (by first | (simp; done) | (simp; omega) | omega) _)
          clear hW7 hL7 uce101 ub89 b89
          with_reducible refine (K102.out _ (HNV.out.up hB107)).mono ?_
          rintro e w7 ⟨rfl, hb7⟩
          have c108 := c103.up hb7
          have O109 := Lib.hid (TailR.up O104.out hb7)
          have O110 := Lib.hid (SetM.up O105.out hb7)
          have O111 := Lib.hid (owns_up O106.out hb7)
          have hB112 : Below w.heap.size w w7 := bel_up hB107 hb7
          clear c103 O104 O105 O106
          have f113 : Value.ownBlock u8 ≠ some (w7.heap.size) := fun e_ => by have := (O109.out.lt _ e_).2; omega
          have f114 : Value.ownBlock (mblk W2.heap.size) ≠ some (w7.heap.size) := fun e_ => by have := (O110.out.lt _ e_).2; omega
          have f115 := owns_new0 O111.out
          have ne116_ : w.heap.size < w7.heap.size := by have := c108.lt; omega
          have ne116 := Nat.ne_of_lt ne116_
          have ne116' := ne116.symm
          have uc108 := c108
          simp only [At, Own, Nat.reduceAdd, and_true] at uc108
          by_cases hm123 : ((rd.f + rd.t) - v0) ∈ S2
          · skip
            have hm123_ : decide (((rd.f + rd.t) - v0) ∈ S2) = true := decide_eq_true hm123
            have Hhm123 := Lib.hid hm123
            clear hm123
            go_upto_region 14 with fail
            refine wp_named ?_
            intro W9 hW9
            have hL9 : Below w7.heap.size w7 W9 := by
              rw [hW9]
              repeat (first | with_reducible exact Below.refl _ _ | with_reducible refine bel_alloc ?_ _ | refine Below.setCell ?_ (by first | (simp; done) | (simp; omega) | omega) _)
            have c124 := c108.up hL9
            have c125 : Own W9 (w7.heap.size) 0 [.int .i64 rd.i, .int .i64 rd.f, .int .i64 rd.t, .int .i64 rd.l, .int .i64 rd.m, .bool rd.o] := by
              rw [hW9]
              first
              | (repeat (first | (with_reducible refine own_new (l := [.int .i64 rd.i, .int .i64 rd.f, .int .i64 rd.t, .int .i64 rd.l, .int .i64 rd.m, .bool rd.o]) ?_; (simp; done)) | with_reducible refine Own.alloc ?_ _ | refine Own.far _ _ (by first | (simp; done) | (simp [*]; done) | (simp; omega)) ?_)); done
              | simp [Own, go_sem, uc108, ne116, ne116', ne116_]
            have O126 := Lib.hid (TailR.up O109.out hL9)
            have O127 := Lib.hid (SetM.up O110.out hL9)
            have O128 := Lib.hid (owns_up O111.out hL9)
            have hB129 : Below w.heap.size w W9 := by
              rw [hW9]
              repeat (first | with_reducible exact hB112 | with_reducible refine bel_alloc ?_ _ | refine Below.setCell ?_ (by first | (simp; done) | (simp; omega) | omega) _)
            clear hW9 hL9 uc108 c108
            have uc124 := c124; have uc125 := c125
            simp only [At, Own, Nat.reduceAdd, and_true] at uc124 uc125
            go_wp2_with ((at_lookup; refine wpList_lookup_set rfl _ _ rfl ((rd.f + rd.t) - v0) O127.out (wf_k (by omega)) rfl rfl ?_; rw [hm123_]))
            go_roundw
            case rel => exact ⟨(k + 1), Wt2, S2, (by first | rfl | exact congrArg (Value.int .i64) (by omega) | simp [*]), (by repeat (first | with_reducible exact c124 | refine Own.far _ _ (by simp <;> omega) ?_ | with_reducible refine Own.alloc ?_ _)), (by repeat (first | with_reducible exact O126.out | refine TailR.far ?_ _ (by first | exact f91 | exact f113) _ | with_reducible refine TailR.alloc ?_ _)), f91, (by repeat (first | with_reducible exact O127.out | refine SetM.far ?_ _ (by first | exact f11 | exact f12 | exact f114) _ | with_reducible refine SetM.alloc ?_ _)), (by repeat (first | with_reducible exact O128.out | refine owns_far ?_ _ (by first | exact f82 | exact f115) _ | with_reducible refine World.ownsRow.alloc ?_ _)), ff94, ff95, (by repeat (first | with_reducible exact hB129 | with_reducible refine bel_alloc ?_ _ | refine Below.setCell ?_ (by first | (simp; done) | (simp; omega) | omega) _)), (by omega), Lib.hid (by rw [fold_at HNX.out, HF.out, push_no Hhm123.out]), HWi, HV2, hS2, hW2, hSS⟩
            case measure => simp [intOf] <;> omega
          · skip
            have hm123_ : decide (((rd.f + rd.t) - v0) ∈ S2) = false := decide_eq_false hm123
            have Hhm123 := Lib.hid hm123
            clear hm123
            go_upto_region 14 with fail
            refine wp_named ?_
            intro W10 hW10
            have hL10 : Below w7.heap.size w7 W10 := by
              rw [hW10]
              repeat (first | with_reducible exact Below.refl _ _ | with_reducible refine bel_alloc ?_ _ | refine Below.setCell ?_ (by first | (simp; done) | (simp; omega) | omega) _)
            have c130 := c108.up hL10
            have c131 : Own W10 (w7.heap.size) 0 [.int .i64 rd.i, .int .i64 rd.f, .int .i64 rd.t, .int .i64 rd.l, .int .i64 rd.m, .bool rd.o] := by
              rw [hW10]
              first
              | (repeat (first | (with_reducible refine own_new (l := [.int .i64 rd.i, .int .i64 rd.f, .int .i64 rd.t, .int .i64 rd.l, .int .i64 rd.m, .bool rd.o]) ?_; (simp; done)) | with_reducible refine Own.alloc ?_ _ | refine Own.far _ _ (by first | (simp; done) | (simp [*]; done) | (simp; omega)) ?_)); done
              | simp [Own, go_sem, uc108, ne116, ne116', ne116_]
            have O132 := Lib.hid (TailR.up O109.out hL10)
            have O133 := Lib.hid (SetM.up O110.out hL10)
            have O134 := Lib.hid (owns_up O111.out hL10)
            have hB135 : Below w.heap.size w W10 := by
              rw [hW10]
              repeat (first | with_reducible exact hB112 | with_reducible refine bel_alloc ?_ _ | refine Below.setCell ?_ (by first | (simp; done) | (simp; omega) | omega) _)
            clear hW10 hL10 uc108 c108
            have uc130 := c130; have uc131 := c131
            simp only [At, Own, Nat.reduceAdd, and_true] at uc130 uc131
            go_wp2_with (first | (at_lookup; refine wpList_lookup_set rfl _ _ rfl ((rd.f + rd.t) - v0) O133.out (wf_k (by omega)) rfl rfl ?_; rw [hm123_]) | (at_mapUpdate; refine wpList_update_set rfl _ _ _ (.inl rfl) ((rd.f + rd.t) - v0) O133.out (by simp [maxLen]; omega) (wf_k (by omega)) rfl rfl rfl ?_))
            intro wm136 hm_136 hst136
            rw [show ins S2 ((rd.f + rd.t) - v0) = ((rd.f + rd.t) - v0) :: S2 from if_neg Hhm123.out] at hm_136
            have O137 : Hid (SetM wm136 w.heap.size W2.heap.size (((rd.f + rd.t) - v0) :: S2)) := Lib.hid hm_136
            clear hm_136
            have c138 := Own.step hst136 f11 c130
            have c139 := Own.step hst136 f114 c131
            have O140 := Lib.hid (TailR.step hst136 O132.out ff94')
            have O141 := Lib.hid (owns_step hst136 O134.out ff83)
            have hB142 : Below w.heap.size w wm136 := hst136.below hB135 (hB135).size (fun r hr => (O133.out.lt r hr).1)
            clear uc130 uc131 c130 c131 O132 O134 O133 hB135
            have uc138 := c138; have uc139 := c139
            simp only [At, Own, Nat.reduceAdd, and_true] at uc138 uc139
            go_wp2_with (at_builtin; refine wpList_append_tail rfl _ _ _ rfl ti_it O140.out (hB142).size ((rd.f + rd.t) - v0) rfl rfl rfl (by omega) ?_)
            intro v_143 wt143 ht_143 hst143
            have O144 := Lib.hid ht_143
            clear ht_143
            have c145 := Own.step hst143 f91 c138
            have f146 := hst143.far _ c138.lt f91
            have c147 := Own.step hst143 f113 c139
            have f148 := hst143.far _ c139.lt f113
            have O149 := Lib.hid (owns_step hst143 O141.out ff95)
            have ff150 : FarR (.slice (some ⟨g41, 0, none⟩) n6 c41) v_143 := Step.farR hst143 (fun r hr => (O141.out.lt r hr).2) ff95
            have ff150' := FarR.symm ff150
            have O151 := Lib.hid (SetM.step hst143 O137.out ff94)
            have ff152 : FarR (mblk W2.heap.size) v_143 := Step.farR hst143 (fun r hr => (O137.out.lt r hr).2) ff94
            have ff152' := FarR.symm ff152
            have hB153 : Below w.heap.size w wt143 := hst143.below hB142 (hB142).size (fun r hr => (O140.out.lt r hr).1)
            clear uc138 uc139 c138 c139 O141 O137 O140 hB142
            have uc145 := c145; have uc147 := c147
            simp only [At, Own, Nat.reduceAdd, and_true] at uc145 uc147
            go_wp2
            go_roundw
            case rel => exact ⟨(k + 1), (Wt2 ++ [((rd.f + rd.t) - v0)]), (((rd.f + rd.t) - v0) :: S2), (by first | rfl | exact congrArg (Value.int .i64) (by omega) | simp [*]), (by repeat (first | with_reducible exact c145 | refine Own.far _ _ (by simp <;> omega) ?_ | with_reducible refine Own.alloc ?_ _)), (by repeat (first | with_reducible exact O144.out | refine TailR.far ?_ _ (by first | exact f146 | exact f148) _ | with_reducible refine TailR.alloc ?_ _)), f146, (by repeat (first | with_reducible exact O151.out | refine SetM.far ?_ _ (by first | exact f11 | exact f114) _ | with_reducible refine SetM.alloc ?_ _)), (by repeat (first | with_reducible exact O149.out | refine owns_far ?_ _ (by first | exact f82 | exact f115) _ | with_reducible refine World.ownsRow.alloc ?_ _)), ff152, ff150, (by repeat (first | with_reducible exact hB153 | with_reducible refine bel_alloc ?_ _ | refine Below.setCell ?_ (by first | (simp; done) | (simp; omega) | omega) _)), (by omega), Lib.hid (by rw [fold_at HNX.out, HF.out, push_yes Hhm123.out]), Lib.hid (by have h_ := HWi.out.push (hs_mem HWi.out HV2.out) (List.mem_of_getElem? HNX.out) HNI.out; rwa [push_yes Hhm123.out] at h_), Lib.hid (List.mem_cons_of_mem _ HV2.out), (by have h_ := (show Wl N id (((rd.f + rd.t) - v0) :: S2) (Wt2 ++ [((rd.f + rd.t) - v0)]) (fun x => x = v0) from (by have h_ := HWi.out.push (hs_mem HWi.out HV2.out) (List.mem_of_getElem? HNX.out) HNI.out; rwa [push_yes Hhm123.out] at h_)).len; rw [HNn.out] at h_; omega), (by simp only [List.length_append, List.length_cons, List.length_nil]; omega), (by simp only [List.length_cons]; omega)⟩
            case measure => simp [intOf] <;> omega
        · skip
          have hkN : n6 = k := by omega
          subst hkN
          have ub89 := b89
          simp only [At, Own, Nat.reduceAdd, and_true] at ub89
          go_wp2
          go_roundg (2 * (256 - S2.length) + Wt2.length)
          case rel => exact ⟨Wt2, S2, (by repeat (first | with_reducible exact b89 | refine Own.far _ _ (by simp <;> omega) ?_ | with_reducible refine Own.alloc ?_ _)), (by repeat (first | with_reducible exact O98.out | refine TailR.far ?_ _ (by first | exact f91) _ | with_reducible refine TailR.alloc ?_ _)), f91, (by repeat (first | with_reducible exact O99.out | refine SetM.far ?_ _ (by first | exact f11 | exact f12) _ | with_reducible refine SetM.alloc ?_ _)), ff94, (by repeat (first | with_reducible exact hB96 | with_reducible refine bel_alloc ?_ _ | refine Below.setCell ?_ (by first | (simp; done) | (simp; omega) | omega) _)), Lib.hid (wl_round HW.out (fun x hx => next_ids HG.out hx) (by rw [← HF.out, List.take_of_length_le (by rw [next_len, ← HN41.out]; exact Nat.le_refl _)])), (by omega), hS2, Lib.hid rfl⟩
          case measure => (rw [HGK30.out]; simp only [List.length_cons]; omega)

theorem reach_any (N : Net) (id : Int) (v : Value) (w : World) (h : NV w v N) (g : Vld N) :
    Calls Tryz.prog 24 #[v, .int .i64 id] w fun e w' => ∃ v' n', e = .returned v' ∧ w'.ownsRow w.heap.size 3 1 v' n' (its (reachE N id)) ∧ Below w.heap.size w w' := by
  cases ha : fnd N.ns id with
  | none =>
    refine (reach_none N id v w h g ha).mono ?_
    rintro e w' ⟨rfl, hb⟩
    exact ⟨_, 0, rfl, by unfold reachE; rw [ha]; exact World.ownsRow_nil _ _ _ _, hb⟩
  | some a => exact reach_some N id a v w h g ha
end Go.Proofs.YtldfencaoaikgaaGreatDoor
