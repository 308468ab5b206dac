/-
  The law: the nodes that can be reached.
-/
import Derived.Test.YtldfencaoaikgaaGreatDoorUNi
set_option linter.unusedSimpArgs false
set_option linter.unusedVariables false
namespace Go.Proofs.YtldfencaoaikgaaGreatDoor
open Go Go.RowKit Nw

theorem rstep_at {N : Net} {S : List Int} {i : Nat} {x : Rd} (h : N.rs[i]? = some x) : (N.rs.take (i + 1)).foldl stepR S = stepR ((N.rs.take i).foldl stepR S) x := by
  rw [List.take_add_one, h]; simp [List.foldl_append]
theorem step_a {T : List Int} {x : Rd} (h : x.f ∈ T) : stepA T x = ins T x.t := if_pos h
theorem step_n {T : List Int} {x : Rd} (h : ¬ x.f ∈ T) : stepA T x = T := if_neg h
theorem step_b {T : List Int} {x : Rd} (h : x.t ∈ T) (o : x.o = false) : stepB T x = ins T x.f := if_pos ⟨h, o⟩
theorem step_c {T : List Int} {x : Rd} (h : ¬ x.t ∈ T) : stepB T x = T := if_neg fun q => h q.1
theorem step_d {T : List Int} {x : Rd} (o : x.o = true) : stepB T x = T := if_neg fun q => by rw [o] at q; cases q.2
theorem seen_rounds {N : Net} (g : Vld N) {s : Int} {S : List Int} (h : s ∈ ids N) {k n : Nat} (hn : N.ns.length = n) (hS : S = rounds N n [s]) (hk : n ≤ k) : seenL N S k = reachE N s := by
  subst hn; rw [reachE_rounds g h, hS]; unfold seenL ids; rw [List.take_of_length_le hk]
theorem sn_len {N : Net} (g : Vld N) {s : Int} {S : List Int} (h : Sn N s S) : S.length ≤ 256 := Nat.le_trans h.len g.ln

set_option maxRecDepth 100000 in
theorem lreach_none (N : Net) (id : Int) (v : Value) (w : World) (h : NV w v N) (g : Vld N) (ha : fnd N.ns id = none) :
    Calls Tryz.prog 25 #[v, .int .i64 id] w fun e w' => e = .returned (.slice none 0 0) ∧ Below w.heap.size w w' := by
  have HJ := Lib.hid (fnd_no ha)
  clear ha
  obtain ⟨_, _, rfl, hn, hr⟩ := h
  obtain ⟨An, cn, rfl, hcn, hmn, hxn⟩ := hn.open_
  obtain ⟨Ar, cr, rfl, hcr, hmr, hxr⟩ := hr.open_
  have HNV : Hid (NV w (.agg #[.slice An N.ns.length cn, .slice Ar N.rs.length cr]) N) := Lib.hid ⟨_, _, rfl, hn, hr⟩
  have HXN := Lib.hid hxn
  have HXR := Lib.hid hxr
  have HG := Lib.hid g
  have hln := g.ln
  have hlr := g.lr
  generalize hNn : N.ns.length = Nn at *
  generalize hNr : N.rs.length = Nr at *
  have HNn := Lib.hid hNn
  have HNr := Lib.hid hNr
  clear hn hr hxn hxr g hNn hNr
  go_enter Tryz.func25, Tryz.ntmps25
  have K1 := Lib.hid (fun W (hv : NV W (.agg #[.slice An Nn cn, .slice Ar Nr cr]) N) => lnode_j N id (-1) _ W hv ⟨by rw [HNn.out]; exact hln, by rw [HNr.out]; exact hlr⟩ HJ.out)
  go_wp2_with (fail)
  refine calls_named ?_
  intro W1 hW1
  have hL1 : Below w.heap.size w W1 := by
    rw [hW1]
    repeat (first | with_reducible exact Below.refl _ _ | with_reducible refine bel_alloc ?_ _ | refine Below.setCell ?_ (by first | (simp; done) | (simp; omega) | omega) _)
  have c2 : Own W1 (w.heap.size) 0 [.slice An Nn cn, .slice Ar Nr cr] := by
    rw [hW1]
    first
    | (repeat (first | (with_reducible refine own_new (l := [.slice An Nn cn, .slice Ar Nr cr]) ?_; (simp; done)) | with_reducible refine Own.alloc ?_ _ | refine Own.far _ _ (by first | (simp; done) | (simp [*]; done) | (simp; omega)) ?_)); done
    | simp [Own, go_sem]
  have hB3 : Below w.heap.size w W1 := by
    rw [hW1]
    repeat (first | with_reducible exact Below.refl _ _ | with_reducible refine bel_alloc ?_ _ | refine Below.setCell ?_ (by first | (simp; done) | (simp; omega) | omega) _)
  clear hW1 hL1
  with_reducible refine (K1.out _ (HNV.out.up hB3)).mono ?_
  rintro e w1 ⟨rfl, hb1⟩
  have c4 := c2.up hb1
  have hB5 : Below w.heap.size w w1 := bel_up hB3 hb1
  clear c2
  have uc4 := c4
  simp only [At, Own, Nat.reduceAdd, and_true] at uc4
  go_wp2
  go_ret
  refine ⟨rfl, ?_⟩
  repeat (first | with_reducible exact hB5 | with_reducible refine bel_alloc ?_ _ | refine Below.setCell ?_ (by first | (simp; done) | (simp; omega) | omega) _)

set_option maxRecDepth 100000 in
set_option maxHeartbeats 4000000 in
theorem lreach_some (N : Net) (id : Int) (a : Nd) (j : Nat) (v : Value) (w : World) (h : NV w v N) (g : Vld N) (ha : fnd N.ns id = some a) (hj : idxN N.ns id = j) :
    Calls Tryz.prog 25 #[v, .int .i64 id] w fun e w' => ∃ v' n', e = .returned v' ∧ w'.ownsRow w.heap.size 3 1 v' n' (its (reachE N id)) ∧ Below w.heap.size w w' := by
  have hidb := id_bd g (fnd_ids ha)
  have HI := Lib.hid (fnd_ids ha)
  have HJ := Lib.hid hj
  have i0j : ¬ (j : Int) < 0 := by omega
  have i2j : (0 : Int) ≤ j := by omega
  clear ha hj
  obtain ⟨_, _, rfl, hn, hr⟩ := h
  obtain ⟨An, cn, rfl, hcn, hmn, hxn⟩ := hn.open_
  obtain ⟨Ar, cr, rfl, hcr, hmr, hxr⟩ := hr.open_
  have HNV : Hid (NV w (.agg #[.slice An N.ns.length cn, .slice Ar N.rs.length cr]) N) := Lib.hid ⟨_, _, rfl, hn, hr⟩
  have HXN := Lib.hid hxn
  have HXR := Lib.hid hxr
  have HG := Lib.hid g
  have hln := g.ln
  have hlr := g.lr
  generalize hNn : N.ns.length = Nn at *
  generalize hNr : N.rs.length = Nr at *
  have HNn := Lib.hid hNn
  have HNr := Lib.hid hNr
  clear hn hr hxn hxr g hNn hNr
  go_enter Tryz.func25, Tryz.ntmps25
  have K1 := Lib.hid (fun W (hv : NV W (.agg #[.slice An Nn cn, .slice Ar Nr cr]) N) => lnode_j N id j _ W hv ⟨by rw [HNn.out]; exact hln, by rw [HNr.out]; exact hlr⟩ HJ.out)
  go_wp2_with (fail)
  refine calls_named ?_
  intro W1 hW1
  have hL1 : Below w.heap.size w W1 := by
    rw [hW1]
    repeat (first | with_reducible exact Below.refl _ _ | with_reducible refine bel_alloc ?_ _ | refine Below.setCell ?_ (by first | (simp; done) | (simp; omega) | omega) _)
  have c2 : Own W1 (w.heap.size) 0 [.slice An Nn cn, .slice Ar Nr cr] := by
    rw [hW1]
    first
    | (repeat (first | (with_reducible refine own_new (l := [.slice An Nn cn, .slice Ar Nr cr]) ?_; (simp; done)) | with_reducible refine Own.alloc ?_ _ | refine Own.far _ _ (by first | (simp; done) | (simp [*]; done) | (simp; omega)) ?_)); done
    | simp [Own, go_sem]
  have hB3 : Below w.heap.size w W1 := by
    rw [hW1]
    repeat (first | with_reducible exact Below.refl _ _ | with_reducible refine bel_alloc ?_ _ | refine Below.setCell ?_ (by first | (simp; done) | (simp; omega) | omega) _)
  clear hW1 hL1
  with_reducible refine (K1.out _ (HNV.out.up hB3)).mono ?_
  rintro e w1 ⟨rfl, hb1⟩
  have c4 := c2.up hb1
  have hB5 : Below w.heap.size w w1 := bel_up hB3 hb1
  clear c2
  go_upto_region 3 with fail
  have uc4 := c4
  simp only [At, Own, Nat.reduceAdd, and_true] at uc4
  have hmm6 := @run_makeMap Tryz.prog
  go_wp2_with (refine wpList_update_set rfl _ _ _ (.inr rfl) id (sm_made w1 (hB5).size) (by simp [maxLen]) (wf_k (by omega)) rfl rfl rfl ?_)
  intro wm6 hm_6 hst6
  clear hmm6
  have hb_6 : Below w1.heap.size w1 wm6 := hst6.below ((Below.refl _ _).alloc (Nat.le_refl _) _) (by simp) (fun r hr => by have := mblk_block.1 hr; omega)
  have f7 : Value.ownBlock (mblk w1.heap.size) ≠ some (w.heap.size) := fun e_ => by have := mblk_block.1 e_; have := c4.lt; omega
  have OS6 : Hid (SetM wm6 w.heap.size w1.heap.size ([id])) := Lib.hid hm_6
  clear hm_6
  have c8 := c4.up hb_6
  have hB9 : Below w.heap.size w wm6 := bel_up hB5 hb_6
  clear uc4 c4
  go_wp2_with fail
  go_loopw [6] (fun s6 wr => ∃ (k : Nat) (S : List Int), s6 = .int .i64 k ∧ Own wr (w.heap.size) 0 [.slice An Nn cn, .slice Ar Nr cr] ∧ SetM wr w.heap.size w1.heap.size S ∧ Below w.heap.size w wr ∧ k ≤ Nn ∧ Hid (S = rounds N k [id]) ∧ Hid (Sn N id S)) (fun s6 _ => Nn - (intOf s6).toNat)
  case atStart => exact ⟨0, ([id]), rfl, c8, OS6.out, hB9, (by omega), Lib.hid rfl, Lib.hid (rounds_sn HG.out HI.out 0)⟩
  case round =>
    clear c8 hB9 OS6
    obtain ⟨k, S, rfl, b10, o11, hB12, hk, HR, HS⟩ := hrel
    obtain ⟨wr13, hwr13⟩ : ∃ W_, W_ = wr := ⟨_, rfl⟩
    subst hwr13
    have O14 := Lib.hid o11
    clear o11
    by_cases hltk : k < Nn
    · skip
      have i1k : (k : Int) < Nn := by omega
      have ub10 := b10
      simp only [At, Own, Nat.reduceAdd, and_true] at ub10
      go_wp2_with fail
      go_loopw [7] (fun s7 wr => ∃ (i : Nat) (T : List Int), s7 = .int .i64 i ∧ Own wr (w.heap.size) 0 [.slice An Nn cn, .slice Ar Nr cr] ∧ SetM wr w.heap.size w1.heap.size T ∧ Below w.heap.size w wr ∧ i ≤ Nr ∧ Hid (T = (N.rs.take i).foldl stepR S) ∧ Hid (Sn N id T)) (fun s7 _ => Nr - (intOf s7).toNat)
      case atStart => exact ⟨0, S, rfl, b10, O14.out, hB12, (by omega), Lib.hid rfl, HS⟩
      case round =>
        clear b10 hB12 ub10 O14
        obtain ⟨i, T, rfl, b15, o16, hB17, hi, HE, HT⟩ := hrel
        obtain ⟨wr18, hwr18⟩ : ∃ W_, W_ = wr := ⟨_, rfl⟩
        subst hwr18
        have O19 := Lib.hid o16
        clear o16
        by_cases hlti : i < Nr
        · skip
          have i1i : (i : Int) < Nr := by omega
          obtain ⟨x20, hx21⟩ : ∃ x, N.rs[i]? = some x := ⟨_, List.getElem?_eq_getElem (by rw [HNr.out]; omega)⟩
          have Hhx21 := Lib.hid hx21
          clear hx21
          obtain ⟨hfb, htb⟩ := end_bd HG.out (List.mem_of_getElem? Hhx21.out)
          have hlT := sn_len HG.out HT.out
          have HMX := Lib.hid (List.mem_of_getElem? Hhx21.out)
          have ub15 := b15
          simp only [At, Own, Nat.reduceAdd, and_true] at ub15
          obtain ⟨g23, o24, ha25, -⟩ := (HXR.out).up kpR hB17 _ _ Hhx21.out
          subst ha25
          have ce22 := LX.at_ ((HXR.out).up kpR hB17) Hhx21.out
          have ce22_ : g23 < wr18.heap.size := World.block_lt_of_cell? _ _ ce22.1
          have uce22 := ce22
          simp only [CR, rdc, At, Nat.reduceMul] at uce22
          have f26 : Value.ownBlock (mblk w1.heap.size) ≠ some (wr18.heap.size) := fun e_ => by have := (O19.out.lt _ e_).2; omega
          have ne27_ : w.heap.size < wr18.heap.size := by have := b15.lt; omega
          have ne27 := Nat.ne_of_lt ne27_
          have ne27' := ne27.symm
          by_cases hm32 : x20.f ∈ T
          · skip
            have hm32_ : decide (x20.f ∈ T) = true := decide_eq_true hm32
            have Hhm32 := Lib.hid hm32
            clear hm32
            go_upto_region 11 with fail
            refine wp_named ?_
            intro W3 hW3
            have hL3 : Below wr18.heap.size wr18 W3 := by
              rw [hW3]
              repeat (first | with_reducible exact Below.refl _ _ | with_reducible refine bel_alloc ?_ _ | refine Below.setCell ?_ (by first | (simp; done) | (simp; omega) | omega) _)
            have c33 := b15.up hL3
            have c34 : Own W3 (wr18.heap.size) 0 [.int .i64 x20.i, .int .i64 x20.f, .int .i64 x20.t, .int .i64 x20.l, .int .i64 x20.m, .bool x20.o] := by
              rw [hW3]
              first
              | (repeat (first | (with_reducible refine own_new (l := [.int .i64 x20.i, .int .i64 x20.f, .int .i64 x20.t, .int .i64 x20.l, .int .i64 x20.m, .bool x20.o]) ?_; (simp; done)) | with_reducible refine Own.alloc ?_ _ | refine Own.far _ _ (by first | (simp; done) | (simp [*]; done) | (simp; omega)) ?_)); done
              | simp [Own, go_sem, ub15, uce22, ne27, ne27', ne27_]
            have O35 := Lib.hid (SetM.up O19.out hL3)
            have hB36 : Below w.heap.size w W3 := by
              rw [hW3]
              repeat (first | with_reducible exact hB17 | with_reducible refine bel_alloc ?_ _ | refine Below.setCell ?_ (by first | (simp; done) | (simp; omega) | omega) _)
            clear hW3 hL3 ub15 uce22 b15
            have uc33 := c33; have uc34 := c34
            simp only [At, Own, Nat.reduceAdd, and_true] at uc33 uc34
            go_wp2_with (first | (at_lookup; refine wpList_lookup_set rfl _ _ rfl x20.f O35.out (wf_k (by omega)) rfl rfl ?_; rw [hm32_]) | (at_mapUpdate; refine wpList_update_set rfl _ _ _ (.inl rfl) x20.t O35.out (by simp [maxLen]; omega) (wf_k (by omega)) rfl rfl rfl ?_))
            intro wm37 hm_37 hst37
            have O38 : Hid (SetM wm37 w.heap.size w1.heap.size (ins T x20.t)) := Lib.hid hm_37
            clear hm_37
            have c39 := Own.step hst37 f7 c33
            have c40 := Own.step hst37 f26 c34
            have hB41 : Below w.heap.size w wm37 := hst37.below hB36 (hB36).size (fun r hr => (O35.out.lt r hr).1)
            clear uc33 uc34 c33 c34 O35 hB36
            by_cases hm42 : x20.t ∈ (ins T x20.t)
            · skip
              have hm42_ : decide (x20.t ∈ (ins T x20.t)) = true := decide_eq_true hm42
              have Hhm42 := Lib.hid hm42
              clear hm42
              have uc39 := c39; have uc40 := c40
              simp only [At, Own, Nat.reduceAdd, and_true] at uc39 uc40
              rcases hb43 : x20.o with _ | _
              · skip
                have hlT1 : (ins T x20.t).length ≤ 256 := sn_len HG.out (by have e_ := HT.out.stepA HG.out HMX.out; rwa [step_a Hhm32.out] at e_)
                go_wp2_with (first | (at_lookup; refine wpList_lookup_set rfl _ _ rfl x20.t O38.out (wf_k (by omega)) rfl rfl ?_; rw [hm42_]) | (at_mapUpdate; refine wpList_update_set rfl _ _ _ (.inl rfl) x20.f O38.out (by simp [maxLen]; omega) (wf_k (by omega)) rfl rfl rfl ?_))
                intro wm44 hm_44 hst44
                have O45 : Hid (SetM wm44 w.heap.size w1.heap.size (ins (ins T x20.t) x20.f)) := Lib.hid hm_44
                clear hm_44
                have c46 := Own.step hst44 f7 c39
                have c47 := Own.step hst44 f26 c40
                have hB48 : Below w.heap.size w wm44 := hst44.below hB41 (hB41).size (fun r hr => (O38.out.lt r hr).1)
                clear uc39 uc40 c39 c40 O38 hB41
                have uc46 := c46; have uc47 := c47
                simp only [At, Own, Nat.reduceAdd, and_true] at uc46 uc47
                go_wp2
                go_roundw
                case rel => exact ⟨(i + 1), (ins (ins T x20.t) x20.f), (by first | rfl | exact congrArg (Value.int .i64) (by omega) | simp [*]), (by repeat (first | with_reducible exact c46 | refine Own.far _ _ (by simp <;> omega) ?_ | with_reducible refine Own.alloc ?_ _)), (by repeat (first | with_reducible exact O45.out | refine SetM.far ?_ _ (by first | exact f7 | exact f26) _ | with_reducible refine SetM.alloc ?_ _)), (by repeat (first | with_reducible exact hB48 | with_reducible refine bel_alloc ?_ _ | refine Below.setCell ?_ (by first | (simp; done) | (simp; omega) | omega) _)), (by omega), Lib.hid (by rw [rstep_at Hhx21.out, ← HE.out, (show stepR T x20 = (ins (ins T x20.t) x20.f) from by unfold stepR; rw [step_a Hhm32.out, step_b Hhm42.out hb43])]), Lib.hid (by have e_ := HT.out.stepR HG.out HMX.out; rwa [(show stepR T x20 = (ins (ins T x20.t) x20.f) from by unfold stepR; rw [step_a Hhm32.out, step_b Hhm42.out hb43])] at e_)⟩
                case measure => simp [intOf] <;> omega
              · skip
                go_wp2_with ((at_lookup; refine wpList_lookup_set rfl _ _ rfl x20.t O38.out (wf_k (by omega)) rfl rfl ?_; rw [hm42_]))
                go_roundw
                case rel => exact ⟨(i + 1), (ins T x20.t), (by first | rfl | exact congrArg (Value.int .i64) (by omega) | simp [*]), (by repeat (first | with_reducible exact c39 | refine Own.far _ _ (by simp <;> omega) ?_ | with_reducible refine Own.alloc ?_ _)), (by repeat (first | with_reducible exact O38.out | refine SetM.far ?_ _ (by first | exact f7 | exact f26) _ | with_reducible refine SetM.alloc ?_ _)), (by repeat (first | with_reducible exact hB41 | with_reducible refine bel_alloc ?_ _ | refine Below.setCell ?_ (by first | (simp; done) | (simp; omega) | omega) _)), (by omega), Lib.hid (by rw [rstep_at Hhx21.out, ← HE.out, (show stepR T x20 = (ins T x20.t) from by unfold stepR; rw [step_a Hhm32.out, step_d hb43])]), Lib.hid (by have e_ := HT.out.stepR HG.out HMX.out; rwa [(show stepR T x20 = (ins T x20.t) from by unfold stepR; rw [step_a Hhm32.out, step_d hb43])] at e_)⟩
                case measure => simp [intOf] <;> omega
            · skip
              have hm42_ : decide (x20.t ∈ (ins T x20.t)) = false := decide_eq_false hm42
              have Hhm42 := Lib.hid hm42
              clear hm42
              have uc39 := c39; have uc40 := c40
              simp only [At, Own, Nat.reduceAdd, and_true] at uc39 uc40
              go_wp2_with ((at_lookup; refine wpList_lookup_set rfl _ _ rfl x20.t O38.out (wf_k (by omega)) rfl rfl ?_; rw [hm42_]))
              go_roundw
              case rel => exact ⟨(i + 1), (ins T x20.t), (by first | rfl | exact congrArg (Value.int .i64) (by omega) | simp [*]), (by repeat (first | with_reducible exact c39 | refine Own.far _ _ (by simp <;> omega) ?_ | with_reducible refine Own.alloc ?_ _)), (by repeat (first | with_reducible exact O38.out | refine SetM.far ?_ _ (by first | exact f7 | exact f26) _ | with_reducible refine SetM.alloc ?_ _)), (by repeat (first | with_reducible exact hB41 | with_reducible refine bel_alloc ?_ _ | refine Below.setCell ?_ (by first | (simp; done) | (simp; omega) | omega) _)), (by omega), Lib.hid (by rw [rstep_at Hhx21.out, ← HE.out, (show stepR T x20 = (ins T x20.t) from by unfold stepR; rw [step_a Hhm32.out, step_c Hhm42.out])]), Lib.hid (by have e_ := HT.out.stepR HG.out HMX.out; rwa [(show stepR T x20 = (ins T x20.t) from by unfold stepR; rw [step_a Hhm32.out, step_c Hhm42.out])] at e_)⟩
              case measure => simp [intOf] <;> omega
          · skip
            have hm32_ : decide (x20.f ∈ T) = false := decide_eq_false hm32
            have Hhm32 := Lib.hid hm32
            clear hm32
            go_upto_region 11 with fail
            refine wp_named ?_
            intro W4 hW4
            have hL4 : Below wr18.heap.size wr18 W4 := by
              rw [hW4]
              repeat (first | with_reducible exact Below.refl _ _ | with_reducible refine bel_alloc ?_ _ | refine Below.setCell ?_ (by first | (simp; done) | (simp; omega) | omega) _)
            have c49 := b15.up hL4
            have c50 : Own W4 (wr18.heap.size) 0 [.int .i64 x20.i, .int .i64 x20.f, .int .i64 x20.t, .int .i64 x20.l, .int .i64 x20.m, .bool x20.o] := by
              rw [hW4]
              first
              | (repeat (first | (with_reducible refine own_new (l := [.int .i64 x20.i, .int .i64 x20.f, .int .i64 x20.t, .int .i64 x20.l, .int .i64 x20.m, .bool x20.o]) ?_; (simp; done)) | with_reducible refine Own.alloc ?_ _ | refine Own.far _ _ (by first | (simp; done) | (simp [*]; done) | (simp; omega)) ?_)); done
              | simp [Own, go_sem, ub15, uce22, ne27, ne27', ne27_]
            have O51 := Lib.hid (SetM.up O19.out hL4)
            have hB52 : Below w.heap.size w W4 := by
              rw [hW4]
              repeat (first | with_reducible exact hB17 | with_reducible refine bel_alloc ?_ _ | refine Below.setCell ?_ (by first | (simp; done) | (simp; omega) | omega) _)
            clear hW4 hL4 ub15 uce22 b15
            have uc49 := c49; have uc50 := c50
            simp only [At, Own, Nat.reduceAdd, and_true] at uc49 uc50
            by_cases hm53 : x20.t ∈ T
            · skip
              have hm53_ : decide (x20.t ∈ T) = true := decide_eq_true hm53
              have Hhm53 := Lib.hid hm53
              clear hm53
              go_upto_region 13 with ((at_lookup; refine wpList_lookup_set rfl _ _ rfl x20.f O51.out (wf_k (by omega)) rfl rfl ?_; rw [hm32_]))
              rcases hb54 : x20.o with _ | _
              · skip
                go_wp2_with (first | (at_lookup; refine wpList_lookup_set rfl _ _ rfl x20.t O51.out (wf_k (by omega)) rfl rfl ?_; rw [hm53_]) | (at_mapUpdate; refine wpList_update_set rfl _ _ _ (.inl rfl) x20.f O51.out (by simp [maxLen]; omega) (wf_k (by omega)) rfl rfl rfl ?_))
                intro wm55 hm_55 hst55
                rw [show ins T x20.f = x20.f :: T from if_neg Hhm32.out] at hm_55
                have O56 : Hid (SetM wm55 w.heap.size w1.heap.size (x20.f :: T)) := Lib.hid hm_55
                clear hm_55
                have c57 := Own.step hst55 f7 c49
                have c58 := Own.step hst55 f26 c50
                have hB59 : Below w.heap.size w wm55 := hst55.below hB52 (hB52).size (fun r hr => (O51.out.lt r hr).1)
                clear uc49 uc50 c49 c50 O51 hB52
                have uc57 := c57; have uc58 := c58
                simp only [At, Own, Nat.reduceAdd, and_true] at uc57 uc58
                go_wp2
                go_roundw
                case rel => exact ⟨(i + 1), (x20.f :: T), (by first | rfl | exact congrArg (Value.int .i64) (by omega) | simp [*]), (by repeat (first | with_reducible exact c57 | refine Own.far _ _ (by simp <;> omega) ?_ | with_reducible refine Own.alloc ?_ _)), (by repeat (first | with_reducible exact O56.out | refine SetM.far ?_ _ (by first | exact f7 | exact f26) _ | with_reducible refine SetM.alloc ?_ _)), (by repeat (first | with_reducible exact hB59 | with_reducible refine bel_alloc ?_ _ | refine Below.setCell ?_ (by first | (simp; done) | (simp; omega) | omega) _)), (by omega), Lib.hid (by rw [rstep_at Hhx21.out, ← HE.out, (show stepR T x20 = (x20.f :: T) from by unfold stepR; rw [step_n Hhm32.out, step_b Hhm53.out hb54, show ins T x20.f = x20.f :: T from if_neg Hhm32.out])]), Lib.hid (by have e_ := HT.out.stepR HG.out HMX.out; rwa [(show stepR T x20 = (x20.f :: T) from by unfold stepR; rw [step_n Hhm32.out, step_b Hhm53.out hb54, show ins T x20.f = x20.f :: T from if_neg Hhm32.out])] at e_)⟩
                case measure => simp [intOf] <;> omega
              · skip
                go_wp2_with ((at_lookup; refine wpList_lookup_set rfl _ _ rfl x20.t O51.out (wf_k (by omega)) rfl rfl ?_; rw [hm53_]))
                go_roundw
                case rel => exact ⟨(i + 1), T, (by first | rfl | exact congrArg (Value.int .i64) (by omega) | simp [*]), (by repeat (first | with_reducible exact c49 | refine Own.far _ _ (by simp <;> omega) ?_ | with_reducible refine Own.alloc ?_ _)), (by repeat (first | with_reducible exact O51.out | refine SetM.far ?_ _ (by first | exact f7 | exact f26) _ | with_reducible refine SetM.alloc ?_ _)), (by repeat (first | with_reducible exact hB52 | with_reducible refine bel_alloc ?_ _ | refine Below.setCell ?_ (by first | (simp; done) | (simp; omega) | omega) _)), (by omega), Lib.hid (by rw [rstep_at Hhx21.out, ← HE.out, (show stepR T x20 = T from by unfold stepR; rw [step_n Hhm32.out, step_d hb54])]), Lib.hid (by have e_ := HT.out.stepR HG.out HMX.out; rwa [(show stepR T x20 = T from by unfold stepR; rw [step_n Hhm32.out, step_d hb54])] at e_)⟩
                case measure => simp [intOf] <;> omega
            · skip
              have hm53_ : decide (x20.t ∈ T) = false := decide_eq_false hm53
              have Hhm53 := Lib.hid hm53
              clear hm53
              go_upto_region 13 with ((at_lookup; refine wpList_lookup_set rfl _ _ rfl x20.f O51.out (wf_k (by omega)) rfl rfl ?_; rw [hm32_]))
              go_wp2_with ((at_lookup; refine wpList_lookup_set rfl _ _ rfl x20.t O51.out (wf_k (by omega)) rfl rfl ?_; rw [hm53_]))
              go_roundw
              case rel => exact ⟨(i + 1), T, (by first | rfl | exact congrArg (Value.int .i64) (by omega) | simp [*]), (by repeat (first | with_reducible exact c49 | refine Own.far _ _ (by simp <;> omega) ?_ | with_reducible refine Own.alloc ?_ _)), (by repeat (first | with_reducible exact O51.out | refine SetM.far ?_ _ (by first | exact f7 | exact f26) _ | with_reducible refine SetM.alloc ?_ _)), (by repeat (first | with_reducible exact hB52 | with_reducible refine bel_alloc ?_ _ | refine Below.setCell ?_ (by first | (simp; done) | (simp; omega) | omega) _)), (by omega), Lib.hid (by rw [rstep_at Hhx21.out, ← HE.out, (show stepR T x20 = T from by unfold stepR; rw [step_n Hhm32.out, step_c Hhm53.out])]), Lib.hid (by have e_ := HT.out.stepR HG.out HMX.out; rwa [(show stepR T x20 = T from by unfold stepR; rw [step_n Hhm32.out, step_c Hhm53.out])] at e_)⟩
              case measure => simp [intOf] <;> omega
        · skip
          have hkN : Nr = i := by omega
          subst hkN
          have ub15 := b15
          simp only [At, Own, Nat.reduceAdd, and_true] at ub15
          go_wp2
          go_roundw
          case rel => exact ⟨(k + 1), T, (by first | rfl | exact congrArg (Value.int .i64) (by omega) | simp [*]), (by repeat (first | with_reducible exact b15 | refine Own.far _ _ (by simp <;> omega) ?_ | with_reducible refine Own.alloc ?_ _)), (by repeat (first | with_reducible exact O19.out | refine SetM.far ?_ _ (by first | exact f7) _ | with_reducible refine SetM.alloc ?_ _)), (by repeat (first | with_reducible exact hB17 | with_reducible refine bel_alloc ?_ _ | refine Below.setCell ?_ (by first | (simp; done) | (simp; omega) | omega) _)), (by omega), Lib.hid (by rw [HE.out, List.take_of_length_le (by rw [HNr.out]; omega), HR.out]; rfl), HT⟩
          case measure => simp [intOf] <;> omega
    · skip
      have hkO : Nn = k := by omega
      have i1k : ¬ (k : Int) < Nn := by omega
      have ub10 := b10
      simp only [At, Own, Nat.reduceAdd, and_true] at ub10
      go_wp2_with fail
      go_loopw [9, 10] (fun s9 s10 wr => ∃ (y : Nat) (n : Nat) (L : List Int), s10 = .int .i64 y ∧ Own wr (w.heap.size) 0 [.slice An Nn cn, .slice Ar Nr cr] ∧ wr.ownsRow w.heap.size 3 1 s9 n (its L) ∧ Value.ownBlock s9 ≠ some (w.heap.size) ∧ SetM wr w.heap.size w1.heap.size S ∧ FarR (mblk w1.heap.size) s9 ∧ Below w.heap.size w wr ∧ y ≤ Nn ∧ n ≤ y ∧ Hid (L = seenL N S y)) (fun _ s10 _ => Nn - (intOf s10).toNat)
      case atStart => exact ⟨0, 0, ([]), rfl, b10, World.ownsRow_nil _ _ _ _, by simp [Value.ownBlock], O14.out, (fun r_ _ h_ => by cases h_), hB12, (by omega), (by omega), Lib.hid rfl⟩
      case round =>
        clear b10 hB12 ub10 O14
        obtain ⟨y, n, L, rfl, b60, o61, f62, o63, ff64, hB65, hy, hn, HL⟩ := hrel
        obtain ⟨wr66, hwr66⟩ : ∃ W_, W_ = wr := ⟨_, rfl⟩
        subst hwr66
        have O67 := Lib.hid o61
        clear o61
        have O68 := Lib.hid o63
        clear o63
        have ff64' := FarR.symm ff64
        by_cases hlty : y < Nn
        · skip
          have i1y : (y : Int) < Nn := by omega
          obtain ⟨x69, hx70⟩ : ∃ x, N.ns[y]? = some x := ⟨_, List.getElem?_eq_getElem (by rw [HNn.out]; omega)⟩
          have Hhx70 := Lib.hid hx70
          clear hx70
          have hxb := id_bd HG.out (show x69.i ∈ ids N from List.mem_map.2 ⟨_, List.mem_of_getElem? Hhx70.out, rfl⟩)
          have ub60 := b60
          simp only [At, Own, Nat.reduceAdd, and_true] at ub60
          by_cases hm75 : x69.i ∈ S
          · skip
            have hm75_ : decide (x69.i ∈ S) = true := decide_eq_true hm75
            have Hhm75 := Lib.hid hm75
            clear hm75
            obtain ⟨g77, o78, ha79, -⟩ := (HXN.out).up kpN hB65 _ _ Hhx70.out
            subst ha79
            have ce76 := LX.at_ ((HXN.out).up kpN hB65) Hhx70.out
            have ce76_ : g77 < wr66.heap.size := World.block_lt_of_cell? _ _ ce76.1
            have uce76 := ce76
            simp only [CN, ndc, At, Nat.reduceMul] at uce76
            go_wp2_with (first | (at_lookup; refine wpList_lookup_set rfl _ _ rfl x69.i O68.out (wf_k (by omega)) rfl rfl ?_; rw [hm75_]) | (at_builtin; refine wpList_appF rfl _ _ _ rfl ti_it O67.out (hB65).size rfl rfl rfl rfl (itc_one x69.i) (by omega) (by decide) ?_))
            intro v80 w_v80 hown_v80 hst_v80
            have O82 : Hid (w_v80.ownsRow w.heap.size 3 1 v80 ((n + 1)) (its (L ++ [x69.i]))) := Lib.hid (by rw [its_snoc]; exact hown_v80)
            have c83 := Own.step hst_v80 f62 b60
            have f84 := hst_v80.far _ b60.lt f62
            have O85 := Lib.hid (SetM.step hst_v80 O68.out ff64)
            have ff86 : FarR (mblk w1.heap.size) v80 := Step.farR hst_v80 (fun r hr => (O68.out.lt r hr).2) ff64
            have ff86' := FarR.symm ff86
            have hB87 : Below w.heap.size w w_v80 := hst_v80.below hB65 (hB65).size (fun r hr => (O67.out.lt r hr).1)
            clear ub60 uce76 hown_v80 b60 O68
            have uc83 := c83
            simp only [At, Own, Nat.reduceAdd, and_true] at uc83
            go_wp2
            go_roundw
            case rel => exact ⟨(y + 1), (n + 1), (L ++ [x69.i]), (by first | rfl | exact congrArg (Value.int .i64) (by omega) | simp [*]), (by repeat (first | with_reducible exact c83 | refine Own.far _ _ (by simp <;> omega) ?_ | with_reducible refine Own.alloc ?_ _)), (by repeat (first | with_reducible exact O82.out | refine owns_far ?_ _ (by first | exact f84) _ | with_reducible refine World.ownsRow.alloc ?_ _)), f84, (by repeat (first | with_reducible exact O85.out | refine SetM.far ?_ _ (by first | exact f7) _ | with_reducible refine SetM.alloc ?_ _)), ff86, (by repeat (first | with_reducible exact hB87 | with_reducible refine bel_alloc ?_ _ | refine Below.setCell ?_ (by first | (simp; done) | (simp; omega) | omega) _)), (by omega), (by omega), Lib.hid (by rw [seen_yes Hhx70.out Hhm75.out, HL.out])⟩
            case measure => simp [intOf] <;> omega
          · skip
            have hm75_ : decide (x69.i ∈ S) = false := decide_eq_false hm75
            have Hhm75 := Lib.hid hm75
            clear hm75
            obtain ⟨g89, o90, ha91, -⟩ := (HXN.out).up kpN hB65 _ _ Hhx70.out
            subst ha91
            have ce88 := LX.at_ ((HXN.out).up kpN hB65) Hhx70.out
            have ce88_ : g89 < wr66.heap.size := World.block_lt_of_cell? _ _ ce88.1
            have uce88 := ce88
            simp only [CN, ndc, At, Nat.reduceMul] at uce88
            go_wp2_with ((at_lookup; refine wpList_lookup_set rfl _ _ rfl x69.i O68.out (wf_k (by omega)) rfl rfl ?_; rw [hm75_]))
            go_roundw
            case rel => exact ⟨(y + 1), n, L, (by first | rfl | exact congrArg (Value.int .i64) (by omega) | simp [*]), (by repeat (first | with_reducible exact b60 | refine Own.far _ _ (by simp <;> omega) ?_ | with_reducible refine Own.alloc ?_ _)), (by repeat (first | with_reducible exact O67.out | refine owns_far ?_ _ (by first | exact f62) _ | with_reducible refine World.ownsRow.alloc ?_ _)), f62, (by repeat (first | with_reducible exact O68.out | refine SetM.far ?_ _ (by first | exact f7) _ | with_reducible refine SetM.alloc ?_ _)), ff64, (by repeat (first | with_reducible exact hB65 | with_reducible refine bel_alloc ?_ _ | refine Below.setCell ?_ (by first | (simp; done) | (simp; omega) | omega) _)), (by omega), (by omega), Lib.hid (by rw [seen_no Hhx70.out Hhm75.out, HL.out])⟩
            case measure => simp [intOf] <;> omega
        · skip
          have hkN : Nn = y := by omega
          subst hkN
          have ub60 := b60
          simp only [At, Own, Nat.reduceAdd, and_true] at ub60
          go_wp2
          go_ret
          exact ⟨_, _, rfl, (by rw [← seen_rounds (S := S) HG.out HI.out HNn.out (by rw [HR.out, hkO]) (Nat.le_refl _), ← HL.out]; exact O67.out), (by repeat (first | with_reducible exact hB65 | with_reducible refine bel_alloc ?_ _ | refine Below.setCell ?_ (by first | (simp; done) | (simp; omega) | omega) _))⟩

theorem lreach_any (N : Net) (id : Int) (v : Value) (w : World) (h : NV w v N) (g : Vld N) :
    Calls Tryz.prog 25 #[v, .int .i64 id] w fun e w' => ∃ v' n', e = .returned v' ∧ w'.ownsRow w.heap.size 3 1 v' n' (its (reachE N id)) ∧ Below w.heap.size w w' := by
  cases ha : fnd N.ns id with
  | none =>
    refine (lreach_none N id v w h g ha).mono ?_
    rintro e w' ⟨rfl, hb⟩
    exact ⟨_, 0, rfl, by unfold reachE; rw [ha]; exact World.ownsRow_nil _ _ _ _, hb⟩
  | some a =>
    obtain ⟨j, hj, _⟩ := fnd_idx ha
    exact lreach_some N id a j v w h g ha hj
end Go.Proofs.YtldfencaoaikgaaGreatDoor
