/-
  Maps of the call's own that are sets of numbers; rows of numbers of the call's own from some place of their block on.
-/
import Derived.Test.YtldfencaoaikgaaGreatDoorUNa
import Derived.Test.YtldfencaoaikgaaGreatDoorUMp
import Derived.Maps.OwnSet
set_option linter.unusedSimpArgs false
set_option linter.unusedVariables false
namespace Go.Proofs.YtldfencaoaikgaaGreatDoor
open Go Go.RowKit Go.Maps Nw

/-- The rows lie in different blocks. -/
def FarR (u v : Value) : Prop := ∀ r, u.ownBlock = some r → v.ownBlock ≠ some r
theorem FarR.symm {u v : Value} (h : FarR u v) : FarR v u := fun r h1 h2 => h r h2 h1
theorem FarR.of {B : Nat} {u v : Value} (h : ∀ r, v.ownBlock = some r → B ≤ r) (h' : ∀ r, u.ownBlock = some r → r < B) : FarR v u := fun r h1 h2 => by
  have := h r h1; have := h' r h2; omega
theorem far_new {w w' : World} {e e' : TypeId} {k k' n n' : Nat} {v u : Value} {xs xs' : List Value} (h : w'.ownsRow w.heap.size e k v n xs) {base : Nat} (h' : w.ownsRow base e' k' u n' xs') : FarR v u :=
  .of (fun r hr => (h.lt r hr).1) fun r hr => (h'.lt r hr).2
theorem Step.farR {W w' : World} {v v' u : Value} (s : Step W w' v v') (h : ∀ r, u.ownBlock = some r → r < W.heap.size) (hf : FarR u v) : FarR u v' := fun r hr => s.far r (h r hr) (hf r hr)
theorem FarR.step {W w' : World} {v v' u : Value} (s : Step W w' v v') {base k n : Nat} {e : TypeId} {xs : List Value} (h : W.ownsRow base e k u n xs) (hf : FarR u v) : FarR u v' := s.farR (fun r hr => (h.lt r hr).2) hf
/-- What names the block of a map, as a row names its own. -/
def mblk (b : Nat) : Value := .slice (some ⟨b, 0, none⟩) 0 0
theorem mblk_block {b r : Nat} : (mblk b).ownBlock = some r ↔ b = r := by simp [mblk, Value.ownBlock]

/-! ### sets -/
theorem wf_k {k : Int} (h : -9223372036854775808 ≤ k ∧ k ≤ 9223372036854775807) : (Lit.int .i64 k).wf = true := by
  unfold Lit.wf
  rw [Bool.and_eq_true, decide_eq_true_eq, decide_eq_true_eq]
  exact h
abbrev key (k : Int) : Lit := .int .i64 k
theorem keyed_i : Keyed Tryz.prog 3 := int_keyed Tryz.underlying3
theorem isKey_i (k : Int) : WideAt.IsKeyLit (key k) := trivial
theorem key_ne {a b : Int} (h : a ≠ b) : key a ≠ key b := fun e => h (by injection e)
/-- Block b is a map that is true at the numbers S, and has no other key. -/
def SetM (w : World) (base b : Nat) (S : List Int) : Prop :=
  base ≤ b ∧ ∃ D : DataW Unit, w.ownsMap Tryz.prog 3 (plainElem Tryz.prog 4) b S.length D ∧ ∀ k : Int, D.atKey (key k) (.lit (.bool false)) = .lit (.bool (decide (k ∈ S)))
section
variable {w w' : World} {base b : Nat} {S : List Int}
theorem SetM.lt (h : SetM w base b S) : ∀ r, (mblk b).ownBlock = some r → base ≤ r ∧ r < w.heap.size := fun r hr => by
  obtain rfl := mblk_block.1 hr
  obtain ⟨h1, D, h2, _⟩ := h
  exact ⟨h1, h2.lt⟩
theorem SetM.block (h : SetM w base b S) (hb : w'.heap[b]? = w.heap[b]?) : SetM w' base b S := by
  obtain ⟨h1, D, ⟨es, c, h2, h3⟩, h4⟩ := h
  exact ⟨h1, D, ⟨es, c, hb.trans h2, h3⟩, h4⟩
theorem SetM.up (h : SetM w base b S) (hb : Below w.heap.size w w') : SetM w' base b S := h.block (hb.block b (h.lt b (mblk_block.2 rfl)).2)
theorem SetM.alloc (h : SetM w base b S) (o : Obj) : SetM (w.alloc o) base b S := h.up ((Below.refl _ _).alloc (Nat.le_refl _) o)
theorem SetM.far (h : SetM w base b S) (p : Addr) (hp : (mblk b).ownBlock ≠ some p.block) (u : Value) : SetM (w.setCell p u) base b S :=
  h.block (Below.heap_setCell w p u b (fun e => hp (mblk_block.2 e)))
theorem SetM.step {v v' : Value} (s : Step w w' v v') (h : SetM w base b S) (hne : FarR (mblk b) v) : SetM w' base b S := h.block (s.heap (h.lt b (mblk_block.2 rfl)).2 (hne b (mblk_block.2 rfl)))
theorem SetM.mono (h : SetM w base b S) {B : Nat} (hB : B ≤ base) : SetM w B b S := ⟨Nat.le_trans hB h.1, h.2⟩
end
theorem sm_made (w : World) {base : Nat} (hb : base ≤ w.heap.size) : SetM (w.alloc (.map #[] 0)) base w.heap.size [] :=
  ⟨hb, .map [], World.ownsMap_made w Tryz.prog 3 (plainElem Tryz.prog 4), fun k => by rw [decide_eq_false (by simp)]; rfl⟩
theorem plainElem_bool_of {P : Program} {e : TypeId} (he : P.underlying e = some .bool) {v : Value} {z : DataW Unit × List MemPlace} (h : plainElem P e v = some z) : ∃ c, v = .bool c ∧ z = (.lit (.bool c), []) := by
  unfold plainElem at h
  rw [he] at h
  cases v <;> simp at h
  exact ⟨_, rfl, h.symm⟩
theorem plainElem_bool_inv {v : Value} {z : DataW Unit × List MemPlace} (h : plainElem Tryz.prog 4 v = some z) : ∃ c, v = .bool c ∧ z = (.lit (.bool c), []) := plainElem_bool_of Tryz.underlying4 h
theorem zb (w : World) : (zeroValue 4).run Tryz.prog w = .ok (.bool false) w := by kernel_rfl
/-- As many entries as it reads. -/
theorem owns_size {P : Program} {k : TypeId} {R : Value → Option (DataW Unit × List MemPlace)} {w : World} {b m n : Nat} {D : DataW Unit} (h : w.ownsMap P k R b m D) (hn : Maps.size D ≤ n) : w.ownsMap P k R b n D := by
  obtain ⟨es, clock, hb, F, hs, rfl⟩ := h
  refine ⟨es, clock, hb, F, ?_, rfl⟩
  rw [Maps.size_eq, length_sorted] at hn
  simpa using hn
theorem owns_size_le {P : Program} {k : TypeId} {R : Value → Option (DataW Unit × List MemPlace)} {w : World} {b m : Nat} {D : DataW Unit} (h : w.ownsMap P k R b m D) : Maps.size D ≤ m := by
  obtain ⟨es, clock, hb, F, hs, rfl⟩ := h
  rw [Maps.size_eq, length_sorted]
  simpa using hs
/-- Whether a number is in the set. -/
theorem wpList_lookup_set {w : World} {ops : Array Oper} {rest : List Oper} {o : Oper} {a : Act} {Q : Exit → Act → World → Prop} {base b : Nat} {S : List Int}
    (hg : o.guard = none) (m x : Operand) (hop : o.op = Op.lookup 115 m x false) (k : Int) (hown : SetM w base b S) (hw : (Lit.int .i64 k).wf = true) (hm : a.eval m = .map (some b)) (hx : a.eval x = .int .i64 k)
    (hK : wpList Tryz.prog ops Q rest (a.put o.dst (.bool (decide (k ∈ S)))) w) : wpList Tryz.prog ops Q (o :: rest) a w := by
  refine wpList_plain hg fun K' hK' => ?_
  obtain ⟨_, D, h2, h3⟩ := hown
  obtain ⟨v, ps, hrun, hv⟩ := h2.lookup (t := 115) (e := 4) keyed_i Tryz.underlying115 (zb w) (plainElem_bool Tryz.underlying4 false) (keyOf_int_mk Tryz.underlying3 hw)
  obtain ⟨c, rfl, hc⟩ := plainElem_bool_inv hv
  simp only [Prod.mk.injEq] at hc
  have h4 := (h3 k).symm.trans hc.1
  injection h4 with h4
  injection h4 with h4
  unfold Oper.wp
  simp [execOp, hop, hm, hx, hrun, Result.andThen]
  exact hK' _ _ (h4 ▸ hK)
theorem SetM.update {w : World} {base b : Nat} {S : List Int} (h : SetM w base b S) (hn : S.length < maxLen) (k : Int) (hw : (Lit.int .i64 k).wf = true) :
    ∃ w', (Instr.mapUpdate 115 (.map (some b)) (.int .i64 k) (.bool true)).run Tryz.prog w = .ok () w' ∧ SetM w' base b (ins S k) ∧ Step w w' (mblk b) (mblk b) := by
  obtain ⟨h1, D, h2, h3⟩ := h
  obtain ⟨es, clock, hb, F, hs, hD⟩ := id h2
  obtain ⟨es', clock', hrun, F', hput, _⟩ := Maps.fit_store (t := 115) (e := 4) (R' := plainElem (H := Unit) Tryz.prog 4) keyed_i Tryz.underlying115 hb F (Nat.lt_of_le_of_lt hs hn) (fun _ _ _ _ hz => hz) (keyOf_int_mk Tryz.underlying3 hw) (plainElem_bool Tryz.underlying4 true)
  obtain ⟨w', r1, r2, r3⟩ := h2.update (t := 115) (e := 4) keyed_i Tryz.underlying115 hn (keyOf_int_mk Tryz.underlying3 hw) (plainElem_bool Tryz.underlying4 true)
  have e := r1.symm.trans hrun
  injection e with _ e
  subst e
  refine ⟨_, r1, ⟨h1, D.put (key k) (.lit (.bool true)), owns_size r2 ?_, fun j => ?_⟩, ⟨r3, Nat.le_refl _, fun _ _ h => h⟩⟩
  · have hsz := owns_size_le h2
    have h5 := size_put (k := key k) (h2.tidy keyed_i) (.lit (.bool true))
    unfold ins
    by_cases e : k ∈ S
    · rw [if_pos e]
      have hh : Maps.has D (key k) = true := by
        cases hh : Maps.has D (key k) with
        | true => rfl
        | false =>
          have := (atKey_of_not_has hh (.lit (.bool false))).symm.trans (h3 k)
          simp [e] at this
      rw [hh] at h5
      simp at h5; omega
    · rw [if_neg e]
      have := owns_size_le r2
      simpa using this
  · by_cases e : j = k
    · subst e; rw [atKey_put_same h2.isMap (isKey_i j)]; simp [mem_ins]
    · rw [atKey_put_other (key_ne e), h3 j]; simp [e, mem_ins]
/-- A number is put into the set. -/
theorem wpList_update_set {w : World} {ops : Array Oper} {rest : List Oper} {o : Oper} {a : Act} {Q : Exit → Act → World → Prop} {base b : Nat} {S : List Int}
    (hg : o.guard = none) (m x v : Operand) (hop : o.op = Op.mapUpdate 115 m x v ∨ o.op = Op.insert 115 m x v) (k : Int) (hown : SetM w base b S) (hn : S.length < maxLen) (hw : (Lit.int .i64 k).wf = true) (hm : a.eval m = .map (some b)) (hx : a.eval x = .int .i64 k) (hv : a.eval v = .bool true)
    (hK : ∀ w', SetM w' base b (ins S k) → Step w w' (mblk b) (mblk b) → wpList Tryz.prog ops Q rest (a.put o.dst undef) w') : wpList Tryz.prog ops Q (o :: rest) a w := by
  refine wpList_plain hg fun K' hK' => ?_
  obtain ⟨w', hrun, r1, r2⟩ := hown.update hn k hw
  unfold Oper.wp
  rcases hop with hop | hop <;> simp [execOp, hop, hm, hx, hv, hrun, Result.andThen] <;> exact hK' _ _ (hK w' r1 r2)

/-! ### rows from some place on -/
/-- v holds the numbers l, in a block of the call's own, from some place on. -/
def TailR (w : World) (base : Nat) (v : Value) (l : List Int) : Prop :=
  ∃ g off cap cur, v = .slice (some ⟨g, off, none⟩) l.length cap ∧ base ≤ g ∧ w.heap[g]? = some (.cells cur 3 (0, 0)) ∧ l.length ≤ cap ∧ cap ≤ maxLen ∧ (cap ≠ 0 → cur.size = off + cap) ∧ ∀ j x, l[j]? = some x → cur[off + j]? = some (.int .i64 x)
section
variable {w w' : World} {base : Nat} {v : Value} {l : List Int}
theorem TailR.lt (h : TailR w base v l) : ∀ r, v.ownBlock = some r → base ≤ r ∧ r < w.heap.size := fun r hr => by
  obtain ⟨g, off, cap, cur, rfl, h1, h2, _⟩ := h
  have : g = r := by simpa [Value.ownBlock] using hr
  subst this
  exact ⟨h1, (Array.getElem?_eq_some_iff.1 h2).1⟩
theorem TailR.block (h : TailR w base v l) (hb : ∀ k, v.ownBlock = some k → w'.heap[k]? = w.heap[k]?) : TailR w' base v l := by
  obtain ⟨g, off, cap, cur, rfl, h1, h2, h3⟩ := h
  exact ⟨g, off, cap, cur, rfl, h1, (hb g rfl).trans h2, h3⟩
theorem TailR.up (h : TailR w base v l) (hb : Below w.heap.size w w') : TailR w' base v l := h.block fun k hk => hb.block k (h.lt k hk).2
theorem TailR.alloc (h : TailR w base v l) (o : Obj) : TailR (w.alloc o) base v l := h.up ((Below.refl _ _).alloc (Nat.le_refl _) o)
theorem TailR.far (h : TailR w base v l) (p : Addr) (hp : v.ownBlock ≠ some p.block) (u : Value) : TailR (w.setCell p u) base v l :=
  h.block fun k hk => Below.heap_setCell w p u k (fun e => hp (by rw [hk, e]))
theorem TailR.step {u u' : Value} (s : Step w w' u u') (h : TailR w base v l) (hne : FarR v u) : TailR w' base v l := h.block fun k hk => s.heap (h.lt k hk).2 (hne k hk)
/-- All but the first. -/
theorem TailR.tail {x : Int} (h : TailR w base v (x :: l)) : ∃ v1, (∀ W, (Instr.slice 55 v (some (.int .i64 1)) none none).run Tryz.prog W = .ok v1 W) ∧ TailR w base v1 l ∧ v1.ownBlock = v.ownBlock := by
  obtain ⟨g, off, cap, cur, rfl, h1, h2, h3, h4, h5, h6⟩ := h
  have hc : 1 ≤ cap := by simp at h3; omega
  by_cases h0 : cap = 1
  · subst h0
    refine ⟨.slice (some ⟨g, off, none⟩) l.length 0, fun W => ?_, ⟨g, off, 0, cur, rfl, h1, h2, by simp at h3; simp [h3], by simp, fun e => absurd rfl e, fun j y hj => ?_⟩, rfl⟩
    · simp [Instr.slice, run_underlying Tryz.underlying55, Instr.sliceBounds, Instr.sliceBound, asIntOf, go_sem]
      intro h_; omega
    · have : l = [] := List.eq_nil_of_length_eq_zero (by simp at h3; simp [h3])
      subst this; cases hj
  · refine ⟨.slice (some ⟨g, off + 1, none⟩) l.length (cap - 1), fun W => ?_, ⟨g, off + 1, cap - 1, cur, rfl, h1, h2, by simp at h3; omega, by omega, fun _ => by have := h5 (by omega); omega, fun j y hj => ?_⟩, rfl⟩
    · have h1' : ¬ cap = 1 := h0
      simp [Instr.slice, run_underlying Tryz.underlying55, Instr.sliceBounds, Instr.sliceBound, asIntOf, go_sem, h1']
      intro h_; omega
    · have := h6 (j + 1) y (by simpa using hj)
      rwa [show off + 1 + j = off + (j + 1) from by omega]
end
theorem tr_one {w : World} {B : Nat} (hB : B ≤ w.heap.size) (x : Int) : TailR (w.alloc (.cells #[.int .i64 x] 3)) B (.slice (some ⟨w.heap.size, 0, none⟩) 1 1) [x] :=
  ⟨w.heap.size, 0, 1, _, rfl, hB, heap_alloc_new w _, by simp, by simp [maxLen], fun _ => by simp, fun j y hj => by
    cases j with
    | zero => simpa using hj
    | succ j => simp at hj⟩
theorem run_append_tail {w : World} {base : Nat} {v : Value} {l : List Int} (h : TailR w base v l) (t ty : TypeId) (ti : TI Tryz.prog t 3 1 8) (a : Addr) (c : Nat) (x : Int) (hx : ∀ j u, [Value.int .i64 x][j]? = some u → w.cell? (a.add j) = some u) (hl : l.length ≤ 1000000) (hb : base ≤ w.heap.size) :
    ∃ v' w', (Builtin.append_ #[t, t] ty #[v, .slice (some a) 1 c]).run Tryz.prog w = .ok v' w' ∧ TailR w' base v' (l ++ [x]) ∧ Step w w' v v' := by
  obtain ⟨g, off, cap, cur, rfl, h1, h2, h3, h4, h5, h6⟩ := h
  obtain ⟨i, hi, hif⟩ := Option.map_eq_some_iff.1 ti.info
  simp only [Prod.mk.injEq] at hif
  obtain ⟨hz, hsz, hby⟩ := hif
  obtain ⟨z, hz, hzs⟩ := Option.map_eq_some_iff.1 hz
  by_cases hroom : l.length + 1 ≤ cap
  · have hcs := h5 (by omega)
    have hf := run_firstCells_some (P := Tryz.prog) w i.size 1 a 1 c [Value.int .i64 x] (by simp [hsz]) hx
    have hst := run_storeCells_at Tryz.prog g (off + l.length * i.size) 3 [Value.int .i64 x] 0 cur w h2 (by simp [hsz]; omega) (by simp [Value.oneCell'])
    simp only [Nat.add_zero] at hst
    have hr : (Builtin.append_ #[t, t] ty #[.slice (some ⟨g, off, none⟩) l.length cap, .slice (some a) 1 c]).run Tryz.prog w =
        .ok (.slice (some ⟨g, off, none⟩) (l.length + 1) cap) (w.setRow g (cur.toList.take (off + l.length * i.size) ++ [Value.int .i64 x] ++ cur.toList.drop (off + l.length * i.size + 1)).toArray) := by
      simp [Builtin.append_, run_underlying ti.und, sizeOf, typeInfo, hi, Builtin.lenOf, hroom, hf, Addr.add_lit, hst]
    refine ⟨_, _, hr, ⟨g, off, cap, _, by simp, h1, setRow_heap w g cur _ _ _ h2, by simpa using hroom, h4, fun _ => ?_, fun j y hj => ?_⟩, ⟨⟨rfl, rfl, rfl, by simp, fun k _ hk => setRow_other w g k _ (fun e => hk (by simp [Value.ownBlock, e]))⟩, Nat.le_refl _, fun _ _ h => h⟩⟩
    · simp only [List.size_toArray, List.length_append, List.length_take, List.length_drop, Array.length_toList, List.length_cons, List.length_nil, hsz]; omega
    · have hj' : j < l.length + 1 := by have := (List.getElem?_eq_some_iff.1 hj).1; simpa using this
      have ht : (cur.toList.take (off + l.length * i.size)).length = off + l.length := by rw [List.length_take, hsz]; have := Array.length_toList (xs := cur); omega
      rw [List.getElem?_toArray, List.append_assoc]
      by_cases q : j < l.length
      · rw [List.getElem?_append_left (by rw [ht]; omega), List.getElem?_take, if_pos (by rw [hsz]; omega), Array.getElem?_toList]
        rw [List.getElem?_append_left q] at hj
        exact h6 j y hj
      · obtain rfl : j = l.length := by omega
        rw [List.getElem?_append_right (by rw [ht]; omega), ht]
        rw [List.getElem?_append_right (Nat.le_refl _)] at hj
        simp at hj ⊢; exact hj
  · have holds : ∀ j u, (l.map (Value.int .i64))[j]? = some u → w.cell? ((⟨g, off, none⟩ : Addr).add j) = some u := fun j u hj => by
      rw [List.getElem?_map] at hj
      obtain ⟨y, hy, rfl⟩ := Option.map_eq_some_iff.1 hj
      rw [Addr.add_lit, cell_of_row w g _ cur _ (0, 0) h2]
      exact h6 j y hy
    have hr := run_append_grow (P := Tryz.prog) w t ty 3 i z ti.und hi hz ⟨g, off, none⟩ l.length cap (l.map (Value.int .i64)) (by simp [hsz]) holds a 1 c [Value.int .i64 x] (by simp [hsz]) hx (by omega) (by omega) (by rw [hby]; exact growslice_fits (by omega) (by omega))
    have hge := grownCap_ge w (l.length + 1) cap 3
    have hcm : grownCap w (l.length + 1) cap 3 ≤ maxLen := grownCap_le_maxLen w (l.length + 1) cap 3 (by simp [maxLen]; omega)
    refine ⟨_, _, hr, ⟨w.heap.size, 0, _, _, by simp, hb, heap_alloc_new w.drew _, by simpa using hge, hcm, fun _ => ?_, fun j y hj => ?_⟩, ⟨⟨rfl, rfl, rfl, by simp, fun k hk _ => heap_alloc_old _ _ hk⟩, Nat.le_succ _, fun b hb _ => by simp only [Value.ownBlock, ne_eq, Option.some.injEq]; omega⟩⟩
    · simp [size_zeroCells, hzs]; omega
    · have hj' : j < l.length + 1 := by have := (List.getElem?_eq_some_iff.1 hj).1; simpa using this
      rw [Nat.zero_add, Array.getElem?_append_left (by simp; omega)]
      have : ((l.map (Value.int .i64)).toArray ++ [Value.int .i64 x].toArray)[j]? = ((l ++ [x]).map (Value.int .i64))[j]? := by
        rw [show ((l.map (Value.int .i64)).toArray ++ [Value.int .i64 x].toArray) = (l.map (Value.int .i64) ++ [Value.int .i64 x]).toArray from by simp, List.getElem?_toArray]; simp
      rw [this, List.getElem?_map, hj]; rfl
/-- A number is appended. -/
theorem wpList_append_tail {ops : Array Oper} {rest : List Oper} {o : Oper} {a : Act} {Q : Exit → Act → World → Prop} {w : World} (hgd : o.guard = none) (s x : Operand) (t : TypeId)
    (ho : o.op = .call { callee := .builtin .append, args := #[s, x], argTypes := #[t, t] }) (ti : TI Tryz.prog t 3 1 8)
    {W : World} {base : Nat} {v : Value} {l : List Int} (hown : TailR W base v l) (hbase : base ≤ W.heap.size) (y : Int)
    (hw : w = W.alloc (.cells #[.int .i64 y] 3)) (hs : a.eval s = v) (hx : a.eval x = .slice (some ⟨W.heap.size, 0, none⟩) 1 1) (hl : l.length ≤ 1000000)
    (h : ∀ v' w', TailR w' base v' (l ++ [y]) → Step W w' v v' → wpList Tryz.prog ops Q rest (a.put o.dst v') w') : wpList Tryz.prog ops Q (o :: rest) a w := by
  subst hw
  obtain ⟨v', w', hr, h2, h3⟩ := run_append_tail (hown.alloc (.cells #[.int .i64 y] 3)) t o.type ti ⟨W.heap.size, 0, none⟩ 1 y (fun j u hj => by
    rw [Addr.add_lit, World.cell?_alloc_at _ _ _ _ rfl]; simpa using hj) hl (by simp; omega)
  refine wpList_plain hgd fun K' hK' => ?_
  unfold Oper.wp execOp
  simp only [ho, resolve, invoke, builtin, Sem.run_bind, Sem.run_pure, Result.andThen_ok, List.map_toArray, List.map_cons, List.map_nil, hs, hx, hr]
  refine hK' _ _ (h v' w' h2 ⟨⟨h3.grown.os, h3.grown.tape, h3.grown.output, Nat.le_trans (by simp) h3.grown.size, fun k hk hne => ?_⟩, h3.drawn, fun b hb hf => h3.far b (by simp; omega) hf⟩)
  exact (h3.grown.block k (by simp; omega) hne).trans (heap_alloc_old _ _ hk)
/-- The row opened. -/
theorem TailR.form {w : World} {base : Nat} {v : Value} {l : List Int} (h : TailR w base v l) {n : Nat} (hn : l.length = n) : ∃ g off cap, v = .slice (some ⟨g, off, none⟩) n cap ∧ ∀ x t, l = x :: t → w.cell? ⟨g, off, none⟩ = some (.int .i64 x) := by
  obtain ⟨g, off, cap, cur, rfl, h1, h2, h3, h4, h5, h6⟩ := h
  subst hn
  refine ⟨g, off, cap, rfl, ?_⟩
  rintro x t rfl
  rw [cell_of_row w g _ cur _ (0, 0) h2]
  exact h6 0 x rfl
/-- All but the first, at the operation. -/
theorem wpList_slice_tail {w : World} {ops : Array Oper} {rest : List Oper} {o : Oper} {a : Act} {Q : Exit → Act → World → Prop} {base : Nat} {v : Value} {y : Int} {l : List Int}
    (hg : o.guard = none) (x lo : Operand) (hop : o.op = Op.slice 55 x (some lo) none none) (hown : TailR w base v (y :: l)) (hx : a.eval x = v) (hlo : a.eval lo = .int .i64 1)
    (hK : ∀ v1, TailR w base v1 l → v1.ownBlock = v.ownBlock → wpList Tryz.prog ops Q rest (a.put o.dst v1) w) : wpList Tryz.prog ops Q (o :: rest) a w := by
  obtain ⟨v1, hrun, h1, h2⟩ := hown.tail
  refine wpList_plain hg fun K' hK' => ?_
  have hr2 : (Instr.sliceAt 55 v (some (.int .i64 1)) none none).run Tryz.prog w = .ok v1 w := by
    rw [← hrun w]; simp [Instr.sliceAt, run_underlying Tryz.underlying55]
  unfold Oper.wp
  simp [execOp, hop, hx, hlo, hr2, Result.andThen]
  exact hK' _ _ (hK v1 h1 h2)
end Go.Proofs.YtldfencaoaikgaaGreatDoor
