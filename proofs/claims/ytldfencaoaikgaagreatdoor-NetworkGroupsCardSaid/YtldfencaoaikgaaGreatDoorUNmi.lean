/-
  A map from numbers to numbers, of the call's own.
-/
import Derived.Test.YtldfencaoaikgaaGreatDoorUNwM
import Derived.WideKeyEntry
set_option linter.unusedSimpArgs false
set_option linter.unusedVariables false
namespace Go.Proofs.YtldfencaoaikgaaGreatDoor
open Go Go.RowKit Go.Maps Nw
set_option maxRecDepth 100000

/-- Block b is a map of at most m entries that reads as F. -/
def MapI (w : World) (base b m : Nat) (F : Int → Int) : Prop :=
  base ≤ b ∧ ∃ D : DataW Unit, w.ownsMap Tryz.prog 3 (plainElem Tryz.prog 3) b m D ∧ ∀ k : Int, D.atKey (key k) (.lit (.int .i64 0)) = .lit (.int .i64 (F k))
def upd (F : Int → Int) (k v : Int) : Int → Int := fun j => if j = k then v else F j
section
variable {w w' : World} {base b m : Nat} {F : Int → Int}
theorem MapI.lt (h : MapI w base b m F) : ∀ r, (mblk b).ownBlock = some r → base ≤ r ∧ r < w.heap.size := fun r hr => by
  obtain rfl := mblk_block.1 hr
  obtain ⟨h1, D, h2, _⟩ := h
  exact ⟨h1, h2.lt⟩
theorem MapI.block (h : MapI w base b m F) (hb : w'.heap[b]? = w.heap[b]?) : MapI w' base b m F := by
  obtain ⟨h1, D, ⟨es, c, h2, h3⟩, h4⟩ := h
  exact ⟨h1, D, ⟨es, c, hb.trans h2, h3⟩, h4⟩
theorem MapI.up (h : MapI w base b m F) (hb : Below w.heap.size w w') : MapI w' base b m F := h.block (hb.block b (h.lt b (mblk_block.2 rfl)).2)
theorem MapI.alloc (h : MapI w base b m F) (o : Obj) : MapI (w.alloc o) base b m F := h.up ((Below.refl _ _).alloc (Nat.le_refl _) o)
theorem MapI.far (h : MapI w base b m F) (p : Addr) (hp : (mblk b).ownBlock ≠ some p.block) (u : Value) : MapI (w.setCell p u) base b m F :=
  h.block (Below.heap_setCell w p u b (fun e => hp (mblk_block.2 e)))
theorem MapI.step {v v' : Value} (s : Step w w' v v') (h : MapI w base b m F) (hne : FarR (mblk b) v) : MapI w' base b m F := h.block (s.heap (h.lt b (mblk_block.2 rfl)).2 (hne b (mblk_block.2 rfl)))
end
theorem mi_made (w : World) {base : Nat} (hb : base ≤ w.heap.size) : MapI (w.alloc (.map #[] 0)) base w.heap.size 0 (fun _ => 0) :=
  ⟨hb, .map [], World.ownsMap_made w Tryz.prog 3 (plainElem Tryz.prog 3), fun k => rfl⟩
theorem zi (w : World) : (zeroValue 3).run Tryz.prog w = .ok (.int .i64 0) w := by kernel_rfl
theorem MapI.lookup {w : World} {base b m : Nat} {F : Int → Int} (h : MapI w base b m F) (k : Int) (hw : (Lit.int .i64 k).wf = true) :
    (Instr.lookup 60 (.map (some b)) (.int .i64 k) false).run Tryz.prog w = .ok (.int .i64 (F k)) w := by
  obtain ⟨_, D, h2, h3⟩ := h
  obtain ⟨v, ps, hrun, hv⟩ := h2.lookup (t := 60) (e := 3) keyed_i Tryz.underlying60 (zi w) (plainElem_int Tryz.underlying3 (a := 0) (by decide)) (keyOf_int_mk Tryz.underlying3 hw)
  obtain ⟨c, rfl, hc⟩ := plainElem_int_inv Tryz.underlying3 hv
  simp only [Prod.mk.injEq] at hc
  have h4 := (h3 k).symm.trans hc.1.1
  injection h4 with h4
  injection h4 with _ h4
  rw [hrun, h4]
theorem MapI.entry {w : World} {base b m : Nat} {F : Int → Int} (h : MapI w base b m F) (hm : m < maxLen) (k : Int) (hk : (Lit.int .i64 k).wf = true) :
    ∃ (v0 : Value) (st : Nat) (w1 : World), (Instr.mapEntry 60 (.map (some b)) (.int .i64 k)).run Tryz.prog w = .ok (.tuple #[v0, goInt st]) w1 ∧
      ∀ v : Int, (Lit.int .i64 v).wf = true → ∃ w2, (Instr.entryStore 60 (.map (some b)) (goInt st) (.int .i64 v)).run Tryz.prog w1 = .ok () w2 ∧ MapI w2 base b (m + 1) (upd F k v) ∧ Step w w2 (mblk b) (mblk b) := by
  obtain ⟨h1, D, h2, h3⟩ := h
  obtain ⟨es, clock, hb, Ft, hs, hD⟩ := id h2
  have hkey := keyOf_int_mk (P := Tryz.prog) (k := 3) Tryz.underlying3 hk
  have ht := Tryz.underlying60
  obtain ⟨s1, s2, _⟩ := Ft.stamped
  have done : ∀ (v : Int) (wv : (Lit.int .i64 v).wf = true) (o : Obj), (Instr.mapUpdate 60 (.map (some b)) (.int .i64 k) (.int .i64 v)).run Tryz.prog w = .ok () (ChangeMaps.setBlock w b o) → MapI (ChangeMaps.setBlock w b o) base b (m + 1) (upd F k v) ∧ Step w (ChangeMaps.setBlock w b o) (mblk b) (mblk b) := fun v wv o hr => by
    obtain ⟨w', r1, r2, r3⟩ := h2.update (t := 60) (e := 3) keyed_i ht hm hkey (plainElem_int Tryz.underlying3 wv)
    have e := r1.symm.trans hr
    injection e with _ e
    subst e
    refine ⟨⟨h1, D.put (key k) (.lit (.int .i64 v)), r2, fun j => ?_⟩, ⟨r3, Nat.le_refl _, fun _ _ h => h⟩⟩
    unfold upd
    by_cases e : j = k
    · subst e; rw [atKey_put_same h2.isMap (isKey_i j), if_pos rfl]
    · rw [atKey_put_other (key_ne e), h3 j, if_neg e]
  rcases keyed_i.find w hkey es.toList Ft.keys with ⟨f1, f2⟩ | ⟨j, e0, f1, f2, f3⟩
  · refine ⟨.int .i64 0, clock, ChangeMaps.setBlock w b (.map (es.push ⟨.int .i64 k, .int .i64 0, clock⟩) (clock + 1)), ?_, fun v hv => ?_⟩
    · simp [Instr.mapEntry, run_underlying ht, MapKept.run_getObj_map hb, keyed_i.check w false hkey, f1, zi, MapKept.run_setObj_map _ hb, Result.andThen, ChangeMaps.setBlock]
    · have hu : (Instr.mapUpdate 60 (.map (some b)) (.int .i64 k) (.int .i64 v)).run Tryz.prog w = .ok () (ChangeMaps.setBlock w b (.map (es.push ⟨.int .i64 k, .int .i64 v, clock⟩) (clock + 1))) := by
        simp [Instr.mapUpdate, run_underlying ht, MapKept.run_getObj_map hb, keyed_i.check w false hkey, f1, MapKept.run_setObj_map _ hb, Result.andThen, ChangeMaps.setBlock]
      refine ⟨_, ?_, done v hv _ hu⟩
      have hlt : b < w.heap.size := (Array.getElem?_eq_some_iff.1 hb).1
      have hw2 : (ChangeMaps.setBlock w b (.map (es.push ⟨.int .i64 k, .int .i64 0, clock⟩) (clock + 1))).heap[b]? = some (.map (es.push ⟨.int .i64 k, .int .i64 0, clock⟩) (clock + 1)) := by
        simp [ChangeMaps.setBlock, hlt]
      have hidx : (es.push ⟨.int .i64 k, .int .i64 0, clock⟩).findIdx? (fun e => ((e.born : Nat) : Int) == ((clock : Nat) : Int)) = some es.size := by
        rw [WideElems.findIdx_arr]
        exact WideElems.findIdx_born (j := es.size) (e0 := ⟨.int .i64 k, .int .i64 0, clock⟩) (by
          simp only [Array.toList_push, List.map_append, List.map_cons, List.map_nil, List.nodup_append]
          refine ⟨s2, by simp, fun a ha c hc e1 => ?_⟩
          simp only [List.mem_singleton] at hc
          obtain ⟨x, hx, rfl⟩ := List.mem_map.1 ha
          have := s1 x hx
          omega) (by simp)
      have hmod : (es.push ⟨.int .i64 k, .int .i64 0, clock⟩).modify es.size (fun e => { e with val := .int .i64 v }) = es.push ⟨.int .i64 k, .int .i64 v, clock⟩ := by
        apply Array.ext'
        rw [Array.toList_modify, Array.toList_push, Array.toList_push, ← Array.length_toList, WideElems.modify_last]
      have key : ∀ w2 : World, w2.heap[b]? = some (.map (es.push ⟨.int .i64 k, .int .i64 0, clock⟩) (clock + 1)) → (Instr.entryStore 60 (.map (some b)) (goInt clock) (.int .i64 v)).run Tryz.prog w2 = .ok () (ChangeMaps.setBlock w2 b (.map (es.push ⟨.int .i64 k, .int .i64 v, clock⟩) (clock + 1))) := fun w2 h => by
        simp [Instr.entryStore, MapKept.run_getObj_map h, asInt, asIntOf, goInt, hidx, hmod, MapKept.run_setObj_map _ h, Result.andThen, ChangeMaps.setBlock]
      rw [key _ hw2]
      simp [ChangeMaps.setBlock]
  · have hj : es[j]? = some e0 := by simpa using f2
    have hsame : es.modify j (fun e => { e with key := .int .i64 k }) = es := by
      apply Array.ext'
      rw [Array.toList_modify, ChangeMaps.modify_eq_set _ _ _ _ f2]
      have : ({ e0 with key := .int .i64 k } : MapEntry) = e0 := by rw [← f3]
      rw [this]
      exact WideElems.set_self _ _ _ f2
    refine ⟨e0.val, e0.born, w, ?_, fun v hv => ?_⟩
    · have hs2 : ChangeMaps.setBlock w b (.map es clock) = w := by
        unfold ChangeMaps.setBlock
        have hlt : b < w.heap.size := (Array.getElem?_eq_some_iff.1 hb).1
        have : w.heap.setIfInBounds b (.map es clock) = w.heap := by
          apply Array.ext_getElem?
          intro i
          by_cases hi : i = b
          · subst hi; rw [hb]; simp [hlt]
          · simp [Array.getElem?_setIfInBounds, Ne.symm hi]
        rw [this]
      simp [Instr.mapEntry, run_underlying ht, MapKept.run_getObj_map hb, keyed_i.check w false hkey, f1, hj, f3, keyed_i.stays w hkey, hsame, MapKept.run_setObj_map _ hb, Result.andThen]
      exact hs2
    · have hu : (Instr.mapUpdate 60 (.map (some b)) (.int .i64 k) (.int .i64 v)).run Tryz.prog w = .ok () (ChangeMaps.setBlock w b (.map (es.modify j (fun e' => { e' with key := .int .i64 k, val := .int .i64 v })) clock)) := by
        simp [Instr.mapUpdate, run_underlying ht, MapKept.run_getObj_map hb, keyed_i.check w false hkey, f1, hj, f3, keyed_i.stays w hkey, MapKept.run_setObj_map _ hb, Result.andThen, ChangeMaps.setBlock]
      refine ⟨_, ?_, done v hv _ hu⟩
      have hidx : es.findIdx? (fun e => ((e.born : Nat) : Int) == ((e0.born : Nat) : Int)) = some j := by
        rw [WideElems.findIdx_arr]
        exact WideElems.findIdx_born s2 f2
      have hmod : es.modify j (fun e => { e with val := .int .i64 v }) = es.modify j (fun e' => { e' with key := .int .i64 k, val := .int .i64 v }) := by
        apply Array.ext'
        rw [Array.toList_modify, Array.toList_modify, ChangeMaps.modify_eq_set _ _ _ _ f2, ChangeMaps.modify_eq_set _ _ _ _ f2, ← f3]
      simp [Instr.entryStore, MapKept.run_getObj_map hb, asInt, asIntOf, goInt, hidx, hmod, MapKept.run_setObj_map _ hb, Result.andThen, ChangeMaps.setBlock]
/-- A key's entry is found or laid: what storing at it does. -/
def EntP (w w1 : World) (base b m : Nat) (F : Int → Int) (k : Int) (st : Nat) : Prop :=
  ∀ v : Int, (Lit.int .i64 v).wf = true → ∃ w2, (Instr.entryStore 60 (.map (some b)) (goInt st) (.int .i64 v)).run Tryz.prog w1 = .ok () w2 ∧ MapI w2 base b (m + 1) (upd F k v) ∧ Step w w2 (mblk b) (mblk b)
theorem wpList_entry_i {w : World} {ops : Array Oper} {rest : List Oper} {o : Oper} {a : Act} {Q : Exit → Act → World → Prop} {base b m : Nat} {F : Int → Int}
    (hg : o.guard = none) (M x : Operand) (hop : o.op = Op.mapEntry 60 M x) (k : Int) (hown : MapI w base b m F) (hm : m < maxLen) (hw : (Lit.int .i64 k).wf = true) (hM : a.eval M = .map (some b)) (hx : a.eval x = .int .i64 k)
    (hK : ∀ (v0 : Value) (st : Nat) (w1 : World), EntP w w1 base b m F k st → wpList Tryz.prog ops Q rest (a.put o.dst (.tuple #[v0, goInt st])) w1) : wpList Tryz.prog ops Q (o :: rest) a w := by
  refine wpList_plain hg fun K' hK' => ?_
  obtain ⟨v0, st, w1, hrun, hE⟩ := hown.entry hm k hw
  unfold Oper.wp
  simp [execOp, hop, hM, hx, hrun, Result.andThen]
  exact hK' _ _ (hK v0 st w1 hE)
theorem wpList_store_i {w0 w : World} {ops : Array Oper} {rest : List Oper} {o : Oper} {a : Act} {Q : Exit → Act → World → Prop} {base b m : Nat} {F : Int → Int} {k : Int} {st : Nat}
    (hg : o.guard = none) (M s x : Operand) (hop : o.op = Op.entryStore 60 M s x) (v : Int) (hE : EntP w0 w base b m F k st) (hw : (Lit.int .i64 v).wf = true) (hM : a.eval M = .map (some b)) (hs : a.eval s = goInt st) (hx : a.eval x = .int .i64 v)
    (hK : ∀ w2 : World, MapI w2 base b (m + 1) (upd F k v) → Step w0 w2 (mblk b) (mblk b) → wpList Tryz.prog ops Q rest (a.put o.dst undef) w2) : wpList Tryz.prog ops Q (o :: rest) a w := by
  refine wpList_plain hg fun K' hK' => ?_
  obtain ⟨w2, hrun, r1, r2⟩ := hE v hw
  unfold Oper.wp
  simp [execOp, hop, hM, hs, hx, hrun, Result.andThen]
  exact hK' _ _ (hK w2 r1 r2)
end Go.Proofs.YtldfencaoaikgaaGreatDoor
