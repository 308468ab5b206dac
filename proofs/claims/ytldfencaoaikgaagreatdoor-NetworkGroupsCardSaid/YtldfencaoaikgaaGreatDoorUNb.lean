/-
  Rows of ends that are sorted in place, by the library.
  Equal structs: nodes, roads, positions, ends.
-/
import Derived.Test.YtldfencaoaikgaaGreatDoorUNw4
import Derived.Test.YtldfencaoaikgaaGreatDoorUMp
import Derived.Test.YtldfencaoaikgaaGreatDoorShelg
set_option linter.unusedSimpArgs false
set_option linter.unusedVariables false
namespace Go.Proofs.YtldfencaoaikgaaGreatDoor
open Go Go.RowKit Go.Sort Go.Lib Nw

def etc (x : En) : List Value := [.int .i64 x.n, .bool (ng x.q.num), .string (mg x.q.num.natAbs), .bool false, .string (mg (dn x.q))]
def ens (l : List En) : List Value := l.flatMap etc
def CEn (w : World) (g i : Nat) (x : En) : Prop := At w g i (etc x)
theorem CEn.bel {W : World} {g i : Nat} {x : En} (h : CEn W g i x) (b : Bel W) : CEn b.w1 g i x := At.up h b.h
theorem kpE : Kp CEn := ⟨fun h hb => At.up h hb⟩
theorem ens_length (l : List En) : (ens l).length = l.length * 5 := by rw [ens, flat_length etc 5 (fun _ => rfl)]
theorem ens_get : ∀ (l : List En) (k j : Nat) (x : En), l[k]? = some x → j < 5 → (ens l)[k * 5 + j]? = (etc x)[j]? := flat_get etc 5 (fun _ => rfl)
/-- v holds the ends l. -/
def EL (w : World) (v : Value) (l : List En) : Prop := Sl w v l.length 5 (ens l)
theorem EL.up {w w1 : World} {v : Value} {l : List En} (h : EL w v l) (hb : Below w.heap.size w w1) : EL w1 v l := Sl.up h hb
theorem EL.open_ {w : World} {v : Value} {l : List En} (h : EL w v l) : ∃ A c, v = .slice A l.length c ∧ l.length ≤ c ∧ c ≤ maxLen ∧ LX CEn 5 w A l :=
  sl_open etc 5 (fun _ => rfl) (fun _ _ _ x H => At.mk _ _ fun j u hj => H j u (by have := (List.getElem?_eq_some_iff.1 hj).1; simpa [etc] using this) hj) h
theorem etc_one (x : En) : ∀ u ∈ etc x, u.oneCell' = true := by
  intro u hu
  simp only [etc, List.mem_cons, List.not_mem_nil, or_false] at hu
  rcases hu with rfl | rfl | rfl | rfl | rfl <;> rfl
theorem ens_snoc (l : List En) (x : En) : ens (l ++ [x]) = ens l ++ etc x := by simp [ens]
theorem ti_en : TI Tryz.prog 71 98 5 56 := ⟨Tryz.underlying71, by kernel_rfl, by decide⟩
theorem el_own {w : World} {base n : Nat} {v : Value} {l : List En} (h : w.ownsRow base 98 5 v n (ens l)) : EL w v l := by
  have e : n = l.length := by have := h.1; rw [ens_length] at this; omega
  subst e
  exact Sl.of_own h
theorem el_one (w : World) (x : En) : EL (w.alloc (.cells (etc x).toArray 98)) (.slice (some ⟨w.heap.size, 0, none⟩) 1 1) [x] := by
  refine ⟨by simp [ens, etc], .inr ⟨_, 0, 1, rfl, Nat.le_refl _, by simp [maxLen], fun j u hj => ?_⟩⟩
  rw [World.cell?_alloc_at _ _ _ _ rfl]; simpa [ens] using hj
/-- What left all old blocks as they were, blocks and draws behind it. -/
theorem grow_of_below {w w' : World} (h : Below w.heap.size w w') : ∃ q os, w' = Sort.grow (w.drewN q) os := by
  refine ⟨w'.drawn - w.drawn, w'.heap.extract w.heap.size w'.heap.size, ?_⟩
  obtain ⟨heap', tape', drawn', os', output'⟩ := w'
  have e1 : os' = w.os := h.os
  have e2 : tape' = w.tape := h.tape
  have e3 : output' = w.output := h.output
  have hs : w.heap.size ≤ heap'.size := h.size
  have hb : ∀ k, k < w.heap.size → heap'[k]? = w.heap[k]? := h.block
  have hd : w.drawn ≤ drawn' := h.drawn
  subst e1 e2 e3
  have eh : heap' = w.heap ++ heap'.extract w.heap.size heap'.size := by
    apply Array.ext_getElem?
    intro k
    by_cases hk : k < w.heap.size
    · rw [Array.getElem?_append_left hk]; exact hb k hk
    · rw [Array.getElem?_append_right (by omega), Array.getElem?_extract]
      by_cases hk2 : k < heap'.size
      · rw [if_pos (by omega)]; congr 1; omega
      · rw [if_neg (by omega), Array.getElem?_eq_none (by omega)]
  have ed : drawn' = w.drawn + (drawn' - w.drawn) := by omega
  simp only [Sort.grow, World.drewN]
  rw [← ed]
  congr 1

set_option maxRecDepth 100000 in
theorem compE_any (x y : En) (w : World) : Calls Tryz.prog 99 #[.agg #[.int .i64 x.n, .bool (ng x.q.num), .string (mg x.q.num.natAbs), .bool false, .string (mg (dn x.q))], .agg #[.int .i64 y.n, .bool (ng y.q.num), .string (mg y.q.num.natAbs), .bool false, .string (mg (dn y.q))]] w fun e w' => e = .returned (.int .i64 (Lib.compareInt x.n y.n)) ∧ Below w.heap.size w w' := by
  go_enter Tryz.func99, Tryz.ntmps99
  have K1 := Lib.hid (fun W => cmpI_any x.n y.n W)
  go_wp2_with (fail)
  refine calls_named ?_
  intro W1 hW1
  have hL1 : Below w.heap.size w W1 := by
    rw [hW1]
    repeat (first | with_reducible exact Below.refl _ _ | with_reducible refine bel_alloc ?_ _ | refine Below.setCell ?_ (by first | (simp; done) | (simp; omega) | omega) _)
  have c2 : Own W1 (w.heap.size) 0 [.int .i64 x.n, .bool (ng x.q.num), .string (mg x.q.num.natAbs), .bool false, .string (mg (dn x.q))] := by
    rw [hW1]
    first
    | (repeat (first | (with_reducible refine own_new (l := [.int .i64 x.n, .bool (ng x.q.num), .string (mg x.q.num.natAbs), .bool false, .string (mg (dn x.q))]) ?_; (simp; done)) | with_reducible refine Own.alloc ?_ _ | refine Own.far _ _ (by first | (simp; done) | (simp [*]; done) | (simp; omega)) ?_)); done
    | simp [Own, go_sem]
  have c3 : Own W1 (w.heap.size + 1) 0 [.int .i64 y.n, .bool (ng y.q.num), .string (mg y.q.num.natAbs), .bool false, .string (mg (dn y.q))] := by
    rw [hW1]
    first
    | (repeat (first | (with_reducible refine own_new (l := [.int .i64 y.n, .bool (ng y.q.num), .string (mg y.q.num.natAbs), .bool false, .string (mg (dn y.q))]) ?_; (simp; done)) | with_reducible refine Own.alloc ?_ _ | refine Own.far _ _ (by first | (simp; done) | (simp [*]; done) | (simp; omega)) ?_)); done
    | simp [Own, go_sem]
  have hB4 : Below w.heap.size w W1 := by
    rw [hW1]
    repeat (first | with_reducible exact Below.refl _ _ | with_reducible refine bel_alloc ?_ _ | refine Below.setCell ?_ (by first | (simp; done) | (simp; omega) | omega) _)
  clear hW1 hL1
  with_reducible refine (K1.out _).mono ?_
  rintro e w1 ⟨rfl, hb1⟩
  have c5 := c2.up hb1
  have c6 := c3.up hb1
  have hB7 : Below w.heap.size w w1 := bel_up hB4 hb1
  clear c2 c3
  have uc5 := c5; have uc6 := c6
  simp only [At, Own, Nat.reduceAdd, and_true] at uc5 uc6
  go_wp2
  go_ret
  refine ⟨rfl, ?_⟩
  repeat (first | with_reducible exact hB7 | with_reducible refine bel_alloc ?_ _ | refine Below.setCell ?_ (by first | (simp; done) | (simp; omega) | omega) _)
/-- The elements of a row. -/
abbrev BE (l0 : List En) := { x : En // x ∈ l0 }
def encB {l0 : List En} (p : BE l0) : List Value := etc p.1
theorem encB_len {l0 : List En} (p : BE l0) : (encB p).length = 5 := rfl
theorem cmpLays {l0 : List En} [Inhabited (BE l0)] (blk off size : Nat) (w : World) : CmpLays Tryz.prog 99 #[] (encB (l0 := l0)) 5 (fun x y => Lib.compareInt x.1.n y.1.n) blk off size w :=
  fun _ _ _ _ x y => (compE_any x.1 y.1 _).mono fun _ _ ⟨h1, h2⟩ => ⟨h1, grow_of_below h2⟩
theorem ltOf_cmp {l0 : List En} (x y : BE l0) : ltOf (fun x y : BE l0 => Lib.compareInt x.1.n y.1.n) x y = decide (x.1.n < y.1.n) := by
  unfold ltOf; exact decide_eq_decide.2 cmpI_neg
theorem swo_less {l0 : List En} : Sort.SWO (ltOf fun x y : BE l0 => Lib.compareInt x.1.n y.1.n) where
  irrefl x := by rw [ltOf_cmp]; simp
  trans x y z h1 h2 := by simp only [ltOf_cmp, decide_eq_true_eq] at *; omega
  ntrans x y z h1 h2 := by simp only [ltOf_cmp, decide_eq_false_iff_not] at *; omega
theorem less_parts {l0 : List En} (hd : ∀ x ∈ l0, ∀ y ∈ l0, x.n = y.n → x = y) (x y : BE l0) (h1 : ltOf (fun x y : BE l0 => Lib.compareInt x.1.n y.1.n) x y = false) (h2 : ltOf (fun x y : BE l0 => Lib.compareInt x.1.n y.1.n) y x = false) : x = y := by
  simp only [ltOf_cmp, decide_eq_false_iff_not] at *
  exact Subtype.ext (hd _ x.2 _ y.2 (by omega))
section
variable {l0 : List En} [Inhabited (BE l0)]
/-- The cells of a row, flat. -/
theorem flat_ens (d : List (BE l0)) : (flatK encB 5 d.toArray).toList = ens (d.map (·.1)) := by
  apply List.ext_getElem?
  intro t
  have hl : (ens (d.map (·.1))).length = d.length * 5 := by rw [ens_length, List.length_map]
  by_cases ht : t < d.length * 5
  · have h1 : t / 5 < d.length := by omega
    have h2 := ens_get (d.map (·.1)) (t / 5) (t % 5) (d[t / 5]).1 (by simp [h1]) (Nat.mod_lt _ (by decide))
    have e : t / 5 * 5 + t % 5 = t := by omega
    rw [e] at h2
    rw [h2, Array.getElem?_toList]
    have h3 := get_flatK (encB (l0 := l0)) 5 d.toArray t (by simpa using ht)
    have hs : t < (flatK encB 5 d.toArray).size := by simpa using ht
    rw [getElem!_pos _ t hs] at h3
    rw [Array.getElem?_eq_getElem hs, h3]
    have h4 : d.toArray[t / 5]! = d[t / 5] := by simp [h1]
    rw [h4]
    have h5 : t % 5 < (encB d[t / 5]).length := by rw [encB_len]; exact Nat.mod_lt _ (by decide)
    rw [getElem!_pos _ (t % 5) h5, ← List.getElem?_eq_getElem h5]
    rfl
  · rw [List.getElem?_eq_none (by simp; omega), List.getElem?_eq_none (by rw [hl]; omega)]
end
section
variable {l0 : List En} [Inhabited (BE l0)] {w : World} {base n g cap : Nat} {l : List En} {cur : Array Value}
theorem holds_own (d : List (BE l0)) (hn : d.length = n) (hg : w.heap[g]? = some (.cells cur 98 (0, 0))) (htake : cur.toList.take (n * 5) = ens (d.map (·.1))) : HoldsK encB 5 w g 0 d.toArray := by
  intro j hj
  rw [size_flatK] at hj
  have hj' : j < n * 5 := by simpa [hn] using hj
  have h1 : (flatK encB 5 d.toArray)[j]? = some ((flatK encB 5 d.toArray)[j]!) := by
    have hs : j < (flatK encB 5 d.toArray).size := by rw [size_flatK]; exact hj
    rw [getElem!_pos _ j hs, Array.getElem?_eq_getElem hs]
  rw [← Array.getElem?_toList, flat_ens, ← htake, List.getElem?_take, if_pos hj', Array.getElem?_toList] at h1
  refine ⟨?_, by simp [World.frozen?, hg]⟩
  rw [cell_of_row w g _ cur _ (0, 0) hg, Nat.zero_add, h1]
  rfl
/-- The world with another row of points laid in place. -/
theorem put_own (d d' : List (BE l0)) (hn : d.length = n) (hn' : d'.length = n) (m : Nat) (os : Array Obj) (hg : w.heap[g]? = some (.cells cur 98 (0, 0))) (hb : base ≤ g) (hnc : n ≤ cap) (hcm : cap ≤ maxLen) (hcs : cur.size = cap * 5) :
    (Sort.grow (putRowK encB 5 (Sort.ahead w m) g 0 d'.toArray) os).ownsRow base 98 5 (.slice (some ⟨g, 0, none⟩) n cap) n (ens (d'.map (·.1))) ∧
    Step w (Sort.grow (putRowK encB 5 (Sort.ahead w m) g 0 d'.toArray) os) (.slice (some ⟨g, 0, none⟩) n cap) (.slice (some ⟨g, 0, none⟩) n cap) := by
  have hgs := (Array.getElem?_eq_some_iff.1 hg).1
  have hgs' : g < (w.heap.modify g (Sort.onCells (Sort.putCells id 0 (flatK encB 5 d'.toArray)))).size := by simpa using hgs
  have hh : (Sort.grow (putRowK encB 5 (Sort.ahead w m) g 0 d'.toArray) os).heap[g]? = some (.cells (Sort.putCells id 0 (flatK encB 5 d'.toArray) cur) 98 (0, 0)) := by
    show (w.heap.modify g (Sort.onCells (Sort.putCells id 0 (flatK encB 5 d'.toArray))) ++ os)[g]? = _
    rw [Array.getElem?_append_left hgs', Array.getElem?_modify, if_pos rfl, hg]
    rfl
  have hlen : (ens (d'.map (·.1))).length = n * 5 := by rw [ens_length, List.length_map, hn']
  have hn8 : n * 5 ≤ cap * 5 := Nat.mul_le_mul_right _ hnc
  refine ⟨⟨hlen, .inr ⟨g, cap, _, rfl, hb, hh, hnc, hcm, by simp [Sort.putCells, hcs], ?_⟩⟩, ⟨⟨rfl, rfl, rfl, ?_, ?_⟩, ?_, fun _ _ h => h⟩⟩
  · apply List.ext_getElem?
    intro t
    rw [List.getElem?_take]
    by_cases ht : t < n * 5
    · rw [if_pos ht, ← flat_ens, Array.getElem?_toList, Array.getElem?_toList]
      have hs : t < (flatK encB 5 d'.toArray).size := by rw [size_flatK]; simpa [hn'] using ht
      have hc : t < cur.size := by rw [hcs]; omega
      rw [Array.getElem?_eq_getElem hs]
      simp only [Sort.putCells, Array.getElem?_mapIdx, Array.getElem?_eq_getElem hc, Option.map_some, Nat.zero_le, Nat.zero_add, true_and, id, Nat.sub_zero]
      rw [if_pos hs, getElem!_pos _ t hs]
    · rw [if_neg ht, List.getElem?_eq_none (by rw [hlen]; omega)]
  · show w.heap.size ≤ (w.heap.modify g _ ++ os).size
    simp
  · intro k hk hne
    show (w.heap.modify g _ ++ os)[k]? = _
    rw [Array.getElem?_append_left (by simpa using hk), Array.getElem?_modify, if_neg (fun e => hne (by simp [Value.ownBlock, e]))]
  · show w.drawn ≤ w.drawn + m
    omega
end

/-- Ends in the order of their nodes. -/
def sortE (l : List En) : List En := l.mergeSort fun x y => !decide (y.n < x.n)
theorem attach_map (l : List En) : (l.attach.map (·.1)) = l := List.attach_map_subtype_val l
theorem sortE_att (l : List En) : (l.attach.mergeSort fun x y => !ltOf (fun x y : BE l => Lib.compareInt x.1.n y.1.n) y x).map (·.1) = sortE l := by
  rw [List.map_mergeSort (r := fun x y => !ltOf (fun x y : BE l => Lib.compareInt x.1.n y.1.n) y x) (s := fun x y => !decide (y.n < x.n)) (f := (·.1)) (l := l.attach) (fun a _ b _ => by simp only [ltOf_cmp]), attach_map]
  rfl
theorem sort_any (v : Value) (n base : Nat) (l : List En) (w : World) (hown : w.ownsRow base 98 5 v n (ens l)) (hd : ∀ x ∈ l, ∀ y ∈ l, x.n = y.n → x = y) (hn : n ≤ 1000000) :
    Calls Tryz.prog 98 #[v, .func (.func 99) #[] #[]] w fun e w' => e = .returned (.tuple #[]) ∧ w'.ownsRow base 98 5 v n (ens (sortE l)) ∧ Step w w' v v := by
  have hnl : n = l.length := by have := hown.1; rw [ens_length] at this; omega
  rcases hown.2 with ⟨rfl, rfl⟩ | ⟨g, cap, cur, rfl, hbg, hg, hnc, hcm, hcs, htake⟩
  · have hl : l = [] := List.eq_nil_of_length_eq_zero hnl.symm
    subst hl
    have h := AnyF.slices_SortFunc_none (P := Tryz.prog) Tryz.sortEn none 0 (.func (.func 99) #[] #[]) w
    exact h.mono fun _ _ ⟨h1, h2⟩ => ⟨h1, by subst h2; simpa [sortE] using hown, by subst h2; exact Step.same _ _⟩
  · by_cases h0 : l = []
    · subst h0
      obtain rfl : n = 0 := hnl
      have h := AnyF.slices_SortFunc_none (P := Tryz.prog) Tryz.sortEn (some ⟨g, 0, none⟩) cap (.func (.func 99) #[] #[]) w
      exact h.mono fun _ _ ⟨h1, h2⟩ => ⟨h1, by subst h2; simpa [sortE] using hown, by subst h2; exact Step.same _ _⟩
    have hin : Nonempty (BE l) := by obtain ⟨a, t, rfl⟩ := List.exists_cons_of_ne_nil h0; exact ⟨⟨a, by simp⟩⟩
    haveI : Inhabited (BE l) := ⟨Classical.choice hin⟩
    have hd2 : l.attach.length = n := by rw [List.length_attach, hnl]
    have eg : ∀ args w, (callFunc 99 args).run Tryz.prog w = .ok (.enter 99 args) w := enters_of Tryz.func99 (by kernel_rfl) rfl
    have h := AnyQ.slices_SortFunc_total (P := Tryz.prog) Tryz.sortEn 5 Tryz.isAgg98 Tryz.sizeOf98 (encB (l0 := l)) encB_len (fun x v hv => etc_one x.1 v hv) (fun x y => Lib.compareInt x.1.n y.1.n) swo_less 99 #[] g 0 cap l.attach.toArray w eg (cmpLays g 0 _ w)
      (holds_own l.attach hd2 hg (by rw [attach_map]; exact htake)) (Array.getElem?_eq_some_iff.1 hg).1 (by simp; omega) (less_parts hd)
    rw [show l.attach.toArray.size = n from by simpa using hd2] at h
    refine h.mono fun _ w' ⟨h1, m, os, hw⟩ => ⟨h1, ?_⟩
    have H := put_own l.attach (l.attach.mergeSort fun x y => !ltOf (fun x y : BE l => Lib.compareInt x.1.n y.1.n) y x) hd2 (by rw [List.length_mergeSort]; exact hd2) m os hg hbg hnc hcm hcs
    rw [sortE_att] at H
    rw [hw]
    exact H
end Go.Proofs.YtldfencaoaikgaaGreatDoor

namespace Go.Proofs.YtldfencaoaikgaaGreatDoor
open Go Go.RowKit Nw

theorem pc_ext {a b : Pc} : a = b ↔ a.r = b.r ∧ a.q = b.q := by cases a; cases b; simp
theorem en_ext {a b : En} : a = b ↔ a.n = b.n ∧ a.q = b.q := by cases a; cases b; simp
theorem nd_ext {a b : Nd} : a = b ↔ a.i = b.i ∧ a.x = b.x ∧ a.y = b.y := by cases a; cases b; simp
theorem rd_ext {a b : Rd} : a = b ↔ a.i = b.i ∧ a.f = b.f ∧ a.t = b.t ∧ a.l = b.l ∧ a.m = b.m ∧ a.o = b.o := by cases a; cases b; simp
instance : DecidableEq Pc := fun _ _ => decidable_of_iff _ pc_ext.symm
instance : DecidableEq En := fun _ _ => decidable_of_iff _ en_ext.symm
instance : DecidableEq Nd := fun _ _ => decidable_of_iff _ nd_ext.symm
instance : DecidableEq Rd := fun _ _ => decidable_of_iff _ rd_ext.symm
theorem eqPc_in (a b : Pc) (w : World) : (Op.equalIn 10000 42 (.agg #[.int .i64 a.r, .bool (ng a.q.num), .string (mg a.q.num.natAbs), .bool false, .string (mg (dn a.q))]) (.agg #[.int .i64 b.r, .bool (ng b.q.num), .string (mg b.q.num.natAbs), .bool false, .string (mg (dn b.q))])).run Tryz.prog w = .ok (decide (a = b)) w := by
  have ab := Tryz.isAgg40
  have zb := Tryz.sizeOf40
  have ai := Tryz.isAgg3
  have zi := Tryz.sizeOf3
  have ui := Tryz.underlying3
  have hS : Tryz.prog.underlying 42 = some (.struct (Tryz.prog.fieldsOf 42)) := by kernel_rfl
  have hp : Tryz.prog.stoodInHeld 42 = false := by kernel_rfl
  have E : ∀ (a b : Rat) (w : World), (Op.equalIn 9999 40 (qv a) (qv b)).run Tryz.prog w = .ok (decide (a = b)) w := eqQ_at 9996
  have e : decide (a = b) = (decide (a.r = b.r) && decide (a.q = b.q)) := by rw [Bool.eq_iff_iff]; simp [pc_ext]
  rw [show (10000 : Nat) = 9999 + 1 from rfl, run_equalIn_agg w 9999 42 _ _ hS hp]
  simp only [Program.fieldsOf, Tryz.underlying42]
  rw [e]
  go_simp
  by_cases h1 : a.r = b.r <;> by_cases h2 : a.q = b.q <;> simp_all
theorem eqEn_in (a b : En) (w : World) : (Op.equalIn 10000 98 (.agg #[.int .i64 a.n, .bool (ng a.q.num), .string (mg a.q.num.natAbs), .bool false, .string (mg (dn a.q))]) (.agg #[.int .i64 b.n, .bool (ng b.q.num), .string (mg b.q.num.natAbs), .bool false, .string (mg (dn b.q))])).run Tryz.prog w = .ok (decide (a = b)) w := by
  have ab := Tryz.isAgg40
  have zb := Tryz.sizeOf40
  have ai := Tryz.isAgg3
  have zi := Tryz.sizeOf3
  have ui := Tryz.underlying3
  have hS : Tryz.prog.underlying 98 = some (.struct (Tryz.prog.fieldsOf 98)) := by kernel_rfl
  have hp : Tryz.prog.stoodInHeld 98 = false := by kernel_rfl
  have E : ∀ (a b : Rat) (w : World), (Op.equalIn 9999 40 (qv a) (qv b)).run Tryz.prog w = .ok (decide (a = b)) w := eqQ_at 9996
  have e : decide (a = b) = (decide (a.n = b.n) && decide (a.q = b.q)) := by rw [Bool.eq_iff_iff]; simp [en_ext]
  rw [show (10000 : Nat) = 9999 + 1 from rfl, run_equalIn_agg w 9999 98 _ _ hS hp]
  simp only [Program.fieldsOf, Tryz.underlying98]
  rw [e]
  go_simp
  by_cases h1 : a.n = b.n <;> by_cases h2 : a.q = b.q <;> simp_all
end Go.Proofs.YtldfencaoaikgaaGreatDoor
