/-
 Rows of points that are written in place; what Compact leaves of any row of points.
-/
import Derived.Test.YtdkkjfnpinckjaaGreatDoorYMp
import Derived.Test.YtdkkjfnpinckjaaGreatDoorYDd
import Derived.Deep.MidRow
import Derived.Deep.LoopGhost
set_option maxRecDepth 100000
set_option linter.unusedSimpArgs false
set_option linter.unusedVariables false
namespace Go.Proofs.YtdkkjfnpinckjaaGreatDoor
open Go Go.RowKit

/-- Cells from a place on, set one by one. -/
def setFrom (xs : List Value) : Nat → List Value → List Value
 | _, [] => xs
 | i, v :: r => setFrom (xs.set i v) (i + 1) r
theorem setFrom_mid : ∀ (vs p a b : List Value), a.length = vs.length → setFrom (p ++ a ++ b) p.length vs = p ++ vs ++ b
 | [], p, a, b, h => by
  have : a = [] := List.eq_nil_of_length_eq_zero h
  subst this; rfl
 | v :: r, p, [], b, h => by cases h
 | v :: r, p, x :: a, b, h => by
  rw [setFrom]
  have e : (p ++ x :: a ++ b).set p.length v = (p ++ [v]) ++ a ++ b := by simp
  rw [e]
  have := setFrom_mid r (p ++ [v]) a b (by simpa using h)
  rw [List.length_append] at this
  rw [show p.length + 1 = p.length + [v].length from rfl, this]
  simp
theorem setFrom_pts {l : List (Rat × Rat)} {k : Nat} (hk : k < l.length) (u : Rat × Rat) : setFrom (pts l) (k * 8) (pcells u) = pts (l.set k u) := by
 have e1 : l = l.take k ++ l[k] :: l.drop (k + 1) := by rw [List.getElem_cons_drop, List.take_append_drop]
 have e2 : pts l = pts (l.take k) ++ pcells l[k] ++ pts (l.drop (k + 1)) := by
  have : ∀ (a : List (Rat × Rat)) (x : Rat × Rat) (b : List (Rat × Rat)), pts (a ++ x :: b) = pts a ++ pcells x ++ pts b := fun a x b => by simp [pts]
  rw [← this, ← e1]
 have e3 : (pts (l.take k)).length = k * 8 := by rw [pts_length, List.length_take, Nat.min_eq_left (by omega)]
 rw [e2, ← e3, setFrom_mid (pcells u) (pts (l.take k)) (pcells l[k]) (pts (l.drop (k + 1))) (by rw [pcells_len, pcells_len]), List.set_eq_take_append_cons_drop, if_pos hk]
 simp [pts]
theorem setFrom_take : ∀ (vs xs : List Value) (i m : Nat), m ≤ i → (setFrom xs i vs).take m = xs.take m
 | [], _, _, _, _ => rfl
 | v :: r, xs, i, m, h => by
  rw [setFrom, setFrom_take r _ _ _ (by omega), List.take_set_of_le h]
section
variable {w w0 : World} {base n g cap size : Nat} {e : TypeId}
theorem own_setCells : ∀ (vs : List Value) (i : Nat) (w : World) (xs : List Value), w.ownsRow base e size (.slice (some ⟨g, 0, none⟩) n cap) n xs → (w.setCells g i vs).ownsRow base e size (.slice (some ⟨g, 0, none⟩) n cap) n (setFrom xs i vs)
 | [], _, _, _, h => h
 | v :: r, i, w, xs, h => own_setCells r (i + 1) _ _ (h.stored i v).1
theorem below_setCells {B : Nat} (hg : B ≤ g) : ∀ (vs : List Value) (i : Nat) (w : World), Below B w0 w → Below B w0 (w.setCells g i vs)
 | [], _, _, h => h
 | v :: r, i, w, h => below_setCells hg r (i + 1) _ (h.setCell hg v)
theorem own_cut {xs : List Value} {m : Nat} (h : w.ownsRow base e size (.slice (some ⟨g, 0, none⟩) n cap) n xs) (hm : m ≤ n) : w.ownsRow base e size (.slice (some ⟨g, 0, none⟩) m cap) m (xs.take (m * size)) := by
 rcases h.2 with ⟨h', _⟩ | ⟨g', cap', cur, h', hb, hg, hnc, hcm, hcs, htake⟩
 ·simp at h'
 ·simp only [Value.slice.injEq, Option.some.injEq, Addr.mk.injEq, and_true, true_and] at h'
  obtain ⟨rfl, rfl⟩ := h'
  have hms : m * size ≤ n * size := Nat.mul_le_mul_right _ hm
  refine ⟨by rw [List.length_take, h.1]; omega, .inr ⟨g, cap, cur, rfl, hb, hg, by omega, hcm, hcs, ?_⟩⟩
  rw [← htake, List.take_take, Nat.min_eq_left hms]
end
/-- A point of a row is written. -/
theorem own_setPt {w : World} {base n g cap k : Nat} {l : List (Rat × Rat)} (h : w.ownsRow base 35 8 (.slice (some ⟨g, 0, none⟩) n cap) n (pts l)) (hk : k < n) (u : Rat × Rat) :
 (w.setCells g (k * 8) (pcells u)).ownsRow base 35 8 (.slice (some ⟨g, 0, none⟩) n cap) n (pts (l.set k u)) := by
 have hl : n = l.length := by have := h.1; rw [pts_length] at this; omega
 have := own_setCells (pcells u) (k * 8) w _ h
 rwa [setFrom_pts (by omega)] at this
theorem own_there {w : World} {base n g cap k : Nat} {l : List (Rat × Rat)} (h : w.ownsRow base 35 8 (.slice (some ⟨g, 0, none⟩) n cap) n (pts l)) {m : Nat} (hk : k * 8 + m ≤ n * 8) :
 w.there g (k * 8) m := fun j hj => ⟨by
 rw [h.cellAt (k * 8 + j) (by omega)]
 have := h.1
 rw [List.getElem?_eq_getElem (by omega)]; rfl, h.frozenAt _⟩
/-- The end of a row is written and cut off. -/
theorem own_clear {w : World} {base n g cap k : Nat} {l : List (Rat × Rat)} (h : w.ownsRow base 35 8 (.slice (some ⟨g, 0, none⟩) n cap) n (pts l)) (hk : k ≤ n) (vs : List Value) :
 (w.setCells g (k * 8) vs).ownsRow base 35 8 (.slice (some ⟨g, 0, none⟩) k cap) k (pts (l.take k)) := by
 have h1 := own_cut (own_setCells vs (k * 8) w _ h) hk
 rw [setFrom_take _ _ _ _ (Nat.le_refl _)] at h1
 have e : (pts l).take (k * 8) = pts (l.take k) := by
  have hl : n = l.length := by have := h.1; rw [pts_length] at this; omega
  have e1 : pts l = pts (l.take k) ++ pts (l.drop k) := by
   have : ∀ (a b : List (Rat × Rat)), pts (a ++ b) = pts a ++ pts b := fun a b => by simp [pts]
   rw [← this, List.take_append_drop]
  rw [e1, List.take_left' (by rw [pts_length, List.length_take, Nat.min_eq_left (by omega)])]
 rwa [e] at h1
/-- clear on a row of points: some cells are written there. -/
theorem run_clear_pts (w : World) (b o n c : Nat) (hn : 0 < n) (ht : w.there b o (n * 8)) :
 ∃ cs, ∀ ty, (Builtin.clear_ #[26] ty #[.slice (some ⟨b, o, none⟩) n c]).run Tryz.prog w = .ok (.tuple #[]) (w.setCells b o cs) := by
 obtain ⟨z, hz, hs, h1⟩ : ∃ z : Value, (∀ w, (zeroValue 35).run Tryz.prog w = .ok z w) ∧ z.cells.size = 8 ∧ z.cells.all (·.oneCell') = true := ⟨_, Tryz.zeroValue35, rfl, by simp [Value.cells, Value.oneCell']⟩
 have hsz : (Builtin.zeroCells z.cells n).size = n * 8 := by rw [size_zeroCells, hs]
 have hst := run_storeCells_cells (P := Tryz.prog) b o (Builtin.zeroCells z.cells n).toList 0 w (fun j hj => by
  have := (ht j (by rw [Array.length_toList, hsz] at hj; exact hj)).1; simpa using this) (fun j hj => by
  have := (ht j (by rw [Array.length_toList, hsz] at hj; exact hj)).2; simpa using this) (by
  intro v hv
  simp only [Builtin.zeroCells, Array.toList_map, List.mem_map] at hv
  obtain ⟨i, _, rfl⟩ := hv
  have hi : i % z.cells.size < z.cells.size := Nat.mod_lt _ (by omega)
  rw [getElem!_pos z.cells (i % z.cells.size) hi]
  exact Array.all_eq_true.1 h1 _ hi)
 simp only [Nat.add_zero] at hst
 obtain ⟨m, rfl⟩ : ∃ m, n = m + 1 := ⟨n - 1, by omega⟩
 exact ⟨(Builtin.zeroCells z.cells (m + 1)).toList, fun ty => by simp [Builtin.clear_, run_underlying Tryz.underlying26, hz, hst]⟩
theorem dd_short {l : List (Rat × Rat)} (h : l.length < 2) : dd l = l := by
 match l, h with
 | [], _ => rfl
 | [x], _ => exact dd_one x
/-- What the row holds while its end is looked through: ahead of m what is left of l's first p, behind it l itself. -/
def DdI (l r : List (Rat × Rat)) (m p : Nat) : Prop := r.take m = dd (l.take p) ∧ r.drop m = l.drop m ∧ r.length = l.length
theorem DdI.at_ {l r : List (Rat × Rat)} {m p i : Nat} (h : DdI l r m p) (hi : m ≤ i) : r[i]? = l[i]? := by
 have := congrArg (fun z => z[i - m]?) h.2.1
 simp only [List.getElem?_drop] at this
 rwa [show m + (i - m) = i by omega] at this
theorem DdI.same {l r : List (Rat × Rat)} {m p : Nat} {x : Rat × Rat} (h : DdI l r m (p + 1)) (hx : l[p]? = some x) (hy : l[p + 1]? = some x) : DdI l r m (p + 1 + 1) :=
 ⟨by rw [h.1, dd_step hx hy, if_pos rfl], h.2⟩
theorem DdI.more {l r : List (Rat × Rat)} {m p : Nat} {x y : Rat × Rat} (h : DdI l r m (p + 1)) (hx : l[p]? = some x) (hy : l[p + 1]? = some y) (hne : y ≠ x) (hm : m ≤ p) : DdI l (r.set m y) (m + 1) (p + 1 + 1) := by
 have hl : p + 1 < l.length := (List.getElem?_eq_some_iff.1 hy).1
 have hmr : m < r.length := by have := h.2.2; omega
 refine ⟨?_, ?_, by rw [List.length_set]; exact h.2.2⟩
 ·rw [dd_step hx hy, if_neg (Ne.symm hne), ← h.1, List.take_add_one, List.getElem?_set_self hmr]
  rw [List.take_set_of_le (Nat.le_refl _)]
  rfl
 ·rw [List.drop_set_of_lt (Nat.lt_succ_self m)]
  have := congrArg (List.drop 1) h.2.1
  rwa [List.drop_drop, List.drop_drop] at this
/-- The inner loop of Compact. -/
def CmpRel (base g cap n k : Nat) (l : List (Rat × Rat)) (w : World) (i j : Value) (wr : World) : Prop :=
 ∃ (m p : Nat) (r : List (Rat × Rat)), i = .int .i64 m ∧ j = .int .i64 (p + 1 : Nat) ∧ k + 1 ≤ m ∧ m ≤ k + 1 + p ∧ k + 2 + p ≤ n ∧ wr.ownsRow base 35 8 (.slice (some ⟨g, 0, none⟩) n cap) n (pts r) ∧ Below base w wr ∧ Hid (DdI l r m (k + 1 + p + 1))
theorem CmpRel.mk {base g cap n k : Nat} {l : List (Rat × Rat)} {w wr : World} {i j : Value} (m p : Nat) (r : List (Rat × Rat)) (h1 : i = .int .i64 m) (h2 : j = .int .i64 (p + 1 : Nat)) (h3 : k + 1 ≤ m) (h4 : m ≤ k + 1 + p) (h5 : k + 2 + p ≤ n)
 (h6 : wr.ownsRow base 35 8 (.slice (some ⟨g, 0, none⟩) n cap) n (pts r)) (h7 : Below base w wr) (h8 : Hid (DdI l r m (k + 1 + p + 1))) : CmpRel base g cap n k l w i j wr := ⟨m, p, r, h1, h2, h3, h4, h5, h6, h7, h8⟩
set_option maxHeartbeats 600000 in
theorem compact_any (v : Value) (l : List (Rat × Rat)) (n base : Nat) (w : World) (hown : w.ownsRow base 35 8 v n (pts l)) (hn : n ≤ 1000000) :
 Calls Tryz.prog 107 #[v] w fun e w' => ∃ v', e = .returned v' ∧ w'.ownsRow base 35 8 v' (dd l).length (pts (dd l)) ∧ Below base w w' := by
 have hnl : n = l.length := by have := hown.1; rw [pts_length] at this; omega
 by_cases h2 : n < 2
 ·have i1 : (n : Int) < 2 := by omega
  have hd : dd l = l := dd_short (by omega)
  obtain ⟨A, c, hv⟩ : ∃ A c, v = .slice A n c := (owns_open hown).2.imp fun A h => h.imp fun c h => h.1
  have HO := Lib.hid hown
  have HD := Lib.hid hd
  have HL := Lib.hid hnl
  clear hown hd hnl
  subst hv
  go_enter Tryz.func107, Tryz.ntmps107
  go_wp2
  go_ret
  exact ⟨_, rfl, by rw [HD.out, ← HL.out]; exact HO.out, Below.refl _ _⟩
 ·have i1 : ¬ (n : Int) < 2 := by omega
  obtain ⟨g, cap, hv, hnc, hcm, hgw, hbg⟩ := owns_form hown (by omega)
  subst hv
  have HO := Lib.hid hown
  have HL := Lib.hid hnl
  clear hown hnl
  go_enter Tryz.func107, Tryz.ntmps107
  go_wp2_with fail
  go_loopw [3] (fun i wr => ∃ k : Nat, k + 1 ≤ n ∧ i = .int .i64 (k + 1 : Nat) ∧ wr.ownsRow base 35 8 (.slice (some ⟨g, 0, none⟩) n cap) n (pts l) ∧ Below base w wr ∧ Hid (∀ (j : Nat) x y, j + 1 ≤ k → l[j]? = some x → l[j + 1]? = some y → x ≠ y)) (fun i _ => n - (intOf i).toNat)
  case atStart => exact ⟨0, by omega, rfl, HO.out, Below.refl _ _, Lib.hid (fun j x y h => by omega)⟩
  case round =>
   clear HO
   obtain ⟨k, hk, rfl, ho, hB, HA⟩ := hrel
   have O1 := Lib.hid ho
   clear ho
   by_cases hlt : k + 1 < n
   ·have i2 : ((k + 1 : Nat) : Int) < n := by omega
    have i3 : (k : Int) < n := by omega
    obtain ⟨x, hx⟩ : ∃ x, l[k]? = some x := ⟨_, List.getElem?_eq_getElem (by rw [← HL.out]; omega)⟩
    obtain ⟨y, hy⟩ : ∃ y, l[k + 1]? = some y := ⟨_, List.getElem?_eq_getElem (by rw [← HL.out]; omega)⟩
    have c1 := LX.at_ (owns_viewP O1.out) hx
    have c2 := LX.at_ (owns_viewP O1.out) hy
    have d1 := fun b : Bel wr => c1.bel b
    have d2 := fun b : Bel wr => c2.bel b
    simp only [CE, Nat.zero_add] at d1 d2
    have e1 : ((k + 1 : Nat) : Int) - 1 = (k : Int) := by omega
    have e2 : IntKind.i64.wrap (((k + 1 : Nat) : Int) - 1) = (k : Int) := by simp [IntKind.wrap, IntKind.bits, IntKind.signed]; omega
    have e3 : wrap64 (((k + 1 : Nat) : Int) - 1) = (k : Int) := by unfold wrap64; omega
    have HX := Lib.hid hx
    have HY := Lib.hid hy
    clear hx hy c1 c2
    by_cases hdup : y = x
    ·have EQ := fun W => eqP_in y x W
     rw [decide_eq_true hdup] at EQ
     have HDUP := Lib.hid hdup
     clear hdup
     go_wp2_with fail
     refine wp_region_all (by kernel_rfl) (by kernel_rfl) ?_
     repeat (go_big_quiet_step (fail))
     refine wpQuiet_nil ?_
     intro w1 hb1
     have hB1 := hB.trans (hb1.mono (Nat.le_trans hbg (Nat.le_of_lt (Nat.lt_of_lt_of_le hgw hB.size))))
     have O2 := Lib.hid (owns_up O1.out hb1)
     clear d1 d2 O1 EQ
     have i4 : ((k + 1 : Nat) : Int) ≤ n := by omega
     have i5 : (n : Int) ≤ cap := by omega
     have HST : Hid (DdI l l (k + 1) (k + 1 + 0 + 1)) := Lib.hid ⟨by
      rw [Nat.add_zero, dd_step HX.out HY.out, if_pos HDUP.out.symm, dd_all (by rw [← HL.out]; omega) HA.out], rfl, rfl⟩
     go_wp2_with fail
     go_loopw [3, 5] (fun i j wr => CmpRel base g cap n k l w i j wr) (fun _ j _ => n - (k + 1) - (intOf j).toNat)
     case atStart => exact CmpRel.mk (k + 1) 0 l rfl rfl (Nat.le_refl _) (by omega) (by omega) O2.out hB1 HST
     case round =>
      clear O2 HST hB1 hb1 e1 e2 e3 HX HY HDUP hB HA
      obtain ⟨m, p, r, rfl, rfl, hm1, hm2, hp, ho, hB, HI⟩ := hrel
      obtain ⟨wq, hwq⟩ : ∃ W_, W_ = wr := ⟨_, rfl⟩
      subst hwq
      have O3 := Lib.hid ho
      clear ho
      have e1 : ((p + 1 : Nat) : Int) - 1 = (p : Int) := by omega
      have e2 : IntKind.i64.wrap (((p + 1 : Nat) : Int) - 1) = (p : Int) := by simp [IntKind.wrap, IntKind.bits, IntKind.signed]; omega
      have e3 : wrap64 (((p + 1 : Nat) : Int) - 1) = (p : Int) := by unfold wrap64; omega
      by_cases hlt2 : k + 2 + p < n
      ·have j1 : ((p + 1 : Nat) : Int) < ((n - (k + 1) : Nat) : Int) := by omega
       have j2 : (p : Int) < ((n - (k + 1) : Nat) : Int) := by omega
       have j3 : (m : Int) < n := by omega
       obtain ⟨x, hx⟩ : ∃ x, l[k + 1 + p]? = some x := ⟨_, List.getElem?_eq_getElem (by rw [← HL.out]; omega)⟩
       obtain ⟨y, hy⟩ : ∃ y, l[k + 1 + p + 1]? = some y := ⟨_, List.getElem?_eq_getElem (by rw [← HL.out]; omega)⟩
       have c1 : CE wq g ((k + 1) * 8 + p * 8) x := by
        have := LX.at_ (owns_viewP O3.out) ((HI.out.at_ (by omega)).trans hx)
        rwa [show 0 + (k + 1 + p) * 8 = (k + 1) * 8 + p * 8 by omega] at this
       have c2 : CE wq g ((k + 1) * 8 + (p + 1) * 8) y := by
        have := LX.at_ (owns_viewP O3.out) ((HI.out.at_ (by omega)).trans hy)
        rwa [show 0 + (k + 1 + p + 1) * 8 = (k + 1) * 8 + (p + 1) * 8 by omega] at this
       have d1 := fun b : Bel wq => c1.bel b
       have d2 := fun b : Bel wq => c2.bel b
       simp only [CE] at d1 d2
       have HX := Lib.hid hx
       have HY := Lib.hid hy
       clear hx hy c1
       by_cases hdup : y = x
       ·have EQ := fun W => eqP_in y x W
        rw [decide_eq_true hdup] at EQ
        have HDUP := Lib.hid hdup
        clear hdup
        go_wp2_with fail
        refine wp_region_all (by kernel_rfl) (by kernel_rfl) ?_
        repeat (go_big_quiet_step (fail))
        refine wpQuiet_nil ?_
        intro w2 hb2
        have hB2 := hB.trans (hb2.mono (Nat.le_trans hbg (Nat.le_of_lt (Nat.lt_of_lt_of_le hgw hB.size))))
        have O4 := Lib.hid (owns_up O3.out hb2)
        clear d1 d2 O3 EQ
        go_wp2
        go_roundw
        case rel => exact CmpRel.mk m (p + 1) r rfl (congrArg (Value.int .i64) (by omega)) (by omega) (by omega) (by omega) O4.out hB2 (Lib.hid (DdI.same HI.out HX.out (by rw [← HDUP.out]; exact HY.out)))
        case measure => simp [intOf]; omega
       ·have EQ := fun W => eqP_in y x W
        rw [decide_eq_false hdup] at EQ
        have HDUP := Lib.hid hdup
        clear hdup
        go_wp2_with fail
        refine wp_region_all (by kernel_rfl) (by kernel_rfl) ?_
        repeat (go_big_quiet_step (fail))
        refine wpQuiet_nil ?_
        intro w2 hb2
        have hB2 := hB.trans (hb2.mono (Nat.le_trans hbg (Nat.le_of_lt (Nat.lt_of_lt_of_le hgw hB.size))))
        have O4 := Lib.hid (owns_up O3.out hb2)
        have uc := c2.up hb2
        simp only [CE] at uc
        clear d1 d2 O3 EQ c2
        have OS : Hid ((w2.setCells g (m * 8) (#[.bool (ng y.1.num), .string (mg y.1.num.natAbs), .bool false, .string (mg (dn y.1)), .bool (ng y.2.num), .string (mg y.2.num.natAbs), .bool false, .string (mg (dn y.2))] : Array Value).toList).ownsRow base 35 8 (.slice (some ⟨g, 0, none⟩) n cap) n (pts (r.set m y))) := Lib.hid (own_setPt O4.out (by omega) y)
        have BS : Hid (Below base w (w2.setCells g (m * 8) (#[.bool (ng y.1.num), .string (mg y.1.num.natAbs), .bool false, .string (mg (dn y.1)), .bool (ng y.2.num), .string (mg y.2.num.natAbs), .bool false, .string (mg (dn y.2))] : Array Value).toList)) := Lib.hid (below_setCells hbg _ _ _ hB2)
        have DS := Lib.hid (DdI.more HI.out HX.out HY.out HDUP.out (by omega))
        have HTH := Lib.hid (own_there (m := 8) O4.out (show m * 8 + 8 ≤ n * 8 by omega))
        go_wp2_with (refine wpList_store_mid rfl 35 _ _ rfl _ _ _ (by rfl) (by rfl) (by simpa using HTH.out) (by kernel_rfl) (by simp [Value.oneCell']) ?_)
        go_roundw
        case rel => exact CmpRel.mk (m + 1) (p + 1) (r.set m y) (congrArg (Value.int .i64) (by omega)) (congrArg (Value.int .i64) (by omega)) (by omega) (by omega) (by omega) (by first | with_reducible exact OS.out | simpa using OS.out) (by first | with_reducible exact BS.out | simpa using BS.out) DS
        case measure => simp [intOf]; omega
      ·have j1 : ¬ ((p + 1 : Nat) : Int) < ((n - (k + 1) : Nat) : Int) := by omega
       have j3 : (m : Int) ≤ n := by omega
       have j4 : ¬ cap = m := by omega
       obtain ⟨cs, hcl⟩ := run_clear_pts wq g (m * 8) (n - m) (cap - m) (by omega) (own_there O3.out (by omega))
       have HD : Hid (r.take m = dd l) := Lib.hid (by
        rw [HI.out.1, show k + 1 + p + 1 = l.length by have := HL.out; omega, List.take_length])
       have HM : Hid ((dd l).length = m) := Lib.hid (by rw [← HD.out, List.length_take, HI.out.2.2]; have := HL.out; omega)
       go_wp2
       go_ret
       exact ⟨_, rfl, by rw [HM.out, ← HD.out]; exact own_clear O3.out (by omega) cs, below_setCells hbg _ _ _ hB⟩
    ·have EQ := fun W => eqP_in y x W
     rw [decide_eq_false hdup] at EQ
     have HDUP := Lib.hid hdup
     clear hdup
     go_wp2_with fail
     refine wp_region_all (by kernel_rfl) (by kernel_rfl) ?_
     repeat (go_big_quiet_step (fail))
     refine wpQuiet_nil ?_
     intro w1 hb1
     have hB1 := hB.trans (hb1.mono (Nat.le_trans hbg (Nat.le_of_lt (Nat.lt_of_lt_of_le hgw hB.size))))
     have O2 := Lib.hid (owns_up O1.out hb1)
     clear d1 d2 O1
     have HA2 : Hid (∀ (j : Nat) x y, j + 1 ≤ k + 1 → l[j]? = some x → l[j + 1]? = some y → x ≠ y) := Lib.hid (fun j x' y' hj h1 h2 => by
      rcases Nat.lt_or_ge j k with hlt | hge
      ·exact HA.out j x' y' hlt h1 h2
      ·obtain rfl : j = k := by omega
       have e1 := HX.out; have e2 := HY.out
       rw [h1] at e1; rw [h2] at e2
       cases e1; cases e2
       exact fun e => HDUP.out e.symm)
     go_wp2
     go_roundw
     case rel => exact ⟨k + 1, by omega, congrArg (Value.int .i64) (by omega), O2.out, hB1, HA2⟩
     case measure => simp [intOf]; omega
   ·have i2 : ¬ ((k + 1 : Nat) : Int) < n := by omega
    have HE : Hid (dd l = l) := Lib.hid (by
     have e : k + 1 = l.length := by have := HL.out; omega
     have := dd_all (l := l) (m := k) (by omega) HA.out
     rw [e, List.take_length] at this
     exact this)
    go_wp2
    go_ret
    exact ⟨_, rfl, by rw [HE.out, ← HL.out]; exact O1.out, hB⟩
end Go.Proofs.YtdkkjfnpinckjaaGreatDoor
