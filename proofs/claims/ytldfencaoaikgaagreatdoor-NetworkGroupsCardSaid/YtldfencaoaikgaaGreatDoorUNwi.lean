/-
  The network of a grid.
-/
import Derived.Test.YtldfencaoaikgaaGreatDoorUNe
import Derived.Test.YtldfencaoaikgaaGreatDoorUMs
set_option linter.unusedSimpArgs false
set_option linter.unusedVariables false
namespace Go.Proofs.YtldfencaoaikgaaGreatDoor
open Go Go.RowKit Nw

/-- A spot, a lane: small numbers. -/
structure St where
  x : Int
  y : Int
structure La where
  f : Int
  t : Int
  e : Int
  m : Int
  o : Bool
def U8 (x : Int) : Prop := 0 ≤ x ∧ x ≤ 255
def stc (s : St) : List Value := [.int .u8 s.x, .int .u8 s.y]
def lac (s : La) : List Value := [.int .u8 s.f, .int .u8 s.t, .int .u8 s.e, .int .u8 s.m, .bool s.o]
def sts (l : List St) : List Value := l.flatMap stc
def las (l : List La) : List Value := l.flatMap lac
def CST (w : World) (g i : Nat) (x : St) : Prop := At w g i (stc x)
def CLA (w : World) (g i : Nat) (x : La) : Prop := At w g i (lac x)
theorem CST.bel {W : World} {g i : Nat} {x : St} (h : CST W g i x) (b : Bel W) : CST b.w1 g i x := At.up h b.h
theorem CLA.bel {W : World} {g i : Nat} {x : La} (h : CLA W g i x) (b : Bel W) : CLA b.w1 g i x := At.up h b.h
theorem kpST : Kp CST := ⟨fun h hb => At.up h hb⟩
def STL (w : World) (v : Value) (l : List St) : Prop := Sl w v l.length 2 (sts l) ∨ Odd v l.length
def LAL (w : World) (v : Value) (l : List La) : Prop := Sl w v l.length 5 (las l) ∨ Odd v l.length
theorem STL.open_ {w : World} {v : Value} {l : List St} (h : STL w v l) : ∃ A c, v = .slice A l.length c ∧ l.length ≤ c ∧ c ≤ maxLen ∧ LX CST 2 w A l :=
  h.elim (sl_open stc 2 (fun _ => rfl) (fun _ _ _ x H => At.mk _ _ fun j u hj => H j u (by have := (List.getElem?_eq_some_iff.1 hj).1; simpa [stc] using this) hj)) Odd.open_
theorem slla_open {w : World} {v : Value} {l : List La} (h : Sl w v l.length 5 (las l)) : ∃ A c, v = .slice A l.length c ∧ l.length ≤ c ∧ c ≤ maxLen ∧ LX CLA 5 w A l :=
  sl_open lac 5 (fun _ => rfl) (fun _ _ _ x H => At.mk _ _ fun j u hj => H j u (by have := (List.getElem?_eq_some_iff.1 hj).1; simpa [lac] using this) hj) h
theorem LAL.open_ {w : World} {v : Value} {l : List La} (h : LAL w v l) : ∃ A c, v = .slice A l.length c ∧ l.length ≤ c ∧ c ≤ maxLen ∧ LX CLA 5 w A l :=
  h.elim slla_open Odd.open_
theorem LAL.up {w w1 : World} {v : Value} {l : List La} (h : LAL w v l) (hb : Below w.heap.size w w1) : LAL w1 v l := h.imp (fun h => Sl.up h hb) id
/-- v holds a grid. -/
def GV (w : World) (v : Value) (sp : List St) (la : List La) : Prop := ∃ a b, v = .agg #[a, b] ∧ STL w a sp ∧ LAL w b la
theorem GV.up {w w1 : World} {v : Value} {sp : List St} {la : List La} (h : GV w v sp la) (hb : Below w.heap.size w w1) : GV w1 v sp la := by
  obtain ⟨a, b, e, h1, h2⟩ := h
  exact ⟨a, b, e, h1.imp (fun h => Sl.up h hb) id, h2.up hb⟩
/-- What a grid's numbers are. -/
def GU (sp : List St) (la : List La) : Prop := (∀ s ∈ sp, U8 s.x ∧ U8 s.y) ∧ ∀ s ∈ la, U8 s.f ∧ U8 s.t ∧ U8 s.e ∧ U8 s.m
theorem nd_oneo {w : World} {B : Nat} (hB : B ≤ w.heap.size) (s : Nd) : (w.alloc (.cells (ndc s).toArray 53)).ownsRow B 53 3 (.slice (some ⟨w.heap.size, 0, none⟩) 1 1) 1 (nds [s]) := by
  have := World.ownsRow_lit (base := B) (e := 53) (size := 3) w (ndc s).toArray 1 hB (by simp [maxLen]) (by simp [ndc])
  simpa [nds] using this
theorem nds_snoc (l : List Nd) (x : Nd) : nds (l ++ [x]) = nds l ++ ndc x := by simp [nds]
theorem rds_snoc (l : List Rd) (x : Rd) : rds (l ++ [x]) = rds l ++ rdc x := by simp [rds]
theorem nds_len (l : List Nd) : (nds l).length = l.length * 3 := by rw [nds, flat_length ndc 3 (fun _ => rfl)]
theorem owns_lenN {w : World} {base n : Nat} {v : Value} {l : List Nd} (h : w.ownsRow base 53 3 v n (nds l)) : n = l.length := by
  have := h.1; rw [nds_len] at this; omega
theorem owns_viewN {w : World} {base n g cap : Nat} {l : List Nd} (h : w.ownsRow base 53 3 (.slice (some ⟨g, 0, none⟩) n cap) n (nds l)) : LX CN 3 w (some ⟨g, 0, none⟩) l := by
  obtain ⟨A, c, hv, _, _, hx⟩ := (nl_own h).open_
  have e := owns_lenN h
  subst e
  cases hv
  exact hx
/-- What is left of a small number. -/
theorem u8_rem {x : Int} (h : U8 x) (m : Int) (h0 : 0 < m) (h1 : m ≤ 255) : ∃ a, a = x % m ∧ x % m = a ∧ x.tmod m = a ∧ IntKind.u8.wrap a = a ∧ IntKind.i64.wrap a = a ∧ wrap64 a = a ∧ 0 ≤ a ∧ a < m := by
  have e1 := Int.emod_nonneg x (Int.ne_of_gt h0)
  have e2 := Int.emod_lt_of_pos x h0
  refine ⟨x % m, rfl, rfl, Int.tmod_eq_emod_of_nonneg h.1, ?_, ?_, ?_, e1, e2⟩
  · simp [IntKind.wrap, IntKind.bits, IntKind.signed]; omega
  · simp [IntKind.wrap, IntKind.bits, IntKind.signed]; omega
  · unfold wrap64; omega
theorem i64_small {a : Int} (h1 : -1000000000000 ≤ a) (h2 : a ≤ 1000000000000) : IntKind.i64.wrap a = a ∧ wrap64 a = a := by
  constructor
  · simp [IntKind.wrap, IntKind.bits, IntKind.signed]; omega
  · unfold wrap64; omega
/-- The nodes of a grid, so far. -/
def Gn (l : List Nd) : Prop := ∀ (k : Nat) (x : Nd), l[k]? = some x → x.i = 2 + 3 * (k : Int) ∧ 0 ≤ x.x ∧ x.x ≤ 31 ∧ 0 ≤ x.y ∧ x.y ≤ 31
theorem Gn.snoc {l : List Nd} (h : Gn l) {x : Nd} (hx : x.i = 2 + 3 * (l.length : Int) ∧ 0 ≤ x.x ∧ x.x ≤ 31 ∧ 0 ≤ x.y ∧ x.y ≤ 31) : Gn (l ++ [x]) := fun k y hy => by
  by_cases hk : k < l.length
  · rw [List.getElem?_append_left hk] at hy; exact h k y hy
  · rw [List.getElem?_append_right (by omega)] at hy
    have : k - l.length = 0 := by
      rcases Nat.eq_zero_or_pos (k - l.length) with q | q
      · exact q
      · rw [List.getElem?_eq_none (by simp; omega)] at hy; cases hy
    rw [this] at hy; simp at hy; subst hy
    have e : k = l.length := by omega
    subst e; exact hx
theorem gn_one : Gn [⟨2, 0, 0⟩] := fun k x h => by
  cases k with
  | zero => simp at h; subst h; decide
  | succ k => simp at h

theorem las_take (l : List La) (m : Nat) : las (l.take m) = (las l).take (m * 5) := by
  unfold las
  induction l generalizing m with
  | nil => simp
  | cons a l ih =>
    cases m with
    | zero => simp
    | succ m => rw [List.take_succ_cons, List.flatMap_cons, List.flatMap_cons, ih, show (m + 1) * 5 = (lac a).length + m * 5 from by simp only [lac, List.length_cons, List.length_nil]; omega]; exact (List.take_length_add_append _).symm
theorem las_one (l : List La) : ∀ u ∈ las l, u.oneCell' = true := by
  intro u hu
  obtain ⟨x, _, hx⟩ := List.mem_flatMap.1 hu
  simp only [lac, List.mem_cons, List.not_mem_nil, or_false] at hx
  rcases hx with rfl | rfl | rfl | rfl | rfl <;> rfl
theorem las_len (l : List La) : (las l).length = l.length * 5 := by rw [las, flat_length lac 5 (fun _ => rfl)]
theorem ti_la : TI Tryz.prog 27 105 5 5 := ⟨Tryz.underlying27, by kernel_rfl, by decide⟩
theorem owns_emptyL (w : World) : (w.alloc (.cells #[] 105)).ownsRow w.heap.size 105 5 (.slice (some ⟨w.heap.size, 0, none⟩) 0 0) 0 [] :=
  ⟨rfl, .inr ⟨w.heap.size, 0, #[], rfl, Nat.le_refl _, heap_alloc_new w _, Nat.le_refl _, by simp [maxLen], rfl, rfl⟩⟩
theorem la_own {w : World} {base n : Nat} {v : Value} {l : List La} (h : w.ownsRow base 105 5 v n (las l)) : Sl w v l.length 5 (las l) := by
  have e : n = l.length := by have := h.1; rw [las_len] at this; omega
  subst e
  exact Sl.of_own h
theorem owns_openL {w : World} {base n : Nat} {v : Value} {l : List La} (h : w.ownsRow base 105 5 v n (las l)) : n = l.length ∧ ∃ A c, v = .slice A n c := by
  have e : n = l.length := by have := h.1; rw [las_len] at this; omega
  subst e
  obtain ⟨A, c, hv, _⟩ := slla_open (la_own h)
  exact ⟨rfl, A, c, hv⟩
theorem owns_viewL {w : World} {base n g cap : Nat} {l : List La} (h : w.ownsRow base 105 5 (.slice (some ⟨g, 0, none⟩) n cap) n (las l)) : LX CLA 5 w (some ⟨g, 0, none⟩) l := by
  obtain ⟨A, c, hv, _, _, hx⟩ := slla_open (la_own h)
  have e : n = l.length := by have := h.1; rw [las_len] at this; omega
  subst e
  cases hv
  exact hx
/-- The first m elements, at the operation. -/
theorem wpList_slice_lanes {w : World} {ops : Array Oper} {rest : List Oper} {o : Oper} {a : Act} {Q : Exit → Act → World → Prop} {v : Value} {n m : Nat} {l : List La}
    (hg : o.guard = none) (x hi : Operand) (hop : o.op = Op.slice 27 x none (some hi) none) (hS : LAL w v l) (hn : l.length = n) (hm : m ≤ n) (hx : a.eval x = v) (hhi : a.eval hi = .int .i64 (m : Int))
    (hK : ∀ v1, (Sl w v1 m 5 (las (l.take m)) ∨ (Odd v1 m ∧ las (l.take m) = [])) → wpList Tryz.prog ops Q rest (a.put o.dst v1) w) : wpList Tryz.prog ops Q (o :: rest) a w := by
  subst hn
  have hsz := Tryz.sizeOf105
  obtain ⟨v1, hrun, h1⟩ : ∃ v1, (Instr.slice 27 v none (some (.int .i64 (m : Int))) none).run Tryz.prog w = .ok v1 w ∧ (Sl w v1 m 5 (las (l.take m)) ∨ (Odd v1 m ∧ las (l.take m) = [])) := by
    rcases hS with hS | ⟨h0, b, c, rfl, hmx⟩
    case inr =>
      obtain rfl : m = 0 := by omega
      refine ⟨.slice (some b) 0 c, ?_, .inr ⟨⟨rfl, b, c, rfl, hmx⟩, by rw [List.take_zero]; rfl⟩⟩
      simp [Instr.slice, run_underlying Tryz.underlying27, Instr.sliceBounds, Instr.sliceBound, asIntOf, go_sem]
    rcases hS.2 with ⟨rfl, h0⟩ | ⟨g, o, c, rfl, hc, hmx, hcell⟩
    · obtain rfl : m = 0 := by omega
      refine ⟨.slice none 0 0, ?_, .inl (by rw [List.take_zero]; exact Sl.nil w 5)⟩
      simp [Instr.slice, run_underlying Tryz.underlying27, Instr.sliceBounds, Instr.sliceBound, asIntOf, go_sem]
    · have hm' : (m : Int) ≤ c := by omega
      refine ⟨.slice (some ⟨g, o, none⟩) m c, ?_, .inl (by rw [las_take]; exact Sl.take (n := l.length) (c := c) ⟨hS.1, .inr ⟨g, o, c, rfl, hc, hmx, hcell⟩⟩ m hm)⟩
      simp [Instr.slice, run_underlying Tryz.underlying27, Instr.sliceBounds, Instr.sliceBound, asIntOf, go_sem, hm']
      intro h_; omega
  refine wpList_plain hg fun K' hK' => ?_
  have hr2 : (Instr.sliceAt 27 v none (some (.int .i64 (m : Int))) none).run Tryz.prog w = .ok v1 w := by
    rw [← hrun]; simp [Instr.sliceAt, run_underlying Tryz.underlying27]
  unfold Oper.wp
  simp [execOp, hop, hx, hhi, hr2, Result.andThen]
  exact hK' _ _ (hK v1 h1)
theorem int_rem {x : Int} (h : U8 x) {n : Nat} (h0 : 0 < n) (hn : n ≤ 100) : ∃ a : Nat, x % (n : Int) = a ∧ x.tmod (n : Int) = a ∧ IntKind.i64.wrap (a : Int) = a ∧ wrap64 (a : Int) = a ∧ a < n := by
  have e1 := Int.emod_nonneg x (show (n : Int) ≠ 0 by omega)
  have e2 := Int.emod_lt_of_pos x (show (0 : Int) < n by omega)
  obtain ⟨a, ha⟩ : ∃ a : Nat, x % (n : Int) = a := ⟨(x % (n : Int)).toNat, by omega⟩
  have := i64_small (a := (a : Int)) (by omega) (by omega)
  exact ⟨a, ha, by rw [Int.tmod_eq_emod_of_nonneg h.1]; exact ha, this.1, this.2, by omega⟩
theorem int_remH {x : Int} (h : U8 x) {n : Nat} (h0 : 0 < n) (hn : n ≤ 100) : ∃ a : Nat, Hid (x % (n : Int) = a ∧ x.tmod (n : Int) = a ∧ IntKind.i64.wrap (a : Int) = a ∧ wrap64 (a : Int) = a ∧ IntKind.i64.wrap x = x ∧ wrap64 x = x) ∧ a < n := by
  obtain ⟨a, h1, h2, h3, h4, h5⟩ := int_rem h h0 hn
  obtain ⟨h6, h7⟩ := i64_small (a := x) (by have := h.1; omega) (by have := h.2; omega)
  exact ⟨a, Lib.hid ⟨h1, h2, h3, h4, h6, h7⟩, h5⟩
theorem u8_remH {x : Int} (h : U8 x) (m : Int) (h0 : 0 < m) (h1 : m ≤ 255) : ∃ a, Hid (x % m = a ∧ x.tmod m = a ∧ IntKind.u8.wrap a = a ∧ IntKind.i64.wrap a = a ∧ wrap64 a = a) ∧ 0 ≤ a ∧ a < m := by
  obtain ⟨a, _, h2, h3, h4, h5, h6, h7, h8⟩ := u8_rem h m h0 h1
  exact ⟨a, Lib.hid ⟨h2, h3, h4, h5, h6⟩, h7, h8⟩
theorem sq_31 {x y : Int} (h1 : 0 ≤ x) (h2 : x ≤ 31) (h3 : 0 ≤ y) (h4 : y ≤ 31) : ∃ d p, d = x - y ∧ x - y = d ∧ d * d = p ∧ 0 ≤ p ∧ p ≤ 961 ∧ -31 ≤ d ∧ d ≤ 31 := by
  refine ⟨x - y, (x - y) * (x - y), rfl, rfl, rfl, ?_, ?_, by omega, by omega⟩
  · rw [← Int.natAbs_mul_self]; omega
  · rw [← Int.natAbs_mul_self]
    have h : (x - y).natAbs ≤ 31 := by omega
    have := Nat.mul_le_mul h h
    omega
theorem d_pack {a b : Nd} (a1 : 0 ≤ a.x) (a2 : a.x ≤ 31) (a3 : 0 ≤ a.y) (a4 : a.y ≤ 31) (b1 : 0 ≤ b.x) (b2 : b.x ≤ 31) (b3 : 0 ≤ b.y) (b4 : b.y ≤ 31) : ∃ dx dy px py : Int,
    Hid (dx = a.x - b.x ∧ dy = a.y - b.y ∧ dx * dx = px ∧ dy * dy = py) ∧
    Hid (a.x - b.x = dx ∧ a.y - b.y = dy ∧ dx * dx = px ∧ dy * dy = py ∧ IntKind.i64.wrap dx = dx ∧ wrap64 dx = dx ∧ IntKind.i64.wrap dy = dy ∧ wrap64 dy = dy ∧ IntKind.i64.wrap px = px ∧ wrap64 px = px ∧ IntKind.i64.wrap py = py ∧ wrap64 py = py ∧ IntKind.i64.wrap (px + py) = px + py ∧ wrap64 (px + py) = px + py) ∧ 0 ≤ px ∧ px ≤ 961 ∧ 0 ≤ py ∧ py ≤ 961 := by
  obtain ⟨dx, px, e1, e2, e3, h1, h2, h3, h4⟩ := sq_31 a1 a2 b1 b2
  obtain ⟨dy, py, f1, f2, f3, k1, k2, k3, k4⟩ := sq_31 a3 a4 b3 b4
  have wd := i64_small (a := dx) (by omega) (by omega)
  have we := i64_small (a := dy) (by omega) (by omega)
  have wp := i64_small (a := px) (by omega) (by omega)
  have wq := i64_small (a := py) (by omega) (by omega)
  have wr := i64_small (a := px + py) (by omega) (by omega)
  exact ⟨dx, dy, px, py, Lib.hid ⟨e1, f1, e3, f3⟩, Lib.hid ⟨e2, f2, e3, f3, wd.1, wd.2, we.1, we.2, wp.1, wp.2, wq.1, wq.2, wr.1, wr.2⟩, h1, h2, k1, k2⟩
theorem sq_z {z : Nat} (h : z ≤ 44) : ∃ zz : Int, zz = (z : Int) * z ∧ (z : Int) * (z : Int) = zz ∧ 0 ≤ zz ∧ zz ≤ 1936 ∧ (zz < 1936 → z ≤ 43) := by
  have := Nat.mul_le_mul h h
  have e : ((z * z : Nat) : Int) = (z : Int) * z := by simp
  refine ⟨(z : Int) * z, rfl, rfl, by omega, by omega, fun q => ?_⟩
  rcases Nat.lt_or_ge z 44 with k | k
  · omega
  · have : z = 44 := by omega
    subst this; simp at q
/-- The roads of a grid, so far. -/
def Gr (l : List Nd) (R : List Rd) : Prop := ∀ (k : Nat) (x : Rd), R[k]? = some x → x.i = 1 + 2 * (k : Int) ∧ ∃ a ∈ l, ∃ b ∈ l, x.f = a.i ∧ x.t = b.i ∧ a.i ≠ b.i ∧ (a.x - b.x) * (a.x - b.x) + (a.y - b.y) * (a.y - b.y) ≤ x.l * x.l ∧ 1 ≤ x.l ∧ x.l ≤ 50 ∧ 1 ≤ x.m ∧ x.m ≤ 5
theorem gr_nil (l : List Nd) : Gr l [] := fun k x h => by simp at h
theorem Gr.snoc {l : List Nd} {R : List Rd} (h : Gr l R) {x : Rd} (hi : x.i = 1 + 2 * (R.length : Int)) (hx : ∃ a ∈ l, ∃ b ∈ l, x.f = a.i ∧ x.t = b.i ∧ a.i ≠ b.i ∧ (a.x - b.x) * (a.x - b.x) + (a.y - b.y) * (a.y - b.y) ≤ x.l * x.l ∧ 1 ≤ x.l ∧ x.l ≤ 50 ∧ 1 ≤ x.m ∧ x.m ≤ 5) : Gr l (R ++ [x]) := fun k y hy => by
  by_cases hk : k < R.length
  · rw [List.getElem?_append_left hk] at hy; exact h k y hy
  · rw [List.getElem?_append_right (by omega)] at hy
    have : k - R.length = 0 := by
      rcases Nat.eq_zero_or_pos (k - R.length) with q | q
      · exact q
      · rw [List.getElem?_eq_none (by simp; omega)] at hy; cases hy
    rw [this] at hy; simp at hy; subst hy
    have e : k = R.length := by omega
    subst e; exact ⟨hi, hx⟩
/-- What the network of a grid is. -/
structure Gok (N : Net) : Prop where
  g : Vld N
  n2 : 2 ≤ N.ns.length
  n8 : N.ns.length ≤ 8
  r1 : 1 ≤ N.rs.length
  r13 : N.rs.length ≤ 13
  ll : ∀ r ∈ N.rs, r.l ≤ 50
  c : ∀ r ∈ N.rs, roadE N.ns r = 0
def NetR (w : World) (e : Ending) (w' : World) : Prop := ∃ v' N, e = .returned v' ∧ NV w' v' N ∧ Gok N ∧ Below w.heap.size w w'
theorem gok_of {l : List Nd} {R : List Rd} (hn : Gn l) (hr : Gr l R) (h2 : 2 ≤ l.length) (h8 : l.length ≤ 8) (r1 : 1 ≤ R.length) (r13 : R.length ≤ 13) : Gok ⟨l, R⟩ := by
  have hs : SrtN l := List.pairwise_iff_getElem.2 fun i j hi hj hij => by
    have e1 := (hn i _ (List.getElem?_eq_getElem hi)).1
    have e2 := (hn j _ (List.getElem?_eq_getElem hj)).1
    omega
  have hok : ∀ r ∈ R, r.ok l := fun r hm => by
    obtain ⟨k, hk, rfl⟩ := List.mem_iff_getElem.1 hm
    obtain ⟨e1, a, ha, b, hb, e2, e3, e4, e5, e6, e7, e8, e9⟩ := hr k _ (List.getElem?_eq_getElem hk)
    refine ⟨by omega, by omega, e6, by omega, e8, by omega, by rw [e2, e3]; exact e4, by rw [e2, fnd_in hs ha]; rfl, by rw [e3, fnd_in hs hb]; rfl⟩
  refine ⟨⟨by show l.length ≤ 256; omega, by show R.length ≤ 1024; omega, hs, List.pairwise_iff_getElem.2 fun i j hi hj hij => ?_, fun x hx => ?_, hok⟩, h2, h8, r1, r13, fun r hm => ?_, fun r hm => ?_⟩
  · have e1 := (hr i _ (List.getElem?_eq_getElem hi)).1
    have e2 := (hr j _ (List.getElem?_eq_getElem hj)).1
    omega
  · obtain ⟨k, hk, rfl⟩ := List.mem_iff_getElem.1 hx
    have hk' : k < l.length := hk
    have := hn k _ (List.getElem?_eq_getElem hk)
    exact ⟨by omega, by omega, by omega, by omega, by omega, by omega⟩
  · obtain ⟨k, hk, rfl⟩ := List.mem_iff_getElem.1 hm
    obtain ⟨_, a, _, b, _, h⟩ := hr k _ (List.getElem?_eq_getElem hk)
    exact h.2.2.2.2.2.1
  · obtain ⟨k, hk, rfl⟩ := List.mem_iff_getElem.1 hm
    have hk' : k < R.length := hk
    show roadE l R[k] = 0
    obtain ⟨_, a, ha, b, hb, e2, e3, e4, e5, e6, e7, e8, e9⟩ := hr k R[k] (List.getElem?_eq_getElem hk')
    have fa := fnd_in hs ha
    have fb := fnd_in hs hb
    rw [← e2] at fa
    rw [← e3] at fb
    unfold roadE
    rw [fa, fb]
    show roadX a b _ = 0
    unfold roadX
    rw [if_neg (by rw [e2, e3]; exact e4), if_neg]
    rintro (q | q | q | q | q)
    · omega
    · omega
    · omega
    · omega
    · exact absurd e5 (Int.not_le.2 q)

theorem road_len {a b : Nd} {dx dy px py zz e : Int} {z : Nat} (h1 : dx = a.x - b.x) (h2 : dy = a.y - b.y) (h3 : dx * dx = px) (h4 : dy * dy = py) (h5 : zz = (z : Int) * z) (h6 : ¬ zz < px + py) (h7 : 0 ≤ e) :
    (a.x - b.x) * (a.x - b.x) + (a.y - b.y) * (a.y - b.y) ≤ ((z : Int) + e) * (z + e) := by
  rw [← h1, ← h2, h3, h4]
  have h8 : (z : Int) * z ≤ ((z : Int) + e) * (z + e) := Int.mul_le_mul (by omega) (by omega) (by omega) (by omega)
  omega

set_option maxRecDepth 100000 in
set_option maxHeartbeats 40000000 in
theorem net_any (sp : List St) (la : List La) (v : Value) (w : World) (h : GV w v sp la) (hu : GU sp la) :
    Calls Tryz.prog 16 #[v] w fun e w' => NetR w e w' := by
  obtain ⟨_, _, rfl, ha, hb⟩ := h
  obtain ⟨As, cs, rfl, hcs, hms, hxs⟩ := ha.open_
  obtain ⟨Al, cl, rfl, hcl, hml, hxl⟩ := hb.open_
  have HXS := Lib.hid hxs
  have HXL := Lib.hid hxl
  have HLL := Lib.hid hb
  have HU := Lib.hid hu
  generalize hNs : sp.length = Ns at *
  generalize hNl : la.length = Nl at *
  have HNs := Lib.hid hNs
  have HNl := Lib.hid hNl
  have hms2 : Ns ≤ 9223372036854775807 := Nat.le_trans hcs (by simpa [maxLen] using hms)
  have hml2 : Nl ≤ 9223372036854775807 := Nat.le_trans hcl (by simpa [maxLen] using hml)
  clear ha hb hxs hxl hNs hNl hu
  go_enter Tryz.func16, Tryz.ntmps16
  go_upto_region 1 with fail
  refine wp_named ?_
  intro W1 hW1
  have hL1 : Below w.heap.size w W1 := by
    rw [hW1]
    repeat (first | with_reducible exact Below.refl _ _ | with_reducible refine bel_alloc ?_ _ | refine Below.setCell ?_ (by first | (simp; done) | (simp; omega) | omega) _)
  have c1 : Own W1 (w.heap.size) 0 [.slice As Ns cs, .slice Al Nl cl] := by
    rw [hW1]
    first
    | (repeat (first | (with_reducible refine own_new (l := [.slice As Ns cs, .slice Al Nl cl]) ?_; (simp; done)) | with_reducible refine Own.alloc ?_ _ | refine Own.far _ _ (by first | (simp; done) | (simp [*]; done) | (simp; omega)) ?_)); done
    | simp [Own, go_sem]
  have c2 : Own W1 (w.heap.size + 1) 0 [.slice none 0 0, .slice none 0 0] := by
    rw [hW1]
    first
    | (repeat (first | (with_reducible refine own_new (l := [.slice none 0 0, .slice none 0 0]) ?_; (simp; done)) | with_reducible refine Own.alloc ?_ _ | refine Own.far _ _ (by first | (simp; done) | (simp [*]; done) | (simp; omega)) ?_)); done
    | simp [Own, go_sem]
  have hB3 : Below w.heap.size w W1 := by
    rw [hW1]
    repeat (first | with_reducible exact Below.refl _ _ | with_reducible refine bel_alloc ?_ _ | refine Below.setCell ?_ (by first | (simp; done) | (simp; omega) | omega) _)
  clear hW1 hL1
  have hsW1 := c2.lt
  have uc1 := c1; have uc2 := c2
  simp only [At, Own, Nat.reduceAdd, and_true] at uc1 uc2
  go_upto_region 2 with fail
  refine wp_named ?_
  intro WN hWN
  have hLN : Below W1.heap.size W1 WN := by
    rw [hWN]
    repeat (first | with_reducible exact Below.refl _ _ | with_reducible refine bel_alloc ?_ _ | refine Below.setCell ?_ (by first | (simp; done) | (simp; omega) | omega) _)
  have ON0 : Hid (WN.ownsRow w.heap.size 53 3 (.slice (some ⟨W1.heap.size, 0, none⟩) 1 1) 1 (nds [⟨2, 0, 0⟩])) := Lib.hid (by
    rw [hWN]
    repeat (first | exact nd_oneo (hB3).size ⟨2, 0, 0⟩ | with_reducible refine World.ownsRow.alloc ?_ _))
  have cN0 : Own WN (W1.heap.size + 1) 0 [.slice (some ⟨W1.heap.size, 0, none⟩) 1 1, .slice none 0 0] := by
    rw [hWN]
    first
    | (repeat (first | (with_reducible refine own_new (l := [.slice (some ⟨W1.heap.size, 0, none⟩) 1 1, .slice none 0 0]) ?_; (simp; done)) | with_reducible refine Own.alloc ?_ _)); done
    | simp [Own, go_sem]
  clear hWN
  have f4 : Value.ownBlock (.slice (some ⟨W1.heap.size, 0, none⟩) 1 1) ≠ some (w.heap.size) := fun e_ => by have := mblk_block.1 e_; have := c1.lt; omega
  have f5 : Value.ownBlock (.slice (some ⟨W1.heap.size, 0, none⟩) 1 1) ≠ some (w.heap.size + 1) := fun e_ => by have := mblk_block.1 e_; have := c2.lt; omega
  have f6 : Value.ownBlock (.slice (some ⟨W1.heap.size, 0, none⟩) 1 1) ≠ some (W1.heap.size + 1) := fun e_ => by have := mblk_block.1 e_; omega
  have c7 := c1.up hLN
  have c8 := c2.up hLN
  have hB9 : Below w.heap.size w WN := bel_up hB3 hLN
  clear uc1 uc2 c1 c2
  go_wp2_with fail
  go_loopw [4] (fun s4 wr => ∃ (i : Nat) (n : Nat) (vN : Value) (l : List Nd), s4 = .int .i64 i ∧ Own wr (w.heap.size) 0 [.slice As Ns cs, .slice Al Nl cl] ∧ Own wr (w.heap.size + 1) 0 [.slice none 0 0, .slice none 0 0] ∧ Own wr (W1.heap.size + 1) 0 [vN, .slice none 0 0] ∧ wr.ownsRow w.heap.size 53 3 vN n (nds l) ∧ Value.ownBlock vN ≠ some (w.heap.size) ∧ Value.ownBlock vN ≠ some (w.heap.size + 1) ∧ Value.ownBlock vN ≠ some (W1.heap.size + 1) ∧ Below w.heap.size w wr ∧ i ≤ 7 ∧ i ≤ Ns ∧ n ≤ i + 1 ∧ 1 ≤ n ∧ Hid (Gn l) ∧ Hid (l.length = n)) (fun s4 _ => 7 - (intOf s4).toNat)
  case atStart => exact ⟨0, 1, (.slice (some ⟨W1.heap.size, 0, none⟩) 1 1), ([⟨2, 0, 0⟩]), rfl, c7, c8, cN0, ON0.out, f4, f5, f6, hB9, (by omega), (by omega), (by omega), (by omega), Lib.hid gn_one, Lib.hid rfl⟩
  case round =>
    clear c7 c8 cN0 hB9 ON0
    obtain ⟨i, n, vN, l, rfl, b10, b11, b12, o13, f14, f15, f16, hB17, hi7, hiN, hn, hn1, HGn, HLn⟩ := hrel
    obtain ⟨wr18, hwr18⟩ : ∃ W_, W_ = wr := ⟨_, rfl⟩
    subst hwr18
    have O19 := Lib.hid o13
    clear o13
    obtain ⟨gN, cN, hvN, -, -, hgN, -⟩ := owns_form O19.out (by omega)
    subst hvN
    by_cases hlt : i < Ns ∧ i < 7
    · skip
      have i1 : (i : Int) < Ns := by omega
      have i2 : (i : Int) < 7 := by omega
      obtain ⟨x20, hx21⟩ : ∃ x, sp[i]? = some x := ⟨_, List.getElem?_eq_getElem (by rw [HNs.out]; omega)⟩
      have Hhx21 := Lib.hid hx21
      clear hx21
      obtain ⟨hux, huy⟩ := HU.out.1 _ (List.mem_of_getElem? Hhx21.out)
      obtain ⟨ax, Hax_, ax1, ax2, ax3, ax4, ax5, ax6, ax7⟩ := u8_rem hux 32 (by decide) (by decide)
      have Hax := Lib.hid Hax_
      clear Hax_
      obtain ⟨ay, Hay_, ay1, ay2, ay3, ay4, ay5, ay6, ay7⟩ := u8_rem huy 32 (by decide) (by decide)
      have Hay := Lib.hid Hay_
      clear Hay_
      clear hux huy
      have ub10 := b10; have ub11 := b11; have ub12 := b12
      simp only [At, Own, Nat.reduceAdd, and_true] at ub10 ub11 ub12
      go_upto_region 5 with fail
      obtain ⟨g23, o24, ha25, -⟩ := (HXS.out).up kpST hB17 _ _ Hhx21.out
      subst ha25
      have ce22 := LX.at_ ((HXS.out).up kpST hB17) Hhx21.out
      have ce22_ : g23 < wr18.heap.size := World.block_lt_of_cell? _ _ ce22.1
      have HSS26 : ∀ w' : World, Below wr18.heap.size wr18 w' → (w'.cell? ⟨w.heap.size, 0, none⟩ = some (.slice (some ⟨g23, o24, none⟩) Ns cs) ∧ w'.cell? ⟨w.heap.size, 1, none⟩ = some (.slice Al Nl cl) ∧ w'.cell? ⟨g23, o24 + i * 2, none⟩ = some (.int .u8 x20.x) ∧ w'.cell? ⟨g23, o24 + i * 2 + 1, none⟩ = some (.int .u8 x20.y)) := fun w' hb => by
        have qb10 := b10.up hb; have qce22 := kpST.up ce22 hb
        simp only [CST, stc, At, At, Own, Nat.reduceAdd, Nat.reduceMul, Nat.zero_add, Nat.add_assoc, and_true] at qb10 qce22
        try simp only [Nat.add_assoc, Nat.reduceAdd]
        simp [*]
      go_cut [5, 6, 7] (fun x5 x6 x7 wx => x5 = .int .i64 ax ∧ x6 = .int .i64 ay ∧ x7 = .bool false ∧ Below wr18.heap.size wr18 wx)
      case first =>
        have hu := HSS26 wr18 (Below.refl _ _)
        go_region_held3 (fun w' => w'.cell? ⟨w.heap.size, 0, none⟩ = some (.slice (some ⟨g23, o24, none⟩) Ns cs) ∧ w'.cell? ⟨w.heap.size, 1, none⟩ = some (.slice Al Nl cl) ∧ w'.cell? ⟨g23, o24 + i * 2, none⟩ = some (.int .u8 x20.x) ∧ w'.cell? ⟨g23, o24 + i * 2 + 1, none⟩ = some (.int .u8 x20.y)) (refine HSS26 _ ?_ <;> (repeat (first | with_reducible exact Below.refl _ _ | with_reducible refine Below.drew ?_))) (fail)
        all_goals
          go_wp2_with fail
          go_meet
          exact ⟨rfl, rfl, rfl, by (repeat (first | with_reducible exact Below.refl _ _ | with_reducible refine Below.drew ?_))⟩
      case rest =>
        obtain ⟨rfl, rfl, rfl, hbz27⟩ := hcut
        obtain ⟨wz27, hwz27⟩ : ∃ W_, W_ = wc := ⟨_, rfl⟩
        subst hwz27
        clear HSS26
        have c28 := b10.up hbz27
        have c29 := b11.up hbz27
        have c30 := b12.up hbz27
        have O31 := Lib.hid (owns_up O19.out hbz27)
        have hB32 : Below w.heap.size w wz27 := bel_up hB17 hbz27
        clear ub10 ub11 ub12 b10 b11 b12 O19
        go_wp2_with fail
        go_loopw [7, 8] (fun s7 s8 wr => ∃ (j : Nat) (b : Bool), s7 = .bool b ∧ s8 = .int .i64 j ∧ Own wr (w.heap.size) 0 [.slice (some ⟨g23, o24, none⟩) Ns cs, .slice Al Nl cl] ∧ Own wr (w.heap.size + 1) 0 [.slice none 0 0, .slice none 0 0] ∧ Own wr (W1.heap.size + 1) 0 [(.slice (some ⟨gN, 0, none⟩) n cN), .slice none 0 0] ∧ wr.ownsRow w.heap.size 53 3 (.slice (some ⟨gN, 0, none⟩) n cN) n (nds l) ∧ Below w.heap.size w wr ∧ j ≤ n) (fun _ s8 _ => n - (intOf s8).toNat)
        case atStart => exact ⟨0, false, rfl, rfl, c28, c29, c30, O31.out, hB32, (by omega)⟩
        case round =>
          clear c28 c29 c30 hB32 O31
          obtain ⟨j, b, rfl, rfl, b33, b34, b35, o36, hB37, hj⟩ := hrel
          obtain ⟨wr38, hwr38⟩ : ∃ W_, W_ = wr := ⟨_, rfl⟩
          subst hwr38
          have O39 := Lib.hid o36
          clear o36
          by_cases hltj : j < n
          · skip
            have i1j : (j : Int) < n := by omega
            obtain ⟨y, hy⟩ : ∃ y, l[j]? = some y := ⟨_, List.getElem?_eq_getElem (by rw [HLn.out]; omega)⟩
            have HY := Lib.hid hy
            clear hy
            have ub33 := b33; have ub34 := b34; have ub35 := b35
            simp only [At, Own, Nat.reduceAdd, and_true] at ub33 ub34 ub35
            cases b
            · skip
              by_cases hc41 : (y.x : Int) = ax
              · skip
                by_cases hc43 : (y.y : Int) = ay
                · skip
                  have ce44 := LX.at_ (owns_viewN O39.out) HY.out
                  have uce44 := ce44
                  simp only [CN, ndc, At, Nat.reduceMul, Nat.zero_add] at uce44
                  go_wp2
                  go_roundw
                  case rel => exact ⟨(j + 1), true, (by first | rfl | exact congrArg (Value.int .i64) (by omega) | simp [*]), (by first | rfl | exact congrArg (Value.int .i64) (by omega) | simp [*]), (by repeat (first | with_reducible exact b33 | refine Own.far _ _ (by simp <;> omega) ?_ | with_reducible refine Own.alloc ?_ _)), (by repeat (first | with_reducible exact b34 | refine Own.far _ _ (by simp <;> omega) ?_ | with_reducible refine Own.alloc ?_ _)), (by repeat (first | with_reducible exact b35 | refine Own.far _ _ (by simp <;> omega) ?_ | with_reducible refine Own.alloc ?_ _)), (by repeat (first | with_reducible exact O39.out | refine owns_far ?_ _ (by first | exact f14 | exact f15 | exact f16) _ | with_reducible refine World.ownsRow.alloc ?_ _)), (by repeat (first | with_reducible exact hB37 | with_reducible refine bel_alloc ?_ _ | refine Below.setCell ?_ (by first | (simp; done) | (simp; omega) | omega) _)), (by omega)⟩
                  case measure => simp [intOf] <;> omega
                · skip
                  have hc43_ : (((y.y : Int)) == ay) = false := by simpa using hc43
                  have ce45 := LX.at_ (owns_viewN O39.out) HY.out
                  have uce45 := ce45
                  simp only [CN, ndc, At, Nat.reduceMul, Nat.zero_add] at uce45
                  go_wp2
                  go_roundw
                  case rel => exact ⟨(j + 1), false, (by first | rfl | exact congrArg (Value.int .i64) (by omega) | simp [*]), (by first | rfl | exact congrArg (Value.int .i64) (by omega) | simp [*]), (by repeat (first | with_reducible exact b33 | refine Own.far _ _ (by simp <;> omega) ?_ | with_reducible refine Own.alloc ?_ _)), (by repeat (first | with_reducible exact b34 | refine Own.far _ _ (by simp <;> omega) ?_ | with_reducible refine Own.alloc ?_ _)), (by repeat (first | with_reducible exact b35 | refine Own.far _ _ (by simp <;> omega) ?_ | with_reducible refine Own.alloc ?_ _)), (by repeat (first | with_reducible exact O39.out | refine owns_far ?_ _ (by first | exact f14 | exact f15 | exact f16) _ | with_reducible refine World.ownsRow.alloc ?_ _)), (by repeat (first | with_reducible exact hB37 | with_reducible refine bel_alloc ?_ _ | refine Below.setCell ?_ (by first | (simp; done) | (simp; omega) | omega) _)), (by omega)⟩
                  case measure => simp [intOf] <;> omega
              · skip
                have hc41_ : (((y.x : Int)) == ax) = false := by simpa using hc41
                have ce46 := LX.at_ (owns_viewN O39.out) HY.out
                have uce46 := ce46
                simp only [CN, ndc, At, Nat.reduceMul, Nat.zero_add] at uce46
                go_wp2
                go_roundw
                case rel => exact ⟨(j + 1), false, (by first | rfl | exact congrArg (Value.int .i64) (by omega) | simp [*]), (by first | rfl | exact congrArg (Value.int .i64) (by omega) | simp [*]), (by repeat (first | with_reducible exact b33 | refine Own.far _ _ (by simp <;> omega) ?_ | with_reducible refine Own.alloc ?_ _)), (by repeat (first | with_reducible exact b34 | refine Own.far _ _ (by simp <;> omega) ?_ | with_reducible refine Own.alloc ?_ _)), (by repeat (first | with_reducible exact b35 | refine Own.far _ _ (by simp <;> omega) ?_ | with_reducible refine Own.alloc ?_ _)), (by repeat (first | with_reducible exact O39.out | refine owns_far ?_ _ (by first | exact f14 | exact f15 | exact f16) _ | with_reducible refine World.ownsRow.alloc ?_ _)), (by repeat (first | with_reducible exact hB37 | with_reducible refine bel_alloc ?_ _ | refine Below.setCell ?_ (by first | (simp; done) | (simp; omega) | omega) _)), (by omega)⟩
                case measure => simp [intOf] <;> omega
            · skip
              go_wp2
              go_roundw
              case rel => exact ⟨(j + 1), true, (by first | rfl | exact congrArg (Value.int .i64) (by omega) | simp [*]), (by first | rfl | exact congrArg (Value.int .i64) (by omega) | simp [*]), (by repeat (first | with_reducible exact b33 | refine Own.far _ _ (by simp <;> omega) ?_ | with_reducible refine Own.alloc ?_ _)), (by repeat (first | with_reducible exact b34 | refine Own.far _ _ (by simp <;> omega) ?_ | with_reducible refine Own.alloc ?_ _)), (by repeat (first | with_reducible exact b35 | refine Own.far _ _ (by simp <;> omega) ?_ | with_reducible refine Own.alloc ?_ _)), (by repeat (first | with_reducible exact O39.out | refine owns_far ?_ _ (by first | exact f14 | exact f15 | exact f16) _ | with_reducible refine World.ownsRow.alloc ?_ _)), (by repeat (first | with_reducible exact hB37 | with_reducible refine bel_alloc ?_ _ | refine Below.setCell ?_ (by first | (simp; done) | (simp; omega) | omega) _)), (by omega)⟩
              case measure => simp [intOf] <;> omega
          · skip
            have hjn : n = j := by omega
            subst hjn
            have ub33 := b33; have ub34 := b34; have ub35 := b35
            simp only [At, Own, Nat.reduceAdd, and_true] at ub33 ub34 ub35
            cases b
            · skip
              go_wp2_with (at_builtin; refine wpList_appF rfl _ _ _ rfl ti_nd O39.out (hB37).size rfl rfl rfl rfl (ndc_one (Nd.mk (2 + (3 * n)) ax ay)) (by omega) (by decide) ?_)
              intro v47 w_v47 hown_v47 hst_v47
              have O49 : Hid (w_v47.ownsRow w.heap.size 53 3 v47 ((n + 1)) (nds (l ++ [(Nd.mk (2 + (3 * n)) ax ay)]))) := Lib.hid (by rw [nds_snoc]; exact hown_v47)
              have c50 := Own.step hst_v47 f14 b33
              have f51 := hst_v47.far _ b33.lt f14
              have c52 := Own.step hst_v47 f15 b34
              have f53 := hst_v47.far _ b34.lt f15
              have c54 := Own.step hst_v47 f16 b35
              have f55 := hst_v47.far _ b35.lt f16
              have hB56 : Below w.heap.size w w_v47 := hst_v47.below hB37 (hB37).size (fun r hr => (O39.out.lt r hr).1)
              clear ub33 ub34 ub35 hown_v47 b33 b34 b35
              obtain ⟨gr57, cr57, hvr57, -, -, -, -⟩ := owns_form O49.out (by omega)
              subst hvr57
              have uc50 := c50; have uc52 := c52; have uc54 := c54
              simp only [At, Own, Nat.reduceAdd, and_true] at uc50 uc52 uc54
              go_wp2
              go_roundw
              case rel => exact ⟨(i + 1), (n + 1), (.slice (some ⟨gr57, 0, none⟩) (n + 1) cr57), (l ++ [(Nd.mk (2 + (3 * n)) ax ay)]), (by first | rfl | exact congrArg (Value.int .i64) (by omega) | simp [*]), (by repeat (first | with_reducible exact c50 | refine Own.far _ _ (by simp <;> omega) ?_ | with_reducible refine Own.alloc ?_ _)), (by repeat (first | with_reducible exact c52 | refine Own.far _ _ (by simp <;> omega) ?_ | with_reducible refine Own.alloc ?_ _)), (by simp [Own, go_sem, uc50, uc52, uc54]), (by repeat (first | with_reducible exact O49.out | refine owns_far ?_ _ (by first | exact f51 | exact f53 | exact f55) _ | with_reducible refine World.ownsRow.alloc ?_ _)), f51, f53, f55, (by repeat (first | with_reducible exact hB56 | with_reducible refine bel_alloc ?_ _ | refine Below.setCell ?_ (by first | (simp; done) | (simp; omega) | omega) _)), (by omega), (by omega), (by omega), (by omega), Lib.hid (HGn.out.snoc ⟨by rw [HLn.out], ax6, (show ax ≤ 31 from by omega), ay6, (show ay ≤ 31 from by omega)⟩), Lib.hid (by rw [List.length_append, HLn.out]; rfl)⟩
              case measure => simp [intOf] <;> omega
            · skip
              go_wp2
              go_roundw
              case rel => exact ⟨(i + 1), n, (.slice (some ⟨gN, 0, none⟩) n cN), l, (by first | rfl | exact congrArg (Value.int .i64) (by omega) | simp [*]), (by repeat (first | with_reducible exact b33 | refine Own.far _ _ (by simp <;> omega) ?_ | with_reducible refine Own.alloc ?_ _)), (by repeat (first | with_reducible exact b34 | refine Own.far _ _ (by simp <;> omega) ?_ | with_reducible refine Own.alloc ?_ _)), (by repeat (first | with_reducible exact b35 | refine Own.far _ _ (by simp <;> omega) ?_ | with_reducible refine Own.alloc ?_ _)), (by repeat (first | with_reducible exact O39.out | refine owns_far ?_ _ (by first | exact f14 | exact f15 | exact f16) _ | with_reducible refine World.ownsRow.alloc ?_ _)), f14, f15, f16, (by repeat (first | with_reducible exact hB37 | with_reducible refine bel_alloc ?_ _ | refine Below.setCell ?_ (by first | (simp; done) | (simp; omega) | omega) _)), (by omega), (by omega), (by omega), (by omega), HGn, HLn⟩
              case measure => simp [intOf] <;> omega
    · skip
      go_upto_region 3 with fail
      have ub10 := b10; have ub11 := b11; have ub12 := b12
      simp only [At, Own, Nat.reduceAdd, and_true] at ub10 ub11 ub12
      go_cut [26] (fun x26 wx => x26 = .bool false ∧ wr18 = wx)
      case first =>
        rcases (by omega : ¬ ((i : Int) < Ns) ∨ ((i : Int) < Ns ∧ ¬ ((i : Int) < 7))) with hq | ⟨hq, hq7⟩ <;> (go_wp2; go_meet; exact ⟨rfl, rfl⟩)
      case rest =>
        obtain ⟨rfl, hwq⟩ := hcut
        subst hwq
        go_upto_if 91 with fail
        go_cut [] (fun wx => ∃ (nM : Nat) (vM : Value) (lM : List Nd), Own wx (w.heap.size) 0 [.slice As Ns cs, .slice Al Nl cl] ∧ Own wx (w.heap.size + 1) 0 [.slice none 0 0, .slice none 0 0] ∧ Own wx (W1.heap.size + 1) 0 [vM, .slice none 0 0] ∧ wx.ownsRow w.heap.size 53 3 vM nM (nds lM) ∧ Value.ownBlock vM ≠ some (w.heap.size) ∧ Value.ownBlock vM ≠ some (w.heap.size + 1) ∧ Value.ownBlock vM ≠ some (W1.heap.size + 1) ∧ Below w.heap.size w wx ∧ 2 ≤ nM ∧ nM ≤ 8 ∧ Hid (Gn lM) ∧ Hid (lM.length = nM))
        case first =>
          by_cases hn2 : (n : Int) < 2
          · skip
            go_wp2_with (at_builtin; refine wpList_appF rfl _ _ _ rfl ti_nd O19.out (hB17).size rfl rfl rfl rfl (ndc_one (Nd.mk 5 3 4)) (by omega) (by decide) ?_)
            intro v66 w_v66 hown_v66 hst_v66
            have O68 : Hid (w_v66.ownsRow w.heap.size 53 3 v66 ((n + 1)) (nds (l ++ [(Nd.mk 5 3 4)]))) := Lib.hid (by rw [nds_snoc]; exact hown_v66)
            have c69 := Own.step hst_v66 f14 b10
            have f70 := hst_v66.far _ b10.lt f14
            have c71 := Own.step hst_v66 f15 b11
            have f72 := hst_v66.far _ b11.lt f15
            have c73 := Own.step hst_v66 f16 b12
            have f74 := hst_v66.far _ b12.lt f16
            have hB75 : Below w.heap.size w w_v66 := hst_v66.below hB17 (hB17).size (fun r hr => (O19.out.lt r hr).1)
            clear ub10 ub11 ub12 hown_v66 b10 b11 b12
            obtain ⟨gr76, cr76, hvr76, -, -, -, -⟩ := owns_form O68.out (by omega)
            subst hvr76
            have uc69 := c69; have uc71 := c71; have uc73 := c73
            simp only [At, Own, Nat.reduceAdd, and_true] at uc69 uc71 uc73
            go_wp2_with fail
            go_meet
            exact ⟨(n + 1), (.slice (some ⟨gr76, 0, none⟩) (n + 1) cr76), (l ++ [(Nd.mk 5 3 4)]), (by repeat (first | with_reducible exact c69 | refine Own.far _ _ (by simp <;> omega) ?_ | with_reducible refine Own.alloc ?_ _)), (by repeat (first | with_reducible exact c71 | refine Own.far _ _ (by simp <;> omega) ?_ | with_reducible refine Own.alloc ?_ _)), (by simp [Own, go_sem, uc69, uc71, uc73]), (by repeat (first | with_reducible exact O68.out | refine owns_far ?_ _ (by first | exact f70 | exact f72 | exact f74) _ | with_reducible refine World.ownsRow.alloc ?_ _)), f70, f72, f74, (by repeat (first | with_reducible exact hB75 | with_reducible refine bel_alloc ?_ _ | refine Below.setCell ?_ (by first | (simp; done) | (simp; omega) | omega) _)), (by omega), (by omega), Lib.hid (HGn.out.snoc ⟨by rw [HLn.out, show n = 1 from by omega]; rfl, (show (0 : Int) ≤ 3 by decide), (show (3 : Int) ≤ 31 by decide), (show (0 : Int) ≤ 4 by decide), (show (4 : Int) ≤ 31 by decide)⟩), Lib.hid (by rw [List.length_append, HLn.out]; rfl)⟩
          · skip
            go_wp2_with fail
            go_meet
            exact ⟨n, (.slice (some ⟨gN, 0, none⟩) n cN), l, (by repeat (first | with_reducible exact b10 | refine Own.far _ _ (by simp <;> omega) ?_ | with_reducible refine Own.alloc ?_ _)), (by repeat (first | with_reducible exact b11 | refine Own.far _ _ (by simp <;> omega) ?_ | with_reducible refine Own.alloc ?_ _)), (by repeat (first | with_reducible exact b12 | refine Own.far _ _ (by simp <;> omega) ?_ | with_reducible refine Own.alloc ?_ _)), (by repeat (first | with_reducible exact O19.out | refine owns_far ?_ _ (by first | exact f14 | exact f15 | exact f16) _ | with_reducible refine World.ownsRow.alloc ?_ _)), f14, f15, f16, (by repeat (first | with_reducible exact hB17 | with_reducible refine bel_alloc ?_ _ | refine Below.setCell ?_ (by first | (simp; done) | (simp; omega) | omega) _)), (by omega), (by omega), HGn, HLn⟩
        case rest =>
          clear b10 b11 b12 hB17 ub10 ub11 ub12 O19
          clear HGn HLn
          obtain ⟨nM, vM, lM, b58, b59, b60, o61, f62, f63, f64, hB65, hM2, hM9, HGm, HLm⟩ := hcut
          obtain ⟨wj77, hwj77⟩ : ∃ W_, W_ = wc := ⟨_, rfl⟩
          subst hwj77
          have O78 := Lib.hid o61
          clear o61
          go_upto_region 14 with fail
          obtain ⟨gM, cM, hvM, -, -, hgM, -⟩ := owns_form O78.out (by omega)
          subst hvM
          have ub58 := b58; have ub59 := b59; have ub60 := b60
          simp only [At, Own, Nat.reduceAdd, and_true] at ub58 ub59 ub60
          have nlt_ := b58.lt
          have nlt2_ := Nat.ne_of_lt nlt_
          obtain ⟨m, hmin, hmN, hm12⟩ : ∃ m : Nat, min (Nl : Int) 12 = (m : Int) ∧ m ≤ Nl ∧ m ≤ 12 := ⟨min Nl 12, by omega, by omega, by omega⟩
          have HLW := Lib.hid (LAL.up HLL.out (hB65.alloc (by exact hB65.size) (.cells #[] 105)))
          go_wp2_with (first | (refine wpList_slice_lanes rfl _ _ rfl HLW.out HNl.out hmN rfl rfl ?_; intro vS hvS) | (at_builtin; refine wpList_appE rfl _ _ _ rfl ti_la (owns_emptyL wj77) (by simp) rfl rfl hvS (las_one _) (by omega) (by decide) ?_))
          intro vL wL howL hstL
          have hbL : Below wj77.heap.size wj77 wL := hstL.below ((Below.refl _ _).alloc (Nat.le_refl _) _) (by simp) (fun r hr => by simp [Value.ownBlock] at hr; omega)
          have OL0 : Hid (wL.ownsRow w.heap.size 105 5 vL m (las (la.take m))) := Lib.hid (by have h_ := World.ownsRow.mono howL hB65.size; simpa using h_)
          have OLF : Hid (∀ r, vL.ownBlock = some r → wj77.heap.size ≤ r) := Lib.hid (fun r hr => (howL.lt r hr).1)
          clear howL hstL hvS HLW hmin
          obtain ⟨-, AL, cL, hvL⟩ := owns_openL OL0.out
          subst hvL
          have HLm2 : Hid ((la.take m).length = m) := Lib.hid (by rw [List.length_take, HNl.out]; omega)
          have f79 : Value.ownBlock (.slice AL m cL) ≠ some (w.heap.size) := fun e_ => by have := OLF.out _ e_; have := b58.lt; omega
          have f80 : Value.ownBlock (.slice AL m cL) ≠ some (w.heap.size + 1) := fun e_ => by have := OLF.out _ e_; have := b59.lt; omega
          have f81 : Value.ownBlock (.slice AL m cL) ≠ some (W1.heap.size + 1) := fun e_ => by have := OLF.out _ e_; have := b60.lt; omega
          have ff82 : FarR (.slice AL m cL) (.slice (some ⟨gM, 0, none⟩) nM cM) := FarR.of OLF.out (fun r hr => (O78.out.lt r hr).2)
          have ff82' := FarR.symm ff82
          clear OLF
          have c83 := b58.up hbL
          have c84 := b59.up hbL
          have c85 := b60.up hbL
          have O86 := Lib.hid (owns_up O78.out hbL)
          have hB87 : Below w.heap.size w wL := bel_up hB65 hbL
          clear ub58 ub59 ub60 b58 b59 b60 O78
          go_wp2_with fail
          go_loopw [10] (fun s10 wr => ∃ (i : Nat) (r : Nat) (vR : Value) (R : List Rd), s10 = .int .i64 i ∧ Own wr (w.heap.size + 1) 0 [.slice none 0 0, .slice none 0 0] ∧ Own wr (W1.heap.size + 1) 0 [(.slice (some ⟨gM, 0, none⟩) nM cM), vR] ∧ wr.ownsRow w.heap.size 67 6 vR r (rds R) ∧ Value.ownBlock vR ≠ some (w.heap.size + 1) ∧ Value.ownBlock vR ≠ some (W1.heap.size + 1) ∧ wr.ownsRow w.heap.size 105 5 (.slice AL m cL) m (las (la.take m)) ∧ wr.ownsRow w.heap.size 53 3 (.slice (some ⟨gM, 0, none⟩) nM cM) nM (nds lM) ∧ FarR (.slice AL m cL) vR ∧ FarR (.slice (some ⟨gM, 0, none⟩) nM cM) vR ∧ Below w.heap.size w wr ∧ i ≤ m + 1 ∧ r ≤ i ∧ (i = m + 1 → 1 ≤ r) ∧ Hid (Gr lM R) ∧ Hid (R.length = r)) (fun s10 _ => m + 1 - (intOf s10).toNat)
          case atStart => exact ⟨0, 0, (.slice none 0 0), ([]), rfl, c84, c85, World.ownsRow_nil _ _ _ _, by simp [Value.ownBlock], by simp [Value.ownBlock], OL0.out, O86.out, (fun r_ _ h_ => by cases h_), (fun r_ _ h_ => by cases h_), hB87, (by omega), (by omega), (fun e_ => by omega), Lib.hid (gr_nil _), Lib.hid rfl⟩
          case round =>
            clear c84 c85 hB87 O86 OL0
            obtain ⟨i, r, vR, R, rfl, b88, b89, o90, f91, f92, o93, o94, ff95, ff96, hB97, hi, hr, hr1, HGr, HLr⟩ := hrel
            obtain ⟨wr98, hwr98⟩ : ∃ W_, W_ = wr := ⟨_, rfl⟩
            subst hwr98
            have O99 := Lib.hid o90
            clear o90
            have O100 := Lib.hid o93
            clear o93
            have O101 := Lib.hid o94
            clear o94
            have ff95' := FarR.symm ff95
            have ff96' := FarR.symm ff96
            obtain ⟨AR, cR, hvR, -⟩ := owns_openR O99.out
            subst hvR
            rcases (by omega : i < m ∨ (i ≤ m ∧ m ≤ i) ∨ m + 1 ≤ i) with hlt | ⟨hlt, hlt2⟩ | hlt
            · skip
              have i1 : (i : Int) < m := by omega
              have i2 : (i : Int) ≤ m := by omega
              have i3 : ((i : Int) == m) = false := by simp; omega
              obtain ⟨gL, cL2, hvL2, -, -, hgL, -⟩ := owns_form O100.out (by omega)
              injection hvL2 with hvA _ hvC
              subst hvA; subst hvC
              obtain ⟨x, hx⟩ : ∃ y, (la.take m)[i]? = some y := ⟨_, List.getElem?_eq_getElem (by rw [HLm2.out]; omega)⟩
              have HX := Lib.hid hx
              obtain ⟨huf, hut, hue, hum⟩ := HU.out.2 _ (List.mem_of_mem_take (List.mem_of_getElem? hx))
              clear hx
              obtain ⟨ia, hia, ia5⟩ := int_remH huf (show 0 < nM by omega) (by omega)
              obtain ⟨ib, hib, ib5⟩ := int_remH hut (show 0 < nM by omega) (by omega)
              obtain ⟨a, ha⟩ : ∃ y, lM[ia]? = some y := ⟨_, List.getElem?_eq_getElem (by rw [HLm.out]; omega)⟩
              obtain ⟨hai, ha1, ha2, ha3, ha4⟩ := HGm.out _ _ ha
              have HEa := Lib.hid ha
              clear ha
              have HIa := Lib.hid hai
              clear hai
              obtain ⟨b, hb⟩ : ∃ y, lM[ib]? = some y := ⟨_, List.getElem?_eq_getElem (by rw [HLm.out]; omega)⟩
              obtain ⟨hbi, hb1, hb2, hb3, hb4⟩ := HGm.out _ _ hb
              have HEb := Lib.hid hb
              clear hb
              have HIb := Lib.hid hbi
              clear hbi
              obtain ⟨dx, dy, px, py, HDX, HPK, hp1, hp2, hp3, hp4⟩ := d_pack ha1 ha2 ha3 ha4 hb1 hb2 hb3 hb4
              clear ha1 ha2 ha3 ha4 hb1 hb2 hb3 hb4
              obtain ⟨ae, hae, ae6, ae7⟩ := u8_remH hue 4 (by decide) (by decide)
              obtain ⟨am, ham, am6, am7⟩ := u8_remH hum 5 (by decide) (by decide)
              clear huf hut hue hum
              have f102 := owns_new0 O99.out
              have f103 := owns_new0 O100.out
              have f104 := owns_new0 O101.out
              have ne105_ : w.heap.size + 1 < wr98.heap.size := by have := b88.lt; omega
              have ne105 := Nat.ne_of_lt ne105_
              have ne105' := ne105.symm
              have ne106_ : W1.heap.size + 1 < wr98.heap.size := by have := b89.lt; omega
              have ne106 := Nat.ne_of_lt ne106_
              have ne106' := ne106.symm
              have ub88 := b88; have ub89 := b89
              simp only [At, Own, Nat.reduceAdd, and_true] at ub88 ub89
              have ce107 := LX.at_ (owns_viewL O100.out) HX.out
              have uce107 := ce107
              simp only [CLA, lac, At, Nat.reduceMul, Nat.zero_add] at uce107
              obtain ⟨ia1, ia2, ia3, ia4, ia5_, ia6_⟩ := hia.out
              obtain ⟨ib1, ib2, ib3, ib4, ib5_, ib6_⟩ := hib.out
              go_upto_region 21 with fail
              refine wp_named ?_
              intro W2 hW2
              have hL2 : Below wr98.heap.size wr98 W2 := by
                rw [hW2]
                repeat (first | with_reducible exact Below.refl _ _ | with_reducible refine bel_alloc ?_ _ | refine Below.setCell ?_ (by first | (simp; done) | (simp; omega) | omega) _)
              have c108 := b88.up hL2
              have c109 := b89.up hL2
              have c110 : Own W2 (wr98.heap.size) 0 [.int .u8 x.f, .int .u8 x.t, .int .u8 x.e, .int .u8 x.m, .bool x.o] := by rw [hW2]; simp [Own, go_sem, ub88, ub89, uce107, ne105, ne105', ne105_, ne106, ne106', ne106_]
              have O111 := Lib.hid (owns_up O99.out hL2)
              have O112 := Lib.hid (owns_up O100.out hL2)
              have O113 := Lib.hid (owns_up O101.out hL2)
              have hB114 : Below w.heap.size w W2 := by
                rw [hW2]
                repeat (first | with_reducible exact hB97 | with_reducible refine bel_alloc ?_ _ | refine Below.setCell ?_ (by first | (simp; done) | (simp; omega) | omega) _)
              clear hW2 hL2 ub88 ub89 uce107 b88 b89
              have ce118 := LX.at_ (owns_viewN O113.out) HEa.out
              have ce119 := LX.at_ (owns_viewN O113.out) HEb.out
              refine wp_region_new2s 24 22 12 23 13 [.int .i64 0, .int .i64 0, .int .i64 0] [.int .i64 0, .int .i64 0, .int .i64 0] 53 53 (by kernel_rfl) rfl rfl rfl rfl rfl rfl rfl (by kernel_rfl) rfl rfl (by simp) (by simp) (run_alloc_zero Tryz.zeroValue53 rfl) (by kernel_rfl) (run_alloc_zero Tryz.zeroValue53 rfl) (by kernel_rfl) ?_
              intro V_115 hV_115
              have vc108 := c108.up hV_115; have dc108 := fun p : Bel V_115 => vc108.bel p
              have vc109 := c109.up hV_115; have dc109 := fun p : Bel V_115 => vc109.bel p
              have vc110 := c110.up hV_115; have dc110 := fun p : Bel V_115 => vc110.bel p
              simp only [At, Own, Nat.reduceAdd, and_true] at dc108 dc109 dc110
              have vce118 := ce118.up hV_115; have dce118 := fun b : Bel V_115 => vce118.bel b
              simp only [CN, ndc, At, Nat.reduceMul, Nat.zero_add] at dce118
              have vce119 := ce119.up hV_115; have dce119 := fun b : Bel V_115 => vce119.bel b
              simp only [CN, ndc, At, Nat.reduceMul, Nat.zero_add] at dce119
              have hBV_115 := bel_up hB114 hV_115
              simp only [List.map_cons, List.map_nil, maskS, List.take_succ_cons, List.take_zero]
              repeat (go_big_quiet_step (fail))
              refine wpQuiet_nil ?_
              refine ⟨[.int .i64 a.i, .int .i64 a.x, .int .i64 a.y], [.int .i64 b.i, .int .i64 b.x, .int .i64 b.y], rfl, rfl, by simp [Value.oneCell'], rfl, rfl, by simp [Value.oneCell'], ?_⟩
              intro bq116 bq117 wn_115 hbn_115 lbq116 mbq116 lbq117 mbq117 nbq116 c120 c121
              have nbq116' := nbq116.symm
              simp only [Act.put, List.setIfInBounds_toArray, List.set_cons_zero, List.set_cons_succ]
              have ne122 : w.heap.size + 1 ≠ bq116 := by have := c108.lt; omega
              have ne122' := ne122.symm
              have ne123 : W1.heap.size + 1 ≠ bq116 := by have := c109.lt; omega
              have ne123' := ne123.symm
              have ne124 : wr98.heap.size ≠ bq116 := by have := c110.lt; omega
              have ne124' := ne124.symm
              have wbq116 := Nat.le_trans hB114.size lbq116
              have ne125 : w.heap.size + 1 ≠ bq117 := by have := c108.lt; omega
              have ne125' := ne125.symm
              have ne126 : W1.heap.size + 1 ≠ bq117 := by have := c109.lt; omega
              have ne126' := ne126.symm
              have ne127 : wr98.heap.size ≠ bq117 := by have := c110.lt; omega
              have ne127' := ne127.symm
              have wbq117 := Nat.le_trans hB114.size lbq117
              have f128 : Value.ownBlock (.slice AR r cR) ≠ some bq116 := fun e_ => by have := (O111.out.lt _ e_).2; omega
              have f129 : Value.ownBlock (.slice AR r cR) ≠ some bq117 := fun e_ => by have := (O111.out.lt _ e_).2; omega
              have f130 : Value.ownBlock (.slice (some ⟨gL, 0, none⟩) m cL) ≠ some bq116 := fun e_ => by have := (O112.out.lt _ e_).2; omega
              have f131 : Value.ownBlock (.slice (some ⟨gL, 0, none⟩) m cL) ≠ some bq117 := fun e_ => by have := (O112.out.lt _ e_).2; omega
              have f132 : Value.ownBlock (.slice (some ⟨gM, 0, none⟩) nM cM) ≠ some bq116 := fun e_ => by have := (O113.out.lt _ e_).2; omega
              have f133 : Value.ownBlock (.slice (some ⟨gM, 0, none⟩) nM cM) ≠ some bq117 := fun e_ => by have := (O113.out.lt _ e_).2; omega
              clear hBV_115 dce119 vce119 dce118 vce118 dc110 vc110 dc109 vc109 dc108 vc108 hV_115 V_115
              have c134 := c108.up hbn_115
              have c135 := c109.up hbn_115
              have c136 := c110.up hbn_115
              have O137 := Lib.hid (owns_up O111.out hbn_115)
              have O138 := Lib.hid (owns_up O112.out hbn_115)
              have O139 := Lib.hid (owns_up O113.out hbn_115)
              have hB140 : Below w.heap.size w wn_115 := bel_up hB114 hbn_115
              clear c108 c109 c110 O111 O112 O113
              try clear ia1 ia2 ia3 ia4 ib1 ib2 ib3 ib4 ia5_ ia6_ ib5_ ib6_
              by_cases hc141 : (a.i : Int) = b.i
              · skip
                try clear ia1 ia2 ia3 ia4 ib1 ib2 ib3 ib4 ia5_ ia6_ ib5_ ib6_
                have uc134 := c134; have uc135 := c135; have uc136 := c136; have uc120 := c120; have uc121 := c121
                simp only [At, Own, Nat.reduceAdd, and_true] at uc134 uc135 uc136 uc120 uc121
                go_wp2
                go_roundw
                case rel => exact ⟨(i + 1), r, (.slice AR r cR), R, (by first | rfl | exact congrArg (Value.int .i64) (by omega) | simp [*]), (by repeat (first | with_reducible exact c134 | refine Own.far _ _ (by simp <;> omega) ?_ | with_reducible refine Own.alloc ?_ _)), (by repeat (first | with_reducible exact c135 | refine Own.far _ _ (by simp <;> omega) ?_ | with_reducible refine Own.alloc ?_ _)), (by repeat (first | with_reducible exact O137.out | refine owns_far ?_ _ (by first | exact f91 | exact f92 | exact f102 | exact f128 | exact f129) _ | with_reducible refine World.ownsRow.alloc ?_ _)), f91, f92, (by repeat (first | with_reducible exact O138.out | refine owns_far ?_ _ (by first | exact f79 | exact f80 | exact f81 | exact f103 | exact f130 | exact f131) _ | with_reducible refine World.ownsRow.alloc ?_ _)), (by repeat (first | with_reducible exact O139.out | refine owns_far ?_ _ (by first | exact f62 | exact f63 | exact f64 | exact f104 | exact f132 | exact f133) _ | with_reducible refine World.ownsRow.alloc ?_ _)), ff95, ff96, (by repeat (first | with_reducible exact hB140 | with_reducible refine bel_alloc ?_ _ | refine Below.setCell ?_ (by first | (simp; done) | (simp; omega) | omega) _)), (by omega), (by omega), (fun e_ => by omega), HGr, HLr⟩
                case measure => simp [intOf] <;> omega
              · skip
                have hc141_ : (((a.i : Int)) == b.i) = false := by simpa using hc141
                try clear ia1 ia2 ia3 ia4 ib1 ib2 ib3 ib4 ia5_ ia6_ ib5_ ib6_
                have uc134 := c134; have uc135 := c135; have uc136 := c136; have uc120 := c120; have uc121 := c121
                simp only [At, Own, Nat.reduceAdd, and_true] at uc134 uc135 uc136 uc120 uc121
                go_wp2_with fail
                go_loopw [14] (fun s14 wr => ∃ (z : Nat), s14 = .int .i64 z ∧ Own wr (w.heap.size + 1) 0 [.slice none 0 0, .slice none 0 0] ∧ Own wr (W1.heap.size + 1) 0 [(.slice (some ⟨gM, 0, none⟩) nM cM), (.slice AR r cR)] ∧ Own wr (wr98.heap.size) 0 [.int .u8 x.f, .int .u8 x.t, .int .u8 x.e, .int .u8 x.m, .bool x.o] ∧ Own wr (bq116) 0 [.int .i64 a.i, .int .i64 a.x, .int .i64 a.y] ∧ Own wr (bq117) 0 [.int .i64 b.i, .int .i64 b.x, .int .i64 b.y] ∧ wr.ownsRow w.heap.size 105 5 (.slice (some ⟨gL, 0, none⟩) m cL) m (las (la.take m)) ∧ wr.ownsRow w.heap.size 53 3 (.slice (some ⟨gM, 0, none⟩) nM cM) nM (nds lM) ∧ wr.ownsRow w.heap.size 67 6 (.slice AR r cR) r (rds R) ∧ Below w.heap.size w wr ∧ 1 ≤ z ∧ z ≤ 44) (fun s14 _ => 44 - (intOf s14).toNat)
                case atStart => exact ⟨1, rfl, c134, c135, c136, c120, c121, O138.out, O139.out, O137.out, hB140, (by omega), (by omega)⟩
                case round =>
                  clear c134 c135 c136 c120 c121 hB140 uc134 uc135 uc136 uc120 uc121 O137 O138 O139
                  obtain ⟨z, rfl, b142, b143, b144, b145, b146, o147, o148, o149, hB150, hz1, hz44⟩ := hrel
                  obtain ⟨wr151, hwr151⟩ : ∃ W_, W_ = wr := ⟨_, rfl⟩
                  subst hwr151
                  have O152 := Lib.hid o147
                  clear o147
                  have O153 := Lib.hid o148
                  clear o148
                  have O154 := Lib.hid o149
                  clear o149
                  obtain ⟨zz, hzz_, zz1, zz2, zz3, zz4⟩ := sq_z hz44
                  have HZ := Lib.hid hzz_
                  clear hzz_
                  have HZ1 := Lib.hid zz1
                  clear zz1
                  by_cases hzq : zz < px + py
                  · skip
                    have hz43 := zz4 (by omega)
                    have hzq_ : ¬ (px + py ≤ zz) := by omega
                    obtain ⟨wz1, wz2⟩ := i64_small (a := zz) (by omega) (by omega)
                    have zz1 := HZ1.out
                    obtain ⟨dx1, dy1, dx2, dy2, wd1, wd2, wd3, wd4, wp1, wp2, wp3, wp4, wp5, wp6⟩ := HPK.out
                    have ub142 := b142; have ub143 := b143; have ub144 := b144; have ub145 := b145; have ub146 := b146
                    simp only [At, Own, Nat.reduceAdd, and_true] at ub142 ub143 ub144 ub145 ub146
                    go_wp2
                    go_roundw
                    all_goals clear dx1 dy1 dx2 dy2 wd1 wd2 wd3 wd4 wp1 wp2 wp3 wp4 wp5 wp6 zz1 wz1 wz2
                    case rel => exact ⟨(z + 1), (by first | rfl | exact congrArg (Value.int .i64) (by omega) | simp [*]), (by repeat (first | with_reducible exact b142 | refine Own.far _ _ (by simp <;> omega) ?_ | with_reducible refine Own.alloc ?_ _)), (by repeat (first | with_reducible exact b143 | refine Own.far _ _ (by simp <;> omega) ?_ | with_reducible refine Own.alloc ?_ _)), (by repeat (first | with_reducible exact b144 | refine Own.far _ _ (by simp <;> omega) ?_ | with_reducible refine Own.alloc ?_ _)), (by repeat (first | with_reducible exact b145 | refine Own.far _ _ (by simp <;> omega) ?_ | with_reducible refine Own.alloc ?_ _)), (by repeat (first | with_reducible exact b146 | refine Own.far _ _ (by simp <;> omega) ?_ | with_reducible refine Own.alloc ?_ _)), (by repeat (first | with_reducible exact O152.out | refine owns_far ?_ _ (by first | exact f79 | exact f80 | exact f81 | exact f103 | exact f130 | exact f131) _ | with_reducible refine World.ownsRow.alloc ?_ _)), (by repeat (first | with_reducible exact O153.out | refine owns_far ?_ _ (by first | exact f62 | exact f63 | exact f64 | exact f104 | exact f132 | exact f133) _ | with_reducible refine World.ownsRow.alloc ?_ _)), (by repeat (first | with_reducible exact O154.out | refine owns_far ?_ _ (by first | exact f91 | exact f92 | exact f102 | exact f128 | exact f129) _ | with_reducible refine World.ownsRow.alloc ?_ _)), (by repeat (first | with_reducible exact hB150 | with_reducible refine bel_alloc ?_ _ | refine Below.setCell ?_ (by first | (simp; done) | (simp; omega) | omega) _)), (by omega), (by omega)⟩
                    case measure => simp [intOf] <;> omega
                  · skip
                    have hzq_ : px + py ≤ zz := by omega
                    obtain ⟨wz1, wz2⟩ := i64_small (a := zz) (by omega) (by omega)
                    have zz1 := HZ1.out
                    obtain ⟨dx1, dy1, dx2, dy2, wd1, wd2, wd3, wd4, wp1, wp2, wp3, wp4, wp5, wp6⟩ := HPK.out
                    have ub142 := b142; have ub143 := b143; have ub144 := b144; have ub145 := b145; have ub146 := b146
                    simp only [At, Own, Nat.reduceAdd, and_true] at ub142 ub143 ub144 ub145 ub146
                    go_upto_region 26 with fail
                    clear dx1 dy1 dx2 dy2 wd1 wd2 wd3 wd4 wp1 wp2 wp3 wp4 wp5 wp6 zz1 wz1 wz2
                    obtain ⟨ae1, ae2, ae3, ae4, ae5⟩ := hae.out
                    obtain ⟨am1, am2, am3, am4, am5⟩ := ham.out
                    go_wp2_with (at_builtin; refine wpList_appF rfl _ _ _ rfl ti_rd O154.out (hB150).size rfl rfl rfl rfl (rdc_one (Rd.mk (1 + (2 * r)) a.i b.i (z + ae) (1 + am) x.o)) (by omega) (by decide) ?_)
                    intro v155 w_v155 hown_v155 hst_v155
                    have O157 : Hid (w_v155.ownsRow w.heap.size 67 6 v155 ((r + 1)) (rds (R ++ [(Rd.mk (1 + (2 * r)) a.i b.i (z + ae) (1 + am) x.o)]))) := Lib.hid (by rw [rds_snoc]; exact hown_v155)
                    have c158 := Own.step hst_v155 f91 b142
                    have f159 := hst_v155.far _ b142.lt f91
                    have c160 := Own.step hst_v155 f92 b143
                    have f161 := hst_v155.far _ b143.lt f92
                    have c162 := Own.step hst_v155 f102 b144
                    have f163 := hst_v155.far _ b144.lt f102
                    have c164 := Own.step hst_v155 f128 b145
                    have f165 := hst_v155.far _ b145.lt f128
                    have c166 := Own.step hst_v155 f129 b146
                    have f167 := hst_v155.far _ b146.lt f129
                    have O168 := Lib.hid (owns_step hst_v155 O152.out ff95)
                    have ff169 : FarR (.slice (some ⟨gL, 0, none⟩) m cL) v155 := FarR.step hst_v155 O152.out ff95
                    have ff169' := FarR.symm ff169
                    have O170 := Lib.hid (owns_step hst_v155 O153.out ff96)
                    have ff171 : FarR (.slice (some ⟨gM, 0, none⟩) nM cM) v155 := FarR.step hst_v155 O153.out ff96
                    have ff171' := FarR.symm ff171
                    have hB172 : Below w.heap.size w w_v155 := hst_v155.below hB150 (hB150).size (fun r hr => (O154.out.lt r hr).1)
                    clear ub142 ub143 ub144 ub145 ub146 hown_v155 b142 b143 b144 b145 b146 O152 O153
                    obtain ⟨gr173, cr173, hvr173, -, -, -, -⟩ := owns_form O157.out (by omega)
                    subst hvr173
                    have uc158 := c158; have uc160 := c160; have uc162 := c162; have uc164 := c164; have uc166 := c166
                    simp only [At, Own, Nat.reduceAdd, and_true] at uc158 uc160 uc162 uc164 uc166
                    go_wp2
                    go_roundw
                    case rel => exact ⟨(i + 1), (r + 1), (.slice (some ⟨gr173, 0, none⟩) (r + 1) cr173), (R ++ [(Rd.mk (1 + (2 * r)) a.i b.i (z + ae) (1 + am) x.o)]), (by first | rfl | exact congrArg (Value.int .i64) (by omega) | simp [*]), (by repeat (first | with_reducible exact c158 | refine Own.far _ _ (by simp <;> omega) ?_ | with_reducible refine Own.alloc ?_ _)), (by simp [Own, go_sem, uc158, uc160, uc162, uc164, uc166, nbq116, nbq116', ne122, ne122', ne123, ne123', ne124, ne124', ne125, ne125', ne126, ne126', ne127, ne127']), (by repeat (first | with_reducible exact O157.out | refine owns_far ?_ _ (by first | exact f159 | exact f161 | exact f163 | exact f165 | exact f167) _ | with_reducible refine World.ownsRow.alloc ?_ _)), f159, f161, (by repeat (first | with_reducible exact O168.out | refine owns_far ?_ _ (by first | exact f79 | exact f80 | exact f81 | exact f103 | exact f130 | exact f131) _ | with_reducible refine World.ownsRow.alloc ?_ _)), (by repeat (first | with_reducible exact O170.out | refine owns_far ?_ _ (by first | exact f62 | exact f63 | exact f64 | exact f104 | exact f132 | exact f133) _ | with_reducible refine World.ownsRow.alloc ?_ _)), ff169, ff171, (by repeat (first | with_reducible exact hB172 | with_reducible refine bel_alloc ?_ _ | refine Below.setCell ?_ (by first | (simp; done) | (simp; omega) | omega) _)), (by omega), (by omega), (fun _ => by omega), Lib.hid (HGr.out.snoc (by rw [HLr.out]) ⟨a, List.mem_of_getElem? HEa.out, b, List.mem_of_getElem? HEb.out, rfl, rfl, hc141, road_len HDX.out.1 HDX.out.2.1 HDX.out.2.2.1 HDX.out.2.2.2 HZ.out (by first | exact hzq | exact Int.not_lt.2 hzq) ae6, (show (1 : Int) ≤ z + ae by omega), (show (z : Int) + ae ≤ 50 by omega), (show (1 : Int) ≤ 1 + am by omega), (show 1 + am ≤ 5 by omega)⟩), Lib.hid (by rw [List.length_append, HLr.out]; rfl)⟩
                    case measure => simp [intOf] <;> omega
            · skip
              have i1 : ¬ ((i : Int) < m) := by omega
              have i2 : (i : Int) ≤ m := by omega
              have i3 : ((i : Int) == m) = true := by simp; omega
              obtain ⟨ia, hia, ia5⟩ := int_remH (x := 0) ⟨by decide, by decide⟩ (show 0 < nM by omega) (by omega)
              obtain ⟨ib, hib, ib5⟩ := int_remH (x := 1) ⟨by decide, by decide⟩ (show 0 < nM by omega) (by omega)
              have iaz : Hid (ia = 0) := Lib.hid (by have h_ := hia.out.1; rw [Int.zero_emod] at h_; omega)
              have ibz : Hid (ib = 1) := Lib.hid (by have h_ := hib.out.1; rw [Int.emod_eq_of_lt (by decide) (by omega)] at h_; omega)
              obtain ⟨a, ha⟩ : ∃ y, lM[ia]? = some y := ⟨_, List.getElem?_eq_getElem (by rw [HLm.out]; omega)⟩
              obtain ⟨hai, ha1, ha2, ha3, ha4⟩ := HGm.out _ _ ha
              have HEa := Lib.hid ha
              clear ha
              have HIa := Lib.hid hai
              clear hai
              obtain ⟨b, hb⟩ : ∃ y, lM[ib]? = some y := ⟨_, List.getElem?_eq_getElem (by rw [HLm.out]; omega)⟩
              obtain ⟨hbi, hb1, hb2, hb3, hb4⟩ := HGm.out _ _ hb
              have HEb := Lib.hid hb
              clear hb
              have HIb := Lib.hid hbi
              clear hbi
              obtain ⟨dx, dy, px, py, HDX, HPK, hp1, hp2, hp3, hp4⟩ := d_pack ha1 ha2 ha3 ha4 hb1 hb2 hb3 hb4
              clear ha1 ha2 ha3 ha4 hb1 hb2 hb3 hb4
              obtain ⟨ae, hae, ae6, ae7⟩ := u8_remH (x := 0) ⟨by decide, by decide⟩ 4 (by decide) (by decide)
              obtain ⟨am, ham, am6, am7⟩ := u8_remH (x := 0) ⟨by decide, by decide⟩ 5 (by decide) (by decide)
              have f174 := owns_new0 O99.out
              have f175 := owns_new0 O100.out
              have f176 := owns_new0 O101.out
              have ne177_ : w.heap.size + 1 < wr98.heap.size := by have := b88.lt; omega
              have ne177 := Nat.ne_of_lt ne177_
              have ne177' := ne177.symm
              have ne178_ : W1.heap.size + 1 < wr98.heap.size := by have := b89.lt; omega
              have ne178 := Nat.ne_of_lt ne178_
              have ne178' := ne178.symm
              have ub88 := b88; have ub89 := b89
              simp only [At, Own, Nat.reduceAdd, and_true] at ub88 ub89
              obtain ⟨ia1, ia2, ia3, ia4, ia5_, ia6_⟩ := hia.out
              obtain ⟨ib1, ib2, ib3, ib4, ib5_, ib6_⟩ := hib.out
              go_upto_region 21 with fail
              refine wp_named ?_
              intro W3 hW3
              have hL3 : Below wr98.heap.size wr98 W3 := by
                rw [hW3]
                repeat (first | with_reducible exact Below.refl _ _ | with_reducible refine bel_alloc ?_ _ | refine Below.setCell ?_ (by first | (simp; done) | (simp; omega) | omega) _)
              have c179 := b88.up hL3
              have c180 := b89.up hL3
              have c181 : Own W3 (wr98.heap.size) 0 [.int .u8 0, .int .u8 1, .int .u8 0, .int .u8 0, .bool false] := by
                rw [hW3]
                first
                | (repeat (first | (with_reducible refine own_new (l := [.int .u8 0, .int .u8 1, .int .u8 0, .int .u8 0, .bool false]) ?_; (simp; done)) | with_reducible refine Own.alloc ?_ _ | refine Own.far _ _ (by first | (simp; done) | (simp [*]; done) | (simp; omega)) ?_)); done
                | simp [Own, go_sem, ub88, ub89, ne177, ne177', ne177_, ne178, ne178', ne178_]
              have O182 := Lib.hid (owns_up O99.out hL3)
              have O183 := Lib.hid (owns_up O100.out hL3)
              have O184 := Lib.hid (owns_up O101.out hL3)
              have hB185 : Below w.heap.size w W3 := by
                rw [hW3]
                repeat (first | with_reducible exact hB97 | with_reducible refine bel_alloc ?_ _ | refine Below.setCell ?_ (by first | (simp; done) | (simp; omega) | omega) _)
              clear hW3 hL3 ub88 ub89 b88 b89
              have ce189 := LX.at_ (owns_viewN O184.out) HEa.out
              have ce190 := LX.at_ (owns_viewN O184.out) HEb.out
              refine wp_region_new2s 24 22 12 23 13 [.int .i64 0, .int .i64 0, .int .i64 0] [.int .i64 0, .int .i64 0, .int .i64 0] 53 53 (by kernel_rfl) rfl rfl rfl rfl rfl rfl rfl (by kernel_rfl) rfl rfl (by simp) (by simp) (run_alloc_zero Tryz.zeroValue53 rfl) (by kernel_rfl) (run_alloc_zero Tryz.zeroValue53 rfl) (by kernel_rfl) ?_
              intro V_186 hV_186
              have vc179 := c179.up hV_186; have dc179 := fun p : Bel V_186 => vc179.bel p
              have vc180 := c180.up hV_186; have dc180 := fun p : Bel V_186 => vc180.bel p
              have vc181 := c181.up hV_186; have dc181 := fun p : Bel V_186 => vc181.bel p
              simp only [At, Own, Nat.reduceAdd, and_true] at dc179 dc180 dc181
              have vce189 := ce189.up hV_186; have dce189 := fun b : Bel V_186 => vce189.bel b
              simp only [CN, ndc, At, Nat.reduceMul, Nat.zero_add] at dce189
              have vce190 := ce190.up hV_186; have dce190 := fun b : Bel V_186 => vce190.bel b
              simp only [CN, ndc, At, Nat.reduceMul, Nat.zero_add] at dce190
              have hBV_186 := bel_up hB185 hV_186
              simp only [List.map_cons, List.map_nil, maskS, List.take_succ_cons, List.take_zero]
              repeat (go_big_quiet_step (fail))
              refine wpQuiet_nil ?_
              refine ⟨[.int .i64 a.i, .int .i64 a.x, .int .i64 a.y], [.int .i64 b.i, .int .i64 b.x, .int .i64 b.y], rfl, rfl, by simp [Value.oneCell'], rfl, rfl, by simp [Value.oneCell'], ?_⟩
              intro bq187 bq188 wn_186 hbn_186 lbq187 mbq187 lbq188 mbq188 nbq187 c191 c192
              have nbq187' := nbq187.symm
              simp only [Act.put, List.setIfInBounds_toArray, List.set_cons_zero, List.set_cons_succ]
              have ne193 : w.heap.size + 1 ≠ bq187 := by have := c179.lt; omega
              have ne193' := ne193.symm
              have ne194 : W1.heap.size + 1 ≠ bq187 := by have := c180.lt; omega
              have ne194' := ne194.symm
              have ne195 : wr98.heap.size ≠ bq187 := by have := c181.lt; omega
              have ne195' := ne195.symm
              have wbq187 := Nat.le_trans hB185.size lbq187
              have ne196 : w.heap.size + 1 ≠ bq188 := by have := c179.lt; omega
              have ne196' := ne196.symm
              have ne197 : W1.heap.size + 1 ≠ bq188 := by have := c180.lt; omega
              have ne197' := ne197.symm
              have ne198 : wr98.heap.size ≠ bq188 := by have := c181.lt; omega
              have ne198' := ne198.symm
              have wbq188 := Nat.le_trans hB185.size lbq188
              have f199 : Value.ownBlock (.slice AR r cR) ≠ some bq187 := fun e_ => by have := (O182.out.lt _ e_).2; omega
              have f200 : Value.ownBlock (.slice AR r cR) ≠ some bq188 := fun e_ => by have := (O182.out.lt _ e_).2; omega
              have f201 : Value.ownBlock (.slice AL m cL) ≠ some bq187 := fun e_ => by have := (O183.out.lt _ e_).2; omega
              have f202 : Value.ownBlock (.slice AL m cL) ≠ some bq188 := fun e_ => by have := (O183.out.lt _ e_).2; omega
              have f203 : Value.ownBlock (.slice (some ⟨gM, 0, none⟩) nM cM) ≠ some bq187 := fun e_ => by have := (O184.out.lt _ e_).2; omega
              have f204 : Value.ownBlock (.slice (some ⟨gM, 0, none⟩) nM cM) ≠ some bq188 := fun e_ => by have := (O184.out.lt _ e_).2; omega
              clear hBV_186 dce190 vce190 dce189 vce189 dc181 vc181 dc180 vc180 dc179 vc179 hV_186 V_186
              have c205 := c179.up hbn_186
              have c206 := c180.up hbn_186
              have c207 := c181.up hbn_186
              have O208 := Lib.hid (owns_up O182.out hbn_186)
              have O209 := Lib.hid (owns_up O183.out hbn_186)
              have O210 := Lib.hid (owns_up O184.out hbn_186)
              have hB211 : Below w.heap.size w wn_186 := bel_up hB185 hbn_186
              clear c179 c180 c181 O182 O183 O184
              try clear ia1 ia2 ia3 ia4 ib1 ib2 ib3 ib4 ia5_ ia6_ ib5_ ib6_
              by_cases hc212 : (a.i : Int) = b.i
              · skip
                try clear ia1 ia2 ia3 ia4 ib1 ib2 ib3 ib4 ia5_ ia6_ ib5_ ib6_
                have uc205 := c205; have uc206 := c206; have uc207 := c207; have uc191 := c191; have uc192 := c192
                simp only [At, Own, Nat.reduceAdd, and_true] at uc205 uc206 uc207 uc191 uc192
                go_wp2
                go_roundw
                case rel => exact ⟨(i + 1), r, (.slice AR r cR), R, (by first | rfl | exact congrArg (Value.int .i64) (by omega) | simp [*]), (by repeat (first | with_reducible exact c205 | refine Own.far _ _ (by simp <;> omega) ?_ | with_reducible refine Own.alloc ?_ _)), (by repeat (first | with_reducible exact c206 | refine Own.far _ _ (by simp <;> omega) ?_ | with_reducible refine Own.alloc ?_ _)), (by repeat (first | with_reducible exact O208.out | refine owns_far ?_ _ (by first | exact f91 | exact f92 | exact f174 | exact f199 | exact f200) _ | with_reducible refine World.ownsRow.alloc ?_ _)), f91, f92, (by repeat (first | with_reducible exact O209.out | refine owns_far ?_ _ (by first | exact f79 | exact f80 | exact f81 | exact f175 | exact f201 | exact f202) _ | with_reducible refine World.ownsRow.alloc ?_ _)), (by repeat (first | with_reducible exact O210.out | refine owns_far ?_ _ (by first | exact f62 | exact f63 | exact f64 | exact f176 | exact f203 | exact f204) _ | with_reducible refine World.ownsRow.alloc ?_ _)), ff95, ff96, (by repeat (first | with_reducible exact hB211 | with_reducible refine bel_alloc ?_ _ | refine Below.setCell ?_ (by first | (simp; done) | (simp; omega) | omega) _)), (by omega), (by omega), (fun _ => absurd (by have e_ := hc212; rw [HIa.out, HIb.out, iaz.out, ibz.out] at e_; omega) (fun h_ : False => h_)), HGr, HLr⟩
                case measure => simp [intOf] <;> omega
              · skip
                have hc212_ : (((a.i : Int)) == b.i) = false := by simpa using hc212
                try clear ia1 ia2 ia3 ia4 ib1 ib2 ib3 ib4 ia5_ ia6_ ib5_ ib6_
                have uc205 := c205; have uc206 := c206; have uc207 := c207; have uc191 := c191; have uc192 := c192
                simp only [At, Own, Nat.reduceAdd, and_true] at uc205 uc206 uc207 uc191 uc192
                by_cases hc213 : (0 : Int) < r
                · skip
                  have hc213_ : ¬ ((r : Int) ≤ 0) := by omega
                  go_wp2
                  go_roundw
                  case rel => exact ⟨(i + 1), r, (.slice AR r cR), R, (by first | rfl | exact congrArg (Value.int .i64) (by omega) | simp [*]), (by repeat (first | with_reducible exact c205 | refine Own.far _ _ (by simp <;> omega) ?_ | with_reducible refine Own.alloc ?_ _)), (by repeat (first | with_reducible exact c206 | refine Own.far _ _ (by simp <;> omega) ?_ | with_reducible refine Own.alloc ?_ _)), (by repeat (first | with_reducible exact O208.out | refine owns_far ?_ _ (by first | exact f91 | exact f92 | exact f174 | exact f199 | exact f200) _ | with_reducible refine World.ownsRow.alloc ?_ _)), f91, f92, (by repeat (first | with_reducible exact O209.out | refine owns_far ?_ _ (by first | exact f79 | exact f80 | exact f81 | exact f175 | exact f201 | exact f202) _ | with_reducible refine World.ownsRow.alloc ?_ _)), (by repeat (first | with_reducible exact O210.out | refine owns_far ?_ _ (by first | exact f62 | exact f63 | exact f64 | exact f176 | exact f203 | exact f204) _ | with_reducible refine World.ownsRow.alloc ?_ _)), ff95, ff96, (by repeat (first | with_reducible exact hB211 | with_reducible refine bel_alloc ?_ _ | refine Below.setCell ?_ (by first | (simp; done) | (simp; omega) | omega) _)), (by omega), (by omega), (fun _ => by omega), HGr, HLr⟩
                  case measure => simp [intOf] <;> omega
                · skip
                  have hc213_ : ((r : Int) ≤ 0) := by omega
                  go_wp2_with fail
                  go_loopw [14] (fun s14 wr => ∃ (z : Nat), s14 = .int .i64 z ∧ Own wr (w.heap.size + 1) 0 [.slice none 0 0, .slice none 0 0] ∧ Own wr (W1.heap.size + 1) 0 [(.slice (some ⟨gM, 0, none⟩) nM cM), (.slice AR r cR)] ∧ Own wr (wr98.heap.size) 0 [.int .u8 0, .int .u8 1, .int .u8 0, .int .u8 0, .bool false] ∧ Own wr (bq187) 0 [.int .i64 a.i, .int .i64 a.x, .int .i64 a.y] ∧ Own wr (bq188) 0 [.int .i64 b.i, .int .i64 b.x, .int .i64 b.y] ∧ wr.ownsRow w.heap.size 105 5 (.slice AL m cL) m (las (la.take m)) ∧ wr.ownsRow w.heap.size 53 3 (.slice (some ⟨gM, 0, none⟩) nM cM) nM (nds lM) ∧ wr.ownsRow w.heap.size 67 6 (.slice AR r cR) r (rds R) ∧ Below w.heap.size w wr ∧ 1 ≤ z ∧ z ≤ 44) (fun s14 _ => 44 - (intOf s14).toNat)
                  case atStart => exact ⟨1, rfl, c205, c206, c207, c191, c192, O209.out, O210.out, O208.out, hB211, (by omega), (by omega)⟩
                  case round =>
                    clear c205 c206 c207 c191 c192 hB211 uc205 uc206 uc207 uc191 uc192 O208 O209 O210
                    obtain ⟨z, rfl, b214, b215, b216, b217, b218, o219, o220, o221, hB222, hz1, hz44⟩ := hrel
                    obtain ⟨wr223, hwr223⟩ : ∃ W_, W_ = wr := ⟨_, rfl⟩
                    subst hwr223
                    have O224 := Lib.hid o219
                    clear o219
                    have O225 := Lib.hid o220
                    clear o220
                    have O226 := Lib.hid o221
                    clear o221
                    obtain ⟨zz, hzz_, zz1, zz2, zz3, zz4⟩ := sq_z hz44
                    have HZ := Lib.hid hzz_
                    clear hzz_
                    have HZ1 := Lib.hid zz1
                    clear zz1
                    by_cases hzq : zz < px + py
                    · skip
                      have hz43 := zz4 (by omega)
                      have hzq_ : ¬ (px + py ≤ zz) := by omega
                      obtain ⟨wz1, wz2⟩ := i64_small (a := zz) (by omega) (by omega)
                      have zz1 := HZ1.out
                      obtain ⟨dx1, dy1, dx2, dy2, wd1, wd2, wd3, wd4, wp1, wp2, wp3, wp4, wp5, wp6⟩ := HPK.out
                      have ub214 := b214; have ub215 := b215; have ub216 := b216; have ub217 := b217; have ub218 := b218
                      simp only [At, Own, Nat.reduceAdd, and_true] at ub214 ub215 ub216 ub217 ub218
                      go_wp2
                      go_roundw
                      all_goals clear dx1 dy1 dx2 dy2 wd1 wd2 wd3 wd4 wp1 wp2 wp3 wp4 wp5 wp6 zz1 wz1 wz2
                      case rel => exact ⟨(z + 1), (by first | rfl | exact congrArg (Value.int .i64) (by omega) | simp [*]), (by repeat (first | with_reducible exact b214 | refine Own.far _ _ (by simp <;> omega) ?_ | with_reducible refine Own.alloc ?_ _)), (by repeat (first | with_reducible exact b215 | refine Own.far _ _ (by simp <;> omega) ?_ | with_reducible refine Own.alloc ?_ _)), (by repeat (first | with_reducible exact b216 | refine Own.far _ _ (by simp <;> omega) ?_ | with_reducible refine Own.alloc ?_ _)), (by repeat (first | with_reducible exact b217 | refine Own.far _ _ (by simp <;> omega) ?_ | with_reducible refine Own.alloc ?_ _)), (by repeat (first | with_reducible exact b218 | refine Own.far _ _ (by simp <;> omega) ?_ | with_reducible refine Own.alloc ?_ _)), (by repeat (first | with_reducible exact O224.out | refine owns_far ?_ _ (by first | exact f79 | exact f80 | exact f81 | exact f175 | exact f201 | exact f202) _ | with_reducible refine World.ownsRow.alloc ?_ _)), (by repeat (first | with_reducible exact O225.out | refine owns_far ?_ _ (by first | exact f62 | exact f63 | exact f64 | exact f176 | exact f203 | exact f204) _ | with_reducible refine World.ownsRow.alloc ?_ _)), (by repeat (first | with_reducible exact O226.out | refine owns_far ?_ _ (by first | exact f91 | exact f92 | exact f174 | exact f199 | exact f200) _ | with_reducible refine World.ownsRow.alloc ?_ _)), (by repeat (first | with_reducible exact hB222 | with_reducible refine bel_alloc ?_ _ | refine Below.setCell ?_ (by first | (simp; done) | (simp; omega) | omega) _)), (by omega), (by omega)⟩
                      case measure => simp [intOf] <;> omega
                    · skip
                      have hzq_ : px + py ≤ zz := by omega
                      obtain ⟨wz1, wz2⟩ := i64_small (a := zz) (by omega) (by omega)
                      have zz1 := HZ1.out
                      obtain ⟨dx1, dy1, dx2, dy2, wd1, wd2, wd3, wd4, wp1, wp2, wp3, wp4, wp5, wp6⟩ := HPK.out
                      have ub214 := b214; have ub215 := b215; have ub216 := b216; have ub217 := b217; have ub218 := b218
                      simp only [At, Own, Nat.reduceAdd, and_true] at ub214 ub215 ub216 ub217 ub218
                      go_upto_region 26 with fail
                      clear dx1 dy1 dx2 dy2 wd1 wd2 wd3 wd4 wp1 wp2 wp3 wp4 wp5 wp6 zz1 wz1 wz2
                      obtain ⟨ae1, ae2, ae3, ae4, ae5⟩ := hae.out
                      obtain ⟨am1, am2, am3, am4, am5⟩ := ham.out
                      go_wp2_with (at_builtin; refine wpList_appF rfl _ _ _ rfl ti_rd O226.out (hB222).size rfl rfl rfl rfl (rdc_one (Rd.mk (1 + (2 * r)) a.i b.i (z + ae) (1 + am) false)) (by omega) (by decide) ?_)
                      intro v227 w_v227 hown_v227 hst_v227
                      have O229 : Hid (w_v227.ownsRow w.heap.size 67 6 v227 ((r + 1)) (rds (R ++ [(Rd.mk (1 + (2 * r)) a.i b.i (z + ae) (1 + am) false)]))) := Lib.hid (by rw [rds_snoc]; exact hown_v227)
                      have c230 := Own.step hst_v227 f91 b214
                      have f231 := hst_v227.far _ b214.lt f91
                      have c232 := Own.step hst_v227 f92 b215
                      have f233 := hst_v227.far _ b215.lt f92
                      have c234 := Own.step hst_v227 f174 b216
                      have f235 := hst_v227.far _ b216.lt f174
                      have c236 := Own.step hst_v227 f199 b217
                      have f237 := hst_v227.far _ b217.lt f199
                      have c238 := Own.step hst_v227 f200 b218
                      have f239 := hst_v227.far _ b218.lt f200
                      have O240 := Lib.hid (owns_step hst_v227 O224.out ff95)
                      have ff241 : FarR (.slice AL m cL) v227 := FarR.step hst_v227 O224.out ff95
                      have ff241' := FarR.symm ff241
                      have O242 := Lib.hid (owns_step hst_v227 O225.out ff96)
                      have ff243 : FarR (.slice (some ⟨gM, 0, none⟩) nM cM) v227 := FarR.step hst_v227 O225.out ff96
                      have ff243' := FarR.symm ff243
                      have hB244 : Below w.heap.size w w_v227 := hst_v227.below hB222 (hB222).size (fun r hr => (O226.out.lt r hr).1)
                      clear ub214 ub215 ub216 ub217 ub218 hown_v227 b214 b215 b216 b217 b218 O224 O225
                      obtain ⟨gr245, cr245, hvr245, -, -, -, -⟩ := owns_form O229.out (by omega)
                      subst hvr245
                      have uc230 := c230; have uc232 := c232; have uc234 := c234; have uc236 := c236; have uc238 := c238
                      simp only [At, Own, Nat.reduceAdd, and_true] at uc230 uc232 uc234 uc236 uc238
                      go_wp2
                      go_roundw
                      case rel => exact ⟨(i + 1), (r + 1), (.slice (some ⟨gr245, 0, none⟩) (r + 1) cr245), (R ++ [(Rd.mk (1 + (2 * r)) a.i b.i (z + ae) (1 + am) false)]), (by first | rfl | exact congrArg (Value.int .i64) (by omega) | simp [*]), (by repeat (first | with_reducible exact c230 | refine Own.far _ _ (by simp <;> omega) ?_ | with_reducible refine Own.alloc ?_ _)), (by simp [Own, go_sem, uc230, uc232, uc234, uc236, uc238, nbq187, nbq187', ne193, ne193', ne194, ne194', ne195, ne195', ne196, ne196', ne197, ne197', ne198, ne198']), (by repeat (first | with_reducible exact O229.out | refine owns_far ?_ _ (by first | exact f231 | exact f233 | exact f235 | exact f237 | exact f239) _ | with_reducible refine World.ownsRow.alloc ?_ _)), f231, f233, (by repeat (first | with_reducible exact O240.out | refine owns_far ?_ _ (by first | exact f79 | exact f80 | exact f81 | exact f175 | exact f201 | exact f202) _ | with_reducible refine World.ownsRow.alloc ?_ _)), (by repeat (first | with_reducible exact O242.out | refine owns_far ?_ _ (by first | exact f62 | exact f63 | exact f64 | exact f176 | exact f203 | exact f204) _ | with_reducible refine World.ownsRow.alloc ?_ _)), ff241, ff243, (by repeat (first | with_reducible exact hB244 | with_reducible refine bel_alloc ?_ _ | refine Below.setCell ?_ (by first | (simp; done) | (simp; omega) | omega) _)), (by omega), (by omega), (fun _ => by omega), Lib.hid (HGr.out.snoc (by rw [HLr.out]) ⟨a, List.mem_of_getElem? HEa.out, b, List.mem_of_getElem? HEb.out, rfl, rfl, hc212, road_len HDX.out.1 HDX.out.2.1 HDX.out.2.2.1 HDX.out.2.2.2 HZ.out (by first | exact hzq | exact Int.not_lt.2 hzq) ae6, (show (1 : Int) ≤ z + ae by omega), (show (z : Int) + ae ≤ 50 by omega), (show (1 : Int) ≤ 1 + am by omega), (show 1 + am ≤ 5 by omega)⟩), Lib.hid (by rw [List.length_append, HLr.out]; rfl)⟩
                      case measure => simp [intOf] <;> omega
            · skip
              have i2 : ¬ ((i : Int) ≤ m) := by omega
              have ub88 := b88; have ub89 := b89
              simp only [At, Own, Nat.reduceAdd, and_true] at ub88 ub89
              have hr2 : 1 ≤ r := hr1 (by omega)
              have HOK : Hid (Gok ⟨lM, R⟩) := Lib.hid (gok_of HGm.out HGr.out (by rw [HLm.out]; exact hM2) (by rw [HLm.out]; exact hM9) (by rw [HLr.out]; exact hr2) (by rw [HLr.out]; omega))
              clear hr1
              have c9 : Own (wr98.setCells (w.heap.size + 1) 0 [(.slice (some ⟨gM, 0, none⟩) nM cM), (.slice AR r cR)]) (w.heap.size + 1) 0 [(.slice (some ⟨gM, 0, none⟩) nM cM), (.slice AR r cR)] := Own.set b88 rfl
              have hb9 := Below.sets (show w.heap.size ≤ w.heap.size + 1 by omega) [(.slice (some ⟨gM, 0, none⟩) nM cM), (.slice AR r cR)] 0 wr98 hB97
              have hok9 : NV (wr98.setCells (w.heap.size + 1) 0 [(.slice (some ⟨gM, 0, none⟩) nM cM), (.slice AR r cR)]) (.agg #[(.slice (some ⟨gM, 0, none⟩) nM cM), (.slice AR r cR)]) ⟨lM, R⟩ := ⟨_, _, rfl, nl_own (n := nM) (base := w.heap.size) (by simp only [World.setCells]; repeat (first | with_reducible exact O101.out | refine owns_far ?_ _ (by first | exact f62 | exact f63 | exact f64) _ | with_reducible refine World.ownsRow.alloc ?_ _)), rl_own (n := r) (base := w.heap.size) (by simp only [World.setCells]; repeat (first | with_reducible exact O99.out | refine owns_far ?_ _ (by first | exact f91 | exact f92) _ | with_reducible refine World.ownsRow.alloc ?_ _))⟩
              generalize hW9 : wr98.setCells (w.heap.size + 1) 0 [(.slice (some ⟨gM, 0, none⟩) nM cM), (.slice AR r cR)] = W9 at c9 hb9 hok9
              simp only [At, Own, Nat.reduceAdd, and_true] at c9
              go_upto_region 27 with fail
              clear ub88
              go_wp2_with (refine wpList_store_cells (cs := [(.slice (some ⟨gM, 0, none⟩) nM cM), (.slice AR r cR)]) (olds := [.slice none 0 0, .slice none 0 0]) rfl rfl _ _ _ rfl rfl rfl b88 rfl (by kernel_rfl) (by simp [Value.oneCell']) ?_; rw [hW9]; clear hW9 ub89 b88 b89)
              refine bodyPost_ret (v := .agg #[(.slice (some ⟨gM, 0, none⟩) nM cM), (.slice AR r cR)]) (by simp [results, Tryz.results16, go_sem, c9]) rfl ?_
              unfold NetR
              exact ⟨_, ⟨lM, R⟩, rfl, hok9, HOK.out, hb9⟩
end Go.Proofs.YtldfencaoaikgaaGreatDoor
