/-
  Networks in memory: the cells of nodes, roads, ends and numbers, and slices of them.
  Contracts of package network: ids, coordinates.
  Contracts of package network: search by ids.
  Contracts of package network: a node and a road by their ids.
-/
import Derived.Test.YtldfencaoaikgaaGreatDoorUMn
import Derived.Test.YtldfencaoaikgaaGreatDoorUMp
import Derived.Test.YtldfencaoaikgaaGreatDoorUMq
import Derived.Test.YtldfencaoaikgaaGreatDoorUMr
set_option linter.unusedSimpArgs false
set_option linter.unusedVariables false
namespace Go.Proofs.YtldfencaoaikgaaGreatDoor
open Go Go.RowKit Nw

theorem At.mk {w : World} {g : Nat} : ∀ (l : List Value) (i : Nat), (∀ j u, l[j]? = some u → w.cell? ⟨g, i + j, none⟩ = some u) → At w g i l
  | [], _, _ => trivial
  | v :: l, i, h => ⟨h 0 v rfl, At.mk l (i + 1) fun j u hj => by
      have := h (j + 1) u (by simpa using hj)
      rwa [show i + 1 + j = i + (j + 1) from by omega]⟩
/-- The cells of a node, of a road, of a number. -/
def ndc (x : Nd) : List Value := [.int .i64 x.i, .int .i64 x.x, .int .i64 x.y]
def rdc (x : Rd) : List Value := [.int .i64 x.i, .int .i64 x.f, .int .i64 x.t, .int .i64 x.l, .int .i64 x.m, .bool x.o]
def itc (x : Int) : List Value := [.int .i64 x]
def nds (l : List Nd) : List Value := l.flatMap ndc
def rds (l : List Rd) : List Value := l.flatMap rdc
def its (l : List Int) : List Value := l.flatMap itc
def CN (w : World) (g i : Nat) (x : Nd) : Prop := At w g i (ndc x)
def CR (w : World) (g i : Nat) (x : Rd) : Prop := At w g i (rdc x)
def CI (w : World) (g i : Nat) (x : Int) : Prop := At w g i (itc x)
theorem CN.bel {W : World} {g i : Nat} {x : Nd} (h : CN W g i x) (b : Bel W) : CN b.w1 g i x := At.up h b.h
theorem CR.bel {W : World} {g i : Nat} {x : Rd} (h : CR W g i x) (b : Bel W) : CR b.w1 g i x := At.up h b.h
theorem CI.bel {W : World} {g i : Nat} {x : Int} (h : CI W g i x) (b : Bel W) : CI b.w1 g i x := At.up h b.h
theorem kpN : Kp CN := ⟨fun h hb => At.up h hb⟩
theorem kpR : Kp CR := ⟨fun h hb => At.up h hb⟩
theorem kpI : Kp CI := ⟨fun h hb => At.up h hb⟩
/-- v is an empty slice into something. -/
def Odd (v : Value) (n : Nat) : Prop := n = 0 ∧ ∃ a c, v = .slice (some a) 0 c ∧ c ≤ maxLen
theorem Odd.open_ {α : Type} {C : World → Nat → Nat → α → Prop} {K : Nat} {w : World} {v : Value} {l : List α} (h : Odd v l.length) : ∃ A c, v = .slice A l.length c ∧ l.length ≤ c ∧ c ≤ maxLen ∧ LX C K w A l := by
  obtain ⟨h0, a, c, rfl, hc⟩ := h
  exact ⟨some a, c, by rw [h0], by omega, hc, fun k x hx => by have := (List.getElem?_eq_some_iff.1 hx).1; omega⟩
/-- append of a slice, or of an empty slice into something, onto a row of the call's own. -/
theorem wpList_appE {P : Program} {ops : Array Oper} {rest : List Oper} {o : Oper} {a : Act} {Q : Exit → Act → World → Prop} {w : World} (hgd : o.guard = none) (s x : Operand) (t : TypeId)
    (ho : o.op = .call { callee := .builtin .append, args := #[s, x], argTypes := #[t, t] }) {e : TypeId} {k bytes : Nat} (ti : TI P t e k bytes)
    {base n m : Nat} {v vx : Value} {xs news : List Value} (hown : w.ownsRow base e k v n xs) (hbase : base ≤ w.heap.size)
    (hs : a.eval s = v) (hx : a.eval x = vx) (hS : Sl w vx m k news ∨ (Odd vx m ∧ news = [])) (h1 : ∀ u ∈ news, u.oneCell' = true)
    (hbytes : (n + m) * bytes ≤ 140737488351232) (hpos : 0 < bytes)
    (h : ∀ v' w', w'.ownsRow base e k v' (n + m) (xs ++ news) → Step w w' v v' → wpList P ops Q rest (a.put o.dst v') w') : wpList P ops Q (o :: rest) a w := by
  rcases hS with hS | ⟨⟨rfl, b, c, rfl, _⟩, rfl⟩
  · exact wpList_appX hgd s x t ho ti hown hbase hs hx hS h1 hbytes hpos h
  · obtain ⟨i, hi, hif⟩ := Option.map_eq_some_iff.1 ti.info
    simp only [Prod.mk.injEq] at hif
    obtain ⟨hz, hsz, hby⟩ := hif
    obtain ⟨z, hz, hzs⟩ := Option.map_eq_some_iff.1 hz
    have hn : n + 0 ≤ 140737488351232 := Nat.le_trans (Nat.le_mul_of_pos_right _ hpos) hbytes
    obtain ⟨v', w', hr, h2, h3⟩ := run_app (P := P) w base t o.type e i z k bytes ti.und hi hz hsz hby hzs ti.pos v n xs hown b 0 c [] (by simp) (fun j u hj => by simp at hj) h1 (by unfold maxLen; omega) (by omega) hbase
    refine wpList_plain hgd fun K hK => ?_
    unfold Oper.wp
    simp [execOp, ho, resolve, invoke, builtin, hs, hx, hr, Result.andThen]
    exact hK _ _ (h v' w' h2 h3)
/-- v holds the nodes, the roads, the numbers l. -/
def NL (w : World) (v : Value) (l : List Nd) : Prop := Sl w v l.length 3 (nds l) ∨ Odd v l.length
def RL (w : World) (v : Value) (l : List Rd) : Prop := Sl w v l.length 6 (rds l) ∨ Odd v l.length
def IL (w : World) (v : Value) (l : List Int) : Prop := Sl w v l.length 1 (its l)
theorem NL.up {w w1 : World} {v : Value} {l : List Nd} (h : NL w v l) (hb : Below w.heap.size w w1) : NL w1 v l := h.imp (fun h => Sl.up h hb) id
theorem RL.up {w w1 : World} {v : Value} {l : List Rd} (h : RL w v l) (hb : Below w.heap.size w w1) : RL w1 v l := h.imp (fun h => Sl.up h hb) id
theorem IL.up {w w1 : World} {v : Value} {l : List Int} (h : IL w v l) (hb : Below w.heap.size w w1) : IL w1 v l := Sl.up h hb
theorem slnd_open {w : World} {v : Value} {l : List Nd} (h : Sl w v l.length 3 (nds l)) : ∃ A c, v = .slice A l.length c ∧ l.length ≤ c ∧ c ≤ maxLen ∧ LX CN 3 w A l :=
  sl_open ndc 3 (fun _ => rfl) (fun _ _ _ x H => At.mk _ _ fun j u hj => H j u (by have := (List.getElem?_eq_some_iff.1 hj).1; simpa [ndc] using this) hj) h
theorem slrd_open {w : World} {v : Value} {l : List Rd} (h : Sl w v l.length 6 (rds l)) : ∃ A c, v = .slice A l.length c ∧ l.length ≤ c ∧ c ≤ maxLen ∧ LX CR 6 w A l :=
  sl_open rdc 6 (fun _ => rfl) (fun _ _ _ x H => At.mk _ _ fun j u hj => H j u (by have := (List.getElem?_eq_some_iff.1 hj).1; simpa [rdc] using this) hj) h
theorem NL.open_ {w : World} {v : Value} {l : List Nd} (h : NL w v l) : ∃ A c, v = .slice A l.length c ∧ l.length ≤ c ∧ c ≤ maxLen ∧ LX CN 3 w A l := h.elim slnd_open Odd.open_
theorem RL.open_ {w : World} {v : Value} {l : List Rd} (h : RL w v l) : ∃ A c, v = .slice A l.length c ∧ l.length ≤ c ∧ c ≤ maxLen ∧ LX CR 6 w A l := h.elim slrd_open Odd.open_
theorem IL.open_ {w : World} {v : Value} {l : List Int} (h : IL w v l) : ∃ A c, v = .slice A l.length c ∧ l.length ≤ c ∧ c ≤ maxLen ∧ LX CI 1 w A l :=
  sl_open itc 1 (fun _ => rfl) (fun _ _ _ x H => At.mk _ _ fun j u hj => H j u (by have := (List.getElem?_eq_some_iff.1 hj).1; simpa [itc] using this) hj) h
/-- v holds the network N. -/
def NV (w : World) (v : Value) (N : Net) : Prop := ∃ a b, v = .agg #[a, b] ∧ NL w a N.ns ∧ RL w b N.rs
theorem NV.up {w w1 : World} {v : Value} {N : Net} (h : NV w v N) (hb : Below w.heap.size w w1) : NV w1 v N := by
  obtain ⟨a, b, e, h1, h2⟩ := h
  exact ⟨a, b, e, h1.up hb, h2.up hb⟩
theorem itc_one (x : Int) : ∀ u ∈ itc x, u.oneCell' = true := by
  intro u hu
  simp only [itc, List.mem_cons, List.not_mem_nil, or_false] at hu
  subst hu; rfl
theorem its_snoc (l : List Int) (x : Int) : its (l ++ [x]) = its l ++ itc x := by simp [its]
theorem ti_it : TI Tryz.prog 55 3 1 8 := ⟨Tryz.underlying55, by kernel_rfl, by decide⟩
theorem il_own {w : World} {base n : Nat} {v : Value} {l : List Int} (h : w.ownsRow base 3 1 v n (its l)) : IL w v l := by
  have e : n = l.length := by have := h.1; rw [its, flat_length itc 1 (fun _ => rfl)] at this; omega
  subst e
  exact Sl.of_own h
end Go.Proofs.YtldfencaoaikgaaGreatDoor

namespace Go.Proofs.YtldfencaoaikgaaGreatDoor
open Go Go.RowKit Nw

set_option maxRecDepth 100000 in
theorem nid_any (n b : Int) (w : World) :
    Calls Tryz.prog 53 #[.int .i64 n, .int .i64 b] w fun e w' => e = .returned (.int .i64 (idE n b)) ∧ Below w.heap.size w w' := by
  go_enter Tryz.func53, Tryz.ntmps53
  by_cases hc1 : (n : Int) < 1
  · skip
    have hc1_ : ¬ ((1 : Int) ≤ n) := by omega
    go_wp2
    go_ret
    refine ⟨by congr 2; unfold idE; (repeat' split) <;> first | rfl | omega, ?_⟩
    repeat (first | with_reducible exact Below.refl _ _ | with_reducible refine bel_alloc ?_ _ | refine Below.setCell ?_ (by first | (simp; done) | (simp; omega) | omega) _)
  · skip
    have hc1_ : ((1 : Int) ≤ n) := by omega
    by_cases hc2 : (1073741824 : Int) < n
    · skip
      have hc2_ : ¬ ((n : Int) ≤ 1073741824) := by omega
      go_wp2
      go_ret
      refine ⟨by congr 2; unfold idE; (repeat' split) <;> first | rfl | omega, ?_⟩
      repeat (first | with_reducible exact Below.refl _ _ | with_reducible refine bel_alloc ?_ _ | refine Below.setCell ?_ (by first | (simp; done) | (simp; omega) | omega) _)
    · skip
      have hc2_ : ((n : Int) ≤ 1073741824) := by omega
      by_cases hc3 : (n : Int) = b
      · skip
        go_wp2
        go_ret
        refine ⟨by congr 2; unfold idE; (repeat' split) <;> first | rfl | omega, ?_⟩
        repeat (first | with_reducible exact Below.refl _ _ | with_reducible refine bel_alloc ?_ _ | refine Below.setCell ?_ (by first | (simp; done) | (simp; omega) | omega) _)
      · skip
        have hc3_ : (((n : Int)) == b) = false := by simpa using hc3
        by_cases hc4 : (n : Int) < b
        · skip
          have hc4_ : ¬ ((b : Int) ≤ n) := by omega
          go_wp2
          go_ret
          refine ⟨by congr 2; unfold idE; (repeat' split) <;> first | rfl | omega, ?_⟩
          repeat (first | with_reducible exact Below.refl _ _ | with_reducible refine bel_alloc ?_ _ | refine Below.setCell ?_ (by first | (simp; done) | (simp; omega) | omega) _)
        · skip
          have hc4_ : ((b : Int) ≤ n) := by omega
          go_wp2
          go_ret
          refine ⟨by congr 2; unfold idE; (repeat' split) <;> first | rfl | omega, ?_⟩
          repeat (first | with_reducible exact Below.refl _ _ | with_reducible refine bel_alloc ?_ _ | refine Below.setCell ?_ (by first | (simp; done) | (simp; omega) | omega) _)

set_option maxRecDepth 100000 in
theorem nwide_any (n : Int) (w : World) :
    Calls Tryz.prog 54 #[.int .i64 n] w fun e w' => e = .returned (.bool (wide n)) ∧ Below w.heap.size w w' := by
  go_enter Tryz.func54, Tryz.ntmps54
  by_cases hc1 : (n : Int) < (-1048576)
  · skip
    have hc1_ : ¬ (((-1048576) : Int) ≤ n) := by omega
    go_wp2
    go_ret
    refine ⟨by congr 2; unfold wide; simp; omega, ?_⟩
    repeat (first | with_reducible exact Below.refl _ _ | with_reducible refine bel_alloc ?_ _ | refine Below.setCell ?_ (by first | (simp; done) | (simp; omega) | omega) _)
  · skip
    have hc1_ : (((-1048576) : Int) ≤ n) := by omega
    go_wp2
    go_ret
    refine ⟨by congr 2; unfold wide; simp; omega, ?_⟩
    repeat (first | with_reducible exact Below.refl _ _ | with_reducible refine bel_alloc ?_ _ | refine Below.setCell ?_ (by first | (simp; done) | (simp; omega) | omega) _)
end Go.Proofs.YtldfencaoaikgaaGreatDoor

namespace Go.Proofs.YtldfencaoaikgaaGreatDoor
open Go Go.RowKit Nw

theorem cmpI_any (x y : Int) (w : World) : Calls Tryz.prog 67 #[.int .i64 x, .int .i64 y] w fun e w' => e = .returned (.int .i64 (Lib.compareInt x y)) ∧ Below w.heap.size w w' :=
  (Tryz.cmp_Compare_int x y w).mono fun _ _ ⟨h, k⟩ => ⟨h, by subst k; exact Below.refl _ _⟩
theorem cmpI_neg {x y : Int} : Lib.compareInt x y < 0 ↔ x < y := by unfold Lib.compareInt; (repeat' split) <;> omega
theorem cmpI_zero {x y : Int} : Lib.compareInt x y = 0 ↔ x = y := by unfold Lib.compareInt; (repeat' split) <;> omega

set_option maxRecDepth 100000 in
theorem cn_any (x : Nd) (id : Int) (w : World) :
    Calls Tryz.prog 66 #[.agg #[.int .i64 x.i, .int .i64 x.x, .int .i64 x.y], .int .i64 id] w fun e w' => e = .returned (.int .i64 (Lib.compareInt x.i id)) ∧ Below w.heap.size w w' := by
  go_enter Tryz.func66, Tryz.ntmps66
  have K1 := Lib.hid (fun W => cmpI_any x.i id W)
  go_wp2_with (fail)
  refine calls_named ?_
  intro W1 hW1
  have hL1 : Below w.heap.size w W1 := by
    rw [hW1]
    repeat (first | with_reducible exact Below.refl _ _ | with_reducible refine bel_alloc ?_ _ | refine Below.setCell ?_ (by first | (simp; done) | (simp; omega) | omega) _)
  have c2 : Own W1 (w.heap.size) 0 [.int .i64 x.i, .int .i64 x.x, .int .i64 x.y] := by
    rw [hW1]
    first
    | (repeat (first | (with_reducible refine own_new (l := [.int .i64 x.i, .int .i64 x.x, .int .i64 x.y]) ?_; (simp; done)) | with_reducible refine Own.alloc ?_ _ | refine Own.far _ _ (by first | (simp; done) | (simp [*]; done) | (simp; omega)) ?_)); done
    | simp [Own, go_sem]
  have hB3 : Below w.heap.size w W1 := by
    rw [hW1]
    repeat (first | with_reducible exact Below.refl _ _ | with_reducible refine bel_alloc ?_ _ | refine Below.setCell ?_ (by first | (simp; done) | (simp; omega) | omega) _)
  clear hW1 hL1
  with_reducible refine (K1.out _).mono ?_
  rintro e w1 ⟨rfl, hb1⟩
  have c4 := c2.up hb1
  have hB5 : Below w.heap.size w w1 := bel_up hB3 hb1
  clear c2
  have uc4 := c4
  simp only [At, Own, Nat.reduceAdd, and_true] at uc4
  go_wp2
  go_ret
  refine ⟨rfl, ?_⟩
  repeat (first | with_reducible exact hB5 | with_reducible refine bel_alloc ?_ _ | refine Below.setCell ?_ (by first | (simp; done) | (simp; omega) | omega) _)


set_option maxHeartbeats 1000000 in
set_option maxRecDepth 100000 in
theorem bsn_any (l : List Nd) (id : Int) (A : Option Addr) (c N : Nat) (w : World) (hx : LX CN 3 w A l) (hs : SrtN l) (hN : l.length = N) (hl : N ≤ 1000000) (hc : N ≤ c) :
    Calls Tryz.prog 65 #[.slice A N c, .int .i64 id, .func (.func 66) #[] #[]] w fun e w' => (∃ k is, e = .returned (.tuple #[.int .i64 (k : Nat), .bool is]) ∧ Bs l (fun x => x.i) id k is) ∧ Below w.heap.size w w' := by
  have HX := Lib.hid hx
  have HS := Lib.hid hs
  have HN := Lib.hid hN
  clear hx hs hN
  have HC := Lib.hid (fun (x : Nd) W => cn_any x id W)
  go_enter Tryz.func65, Tryz.ntmps65
  go_wp2
  go_loopw [9, 10] (fun s9 s10 wr => ∃ lo hi : Nat, s9 = .int .i64 lo ∧ s10 = .int .i64 hi ∧ lo ≤ hi ∧ hi ≤ N ∧ Below w.heap.size w wr ∧ Hid ((∀ j x, j < lo → l[j]? = some x → x.i < id) ∧ ∀ j x, hi ≤ j → l[j]? = some x → id ≤ x.i)) (fun s9 s10 _ => (intOf s10 - intOf s9).toNat)
  case atStart => exact ⟨0, N, rfl, rfl, Nat.zero_le _, Nat.le_refl _, Below.refl _ _, Lib.hid ⟨fun j x hj => absurd hj (Nat.not_lt_zero _), fun j x h1 h2 => by have := (List.getElem?_eq_some_iff.1 h2).1; have := HN.out; omega⟩⟩
  case round =>
    obtain ⟨lo, hi, rfl, rfl, hlh, hin, hb, I⟩ := hrel
    by_cases hlt : lo < hi
    · obtain ⟨x, hxm⟩ : ∃ x, l[(lo + hi) / 2]? = some x := ⟨_, List.getElem?_eq_getElem (by rw [HN.out]; omega)⟩
      have HXM := Lib.hid hxm
      obtain ⟨g, o, rfl, -⟩ := HX.out _ _ hxm
      have ce := LX.at_ (HX.out.up kpN hb) hxm
      clear hxm
      have hgl : g < wr.heap.size := World.block_lt_of_cell? _ _ ce.1
      have uce := ce
      simp only [CN, ndc, At, and_true] at uce
      by_cases hyx : Lib.compareInt x.i id < 0
      · go_wp2_with (go_at_call 66; with_reducible refine (HC.out x _).mono ?_; rintro e w1 ⟨rfl, hb1⟩)
        go_roundw
        case rel => exact ⟨(lo + hi) / 2 + 1, hi, by rw [show ((lo : Int) + (hi : Int)) / 2 + 1 = (((lo + hi) / 2 + 1 : Nat) : Int) by omega], rfl, by omega, hin, bel_up hb hb1, Lib.hid ⟨fun j y hj hy => by
          by_cases q : j = (lo + hi) / 2
          · subst q; have := HXM.out.symm.trans hy; cases this; exact cmpI_neg.1 hyx
          · have h1 := List.pairwise_iff_getElem.1 HS.out j ((lo + hi) / 2) (by have := (List.getElem?_eq_some_iff.1 hy).1; omega) (by have := (List.getElem?_eq_some_iff.1 HXM.out).1; omega) (by omega)
            have e1 := (List.getElem?_eq_some_iff.1 hy).2; have e2 := (List.getElem?_eq_some_iff.1 HXM.out).2
            rw [e1, e2] at h1; have := cmpI_neg.1 hyx; omega, I.out.2⟩⟩
        case measure => simp [intOf]; omega
      · go_wp2_with (go_at_call 66; with_reducible refine (HC.out x _).mono ?_; rintro e w1 ⟨rfl, hb1⟩)
        go_roundw
        case rel => exact ⟨lo, (lo + hi) / 2, rfl, by rw [show ((lo : Int) + (hi : Int)) / 2 = (((lo + hi) / 2 : Nat) : Int) by omega], by omega, by omega, bel_up hb hb1, Lib.hid ⟨I.out.1, fun j y hj hy => by
          have hx0 : id ≤ x.i := Int.not_lt.1 fun h => Int.not_lt.2 hyx (cmpI_neg.2 h)
          by_cases q : j = (lo + hi) / 2
          · subst q; have := HXM.out.symm.trans hy; cases this; exact hx0
          · have h1 := List.pairwise_iff_getElem.1 HS.out ((lo + hi) / 2) j (by have := (List.getElem?_eq_some_iff.1 HXM.out).1; omega) (by have := (List.getElem?_eq_some_iff.1 hy).1; omega) (by omega)
            have e1 := (List.getElem?_eq_some_iff.1 hy).2; have e2 := (List.getElem?_eq_some_iff.1 HXM.out).2
            rw [e1, e2] at h1; omega⟩⟩
        case measure => simp [intOf]; omega
    · obtain rfl : hi = lo := by omega
      by_cases hn : hi < N
      · obtain ⟨x, hxm⟩ : ∃ x, l[hi]? = some x := ⟨_, List.getElem?_eq_getElem (by rw [HN.out]; omega)⟩
        have HXM := Lib.hid hxm
        obtain ⟨g, o, rfl, -⟩ := HX.out _ _ hxm
        have ce := LX.at_ (HX.out.up kpN hb) hxm
        clear hxm
        have hgl : g < wr.heap.size := World.block_lt_of_cell? _ _ ce.1
        have uce := ce
        simp only [CN, ndc, At, and_true] at uce
        by_cases hyx : Lib.compareInt x.i id = 0
        · go_wp2_with (go_at_call 66; with_reducible refine (HC.out x _).mono ?_; rintro e w1 ⟨rfl, hb1⟩)
          go_ret2
          exact ⟨⟨hi, true, by simp [*], by rw [HN.out]; omega, I.out.1, I.out.2, by simp only [true_iff]; exact ⟨x, HXM.out, cmpI_zero.1 hyx⟩⟩, bel_up hb hb1⟩
        · go_wp2_with (go_at_call 66; with_reducible refine (HC.out x _).mono ?_; rintro e w1 ⟨rfl, hb1⟩)
          go_ret2
          exact ⟨⟨hi, false, by simp [*], by rw [HN.out]; omega, I.out.1, I.out.2, by simp only [Bool.false_eq_true, false_iff]; rintro ⟨y, h1, h2⟩; have := HXM.out.symm.trans h1; cases this; exact hyx (cmpI_zero.2 h2)⟩, bel_up hb hb1⟩
      · go_wp2
        go_ret2
        exact ⟨⟨hi, false, by simp [*], by rw [HN.out]; omega, I.out.1, I.out.2, by simp only [Bool.false_eq_true, false_iff]; rintro ⟨y, h1, h2⟩; have := (List.getElem?_eq_some_iff.1 h1).1; rw [HN.out] at this; omega⟩, hb⟩

set_option maxRecDepth 100000 in
theorem cr_any (x : Rd) (id : Int) (w : World) :
    Calls Tryz.prog 69 #[.agg #[.int .i64 x.i, .int .i64 x.f, .int .i64 x.t, .int .i64 x.l, .int .i64 x.m, .bool x.o], .int .i64 id] w fun e w' => e = .returned (.int .i64 (Lib.compareInt x.i id)) ∧ Below w.heap.size w w' := by
  go_enter Tryz.func69, Tryz.ntmps69
  have K1 := Lib.hid (fun W => cmpI_any x.i id W)
  go_wp2_with (fail)
  refine calls_named ?_
  intro W1 hW1
  have hL1 : Below w.heap.size w W1 := by
    rw [hW1]
    repeat (first | with_reducible exact Below.refl _ _ | with_reducible refine bel_alloc ?_ _ | refine Below.setCell ?_ (by first | (simp; done) | (simp; omega) | omega) _)
  have c2 : Own W1 (w.heap.size) 0 [.int .i64 x.i, .int .i64 x.f, .int .i64 x.t, .int .i64 x.l, .int .i64 x.m, .bool x.o] := by
    rw [hW1]
    first
    | (repeat (first | (with_reducible refine own_new (l := [.int .i64 x.i, .int .i64 x.f, .int .i64 x.t, .int .i64 x.l, .int .i64 x.m, .bool x.o]) ?_; (simp; done)) | with_reducible refine Own.alloc ?_ _ | refine Own.far _ _ (by first | (simp; done) | (simp [*]; done) | (simp; omega)) ?_)); done
    | simp [Own, go_sem]
  have hB3 : Below w.heap.size w W1 := by
    rw [hW1]
    repeat (first | with_reducible exact Below.refl _ _ | with_reducible refine bel_alloc ?_ _ | refine Below.setCell ?_ (by first | (simp; done) | (simp; omega) | omega) _)
  clear hW1 hL1
  with_reducible refine (K1.out _).mono ?_
  rintro e w1 ⟨rfl, hb1⟩
  have c4 := c2.up hb1
  have hB5 : Below w.heap.size w w1 := bel_up hB3 hb1
  clear c2
  have uc4 := c4
  simp only [At, Own, Nat.reduceAdd, and_true] at uc4
  go_wp2
  go_ret
  refine ⟨rfl, ?_⟩
  repeat (first | with_reducible exact hB5 | with_reducible refine bel_alloc ?_ _ | refine Below.setCell ?_ (by first | (simp; done) | (simp; omega) | omega) _)


set_option maxHeartbeats 1000000 in
set_option maxRecDepth 100000 in
theorem bsr_any (l : List Rd) (id : Int) (A : Option Addr) (c N : Nat) (w : World) (hx : LX CR 6 w A l) (hs : SrtR l) (hN : l.length = N) (hl : N ≤ 1000000) (hc : N ≤ c) :
    Calls Tryz.prog 68 #[.slice A N c, .int .i64 id, .func (.func 69) #[] #[]] w fun e w' => (∃ k is, e = .returned (.tuple #[.int .i64 (k : Nat), .bool is]) ∧ Bs l (fun x => x.i) id k is) ∧ Below w.heap.size w w' := by
  have HX := Lib.hid hx
  have HS := Lib.hid hs
  have HN := Lib.hid hN
  clear hx hs hN
  have HC := Lib.hid (fun (x : Rd) W => cr_any x id W)
  go_enter Tryz.func68, Tryz.ntmps68
  go_wp2
  go_loopw [9, 10] (fun s9 s10 wr => ∃ lo hi : Nat, s9 = .int .i64 lo ∧ s10 = .int .i64 hi ∧ lo ≤ hi ∧ hi ≤ N ∧ Below w.heap.size w wr ∧ Hid ((∀ j x, j < lo → l[j]? = some x → x.i < id) ∧ ∀ j x, hi ≤ j → l[j]? = some x → id ≤ x.i)) (fun s9 s10 _ => (intOf s10 - intOf s9).toNat)
  case atStart => exact ⟨0, N, rfl, rfl, Nat.zero_le _, Nat.le_refl _, Below.refl _ _, Lib.hid ⟨fun j x hj => absurd hj (Nat.not_lt_zero _), fun j x h1 h2 => by have := (List.getElem?_eq_some_iff.1 h2).1; have := HN.out; omega⟩⟩
  case round =>
    obtain ⟨lo, hi, rfl, rfl, hlh, hin, hb, I⟩ := hrel
    by_cases hlt : lo < hi
    · obtain ⟨x, hxm⟩ : ∃ x, l[(lo + hi) / 2]? = some x := ⟨_, List.getElem?_eq_getElem (by rw [HN.out]; omega)⟩
      have HXM := Lib.hid hxm
      obtain ⟨g, o, rfl, -⟩ := HX.out _ _ hxm
      have ce := LX.at_ (HX.out.up kpR hb) hxm
      clear hxm
      have hgl : g < wr.heap.size := World.block_lt_of_cell? _ _ ce.1
      have uce := ce
      simp only [CR, rdc, At, and_true] at uce
      by_cases hyx : Lib.compareInt x.i id < 0
      · go_wp2_with (go_at_call 69; with_reducible refine (HC.out x _).mono ?_; rintro e w1 ⟨rfl, hb1⟩)
        go_roundw
        case rel => exact ⟨(lo + hi) / 2 + 1, hi, by rw [show ((lo : Int) + (hi : Int)) / 2 + 1 = (((lo + hi) / 2 + 1 : Nat) : Int) by omega], rfl, by omega, hin, bel_up hb hb1, Lib.hid ⟨fun j y hj hy => by
          by_cases q : j = (lo + hi) / 2
          · subst q; have := HXM.out.symm.trans hy; cases this; exact cmpI_neg.1 hyx
          · have h1 := List.pairwise_iff_getElem.1 HS.out j ((lo + hi) / 2) (by have := (List.getElem?_eq_some_iff.1 hy).1; omega) (by have := (List.getElem?_eq_some_iff.1 HXM.out).1; omega) (by omega)
            have e1 := (List.getElem?_eq_some_iff.1 hy).2; have e2 := (List.getElem?_eq_some_iff.1 HXM.out).2
            rw [e1, e2] at h1; have := cmpI_neg.1 hyx; omega, I.out.2⟩⟩
        case measure => simp [intOf]; omega
      · go_wp2_with (go_at_call 69; with_reducible refine (HC.out x _).mono ?_; rintro e w1 ⟨rfl, hb1⟩)
        go_roundw
        case rel => exact ⟨lo, (lo + hi) / 2, rfl, by rw [show ((lo : Int) + (hi : Int)) / 2 = (((lo + hi) / 2 : Nat) : Int) by omega], by omega, by omega, bel_up hb hb1, Lib.hid ⟨I.out.1, fun j y hj hy => by
          have hx0 : id ≤ x.i := Int.not_lt.1 fun h => Int.not_lt.2 hyx (cmpI_neg.2 h)
          by_cases q : j = (lo + hi) / 2
          · subst q; have := HXM.out.symm.trans hy; cases this; exact hx0
          · have h1 := List.pairwise_iff_getElem.1 HS.out ((lo + hi) / 2) j (by have := (List.getElem?_eq_some_iff.1 HXM.out).1; omega) (by have := (List.getElem?_eq_some_iff.1 hy).1; omega) (by omega)
            have e1 := (List.getElem?_eq_some_iff.1 hy).2; have e2 := (List.getElem?_eq_some_iff.1 HXM.out).2
            rw [e1, e2] at h1; omega⟩⟩
        case measure => simp [intOf]; omega
    · obtain rfl : hi = lo := by omega
      by_cases hn : hi < N
      · obtain ⟨x, hxm⟩ : ∃ x, l[hi]? = some x := ⟨_, List.getElem?_eq_getElem (by rw [HN.out]; omega)⟩
        have HXM := Lib.hid hxm
        obtain ⟨g, o, rfl, -⟩ := HX.out _ _ hxm
        have ce := LX.at_ (HX.out.up kpR hb) hxm
        clear hxm
        have hgl : g < wr.heap.size := World.block_lt_of_cell? _ _ ce.1
        have uce := ce
        simp only [CR, rdc, At, and_true] at uce
        by_cases hyx : Lib.compareInt x.i id = 0
        · go_wp2_with (go_at_call 69; with_reducible refine (HC.out x _).mono ?_; rintro e w1 ⟨rfl, hb1⟩)
          go_ret2
          exact ⟨⟨hi, true, by simp [*], by rw [HN.out]; omega, I.out.1, I.out.2, by simp only [true_iff]; exact ⟨x, HXM.out, cmpI_zero.1 hyx⟩⟩, bel_up hb hb1⟩
        · go_wp2_with (go_at_call 69; with_reducible refine (HC.out x _).mono ?_; rintro e w1 ⟨rfl, hb1⟩)
          go_ret2
          exact ⟨⟨hi, false, by simp [*], by rw [HN.out]; omega, I.out.1, I.out.2, by simp only [Bool.false_eq_true, false_iff]; rintro ⟨y, h1, h2⟩; have := HXM.out.symm.trans h1; cases this; exact hyx (cmpI_zero.2 h2)⟩, bel_up hb hb1⟩
      · go_wp2
        go_ret2
        exact ⟨⟨hi, false, by simp [*], by rw [HN.out]; omega, I.out.1, I.out.2, by simp only [Bool.false_eq_true, false_iff]; rintro ⟨y, h1, h2⟩; have := (List.getElem?_eq_some_iff.1 h1).1; rw [HN.out] at this; omega⟩, hb⟩
end Go.Proofs.YtldfencaoaikgaaGreatDoor

namespace Go.Proofs.YtldfencaoaikgaaGreatDoor
open Go Go.RowKit Nw

set_option maxRecDepth 100000 in
theorem node_some (N : Net) (x : Nd) (id : Int) (v : Value) (w : World) (h : NV w v N) (g : Half N) (hh : fnd N.ns id = some x) :
    Calls Tryz.prog 29 #[v, .int .i64 id] w fun e w' => e = .returned (.tuple #[.agg #[.int .i64 x.i, .int .i64 x.x, .int .i64 x.y], .bool true]) ∧ Below w.heap.size w w' := by
  obtain ⟨_, _, rfl, hn, hr⟩ := h
  obtain ⟨An, cn, rfl, hcn, hmn, hxn⟩ := hn.open_
  obtain ⟨Ar, cr, rfl, hcr, hmr, hxr⟩ := hr.open_
  have HNV : Hid (NV w (.agg #[.slice An N.ns.length cn, .slice Ar N.rs.length cr]) N) := Lib.hid ⟨_, _, rfl, hn, hr⟩
  have HXN := Lib.hid hxn
  have HXR := Lib.hid hxr
  have HG := Lib.hid g
  have hln := g.ln
  have hlr := g.lr
  generalize hNn : N.ns.length = Nn at *
  generalize hNr : N.rs.length = Nr at *
  have HNn := Lib.hid hNn
  have HNr := Lib.hid hNr
  clear hn hr hxn hxr g hNn hNr
  have HH := Lib.hid hh
  clear hh
  go_enter Tryz.func29, Tryz.ntmps29
  go_wp2_with (fail)
  refine calls_named ?_
  intro W1 hW1
  have hL1 : Below w.heap.size w W1 := by
    rw [hW1]
    repeat (first | with_reducible exact Below.refl _ _ | with_reducible refine bel_alloc ?_ _ | refine Below.setCell ?_ (by first | (simp; done) | (simp; omega) | omega) _)
  have c1 : Own W1 (w.heap.size) 0 [.slice An Nn cn, .slice Ar Nr cr] := by
    rw [hW1]
    first
    | (repeat (first | (with_reducible refine own_new (l := [.slice An Nn cn, .slice Ar Nr cr]) ?_; (simp; done)) | with_reducible refine Own.alloc ?_ _ | refine Own.far _ _ (by first | (simp; done) | (simp [*]; done) | (simp; omega)) ?_)); done
    | simp [Own, go_sem]
  have c2 : Own W1 (w.heap.size + 1) 0 [.int .i64 0, .int .i64 0, .int .i64 0] := by
    rw [hW1]
    first
    | (repeat (first | (with_reducible refine own_new (l := [.int .i64 0, .int .i64 0, .int .i64 0]) ?_; (simp; done)) | with_reducible refine Own.alloc ?_ _ | refine Own.far _ _ (by first | (simp; done) | (simp [*]; done) | (simp; omega)) ?_)); done
    | simp [Own, go_sem]
  have hB3 : Below w.heap.size w W1 := by
    rw [hW1]
    repeat (first | with_reducible exact Below.refl _ _ | with_reducible refine bel_alloc ?_ _ | refine Below.setCell ?_ (by first | (simp; done) | (simp; omega) | omega) _)
  clear hW1 hL1
  with_reducible refine (bsn_any N.ns id An cn Nn _ (HXN.out.up kpN hB3) HG.out.sn HNn.out (by omega) (by omega)).mono ?_
  rintro e w1 ⟨⟨k1, is1, rfl, hbs⟩, hb1⟩
  have c4 := c1.up hb1
  have c5 := c2.up hb1
  have hB6 : Below w.heap.size w w1 := bel_up hB3 hb1
  clear c1 c2
  have hk1 := hbs.le
  rw [HNn.out] at hk1
  rcases hbs.find HG.out.sn with ⟨rfl, x1, hx1, hf1⟩ | ⟨rfl, hf1⟩
  rotate_left
  · exact absurd (HH.out.symm.trans hf1) (by simp)
  obtain rfl : x1 = x := by have := HH.out.symm.trans hf1; injection this with this; exact this.symm
  have HX1 := Lib.hid hx1
  have hk2 : k1 < Nn := by have := (List.getElem?_eq_some_iff.1 hx1).1; rw [HNn.out] at this; exact this
  clear hbs hf1 hx1
  have uc4 := c4; have uc5 := c5
  simp only [At, Own, Nat.reduceAdd, and_true] at uc4 uc5
  obtain ⟨g8, o9, ha10, -⟩ := (HXN.out).up kpN hB6 _ _ HX1.out
  subst ha10
  have ce7 := LX.at_ ((HXN.out).up kpN hB6) HX1.out
  have ce7_ : g8 < w1.heap.size := World.block_lt_of_cell? _ _ ce7.1
  have uce7 := ce7
  simp only [CN, ndc, At, Nat.reduceMul] at uce7
  go_wp2
  refine bodyPost_ret (v := .tuple #[.agg #[.int .i64 x1.i, .int .i64 x1.x, .int .i64 x1.y], .bool true]) (by simp [results, Tryz.results29, go_sem, uc4, uc5, uce7]) rfl ⟨rfl, ?_⟩
  repeat (first | with_reducible exact hB6 | with_reducible refine bel_alloc ?_ _ | refine Below.setCell ?_ (by first | (simp; done) | (simp; omega) | omega) _)

set_option maxRecDepth 100000 in
theorem node_none (N : Net) (id : Int) (v : Value) (w : World) (h : NV w v N) (g : Half N) (hh : fnd N.ns id = none) :
    Calls Tryz.prog 29 #[v, .int .i64 id] w fun e w' => e = .returned (.tuple #[.agg #[.int .i64 0, .int .i64 0, .int .i64 0], .bool false]) ∧ Below w.heap.size w w' := by
  obtain ⟨_, _, rfl, hn, hr⟩ := h
  obtain ⟨An, cn, rfl, hcn, hmn, hxn⟩ := hn.open_
  obtain ⟨Ar, cr, rfl, hcr, hmr, hxr⟩ := hr.open_
  have HNV : Hid (NV w (.agg #[.slice An N.ns.length cn, .slice Ar N.rs.length cr]) N) := Lib.hid ⟨_, _, rfl, hn, hr⟩
  have HXN := Lib.hid hxn
  have HXR := Lib.hid hxr
  have HG := Lib.hid g
  have hln := g.ln
  have hlr := g.lr
  generalize hNn : N.ns.length = Nn at *
  generalize hNr : N.rs.length = Nr at *
  have HNn := Lib.hid hNn
  have HNr := Lib.hid hNr
  clear hn hr hxn hxr g hNn hNr
  have HH := Lib.hid hh
  clear hh
  go_enter Tryz.func29, Tryz.ntmps29
  go_wp2_with (fail)
  refine calls_named ?_
  intro W1 hW1
  have hL1 : Below w.heap.size w W1 := by
    rw [hW1]
    repeat (first | with_reducible exact Below.refl _ _ | with_reducible refine bel_alloc ?_ _ | refine Below.setCell ?_ (by first | (simp; done) | (simp; omega) | omega) _)
  have c1 : Own W1 (w.heap.size) 0 [.slice An Nn cn, .slice Ar Nr cr] := by
    rw [hW1]
    first
    | (repeat (first | (with_reducible refine own_new (l := [.slice An Nn cn, .slice Ar Nr cr]) ?_; (simp; done)) | with_reducible refine Own.alloc ?_ _ | refine Own.far _ _ (by first | (simp; done) | (simp [*]; done) | (simp; omega)) ?_)); done
    | simp [Own, go_sem]
  have c2 : Own W1 (w.heap.size + 1) 0 [.int .i64 0, .int .i64 0, .int .i64 0] := by
    rw [hW1]
    first
    | (repeat (first | (with_reducible refine own_new (l := [.int .i64 0, .int .i64 0, .int .i64 0]) ?_; (simp; done)) | with_reducible refine Own.alloc ?_ _ | refine Own.far _ _ (by first | (simp; done) | (simp [*]; done) | (simp; omega)) ?_)); done
    | simp [Own, go_sem]
  have hB3 : Below w.heap.size w W1 := by
    rw [hW1]
    repeat (first | with_reducible exact Below.refl _ _ | with_reducible refine bel_alloc ?_ _ | refine Below.setCell ?_ (by first | (simp; done) | (simp; omega) | omega) _)
  clear hW1 hL1
  with_reducible refine (bsn_any N.ns id An cn Nn _ (HXN.out.up kpN hB3) HG.out.sn HNn.out (by omega) (by omega)).mono ?_
  rintro e w1 ⟨⟨k1, is1, rfl, hbs⟩, hb1⟩
  have c4 := c1.up hb1
  have c5 := c2.up hb1
  have hB6 : Below w.heap.size w w1 := bel_up hB3 hb1
  clear c1 c2
  have hk1 := hbs.le
  rw [HNn.out] at hk1
  rcases hbs.find HG.out.sn with ⟨rfl, x1, hx1, hf1⟩ | ⟨rfl, hf1⟩
  · exact absurd (HH.out.symm.trans hf1) (by simp)
  clear hbs hf1
  have uc4 := c4; have uc5 := c5
  simp only [At, Own, Nat.reduceAdd, and_true] at uc4 uc5
  go_wp2
  refine bodyPost_ret (v := .tuple #[.agg #[.int .i64 0, .int .i64 0, .int .i64 0], .bool false]) (by simp [results, Tryz.results29, go_sem, uc4, uc5]) rfl ⟨rfl, ?_⟩
  repeat (first | with_reducible exact hB6 | with_reducible refine bel_alloc ?_ _ | refine Below.setCell ?_ (by first | (simp; done) | (simp; omega) | omega) _)

set_option maxRecDepth 100000 in
theorem road_some (N : Net) (x : Rd) (id : Int) (v : Value) (w : World) (h : NV w v N) (g : Vld N) (hh : frd N.rs id = some x) :
    Calls Tryz.prog 30 #[v, .int .i64 id] w fun e w' => e = .returned (.tuple #[.agg #[.int .i64 x.i, .int .i64 x.f, .int .i64 x.t, .int .i64 x.l, .int .i64 x.m, .bool x.o], .bool true]) ∧ Below w.heap.size w w' := by
  obtain ⟨_, _, rfl, hn, hr⟩ := h
  obtain ⟨An, cn, rfl, hcn, hmn, hxn⟩ := hn.open_
  obtain ⟨Ar, cr, rfl, hcr, hmr, hxr⟩ := hr.open_
  have HNV : Hid (NV w (.agg #[.slice An N.ns.length cn, .slice Ar N.rs.length cr]) N) := Lib.hid ⟨_, _, rfl, hn, hr⟩
  have HXN := Lib.hid hxn
  have HXR := Lib.hid hxr
  have HG := Lib.hid g
  have hln := g.ln
  have hlr := g.lr
  generalize hNn : N.ns.length = Nn at *
  generalize hNr : N.rs.length = Nr at *
  have HNn := Lib.hid hNn
  have HNr := Lib.hid hNr
  clear hn hr hxn hxr g hNn hNr
  have HH := Lib.hid hh
  clear hh
  go_enter Tryz.func30, Tryz.ntmps30
  go_wp2_with (fail)
  refine calls_named ?_
  intro W1 hW1
  have hL1 : Below w.heap.size w W1 := by
    rw [hW1]
    repeat (first | with_reducible exact Below.refl _ _ | with_reducible refine bel_alloc ?_ _ | refine Below.setCell ?_ (by first | (simp; done) | (simp; omega) | omega) _)
  have c1 : Own W1 (w.heap.size) 0 [.slice An Nn cn, .slice Ar Nr cr] := by
    rw [hW1]
    first
    | (repeat (first | (with_reducible refine own_new (l := [.slice An Nn cn, .slice Ar Nr cr]) ?_; (simp; done)) | with_reducible refine Own.alloc ?_ _ | refine Own.far _ _ (by first | (simp; done) | (simp [*]; done) | (simp; omega)) ?_)); done
    | simp [Own, go_sem]
  have c2 : Own W1 (w.heap.size + 1) 0 [.int .i64 0, .int .i64 0, .int .i64 0, .int .i64 0, .int .i64 0, .bool false] := by
    rw [hW1]
    first
    | (repeat (first | (with_reducible refine own_new (l := [.int .i64 0, .int .i64 0, .int .i64 0, .int .i64 0, .int .i64 0, .bool false]) ?_; (simp; done)) | with_reducible refine Own.alloc ?_ _ | refine Own.far _ _ (by first | (simp; done) | (simp [*]; done) | (simp; omega)) ?_)); done
    | simp [Own, go_sem]
  have hB3 : Below w.heap.size w W1 := by
    rw [hW1]
    repeat (first | with_reducible exact Below.refl _ _ | with_reducible refine bel_alloc ?_ _ | refine Below.setCell ?_ (by first | (simp; done) | (simp; omega) | omega) _)
  clear hW1 hL1
  with_reducible refine (bsr_any N.rs id Ar cr Nr _ (HXR.out.up kpR hB3) HG.out.sr HNr.out (by omega) (by omega)).mono ?_
  rintro e w1 ⟨⟨k1, is1, rfl, hbs⟩, hb1⟩
  have c4 := c1.up hb1
  have c5 := c2.up hb1
  have hB6 : Below w.heap.size w w1 := bel_up hB3 hb1
  clear c1 c2
  have hk1 := hbs.le
  rw [HNr.out] at hk1
  rcases hbs.find HG.out.sr with ⟨rfl, x1, hx1, hf1⟩ | ⟨rfl, hf1⟩
  rotate_left
  · exact absurd (HH.out.symm.trans hf1) (by simp)
  obtain rfl : x1 = x := by have := HH.out.symm.trans hf1; injection this with this; exact this.symm
  have HX1 := Lib.hid hx1
  have hk2 : k1 < Nr := by have := (List.getElem?_eq_some_iff.1 hx1).1; rw [HNr.out] at this; exact this
  clear hbs hf1 hx1
  have uc4 := c4; have uc5 := c5
  simp only [At, Own, Nat.reduceAdd, and_true] at uc4 uc5
  obtain ⟨g8, o9, ha10, -⟩ := (HXR.out).up kpR hB6 _ _ HX1.out
  subst ha10
  have ce7 := LX.at_ ((HXR.out).up kpR hB6) HX1.out
  have ce7_ : g8 < w1.heap.size := World.block_lt_of_cell? _ _ ce7.1
  have uce7 := ce7
  simp only [CR, rdc, At, Nat.reduceMul] at uce7
  go_wp2
  refine bodyPost_ret (v := .tuple #[.agg #[.int .i64 x1.i, .int .i64 x1.f, .int .i64 x1.t, .int .i64 x1.l, .int .i64 x1.m, .bool x1.o], .bool true]) (by simp [results, Tryz.results30, go_sem, uc4, uc5, uce7]) rfl ⟨rfl, ?_⟩
  repeat (first | with_reducible exact hB6 | with_reducible refine bel_alloc ?_ _ | refine Below.setCell ?_ (by first | (simp; done) | (simp; omega) | omega) _)

set_option maxRecDepth 100000 in
theorem road_none (N : Net) (id : Int) (v : Value) (w : World) (h : NV w v N) (g : Vld N) (hh : frd N.rs id = none) :
    Calls Tryz.prog 30 #[v, .int .i64 id] w fun e w' => e = .returned (.tuple #[.agg #[.int .i64 0, .int .i64 0, .int .i64 0, .int .i64 0, .int .i64 0, .bool false], .bool false]) ∧ Below w.heap.size w w' := by
  obtain ⟨_, _, rfl, hn, hr⟩ := h
  obtain ⟨An, cn, rfl, hcn, hmn, hxn⟩ := hn.open_
  obtain ⟨Ar, cr, rfl, hcr, hmr, hxr⟩ := hr.open_
  have HNV : Hid (NV w (.agg #[.slice An N.ns.length cn, .slice Ar N.rs.length cr]) N) := Lib.hid ⟨_, _, rfl, hn, hr⟩
  have HXN := Lib.hid hxn
  have HXR := Lib.hid hxr
  have HG := Lib.hid g
  have hln := g.ln
  have hlr := g.lr
  generalize hNn : N.ns.length = Nn at *
  generalize hNr : N.rs.length = Nr at *
  have HNn := Lib.hid hNn
  have HNr := Lib.hid hNr
  clear hn hr hxn hxr g hNn hNr
  have HH := Lib.hid hh
  clear hh
  go_enter Tryz.func30, Tryz.ntmps30
  go_wp2_with (fail)
  refine calls_named ?_
  intro W1 hW1
  have hL1 : Below w.heap.size w W1 := by
    rw [hW1]
    repeat (first | with_reducible exact Below.refl _ _ | with_reducible refine bel_alloc ?_ _ | refine Below.setCell ?_ (by first | (simp; done) | (simp; omega) | omega) _)
  have c1 : Own W1 (w.heap.size) 0 [.slice An Nn cn, .slice Ar Nr cr] := by
    rw [hW1]
    first
    | (repeat (first | (with_reducible refine own_new (l := [.slice An Nn cn, .slice Ar Nr cr]) ?_; (simp; done)) | with_reducible refine Own.alloc ?_ _ | refine Own.far _ _ (by first | (simp; done) | (simp [*]; done) | (simp; omega)) ?_)); done
    | simp [Own, go_sem]
  have c2 : Own W1 (w.heap.size + 1) 0 [.int .i64 0, .int .i64 0, .int .i64 0, .int .i64 0, .int .i64 0, .bool false] := by
    rw [hW1]
    first
    | (repeat (first | (with_reducible refine own_new (l := [.int .i64 0, .int .i64 0, .int .i64 0, .int .i64 0, .int .i64 0, .bool false]) ?_; (simp; done)) | with_reducible refine Own.alloc ?_ _ | refine Own.far _ _ (by first | (simp; done) | (simp [*]; done) | (simp; omega)) ?_)); done
    | simp [Own, go_sem]
  have hB3 : Below w.heap.size w W1 := by
    rw [hW1]
    repeat (first | with_reducible exact Below.refl _ _ | with_reducible refine bel_alloc ?_ _ | refine Below.setCell ?_ (by first | (simp; done) | (simp; omega) | omega) _)
  clear hW1 hL1
  with_reducible refine (bsr_any N.rs id Ar cr Nr _ (HXR.out.up kpR hB3) HG.out.sr HNr.out (by omega) (by omega)).mono ?_
  rintro e w1 ⟨⟨k1, is1, rfl, hbs⟩, hb1⟩
  have c4 := c1.up hb1
  have c5 := c2.up hb1
  have hB6 : Below w.heap.size w w1 := bel_up hB3 hb1
  clear c1 c2
  have hk1 := hbs.le
  rw [HNr.out] at hk1
  rcases hbs.find HG.out.sr with ⟨rfl, x1, hx1, hf1⟩ | ⟨rfl, hf1⟩
  · exact absurd (HH.out.symm.trans hf1) (by simp)
  clear hbs hf1
  have uc4 := c4; have uc5 := c5
  simp only [At, Own, Nat.reduceAdd, and_true] at uc4 uc5
  go_wp2
  refine bodyPost_ret (v := .tuple #[.agg #[.int .i64 0, .int .i64 0, .int .i64 0, .int .i64 0, .int .i64 0, .bool false], .bool false]) (by simp [results, Tryz.results30, go_sem, uc4, uc5]) rfl ⟨rfl, ?_⟩
  repeat (first | with_reducible exact hB6 | with_reducible refine bel_alloc ?_ _ | refine Below.setCell ?_ (by first | (simp; done) | (simp; omega) | omega) _)
end Go.Proofs.YtldfencaoaikgaaGreatDoor
