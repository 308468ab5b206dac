/-
 The law ConvexContains: the walk.
-/
import Derived.Test.YtdkkjfnpinckjaaGreatDoorWKnw
import Derived.Test.YtdkkjfnpinckjaaGreatDoorWMr
import Derived.Test.YtdkkjfnpinckjaaGreatDoorWMo
set_option maxRecDepth 100000
set_option linter.unusedSimpArgs false
set_option linter.unusedVariables false
namespace Go.Proofs.YtdkkjfnpinckjaaGreatDoor
open Go Go.RowKit

theorem wrapGo_len (S : List (Rat × Rat)) (f : Rat × Rat) : ∀ (n : Nat) (a : Rat × Rat), (Pl.wrapGo S f n a).length ≤ n
 | 0, _ => by simp [Pl.wrapGo]
 | n + 1, a => by
  rw [Pl.wrapGo]
  split
  ·simp
  ·have := wrapGo_len S f n (Pl.nxt S a)
   simp only [List.length_cons]; omega
theorem wrap_len (S : List (Rat × Rat)) : (Pl.wrap S).length ≤ S.length + 1 := by
 unfold Pl.wrap
 split
 ·simp
 ·exact wrapGo_len _ _ _ _
theorem wrap_sz {n : Nat} {S : List (Rat × Rat)} (h : ∀ q ∈ S, Pl.SzP n q) : ∀ q ∈ Pl.wrap S, Pl.SzP n q := fun q hq => h q ((Pl.wrap_isHull S).sub q hq)

theorem contains_any (v : Value) (l : List (Int × Int × Bool)) (s : Int × Int × Bool) (w : World) (h : TV w v l) (hs : ∀ s ∈ l, In8 s) (hn : l.length ≤ 9223372036854775807) (hsp : In8 s) :
 Calls Tryz.prog 3 #[v, .agg #[.int .i8 s.1, .int .i8 s.2.1, .bool s.2.2]] w fun e w' => e = .returned (.bool true) ∧ Below w.heap.size w w' := by
 have hpl := ptsOf_len l
 obtain ⟨S, hS⟩ : ∃ S, Pl.wrap (ptsOf l) = S := ⟨_, rfl⟩
 have HSW := Lib.hid hS
 have HSS : Hid (∀ q ∈ S, Pl.SzP 1 q) := Lib.hid (hS ▸ wrap_sz (ptsOf_sz hs))
 have HSN : Hid (S.length ≤ 1000000) := Lib.hid (by have := wrap_len (ptsOf l); rw [hS] at this; omega)
 have HIN : Hid (∀ q ∈ ptsOf l, 0 ≤ Pl.locR S q) := Lib.hid (fun q hq => Pl.locR_in (hS ▸ Pl.wrap_isHull (ptsOf l)) hq)
 clear hS
 go_enter Tryz.func3, Tryz.ntmps3
 have K1 := Lib.hid (fun W hb => points_any v l W (h.up hb) hs hn)
 go_wp2_with (fail)
 refine calls_named ?_
 intro W1 hW1
 have hL1 : Below w.heap.size w W1 := by
  rw [hW1]
  exact bB
 have c2 : Own W1 (w.heap.size) 0 [.int .i8 s.1, .int .i8 s.2.1, .bool s.2.2] := by
  rw [hW1]
  first
  | (repeat (first | (with_reducible refine own_new (l := [.int .i8 s.1, .int .i8 s.2.1, .bool s.2.2]) ?_; (simp; done)) | with_reducible refine Own.alloc ?_ _ | refine Own.far _ _ (by first | (simp; done) | (simp [*]; done) | (simp; omega)) ?_)); done
  | simp [Own, go_sem]
 have hB3 : Below w.heap.size w W1 := by
  rw [hW1]
  exact bB
 clear hW1 hL1
 with_reducible refine (K1.out _ hB3).mono ?_
 rintro e w1 ⟨v1, rfl, hv1, hb1⟩
 have c4 := c2.up hb1
 have hB5 : Below w.heap.size w w1 := bel_up hB3 hb1
 clear c2
 obtain ⟨l1, hl1⟩ : ∃ y_, y_ = ptsOf l := ⟨_, rfl⟩
 rw [← hl1] at hv1
 obtain ⟨A1, c1, rfl, hcc1, hmm1, hx1⟩ := hv1.open_
 have XX1 := Lib.hid hx1
 have HL1 := Lib.hid hl1
 clear hx1 hv1
 have hlen1 : l1.length = (ptsOf l).length := by rw [HL1.out]; done
 have hle1 : l1.length ≤ 1000000 := by rw [hlen1]; omega
 have HLEN1 := Lib.hid hlen1
 clear hl1 hlen1
 generalize hn1 : l1.length = N1 at *
 have HN1 := Lib.hid hn1
 clear hn1
 have HZ := Lib.hid (fun q hq => ptsOf_sz hs q (by rw [← HL1.out]; exact hq) : ∀ q ∈ l1, Pl.SzP 1 q)
 have K6 := Lib.hid (fun W hb => HSW.out ▸ set_any v l W (h.up hb) hs hn)
 have uc4 := c4
 simp only [At, Own, Nat.reduceAdd, and_true] at uc4
 go_wp2_with (fail)
 refine calls_named ?_
 intro W2 hW2
 have hL2 : Below w1.heap.size w1 W2 := by
  rw [hW2]
  exact bB
 have c7 := c4.up hL2
 have X8 := Lib.hid (LX.up XX1.out kpP hL2)
 have hB9 : Below w.heap.size w W2 := by
  rw [hW2]
  exact bB
 clear hW2 hL2 uc4 c4
 with_reducible refine (K6.out _ hB9).mono ?_
 rintro e w2 ⟨v2, rfl, hv2, hb2⟩
 have c10 := c7.up hb2
 have X11 := Lib.hid (LX.up X8.out kpP hb2)
 have hB12 : Below w.heap.size w w2 := bel_up hB9 hb2
 clear c7 X8
 have PW2 := Lib.hid hv2
 clear hv2
 have K13 := Lib.hid (fun W => known_any W)
 have K14 := Lib.hid (fun W => point_any s W hsp)
 have K15 := Lib.hid (fun va W (ha : PV W va S) => cloc_any va S (ptOf s) W ha HSS.out HSN.out (by decide : 1 ≤ 100000) (ptOf_sz hsp))
 have K16 := Lib.hid (fun va W (ha : PV W va S) => hloc_any va S (ptOf s) W ha HSS.out HSN.out (by decide : 1 ≤ 100000) (ptOf_sz hsp))
 go_wp2_with fail
 refine wp_named ?_
 intro W3 hW3
 have hL3 : Below w2.heap.size w2 W3 := by
  rw [hW3]
  exact bB
 have c17 := c10.up hL3
 have X18 := Lib.hid (LX.up X11.out kpP hL3)
 have PV19 := Lib.hid (PW2.out.up hL3)
 have hB20 : Below w.heap.size w W3 := by
  rw [hW3]
  exact bB
 clear hW3 hL3 c10 PW2
 have dc17 := fun p : Bel W3 => c17.bel p
 simp only [At, Own, Nat.reduceAdd, and_true] at dc17
 refine wp_region_all (by kernel_rfl) (by kernel_rfl) ?_
 repeat (go_big_quiet_step (first | (go_at_call 17; with_reducible exact Calls.bel (K13.out _)) | (go_at_call 19; with_reducible exact Calls.bel (K14.out _)) | (go_at_call 18; with_reducible exact Calls.bel (K15.out _ _ (PV19.out.up (Bel.h _)))) | (go_at_call 20; with_reducible exact Calls.bel (K16.out _ _ (PV19.out.up (Bel.h _))))))
 refine wpQuiet_nil ?_
 intro w3 hb3
 have c21 := c17.up hb3
 have X22 := Lib.hid (LX.up X18.out kpP hb3)
 have PV23 := Lib.hid (PV19.out.up hb3)
 have hB24 : Below w.heap.size w w3 := bel_up hB20 hb3
 clear dc17 c17 X18 PV19
 have uc21 := c21
 simp only [At, Own, Nat.reduceAdd, and_true] at uc21
 go_wp2_with fail
 go_loopw [7] (fun s7 wr => ∃ (k : Nat), s7 = .int .i64 k ∧ LX CE 8 wr A1 l1 ∧ PV wr v2 S ∧ Below w.heap.size w wr ∧ k ≤ N1) (fun s7 _ => N1 - (intOf s7).toNat)
 case atStart => exact ⟨0, rfl, X22.out, PV23.out, hB24, (by omega)⟩
 case round =>
  clear hB24 uc21 PV23
  obtain ⟨k, rfl, X25, Q26, hB27, hk⟩ := hrel
  obtain ⟨wr28, hwr28⟩ : ∃ W_, W_ = wr := ⟨_, rfl⟩
  subst hwr28
  have XX29 := Lib.hid X25
  clear X25
  have QQ30 := Lib.hid Q26
  clear Q26
  by_cases hltk : k < N1
  ·skip
   have i1k : (k : Int) < N1 := by omega
   obtain ⟨x31, hx32⟩ : ∃ x, l1[k]? = some x := ⟨_, List.getElem?_eq_getElem (by rw [HN1.out]; omega)⟩
   have Hhx32 := Lib.hid hx32
   have Zhx32 := Lib.hid (HZ.out _ (List.mem_of_getElem? hx32))
   clear hx32
   have hge : ¬ Pl.locR S x31 < 0 := by have := HIN.out x31 (by rw [← HL1.out]; exact List.mem_of_getElem? Hhx32.out); omega
   obtain ⟨g34, o35, ha36, -⟩ := XX29.out _ _ Hhx32.out
   subst ha36
   have ce33 := LX.at_ (XX29.out) Hhx32.out
   have ce33_ : g34 < wr28.heap.size := World.block_lt_of_cell? _ _ ce33.1
   have uce33 := ce33
   simp only [CE, Nat.reduceMul] at uce33
   have K37 := Lib.hid (fun va W (ha : PV W va S) => cloc_any va S x31 W ha HSS.out HSN.out (by decide : 1 ≤ 100000) Zhx32.out)
   go_wp2_with (fail)
   refine calls_named ?_
   intro W4 hW4
   have hL4 : Below wr28.heap.size wr28 W4 := by
    rw [hW4]
    exact bB
   have X38 := Lib.hid (LX.up XX29.out kpP hL4)
   have PV39 := Lib.hid (QQ30.out.up hL4)
   have hB40 : Below w.heap.size w W4 := by
    rw [hW4]
    exact bB
   clear hW4 hL4 uce33 QQ30
   with_reducible refine (K37.out _ _ PV39.out).mono ?_
   rintro e w4 ⟨rfl, hb4⟩
   have X41 := Lib.hid (LX.up X38.out kpP hb4)
   have PV42 := Lib.hid (PV39.out.up hb4)
   have hB43 : Below w.heap.size w w4 := bel_up hB40 hb4
   clear X38 PV39
   go_wp2
   go_roundw
   case rel => exact ⟨(k + 1), (by first | rfl | exact congrArg (Value.int .i64) (by omega) | simp [*]), X41.out, PV42.out, (by exact bB), (by omega)⟩
   case measure => simp [intOf] <;> omega
  ·skip
   have hkN : N1 = k := by omega
   subst hkN
   go_wp2
   go_ret
   refine ⟨rfl, ?_⟩
   exact bB
end Go.Proofs.YtdkkjfnpinckjaaGreatDoor
